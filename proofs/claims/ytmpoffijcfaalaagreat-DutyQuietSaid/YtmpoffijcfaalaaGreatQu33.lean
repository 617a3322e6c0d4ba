/- Part 33 of the proof of dutyQuiet_holds: DutS5, DutW13. Every text below begins with what it shows. -/
import Derived.Test.YtmpoffijcfaalaaGreatQu32

/- What the references tell, more. No program. -/

namespace Go.YtmpoffijcfaalaaGreat
open Go.Eng

theorem plain_len {α : Type} [DecidableEq α] {x y : List α} (h : x.length ≠ y.length) : decide (x = y) = false := decide_eq_false (fun e => h (by rw [e]))
theorem plain_at {α : Type} [DecidableEq α] [Inhabited α] {x y : List α} (i : Nat) (h : x.getD i default ≠ y.getD i default) : decide (x = y) = false := decide_eq_false fun e => h (by rw [e])
theorem plain_all {α : Type} [DecidableEq α] [Inhabited α] {x y : List α} (hl : x.length = y.length) (h : ∀ j, j < x.length → x.getD j default = y.getD j default) : decide (x = y) = true := by
  refine decide_eq_true (List.ext_getElem hl fun i h1 h2 => ?_)
  have := h i h1
  simpa [List.getD, List.getElem?_eq_getElem h1, List.getElem?_eq_getElem h2] using this
def sameAcc (x y : TAccount) : Bool := decide (x.fKey = y.fKey) && decide (x.fSpan = y.fSpan) && decide (x.fBase = y.fBase) && decide (x.fRound = y.fRound) && decide (x.fHolders = y.fHolders) && decide (x.fLock = y.fLock)
theorem I0 : InI 0 := ⟨by decide, by decide⟩
def zacc : TAccount := ⟨ByteArray.empty, ⟨0, 0⟩, 0, 0, [], ⟨0, 0, 0, 0⟩⟩
def new15 (k : ByteArray) : TAccount := ⟨if okKey k = true then k else ByteArray.empty, ⟨0, 0⟩, 0, 0, [], ⟨0, 0, 0, 0⟩⟩
theorem new15_wf (k : ByteArray) : (new15 k).wf := by
  refine ⟨?_, ⟨I0, I0⟩, I0, I0, trivial, I0, I0, I0, I0⟩
  show (if okKey k = true then k else ByteArray.empty).size ≤ _
  split
  · rename_i h
    simp only [okKey, Bool.and_eq_true, decide_eq_true_eq] at h
    omega
  · decide
def newE (k : ByteArray) : Int := if okKey k = true then 0 else 1
def plain15 (a : TAccount) : Bool := decide (newE a.fKey = 0) && sameAcc a (new15 a.fKey)
def may19a (o : TOp) : Bool := decide (o.fKind < 1) || decide (o.fKind > 6) || !okKey o.fKey
def may19b (o : TOp) : Bool := (decide (o.fKind = 1) || decide (o.fKind = 2) || decide (o.fKind = 6)) && decide (o.fN < 1)
def may19 (o : TOp) : Bool := if may19a o = true then false else if may19b o = true then false else (!decide (o.fKind = 6)) || (okKey o.fOther && (!decide (o.fOther = o.fKey)))
def op22 (o : TOp) : TOp := if o.fKind = 1 then ⟨o.fKind, o.fKey, ByteArray.empty, o.fN, 0, 0⟩ else if o.fKind = 2 then ⟨o.fKind, o.fKey, ByteArray.empty, o.fN, 0, 0⟩ else if o.fKind = 5 then ⟨o.fKind, o.fKey, ByteArray.empty, 0, o.fLo, o.fHi⟩ else if o.fKind = 6 then ⟨o.fKind, o.fKey, o.fOther, o.fN, 0, 0⟩ else ⟨o.fKind, o.fKey, ByteArray.empty, 0, 0, 0⟩
def opm (o : TOp) : TOp := if o.fKind = 7 then { o with fKind := 4 } else if o.fKind = 8 then { o with fKind := 4 } else o

def accS (f : THolder → Int) (b : Int) (l : List THolder) : Nat → Int
  | 0 => b
  | i + 1 => accS f b l i + f (l.getD i default)
def accN (f : THolder → Int) (b : Int) (l : List THolder) : Nat → Int
  | 0 => b
  | i + 1 => accN f b l i - f (l.getD i default)
theorem accS_sum (f : THolder → Int) (b : Int) (l : List THolder) : ∀ i, accS f b l i = (listS f b l i).sum
  | 0 => by simp [accS, listS]
  | i + 1 => by rw [accS, listS, List.sum_append_int, accS_sum f b l i]; simp
theorem accN_sum (f : THolder → Int) (b : Int) (l : List THolder) : ∀ i, accN f b l i = (listS (fun h => -f h) b l i).sum
  | 0 => by simp [accN, listS]
  | i + 1 => by
    rw [accN, listS, List.sum_append_int, accN_sum f b l i]
    simp only [List.sum_cons, List.sum_nil]
    omega
theorem accS_bd {f : THolder → Int} {b : Int} {l : List THolder} (hb : InI b) (h : ∀ x ∈ l, InI (f x)) : ∀ i, i ≤ l.length → -(((i : Int) + 1) * 9223372036854775808) ≤ accS f b l i ∧ accS f b l i ≤ ((i : Int) + 1) * 9223372036854775808
  | 0, _ => by obtain ⟨h1, h2⟩ := hb; simp only [accS]; omega
  | i + 1, hi => by
    have ih := accS_bd hb h i (by omega)
    obtain ⟨h1, h2⟩ := h _ (getD_mem (l := l) (i := i) (by omega))
    simp only [accS]
    omega
theorem accN_bd {f : THolder → Int} {b : Int} {l : List THolder} (hb : InI b) (h : ∀ x ∈ l, InI (f x)) : ∀ i, i ≤ l.length → -(((i : Int) + 1) * 9223372036854775808) ≤ accN f b l i ∧ accN f b l i ≤ ((i : Int) + 1) * 9223372036854775808
  | 0, _ => by obtain ⟨h1, h2⟩ := hb; simp only [accN]; omega
  | i + 1, hi => by
    have ih := accN_bd hb h i (by omega)
    obtain ⟨h1, h2⟩ := h _ (getD_mem (l := l) (i := i) (by omega))
    simp only [accN]
    omega
theorem accS_ups (a : TAccount) : accS (fun h => h.fUp) a.fBase a.fHolders a.fHolders.length = upsS a := by rw [accS_sum, listS_ups]
theorem accN_downs (a : TAccount) : accN (fun h => h.fDown) a.fBase a.fHolders a.fHolders.length = downsS a := by rw [accN_sum, listS_downs]
theorem lim6 {x : Int} {i : Nat} (hi : i ≤ 5) (h : -(((i : Int) + 1) * 9223372036854775808) ≤ x ∧ x ≤ ((i : Int) + 1) * 9223372036854775808) : BV x := by unfold BV; omega
theorem ups_BV {a : TAccount} (hw : a.wf) (hW : ∀ x ∈ a.fHolders, x.wf) (hh : holdersP a.fHolders = true) : BV (upsS a) := by
  rw [← accS_ups]
  exact lim6 (hold_len hh) (accS_bd hw.2.2.1 (fun x hx => (hW x hx).2.2.1) _ (Nat.le_refl _))
theorem downs_BV {a : TAccount} (hw : a.wf) (hW : ∀ x ∈ a.fHolders, x.wf) (hh : holdersP a.fHolders = true) : BV (downsS a) := by
  rw [← accN_downs]
  exact lim6 (hold_len hh) (accN_bd hw.2.2.1 (fun x hx => (hW x hx).2.2.2) _ (Nat.le_refl _))
theorem sum2_BW {a : TAccount} (h : a.wf) : BW (a.fBase + a.fLock.fN) := by
  obtain ⟨h1, h2⟩ := h.2.2.1
  obtain ⟨h3, h4⟩ := h.2.2.2.2.2.2.2.2
  unfold BW
  omega
def r15a (a : TAccount) : Bool := !okKey a.fKey || !hasP a.fSpan a.fBase || decide (a.fRound < 0)
def r15b (a : TAccount) : Bool := aboveP (upsS a) a.fSpan.fHi || decide ((wide (downsS a - a.fSpan.fLo)).fHi < 0)
def fits15 (a : TAccount) : Bool := hasP a.fSpan (IntKind.i64.wrap ((a.fBase + a.fLock.fN) % 18446744073709551616))
def right15 (a : TAccount) : Bool := if r15a a = true then false else if holdersP a.fHolders = true then (if r15b a = true then false else if decide (a.fLock.fClient = 0) = true then decide (a.fLock = ⟨0, 0, 0, 0⟩) else keeperP a.fLock && decide ((a.fHolders.length : Int) = 0) && sumOk (a.fBase + a.fLock.fN) && fits15 a) else false
def risj (l : List TAccount) (j : Nat) : Bool := !right15 (l.getD j default) || plain15 (l.getD j default) || (decide ((j : Int) > 0) && leB (l.getD j default).fKey (l.getD ((j : Int) - 1).toNat default).fKey)
def rising19 (l : List TAccount) : Bool := if allI l.length (fun j => !risj l j) = true then decide ((l.length : Int) ≤ 12) else false

def q19a (s : TState) : Bool := !okGroup s.fGroup || !okNum s.fIndex || !okNum s.fEpoch || !okNum s.fAbsorbed || !okNum s.fRefused || !okNum s.fUndone
def q19b (s : TState) : Bool := ((!s.fOwns) && ((!decide (s.fLo = ByteArray.empty)) || (!decide (s.fHi = ByteArray.empty)) || decide ((s.fAccounts.length : Int) > 0) || decide ((s.fWaits.length : Int) > 0) || (!decide (s.fSeal = ⟨0, 0, 0, ByteArray.empty, ByteArray.empty, 0, 0⟩)))) || (s.fOwns && (decide (s.fEpoch < 1) || !spansP s.fLo s.fHi))
def q19c (s : TState) : Bool := !rising19 s.fAccounts || !marks14 s.fMarks || !books18 s.fDeals || !ends18 s.fEnds || decide ((s.fWaits.length : Int) > 8)
def q19d (s : TState) : Bool := (!decide (s.fSeal = ⟨0, 0, 0, ByteArray.empty, ByteArray.empty, 0, 0⟩)) && (!plan19 s.fSeal || !decide (s.fSeal.fFrom = s.fGroup) || !decide (s.fSeal.fHi = s.fHi) || !ownsP s s.fSeal.fLo)
def q19e (s : TState) : Bool := decide ((rdState s.fImage).2 = 0) && plan19 s.fOut && decide (s.fOut.fFrom = s.fGroup)
def accs19 (s : TState) : Bool := allI s.fAccounts.length (fun j => ownsP s (s.fAccounts.getD j default).fKey)
def waits19 (s : TState) : Bool := allI s.fWaits.length (fun j => wait19 s (s.fWaits.getD j default))
def sright19 (s : TState) : Bool := if q19a s = true then false else if q19b s = true then false else if q19c s = true then false else if accs19 s = true then (if waits19 s = true then (if q19d s = true then false else if decide (s.fOut = ⟨0, 0, 0, ByteArray.empty, ByteArray.empty, 0, 0⟩) = true then decide ((s.fImage.length : Int) = 0) else q19e s) else false) else false
def r22a (v : TScene) : Bool := ((!decide (v.fNodes = 1)) && (!decide (v.fNodes = 3)) && (!decide (v.fNodes = 5))) || decide (v.fNode < 1) || decide (v.fNode > v.fNodes) || !right20 v.fChart || !decide ((v.fStates.length : Int) = 7) || !rights16 v.fRights
def r22j (v : TScene) (j : Nat) : Bool := (!decide ((v.fStates.getD j default).fGroup = (j : Int) + 1)) || !sright19 (v.fStates.getD j default)
def right22 (v : TScene) : Bool := if r22a v = true then false else allI v.fStates.length (fun j => !r22j v j)

def zop : TOp := ⟨0, ByteArray.empty, ByteArray.empty, 0, 0, 0⟩
def plainB (o : TOp) : Bool := if okKey o.fKey = true then (if o.fKind = 1 then decide (o.fN ≥ 1) else if o.fKind = 2 then decide (o.fN ≥ 1) else if o.fKind = 6 then decide (o.fN ≥ 1) && okKey o.fOther && (!decide (o.fOther = o.fKey)) else if o.fKind = 5 then true else if o.fKind = 3 then true else if o.fKind = 4 then true else if o.fKind = 7 then true else if o.fKind = 8 then true else false) else false
def plainO (o : TOp) : TOp := if okKey o.fKey = true then (if o.fKind = 1 then ⟨o.fKind, o.fKey, ByteArray.empty, o.fN, 0, 0⟩ else if o.fKind = 2 then ⟨o.fKind, o.fKey, ByteArray.empty, o.fN, 0, 0⟩ else if o.fKind = 6 then ⟨o.fKind, o.fKey, o.fOther, o.fN, 0, 0⟩ else if o.fKind = 5 then ⟨o.fKind, o.fKey, ByteArray.empty, 0, o.fLo, o.fHi⟩ else if o.fKind = 3 then ⟨o.fKind, o.fKey, ByteArray.empty, 0, 0, 0⟩ else if o.fKind = 4 then ⟨o.fKind, o.fKey, ByteArray.empty, 0, 0, 0⟩ else if o.fKind = 7 then ⟨o.fKind, o.fKey, ByteArray.empty, 0, 0, 0⟩ else if o.fKind = 8 then ⟨o.fKind, o.fKey, ByteArray.empty, 0, 0, 0⟩ else zop) else zop

def zcmd : TCommand := ⟨0, 0, 0, 0, 0, 0, ByteArray.empty, 0, 0, 0, false, zop, ⟨0, 0, 0, ByteArray.empty, ByteArray.empty, 0, 0⟩, []⟩
def sameCmd (x y : TCommand) : Bool := decide (x.fKind = y.fKind) && decide (x.fClient = y.fClient) && decide (x.fSeq = y.fSeq) && decide (x.fEpoch = y.fEpoch) && decide (x.fNode = y.fNode) && decide (x.fHome = y.fHome) && decide (x.fKey = y.fKey) && decide (x.fLease = y.fLease) && decide (x.fRound = y.fRound) && decide (x.fNet = y.fNet) && decide (x.fYes = y.fYes) && decide (x.fOp = y.fOp) && decide (x.fPlan = y.fPlan) && decide (x.fImage = y.fImage)
def dr1 (c q : Int) (o : TOp) : Bool := !plainB o || decide (c < 1) || decide (c > 8) || decide (q < 1) || decide (q > far)
def isPlan (o : TOp) : Bool := decide (o.fKind = 7) || decide (o.fKind = 8)
def cmdP (c q : Int) (o : TOp) : TCommand := ⟨12, c, q, 0, 0, 0, ByteArray.empty, 0, 0, 0, false, o, ⟨0, 0, 0, ByteArray.empty, ByteArray.empty, 0, 0⟩, []⟩
def cmdO (e n c q : Int) (o : TOp) : TCommand := ⟨1, c, q, e, n, 0, ByteArray.empty, 0, 0, 0, false, o, ⟨0, 0, 0, ByteArray.empty, ByteArray.empty, 0, 0⟩, []⟩
def plOf (v : TScene) (j : Nat) : TPlace := v.fChart.fPlaces.getD j default
def routeG (v : TScene) (c q : Int) (o : TOp) : Int := if drightP v = true then (if dr1 c q o = true then 0 else if isPlan (plainO o) = true then 0 else (plOf v (findP v.fChart.fPlaces (plainO o).fKey)).fGroup) else 0
def routeC (v : TScene) (c q : Int) (o : TOp) : TCommand := if drightP v = true then (if dr1 c q o = true then zcmd else if isPlan (plainO o) = true then cmdP c q (plainO o) else cmdO (plOf v (findP v.fChart.fPlaces (plainO o).fKey)).fEpoch v.fNode c q (plainO o)) else zcmd
def routeE (v : TScene) (c q : Int) (o : TOp) : Int := if drightP v = true then (if dr1 c q o = true then 1 else 0) else 21
def rr1 (c q : Int) (o : TOp) : Bool := !okClient c || !okSeq q || !may19 (opm o)
def rouG (v : TScene) (c q : Int) (o : TOp) : Int := if right22 v = true then (if rr1 c q o = true then 0 else if isPlan o = true then 0 else (plOf v (find17 v.fChart.fPlaces o.fKey)).fGroup) else 0
def rouC (v : TScene) (c q : Int) (o : TOp) : TCommand := if right22 v = true then (if rr1 c q o = true then zcmd else if isPlan o = true then cmdP c q (op22 o) else cmdO (plOf v (find17 v.fChart.fPlaces o.fKey)).fEpoch v.fNode c q (op22 o)) else zcmd
def rouE (v : TScene) (c q : Int) (o : TOp) : Int := if right22 v = true then (if rr1 c q o = true then 1 else 0) else 21
theorem dright_places {v : TScene} (h : drightP v = true) : 0 < v.fChart.fPlaces.length := by
  unfold drightP at h
  split at h
  · cases h
  · split at h
    · simp only [Bool.and_eq_true, errF_ok] at h
      have h1 := h.1
      unfold planP at h1
      split at h1
      · cases h1
      · split at h1
        · cases h1
        · rename_i hn
          simp only [plan2, Bool.or_eq_true, not_or, Bool.not_eq_true', errF_ok, Bool.not_eq_false] at hn
          have h2 := hn.1
          unfold rplacesP at h2
          split at h2
          · cases h2
          · rename_i hm
            simp only [rpl1, Bool.or_eq_true, decide_eq_true_eq, not_or] at hm
            have := hm.1
            omega
    · cases h
def place1 : TPlace := ⟨1, ByteArray.empty, 1⟩
theorem I1 : InI 1 := ⟨by decide, by decide⟩
theorem place1_wf : place1.wf := ⟨I1, by decide, I1⟩
def chart1 : TChart := ⟨0, [place1], 2, 0, ⟨0, 0, 0, ByteArray.empty, ByteArray.empty, 0, 0⟩, []⟩
theorem zplan_wf : TPlan.wf ⟨0, 0, 0, ByteArray.empty, ByteArray.empty, 0, 0⟩ := ⟨I0, I0, I0, by decide, by decide, I0, I0⟩
theorem chart1_wf : chart1.wf := ⟨I0, trivial, ⟨by decide, by decide⟩, I0, zplan_wf, trivial⟩
def newS (n : Int) : TState := ⟨if okGroup n = true then n else 0, 0, okGroup n && decide (n = 1), ByteArray.empty, ByteArray.empty, if okGroup n = true then (if n = 1 then 1 else 0) else 0, [], [], [], [], [], ⟨0, 0, 0, ByteArray.empty, ByteArray.empty, 0, 0⟩, ⟨0, 0, 0, ByteArray.empty, ByteArray.empty, 0, 0⟩, [], 0, 0, 0⟩
theorem newS_wf {n : Int} (h : InI n) : (newS n).wf := by
  refine ⟨?_, I0, trivial, (by show ByteArray.empty.size ≤ _; decide), (by show ByteArray.empty.size ≤ _; decide), ?_, trivial, trivial, trivial, trivial, trivial, zplan_wf, zplan_wf, trivial, I0, I0, I0⟩
  · show InI (if okGroup n = true then n else 0)
    split
    · exact h
    · exact I0
  · show InI (if okGroup n = true then (if n = 1 then 1 else 0) else 0)
    split
    · split
      · exact I1
      · exact I0
    · exact I0
def stsN : Nat → List TState
  | 0 => []
  | i + 1 => stsN i ++ [newS ((i : Int) + 1)]
theorem stsN_len : ∀ i, (stsN i).length = i
  | 0 => rfl
  | i + 1 => by simp [stsN, stsN_len i]
def scene1 (a b : Int) : TScene := ⟨a, b, chart1, stsN 7, [], []⟩
theorem scene1_wf {a b : Int} (ha : InI a) (hb : InI b) : (scene1 a b).wf := ⟨ha, hb, chart1_wf, trivial, trivial, trivial⟩
def zscene : TScene := ⟨0, 0, ⟨0, [], 0, 0, ⟨0, 0, 0, ByteArray.empty, ByteArray.empty, 0, 0⟩, []⟩, [], [], []⟩
theorem zscene_wf : zscene.wf := ⟨I0, I0, ⟨I0, trivial, I0, I0, zplan_wf, trivial⟩, trivial, trivial, trivial⟩
def opA : TOp := ⟨4, ⟨#[97]⟩, ByteArray.empty, 0, 0, 0⟩
theorem opA_wf : opA.wf := ⟨⟨by decide, by decide⟩, by decide, by decide, I0, I0, I0⟩
def awakeB : Bool := drightP (scene1 1 3) && (!drightP zscene) && decide (routeG (scene1 1 3) 1 1 opA = 1) && decide ((routeC (scene1 1 3) 1 1 opA).fKind = 1) && decide (routeE (scene1 1 3) 1 1 opA = 0)
end Go.YtmpoffijcfaalaaGreat

/- Walks, written by specs6.py. -/

namespace Go.Proofs.YtmpoffijcfaalaaGreat
open Go.Eng Go.YtmpoffijcfaalaaGreat
set_option maxHeartbeats 1000000

theorem eq_Holder : EqTy Tryz.prog 165 cHolder := by
 refine ⟨by kernel_rfl, fun a b w => ?_⟩
 rw [run_equalIn_struct w 9999 165 _ _ (by simp only [Program.fieldsOf, Tryz.underlying165]) (by kernel_rfl)]
 simp only [Program.fieldsOf, Tryz.underlying165]
 refine Eq.trans (eqG G Tryz.underlying3 G G G (eqFi Tryz.underlying3 _ _) (fun w => eqG G Tryz.underlying3 G G G (eqFi Tryz.underlying3 _ _) (fun w => eqG G Tryz.underlying3 G G G (eqFi Tryz.underlying3 _ _) (fun w => eqG G Tryz.underlying3 G G G (eqFi Tryz.underlying3 _ _) (fun w => eqF0 w))))) ?_
 congr 1
 obtain ⟨a0, a1, a2, a3⟩ := a
 obtain ⟨b0, b1, b2, b3⟩ := b
 simp [THolder.mk.injEq, Bool.and_assoc]

theorem locked15_c (l : TLock) (h_l : l.wf) : FnV Tryz.prog 230 [.agg (cLock l).toArray] [] (.bool (keeperP l)) := by
 refine Fnc.proof Tryz.func230 G 21 G G fun X w => sq<|rg<|bx G G G fun b1 => asg G G<|nl<|nx<|sq<|rg<|fa G fld_68_0 G<|ldB 0 G G one_3 G G<|geI G G G<|mv G G ?_
 apply jo [(1, _)] ⟨rfl, trivial⟩
 ·
  intro K10
  refine spA (i := 6) G (fun h6 => ?_) (fun h6 => ?_)
  ·
   have p6 := of_decide_eq_true h6
   exact gY G G G<|fa G fld_68_1 G<|gY G G G<|ldB 0 G G one_3 G G<|gY G G G<|geI G G G<|pkT G G G<|jA K10 h6 ⟨G, trivial⟩ Sr
  ·
   exact gS (g := [_, _, _]) G<|pkF G G G<|jA0 K10 h6 ⟨G, trivial⟩ Sr
 refine mv G G ?_
 apply jo [(1, _)] ⟨rfl, trivial⟩
 ·
  intro K15
  refine spA (i := 11) G (fun h11 => ?_) (fun h11 => ?_)
  ·
   exact gY G G G<|fa G fld_68_2 G<|gY G G G<|ldB 0 G G one_3 G G<|gY G G G<|geI G G G<|pkT G G G<|jA K15 h11 ⟨G, trivial⟩ Sr
  ·
   exact gS (g := [_, _, _]) G<|pkF G G G<|jA0 K15 h11 ⟨G, trivial⟩ Sr
 refine mv G G ?_
 apply jo [] trivial
 ·
  intro K20
  refine spA (i := 16) G (fun h16 => ?_) (fun h16 => ?_)
  ·
   exact gY G G G<|fa G fld_68_2 G<|gY G G G<|ldB 0 G G one_3 G G<|gY G G G<|ltI G G G<|pkT G G G<|jA K20 h16 trivial Sr
  ·
   exact gS (g := [_, _, _]) G<|pkF G G G<|jA0 K20 h16 trivial Sr
 refine asg G G<|nl<|nx<|rt<|dpQ ?_
 exact fR1 () G G (by rfl) G Sn

theorem plainHolder_c (v_x : Value) (x : List THolder) (v_y : Value) (y : List THolder) : FnV Tryz.prog 197 [v_x, v_y] [⟨v_x, x⟩, ⟨v_y, y⟩] (.bool (decide (x = y))) := by
 refine Fnc.proof Tryz.func197 G 26 G G fun X w => gtC (q := x.length ≤ 9223372036854775807) (fun S w h => list_len (h _ (List.mem_of_getElem? (i := 0) G))) fun hlx => gtC (q := y.length ≤ 9223372036854775807) (fun S w h => list_len (h _ (List.mem_of_getElem? (i := 1) G))) fun hly => sq<|rg<|asg G G<|nl<|nx<|sq<|sq<|rg<|mv G G<|lnP 0 G G Tryz.underlying66 G fun l7 => mv G G ?_
 refine lnP 1 G G Tryz.underlying66 G fun l9 => neI G G G<|nl<|nx<|cdN G (fun h10 => ?_) (fun h10 => ?_)
 ·
  refine sq<|rg<|asg G G<|nl<|nx<|rt<|tR ?_
  exact fR1 () G G (by rw [plain_len (by omega)]) G Sn
 ·
  have hl : x.length = y.length := by omega
  refine sk<|nx<|sq<|sq<|rg<|asg G G<|nl<|nx<|bk<|lpC (σ := Nat) [(0, _), (1, _)] _ (fun i C => (5, .int .i64 (i : Int)) :: C) (fun i => i ≤ x.length ∧ (∀ j, j < i → x.getD j default = y.getD j default)) (fun i => x.length - i) 0 ⟨G, G, trivial⟩ (Sc 0 G (Sc 1 G Sn)) ⟨Nat.zero_le _, fun j hj => absurd hj (Nat.not_lt_zero j)⟩ ⟨G, G, G, trivial⟩ ?_
  rintro i ⟨hi, hall⟩
  refine sq<|sq<|rg<|mv G G<|mv G G<|lnP 0 G G Tryz.underlying66 G fun l13 => ltI G G G<|nl<|nx<|cdP G (fun h14 => ?_) (fun h14 => ?_)
  ·
   refine sk<|nx<|sq<|bk<|sq<|rgQ mixed (by kernel_rfl)<|mv G G<|mv G G<|ixP 0 G G G slt_66 (by omega) (getDE (d := default) (by omega)) G fun v19 => ldS 0 G G row_165 G fun q20 w20 => ?_
   refine mv G G<|mv G G<|ixP 3 G G G slt_66 (by omega) (getDE (d := default) (by omega)) G fun v23 => ldS 0 G G row_165 G fun q24 w24 => ?_
   refine neT eq_Holder ((x.getD i default)) ((y.getD i default)) G G G<|nlQ<|nx<|cdN G (fun h25 => ?_) (fun h25 => ?_)
   ·
    refine sq<|rg<|asg G G<|nl<|nx<|rt<|bR<|tR<|tR<|bR<|tR ?_
    exact fR1 () G G (by rw [plain_at i (by simpa using h25)]) G Sn
   ·
    refine sk<|bN<|nx<|rg<|mv G G<|adI G G (inI (by omega) (by omega)) G<|asg G G<|nl ?_
    exact ag (i + 1) ⟨(by omega), (all_snoc hall (by simpa using h25))⟩ (by omega) ⟨G, G, G, trivial⟩ G (Sc 4 G (Sc 5 G Sn))
  ·
   refine ex<|tE<|tE<|bE<|nx<|sq<|rg<|asg G G<|nl<|nx<|rt ?_
   exact fR1 () G G (by rw [plain_all hl (fun j hj => hall j (by omega))]) G Sn

theorem sameAcc_c (x : TAccount) (x_0 : Value) (y : TAccount) (y_0 : Value) (h_x : x.wf) (h_y : y.wf) : FnV Tryz.prog 142 [.agg (cAccount x x_0).toArray, .agg (cAccount y y_0).toArray] [⟨x_0, x.fHolders⟩, ⟨y_0, y.fHolders⟩] (.bool (sameAcc x y)) := by
 refine Fnc.proof Tryz.func142 G 45 G G fun X w => sq<|rg<|bx G G G fun b2 => bx G G G fun b3 => asg G G<|nl<|nx<|sq<|rg<|fa G fld_70_0 G<|ldB 1 G G one_9 G G<|fa G fld_70_0 G<|ldB 0 G G one_9 G G ?_
 refine eqS G G G<|mv G G ?_
 apply jo [(2, _), (3, _)] ⟨rfl, rfl, trivial⟩
 ·
  intro K16
  refine spA (i := 10) G (fun h10 => ?_) (fun h10 => ?_)
  ·
   have p10 := of_decide_eq_true h10
   exact gY G G G<|fa G fld_70_1 G<|gY G G G<|ldM 1 (cSpan x.fSpan) G G row_65 G G<|gY G G G<|fa G fld_70_1 G<|gY G G G<|ldM 0 (cSpan y.fSpan) G G row_65 G G<|gY G G G<|eqT eq_Span (x.fSpan) (y.fSpan) G G G<|pkT G G G<|jA K16 h10 ⟨G, G, trivial⟩ Sr
  ·
   exact gS (g := [_, _, _, _, _]) G<|pkF G G G<|jA0 K16 h10 ⟨G, G, trivial⟩ Sr
 refine mv G G ?_
 apply jo [(2, _), (3, _)] ⟨rfl, rfl, trivial⟩
 ·
  intro K23
  refine spA (i := 17) G (fun h17 => ?_) (fun h17 => ?_)
  ·
   exact gY G G G<|fa G fld_70_2 G<|gY G G G<|ldB 1 G G one_3 G G<|gY G G G<|fa G fld_70_2 G<|gY G G G<|ldB 0 G G one_3 G G<|gY G G G<|eqI G G G<|pkT G G G<|jA K23 h17 ⟨G, G, trivial⟩ Sr
  ·
   exact gS (g := [_, _, _, _, _]) G<|pkF G G G<|jA0 K23 h17 ⟨G, G, trivial⟩ Sr
 refine mv G G ?_
 apply jo [(2, _), (3, _)] ⟨rfl, rfl, trivial⟩
 ·
  intro K30
  refine spA (i := 24) G (fun h24 => ?_) (fun h24 => ?_)
  ·
   exact gY G G G<|fa G fld_70_3 G<|gY G G G<|ldB 1 G G one_3 G G<|gY G G G<|fa G fld_70_3 G<|gY G G G<|ldB 0 G G one_3 G G<|gY G G G<|eqI G G G<|pkT G G G<|jA K30 h24 ⟨G, G, trivial⟩ Sr
  ·
   exact gS (g := [_, _, _, _, _]) G<|pkF G G G<|jA0 K30 h24 ⟨G, G, trivial⟩ Sr
 refine mv G G ?_
 apply jo [(2, _), (3, _)] ⟨rfl, rfl, trivial⟩
 ·
  intro K37
  refine spA (i := 31) G (fun h31 => ?_) (fun h31 => ?_)
  ·
   exact gY G G G<|fa G fld_70_4 G<|gY G G G<|ldB 1 G G one_66 G G<|gY G G G<|fa G fld_70_4 G<|gY G G G<|ldB 0 G G one_66 G G<|gY G G G<|cfv (plainHolder_c _ _ _ _) ok_197 G (Sc 0 G (Sc 1 G Sn)) G<|pkT G G G<|jA K37 h31 ⟨G, G, trivial⟩ Sr
  ·
   exact gS (g := [_, _, _, _, _]) G<|pkF G G G<|jA0 K37 h31 ⟨G, G, trivial⟩ Sr
 refine mv G G ?_
 apply jo [] trivial
 ·
  intro K44
  refine spA (i := 38) G (fun h38 => ?_) (fun h38 => ?_)
  ·
   exact gY G G G<|fa G fld_70_5 G<|gY G G G<|ldM 1 (cLock x.fLock) G G row_68 G G<|gY G G G<|fa G fld_70_5 G<|gY G G G<|ldM 0 (cLock y.fLock) G G row_68 G G<|gY G G G<|eqT eq_Lock (x.fLock) (y.fLock) G G G<|pkT G G G<|jA K44 h38 trivial Sr
  ·
   exact gS (g := [_, _, _, _, _]) G<|pkF G G G<|jA0 K44 h38 trivial Sr
 refine asg G G<|nl<|nx<|rt<|dpQ<|dpQ ?_
 exact fR1 () G G (by rfl) G Sn

theorem new15_c (k : ByteArray) : FnV Tryz.prog 236 [.string k] [] (.tuple #[.agg (cAccount (new15 k) (.slice none 0 0)).toArray, .int .i64 (newE k)]) := by
 refine Fnc.proof Tryz.func236 G 10 G G fun X w => sq<|rg<|al zero_70 G fun b2 => asg G G<|nl<|nx<|sq<|sq<|rg<|mv G G<|cfv (key15_c _) ok_168 G Sn G<|nt G G<|nl ?_
 refine nx<|cdB G (fun h6 => ?_) (fun h6 => ?_)
 ·
  exact sq<|rg<|bd (ps := []) (cs := (cAccount ((⟨ByteArray.empty, (⟨0, 0⟩ : TSpan), 0, 0, [], (⟨0, 0, 0, 0⟩ : TLock)⟩ : TAccount)) (.slice none 0 0))) (by rfl) (by kernel_rfl) G<|stW 0 (us := (cAccount ((⟨ByteArray.empty, (⟨0, 0⟩ : TSpan), 0, 0, [], (⟨0, 0, 0, 0⟩ : TLock)⟩ : TAccount)) (.slice none 0 0))) G G G row_70 G G<|asg G G<|nl<|nx<|rt<|tR<|fRG () [_] (rCT 0 G G G G row_70) (by have q : okKey k = false := (by simpa using h6); rw [new15, newE, q]; rfl) G Sn
 ·
  exact sk<|nx<|sq<|rg<|mv G G<|bd (ps := [(0, .tmp 8)]) (cs := (cAccount ((⟨k, (⟨0, 0⟩ : TSpan), 0, 0, [], (⟨0, 0, 0, 0⟩ : TLock)⟩ : TAccount)) (.slice none 0 0))) (by rfl) (by kernel_rfl) G<|stW 0 (us := (cAccount ((⟨k, (⟨0, 0⟩ : TSpan), 0, 0, [], (⟨0, 0, 0, 0⟩ : TLock)⟩ : TAccount)) (.slice none 0 0))) G G G row_70 G G<|asg G G<|nl<|nx<|rt<|fRG () [_] (rCT 0 G G G G row_70) (by have q : okKey k = true := (by simpa using h6); rw [new15, newE, q]; rfl) G Sn

theorem plain15_c (a : TAccount) (a_0 : Value) (h_a : a.wf) : FnV Tryz.prog 193 [.agg (cAccount a a_0).toArray] [⟨a_0, a.fHolders⟩] (.bool (plain15 a)) := by
 refine Fnc.proof Tryz.func193 G 18 G G fun X w => sq<|rg<|bx G G G fun b1 => asg G G<|nl<|nx<|sq<|rg<|fa G fld_70_0 G<|ldB 0 G G one_9 G G<|cfv (new15_c _) ok_236 G Sn G<|mv G G<|xt G G G ?_
 refine xt G G G<|al zero_70 G fun b3 => stW 0 (us := (cAccount ((new15 a.fKey)) (.slice none 0 0))) G G G row_70 G G<|asg G G<|nl<|nx<|sq<|rg<|mv G G<|eqI G G G<|mv G G ?_
 apply jo [] trivial
 ·
  intro K17
  refine spA (i := 13) G (fun h13 => ?_) (fun h13 => ?_)
  ·
   have p13 := of_decide_eq_true h13
   exact gY G G G<|ldM 1 (cAccount a a_0) G G row_70 G G<|gY G G G<|ldM 0 (cAccount ((new15 a.fKey)) (.slice none 0 0)) G G row_70 G G<|gY G G G<|emL (α := THolder)<|cfv (sameAcc_c _ _ _ _ h_a (new15_wf _)) ok_142 G (Sc 1 G (Sc 0 G Sn)) G<|pkT G G G<|jA K17 h13 trivial (SubD.tail Sr)
  ·
   exact gS (g := [_, _, _]) G<|pkF G G G<|jA0 K17 h13 trivial Sr
 refine asg G G<|nl<|nx<|rt<|dpQ<|dpQ ?_
 exact fR1 () G G (by rfl) G Sn

end Go.Proofs.YtmpoffijcfaalaaGreat
