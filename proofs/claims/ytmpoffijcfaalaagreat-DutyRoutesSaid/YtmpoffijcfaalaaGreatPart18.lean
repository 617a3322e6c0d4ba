/- Part 18 of the proof of dutyRoutes_holds: DutF5, DutS5, DutW13, DutW14, DutW15. Every text below begins with what it shows. -/
import Derived.Test.YtmpoffijcfaalaaGreatPart17

/- Closed facts on the program, written by specs6.py. -/

namespace Go.Proofs.YtmpoffijcfaalaaGreat
open Go.Eng

theorem app_22 : AppTy Tryz.prog 22 90 3 32 := AppTy.mk Tryz.underlying22 (by kernel_rfl) (by decide)
theorem app_28 : AppTy Tryz.prog 28 55 29 376 := AppTy.mk Tryz.underlying28 (by kernel_rfl) (by decide)
theorem fdv_211_0 : FieldV Tryz.prog 211 0 0 := ⟨_, _, _, Tryz.underlying211, rfl, rfl, Tryz.underlying2, rfl⟩
theorem fld_34_2 : FieldAt Tryz.prog 34 2 2 := FieldAt.mk Tryz.underlying34 rfl (by kernel_rfl) rfl
theorem fld_34_4 : FieldAt Tryz.prog 34 4 4 := FieldAt.mk Tryz.underlying34 rfl (by kernel_rfl) rfl
theorem fld_34_5 : FieldAt Tryz.prog 34 5 5 := FieldAt.mk Tryz.underlying34 rfl (by kernel_rfl) rfl
theorem fld_37_0 : FieldAt Tryz.prog 37 0 0 := FieldAt.mk Tryz.underlying37 rfl (by kernel_rfl) rfl
theorem fld_37_1 : FieldAt Tryz.prog 37 1 1 := FieldAt.mk Tryz.underlying37 rfl (by kernel_rfl) rfl
theorem fld_37_10 : FieldAt Tryz.prog 37 10 10 := FieldAt.mk Tryz.underlying37 rfl (by kernel_rfl) rfl
theorem fld_37_11 : FieldAt Tryz.prog 37 11 11 := FieldAt.mk Tryz.underlying37 rfl (by kernel_rfl) rfl
theorem fld_37_12 : FieldAt Tryz.prog 37 12 17 := FieldAt.mk Tryz.underlying37 rfl (by kernel_rfl) rfl
theorem fld_37_13 : FieldAt Tryz.prog 37 13 24 := FieldAt.mk Tryz.underlying37 rfl (by kernel_rfl) rfl
theorem fld_37_2 : FieldAt Tryz.prog 37 2 2 := FieldAt.mk Tryz.underlying37 rfl (by kernel_rfl) rfl
theorem fld_37_3 : FieldAt Tryz.prog 37 3 3 := FieldAt.mk Tryz.underlying37 rfl (by kernel_rfl) rfl
theorem fld_37_4 : FieldAt Tryz.prog 37 4 4 := FieldAt.mk Tryz.underlying37 rfl (by kernel_rfl) rfl
theorem fld_37_5 : FieldAt Tryz.prog 37 5 5 := FieldAt.mk Tryz.underlying37 rfl (by kernel_rfl) rfl
theorem fld_37_6 : FieldAt Tryz.prog 37 6 6 := FieldAt.mk Tryz.underlying37 rfl (by kernel_rfl) rfl
theorem fld_37_7 : FieldAt Tryz.prog 37 7 7 := FieldAt.mk Tryz.underlying37 rfl (by kernel_rfl) rfl
theorem fld_37_8 : FieldAt Tryz.prog 37 8 8 := FieldAt.mk Tryz.underlying37 rfl (by kernel_rfl) rfl
theorem fld_37_9 : FieldAt Tryz.prog 37 9 9 := FieldAt.mk Tryz.underlying37 rfl (by kernel_rfl) rfl
theorem ok_10 : FnOk Tryz.prog 10 := ⟨⟨_, Tryz.func10, by kernel_rfl, rfl⟩⟩
theorem ok_11 : FnOk Tryz.prog 11 := ⟨⟨_, Tryz.func11, by kernel_rfl, rfl⟩⟩
theorem ok_135 : FnOk Tryz.prog 135 := ⟨⟨_, Tryz.func135, by kernel_rfl, rfl⟩⟩
theorem ok_136 : FnOk Tryz.prog 136 := ⟨⟨_, Tryz.func136, by kernel_rfl, rfl⟩⟩
theorem ok_137 : FnOk Tryz.prog 137 := ⟨⟨_, Tryz.func137, by kernel_rfl, rfl⟩⟩
theorem ok_138 : FnOk Tryz.prog 138 := ⟨⟨_, Tryz.func138, by kernel_rfl, rfl⟩⟩
theorem ok_139 : FnOk Tryz.prog 139 := ⟨⟨_, Tryz.func139, by kernel_rfl, rfl⟩⟩
theorem ok_140 : FnOk Tryz.prog 140 := ⟨⟨_, Tryz.func140, by kernel_rfl, rfl⟩⟩
theorem ok_142 : FnOk Tryz.prog 142 := ⟨⟨_, Tryz.func142, by kernel_rfl, rfl⟩⟩
theorem ok_152 : FnOk Tryz.prog 152 := ⟨⟨_, Tryz.func152, by kernel_rfl, rfl⟩⟩
theorem ok_153 : FnOk Tryz.prog 153 := ⟨⟨_, Tryz.func153, by kernel_rfl, rfl⟩⟩
theorem ok_17 : FnOk Tryz.prog 17 := ⟨⟨_, Tryz.func17, by kernel_rfl, rfl⟩⟩
theorem ok_171 : FnOk Tryz.prog 171 := ⟨⟨_, Tryz.func171, by kernel_rfl, rfl⟩⟩
theorem ok_18 : FnOk Tryz.prog 18 := ⟨⟨_, Tryz.func18, by kernel_rfl, rfl⟩⟩
theorem ok_193 : FnOk Tryz.prog 193 := ⟨⟨_, Tryz.func193, by kernel_rfl, rfl⟩⟩
theorem ok_197 : FnOk Tryz.prog 197 := ⟨⟨_, Tryz.func197, by kernel_rfl, rfl⟩⟩
theorem ok_210 : FnOk Tryz.prog 210 := ⟨⟨_, Tryz.func210, by kernel_rfl, rfl⟩⟩
theorem ok_227 : FnOk Tryz.prog 227 := ⟨⟨_, Tryz.func227, by kernel_rfl, rfl⟩⟩
theorem ok_228 : FnOk Tryz.prog 228 := ⟨⟨_, Tryz.func228, by kernel_rfl, rfl⟩⟩
theorem ok_230 : FnOk Tryz.prog 230 := ⟨⟨_, Tryz.func230, by kernel_rfl, rfl⟩⟩
theorem ok_236 : FnOk Tryz.prog 236 := ⟨⟨_, Tryz.func236, by kernel_rfl, rfl⟩⟩
theorem ok_34 : FnOk Tryz.prog 34 := ⟨⟨_, Tryz.func34, by kernel_rfl, rfl⟩⟩
theorem ok_36 : FnOk Tryz.prog 36 := ⟨⟨_, Tryz.func36, by kernel_rfl, rfl⟩⟩
theorem ok_40 : FnOk Tryz.prog 40 := ⟨⟨_, Tryz.func40, by kernel_rfl, rfl⟩⟩
theorem ok_41 : FnOk Tryz.prog 41 := ⟨⟨_, Tryz.func41, by kernel_rfl, rfl⟩⟩
theorem ok_60 : FnOk Tryz.prog 60 := ⟨⟨_, Tryz.func60, by kernel_rfl, rfl⟩⟩
theorem ok_61 : FnOk Tryz.prog 61 := ⟨⟨_, Tryz.func61, by kernel_rfl, rfl⟩⟩
theorem ok_62 : FnOk Tryz.prog 62 := ⟨⟨_, Tryz.func62, by kernel_rfl, rfl⟩⟩
theorem ok_8 : FnOk Tryz.prog 8 := ⟨⟨_, Tryz.func8, by kernel_rfl, rfl⟩⟩
theorem ok_9 : FnOk Tryz.prog 9 := ⟨⟨_, Tryz.func9, by kernel_rfl, rfl⟩⟩
theorem ok_90 : FnOk Tryz.prog 90 := ⟨⟨_, Tryz.func90, by kernel_rfl, rfl⟩⟩
theorem ok_91 : FnOk Tryz.prog 91 := ⟨⟨_, Tryz.func91, by kernel_rfl, rfl⟩⟩
theorem ok_93 : FnOk Tryz.prog 93 := ⟨⟨_, Tryz.func93, by kernel_rfl, rfl⟩⟩
theorem ok_94 : FnOk Tryz.prog 94 := ⟨⟨_, Tryz.func94, by kernel_rfl, rfl⟩⟩
theorem ok_95 : FnOk Tryz.prog 95 := ⟨⟨_, Tryz.func95, by kernel_rfl, rfl⟩⟩
theorem one_5 : OneTy Tryz.prog 5 := ⟨⟨_, Tryz.underlying5, rfl⟩, by kernel_rfl⟩
theorem row_32 : RowTy Tryz.prog 32 17 := ⟨⟨_, Tryz.underlying32, rfl⟩, by kernel_rfl⟩
theorem row_37 : RowTy Tryz.prog 37 25 := ⟨⟨_, Tryz.underlying37, rfl⟩, by kernel_rfl⟩
theorem slt_35 : SliceTy Tryz.prog 35 5 1 := ⟨Tryz.underlying35, by kernel_rfl⟩
theorem zero_27 : ZeroOf Tryz.prog 27 [.int .i64 0, .slice none 0 0, .int .i64 0, .int .i64 0, .int .i64 0, .int .i64 0, .int .i64 0, .string ByteArray.empty, .string ByteArray.empty, .int .i64 0, .int .i64 0, .slice none 0 0] := ZeroOf.mk (by kernel_rfl)
theorem zero_32 : ZeroOf Tryz.prog 32 [.int .i64 0, .int .i64 0, .int .i64 0, .slice none 0 0, .int .i64 0, .int .i64 0, .int .i64 0, .int .i64 0, .int .i64 0, .string ByteArray.empty, .string ByteArray.empty, .int .i64 0, .int .i64 0, .slice none 0 0, .slice none 0 0, .slice none 0 0, .slice none 0 0] := ZeroOf.mk (by kernel_rfl)
theorem zero_37 : ZeroOf Tryz.prog 37 [.int .i64 0, .int .i64 0, .int .i64 0, .int .i64 0, .int .i64 0, .int .i64 0, .string ByteArray.empty, .int .i64 0, .int .i64 0, .int .i64 0, .bool false, .int .i64 0, .string ByteArray.empty, .string ByteArray.empty, .int .i64 0, .int .i64 0, .int .i64 0, .int .i64 0, .int .i64 0, .int .i64 0, .string ByteArray.empty, .string ByteArray.empty, .int .i64 0, .int .i64 0, .slice none 0 0] := ZeroOf.mk (by kernel_rfl)
end Go.Proofs.YtmpoffijcfaalaaGreat

/- What the references tell, more. No program. -/

namespace Go.YtmpoffijcfaalaaGreat
open Go.Eng

theorem plain_len {α : Type} [DecidableEq α] {x y : List α} (h : x.length ≠ y.length) : decide (x = y) = false := decide_eq_false (fun e => h (by rw [e]))
theorem plain_at {α : Type} [DecidableEq α] [Inhabited α] {x y : List α} (i : Nat) (h : x.getD i default ≠ y.getD i default) : decide (x = y) = false := decide_eq_false fun e => h (by rw [e])
theorem plain_all {α : Type} [DecidableEq α] [Inhabited α] {x y : List α} (hl : x.length = y.length) (h : ∀ j, j < x.length → x.getD j default = y.getD j default) : decide (x = y) = true := by
  refine decide_eq_true (List.ext_getElem hl fun i h1 h2 => ?_)
  have := h i h1
  simpa [List.getD, List.getElem?_eq_getElem h1, List.getElem?_eq_getElem h2] using this
def sameAcc (x y : TAccount) : Bool := decide (x.fKey = y.fKey) && decide (x.fSpan = y.fSpan) && decide (x.fBase = y.fBase) && decide (x.fRound = y.fRound) && decide (x.fHolders = y.fHolders) && decide (x.fLock = y.fLock)
theorem I0 : InI 0 := ⟨by decide, by decide⟩
def zacc : TAccount := ⟨ByteArray.empty, ⟨0, 0⟩, 0, 0, [], ⟨0, 0, 0, 0⟩⟩
def new15 (k : ByteArray) : TAccount := ⟨if okKey k = true then k else ByteArray.empty, ⟨0, 0⟩, 0, 0, [], ⟨0, 0, 0, 0⟩⟩
theorem new15_wf (k : ByteArray) : (new15 k).wf := by
  refine ⟨?_, ⟨I0, I0⟩, I0, I0, trivial, I0, I0, I0, I0⟩
  show (if okKey k = true then k else ByteArray.empty).size ≤ _
  split
  · rename_i h
    simp only [okKey, Bool.and_eq_true, decide_eq_true_eq] at h
    omega
  · decide
def newE (k : ByteArray) : Int := if okKey k = true then 0 else 1
def plain15 (a : TAccount) : Bool := decide (newE a.fKey = 0) && sameAcc a (new15 a.fKey)
def may19a (o : TOp) : Bool := decide (o.fKind < 1) || decide (o.fKind > 6) || !okKey o.fKey
def may19b (o : TOp) : Bool := (decide (o.fKind = 1) || decide (o.fKind = 2) || decide (o.fKind = 6)) && decide (o.fN < 1)
def may19 (o : TOp) : Bool := if may19a o = true then false else if may19b o = true then false else (!decide (o.fKind = 6)) || (okKey o.fOther && (!decide (o.fOther = o.fKey)))
def op22 (o : TOp) : TOp := if o.fKind = 1 then ⟨o.fKind, o.fKey, ByteArray.empty, o.fN, 0, 0⟩ else if o.fKind = 2 then ⟨o.fKind, o.fKey, ByteArray.empty, o.fN, 0, 0⟩ else if o.fKind = 5 then ⟨o.fKind, o.fKey, ByteArray.empty, 0, o.fLo, o.fHi⟩ else if o.fKind = 6 then ⟨o.fKind, o.fKey, o.fOther, o.fN, 0, 0⟩ else ⟨o.fKind, o.fKey, ByteArray.empty, 0, 0, 0⟩
def opm (o : TOp) : TOp := if o.fKind = 7 then { o with fKind := 4 } else if o.fKind = 8 then { o with fKind := 4 } else o

def accS (f : THolder → Int) (b : Int) (l : List THolder) : Nat → Int
  | 0 => b
  | i + 1 => accS f b l i + f (l.getD i default)
def accN (f : THolder → Int) (b : Int) (l : List THolder) : Nat → Int
  | 0 => b
  | i + 1 => accN f b l i - f (l.getD i default)
theorem accS_sum (f : THolder → Int) (b : Int) (l : List THolder) : ∀ i, accS f b l i = (listS f b l i).sum
  | 0 => by simp [accS, listS]
  | i + 1 => by rw [accS, listS, List.sum_append_int, accS_sum f b l i]; simp
theorem accN_sum (f : THolder → Int) (b : Int) (l : List THolder) : ∀ i, accN f b l i = (listS (fun h => -f h) b l i).sum
  | 0 => by simp [accN, listS]
  | i + 1 => by
    rw [accN, listS, List.sum_append_int, accN_sum f b l i]
    simp only [List.sum_cons, List.sum_nil]
    omega
theorem accS_bd {f : THolder → Int} {b : Int} {l : List THolder} (hb : InI b) (h : ∀ x ∈ l, InI (f x)) : ∀ i, i ≤ l.length → -(((i : Int) + 1) * 9223372036854775808) ≤ accS f b l i ∧ accS f b l i ≤ ((i : Int) + 1) * 9223372036854775808
  | 0, _ => by obtain ⟨h1, h2⟩ := hb; simp only [accS]; omega
  | i + 1, hi => by
    have ih := accS_bd hb h i (by omega)
    obtain ⟨h1, h2⟩ := h _ (getD_mem (l := l) (i := i) (by omega))
    simp only [accS]
    omega
theorem accN_bd {f : THolder → Int} {b : Int} {l : List THolder} (hb : InI b) (h : ∀ x ∈ l, InI (f x)) : ∀ i, i ≤ l.length → -(((i : Int) + 1) * 9223372036854775808) ≤ accN f b l i ∧ accN f b l i ≤ ((i : Int) + 1) * 9223372036854775808
  | 0, _ => by obtain ⟨h1, h2⟩ := hb; simp only [accN]; omega
  | i + 1, hi => by
    have ih := accN_bd hb h i (by omega)
    obtain ⟨h1, h2⟩ := h _ (getD_mem (l := l) (i := i) (by omega))
    simp only [accN]
    omega
theorem accS_ups (a : TAccount) : accS (fun h => h.fUp) a.fBase a.fHolders a.fHolders.length = upsS a := by rw [accS_sum, listS_ups]
theorem accN_downs (a : TAccount) : accN (fun h => h.fDown) a.fBase a.fHolders a.fHolders.length = downsS a := by rw [accN_sum, listS_downs]
theorem lim6 {x : Int} {i : Nat} (hi : i ≤ 5) (h : -(((i : Int) + 1) * 9223372036854775808) ≤ x ∧ x ≤ ((i : Int) + 1) * 9223372036854775808) : BV x := by unfold BV; omega
theorem ups_BV {a : TAccount} (hw : a.wf) (hW : ∀ x ∈ a.fHolders, x.wf) (hh : holdersP a.fHolders = true) : BV (upsS a) := by
  rw [← accS_ups]
  exact lim6 (hold_len hh) (accS_bd hw.2.2.1 (fun x hx => (hW x hx).2.2.1) _ (Nat.le_refl _))
theorem downs_BV {a : TAccount} (hw : a.wf) (hW : ∀ x ∈ a.fHolders, x.wf) (hh : holdersP a.fHolders = true) : BV (downsS a) := by
  rw [← accN_downs]
  exact lim6 (hold_len hh) (accN_bd hw.2.2.1 (fun x hx => (hW x hx).2.2.2) _ (Nat.le_refl _))
theorem sum2_BW {a : TAccount} (h : a.wf) : BW (a.fBase + a.fLock.fN) := by
  obtain ⟨h1, h2⟩ := h.2.2.1
  obtain ⟨h3, h4⟩ := h.2.2.2.2.2.2.2.2
  unfold BW
  omega
def r15a (a : TAccount) : Bool := !okKey a.fKey || !hasP a.fSpan a.fBase || decide (a.fRound < 0)
def r15b (a : TAccount) : Bool := aboveP (upsS a) a.fSpan.fHi || decide ((wide (downsS a - a.fSpan.fLo)).fHi < 0)
def fits15 (a : TAccount) : Bool := hasP a.fSpan (IntKind.i64.wrap ((a.fBase + a.fLock.fN) % 18446744073709551616))
def right15 (a : TAccount) : Bool := if r15a a = true then false else if holdersP a.fHolders = true then (if r15b a = true then false else if decide (a.fLock.fClient = 0) = true then decide (a.fLock = ⟨0, 0, 0, 0⟩) else keeperP a.fLock && decide ((a.fHolders.length : Int) = 0) && sumOk (a.fBase + a.fLock.fN) && fits15 a) else false
def risj (l : List TAccount) (j : Nat) : Bool := !right15 (l.getD j default) || plain15 (l.getD j default) || (decide ((j : Int) > 0) && leB (l.getD j default).fKey (l.getD ((j : Int) - 1).toNat default).fKey)
def rising19 (l : List TAccount) : Bool := if allI l.length (fun j => !risj l j) = true then decide ((l.length : Int) ≤ 12) else false

def q19a (s : TState) : Bool := !okGroup s.fGroup || !okNum s.fIndex || !okNum s.fEpoch || !okNum s.fAbsorbed || !okNum s.fRefused || !okNum s.fUndone
def q19b (s : TState) : Bool := ((!s.fOwns) && ((!decide (s.fLo = ByteArray.empty)) || (!decide (s.fHi = ByteArray.empty)) || decide ((s.fAccounts.length : Int) > 0) || decide ((s.fWaits.length : Int) > 0) || (!decide (s.fSeal = ⟨0, 0, 0, ByteArray.empty, ByteArray.empty, 0, 0⟩)))) || (s.fOwns && (decide (s.fEpoch < 1) || !spansP s.fLo s.fHi))
def q19c (s : TState) : Bool := !rising19 s.fAccounts || !marks14 s.fMarks || !books18 s.fDeals || !ends18 s.fEnds || decide ((s.fWaits.length : Int) > 8)
def q19d (s : TState) : Bool := (!decide (s.fSeal = ⟨0, 0, 0, ByteArray.empty, ByteArray.empty, 0, 0⟩)) && (!plan19 s.fSeal || !decide (s.fSeal.fFrom = s.fGroup) || !decide (s.fSeal.fHi = s.fHi) || !ownsP s s.fSeal.fLo)
def q19e (s : TState) : Bool := decide ((rdState s.fImage).2 = 0) && plan19 s.fOut && decide (s.fOut.fFrom = s.fGroup)
def accs19 (s : TState) : Bool := allI s.fAccounts.length (fun j => ownsP s (s.fAccounts.getD j default).fKey)
def waits19 (s : TState) : Bool := allI s.fWaits.length (fun j => wait19 s (s.fWaits.getD j default))
def sright19 (s : TState) : Bool := if q19a s = true then false else if q19b s = true then false else if q19c s = true then false else if accs19 s = true then (if waits19 s = true then (if q19d s = true then false else if decide (s.fOut = ⟨0, 0, 0, ByteArray.empty, ByteArray.empty, 0, 0⟩) = true then decide ((s.fImage.length : Int) = 0) else q19e s) else false) else false
def r22a (v : TScene) : Bool := ((!decide (v.fNodes = 1)) && (!decide (v.fNodes = 3)) && (!decide (v.fNodes = 5))) || decide (v.fNode < 1) || decide (v.fNode > v.fNodes) || !right20 v.fChart || !decide ((v.fStates.length : Int) = 7) || !rights16 v.fRights
def r22j (v : TScene) (j : Nat) : Bool := (!decide ((v.fStates.getD j default).fGroup = (j : Int) + 1)) || !sright19 (v.fStates.getD j default)
def right22 (v : TScene) : Bool := if r22a v = true then false else allI v.fStates.length (fun j => !r22j v j)

def zop : TOp := ⟨0, ByteArray.empty, ByteArray.empty, 0, 0, 0⟩
def plainB (o : TOp) : Bool := if okKey o.fKey = true then (if o.fKind = 1 then decide (o.fN ≥ 1) else if o.fKind = 2 then decide (o.fN ≥ 1) else if o.fKind = 6 then decide (o.fN ≥ 1) && okKey o.fOther && (!decide (o.fOther = o.fKey)) else if o.fKind = 5 then true else if o.fKind = 3 then true else if o.fKind = 4 then true else if o.fKind = 7 then true else if o.fKind = 8 then true else false) else false
def plainO (o : TOp) : TOp := if okKey o.fKey = true then (if o.fKind = 1 then ⟨o.fKind, o.fKey, ByteArray.empty, o.fN, 0, 0⟩ else if o.fKind = 2 then ⟨o.fKind, o.fKey, ByteArray.empty, o.fN, 0, 0⟩ else if o.fKind = 6 then ⟨o.fKind, o.fKey, o.fOther, o.fN, 0, 0⟩ else if o.fKind = 5 then ⟨o.fKind, o.fKey, ByteArray.empty, 0, o.fLo, o.fHi⟩ else if o.fKind = 3 then ⟨o.fKind, o.fKey, ByteArray.empty, 0, 0, 0⟩ else if o.fKind = 4 then ⟨o.fKind, o.fKey, ByteArray.empty, 0, 0, 0⟩ else if o.fKind = 7 then ⟨o.fKind, o.fKey, ByteArray.empty, 0, 0, 0⟩ else if o.fKind = 8 then ⟨o.fKind, o.fKey, ByteArray.empty, 0, 0, 0⟩ else zop) else zop

def zcmd : TCommand := ⟨0, 0, 0, 0, 0, 0, ByteArray.empty, 0, 0, 0, false, zop, ⟨0, 0, 0, ByteArray.empty, ByteArray.empty, 0, 0⟩, []⟩
def sameCmd (x y : TCommand) : Bool := decide (x.fKind = y.fKind) && decide (x.fClient = y.fClient) && decide (x.fSeq = y.fSeq) && decide (x.fEpoch = y.fEpoch) && decide (x.fNode = y.fNode) && decide (x.fHome = y.fHome) && decide (x.fKey = y.fKey) && decide (x.fLease = y.fLease) && decide (x.fRound = y.fRound) && decide (x.fNet = y.fNet) && decide (x.fYes = y.fYes) && decide (x.fOp = y.fOp) && decide (x.fPlan = y.fPlan) && decide (x.fImage = y.fImage)
def dr1 (c q : Int) (o : TOp) : Bool := !plainB o || decide (c < 1) || decide (c > 8) || decide (q < 1) || decide (q > far)
def isPlan (o : TOp) : Bool := decide (o.fKind = 7) || decide (o.fKind = 8)
def cmdP (c q : Int) (o : TOp) : TCommand := ⟨12, c, q, 0, 0, 0, ByteArray.empty, 0, 0, 0, false, o, ⟨0, 0, 0, ByteArray.empty, ByteArray.empty, 0, 0⟩, []⟩
def cmdO (e n c q : Int) (o : TOp) : TCommand := ⟨1, c, q, e, n, 0, ByteArray.empty, 0, 0, 0, false, o, ⟨0, 0, 0, ByteArray.empty, ByteArray.empty, 0, 0⟩, []⟩
def plOf (v : TScene) (j : Nat) : TPlace := v.fChart.fPlaces.getD j default
def routeG (v : TScene) (c q : Int) (o : TOp) : Int := if drightP v = true then (if dr1 c q o = true then 0 else if isPlan (plainO o) = true then 0 else (plOf v (findP v.fChart.fPlaces (plainO o).fKey)).fGroup) else 0
def routeC (v : TScene) (c q : Int) (o : TOp) : TCommand := if drightP v = true then (if dr1 c q o = true then zcmd else if isPlan (plainO o) = true then cmdP c q (plainO o) else cmdO (plOf v (findP v.fChart.fPlaces (plainO o).fKey)).fEpoch v.fNode c q (plainO o)) else zcmd
def routeE (v : TScene) (c q : Int) (o : TOp) : Int := if drightP v = true then (if dr1 c q o = true then 1 else 0) else 21
def rr1 (c q : Int) (o : TOp) : Bool := !okClient c || !okSeq q || !may19 (opm o)
def rouG (v : TScene) (c q : Int) (o : TOp) : Int := if right22 v = true then (if rr1 c q o = true then 0 else if isPlan o = true then 0 else (plOf v (find17 v.fChart.fPlaces o.fKey)).fGroup) else 0
def rouC (v : TScene) (c q : Int) (o : TOp) : TCommand := if right22 v = true then (if rr1 c q o = true then zcmd else if isPlan o = true then cmdP c q (op22 o) else cmdO (plOf v (find17 v.fChart.fPlaces o.fKey)).fEpoch v.fNode c q (op22 o)) else zcmd
def rouE (v : TScene) (c q : Int) (o : TOp) : Int := if right22 v = true then (if rr1 c q o = true then 1 else 0) else 21
theorem dright_places {v : TScene} (h : drightP v = true) : 0 < v.fChart.fPlaces.length := by
  unfold drightP at h
  split at h
  · cases h
  · split at h
    · simp only [Bool.and_eq_true, errF_ok] at h
      have h1 := h.1
      unfold planP at h1
      split at h1
      · cases h1
      · split at h1
        · cases h1
        · rename_i hn
          simp only [plan2, Bool.or_eq_true, not_or, Bool.not_eq_true', errF_ok, Bool.not_eq_false] at hn
          have h2 := hn.1
          unfold rplacesP at h2
          split at h2
          · cases h2
          · rename_i hm
            simp only [rpl1, Bool.or_eq_true, decide_eq_true_eq, not_or] at hm
            have := hm.1
            omega
    · cases h
theorem right22_places {v : TScene} (h : right22 v = true) : 0 < v.fChart.fPlaces.length := by
  unfold right22 at h
  split at h
  · cases h
  · rename_i hn
    simp only [r22a, Bool.or_eq_true, not_or, Bool.not_eq_true', Bool.not_eq_false] at hn
    have h1 := hn.1.1.2
    unfold right20 at h1
    split at h1
    · cases h1
    · rename_i hm
      simp only [right20a, Bool.or_eq_true, not_or, Bool.not_eq_true', Bool.not_eq_false] at hm
      exact places17_pos hm.1.1.1.2

theorem routeC_img (v : TScene) (c q : Int) (o : TOp) : (routeC v c q o).fImage = [] := by
  unfold routeC
  (repeat' split) <;> rfl
theorem rouC_img (v : TScene) (c q : Int) (o : TOp) : (rouC v c q o).fImage = [] := by
  unfold rouC
  (repeat' split) <;> rfl
def place1 : TPlace := ⟨1, ByteArray.empty, 1⟩
theorem I1 : InI 1 := ⟨by decide, by decide⟩
theorem place1_wf : place1.wf := ⟨I1, by decide, I1⟩
def chart1 : TChart := ⟨0, [place1], 2, 0, ⟨0, 0, 0, ByteArray.empty, ByteArray.empty, 0, 0⟩, []⟩
theorem zplan_wf : TPlan.wf ⟨0, 0, 0, ByteArray.empty, ByteArray.empty, 0, 0⟩ := ⟨I0, I0, I0, by decide, by decide, I0, I0⟩
theorem chart1_wf : chart1.wf := ⟨I0, trivial, ⟨by decide, by decide⟩, I0, zplan_wf, trivial⟩
def newS (n : Int) : TState := ⟨if okGroup n = true then n else 0, 0, okGroup n && decide (n = 1), ByteArray.empty, ByteArray.empty, if okGroup n = true then (if n = 1 then 1 else 0) else 0, [], [], [], [], [], ⟨0, 0, 0, ByteArray.empty, ByteArray.empty, 0, 0⟩, ⟨0, 0, 0, ByteArray.empty, ByteArray.empty, 0, 0⟩, [], 0, 0, 0⟩
theorem newS_wf {n : Int} (h : InI n) : (newS n).wf := by
  refine ⟨?_, I0, trivial, (by show ByteArray.empty.size ≤ _; decide), (by show ByteArray.empty.size ≤ _; decide), ?_, trivial, trivial, trivial, trivial, trivial, zplan_wf, zplan_wf, trivial, I0, I0, I0⟩
  · show InI (if okGroup n = true then n else 0)
    split
    · exact h
    · exact I0
  · show InI (if okGroup n = true then (if n = 1 then 1 else 0) else 0)
    split
    · split
      · exact I1
      · exact I0
    · exact I0
def stsN : Nat → List TState
  | 0 => []
  | i + 1 => stsN i ++ [newS ((i : Int) + 1)]
theorem stsN_len : ∀ i, (stsN i).length = i
  | 0 => rfl
  | i + 1 => by simp [stsN, stsN_len i]
def scene1 (a b : Int) : TScene := ⟨a, b, chart1, stsN 7, [], []⟩
theorem scene1_wf {a b : Int} (ha : InI a) (hb : InI b) : (scene1 a b).wf := ⟨ha, hb, chart1_wf, trivial, trivial, trivial⟩
def zscene : TScene := ⟨0, 0, ⟨0, [], 0, 0, ⟨0, 0, 0, ByteArray.empty, ByteArray.empty, 0, 0⟩, []⟩, [], [], []⟩
theorem zscene_wf : zscene.wf := ⟨I0, I0, ⟨I0, trivial, I0, I0, zplan_wf, trivial⟩, trivial, trivial, trivial⟩
def opA : TOp := ⟨4, ⟨#[97]⟩, ByteArray.empty, 0, 0, 0⟩
theorem opA_wf : opA.wf := ⟨⟨by decide, by decide⟩, by decide, by decide, I0, I0, I0⟩
def awakeB : Bool := drightP (scene1 1 3) && (!drightP zscene) && decide (routeG (scene1 1 3) 1 1 opA = 1) && decide ((routeC (scene1 1 3) 1 1 opA).fKind = 1) && decide (routeE (scene1 1 3) 1 1 opA = 0)
end Go.YtmpoffijcfaalaaGreat

/- Walks, written by specs6.py. -/

namespace Go.Proofs.YtmpoffijcfaalaaGreat
open Go.Eng Go.YtmpoffijcfaalaaGreat
set_option maxHeartbeats 1000000

theorem eq_Holder : EqTy Tryz.prog 165 cHolder := by
 refine ⟨by kernel_rfl, fun a b w => ?_⟩
 rw [run_equalIn_struct w 9999 165 _ _ (by simp only [Program.fieldsOf, Tryz.underlying165]) (by kernel_rfl)]
 simp only [Program.fieldsOf, Tryz.underlying165]
 refine Eq.trans (eqG G Tryz.underlying3 G G G (eqFi Tryz.underlying3 _ _) (fun w => eqG G Tryz.underlying3 G G G (eqFi Tryz.underlying3 _ _) (fun w => eqG G Tryz.underlying3 G G G (eqFi Tryz.underlying3 _ _) (fun w => eqG G Tryz.underlying3 G G G (eqFi Tryz.underlying3 _ _) (fun w => eqF0 w))))) ?_
 congr 1
 obtain ⟨a0, a1, a2, a3⟩ := a
 obtain ⟨b0, b1, b2, b3⟩ := b
 simp [THolder.mk.injEq, Bool.and_assoc]

theorem locked15_c (l : TLock) (h_l : l.wf) : FnV Tryz.prog 230 [.agg (cLock l).toArray] [] (.bool (keeperP l)) := by
 refine Fnc.proof Tryz.func230 G 21 G G fun X w => sq<|rg<|bx G G G fun b1 => asg G G<|nl<|nx<|sq<|rg<|fa G fld_68_0 G<|ldB 0 G G one_3 G G<|geI G G G<|mv G G ?_
 apply jo [(1, _)] ⟨rfl, trivial⟩
 ·
  intro K10
  refine spA (i := 6) G (fun h6 => ?_) (fun h6 => ?_)
  ·
   have p6 := of_decide_eq_true h6
   exact gY G G G<|fa G fld_68_1 G<|gY G G G<|ldB 0 G G one_3 G G<|gY G G G<|geI G G G<|pkT G G G<|jA K10 h6 ⟨G, trivial⟩ Sr
  ·
   exact gS (g := [_, _, _]) G<|pkF G G G<|jA0 K10 h6 ⟨G, trivial⟩ Sr
 refine mv G G ?_
 apply jo [(1, _)] ⟨rfl, trivial⟩
 ·
  intro K15
  refine spA (i := 11) G (fun h11 => ?_) (fun h11 => ?_)
  ·
   exact gY G G G<|fa G fld_68_2 G<|gY G G G<|ldB 0 G G one_3 G G<|gY G G G<|geI G G G<|pkT G G G<|jA K15 h11 ⟨G, trivial⟩ Sr
  ·
   exact gS (g := [_, _, _]) G<|pkF G G G<|jA0 K15 h11 ⟨G, trivial⟩ Sr
 refine mv G G ?_
 apply jo [] trivial
 ·
  intro K20
  refine spA (i := 16) G (fun h16 => ?_) (fun h16 => ?_)
  ·
   exact gY G G G<|fa G fld_68_2 G<|gY G G G<|ldB 0 G G one_3 G G<|gY G G G<|ltI G G G<|pkT G G G<|jA K20 h16 trivial Sr
  ·
   exact gS (g := [_, _, _]) G<|pkF G G G<|jA0 K20 h16 trivial Sr
 refine asg G G<|nl<|nx<|rt<|dpQ ?_
 exact fR1 () G G (by rfl) G Sn

theorem plainHolder_c (v_x : Value) (x : List THolder) (v_y : Value) (y : List THolder) : FnV Tryz.prog 197 [v_x, v_y] [⟨v_x, x⟩, ⟨v_y, y⟩] (.bool (decide (x = y))) := by
 refine Fnc.proof Tryz.func197 G 26 G G fun X w => gtC (q := x.length ≤ 9223372036854775807) (fun S w h => list_len (h _ (List.mem_of_getElem? (i := 0) G))) fun hlx => gtC (q := y.length ≤ 9223372036854775807) (fun S w h => list_len (h _ (List.mem_of_getElem? (i := 1) G))) fun hly => sq<|rg<|asg G G<|nl<|nx<|sq<|sq<|rg<|mv G G<|lnP 0 G G Tryz.underlying66 G fun l7 => mv G G ?_
 refine lnP 1 G G Tryz.underlying66 G fun l9 => neI G G G<|nl<|nx<|cdN G (fun h10 => ?_) (fun h10 => ?_)
 ·
  refine sq<|rg<|asg G G<|nl<|nx<|rt<|tR ?_
  exact fR1 () G G (by rw [plain_len (by omega)]) G Sn
 ·
  have hl : x.length = y.length := by omega
  refine sk<|nx<|sq<|sq<|rg<|asg G G<|nl<|nx<|bk<|lpC (σ := Nat) [(0, _), (1, _)] _ (fun i C => (5, .int .i64 (i : Int)) :: C) (fun i => i ≤ x.length ∧ (∀ j, j < i → x.getD j default = y.getD j default)) (fun i => x.length - i) 0 ⟨G, G, trivial⟩ (Sc 0 G (Sc 1 G Sn)) ⟨Nat.zero_le _, fun j hj => absurd hj (Nat.not_lt_zero j)⟩ ⟨G, G, G, trivial⟩ ?_
  rintro i ⟨hi, hall⟩
  refine sq<|sq<|rg<|mv G G<|mv G G<|lnP 0 G G Tryz.underlying66 G fun l13 => ltI G G G<|nl<|nx<|cdP G (fun h14 => ?_) (fun h14 => ?_)
  ·
   refine sk<|nx<|sq<|bk<|sq<|rgQ mixed (by kernel_rfl)<|mv G G<|mv G G<|ixP 0 G G G slt_66 (by omega) (getDE (d := default) (by omega)) G fun v19 => ldS 0 G G row_165 G fun q20 w20 => ?_
   refine mv G G<|mv G G<|ixP 3 G G G slt_66 (by omega) (getDE (d := default) (by omega)) G fun v23 => ldS 0 G G row_165 G fun q24 w24 => ?_
   refine neT eq_Holder ((x.getD i default)) ((y.getD i default)) G G G<|nlQ<|nx<|cdN G (fun h25 => ?_) (fun h25 => ?_)
   ·
    refine sq<|rg<|asg G G<|nl<|nx<|rt<|bR<|tR<|tR<|bR<|tR ?_
    exact fR1 () G G (by rw [plain_at i (by simpa using h25)]) G Sn
   ·
    refine sk<|bN<|nx<|rg<|mv G G<|adI G G (inI (by omega) (by omega)) G<|asg G G<|nl ?_
    exact ag (i + 1) ⟨(by omega), (all_snoc hall (by simpa using h25))⟩ (by omega) ⟨G, G, G, trivial⟩ G (Sc 4 G (Sc 5 G Sn))
  ·
   refine ex<|tE<|tE<|bE<|nx<|sq<|rg<|asg G G<|nl<|nx<|rt ?_
   exact fR1 () G G (by rw [plain_all hl (fun j hj => hall j (by omega))]) G Sn

theorem plainByte_c (v_x : Value) (x : List UInt8) (v_y : Value) (y : List UInt8) : FnV Tryz.prog 95 [v_x, v_y] [⟨v_x, x⟩, ⟨v_y, y⟩] (.bool (decide (x = y))) := by
 refine Fnc.proof Tryz.func95 G 26 G G fun X w => gtC (q := x.length ≤ 9223372036854775807) (fun S w h => list_len (h _ (List.mem_of_getElem? (i := 0) G))) fun hlx => gtC (q := y.length ≤ 9223372036854775807) (fun S w h => list_len (h _ (List.mem_of_getElem? (i := 1) G))) fun hly => sq<|rg<|asg G G<|nl<|nx<|sq<|sq<|rg<|mv G G<|lnP 0 G G Tryz.underlying35 G fun l7 => mv G G ?_
 refine lnP 1 G G Tryz.underlying35 G fun l9 => neI G G G<|nl<|nx<|cdN G (fun h10 => ?_) (fun h10 => ?_)
 ·
  refine sq<|rg<|asg G G<|nl<|nx<|rt<|tR ?_
  exact fR1 () G G (by rw [plain_len (by omega)]) G Sn
 ·
  have hl : x.length = y.length := by omega
  refine sk<|nx<|sq<|sq<|rg<|asg G G<|nl<|nx<|bk<|lpC (σ := Nat) [(0, _), (1, _)] _ (fun i C => (5, .int .i64 (i : Int)) :: C) (fun i => i ≤ x.length ∧ (∀ j, j < i → x.getD j default = y.getD j default)) (fun i => x.length - i) 0 ⟨G, G, trivial⟩ (Sc 0 G (Sc 1 G Sn)) ⟨Nat.zero_le _, fun j hj => absurd hj (Nat.not_lt_zero j)⟩ ⟨G, G, G, trivial⟩ ?_
  rintro i ⟨hi, hall⟩
  refine sq<|sq<|rg<|mv G G<|mv G G<|lnP 0 G G Tryz.underlying35 G fun l13 => ltI G G G<|nl<|nx<|cdP G (fun h14 => ?_) (fun h14 => ?_)
  ·
   refine sk<|nx<|sq<|bk<|sq<|rgQ mixed (by kernel_rfl)<|mv G G<|mv G G<|ixP 0 G G G slt_35 (by omega) (getDE (d := default) (by omega)) G fun v19 => ldV 0 G G one_5 G fun w20 => ?_
   refine mv G G<|mv G G<|ixP 2 G G G slt_35 (by omega) (getDE (d := default) (by omega)) G fun v23 => ldV 0 G G one_5 G fun w24 => ?_
   refine neI G G G<|nlQ<|nx<|cdN G (fun h25 => ?_) (fun h25 => ?_)
   ·
    refine sq<|rg<|asg G G<|nl<|nx<|rt<|bR<|tR<|tR<|bR<|tR ?_
    exact fR1 () G G (by rw [plain_at i (fun e => h25 (by simp only [Int.toNat_natCast, e]))]) G Sn
   ·
    refine sk<|bN<|nx<|rg<|mv G G<|adI G G (inI (by omega) (by omega)) G<|asg G G<|nl ?_
    exact ag (i + 1) ⟨(by omega), (all_snoc hall (UInt8.toNat_inj.1 (by have q := h25; simp only [Int.toNat_natCast] at q; omega)))⟩ (by omega) ⟨G, G, G, trivial⟩ G (Sc 2 G (Sc 3 G Sn))
  ·
   refine ex<|tE<|tE<|bE<|nx<|sq<|rg<|asg G G<|nl<|nx<|rt ?_
   exact fR1 () G G (by rw [plain_all hl (fun j hj => hall j (by omega))]) G Sn

theorem sameBytes_c (v_x : Value) (x : List UInt8) (v_y : Value) (y : List UInt8) : FnV Tryz.prog 41 [v_x, v_y] [⟨v_x, x⟩, ⟨v_y, y⟩] (.bool (decide (x = y))) := by
 refine Fnc.proof Tryz.func41 G 8 G G fun X w => sq<|rg<|asg G G<|nl<|nx<|sq<|rg<|mv G G<|mv G G<|cfv (plainByte_c _ _ _ _) ok_95 G (Sc 0 G (Sc 1 G Sn)) G<|asg G G<|nl<|nx ?_
 refine rt ?_
 exact fR1 () G G (by rfl) G Sn

theorem sameAcc_c (x : TAccount) (x_0 : Value) (y : TAccount) (y_0 : Value) (h_x : x.wf) (h_y : y.wf) : FnV Tryz.prog 142 [.agg (cAccount x x_0).toArray, .agg (cAccount y y_0).toArray] [⟨x_0, x.fHolders⟩, ⟨y_0, y.fHolders⟩] (.bool (sameAcc x y)) := by
 refine Fnc.proof Tryz.func142 G 45 G G fun X w => sq<|rg<|bx G G G fun b2 => bx G G G fun b3 => asg G G<|nl<|nx<|sq<|rg<|fa G fld_70_0 G<|ldB 1 G G one_9 G G<|fa G fld_70_0 G<|ldB 0 G G one_9 G G ?_
 refine eqS G G G<|mv G G ?_
 apply jo [(2, _), (3, _)] ⟨rfl, rfl, trivial⟩
 ·
  intro K16
  refine spA (i := 10) G (fun h10 => ?_) (fun h10 => ?_)
  ·
   have p10 := of_decide_eq_true h10
   exact gY G G G<|fa G fld_70_1 G<|gY G G G<|ldM 1 (cSpan x.fSpan) G G row_65 G G<|gY G G G<|fa G fld_70_1 G<|gY G G G<|ldM 0 (cSpan y.fSpan) G G row_65 G G<|gY G G G<|eqT eq_Span (x.fSpan) (y.fSpan) G G G<|pkT G G G<|jA K16 h10 ⟨G, G, trivial⟩ Sr
  ·
   exact gS (g := [_, _, _, _, _]) G<|pkF G G G<|jA0 K16 h10 ⟨G, G, trivial⟩ Sr
 refine mv G G ?_
 apply jo [(2, _), (3, _)] ⟨rfl, rfl, trivial⟩
 ·
  intro K23
  refine spA (i := 17) G (fun h17 => ?_) (fun h17 => ?_)
  ·
   exact gY G G G<|fa G fld_70_2 G<|gY G G G<|ldB 1 G G one_3 G G<|gY G G G<|fa G fld_70_2 G<|gY G G G<|ldB 0 G G one_3 G G<|gY G G G<|eqI G G G<|pkT G G G<|jA K23 h17 ⟨G, G, trivial⟩ Sr
  ·
   exact gS (g := [_, _, _, _, _]) G<|pkF G G G<|jA0 K23 h17 ⟨G, G, trivial⟩ Sr
 refine mv G G ?_
 apply jo [(2, _), (3, _)] ⟨rfl, rfl, trivial⟩
 ·
  intro K30
  refine spA (i := 24) G (fun h24 => ?_) (fun h24 => ?_)
  ·
   exact gY G G G<|fa G fld_70_3 G<|gY G G G<|ldB 1 G G one_3 G G<|gY G G G<|fa G fld_70_3 G<|gY G G G<|ldB 0 G G one_3 G G<|gY G G G<|eqI G G G<|pkT G G G<|jA K30 h24 ⟨G, G, trivial⟩ Sr
  ·
   exact gS (g := [_, _, _, _, _]) G<|pkF G G G<|jA0 K30 h24 ⟨G, G, trivial⟩ Sr
 refine mv G G ?_
 apply jo [(2, _), (3, _)] ⟨rfl, rfl, trivial⟩
 ·
  intro K37
  refine spA (i := 31) G (fun h31 => ?_) (fun h31 => ?_)
  ·
   exact gY G G G<|fa G fld_70_4 G<|gY G G G<|ldB 1 G G one_66 G G<|gY G G G<|fa G fld_70_4 G<|gY G G G<|ldB 0 G G one_66 G G<|gY G G G<|cfv (plainHolder_c _ _ _ _) ok_197 G (Sc 0 G (Sc 1 G Sn)) G<|pkT G G G<|jA K37 h31 ⟨G, G, trivial⟩ Sr
  ·
   exact gS (g := [_, _, _, _, _]) G<|pkF G G G<|jA0 K37 h31 ⟨G, G, trivial⟩ Sr
 refine mv G G ?_
 apply jo [] trivial
 ·
  intro K44
  refine spA (i := 38) G (fun h38 => ?_) (fun h38 => ?_)
  ·
   exact gY G G G<|fa G fld_70_5 G<|gY G G G<|ldM 1 (cLock x.fLock) G G row_68 G G<|gY G G G<|fa G fld_70_5 G<|gY G G G<|ldM 0 (cLock y.fLock) G G row_68 G G<|gY G G G<|eqT eq_Lock (x.fLock) (y.fLock) G G G<|pkT G G G<|jA K44 h38 trivial Sr
  ·
   exact gS (g := [_, _, _, _, _]) G<|pkF G G G<|jA0 K44 h38 trivial Sr
 refine asg G G<|nl<|nx<|rt<|dpQ<|dpQ ?_
 exact fR1 () G G (by rfl) G Sn

theorem new15_c (k : ByteArray) : FnV Tryz.prog 236 [.string k] [] (.tuple #[.agg (cAccount (new15 k) (.slice none 0 0)).toArray, .int .i64 (newE k)]) := by
 refine Fnc.proof Tryz.func236 G 10 G G fun X w => sq<|rg<|al zero_70 G fun b2 => asg G G<|nl<|nx<|sq<|sq<|rg<|mv G G<|cfv (key15_c _) ok_168 G Sn G<|nt G G<|nl ?_
 refine nx<|cdB G (fun h6 => ?_) (fun h6 => ?_)
 ·
  exact sq<|rg<|bd (ps := []) (cs := (cAccount ((⟨ByteArray.empty, (⟨0, 0⟩ : TSpan), 0, 0, [], (⟨0, 0, 0, 0⟩ : TLock)⟩ : TAccount)) (.slice none 0 0))) (by rfl) (by kernel_rfl) G<|stW 0 (us := (cAccount ((⟨ByteArray.empty, (⟨0, 0⟩ : TSpan), 0, 0, [], (⟨0, 0, 0, 0⟩ : TLock)⟩ : TAccount)) (.slice none 0 0))) G G G row_70 G G<|asg G G<|nl<|nx<|rt<|tR<|fRG () [_] (rCT 0 G G G G row_70) (by have q : okKey k = false := (by simpa using h6); rw [new15, newE, q]; rfl) G Sn
 ·
  exact sk<|nx<|sq<|rg<|mv G G<|bd (ps := [(0, .tmp 8)]) (cs := (cAccount ((⟨k, (⟨0, 0⟩ : TSpan), 0, 0, [], (⟨0, 0, 0, 0⟩ : TLock)⟩ : TAccount)) (.slice none 0 0))) (by rfl) (by kernel_rfl) G<|stW 0 (us := (cAccount ((⟨k, (⟨0, 0⟩ : TSpan), 0, 0, [], (⟨0, 0, 0, 0⟩ : TLock)⟩ : TAccount)) (.slice none 0 0))) G G G row_70 G G<|asg G G<|nl<|nx<|rt<|fRG () [_] (rCT 0 G G G G row_70) (by have q : okKey k = true := (by simpa using h6); rw [new15, newE, q]; rfl) G Sn

theorem plain15_c (a : TAccount) (a_0 : Value) (h_a : a.wf) : FnV Tryz.prog 193 [.agg (cAccount a a_0).toArray] [⟨a_0, a.fHolders⟩] (.bool (plain15 a)) := by
 refine Fnc.proof Tryz.func193 G 18 G G fun X w => sq<|rg<|bx G G G fun b1 => asg G G<|nl<|nx<|sq<|rg<|fa G fld_70_0 G<|ldB 0 G G one_9 G G<|cfv (new15_c _) ok_236 G Sn G<|mv G G<|xt G G G ?_
 refine xt G G G<|al zero_70 G fun b3 => stW 0 (us := (cAccount ((new15 a.fKey)) (.slice none 0 0))) G G G row_70 G G<|asg G G<|nl<|nx<|sq<|rg<|mv G G<|eqI G G G<|mv G G ?_
 apply jo [] trivial
 ·
  intro K17
  refine spA (i := 13) G (fun h13 => ?_) (fun h13 => ?_)
  ·
   have p13 := of_decide_eq_true h13
   exact gY G G G<|ldM 1 (cAccount a a_0) G G row_70 G G<|gY G G G<|ldM 0 (cAccount ((new15 a.fKey)) (.slice none 0 0)) G G row_70 G G<|gY G G G<|emL (α := THolder)<|cfv (sameAcc_c _ _ _ _ h_a (new15_wf _)) ok_142 G (Sc 1 G (Sc 0 G Sn)) G<|pkT G G G<|jA K17 h13 trivial (SubD.tail Sr)
  ·
   exact gS (g := [_, _, _]) G<|pkF G G G<|jA0 K17 h13 trivial Sr
 refine asg G G<|nl<|nx<|rt<|dpQ<|dpQ ?_
 exact fR1 () G G (by rfl) G Sn

theorem may19_c (o : TOp) (h_o : o.wf) : FnV Tryz.prog 91 [.agg (cOp o).toArray] [] (.bool (may19 o)) := by
 refine Fnc.proof Tryz.func91 G 50 G G fun X w => sq<|rg<|bx G G G fun b1 => asg G G<|nl<|nx<|sq<|sq<|rg<|fa G fld_34_0 G<|ldB 0 G G one_3 G G<|ltI G G G<|mv G G ?_
 apply jo [(1, _)] ⟨rfl, trivial⟩
 ·
  intro K10
  refine spO (i := 6) G (fun h6 => ?_) (fun h6 => ?_)
  ·
   have p6 := of_decide_eq_false h6
   exact gY G G G<|fa G fld_34_0 G<|gY G G G<|ldB 0 G G one_3 G G<|gY G G G<|gtI G G G<|pkF G G G<|jR K10 h6 ⟨G, trivial⟩ Sr
  ·
   exact gS (g := [_, _, _]) G<|pkT G G G<|jR0 K10 h6 ⟨G, trivial⟩ Sr
 refine mv G G ?_
 apply jo [(1, _)] ⟨rfl, trivial⟩
 ·
  intro K16
  refine spO (i := 11) G (fun h11 => ?_) (fun h11 => ?_)
  ·
   exact gY G G G<|fa G fld_34_1 G<|gY G G G<|ldB 0 G G one_9 G G<|gY G G G<|cfv (key15_c _) ok_168 G Sn G<|gY G G G<|nt G G<|pkF G G G<|jR K16 h11 ⟨G, trivial⟩ Sr
  ·
   exact gS (g := [_, _, _, _]) G<|pkT G G G<|jR0 K16 h11 ⟨G, trivial⟩ Sr
 refine nl<|nx<|cdB G (fun h16 => ?_) (fun h16 => ?_)
 ·
  have e16 : (may19a o) = true := h16
  refine sq<|rg<|asg G G<|nl<|nx<|rt<|tR<|dpQ ?_
  exact fR1 () G G (by rw [may19, e16]; try rfl) G Sn
 ·
  have e16 : (may19a o) = false := h16
  refine sk<|nx<|sq<|sq<|rg<|fa G fld_34_0 G<|ldB 0 G G one_3 G G<|eqI G G G<|mv G G ?_
  apply jo [(1, _)] ⟨rfl, trivial⟩
  ·
   intro K24
   refine spO (i := 20) G (fun h20 => ?_) (fun h20 => ?_)
   ·
    have p20 := of_decide_eq_false h20
    exact gY G G G<|fa G fld_34_0 G<|gY G G G<|ldB 0 G G one_3 G G<|gY G G G<|eqI G G G<|pkF G G G<|jR K24 h20 ⟨G, trivial⟩ Sr
   ·
    exact gS (g := [_, _, _]) G<|pkT G G G<|jR0 K24 h20 ⟨G, trivial⟩ Sr
  refine mv G G ?_
  apply jo [(1, _)] ⟨rfl, trivial⟩
  ·
   intro K29
   refine spO (i := 25) G (fun h25 => ?_) (fun h25 => ?_)
   ·
    exact gY G G G<|fa G fld_34_0 G<|gY G G G<|ldB 0 G G one_3 G G<|gY G G G<|eqI G G G<|pkF G G G<|jR K29 h25 ⟨G, trivial⟩ Sr
   ·
    exact gS (g := [_, _, _]) G<|pkT G G G<|jR0 K29 h25 ⟨G, trivial⟩ Sr
  refine mv G G ?_
  apply jo [(1, _)] ⟨rfl, trivial⟩
  ·
   intro K34
   refine spA (i := 30) G (fun h30 => ?_) (fun h30 => ?_)
   ·
    exact gY G G G<|fa G fld_34_3 G<|gY G G G<|ldB 0 G G one_3 G G<|gY G G G<|ltI G G G<|pkT G G G<|jA K34 h30 ⟨G, trivial⟩ Sr
   ·
    exact gS (g := [_, _, _]) G<|pkF G G G<|jA0 K34 h30 ⟨G, trivial⟩ Sr
  refine nl<|nx<|cdB G (fun h34 => ?_) (fun h34 => ?_)
  ·
   have e34 : (may19b o) = true := h34
   refine sq<|rg<|asg G G<|nl<|nx<|rt<|tR<|dpQ ?_
   exact fR1 () G G (by rw [may19, e16, e34]; try rfl) G Sn
  ·
   have e34 : (may19b o) = false := h34
   refine sk<|nx<|sq<|rg<|fa G fld_34_0 G<|ldB 0 G G one_3 G G<|neI G G G<|mv G G ?_
   apply jo [] trivial
   ·
    intro K49
    refine spO (i := 38) G (fun h38 => ?_) (fun h38 => ?_)
    ·
     have p38 := h38
     simp only [Bool.not_eq_true', Bool.not_eq_false', decide_eq_true_eq, decide_eq_false_iff_not] at p38
     refine gY G G G<|fa G fld_34_2 G<|gY G G G<|ldB 0 G G one_9 G G<|gY G G G<|cfv (key15_c _) ok_168 G Sn G<|gY G G G<|mv G G ?_
     apply jo [(38, _)] ⟨rfl, trivial⟩
     ·
      intro K48
      refine spA (i := 42) G (fun h42 => ?_) (fun h42 => ?_)
      ·
       exact gY G G G<|fa G fld_34_2 G<|gY G G G<|ldB 0 G G one_9 G G<|gY G G G<|fa G fld_34_1 G<|gY G G G<|ldB 0 G G one_9 G G<|gY G G G<|neS G G G<|gY G G G<|pkT G G G<|jA K48 h42 ⟨G, trivial⟩ Sr
      ·
       exact gS (g := [_, _, _, _, _]) G<|gY G G G<|pkF G G G<|jA0 K48 h42 ⟨G, trivial⟩ Sr
     exact pkF G G G<|jR K49 h38 trivial Sr
    ·
     exact gS (g := [_, _, _, _, _, _, _, _, _, _]) G<|pkT G G G<|jR0 K49 h38 trivial Sr
   refine asg G G<|nl<|nx<|rt<|dpQ ?_
   exact fR1 () G G (by rw [may19, e16, e34]; try rfl) G Sn
end Go.Proofs.YtmpoffijcfaalaaGreat

/- Walks, written by specs6.py. -/

namespace Go.Proofs.YtmpoffijcfaalaaGreat
open Go.Eng Go.YtmpoffijcfaalaaGreat
set_option maxHeartbeats 1000000

theorem wof1 (v : Value) (n : Int) : FnV Tryz.prog 210 [v] [⟨v, [n]⟩] (.agg (cWide (wide n)).toArray) := by
 have := wof_c v [n] (by simp)
 rwa [show [n].sum = n by simp] at this
theorem wof2 (v : Value) (m n : Int) : FnV Tryz.prog 210 [v] [⟨v, [m, n]⟩] (.agg (cWide (wide (m + n))).toArray) := by
 have := wof_c v [m, n] (by simp)
 rwa [show [m, n].sum = m + n by simp] at this

theorem ends15_c (a : TAccount) (a_0 : Value) (h_a : a.wf) (hh : holdersP a.fHolders = true) : FnV Tryz.prog 227 [.agg (cAccount a a_0).toArray] [⟨a_0, a.fHolders⟩] (.tuple #[.agg (cWide (wide (downsS a))).toArray, .agg (cWide (wide (upsS a))).toArray]) := by
 refine Fnc.proof Tryz.func227 G 40 G G fun X w => gtC (q := ∀ x ∈ a.fHolders, x.wf) (fun S w h => list_wf (s := sHolder) (h _ (List.mem_of_getElem? (i := 0) G))) fun hW => ?_
 have hl5 := hold_len hh
 refine sq<|rg<|bx G G G fun b1 => al zero_211 G fun b2 => al zero_211 G fun b3 => nl<|nx<|sq ?_
 refine rgH ⟨fun q_ => ([[], [0], [1], [2], [], [4], [5], [6], [], [], [8, 3], [9, 7]] : List (List Nat)).getD q_ [], fun q_ => ([fun _ => True, fun _ => True, fun _ => True, fun _ => True, fun _ => True, fun _ => True, fun _ => True, fun _ => True, fun u => u = .pointer (some ⟨ptrB u, 0, none⟩), fun u => u = .pointer (some ⟨ptrB u, 0, none⟩), fun _ => True, fun _ => True] : List (Value → Prop)).getD q_ (fun _ => True), fun q_ => ([fun _ => [], fun _ => [], fun u => [⟨u, [a.fBase]⟩], fun _ => [], fun _ => [], fun _ => [], fun u => [⟨u, [a.fBase]⟩], fun _ => [], fun _ => [], fun _ => [], fun _ => [], fun _ => []] : List (Value → List Atom)).getD q_ (fun _ => []), fun q_ => ([some (.pointer (some ⟨b1, 3, none⟩)), some (.int .i64 a.fBase), none, some (.agg (cWide ((wide (a.fBase)))).toArray), some (.pointer (some ⟨b1, 3, none⟩)), some (.int .i64 a.fBase), none, some (.agg (cWide ((wide (a.fBase)))).toArray), none, none, none, none] : List (Option Value)).getD q_ none, fun h_ => match h_ with
   | [] => fun vs_ => [bl b3 211 zv7, bl b2 211 zv7, bl b1 70 (cAccount a a_0), fz X w]
   | [8] => fun vs_ => [bl (ptrB (vs_.getD 0 undef)) 211 zv7, bl b3 211 zv7, bl b2 211 zv7, bl b1 70 (cAccount a a_0), fz X w]
   | [9] => fun vs_ => [bl (ptrB (vs_.getD 0 undef)) 211 zv7, bl b3 211 zv7, bl b2 211 zv7, bl b1 70 (cAccount a a_0), fz X w]
   | [8, 9] => fun vs_ => [bl (ptrB (vs_.getD 1 undef)) 211 zv7, bl (ptrB (vs_.getD 0 undef)) 211 zv7, bl b3 211 zv7, bl b2 211 zv7, bl b1 70 (cAccount a a_0), fz X w]
   | [9, 8] => fun vs_ => [bl (ptrB (vs_.getD 0 undef)) 211 zv7, bl (ptrB (vs_.getD 1 undef)) 211 zv7, bl b3 211 zv7, bl b2 211 zv7, bl b1 70 (cAccount a a_0), fz X w]
   | [8, 9, 10] => fun vs_ => [bl (ptrB (vs_.getD 1 undef)) 211 zv7, bl (ptrB (vs_.getD 0 undef)) 211 (cWide ((wide (a.fBase)))), bl b3 211 zv7, bl b2 211 zv7, bl b1 70 (cAccount a a_0), fz X w]
   | [9, 8, 10] => fun vs_ => [bl (ptrB (vs_.getD 0 undef)) 211 zv7, bl (ptrB (vs_.getD 1 undef)) 211 (cWide ((wide (a.fBase)))), bl b3 211 zv7, bl b2 211 zv7, bl b1 70 (cAccount a a_0), fz X w]
   | [8, 9, 10, 11] => fun vs_ => [bl (ptrB (vs_.getD 1 undef)) 211 (cWide ((wide (a.fBase)))), bl (ptrB (vs_.getD 0 undef)) 211 (cWide ((wide (a.fBase)))), bl b3 211 zv7, bl b2 211 zv7, bl b1 70 (cAccount a a_0), fz X w]
   | [9, 8, 10, 11] => fun vs_ => [bl (ptrB (vs_.getD 0 undef)) 211 (cWide ((wide (a.fBase)))), bl (ptrB (vs_.getD 1 undef)) 211 (cWide ((wide (a.fBase)))), bl b3 211 zv7, bl b2 211 zv7, bl b1 70 (cAccount a a_0), fz X w]
   | _ => fun _ => [], [8, 9, 10, 11], [[], [8], [9], [8, 9], [9, 8], [8, 9, 10], [9, 8, 10], [8, 9, 10, 11], [9, 8, 10, 11]]⟩ (fun V => [bl (ptrB (V 9)) 211 (cWide ((wide (a.fBase)))), bl (ptrB (V 8)) 211 (cWide ((wide (a.fBase)))), bl b3 211 zv7, bl b2 211 zv7, bl b1 70 (cAccount a a_0), fz X w]) mixed rfl rfl (show AllP _ [[8, 9, 10, 11], [9, 8, 10, 11]] from ⟨fun _ => rfl, fun _ => rfl, trivial⟩) ?_ ?_
 ·
  refine ⟨fun V De _=>aP5 (fa G fld_70_2 G<|oh G G G G) (fa G fld_70_2 G<|oh G G G G) (fa G fld_70_2 G<|oh G G G G) (fa G fld_70_2 G<|oh G G G G) (fa G fld_70_2 G<|oh G G G G),fun V De _=>aP5 (ldB 2 G G one_3 G G<|oh G G G G) (ldB 3 G G one_3 G G<|oh G G G G) (ldB 3 G G one_3 G G<|oh G G G G) (ldB 4 G G one_3 G G<|oh G G G G) (ldB 4 G G one_3 G G<|oh G G G G),fun V De _=>aP5 (bs1 (xs := [.tmp 8]) (us := [.int .i64 a.fBase]) (E := 3) (bytes := 8) (n := 1) G (by exact app_220) G G G G G G fun b9 => frS (α := Int) [a.fBase] [[.int .i64 (a.fBase)]] G (fun S w h => ⟨⟨G, h_a.2.2.1⟩, trivial⟩) (Nat.le_of_ble_eq_true G)<|nl (odH G G G trivial (Sc 0 G Sn) (SubD.tail Sr))) (bs1 (xs := [.tmp 8]) (us := [.int .i64 a.fBase]) (E := 3) (bytes := 8) (n := 1) G (by exact app_220) G G G G G G fun b9 => frS (α := Int) [a.fBase] [[.int .i64 (a.fBase)]] G (fun S w h => ⟨⟨G, h_a.2.2.1⟩, trivial⟩) (Nat.le_of_ble_eq_true G)<|nl (odH G G G trivial (Sc 0 G Sn) (SubD.tail Sr))) (bs1 (xs := [.tmp 8]) (us := [.int .i64 a.fBase]) (E := 3) (bytes := 8) (n := 1) G (by exact app_220) G G G G G G fun b9 => frS (α := Int) [a.fBase] [[.int .i64 (a.fBase)]] G (fun S w h => ⟨⟨G, h_a.2.2.1⟩, trivial⟩) (Nat.le_of_ble_eq_true G)<|nl (odH G G G trivial (Sc 0 G Sn) (SubD.tail Sr))) (bs1 (xs := [.tmp 8]) (us := [.int .i64 a.fBase]) (E := 3) (bytes := 8) (n := 1) G (by exact app_220) G G G G G G fun b9 => frS (α := Int) [a.fBase] [[.int .i64 (a.fBase)]] G (fun S w h => ⟨⟨G, h_a.2.2.1⟩, trivial⟩) (Nat.le_of_ble_eq_true G)<|nl (odH G G G trivial (Sc 0 G Sn) (SubD.tail Sr))) (bs1 (xs := [.tmp 8]) (us := [.int .i64 a.fBase]) (E := 3) (bytes := 8) (n := 1) G (by exact app_220) G G G G G G fun b9 => frS (α := Int) [a.fBase] [[.int .i64 (a.fBase)]] G (fun S w h => ⟨⟨G, h_a.2.2.1⟩, trivial⟩) (Nat.le_of_ble_eq_true G)<|nl (odH G G G trivial (Sc 0 G Sn) (SubD.tail Sr))),fun V De _=>aP5 (cfv (wof1 _ a.fBase) ok_210 G (Sc 0 G Sn) G<|nl (odH G G G G Sn (SubD.tail Sr))) (cfv (wof1 _ a.fBase) ok_210 G (Sc 0 G Sn) G<|nl (odH G G G G Sn (SubD.tail Sr))) (cfv (wof1 _ a.fBase) ok_210 G (Sc 0 G Sn) G<|nl (odH G G G G Sn (SubD.tail Sr))) (cfv (wof1 _ a.fBase) ok_210 G (Sc 0 G Sn) G<|nl (odH G G G G Sn (SubD.tail Sr))) (cfv (wof1 _ a.fBase) ok_210 G (Sc 0 G Sn) G<|nl (odH G G G G Sn (SubD.tail Sr))),?_⟩
  refine ⟨fun V De _ => (show AllP _ [[], [8], [9], [8, 9], [9, 8], [8, 9, 10], [9, 8, 10]] from ⟨?_, ?_, ?_, ?_, ?_, ?_, ?_, trivial⟩), ?_⟩
  ·
   exact fa G fld_70_2 G<|oh G G G G
  ·
   exact fa G fld_70_2 G<|oh G G G G
  ·
   exact fa G fld_70_2 G<|oh G G G G
  ·
   exact fa G fld_70_2 G<|oh G G G G
  ·
   exact fa G fld_70_2 G<|oh G G G G
  ·
   exact fa G fld_70_2 G<|oh G G G G
  ·
   exact fa G fld_70_2 G<|oh G G G G
  refine ⟨fun V De _ => (show AllP _ [[], [8], [9], [8, 9], [9, 8], [8, 9, 10], [9, 8, 10]] from ⟨?_, ?_, ?_, ?_, ?_, ?_, ?_, trivial⟩), ?_⟩
  ·
   exact ldB 2 G G one_3 G G<|oh G G G G
  ·
   exact ldB 3 G G one_3 G G<|oh G G G G
  ·
   exact ldB 3 G G one_3 G G<|oh G G G G
  ·
   exact ldB 4 G G one_3 G G<|oh G G G G
  ·
   exact ldB 4 G G one_3 G G<|oh G G G G
  ·
   exact ldB 4 G G one_3 G G<|oh G G G G
  ·
   exact ldB 4 G G one_3 G G<|oh G G G G
  refine ⟨fun V De _ => (show AllP _ [[], [8], [9], [8, 9], [9, 8], [8, 9, 10], [9, 8, 10]] from ⟨?_, ?_, ?_, ?_, ?_, ?_, ?_, trivial⟩), ?_⟩
  ·
   exact bs1 (xs := [.tmp 12]) (us := [.int .i64 a.fBase]) (E := 3) (bytes := 8) (n := 1) G (by exact app_220) G G G G G G fun b13 => frS (α := Int) [a.fBase] [[.int .i64 (a.fBase)]] G (fun S w h => ⟨⟨G, h_a.2.2.1⟩, trivial⟩) (Nat.le_of_ble_eq_true G)<|nl (odH G G G trivial (Sc 0 G Sn) (SubD.tail Sr))
  ·
   exact bs1 (xs := [.tmp 12]) (us := [.int .i64 a.fBase]) (E := 3) (bytes := 8) (n := 1) G (by exact app_220) G G G G G G fun b13 => frS (α := Int) [a.fBase] [[.int .i64 (a.fBase)]] G (fun S w h => ⟨⟨G, h_a.2.2.1⟩, trivial⟩) (Nat.le_of_ble_eq_true G)<|nl (odH G G G trivial (Sc 0 G Sn) (SubD.tail Sr))
  ·
   exact bs1 (xs := [.tmp 12]) (us := [.int .i64 a.fBase]) (E := 3) (bytes := 8) (n := 1) G (by exact app_220) G G G G G G fun b13 => frS (α := Int) [a.fBase] [[.int .i64 (a.fBase)]] G (fun S w h => ⟨⟨G, h_a.2.2.1⟩, trivial⟩) (Nat.le_of_ble_eq_true G)<|nl (odH G G G trivial (Sc 0 G Sn) (SubD.tail Sr))
  ·
   exact bs1 (xs := [.tmp 12]) (us := [.int .i64 a.fBase]) (E := 3) (bytes := 8) (n := 1) G (by exact app_220) G G G G G G fun b13 => frS (α := Int) [a.fBase] [[.int .i64 (a.fBase)]] G (fun S w h => ⟨⟨G, h_a.2.2.1⟩, trivial⟩) (Nat.le_of_ble_eq_true G)<|nl (odH G G G trivial (Sc 0 G Sn) (SubD.tail Sr))
  ·
   exact bs1 (xs := [.tmp 12]) (us := [.int .i64 a.fBase]) (E := 3) (bytes := 8) (n := 1) G (by exact app_220) G G G G G G fun b13 => frS (α := Int) [a.fBase] [[.int .i64 (a.fBase)]] G (fun S w h => ⟨⟨G, h_a.2.2.1⟩, trivial⟩) (Nat.le_of_ble_eq_true G)<|nl (odH G G G trivial (Sc 0 G Sn) (SubD.tail Sr))
  ·
   exact bs1 (xs := [.tmp 12]) (us := [.int .i64 a.fBase]) (E := 3) (bytes := 8) (n := 1) G (by exact app_220) G G G G G G fun b13 => frS (α := Int) [a.fBase] [[.int .i64 (a.fBase)]] G (fun S w h => ⟨⟨G, h_a.2.2.1⟩, trivial⟩) (Nat.le_of_ble_eq_true G)<|nl (odH G G G trivial (Sc 0 G Sn) (SubD.tail Sr))
  ·
   exact bs1 (xs := [.tmp 12]) (us := [.int .i64 a.fBase]) (E := 3) (bytes := 8) (n := 1) G (by exact app_220) G G G G G G fun b13 => frS (α := Int) [a.fBase] [[.int .i64 (a.fBase)]] G (fun S w h => ⟨⟨G, h_a.2.2.1⟩, trivial⟩) (Nat.le_of_ble_eq_true G)<|nl (odH G G G trivial (Sc 0 G Sn) (SubD.tail Sr))
  refine ⟨fun V De _=>aP5 (cfv (wof1 _ a.fBase) ok_210 G (Sc 0 G Sn) G<|nl (odH G G G G Sn (SubD.tail Sr))) (cfv (wof1 _ a.fBase) ok_210 G (Sc 0 G Sn) G<|nl (odH G G G G Sn (SubD.tail Sr))) (cfv (wof1 _ a.fBase) ok_210 G (Sc 0 G Sn) G<|nl (odH G G G G Sn (SubD.tail Sr))) (cfv (wof1 _ a.fBase) ok_210 G (Sc 0 G Sn) G<|nl (odH G G G G Sn (SubD.tail Sr))) (cfv (wof1 _ a.fBase) ok_210 G (Sc 0 G Sn) G<|nl (odH G G G G Sn (SubD.tail Sr))),fun V De _=>aP2 (al zero_211 G fun b4 => oh G G G G) (al zero_211 G fun b4 => mtL 4 G<|mtL 4 G<|mtL 4 G<|mtL 3 G<|mtL 4 G<|oh G G G G),fun V De _=>aP2 (al zero_211 G fun b5 => oh G G G G) (al zero_211 G fun b5 => oh G G G G),?_⟩
  refine ⟨fun V De hV => (show AllP _ [[8, 9], [9, 8]] from ⟨?_, ?_, trivial⟩), ?_⟩
  ·
   exact stW 1 (us := (cWide ((wide (a.fBase))))) (congrArg some (hV.mem 8 (show 8 ∈ [8, 3] from by decide) G)) G G row_211 G G<|oh0 G G
  ·
   exact stW 1 (us := (cWide ((wide (a.fBase))))) (congrArg some (hV.mem 8 (show 8 ∈ [8, 3] from by decide) G)) G G row_211 G G<|oh0 G G
  refine ⟨fun V De hV => (show AllP _ [[8, 9, 10], [9, 8, 10]] from ⟨?_, ?_, trivial⟩), ?_⟩
  ·
   exact stW 0 (us := (cWide ((wide (a.fBase))))) (congrArg some (hV.mem 9 (show 9 ∈ [9, 7] from by decide) G)) G G row_211 G G<|oh0 G G
  ·
   exact stW 0 (us := (cWide ((wide (a.fBase))))) (congrArg some (hV.mem 9 (show 9 ∈ [9, 7] from by decide) G)) G G row_211 G G<|oh0 G G
  trivial
 ·
  intro V hV
  refine wkQ (L := [bl (ptrB (V 9)) 211 (cWide ((wide (a.fBase)))), bl (ptrB (V 8)) 211 (cWide ((wide (a.fBase)))), bl b3 211 zv7, bl b2 211 zv7, bl b1 70 (cAccount a a_0), fz X w]) [(1, _), (2, _), (3, _), (4, V 8), (5, V 9)] [_] ⟨G, G, G, G, G, trivial⟩ (Sc 2 G Sn) ?_
  obtain ⟨b4, hb4⟩ : ∃ b, V 8 = .pointer (some ⟨b, 0, none⟩) := ⟨_, hV.mem 8 (by decide) rfl rfl⟩
  obtain ⟨b5, hb5⟩ : ∃ b, V 9 = .pointer (some ⟨b, 0, none⟩) := ⟨_, hV.mem 9 (by decide) rfl rfl⟩
  simp only [hb4, hb5, ptrB_mk]
  refine nx<|sq<|sq<|rg<|asg G G<|nl<|nx<|bk<|lpE (σ := Nat) [(1, _), (2, _), (3, _), (4, _), (5, _)] _ (fun i C => (6, .int .i64 (i : Int)) :: C) (fun i => [bl b5 211 (cWide (wide (accS (fun h => h.fUp) a.fBase a.fHolders i))), bl b4 211 (cWide (wide (accN (fun h => h.fDown) a.fBase a.fHolders i))), bl b3 211 zv7, bl b2 211 zv7, bl b1 70 (cAccount a a_0), fz X w]) (fun _ Dc => Dc) (fun i => i ≤ a.fHolders.length) (fun i => a.fHolders.length - i) 0 ⟨G, G, G, G, G, trivial⟩ (Sc 0 G Sn) (Nat.zero_le _) ⟨G, G, G, G, G, G, trivial⟩ G (Sc 0 G Sn) ?_
  intro i hi
  refine sq<|sq<|rg<|mv G G<|fa G fld_70_4 G<|ldB 4 G G one_66 G G<|lnP 0 G G Tryz.underlying66 G fun l18 => ltI G G G<|nl<|nx<|cdP G (fun h19 => ?_) (fun h19 => ?_)
  ·
   have hwi := hW _ (getD_mem (l := a.fHolders) (i := i) (by omega))
   have hb1 := lim6 (i := i) (by omega) (accN_bd (l := a.fHolders) h_a.2.2.1 (fun x hx => (hW x hx).2.2.2) i hi)
   have hb2 := lim6 (i := i) (by omega) (accS_bd (l := a.fHolders) h_a.2.2.1 (fun x hx => (hW x hx).2.2.1) i hi)
   refine sk<|nx<|sq<|bk ?_
   refine rgH ⟨fun q_ => ([[], [], [1], [], [2, 3], [4], [5], [0, 6], [], [], [9], [], [10, 11], [12], [13], [8, 14], [7], [15]] : List (List Nat)).getD q_ [], fun _ _ => True, fun q_ => ([fun _ => [], fun _ => [], fun _ => [], fun _ => [], fun u => [⟨u, (⟨(a.fHolders.getD i default)⟩ : Pt THolder)⟩], fun u => [⟨u, (⟨(a.fHolders.getD i default).fDown⟩ : Pt Int)⟩], fun _ => [], fun _ => [], fun _ => [], fun _ => [], fun _ => [], fun _ => [], fun u => [⟨u, (⟨(a.fHolders.getD i default)⟩ : Pt THolder)⟩], fun u => [⟨u, (⟨(a.fHolders.getD i default).fUp⟩ : Pt Int)⟩], fun _ => [], fun _ => [], fun _ => [], fun _ => []] : List (Value → List Atom)).getD q_ (fun _ => []), fun q_ => ([some (.agg (cWide ((wide (accN (fun h => h.fDown) a.fBase a.fHolders i)))).toArray), some (.pointer (some ⟨b1, 5, none⟩)), some (a_0), some (.int .i64 ((i : Int))), none, none, some (.int .i64 ((a.fHolders.getD i default).fDown)), some (.agg (cWide ((wide ((accN (fun h => h.fDown) a.fBase a.fHolders i) - (a.fHolders.getD i default).fDown)))).toArray), some (.agg (cWide ((wide (accS (fun h => h.fUp) a.fBase a.fHolders i)))).toArray), some (.pointer (some ⟨b1, 5, none⟩)), some (a_0), some (.int .i64 ((i : Int))), none, none, some (.int .i64 ((a.fHolders.getD i default).fUp)), some (.agg (cWide ((wide ((accS (fun h => h.fUp) a.fBase a.fHolders i) + (a.fHolders.getD i default).fUp)))).toArray), none, none] : List (Option Value)).getD q_ none, fun h_ => match h_ with
     | [] => fun vs_ => [bl b5 211 (cWide ((wide (accS (fun h => h.fUp) a.fBase a.fHolders i)))), bl b4 211 (cWide ((wide (accN (fun h => h.fDown) a.fBase a.fHolders i)))), bl b3 211 zv7, bl b2 211 zv7, bl b1 70 (cAccount a a_0), fz X w]
     | [16] => fun vs_ => [bl b5 211 (cWide ((wide (accS (fun h => h.fUp) a.fBase a.fHolders i)))), bl b4 211 (cWide ((wide ((accN (fun h => h.fDown) a.fBase a.fHolders i) - (a.fHolders.getD i default).fDown)))), bl b3 211 zv7, bl b2 211 zv7, bl b1 70 (cAccount a a_0), fz X w]
     | [16, 17] => fun vs_ => [bl b5 211 (cWide ((wide ((accS (fun h => h.fUp) a.fBase a.fHolders i) + (a.fHolders.getD i default).fUp)))), bl b4 211 (cWide ((wide ((accN (fun h => h.fDown) a.fBase a.fHolders i) - (a.fHolders.getD i default).fDown)))), bl b3 211 zv7, bl b2 211 zv7, bl b1 70 (cAccount a a_0), fz X w]
     | _ => fun _ => [], [16, 17], [[], [16], [16, 17]]⟩ (fun V => [bl b5 211 (cWide ((wide ((accS (fun h => h.fUp) a.fBase a.fHolders i) + (a.fHolders.getD i default).fUp)))), bl b4 211 (cWide ((wide ((accN (fun h => h.fDown) a.fBase a.fHolders i) - (a.fHolders.getD i default).fDown)))), bl b3 211 zv7, bl b2 211 zv7, bl b1 70 (cAccount a a_0), fz X w]) mixed rfl rfl (show AllP _ [[16, 17]] from ⟨fun _ => rfl, trivial⟩) ?_ ?_
   ·
    refine ⟨fun V De _=>aP1 (ldM 1 (cWide ((wide (accN (fun h => h.fDown) a.fBase a.fHolders i)))) G G row_211 G G<|oh G G G G),fun V De _=>aP1 (fa G fld_70_4 G<|oh G G G G),fun V De _=>aP1 (ldB 4 G G one_66 G G<|oh G G G G),fun V De _=>aP1 (mv G G<|oh G G G G),fun V De _=>aP1 (ixP 0 G G G slt_66 (by omega) (getDE (d := default) (by omega)) G fun v26 => nl (odH G G G trivial (Sc 0 G Sn) (SubD.tail Sr))),fun V De _=>aP1 (faP (α := THolder) (β := Int) 0 (fun x : THolder => x.fDown) G G fld_165_3 pHolder_3 G fun v27 => nl (odH G G G trivial (Sc 0 G Sn) (SubD.tail (SubD.tail Sr)))),?_⟩
    refine ⟨fun V De _ => (show AllP _ [[]] from ⟨?_, trivial⟩), ?_⟩
    ·
     refine ldV 0 G G one_3 G fun w28 => ?_
     exact nl (odH G G G G Sn (SubD.tail Sr))
    refine ⟨fun V De _=>aP1 (cfv (less_c (accN (fun h => h.fDown) a.fBase a.fHolders i) (a.fHolders.getD i default).fDown hb1 hwi.2.2.2) ok_229 G Sn G<|oh G G G G),fun V De _=>aP2 (ldM 0 (cWide ((wide (accS (fun h => h.fUp) a.fBase a.fHolders i)))) G G row_211 G G<|oh G G G G) (ldM 0 (cWide ((wide (accS (fun h => h.fUp) a.fBase a.fHolders i)))) G G row_211 G G<|oh G G G G),fun V De _=>aP2 (fa G fld_70_4 G<|oh G G G G) (fa G fld_70_4 G<|oh G G G G),fun V De _=>aP2 (ldB 4 G G one_66 G G<|oh G G G G) (ldB 4 G G one_66 G G<|oh G G G G),fun V De _=>aP2 (mv G G<|oh G G G G) (mv G G<|oh G G G G),fun V De _=>aP2 (ixP 0 G G G slt_66 (by omega) (getDE (d := default) (by omega)) G fun v34 => nl (odH G G G trivial (Sc 0 G Sn) (SubD.tail Sr))) (ixP 0 G G G slt_66 (by omega) (getDE (d := default) (by omega)) G fun v34 => nl (odH G G G trivial (Sc 0 G Sn) (SubD.tail Sr))),fun V De _=>aP2 (faP (α := THolder) (β := Int) 0 (fun x : THolder => x.fUp) G G fld_165_2 pHolder_2 G fun v35 => nl (odH G G G trivial (Sc 0 G Sn) (SubD.tail (SubD.tail Sr)))) (faP (α := THolder) (β := Int) 0 (fun x : THolder => x.fUp) G G fld_165_2 pHolder_2 G fun v35 => nl (odH G G G trivial (Sc 0 G Sn) (SubD.tail (SubD.tail Sr)))),?_⟩
    refine ⟨fun V De _ => (show AllP _ [[], [16]] from ⟨?_, ?_, trivial⟩), ?_⟩
    ·
     refine ldV 0 G G one_3 G fun w36 => ?_
     exact nl (odH G G G G Sn (SubD.tail Sr))
    ·
     refine ldV 0 G G one_3 G fun w36 => ?_
     exact nl (odH G G G G Sn (SubD.tail Sr))
    exact ⟨fun V De _=>aP1 (cfv (plus_c (accS (fun h => h.fUp) a.fBase a.fHolders i) (a.fHolders.getD i default).fUp hb2.w hwi.2.2.1) ok_211 G Sn G<|oh G G G G),fun V De _=>aP1 (stW 1 (us := (cWide ((wide ((accN (fun h => h.fDown) a.fBase a.fHolders i) - (a.fHolders.getD i default).fDown))))) G G G row_211 G G<|oh0 G G),fun V De _=>aP1 (stW 0 (us := (cWide ((wide ((accS (fun h => h.fUp) a.fBase a.fHolders i) + (a.fHolders.getD i default).fUp))))) G G G row_211 G G<|oh0 G G),trivial⟩
   ·
    intro V _
    refine wkQ (L := [bl b5 211 (cWide ((wide ((accS (fun h => h.fUp) a.fBase a.fHolders i) + (a.fHolders.getD i default).fUp)))), bl b4 211 (cWide ((wide ((accN (fun h => h.fDown) a.fBase a.fHolders i) - (a.fHolders.getD i default).fDown)))), bl b3 211 zv7, bl b2 211 zv7, bl b1 70 (cAccount a a_0), fz X w]) [(1, _), (2, _), (3, _), (4, _), (5, _), (6, _)] [_] ⟨G, G, G, G, G, G, trivial⟩ (Sc 4 G Sn)<|bN<|nx<|rg<|mv G G<|adI G G (inI (by omega) (by omega)) G<|asg G G<|nl ?_
    exact ag (i + 1) (by omega) (by omega) ⟨G, G, G, G, G, G, trivial⟩ G (Sc 0 G Sn)
  ·
   refine ex<|tE<|tE<|bE<|nx<|sq ?_
   refine rgH ⟨fun q_ => ([[], [], [0], [1]] : List (List Nat)).getD q_ [], fun _ _ => True, fun _ _ => [], fun q_ => ([some (.agg (cWide ((wide (accN (fun h => h.fDown) a.fBase a.fHolders i)))).toArray), some (.agg (cWide ((wide (accS (fun h => h.fUp) a.fBase a.fHolders i)))).toArray), none, none] : List (Option Value)).getD q_ none, fun h_ => match h_ with
     | [] => fun vs_ => [bl b5 211 (cWide ((wide (accS (fun h => h.fUp) a.fBase a.fHolders i)))), bl b4 211 (cWide ((wide (accN (fun h => h.fDown) a.fBase a.fHolders i)))), bl b3 211 zv7, bl b2 211 zv7, bl b1 70 (cAccount a a_0), fz X w]
     | [2] => fun vs_ => [bl b5 211 (cWide ((wide (accS (fun h => h.fUp) a.fBase a.fHolders i)))), bl b4 211 (cWide ((wide (accN (fun h => h.fDown) a.fBase a.fHolders i)))), bl b3 211 zv7, bl b2 211 (cWide ((wide (accN (fun h => h.fDown) a.fBase a.fHolders i)))), bl b1 70 (cAccount a a_0), fz X w]
     | [2, 3] => fun vs_ => [bl b5 211 (cWide ((wide (accS (fun h => h.fUp) a.fBase a.fHolders i)))), bl b4 211 (cWide ((wide (accN (fun h => h.fDown) a.fBase a.fHolders i)))), bl b3 211 (cWide ((wide (accS (fun h => h.fUp) a.fBase a.fHolders i)))), bl b2 211 (cWide ((wide (accN (fun h => h.fDown) a.fBase a.fHolders i)))), bl b1 70 (cAccount a a_0), fz X w]
     | _ => fun _ => [], [2, 3], [[], [2], [2, 3]]⟩ (fun V => [bl b5 211 (cWide ((wide (accS (fun h => h.fUp) a.fBase a.fHolders i)))), bl b4 211 (cWide ((wide (accN (fun h => h.fDown) a.fBase a.fHolders i)))), bl b3 211 (cWide ((wide (accS (fun h => h.fUp) a.fBase a.fHolders i)))), bl b2 211 (cWide ((wide (accN (fun h => h.fDown) a.fBase a.fHolders i)))), bl b1 70 (cAccount a a_0), fz X w]) mixed rfl rfl (show AllP _ [[2, 3]] from ⟨fun _ => rfl, trivial⟩) ?_ ?_
   ·
    exact ⟨fun V De _=>aP1 (ldM 1 (cWide ((wide (accN (fun h => h.fDown) a.fBase a.fHolders i)))) G G row_211 G G<|oh G G G G),fun V De _=>aP2 (ldM 0 (cWide ((wide (accS (fun h => h.fUp) a.fBase a.fHolders i)))) G G row_211 G G<|oh G G G G) (ldM 0 (cWide ((wide (accS (fun h => h.fUp) a.fBase a.fHolders i)))) G G row_211 G G<|oh G G G G),fun V De _=>aP1 (stW 3 (us := (cWide ((wide (accN (fun h => h.fDown) a.fBase a.fHolders i))))) G G G row_211 G G<|oh0 G G),fun V De _=>aP1 (stW 2 (us := (cWide ((wide (accS (fun h => h.fUp) a.fBase a.fHolders i))))) G G G row_211 G G<|oh0 G G),trivial⟩
   ·
    intro V _
    exact wkQ (L := [bl b5 211 (cWide ((wide (accS (fun h => h.fUp) a.fBase a.fHolders i)))), bl b4 211 (cWide ((wide (accN (fun h => h.fDown) a.fBase a.fHolders i)))), bl b3 211 (cWide ((wide (accS (fun h => h.fUp) a.fBase a.fHolders i)))), bl b2 211 (cWide ((wide (accN (fun h => h.fDown) a.fBase a.fHolders i)))), bl b1 70 (cAccount a a_0), fz X w]) [(2, _), (3, _)] [_] ⟨G, G, trivial⟩ (Sc 0 G Sn)<|nx<|rt<|fRG () [_, _, _, _, _] (rCC 3 2 G G G G G row_211 row_211) (by have e : i = a.fHolders.length := (by omega); subst e; rw [accS_ups, accN_downs]; try rfl) G Sn
end Go.Proofs.YtmpoffijcfaalaaGreat

/- Walks, written by specs6.py. -/

namespace Go.Proofs.YtmpoffijcfaalaaGreat
open Go.Eng Go.YtmpoffijcfaalaaGreat
set_option maxHeartbeats 1000000

theorem right15_c (a : TAccount) (a_0 : Value) (h_a : a.wf) : FnV Tryz.prog 171 [.agg (cAccount a a_0).toArray] [⟨a_0, a.fHolders⟩] (.bool (right15 a)) := by
 refine Fnc.proof Tryz.func171 G 121 G G fun X w => gtC (q := ∀ x ∈ a.fHolders, x.wf) (fun S w h => list_wf (s := sHolder) (h _ (List.mem_of_getElem? (i := 0) G))) fun hW => sq<|rg<|bx G G G fun b1 => asg G G<|nl<|nx<|sq<|sq<|rg<|fa G fld_70_0 G<|ldB 0 G G one_9 G G<|cfv (key15_c _) ok_168 G Sn G ?_
 refine nt G G<|mv G G ?_
 apply jo [(1, _)] ⟨rfl, trivial⟩
 ·
  intro K21
  refine spO (i := 14) G (fun h14 => ?_) (fun h14 => ?_)
  ·
   exact gY G G G<|fa G fld_70_1 G<|gY G G G<|ldM 0 (cSpan a.fSpan) G G row_65 G G<|gY G G G<|fa G fld_70_2 G<|gY G G G<|ldB 0 G G one_3 G G<|gY G G G<|cfv (has01_c _ _ h_a.2.1 h_a.2.2.1) ok_153 G Sn G<|gY G G G<|nt G G<|pkF G G G<|jR K21 h14 ⟨G, trivial⟩ Sr
  ·
   exact gS (g := [_, _, _, _, _, _]) G<|pkT G G G<|jR0 K21 h14 ⟨G, trivial⟩ Sr
 refine mv G G ?_
 apply jo [(1, _)] ⟨rfl, trivial⟩
 ·
  intro K26
  refine spO (i := 22) G (fun h22 => ?_) (fun h22 => ?_)
  ·
   exact gY G G G<|fa G fld_70_3 G<|gY G G G<|ldB 0 G G one_3 G G<|gY G G G<|ltI G G G<|pkF G G G<|jR K26 h22 ⟨G, trivial⟩ Sr
  ·
   exact gS (g := [_, _, _]) G<|pkT G G G<|jR0 K26 h22 ⟨G, trivial⟩ Sr
 refine nl<|nx<|cdB G (fun h26 => ?_) (fun h26 => ?_)
 ·
  have e26 : (r15a a) = true := h26
  refine sq<|rg<|asg G G<|nl<|nx<|rt<|tR<|dpQ ?_
  exact fR1 () G G (by rw [right15, if_pos e26]) G Sn
 ·
  have e26 : (r15a a) = false := h26
  refine sk<|nx<|sq<|rg<|asg G G<|nl<|nx<|sq<|sq<|rg<|asg G G<|nl<|nx<|bk ?_
  refine lpC (σ := Nat) [(1, _)] _ (fun i C => (4, .int .i64 (i : Int)) :: (3, .int .i64 (prevI (fun k => (a.fHolders.getD k default).fNode) i)) :: C) (fun i => i ≤ a.fHolders.length ∧ (∀ j, j < i → (!holdP (prevI (fun k => (a.fHolders.getD k default).fNode) j) (a.fHolders.getD j default)) = true)) (fun i => a.fHolders.length - i) 0 ⟨G, trivial⟩ (Sc 0 G Sn) ⟨Nat.zero_le _, fun j hj => absurd hj (Nat.not_lt_zero j)⟩ ⟨G, G, G, trivial⟩ ?_
  rintro i ⟨hi, hall⟩
  refine sq<|sq<|rg<|mv G G<|fa G fld_70_4 G<|ldB 0 G G one_66 G G<|lnP 0 G G Tryz.underlying66 G fun l30 => ltI G G G<|nl<|nx<|cdP G (fun h31 => ?_) (fun h31 => ?_)
  ·
   refine sk<|nx<|sq<|bk<|sq<|rg<|fa G fld_70_4 G<|ldB 0 G G one_66 G G<|mv G G<|ixP 0 G G G slt_66 (by omega) (getDE (d := default) (by omega)) G fun v37 => ldS 0 G G row_165 G fun q38 w38 => ?_
   refine al zero_165 G fun b5 => stW 0 (us := (cHolder ((a.fHolders.getD i default)))) G G G row_165 G G<|nl<|nx<|sq<|sq<|rg<|fa G fld_165_0 G<|ldB 0 G G one_3 G G<|mv G G<|leI G G G<|mv G G ?_
   apply jo [(1, _), (4, _), (5, _)] ⟨rfl, rfl, rfl, trivial⟩
   ·
    intro K47
    refine spO (i := 43) G (fun h43 => ?_) (fun h43 => ?_)
    ·
     have p43 := of_decide_eq_false h43
     exact gY G G G<|fa G fld_165_0 G<|gY G G G<|ldB 0 G G one_3 G G<|gY G G G<|gtI G G G<|pkF G G G<|jR K47 h43 ⟨G, G, G, trivial⟩ Sr
    ·
     exact gS (g := [_, _, _]) G<|pkT G G G<|jR0 K47 h43 ⟨G, G, G, trivial⟩ Sr
   refine mv G G ?_
   apply jo [(1, _), (4, _), (5, _)] ⟨rfl, rfl, rfl, trivial⟩
   ·
    intro K52
    refine spO (i := 48) G (fun h48 => ?_) (fun h48 => ?_)
    ·
     exact gY G G G<|fa G fld_165_1 G<|gY G G G<|ldB 0 G G one_3 G G<|gY G G G<|ltI G G G<|pkF G G G<|jR K52 h48 ⟨G, G, G, trivial⟩ Sr
    ·
     exact gS (g := [_, _, _]) G<|pkT G G G<|jR0 K52 h48 ⟨G, G, G, trivial⟩ Sr
   refine mv G G ?_
   apply jo [(1, _), (4, _), (5, _)] ⟨rfl, rfl, rfl, trivial⟩
   ·
    intro K57
    refine spO (i := 53) G (fun h53 => ?_) (fun h53 => ?_)
    ·
     exact gY G G G<|fa G fld_165_2 G<|gY G G G<|ldB 0 G G one_3 G G<|gY G G G<|ltI G G G<|pkF G G G<|jR K57 h53 ⟨G, G, G, trivial⟩ Sr
    ·
     exact gS (g := [_, _, _]) G<|pkT G G G<|jR0 K57 h53 ⟨G, G, G, trivial⟩ Sr
   refine mv G G ?_
   apply jo [(1, _), (4, _), (5, _)] ⟨rfl, rfl, rfl, trivial⟩
   ·
    intro K62
    refine spO (i := 58) G (fun h58 => ?_) (fun h58 => ?_)
    ·
     exact gY G G G<|fa G fld_165_3 G<|gY G G G<|ldB 0 G G one_3 G G<|gY G G G<|ltI G G G<|pkF G G G<|jR K62 h58 ⟨G, G, G, trivial⟩ Sr
    ·
     exact gS (g := [_, _, _]) G<|pkT G G G<|jR0 K62 h58 ⟨G, G, G, trivial⟩ Sr
   refine nl<|nx<|cdB G (fun h62 => ?_) (fun h62 => ?_)
   ·
    refine sq<|rg<|asg G G<|nl<|nx<|rt<|tR<|bR<|tR<|tR<|bR<|tR<|dpQ<|dpQ ?_
    exact fR1 () G G (by rw [right15, if_neg (by rw [e26]; decide), if_neg (by rw [holdersP, allI_false i (by omega) (not_t h62)]; decide)]) G Sn
   ·
    refine sk<|nx<|rg<|fa G fld_165_0 G<|ldB 0 G G one_3 G G<|asg G G<|nl<|bN<|nx<|rg<|mv G G<|adI G G (inI (by omega) (by omega)) G<|asg G G<|nl ?_
    refine dpQ ?_
    exact ag (i + 1) ⟨(by omega), (all_snoc hall (not_f h62))⟩ (by omega) ⟨G, G, G, trivial⟩ G (Sc 2 G Sn)
  ·
   have hh : holdersP a.fHolders = true := allI_true (fun j hj => hall j (by omega))
   have hb1 := ups_BV h_a hW hh
   have hb2 := downs_BV h_a hW hh
   refine ex<|tE<|tE<|bE<|nx<|sq<|rg<|ldM 0 (cAccount a a_0) G G row_70 G G<|cfv (ends15_c a a_0 h_a hh) ok_227 G (Sc 0 G Sn) G<|mv G G<|xt G G G<|xt G G G<|al zero_211 G fun b6 => al zero_211 G fun b7 => ?_
   refine stW 1 (us := (cWide ((wide (downsS a))))) G G G row_211 G G<|stW 0 (us := (cWide ((wide (upsS a))))) G G G row_211 G G<|nl<|nx<|sq<|sq<|rg<|ldM 0 (cWide ((wide (upsS a)))) G G row_211 G G<|fa G fld_70_1 G<|fa G fld_65_1 G<|ldB 2 G G one_3 G G<|cfv (above_c (upsS a) a.fSpan.fHi hb1 h_a.2.1.2) ok_228 G Sn G<|mv G G ?_
   apply jo [(1, _)] ⟨rfl, trivial⟩
   ·
    intro K83
    refine spO (i := 75) G (fun h75 => ?_) (fun h75 => ?_)
    ·
     refine gY G G G<|ldM 1 (cWide ((wide (downsS a)))) G G row_211 G G<|gY G G G<|fa G fld_70_1 G<|gY G G G<|fa G fld_65_0 G<|gY G G G<|ldB 2 G G one_3 G G<|gY G G G<|cfv (less_c (downsS a) a.fSpan.fLo hb2 h_a.2.1.1) ok_229 G Sn G<|gY G G G<|fd G fdv_211_0 G G<|gY G G G<|ltI G G G ?_
     exact pkF G G G<|jR K83 h75 ⟨G, trivial⟩ Sr
    ·
     exact gS (g := [_, _, _, _, _, _, _]) G<|pkT G G G<|jR0 K83 h75 ⟨G, trivial⟩ Sr
   refine nl<|nx<|cdB G (fun h83 => ?_) (fun h83 => ?_)
   ·
    have e83 : (r15b a) = true := h83
    refine sq<|rg<|asg G G<|nl<|nx<|rt<|tR<|dpQ<|dpQ<|dpQ ?_
    exact fR1 () G G (by rw [right15, if_neg (by rw [e26]; decide), if_pos hh, if_pos e83]) G Sn
   ·
    have e83 : (r15b a) = false := h83
    refine sk<|nx<|sq<|sq<|rg<|fa G fld_70_5 G<|fa G fld_68_0 G<|ldB 2 G G one_3 G G<|eqI G G G<|nl<|nx<|cdP G (fun h87 => ?_) (fun h87 => ?_)
    ·
     have e87 : (decide (a.fLock.fClient = 0)) = true := (decide_eq_true h87)
     refine sq<|rg<|fa G fld_70_5 G<|ldM 2 (cLock a.fLock) G G row_68 G G<|bd (ps := []) (cs := (cLock ((⟨0, 0, 0, 0⟩ : TLock)))) (by rfl) (by kernel_rfl) G<|eqT eq_Lock (a.fLock) ((⟨0, 0, 0, 0⟩ : TLock)) G G G<|asg G G<|nl<|nx<|rt<|tR<|dpQ<|dpQ<|dpQ ?_
     exact fR1 () G G (by rw [right15, if_neg (by rw [e26]; decide), if_pos hh, if_neg (by rw [e83]; decide), if_pos e87]; try rfl) G Sn
    ·
     have e87 : (decide (a.fLock.fClient = 0)) = false := (decide_eq_false h87)
     refine sk<|nx<|sq<|rg<|fa G fld_70_2 G<|ldB 2 G G one_3 G G<|fa G fld_70_5 G<|fa G fld_68_3 G<|ldB 2 G G one_3 G G<|bs1 (xs := [.tmp 94, .tmp 97]) (us := [.int .i64 a.fBase, .int .i64 a.fLock.fN]) (E := 3) (bytes := 8) (n := 2) G (by exact app_220) G G G G G G fun b98 => frS (α := Int) [a.fBase, a.fLock.fN] [[.int .i64 (a.fBase)], [.int .i64 (a.fLock.fN)]] G (fun S w h => ⟨⟨G, h_a.2.2.1⟩, ⟨G, h_a.2.2.2.2.2.2.2.2⟩, trivial⟩) (Nat.le_of_ble_eq_true G)<|cfv (wof2 _ a.fBase a.fLock.fN) ok_210 G (Sc 0 G Sn) G<|cfv (wint_c (a.fBase + a.fLock.fN) (sum2_BW h_a)) ok_152 G Sn G<|mv G G ?_
     refine xt G G G<|xt G G G<|asg G G<|asg G G<|nl<|nx<|sq<|rg<|fa G fld_70_5 G<|ldM 2 (cLock a.fLock) G G row_68 G G<|cfv (locked15_c _ h_a.2.2.2.2.2) ok_230 G Sn G<|mv G G ?_
     apply jo [(1, _), (8, _), (9, _)] ⟨rfl, rfl, rfl, trivial⟩
     ·
      intro K111
      refine spA (i := 106) G (fun h106 => ?_) (fun h106 => ?_)
      ·
       exact gY G G G<|fa G fld_70_4 G<|gY G G G<|ldB 2 G G one_66 G G<|gY G G G<|lnP 1 G G Tryz.underlying66 G fun l109 => gY G G G<|eqI G G G<|pkT G G G<|jA K111 h106 ⟨G, G, G, trivial⟩ Sr
      ·
       exact gS (g := [_, _, _, _]) G<|pkF G G G<|jA0 K111 h106 ⟨G, G, G, trivial⟩ Sr
     refine mv G G ?_
     apply jo [(1, _), (8, _)] ⟨rfl, rfl, trivial⟩
     ·
      intro K114
      refine spA (i := 112) G (fun h112 => ?_) (fun h112 => ?_)
      ·
       exact gY G G G<|mv G G<|pkT G G G<|jA K114 h112 ⟨G, G, trivial⟩ Sr
      ·
       exact gS (g := [_]) G<|pkF G G G<|jA0 K114 h112 ⟨G, G, trivial⟩ Sr
     refine mv G G ?_
     apply jo [] trivial
     ·
      intro K120
      refine spA (i := 115) G (fun h115 => ?_) (fun h115 => ?_)
      ·
       exact gY G G G<|fa G fld_70_1 G<|gY G G G<|ldM 2 (cSpan a.fSpan) G G row_65 G G<|gY G G G<|mv G G<|gY G G G<|cfv (has01_c _ _ h_a.2.1 (wrapi_in _)) ok_153 G Sn G<|pkT G G G<|jA K120 h115 trivial Sr
      ·
       exact gS (g := [_, _, _, _]) G<|pkF G G G<|jA0 K120 h115 trivial Sr
     refine asg G G<|nl<|nx<|rt<|dpQ<|dpQ<|dpQ ?_
     exact fR1 () G G (by rw [right15, if_neg (by rw [e26]; decide), if_pos hh, if_neg (by rw [e83]; decide), if_neg (by rw [e87]; decide)]; try rfl) G Sn

theorem rising19_c (v_l : Value) (l : List TAccount) : FnV Tryz.prog 135 [v_l] [⟨v_l, l⟩] (.bool (rising19 l)) := by
 refine Fnc.proof Tryz.func135 G 44 G G fun X w => gtC (q := l.length ≤ 9223372036854775807) (fun S w h => list_len (h _ (List.mem_of_getElem? (i := 0) G))) fun hlen => sq<|rg<|asg G G<|nl<|nx<|sq<|sq<|rg<|asg G G<|nl<|nx<|bk ?_
 refine lpC (σ := Nat) [(0, _)] _ (fun i C => (3, .int .i64 (i : Int)) :: C) (fun i => i ≤ l.length ∧ (∀ j, j < i → (!risj l j) = true)) (fun i => l.length - i) 0 ⟨G, trivial⟩ (Sc 0 G Sn) ⟨Nat.zero_le _, fun j hj => absurd hj (Nat.not_lt_zero j)⟩ ⟨G, G, trivial⟩ ?_
 rintro i ⟨hi, hall⟩
 refine sq<|sq<|rg<|mv G G<|mv G G<|lnP 0 G G Tryz.underlying50 G fun l6 => ltI G G G<|nl<|nx<|cdP G (fun h7 => ?_) (fun h7 => ?_)
 ·
  refine sk<|nx<|sq<|bk<|sq<|rgQ mixed (by kernel_rfl)<|mv G G<|mv G G<|ixP 0 G G G slt_50 (by omega) (getDE (d := default) (by omega)) G fun v12 => ldS 0 G G row_70 G fun q13 w13 => ?_
  refine cfq (right15_c _ _ w13) ok_171 G (Sc 1 G Sn) G<|nt G G<|mv G G ?_
  apply jo [(0, _), (3, _)] ⟨rfl, rfl, trivial⟩
  ·
   intro K22
   refine spO (i := 16) G (fun h16 => ?_) (fun h16 => ?_)
   ·
    have p16 := h16
    try simp only [Bool.or_eq_false_iff, Bool.and_eq_true, decide_eq_true_eq, decide_eq_false_iff_not, Bool.not_eq_true', Bool.not_eq_false'] at p16
    refine gY G G G<|mv G G<|gY G G G<|mv G G<|gY G G G<|ixP 3 G G G slt_50 (by omega) (getDE (d := default) (by omega)) G fun v19 => gY G G G<|ldS 0 G G row_70 G fun q20 w20 => ?_
    exact gY G G G<|cfq (plain15_c _ _ w20) ok_193 G (Sc 1 G Sn) G<|pkF G G G<|jR K22 h16 ⟨G, G, trivial⟩ (SubD.tail (SubD.tail (SubD.tail Sr)))
   ·
    exact gS (g := [_, _, _, _, _]) G<|pkT G G G<|jR0 K22 h16 ⟨G, G, trivial⟩ Sr
  refine mv G G ?_
  apply jo [(0, _), (3, _)] ⟨rfl, rfl, trivial⟩
  ·
   intro K40
   refine spO (i := 23) G (fun h23 => ?_) (fun h23 => ?_)
   ·
    have p23 := h23
    try simp only [Bool.or_eq_false_iff, Bool.and_eq_true, decide_eq_true_eq, decide_eq_false_iff_not, Bool.not_eq_true', Bool.not_eq_false'] at p23
    refine gY G G G<|mv G G<|gY G G G<|gtI G G G<|gY G G G<|mv G G ?_
    apply jo [(0, _), (3, _), (23, _)] ⟨rfl, rfl, rfl, trivial⟩
    ·
     intro K39
     refine spA (i := 26) G (fun h26 => ?_) (fun h26 => ?_)
     ·
      have p26 := of_decide_eq_true h26
      refine gY G G G<|mv G G<|gY G G G<|mv G G<|gY G G G<|ixP 3 G G G slt_50 (by omega) (getDE (d := default) (by omega)) G fun v29 => gY G G G<|faP (α := TAccount) (β := ByteArray) 0 (fun x : TAccount => x.fKey) G G fld_70_0 pAccount_0 G fun v30 => gY G G G<|ldV 0 G G one_9 G fun w31 => ?_
      refine gY G G G<|mv G G<|gY G G G<|mv G G<|gY G G G<|sbI G G (inI (by omega) (by omega)) G<|gY G G G<|ixP 5 G G G slt_50 (by omega) (getDE (d := default) (by omega)) G fun v35 => gY G G G<|faP (α := TAccount) (β := ByteArray) 0 (fun x : TAccount => x.fKey) G G fld_70_0 pAccount_0 G fun v36 => gY G G G<|ldV 0 G G one_9 G fun w37 => ?_
      exact gY G G G<|leS G G G<|gY G G G<|pkT G G G<|jA K39 h26 ⟨G, G, G, trivial⟩ (SubD.tail (SubD.tail (SubD.tail (SubD.tail Sr))))
     ·
      exact gS (g := [_, _, _, _, _, _, _, _, _, _, _, _]) G<|gY G G G<|pkF G G G<|jA0 K39 h26 ⟨G, G, G, trivial⟩ Sr
    exact pkF G G G<|jR K40 h23 ⟨G, G, trivial⟩ Sr
   ·
    exact gS (g := [_, _, _, _, _, _, _, _, _, _, _, _, _, _, _, _]) G<|pkT G G G<|jR0 K40 h23 ⟨G, G, trivial⟩ Sr
  refine nlQ<|nx<|cdB G (fun h40 => ?_) (fun h40 => ?_)
  ·
   refine sq<|rg<|asg G G<|nl<|nx<|rt<|bR<|tR<|tR<|bR<|tR ?_
   exact fR1 () G G (by rw [rising19, if_neg (by rw [allI_false i (by omega) (not_t h40)]; decide)]) G Sn
  ·
   refine sk<|bN<|nx<|rg<|mv G G<|adI G G (inI (by omega) (by omega)) G<|asg G G<|nl ?_
   exact ag (i + 1) ⟨(by omega), (all_snoc hall (not_f h40))⟩ (by omega) ⟨G, G, trivial⟩ G (Sc 3 G Sn)
 ·
  refine ex<|tE<|tE<|bE<|nx<|sq<|rg<|mv G G<|lnP 0 G G Tryz.underlying50 G fun l42 => leI G G G<|asg G G<|nl<|nx<|rt ?_
  exact fR1 () G G (by rw [rising19, if_pos (allI_true (fun j hj => hall j (by omega)))]; try rfl) G Sn
end Go.Proofs.YtmpoffijcfaalaaGreat
