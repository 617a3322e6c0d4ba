/- Part 16 of auditPlays_holds. -/
import Derived.Test.YtmpoffijcfaalaaGreatAp15

set_option maxRecDepth 20000
set_option maxHeartbeats 1000000
namespace Go.YtmpoffijcfaalaaGreat
open Go.Eng
theorem rplj_eq (l : List TPlace) (j : Nat) : (!rplj l j) = (!place17b l j && place17c l j) := by
 unfold rplj place17b
 by_cases hg : okGroup (l.getD j default).fGroup = true
 · have hg2 := hg
   simp only [okGroup, Bool.and_eq_true, decide_eq_true_eq] at hg2
   have hs : seenB l j (l.getD j default).fGroup.toNat = !place17c l j := by
    rw [Bool.eq_iff_iff, seen_iff]
    unfold place17c
    rw [Bool.not_eq_true', ← Bool.not_eq_true, allI_iff]
    constructor
    · rintro ⟨k, hk, e⟩ h
      have := h k hk
      simp only [Bool.not_eq_true', decide_eq_false_iff_not] at this
      omega
    · intro h
      refine Classical.byContradiction fun hn => h fun k hk => ?_
      simp only [Bool.not_eq_true', decide_eq_false_iff_not]
      intro e
      exact hn ⟨k, hk, by omega⟩
   rw [hs, hg, decide_eq_false (show ¬ (l.getD j default).fGroup < 1 by omega), decide_eq_false (show ¬ (l.getD j default).fGroup ≥ 8 by omega)]
   cases place17c l j <;> simp
 · have hg2 := hg
   simp only [okGroup, Bool.and_eq_true, decide_eq_true_eq, not_and] at hg2
   rw [Bool.not_eq_true] at hg
   simp only [hg]
   by_cases h1 : (l.getD j default).fGroup < 1
   · simp only [h1, decide_true, Bool.true_or, Bool.not_true, Bool.not_false, Bool.false_and]
   · have h2 : (l.getD j default).fGroup ≥ 8 := by have := hg2 (by omega); omega
     simp only [h2, decide_true, Bool.true_or, Bool.or_true, Bool.not_true, Bool.not_false, Bool.false_and]
theorem places_eq (l : List TPlace) : rplacesP l = places17 l := by
 unfold rplacesP places17
 have e : allI l.length (fun j => !rplj l j) = allI l.length (fun j => !place17b l j && place17c l j) := allI_congr fun j _ => rplj_eq l j
 have h1 : place17a l = (rpl1 l || decide ((l.length : Int) > 7)) := by
  unfold place17a rpl1
  cases decide ((l.length : Int) < 1) <;> cases decide ((l.length : Int) > 7) <;> cases isNil (l.getD 0 default).fFrom <;> rfl
 rw [h1, ← e]
 by_cases hr : rpl1 l = true
 · rw [hr]; rfl
 · rw [Bool.not_eq_true] at hr
   rw [hr]
   by_cases h7 : (l.length : Int) > 7
   · simp only [h7, decide_true, Bool.or_true, if_true, Bool.false_eq_true, if_false]
     rw [← Bool.not_eq_true, e, allI_iff]
     intro h
     have := pigeon 7 l.length (fun i => (l.getD i default).fGroup.toNat - 1) (fun i hi => by
      have := h i hi
      simp only [Bool.and_eq_true, Bool.not_eq_true', place17b, Bool.or_eq_false_iff, decide_eq_false_iff_not] at this
      show (l.getD i default).fGroup.toNat - 1 < 7
      omega) (fun i j hi hj ee => by
      have hgi := h i hi
      have hgj := h j hj
      simp only [Bool.and_eq_true, Bool.not_eq_true', place17b, Bool.or_eq_false_iff, decide_eq_false_iff_not] at hgi hgj
      have ei : (l.getD i default).fGroup = (l.getD j default).fGroup := by
       have ee : (l.getD i default).fGroup.toNat - 1 = (l.getD j default).fGroup.toNat - 1 := ee
       omega
      rcases Nat.lt_trichotomy i j with hlt | hlt | hlt
      · have := allI_iff.1 hgj.2 i hlt
        simp only [Bool.not_eq_true', decide_eq_false_iff_not] at this
        exact absurd ei this
      · exact hlt
      · have := allI_iff.1 hgi.2 j hlt
        simp only [Bool.not_eq_true', decide_eq_false_iff_not] at this
        exact absurd ei.symm this)
     omega
   · simp only [h7, decide_false, Bool.or_false]
theorem places_at {l : List TPlace} (h : places17 l = true) : isNil (l.getD 0 default).fFrom = true ∧ ∀ j, j + 1 < l.length → ltB (l.getD j default).fFrom (l.getD (j + 1) default).fFrom = true := by
 unfold places17 at h
 split at h
 · cases h
 · rename_i hn
   simp only [place17a, Bool.or_eq_true, not_or, Bool.not_eq_true', Bool.not_eq_false] at hn
   refine ⟨hn.2, fun j hj => ?_⟩
   have := allI_iff.1 h (j + 1) hj
   simp only [Bool.and_eq_true, Bool.not_eq_true', place17b, Bool.or_eq_false_iff, Bool.and_eq_false_iff, decide_eq_false_iff_not] at this
   have h2 := this.1.2
   have h3 : leB (l.getD (j + 1) default).fFrom (l.getD j default).fFrom = false := by
    rcases h2 with h2 | h2
    · omega
    · rwa [show (((j + 1 : Nat) : Int) - 1).toNat = j by omega] at h2
   unfold leB at h3
   rw [le_ge] at h3
   simpa using h3
theorem mono_lt {l : List TPlace} (h : ∀ j, j + 1 < l.length → ltB (l.getD j default).fFrom (l.getD (j + 1) default).fFrom = true) : ∀ (d i : Nat), i + d + 1 < l.length → ltB (l.getD i default).fFrom (l.getD (i + d + 1) default).fFrom = true
 | 0, i, hi => h i hi
 | d + 1, i, hi => lt_trans (mono_lt h d i (by omega)) (h (i + d + 1) (by omega))
theorem lastI_at : ∀ {n : Nat} {p : Nat → Bool}, p 0 = true → 0 < n → p (lastI n p) = true ∧ ∀ k, lastI n p < k → k < n → p k = false
 | n + 1, p, h0, _ => by
  unfold lastI
  split
  · rename_i h
    exact ⟨h, fun k h1 h2 => by omega⟩
  · rename_i h
    rcases Nat.eq_zero_or_pos n with hn | hn
    · subst hn; exact absurd h0 h
    · obtain ⟨a, b⟩ := lastI_at (n := n) h0 hn
      refine ⟨a, fun k h1 h2 => ?_⟩
      rcases Nat.lt_or_ge k n with hk | hk
      · exact b k h1 hk
      · have : k = n := by omega
        subst this
        simpa using h
theorem end_at {l : List TPlace} {j : Nat} : endP l (j : Int) = if j + 1 < l.length then (l.getD (j + 1) default).fFrom else ByteArray.empty := by
 unfold endP
 by_cases h : j + 1 < l.length
 · rw [if_pos h, if_neg (by simp only [Bool.or_eq_true, decide_eq_true_eq]; omega), show ((j : Int) + 1).toNat = j + 1 by omega]
 · rw [if_neg h, if_pos (by simp only [Bool.or_eq_true, decide_eq_true_eq]; omega)]
theorem find_eq {l : List TPlace} (h : places17 l = true) (key : ByteArray) : find17 l key = findP l key := by
 obtain ⟨h0, hm⟩ := places_at h
 have hpos := places17_pos h
 have hp0 : (!ltB key (l.getD 0 default).fFrom) = true := by
  rw [of_decide_eq_true h0, lt_empty]; rfl
 obtain ⟨ha, hb⟩ := lastI_at (p := fun j => !ltB key (l.getD j default).fFrom) hp0 hpos
 have hlt : findP l key < l.length := findP_lt hpos
 have ne : ∀ k, k + 1 < l.length → isNil (l.getD (k + 1) default).fFrom = false := fun k hk => by
  refine decide_eq_false fun e => ?_
  have := hm k hk
  rw [e, lt_empty] at this
  cases this
 unfold find17
 have : firstI l.length (fun j => within (l.getD j default).fFrom (endP l j) key) = some (findP l key) := by
  refine firstI_some hlt (fun k hk => ?_) ?_
  · show within _ (endP l k) key = false
    rw [end_at, if_pos (by omega)]
    unfold within
    rw [ne k (by omega)]
    have h1 : ltB key (l.getD (k + 1) default).fFrom = false := by
     have hf : ltB key (l.getD (findP l key) default).fFrom = false := by
      have q : (!ltB key (l.getD (findP l key) default).fFrom) = true := ha
      rwa [Bool.not_eq_true'] at q
     rcases Nat.lt_or_ge (k + 1) (findP l key) with hlt2 | hge
     · have hlt3 : ltB (l.getD (k + 1) default).fFrom (l.getD (findP l key) default).fFrom = true := by
        have := mono_lt hm (findP l key - (k + 1) - 1) (k + 1) (by omega)
        rwa [show k + 1 + (findP l key - (k + 1) - 1) + 1 = findP l key by omega] at this
       rw [← Bool.not_eq_true]
       intro hc
       rw [lt_trans hc hlt3] at hf
       cases hf
     · rw [show k + 1 = findP l key by omega]; exact hf
    rw [h1]
    simp
  · show within _ (endP l _) key = true
    unfold within
    rw [le_ge]
    have ha' : (!ltB key (l.getD (findP l key) default).fFrom) = true := ha
    rw [ha', Bool.true_and, end_at]
    split
    · rename_i hk
      have := hb (findP l key + 1) (Nat.lt_succ_self _) hk
      rw [Bool.not_eq_false'] at this
      rw [this, Bool.or_true]
    · rfl
 rw [this]
 rfl
theorem okKey_nil (k : ByteArray) : okKey k = !(isNil k || decide ((k.size : Int) > 16)) := by
 rw [isNil_size]
 unfold okKey
 rw [Bool.eq_iff_iff]
 simp only [Bool.and_eq_true, decide_eq_true_eq, Bool.not_eq_true', Bool.or_eq_false_iff, decide_eq_false_iff_not]
 omega
theorem chart_eq (c : TChart) : planP c = right20 c := by
 unfold planP right20
 have h1 : (plan1 c || plan2 c) = right20a c := by
  unfold plan1 plan2 right20a okNum
  rw [errF_ok, errF_ok, places_eq, marks_eq,
   show decide (c.fIndex < 0) = !decide (c.fIndex ≥ 0) by rw [← decide_not]; exact decide_eq_decide.2 (by omega),
   show decide (c.fIndex > far) = !decide (c.fIndex ≤ far) by rw [← decide_not]; exact decide_eq_decide.2 (by omega),
   show decide (c.fLast < 0) = !decide (c.fLast ≥ 0) by rw [← decide_not]; exact decide_eq_decide.2 (by omega),
   show decide (c.fLast > far) = !decide (c.fLast ≤ far) by rw [← decide_not]; exact decide_eq_decide.2 (by omega)]
  cases decide (c.fIndex ≥ 0) <;> cases decide (c.fIndex ≤ far) <;> cases decide (c.fLast ≥ 0) <;> cases decide (c.fLast ≤ far) <;> cases places17 c.fPlaces <;> cases decide (c.fNext < 2) <;> cases decide (c.fNext > 8) <;> cases marks14 c.fMarks <;> rfl
 have h2 : plan3 c = !right20b c := by
  unfold plan3 right20b
  cases e : firstI c.fPlaces.length (fun j => decide ((c.fPlaces.getD j default).fGroup ≥ c.fNext)) with
  | none =>
   rw [show allI c.fPlaces.length (fun j => !decide ((c.fPlaces.getD j default).fGroup ≥ c.fNext)) = true from allI_true fun j hj => by
    have := List.find?_eq_none.1 e j (List.mem_range.2 hj)
    simpa using this]
   rfl
  | some j =>
   have hj := firstI_lt e
   have hp := List.find?_some e
   rw [allI_false j hj (by have hp : decide ((c.fPlaces.getD j default).fGroup ≥ c.fNext) = true := hp; rw [hp]; rfl)]
   show decide ((j : Int) ≥ 0) = _
   simp
 rw [← h1, h2]
 cases ha : plan1 c with
 | true => rfl
 | false =>
  cases hb : plan2 c with
  | true => rfl
  | false =>
   have hpl : places17 c.fPlaces = true := by
    have := hb
    unfold plan2 at this
    rw [errF_ok, places_eq] at this
    simp only [Bool.or_eq_false_iff, Bool.not_eq_false'] at this
    exact this.1
   have hl : 0 ≤ c.fLast := by
    simp only [plan1, Bool.or_eq_false_iff, decide_eq_false_iff_not] at ha
    omega
   have h5 : plan5 c = goesP c := by
    unfold plan5 goesP
    have hg : goes1 c = !(decide (c.fPlan.fNumber = c.fLast) && (!decide (c.fPlan.fNumber = 0)) && okWhose c.fPlan.fClient c.fPlan.fSeq && decide (epochP c.fPlaces < far)) := by
     unfold goes1 okWhose okClient okSeq
     rw [Bool.eq_iff_iff]
     simp only [Bool.or_eq_true, Bool.not_eq_true', Bool.and_eq_false_iff, decide_eq_true_eq, decide_eq_false_iff_not, Bool.not_eq_false']
     omega
    simp only [hg]
    cases hX : (decide (c.fPlan.fNumber = c.fLast) && (!decide (c.fPlan.fNumber = 0)) && okWhose c.fPlan.fClient c.fPlan.fSeq && decide (epochP c.fPlaces < far)) with
    | false => rfl
    | true =>
     simp only [Bool.true_and, Bool.not_true, Bool.false_eq_true, if_false]
     unfold splitsP mergesP split1 merge1
     cases ho : (ofP c.fPlaces c.fPlan.fTo).isSome with
     | true =>
      simp only [Bool.true_or, if_true, Bool.not_true, Bool.false_or, Bool.false_eq_true, if_false]
      unfold merge2 goes3
      by_cases hn : nxt c ≥ (c.fPlaces.length : Int)
      · rw [if_pos (decide_eq_true hn), decide_eq_false (show ¬ nxt c < (c.fPlaces.length : Int) by omega)]
        rfl
      · rw [if_neg (by simpa using hn), decide_eq_true (show nxt c < (c.fPlaces.length : Int) by omega), Bool.true_and]
        rw [show decide (c.fPlan.fFrom = (c.fPlaces.getD (nxt c).toNat default).fGroup) = decide ((c.fPlaces.getD (nxt c).toNat default).fGroup = c.fPlan.fFrom) from decide_eq_decide.2 eq_comm,
         show decide (c.fPlan.fLo = (c.fPlaces.getD (nxt c).toNat default).fFrom) = decide ((c.fPlaces.getD (nxt c).toNat default).fFrom = c.fPlan.fLo) from decide_eq_decide.2 eq_comm,
         show decide (c.fPlan.fHi = endP c.fPlaces (nxt c)) = decide (endP c.fPlaces (nxt c) = c.fPlan.fHi) from decide_eq_decide.2 eq_comm]
     | false =>
      simp only [Bool.false_or, Bool.not_false, Bool.true_or, if_true, Bool.or_false]
      unfold split2 goes2
      rw [find_eq hpl, okKey_nil,
       show decide (c.fPlan.fFrom = (c.fPlaces.getD (findP c.fPlaces c.fPlan.fLo) default).fGroup) = decide ((c.fPlaces.getD (findP c.fPlaces c.fPlan.fLo) default).fGroup = c.fPlan.fFrom) from decide_eq_decide.2 eq_comm,
       show decide (c.fPlan.fLo = (c.fPlaces.getD (findP c.fPlaces c.fPlan.fLo) default).fFrom) = decide ((c.fPlaces.getD (findP c.fPlaces c.fPlan.fLo) default).fFrom = c.fPlan.fLo) from decide_eq_decide.2 eq_comm,
       show decide ((c.fPlaces.length : Int) ≥ 7) = !decide ((c.fPlaces.length : Int) < 7) by rw [← decide_not]; exact decide_eq_decide.2 (by omega)]
      cases decide (c.fPlan.fTo = c.fNext - 1) <;> cases decide ((c.fPlaces.length : Int) < 7) <;> cases isNil c.fPlan.fLo <;> cases decide ((c.fPlan.fLo.size : Int) > 16) <;> simp
   rw [h5]
   unfold plan4
   cases right20b c <;> cases decide (c.fPlan = ⟨0, 0, 0, ByteArray.empty, ByteArray.empty, 0, 0⟩) <;> rfl
theorem scene_eq {v : TScene} (hw : ∀ s ∈ v.fStates, ∀ a ∈ s.fAccounts, a.wf) : drightP v = right22 v := by
 unfold drightP right22
 have h1 : r22a v = (dright1 v || !right20 v.fChart || !rights16 v.fRights) := by
  unfold r22a dright1
  cases ((!decide (v.fNodes = 1)) && (!decide (v.fNodes = 3)) && (!decide (v.fNodes = 5))) <;> cases decide (v.fNode < 1) <;> cases decide (v.fNode > v.fNodes) <;> cases right20 v.fChart <;> cases decide ((v.fStates.length : Int) = 7) <;> cases rights16 v.fRights <;> rfl
 have h2 : allI v.fStates.length (fun j => !drightj v j) = allI v.fStates.length (fun j => !r22j v j) := allI_congr fun j hj => by
  unfold drightj r22j
  rw [errF_ok, state_eq (hw _ (getD_mem hj))]
 rw [h1, h2, errF_ok, errF_ok, chart_eq, ledger_eq]
 cases dright1 v <;> cases right20 v.fChart <;> cases rights16 v.fRights <;> cases allI v.fStates.length (fun j => !r22j v j) <;> rfl
def ownB (ss : List TState) (S : TState) (key : ByteArray) : Bool := ownsP S key || (waitsP ss S && within S.fOut.fLo S.fOut.fHi key)
def ownN (ss : List TState) (key : ByteArray) : Nat → Int × Int
 | 0 => (0, 0)
 | i + 1 => if ownB ss (ss.getD i default) key = true then ((ownN ss key i).1 + 1, (ss.getD i default).fGroup) else ownN ss key i
theorem ownN_T {ss : List TState} {key : ByteArray} {i : Nat} (h : ownB ss (ss.getD i default) key = true) : ownN ss key (i + 1) = ((ownN ss key i).1 + 1, (ss.getD i default).fGroup) := by rw [ownN, if_pos h]
theorem ownN_F {ss : List TState} {key : ByteArray} {i : Nat} (h : ownB ss (ss.getD i default) key = false) : ownN ss key (i + 1) = ownN ss key i := by rw [ownN, if_neg (by rw [h]; decide)]
theorem ownN_le (ss : List TState) (key : ByteArray) : ∀ i : Nat, 0 ≤ (ownN ss key i).1 ∧ (ownN ss key i).1 ≤ i
 | 0 => ⟨Int.le_refl _, Int.le_refl _⟩
 | i + 1 => by
  have := ownN_le ss key i
  rw [ownN]
  split
  · exact ⟨by show 0 ≤ (ownN ss key i).1 + 1; omega, by show (ownN ss key i).1 + 1 ≤ _; omega⟩
  · omega
theorem waits_some {ss : List TState} {S : TState} {i : Nat} (h0 : ¬ S.fOut.fNumber = 0) (hi : i < ss.length) (hall : ∀ j, j < i → decide ((ss.getD j default).fGroup = S.fOut.fTo) = false) (h : decide ((ss.getD i default).fGroup = S.fOut.fTo) = true) :
 waitsP ss S = (decide ((ss.getD i default).fAbsorbed < S.fOut.fNumber) || decide ((ss.getD i default).fRefused = S.fOut.fNumber)) := by
 have e : firstI ss.length (fun j => decide ((ss.getD j default).fGroup = S.fOut.fTo)) = some i := firstI_some hi hall h
 rw [waitsP, if_neg h0, isOf, stOf, e]
 rfl
theorem waits_none {ss : List TState} {S : TState} (h0 : ¬ S.fOut.fNumber = 0) (hall : ∀ j, j < ss.length → decide ((ss.getD j default).fGroup = S.fOut.fTo) = false) : waitsP ss S = true := by
 have e : firstI ss.length (fun j => decide ((ss.getD j default).fGroup = S.fOut.fTo)) = none := firstI_none hall
 rw [waitsP, if_neg h0, isOf, e]
 rfl
def fitB (p : TPlan) (a : TAccount) : Bool := (!within p.fLo p.fHi a.fKey) || (!decide (a.fLock.fClient = 0)) || decide ((a.fHolders.length : Int) > 0) || (!decide (a.fRound = 0))
def fitsR (l : List TAccount) (p : TPlan) : Bool := if allI l.length (fun j => !fitB p (l.getD j default)) = true then rising19 l else false
theorem fits_no {l : List TAccount} {p : TPlan} {i : Nat} (hi : i < l.length) (h : fitB p (l.getD i default) = true) : fitsR l p = false := by rw [fitsR, if_neg (by rw [allI_false i hi (by rw [h]; rfl)]; decide)]
theorem fits_yes {l : List TAccount} {p : TPlan} (h : ∀ j, j < l.length → fitB p (l.getD j default) = false) : fitsR l p = rising19 l := by rw [fitsR, if_pos (allI_iff.2 fun j hj => by rw [h j hj]; rfl)]
theorem findR_no {l : List TDeal} {c q : Int} (h : (!books18 l || decide (placeI (placeO l c q) < 0)) = true) : findD l c q = zdeal ∧ isD l c q = false := by
 have e : (decide (placeI (placeO l c q) < 0) || !decide (errF (dealsP l) = 0)) = true := by
  rw [deals_eq, Bool.or_comm]
  rw [← h]
  cases books18 l <;> rfl
 rw [findD, isD, if_pos e, if_pos e]
 exact ⟨rfl, rfl⟩
theorem findR_yes {l : List TDeal} {c q : Int} (h : (!books18 l || decide (placeI (placeO l c q) < 0)) = false) : findD l c q = l.getD (placeI (placeO l c q)).toNat default ∧ isD l c q = true ∧ 0 ≤ placeI (placeO l c q) ∧ (placeI (placeO l c q)).toNat < l.length := by
 have e : (decide (placeI (placeO l c q) < 0) || !decide (errF (dealsP l) = 0)) = false := by
  rw [deals_eq, Bool.or_comm]
  rw [← h]
  cases books18 l <;> rfl
 obtain ⟨k, hk, hl⟩ := placeO_ok e
 rw [findD, isD, if_neg (by rw [e]; decide), if_neg (by rw [e]; decide), hk]
 exact ⟨rfl, rfl, by show (0 : Int) ≤ (k : Int); omega, hl⟩
def rightM (gr : Int) (key : ByteArray) (n : Int) (r : TRight) : Bool := decide (r.fGroup = gr) && decide (r.fKey = key) && decide (r.fLease = n)
theorem rightM_eq (gr : Int) (key : ByteArray) (n : Int) (r : TRight) : decide (r = ({ fGroup := gr, fKey := key, fLease := n, fNet := r.fNet } : TRight)) = rightM gr key n r := by
 obtain ⟨a, b, c, d⟩ := r
 rw [Bool.eq_iff_iff]
 simp [rightM, and_assoc]
theorem netP_none {l : List TRight} {gr n : Int} {key : ByteArray} (h : rights16 l = false) : netP l gr key n = 0 := by
 unfold netP
 rw [ledger_eq, h]
 rfl
theorem errF_true : errF true = 0 := rfl
theorem netP_some {l : List TRight} {gr n : Int} {key : ByteArray} {i : Nat} (h : rights16 l = true) (hi : i < l.length) (h0 : ∀ j, j < i → rightM gr key n (l.getD j default) = false) (h1 : rightM gr key n (l.getD i default) = true) : netP l gr key n = (l.getD i default).fNet := by
 unfold netP
 rw [ledger_eq, h, if_neg (not_not_intro errF_true)]
 simp only [rightM_eq]
 rw [firstI_some hi h0 h1]
theorem netP_no {l : List TRight} {gr n : Int} {key : ByteArray} (h : rights16 l = true) (h0 : ∀ j, j < l.length → rightM gr key n (l.getD j default) = false) : netP l gr key n = 0 := by
 unfold netP
 rw [ledger_eq, h, if_neg (not_not_intro errF_true)]
 simp only [rightM_eq]
 rw [firstI_none h0]
theorem netP_fin {l : List TRight} {gr n : Int} {key : ByteArray} {i : Nat} (hn : rights16 l = true → i = l.length) (h0 : ∀ j, j < i → rightM gr key n (l.getD j default) = false) : netP l gr key n = 0 := by
 rcases Bool.eq_false_or_eq_true (rights16 l) with hr | hr
 · exact netP_no hr (hn hr ▸ h0)
 · exact netP_none hr
theorem psum_in {rr : List (List TRight)} {c : Tcounted} (hrw : ∀ l ∈ rr, ∀ r ∈ l, r.wf) (hb : InI c.fAccount.fBase) : ∀ i : Nat, -(((i : Int) + 1) * 9223372036854775808) ≤ (partsL rr c i).sum ∧ (partsL rr c i).sum ≤ ((i : Int) + 1) * 9223372036854775808
 | 0 => by
  obtain ⟨h1, h2⟩ := hb
  simp only [partsL, List.sum_cons, List.sum_nil]
  omega
 | i + 1 => by
  have := psum_in (rr := rr) (c := c) hrw hb i
  rw [partsL, List.sum_append, hpart]
  split
  · rename_i hh
    simp only [Bool.and_eq_true, decide_eq_true_eq] at hh
    obtain ⟨h1, h2⟩ := netP_in (l := rr.getD ((c.fAccount.fHolders.getD i default).fNode - 1).toNat default) (hrw _ (getD_mem (by omega))) c.fGroup c.fAccount.fKey (c.fAccount.fHolders.getD i default).fLease
    simp only [List.sum_cons, List.sum_nil]
    omega
  · simp only [List.sum_nil]
    omega
theorem psum_BW {rr : List (List TRight)} {c : Tcounted} (hrw : ∀ l ∈ rr, ∀ r ∈ l, r.wf) (hb : InI c.fAccount.fBase) {i : Nat} (hi : i ≤ 1000) : BW (partsL rr c i).sum := by
 have := psum_in hrw hb (rr := rr) (c := c) i
 unfold BW
 omega
theorem psum_T {rr : List (List TRight)} {c : Tcounted} {i : Nat} (h1 : (c.fAccount.fHolders.getD i default).fNode ≥ 1) (h2 : (c.fAccount.fHolders.getD i default).fNode ≤ (rr.length : Int)) : (partsL rr c i).sum + netP (rr.getD ((c.fAccount.fHolders.getD i default).fNode - 1).toNat default) c.fGroup c.fAccount.fKey (c.fAccount.fHolders.getD i default).fLease = (partsL rr c (i + 1)).sum := by
 rw [partsL_T ⟨h1, h2⟩, List.sum_append]
 simp
theorem psum_F {rr : List (List TRight)} {c : Tcounted} {i : Nat} (h2 : ¬ (c.fAccount.fHolders.getD i default).fNode ≤ (rr.length : Int)) : (partsL rr c i).sum = (partsL rr c (i + 1)).sum := by
 rw [partsL_F (by rw [Bool.and_eq_false_iff]; exact .inr (decide_eq_false h2))]
def Grp (ss : List TState) : Prop := ∀ j, j < ss.length → (ss.getD j default).fGroup = (j : Int) + 1
theorem of_at {ss : List TState} (hg : Grp ss) {n : Int} (h1 : 1 ≤ n) (h2 : n ≤ (ss.length : Int)) : stOf ss n = ss.getD (n - 1).toNat default ∧ isOf ss n = true := by
 have e : firstI ss.length (fun j => decide ((ss.getD j default).fGroup = n)) = some (n - 1).toNat := firstI_some (by omega) (fun k hk => decide_eq_false (by rw [hg k (by omega)]; omega)) (decide_eq_true (by rw [hg _ (by omega)]; omega))
 rw [stOf, isOf, e]
 exact ⟨rfl, rfl⟩
theorem lock_0 {ss : List TState} {a : TAccount} (h : a.fLock.fClient = 0) : lockPart ss a = [] := by
 rw [lockPart, if_neg (by rw [h]; simp)]
theorem lock_T {ss : List TState} {a : TAccount} (hg : Grp ss) (h : ¬ a.fLock.fClient = 0) (h1 : 1 ≤ a.fLock.fHome) (h2 : a.fLock.fHome ≤ (ss.length : Int)) (hd : (findD (ss.getD (a.fLock.fHome - 1).toNat default).fDeals a.fLock.fClient a.fLock.fSeq).fFate = 1) : lockPart ss a = [a.fLock.fN] := by
 obtain ⟨e1, e2⟩ := of_at hg h1 h2
 have hi : isD (ss.getD (a.fLock.fHome - 1).toNat default).fDeals a.fLock.fClient a.fLock.fSeq = true := by
  unfold findD at hd
  unfold isD
  split at hd
  · cases hd
  · rename_i hn
    rw [if_neg hn]
 rw [lockPart, e1, e2, hi, if_pos (by simp [h]), if_pos (by simp only [Bool.true_and, decide_eq_true_eq]; exact hd)]
theorem lock_F {ss : List TState} {a : TAccount} (hg : Grp ss) (h : ¬ a.fLock.fClient = 0) (h1 : 1 ≤ a.fLock.fHome) (h2 : a.fLock.fHome ≤ (ss.length : Int)) (hd : ¬ (findD (ss.getD (a.fLock.fHome - 1).toNat default).fDeals a.fLock.fClient a.fLock.fSeq).fFate = 1) : lockPart ss a = [] := by
 obtain ⟨e1, e2⟩ := of_at hg h1 h2
 rw [lockPart, e1, e2, if_pos (by simp [h]), if_neg (by rw [decide_eq_false hd, Bool.and_false]; decide)]
theorem partsC_sum (ss : List TState) (rr : List (List TRight)) (c : Tcounted) {l : List Int} (h : lockPart ss c.fAccount = l) : (partsC ss rr c).sum = (partsL rr c c.fAccount.fHolders.length).sum + l.sum := by rw [partsC, h, List.sum_append]
end Go.YtmpoffijcfaalaaGreat
namespace Go.Proofs.YtmpoffijcfaalaaGreat
open Go.Eng Go.YtmpoffijcfaalaaGreat
theorem sameStates_c (v_x : Value) (x : List TState) (v_y : Value) (y : List TState) : FnV Pg 30 [v_x, v_y, .func (.func 20) #[] #[]] [⟨v_x, x⟩, ⟨v_y, y⟩] (.bool (allSame sameState x y)) := by
 refine Fnc.proof Tryz.func30 G 30 G G fun X w => gtC (q := x.length ≤ 9223372036854775807) (fun S w h => list_len (h _ (List.mem_of_getElem? (i := 0) G))) fun hlx => gtC (q := y.length ≤ 9223372036854775807) (fun S w h => list_len (h _ (List.mem_of_getElem? (i := 1) G))) fun hly => sa 1 G<|sq<|qg<|mv G G<|lnP 0 G G Tryz.underlying28 G fun l9 => mv G G<|lnP 1 G G Tryz.underlying28 G fun l11 => ru 1 G<|nl<|nx<|cdN G (fun h12 => ?_) (fun h12 => ?_)
 · exact sa 1 G<|rt<|tR<|fR1 () G G (by rw [all_len (by omega)]) G Sn
 ·
  have hl : x.length = y.length := by omega
  refine sk<|nx<|sq<|sa 1 G<|bk<|lpC (σ := Nat) [(0, _), (1, _), (2, _)] _ (fun i C => (7, .int .i64 (i : Int)) :: C) (fun i => i ≤ x.length ∧ (∀ j, j < i → sameState (x.getD j default) (y.getD j default) = true)) (fun i => x.length - i) 0 (Gs G) (Sc 0 G (Sc 1 G Sn)) ⟨Nat.zero_le _, fun j hj => absurd hj (Nat.not_lt_zero j)⟩ (Gs G) ?_
  rintro i ⟨hi, hall⟩
  refine sq<|qg<|ru 2 G<|lnP 0 G G Tryz.underlying28 G fun l15 => ru 1 G<|nl<|nx<|cdP G (fun h16 => ?_) (fun h16 => ?_)
  ·
   refine sk<|nx<|sq<|bk<|sq<|rgT 9 mixed (by kernel_rfl)<|ru 3 G<|ixQ 0 G G G slt_28 G fun v22 => ldS 0 G G (Rg G) G fun q23 w23 => ?_
   obtain ⟨q23_0, q23_1, q23_2, q23_3, q23_4, q23_5⟩ := q23
   refine ru 2 G<|ixQ 9 G G G slt_28 G fun v26 => ldS 0 G G (Rg G) G fun q27 w27 => ?_
   obtain ⟨q27_0, q27_1, q27_2, q27_3, q27_4, q27_5⟩ := q27
   refine nlT<|cfc (sameState_c _ _ _ _ _ _ _ _ _ _ _ _ _ _ w23 w27) (Kg G) G G G (Si [9,10,11,12,13,14,1,2,3,4,5,6] G) G fun y28 v28 h28 => ?_
   subst h28
   refine nt G G<|nl<|nx<|cdB G (fun h29 => ?_) (fun h29 => ?_)
   · exact sa 1 G<|rt<|bR<|tR<|tR<|bR<|tR<|fR1 () G G (by rw [all_no i (by omega) (not_true h29)]) G Sn
   ·
    refine sk<|bN<|nx<|rg<|mv G G<|adI G G inI G<|ru 1 G<|nl ?_
    exact ag (i + 1) ⟨(by omega), (all_snoc hall (not_false' h29))⟩ (by omega) (Gs G) G (Si [16,17] G)
  · exact ex<|tE<|tE<|bE<|nx<|sa 1 G<|rt<|fR1 () G G (by rw [all_yes hl (fun j hj => hall j (by omega))]) G Sn
theorem ownerA_c (v_ss : Value) (ss : List TState) (key : ByteArray) : FnV Pg 31 [v_ss, .string key] [⟨v_ss, ss⟩] (.tuple #[.int .i64 (ownN ss key ss.length).1, .int .i64 (ownN ss key ss.length).2]) := by
 refine Fnc.proof Tryz.func31 G 41 G G fun X w => gtC (q := ss.length ≤ 9223372036854775807) (fun S w h => list_len (h _ (List.mem_of_getElem? (i := 0) G))) fun hla => sa 2 G<|sa 2 G<|sq<|qg<|mv G G<|lnP 0 G G Tryz.underlying28 G fun l11 => mv G G<|nl<|nx<|bk<|lpC (σ := Nat) [(0, _), (1, _), (10, _), (11, _)] _ (fun i C => (12, .int .i64 (i : Int)) :: (6, .int .i64 (ownN ss key i).1) :: (7, .int .i64 (ownN ss key i).2) :: C) (fun i => i ≤ ss.length) (fun i => ss.length - i) 0 (Gs G) (Sc 0 G Sn) (Nat.zero_le _) (Gs G) ?_
 intro i hi
 have hle := ownN_le ss key i
 refine sa 1 G<|sq<|cdP G (fun h13 => ?_) (fun h13 => ?_)
 ·
  refine sk<|nx<|sq<|bk<|qg<|ixQ 0 G G G slt_28 G fun v14 => ldS 0 G G (Rg G) G fun q15 w15 => ?_
  obtain ⟨q15_0, q15_1, q15_2, q15_3, q15_4, q15_5⟩ := q15
  refine al zero_55 G fun b9 => oc 1 G fun o_q15_0 => oc 2 G fun o_q15_1 => oc 3 G fun o_q15_2 => oc 4 G fun o_q15_3 => oc 5 G fun o_q15_4 => oc 6 G fun o_q15_5 => stW 0 (us := (cState ((ss.getD i default)) q15_0 q15_1 q15_2 q15_3 q15_4 q15_5)) G G G (Rg G) (by simp only [List.all_cons, List.all_nil, Bool.and_true, o_q15_0, o_q15_1, o_q15_2, o_q15_3, o_q15_4, o_q15_5]; rfl) G<|nl<|nx<|qg<|ldM 0 (cState ((ss.getD i default)) q15_0 q15_1 q15_2 q15_3 q15_4 q15_5) G G (Rg G) G G<|mv G G<|cfv (owns_c _ _ _ _ _ _ _ _ w15) (Kg G) G (Si [1,2,3,4,5,6] G) G<|mv G G ?_
  refine jz 19 14 [0,1,6,7,9,10,11,12] G G (fun h19 K33 => by
   refine ru 1 G<|gY G G G<|ldM 0 (cState ((ss.getD i default)) q15_0 q15_1 q15_2 q15_3 q15_4 q15_5) G G (Rg G) G G<|gY G G G<|cfv (waits_c _ _ _ _ _ _ _ _ _ w15) (Kg G) G (Si [8,1,2,3,4,5,6] G) G<|ru 1 G ?_
   refine jy 23 9 [0,1,6,7,9,10,11,12,19] G G (fun h23 K32 => by
    exact rl 7 [0,0] G G<|gY G G G<|cfv (within_c _ _ _) (Kg G) G Sn G<|ru 1 G<|K32 G Sr) ?_
   exact ru 1 G<|K33 G Sr) ?_
  refine nl<|nx<|cdB G (fun h33 => ?_) (fun h33 => ?_)
  ·
   refine qg<|mv G G<|adI G G inI G<|ru 1 G<|nl<|nx<|rb 3 [0] G G<|bN<|nx<|rg<|adI G G inI G<|mv G G<|nl<|dpQ ?_
   rw [show (ownN ss key i).1 + 1 = (ownN ss key (i + 1)).1 from by rw [show ownN ss key (i + 1) = _ from ownN_T h33], show (ss.getD i default).fGroup = (ownN ss key (i + 1)).2 from by rw [show ownN ss key (i + 1) = _ from ownN_T h33]]
   exact ag (i + 1) (by omega) (by omega) (Gs G) G (Sc 8 G Sn)
  ·
   refine sk<|bN<|nx<|rg<|adI G G inI G<|mv G G<|nl<|dpQ ?_
   rw [show (ownN ss key i) = ownN ss key (i + 1) from (ownN_F h33).symm]
   exact ag (i + 1) (by omega) (by omega) (Gs G) G (Sc 8 G Sn)
 · exact ex<|tE<|tE<|bE<|nx<|sa 4 G<|rt<|fR2 () G G G (by rw [show i = ss.length by omega]) G Sn
theorem waits25_c (v_ss : Value) (ss : List TState) (S : TState) (s_0 s_1 s_2 s_3 s_4 s_5 : Value) (h_S : S.wf) : FnV Pg 76 [v_ss, .agg (cState S s_0 s_1 s_2 s_3 s_4 s_5).toArray] [⟨v_ss, ss⟩, ⟨s_0, S.fAccounts⟩, ⟨s_1, S.fMarks⟩, ⟨s_2, S.fWaits⟩, ⟨s_3, S.fDeals⟩, ⟨s_4, S.fEnds⟩, ⟨s_5, S.fImage⟩] (.bool (waitsP ss S)) := by
 refine Fnc.proof Tryz.func76 G 45 G G fun X w => gtC (q := ss.length ≤ 9223372036854775807) (fun S w h => list_len (h _ (List.mem_of_getElem? (i := 0) G))) fun hla => qg<|bx G G G fun b3 => ru 1 G<|nl<|nx<|sq<|qg<|rl 3 [0] G G<|ru 1 G<|nl<|nx<|cdP G (fun h9 => ?_) (fun h9 => ?_)
 · exact sa 1 G<|rt<|tR<|dpQ<|fR1 () G G (by rw [waitsP, if_pos h9]) G Sn
 ·
  refine sk<|nx<|sq<|sa 1 G<|bk<|lpC (σ := Nat) [(0, _), (3, _)] _ (fun i C => (5, .int .i64 (i : Int)) :: C) (fun i => i ≤ ss.length ∧ (∀ j, j < i → decide ((ss.getD j default).fGroup = S.fOut.fTo) = false)) (fun i => ss.length - i) 0 (Gs G) (Sc 0 G (Sc 1 G (Sc 2 G (Sc 3 G (Sc 4 G (Sc 5 G (Sc 6 G Sn))))))) ⟨Nat.zero_le _, fun j hj => absurd hj (Nat.not_lt_zero j)⟩ (Gs G) ?_
  rintro i ⟨hi, hall⟩
  refine sq<|qg<|ru 2 G<|lnP 0 G G Tryz.underlying28 G fun l12 => ru 1 G<|nl<|nx<|cdP G (fun h13 => ?_) (fun h13 => ?_)
  ·
   refine sk<|nx<|sq<|bk<|sq<|rgQ mixed (by kernel_rfl)<|ru 2 G<|ixQ 0 G G G slt_28 G fun v18 => faP (α := TState) (β := Int) 0 (fun x : TState => x.fGroup) G G (Fg G) pState_0 G fun v19 => ldV 0 G G (Og G) G fun w20 => rl 4 [0] G G<|nlQ<|nx<|cdP G (fun h24 => ?_) (fun h24 => ?_)
   ·
    refine sq<|rgQ mixed (by kernel_rfl)<|ru 2 G<|ixQ 2 G G G slt_28 G fun v27 => faP (α := TState) (β := Int) 0 (fun x : TState => x.fAbsorbed) G G (Fg G) pState_14 G fun v28 => ldV 0 G G (Og G) G fun w29 => rl 5 [0] G G ?_
    refine jz 34 10 [] G G (fun h34 K44 => by
     have p34 := of_decide_eq_false h34
     exact ru 2 G<|gY G G G<|ixQ 4 G G G slt_28 G fun v37 => gY G G G<|faP (α := TState) (β := Int) 0 (fun x : TState => x.fRefused) G G (Fg G) pState_15 G fun v38 => gY G G G<|ldV 0 G G (Og G) G fun w39 => rl 5 [0] G G<|K44 G (SubD.tail (SubD.tail Sr))) ?_
    exact ru 1 G<|nlQ<|nx<|rt<|bR<|tR<|tR<|bR<|tR<|dpQ<|fR1 () G G (by rw [waits_some h9 (by omega) hall (decide_eq_true h24)]; rfl) G Sn
   ·
    refine sk<|bN<|nx<|rg<|mv G G<|adI G G inI G<|ru 1 G<|nl ?_
    exact ag (i + 1) ⟨(by omega), (all_snoc hall (decide_eq_false h24))⟩ (by omega) (Gs G) G (Si [2,3,4,5,6,7,8] G)
  · exact ex<|tE<|tE<|bE<|nx<|sa 1 G<|rt<|dpQ<|fR1 () G G (by rw [waits_none h9 (fun k hk => hall k (by omega))]) G Sn
theorem owner25_c (v_ss : Value) (ss : List TState) (key : ByteArray) : FnV Pg 32 [v_ss, .string key] [⟨v_ss, ss⟩] (.tuple #[.int .i64 (ownN ss key ss.length).1, .int .i64 (ownN ss key ss.length).2]) := by
 refine Fnc.proof Tryz.func32 G 44 G G fun X w => gtC (q := ss.length ≤ 9223372036854775807) (fun S w h => list_len (h _ (List.mem_of_getElem? (i := 0) G))) fun hla => sa 2 G<|sa 2 G<|sq<|sa 1 G<|bk<|lpC (σ := Nat) [(0, _), (1, _)] _ (fun i C => (8, .int .i64 (i : Int)) :: (6, .int .i64 (ownN ss key i).1) :: (7, .int .i64 (ownN ss key i).2) :: C) (fun i => i ≤ ss.length) (fun i => ss.length - i) 0 (Gs G) (Sc 0 G Sn) (Nat.zero_le _) (Gs G) ?_
 intro i hi
 have hle := ownN_le ss key i
 refine sq<|qg<|ru 2 G<|lnP 0 G G Tryz.underlying28 G fun l12 => ru 1 G<|nl<|nx<|cdP G (fun h13 => ?_) (fun h13 => ?_)
 ·
  refine sk<|nx<|sq<|bk<|qg<|ru 2 G<|ixQ 0 G G G slt_28 G fun v18 => ldS 0 G G (Rg G) G fun q19 w19 => ?_
  obtain ⟨q19_0, q19_1, q19_2, q19_3, q19_4, q19_5⟩ := q19
  refine al zero_55 G fun b9 => oc 1 G fun o_q19_0 => oc 2 G fun o_q19_1 => oc 3 G fun o_q19_2 => oc 4 G fun o_q19_3 => oc 5 G fun o_q19_4 => oc 6 G fun o_q19_5 => stW 0 (us := (cState ((ss.getD i default)) q19_0 q19_1 q19_2 q19_3 q19_4 q19_5)) G G G (Rg G) (by simp only [List.all_cons, List.all_nil, Bool.and_true, o_q19_0, o_q19_1, o_q19_2, o_q19_3, o_q19_4, o_q19_5]; rfl) G<|nl<|nx<|qg<|ldM 0 (cState ((ss.getD i default)) q19_0 q19_1 q19_2 q19_3 q19_4 q19_5) G G (Rg G) G G<|mv G G<|cfv (owns19_c _ _ _ _ _ _ _ _ w19) (Kg G) G (Si [1,2,3,4,5,6] G) G<|mv G G ?_
  refine jz 23 14 [0,1,6,7,8,9] G G (fun h23 K37 => by
   refine ru 1 G<|gY G G G<|ldM 0 (cState ((ss.getD i default)) q19_0 q19_1 q19_2 q19_3 q19_4 q19_5) G G (Rg G) G G<|gY G G G<|cfv (waits25_c _ _ _ _ _ _ _ _ _ w19) (Kg G) G (Si [8,1,2,3,4,5,6] G) G<|ru 1 G ?_
   refine jy 27 9 [0,1,6,7,8,9,23] G G (fun h27 K36 => by
    exact rl 7 [0,0] G G<|gY G G G<|cfv (within17_c _ _ _) (Kg G) G Sn G<|ru 1 G<|K36 G Sr) ?_
   exact ru 1 G<|K37 G Sr) ?_
  refine nl<|nx<|cdB G (fun h37 => ?_) (fun h37 => ?_)
  ·
   refine rgQ mixed (by kernel_rfl)<|mv G G<|adI G G inI G<|rl 4 [0] G G<|nlQ<|bN<|nx<|rg<|mv G G<|adI G G inI G<|ru 1 G<|nl<|dpQ ?_
   rw [show (ownN ss key i).1 + 1 = (ownN ss key (i + 1)).1 from by rw [show ownN ss key (i + 1) = _ from ownN_T h37], show (ss.getD i default).fGroup = (ownN ss key (i + 1)).2 from by rw [show ownN ss key (i + 1) = _ from ownN_T h37]]
   exact ag (i + 1) (by omega) (by omega) (Gs G) G (Sc 8 G Sn)
  ·
   refine sk<|bN<|nx<|rg<|mv G G<|adI G G inI G<|ru 1 G<|nl<|dpQ ?_
   rw [show (ownN ss key i) = ownN ss key (i + 1) from (ownN_F h37).symm]
   exact ag (i + 1) (by omega) (by omega) (Gs G) G (Sc 8 G Sn)
 · exact ex<|tE<|tE<|bE<|nx<|sa 4 G<|rt<|fR2 () G G G (by rw [show i = ss.length by omega]) G Sn
theorem fits19_c (v_l : Value) (l : List TAccount) (p : TPlan) (h_p : p.wf) : FnV Pg 75 [v_l, .agg (cPlan p).toArray] [⟨v_l, l⟩] (.bool (fitsR l p)) := by
 refine Fnc.proof Tryz.func75 G 51 G G fun X w => gtC (q := l.length ≤ 9223372036854775807) (fun S w h => list_len (h _ (List.mem_of_getElem? (i := 0) G))) fun hla => qg<|bx G G G fun b3 => ru 1 G<|nl<|nx<|sq<|sa 1 G<|bk<|lpC (σ := Nat) [(0, _), (3, _)] _ (fun i C => (5, .int .i64 (i : Int)) :: C) (fun i => i ≤ l.length ∧ (∀ j, j < i → fitB p (l.getD j default) = false)) (fun i => l.length - i) 0 (Gs G) (Sc 0 G Sn) ⟨Nat.zero_le _, fun j hj => absurd hj (Nat.not_lt_zero j)⟩ (Gs G) ?_
 rintro i ⟨hi, hall⟩
 refine sq<|qg<|ru 2 G<|lnP 0 G G Tryz.underlying50 G fun l8 => ru 1 G<|nl<|nx<|cdP G (fun h9 => ?_) (fun h9 => ?_)
 ·
  refine sk<|nx<|sq<|bk<|sq<|rgQ mixed (by kernel_rfl)<|rl 6 [0,0] G G<|ixQ 0 G G G slt_50 G fun v18 => faP (α := TAccount) (β := ByteArray) 0 (fun x : TAccount => x.fKey) G G (Fg G) pAccount_0 G fun v19 => ldV 0 G G (Og G) G fun w20 => ?_
  refine cfq (within17_c _ _ _) (Kg G) G Sn G<|ru 2 G ?_
  refine jz 23 8 [0,3,5] G G (fun h23 K31 => by
   have p23 := h23
   try simp only [Bool.or_eq_false_iff, Bool.and_eq_true, decide_eq_true_eq, decide_eq_false_iff_not, Bool.not_eq_true', Bool.not_eq_false'] at p23
   exact ru 2 G<|gY G G G<|ixQ 2 G G G slt_50 G fun v26 => gY G G G<|faP (α := TAccount) (β := TLock) 0 (fun x : TAccount => x.fLock) G G (Fg G) pAccount_5 G fun v27 => gY G G G<|faP (α := TLock) (β := Int) 0 (fun x : TLock => x.fClient) G G (Fg G) pLock_0 G fun v28 => gY G G G<|ldV 0 G G (Og G) G fun w29 => ru 2 G<|K31 G (SubD.tail (SubD.tail (SubD.tail Sr)))) ?_
  refine mv G G ?_
  refine jz 32 8 [0,3,5] G G (fun h32 K40 => by
   have p32 := h32
   try simp only [Bool.or_eq_false_iff, Bool.and_eq_true, decide_eq_true_eq, decide_eq_false_iff_not, Bool.not_eq_true', Bool.not_eq_false'] at p32
   exact ru 2 G<|gY G G G<|ixQ 2 G G G slt_50 G fun v35 => gY G G G<|faP (α := TAccount) (β := List THolder) 0 (fun x : TAccount => x.fHolders) G G (Fg G) pAccount_4 G fun v36 => gY G G G<|ldL 0 G G (Og G) G fun v37 => gY G G G<|lnP 0 G G Tryz.underlying66 G fun l38 => ru 1 G<|ru 1 G<|K40 G (SubD.tail (SubD.tail (SubD.tail Sr)))) ?_
  refine mv G G ?_
  refine jz 41 7 [0,3,5] G G (fun h41 K48 => by
   have p41 := h41
   try simp only [Bool.or_eq_false_iff, Bool.and_eq_true, decide_eq_true_eq, decide_eq_false_iff_not, Bool.not_eq_true', Bool.not_eq_false'] at p41
   exact ru 2 G<|gY G G G<|ixQ 2 G G G slt_50 G fun v44 => gY G G G<|faP (α := TAccount) (β := Int) 0 (fun x : TAccount => x.fRound) G G (Fg G) pAccount_3 G fun v45 => gY G G G<|ldV 0 G G (Og G) G fun w46 => ru 2 G<|K48 G (SubD.tail (SubD.tail Sr))) ?_
  refine nlQ<|nx<|cdB G (fun h48 => ?_) (fun h48 => ?_)
  · exact sa 1 G<|rt<|bR<|tR<|tR<|bR<|tR<|dpQ<|fR1 () G G (by rw [fits_no (by omega) h48]) G Sn
  ·
   refine sk<|bN<|nx<|rg<|mv G G<|adI G G inI G<|ru 1 G<|nl ?_
   exact ag (i + 1) ⟨(by omega), (all_snoc hall (h48))⟩ (by omega) (Gs G) G (Sc 2 G Sn)
 · exact ex<|tE<|tE<|bE<|nx<|qg<|mv G G<|cfv (rising19_c _ _) (Kg G) G (Sc 0 G Sn) G<|ru 1 G<|nl<|nx<|rt<|dpQ<|fR1 () G G (by rw [fits_yes (fun k hk => hall k (by omega))]) G Sn
theorem find18_c (v_l : Value) (l : List TDeal) (c : Int) (q : Int) (h_c : InI c) (h_q : InI q) : FnV Pg 212 [v_l, .int .i64 c, .int .i64 q] [⟨v_l, l⟩] (.tuple #[.agg (cDeal (findD l c q)).toArray, .bool (isD l c q)]) := by
 refine Fnc.proof Tryz.func212 G 25 G G fun X w => ?_
 obtain ⟨h_c1, h_c2⟩ := id h_c
 obtain ⟨h_q1, h_q2⟩ := id h_q
 refine qg<|al zero_126 G fun b6 => ru 1 G<|nl<|nx<|qg<|ru 3 G<|cfv (place18_c _ _ _ _ h_c h_q) (Kg G) G (Sc 0 G Sn) G<|ru 1 G<|nl<|nx<|sq<|qg<|mv G G<|cfv (right18_c _ _) (Kg G) G (Sc 0 G Sn) G<|ru 2 G<|jb 16 3 [] [0,6,8] G G G<|nl<|nx<|cdB G (fun h19 => ?_) (fun h19 => ?_)
 · exact qg<|bd (ps := []) (cs := (cDeal ((⟨0, 0, ByteArray.empty, ByteArray.empty, 0, 0, 0, 0⟩ : TDeal)))) (by rfl) (by kernel_rfl) G<|stW 0 (us := (cDeal ((⟨0, 0, ByteArray.empty, ByteArray.empty, 0, 0, 0, 0⟩ : TDeal)))) G G G (Rg G) G G<|ru 1 G<|nl<|nx<|rt<|tR<|fRG () [_] (rCT 0 G G G G (Rg G)) (by have e := findR_no h19; rw [e.1, e.2]; rfl) G Sn
 ·
  have e := findR_yes h19
  exact sk<|nx<|qg<|ru 2 G<|ixQ 0 G G G slt_52 G fun v23 => ldS 0 G G (Rg G) G fun q24 w24 => stW 0 (us := (cDeal ((l.getD ((placeI (placeO l c q))).toNat default)))) G G G (Rg G) G G<|ru 1 G<|nl<|nx<|rt<|fRG () [_] (rCT 0 G G G G (Rg G)) (by rw [e.1, e.2.1]) G Sn
theorem net16_c (v_l : Value) (l : List TRight) (g : Int) (key : ByteArray) (n : Int) (h_g : InI g) (h_n : InI n) : FnV Pg 103 [v_l, .int .i64 g, .string key, .int .i64 n] [⟨v_l, l⟩] (.int .i64 (netP l g key n)) := by
 refine Fnc.proof Tryz.func103 G 50 G G fun X w => ?_
 obtain ⟨h_g1, h_g2⟩ := id h_g
 obtain ⟨h_n1, h_n2⟩ := id h_n
 refine gtC (q := l.length ≤ 9223372036854775807) (fun S w h => list_len (h _ (List.mem_of_getElem? (i := 0) G))) fun hla => sa 1 G<|sq<|sa 1 G<|bk<|lpC (σ := Nat) [(0, _), (1, _), (2, _), (3, _)] _ (fun i C => (9, .int .i64 (i : Int)) :: C) (fun i => i ≤ l.length ∧ (∀ j, j < i → rightM g key n (l.getD j default) = false)) (fun i => l.length - i) 0 (Gs G) (Sc 0 G Sn) ⟨Nat.zero_le _, fun j hj => absurd hj (Nat.not_lt_zero j)⟩ (Gs G) ?_
 rintro i ⟨hi, hall⟩
 refine sq<|qg<|mv G G<|cfv (right16_c _ _) (Kg G) G (Sc 0 G Sn) G<|mv G G<|jy 12 5 [0,1,2,3,9] G G (fun h12 K17 => ru 2 G<|gY G G G<|lnP 0 G G Tryz.underlying29 G fun l15 => ru 2 G<|K17 G Sr)<|nl<|nx<|cdB G (fun h17 => ?_) (fun h17 => ?_)
 ·
  have hh := h17
  simp only [Bool.and_eq_true, decide_eq_true_eq] at hh
  obtain ⟨hr, hlt⟩ := hh
  have hlt : i < l.length := by omega
  refine sk<|nx<|sq<|bk<|qg<|ru 2 G<|ixQ 0 G G G slt_29 G fun v22 => faP (α := TRight) (β := Int) 0 (fun x : TRight => x.fGroup) G G (Fg G) pRight_0 G fun v23 => ldV 0 G G (Og G) G fun w24 => ru 3 G ?_
  refine jy 27 8 [0,1,2,3,9] G G (fun h27 K35 => by
   have p27 := of_decide_eq_true h27
   exact ru 2 G<|gY G G G<|ixQ 2 G G G slt_29 G fun v30 => gY G G G<|faP (α := TRight) (β := ByteArray) 0 (fun x : TRight => x.fKey) G G (Fg G) pRight_1 G fun v31 => gY G G G<|ldV 0 G G (Og G) G fun w32 => ru 3 G<|K35 G (SubD.tail (SubD.tail Sr))) ?_
  refine mv G G ?_
  refine jy 36 8 [0,1,2,3,9] G G (fun h36 K44 => by
   have p36 := h36
   try simp only [Bool.or_eq_false_iff, Bool.and_eq_true, decide_eq_true_eq, decide_eq_false_iff_not, Bool.not_eq_true', Bool.not_eq_false'] at p36
   exact ru 2 G<|gY G G G<|ixQ 2 G G G slt_29 G fun v39 => gY G G G<|faP (α := TRight) (β := Int) 0 (fun x : TRight => x.fLease) G G (Fg G) pRight_2 G fun v40 => gY G G G<|ldV 0 G G (Og G) G fun w41 => ru 3 G<|K44 G (SubD.tail (SubD.tail Sr))) ?_
  refine nl<|nx<|cdB G (fun h44 => ?_) (fun h44 => ?_)
  · exact qg<|ru 2 G<|ixQ 2 G G G slt_29 G fun v47 => faP (α := TRight) (β := Int) 0 (fun x : TRight => x.fNet) G G (Fg G) pRight_3 G fun v48 => ldV 0 G G (Og G) G fun w49 => ru 1 G<|nl<|nx<|rt<|bR<|tR<|tR<|bR<|tR<|fR1 () G G (by rw [netP_some hr hlt hall h44]; rfl) G Sn
  ·
   refine sk<|bN<|nx<|rg<|mv G G<|adI G G inI G<|ru 1 G<|nl ?_
   exact ag (i + 1) ⟨(by omega), (all_snoc hall (h44))⟩ (by omega) (Gs G) G (Sc 2 G Sn)
 ·
  have hn : rights16 l = true → i = l.length := fun e => by
   have hh := h17
   rw [e] at hh
   simp only [Bool.true_and, decide_eq_false_iff_not] at hh
   omega
  exact ex<|tE<|tE<|bE<|nx<|sa 1 G<|rt<|fR1 () G G (by rw [netP_fin hn hall]) G Sn
theorem has25_c (v_ss : Value) (ss : List TState) (v_rr : Value) (rr : List (List TRight)) (g : Int) (a : TAccount) (a_0 : Value) (h_a : a.wf) (h_g : InI g) (hh : a.fHolders.length ≤ 1000) (hn : ∀ x ∈ a.fHolders, 1 ≤ x.fNode) (hrw : ∀ l ∈ rr, ∀ r ∈ l, r.wf) (hg : Grp ss) (hlk : ¬ a.fLock.fClient = 0 → 1 ≤ a.fLock.fHome ∧ a.fLock.fHome ≤ (ss.length : Int)) : FnV Pg 151 [v_ss, v_rr, .int .i64 g, .agg (cAccount a a_0).toArray] [⟨v_ss, ss⟩, ⟨v_rr, rr⟩, ⟨a_0, a.fHolders⟩] (.agg (cWide (wide (partsC ss rr (cntOf g a)).sum)).toArray) := by
 refine Fnc.proof Tryz.func151 G 80 G G fun X w => ?_
 obtain ⟨h_g1, h_g2⟩ := id h_g
 refine gtC (q := ss.length ≤ 9223372036854775807) (fun S w h => list_len (h _ (List.mem_of_getElem? (i := 0) G))) fun hla => gtC (q := rr.length ≤ 9223372036854775807) (fun S w h => list_len (h _ (List.mem_of_getElem? (i := 1) G))) fun hlr => qg<|bx G G G fun b7 => al zero_211 G fun b8 => nl<|nx<|qg<|rl 2 [1] G G<|bs1 (xs := [.tmp 15]) (us := [.int .i64 a.fBase]) (E := 3) (bytes := 8) (n := 1) G (by exact app_220) G G G G G G fun b16 => frS (α := Int) [a.fBase] [[.int .i64 (a.fBase)]] G (fun S w h => ⟨⟨G, h_a.2.2.1⟩, trivial⟩) (Nat.le_of_ble_eq_true G)<|cfv ((show FnV Pg 210 [_] [⟨_, [a.fBase]⟩] (.agg (cWide (wide (partsL rr (cntOf g a) 0).sum)).toArray) from by rw [show (partsL rr (cntOf g a) 0).sum = a.fBase from by simp [partsL, cntOf]]; exact wof1 _ _)) (Kg G) G (Sc 0 G Sn) G<|al zero_211 G fun b9 => stW 0 (us := (cWide ((wide (partsL rr (cntOf g a) 0).sum)))) G G G (Rg G) G G<|nl<|nx<|sq<|sa 1 G<|bk<|lpE (σ := Nat) [(0, _), (1, _), (2, _), (7, _), (8, _), (9, _)] _ (fun i C => (10, .int .i64 (i : Int)) :: C) (fun i => [bl b9 211 (cWide (wide (partsL rr (cntOf g a) i).sum)), bl b8 211 zv7, bl b7 70 (cAccount a a_0), fz X w]) (fun _ Dc => Dc) (fun i => i ≤ a.fHolders.length) (fun i => a.fHolders.length - i) 0 (Gs G) (Sc 1 G (Sc 2 G (Sc 3 G Sn))) (Nat.zero_le _) (Gs G) G (Sc 1 G (Sc 2 G (Sc 3 G Sn))) ?_
 intro i hi
 show WC _ _ _ [(10, .int .i64 ((i : Int))), (0, _), (1, _), (2, _), (7, _), (8, _), (9, _)] [bl b9 211 (cWide (wide (partsL rr (cntOf g a) i).sum)), bl b8 211 zv7, bl b7 70 (cAccount a a_0), fz X w] _
 refine sq<|qg<|rl 3 [2] G G<|lnP 2 G G Tryz.underlying66 G fun l21 => ru 1 G<|nl<|nx<|cdP G (fun h22 => ?_) (fun h22 => ?_)
 ·
  refine sk<|nx<|sq<|bk<|qg<|rl 3 [2] G G<|ixQ 2 G G G slt_66 G fun v28 => ldS 0 G G (Rg G) G fun q29 w29 => al zero_165 G fun b11 => stW 0 (us := (cHolder ((a.fHolders.getD i default)))) G G G (Rg G) G G<|nl<|nx<|qg<|rl 3 [0] G G<|lnP 3 G G Tryz.underlying71 G fun l33 => ru 1 G<|nl<|nx<|cdP G (fun h34 => ?_) (fun h34 => ?_)
  ·
   have hn1 : 1 ≤ (a.fHolders.getD i default).fNode := hn _ (getD_mem (by omega))
   refine rgT 14 mixed (by kernel_rfl)<|ldM 1 (cWide ((wide (partsL rr (cntOf g a) i).sum))) G G (Rg G) G G<|rl 3 [0] G G<|sbI G G inI G<|ixQ 3 G G G slt_71 G fun v40 => ldL 0 G G (Og G) G fun v41 => rl 5 [3,0] G G<|cfq (net16_c _ _ _ _ _ h_g w29.2.1) (Kg G) G (Sc 0 G Sn) G<|cfq (plus_c _ _ (psum_BW hrw h_a.2.2.1 (by omega)) (netP_in (hrw _ (getD_mem (by omega))) _ _ _)) (Kg G) G Sn G<|nlT<|stW 1 (us := (cWide ((wide ((partsL rr (cntOf g a) i).sum + (netP (rr.getD ((a.fHolders.getD i default).fNode - 1).toNat default) g a.fKey (a.fHolders.getD i default).fLease)))))) G G G (Rg G) G G<|nl<|bN<|nx<|rg<|mv G G<|adI G G inI G<|ru 1 G<|nl<|dpQ ?_
   have hX : (partsL rr (cntOf g a) (i + 1)).sum = (partsL rr (cntOf g a) i).sum + (netP (rr.getD ((a.fHolders.getD i default).fNode - 1).toNat default) g a.fKey (a.fHolders.getD i default).fLease) := (psum_T (c := (cntOf g a)) (hn _ (getD_mem (by omega))) h34).symm
   exact ag (i + 1) (by omega) (by omega) (Gs G) (congrArg (fun x_ => [bl b9 211 (cWide (wide x_)), bl b8 211 zv7, bl b7 70 (cAccount a a_0), fz X w]) hX) (Si [4,5,6] G)
  ·
   refine sk<|bN<|nx<|rg<|mv G G<|adI G G inI G<|ru 1 G<|nl<|dpQ ?_
   have hX : (partsL rr (cntOf g a) (i + 1)).sum = (partsL rr (cntOf g a) i).sum := (psum_F (c := (cntOf g a)) h34).symm
   exact ag (i + 1) (by omega) (by omega) (Gs G) (congrArg (fun x_ => [bl b9 211 (cWide (wide x_)), bl b8 211 zv7, bl b7 70 (cAccount a a_0), fz X w]) hX) (Si [2,3,4] G)
 ·
  have hie : i = a.fHolders.length := by omega
  refine ex<|tE<|tE<|bE<|nx<|sq<|sb 4 [2] G G<|cdN G (fun h52 => ?_) (fun h52 => ?_)
  ·
   obtain ⟨hl1, hl2⟩ := hlk h52
   refine sq<|rgZ (L := [bl b9 211 (cWide ((wide (partsL rr (cntOf g a) i).sum))), bl b8 211 zv7, bl b7 70 (cAccount a a_0), fz X w]) [] [(3,⟨some (.int .i64 a.fLock.fHome),fun _ => [],false⟩),(4,⟨some (.int .i64 ((a.fLock.fHome - 1))),fun _ => [],false⟩),(5,⟨none,fun u => [⟨u, (⟨(ss.getD ((a.fLock.fHome - 1)).toNat default)⟩ : Pt TState)⟩],false⟩),(6,⟨none,fun u => [⟨u, (⟨(ss.getD ((a.fLock.fHome - 1)).toNat default).fDeals⟩ : Pt (List TDeal))⟩],false⟩),(7,⟨none,fun u => [⟨u, (ss.getD ((a.fLock.fHome - 1)).toNat default).fDeals⟩],false⟩),(10,⟨some (.int .i64 a.fLock.fClient),fun _ => [],false⟩),(13,⟨some (.int .i64 a.fLock.fSeq),fun _ => [],false⟩),(14,⟨some (.tuple #[.agg (cDeal (findD (ss.getD (a.fLock.fHome - 1).toNat default).fDeals a.fLock.fClient a.fLock.fSeq)).toArray, .bool (isD (ss.getD (a.fLock.fHome - 1).toNat default).fDeals a.fLock.fClient a.fLock.fSeq)]),fun _ => [],false⟩),(18,⟨none,fun _ => [],true⟩),(19,⟨none,fun _ => [],true⟩)] [(18,fun u => u = .pointer (some ⟨ptrB u, 0, none⟩))] [] [(18,fun L zz => (bl (ptrB (zz 18)) 126 zv2) :: L),(19,fun L zz => rpE 4 (bl (ptrB (zz 18)) 126 (cDeal ((findD (ss.getD ((a.fLock.fHome - 1)).toNat default).fDeals a.fLock.fClient a.fLock.fSeq)))) L)] (fun _ => G) (fun _ => by kernel_rfl) ?_ fun V hV => ?_
   ·
    refine ⟨fun V De _=>aP2 (ldB 2 G G (Og G) G G<|oh G G G G) (ldB 3 G G (Og G) G G<|oh G G G G),fun V De _=>aP2 (sbI G G inI G<|oh G G G G) (sbI G G inI G<|oh G G G G),fun V De _=>(by (repeat (refine aC ?_ ?_; exact ixQ 0 G G G slt_28 G fun v59 => nl (odH G G G trivial (Sc 0 G Sn) (SubD.tail Sr)))); trivial),fun V De _=>(by (repeat (refine aC ?_ ?_; exact faP (α := TState) (β := List TDeal) 0 (fun x : TState => x.fDeals) G G (Fg G) pState_9 G fun v60 => nl (odH G G G trivial (Sc 0 G Sn) (SubD.tail (SubD.tail Sr))))); trivial),fun V De _=>(by (repeat (refine aC ?_ ?_; exact ldL 0 G G (Og G) G fun v61 => nl (odH G G G trivial (Sc 0 G Sn) (SubD.tail (SubD.tail Sr))))); trivial),fun V De _=>aP2 (ldB 2 G G (Og G) G G<|oh G G G G) (ldB 3 G G (Og G) G G<|oh G G G G),fun V De _=>aP2 (ldB 2 G G (Og G) G G<|oh G G G G) (ldB 3 G G (Og G) G G<|oh G G G G),fun V De _=>(by (repeat (refine aC ?_ ?_; exact cfv (find18_c _ _ _ _ h_a.2.2.2.2.2.1 h_a.2.2.2.2.2.2.1) (Kg G) G (Sc 0 G Sn) G<|nl (odH G G G G Sn (SubD.tail Sr)))); trivial),fun V De _=>aP1 (al zero_126 G fun b12 => oh G G G G),?_⟩
    refine ⟨fun V De hV=>aP1 ?_,?_⟩
    · exact stW 0 (us := (cDeal ((findD (ss.getD ((a.fLock.fHome - 1)).toNat default).fDeals a.fLock.fClient a.fLock.fSeq)))) (congrArg some (hV.mem 18 (mE G) G)) G G (Rg G) G G<|oh0 G G
    trivial
   ·
    refine wD [3,4,5] G<|?_
    obtain ⟨b12, hb12⟩ : ∃ b, V 18 = .pointer (some ⟨b, 0, none⟩) := ⟨_, hV.mem 18 (by decide) rfl rfl⟩
    simp only [hb12, ptrB_mk]
    refine nx<|sb 3 [0] G G<|cdP G (fun h73 => ?_) (fun h73 => ?_)
    · exact rg<|ldM 1 (cWide ((wide (partsL rr (cntOf g a) i).sum))) G G (Rg G) G G<|rl 3 [3] G G<|cfv (plus_c _ _ (psum_BW hrw h_a.2.2.1 (by omega)) h_a.2.2.2.2.2.2.2.2) (Kg G) G Sn G<|stW 1 (us := (cWide ((wide ((partsL rr (cntOf g a) i).sum + a.fLock.fN))))) G G G (Rg G) G G<|nl<|nx<|qg<|ldM 1 (cWide ((wide ((partsL rr (cntOf g a) i).sum + a.fLock.fN)))) G G (Rg G) G G<|stW 2 (us := (cWide ((wide ((partsL rr (cntOf g a) i).sum + a.fLock.fN))))) G G G (Rg G) G G<|nl<|nx<|rt<|fRG () [_, _, _, _] (rC 2 G G G (Rg G)) (by rw [hie, partsC_sum ss rr (cntOf g a) (lock_T hg h52 hl1 hl2 h73), List.sum_cons, List.sum_nil, Int.add_zero]; rfl) G Sn
    · exact sk<|nx<|qg<|ldM 1 (cWide ((wide (partsL rr (cntOf g a) i).sum))) G G (Rg G) G G<|stW 2 (us := (cWide ((wide (partsL rr (cntOf g a) i).sum)))) G G G (Rg G) G G<|nl<|nx<|rt<|fRG () [_, _, _, _] (rC 2 G G G (Rg G)) (by rw [hie, partsC_sum ss rr (cntOf g a) (lock_F hg h52 hl1 hl2 h73), List.sum_nil, Int.add_zero]; rfl) G Sn
  · exact sk<|nx<|qg<|ldM 0 (cWide ((wide (partsL rr (cntOf g a) i).sum))) G G (Rg G) G G<|stW 1 (us := (cWide ((wide (partsL rr (cntOf g a) i).sum)))) G G G (Rg G) G G<|nl<|nx<|rt<|fRG () [_, _, _] (rC 1 G G G (Rg G)) (by rw [hie, partsC_sum ss rr (cntOf g a) (lock_0 h52), List.sum_nil, Int.add_zero]; rfl) G Sn
end Go.Proofs.YtmpoffijcfaalaaGreat
namespace Go.YtmpoffijcfaalaaGreat
open Go.Eng
structure Tcounted25 where
 fGroup : Int
 fA : TAccount
 deriving DecidableEq, Inhabited
@[reducible] def ccounted25 (x : Tcounted25) (k0 : Value) : List Value := [.int .i64 x.fGroup, .string x.fA.fKey, .int .i64 x.fA.fSpan.fLo, .int .i64 x.fA.fSpan.fHi, .int .i64 x.fA.fBase, .int .i64 x.fA.fRound, k0, .int .i64 x.fA.fLock.fClient, .int .i64 x.fA.fLock.fSeq, .int .i64 x.fA.fLock.fHome, .int .i64 x.fA.fLock.fN]
def Tcounted25.wf (x : Tcounted25) : Prop := InI x.fGroup ∧ x.fA.wf
@[reducible] def scounted25 : Shape Tcounted25 where
 H := Value
 size := 11
 cells x h := ccounted25 x h
 sub x h := [⟨h, x.fA.fHolders⟩]
 wf := Tcounted25.wf
 len _ _ := rfl
 one := by
  intro S w x h ht u hu
  have o0 := oneCell_of_list (ht _ (List.mem_cons_self ..))
  simp only [ccounted25, List.mem_cons, List.not_mem_nil, or_false] at hu
  rcases hu with rfl | rfl | rfl | rfl | rfl | rfl | rfl | rfl | rfl | rfl | rfl <;> first | rfl | exact o0
@[reducible] instance rcounted25 : Rep Tcounted25 := Rep.ofShape scounted25
theorem pcounted25_0 {x : Tcounted25} : ∀ (S : Nat → Prop) (w : World) (cs : List Value), rcounted25.rd S w cs x → repInt.rd S w ((cs.drop 0).take 1) x.fGroup := by
 rintro S w cs ⟨h, rfl, hs, hw⟩
 exact ⟨rfl, hw.1⟩
theorem pcounted25_1 {x : Tcounted25} : ∀ (S : Nat → Prop) (w : World) (cs : List Value), rcounted25.rd S w cs x → rAccount.rd S w ((cs.drop 1).take 10) x.fA := by
 rintro S w cs ⟨h, rfl, hs, hw⟩
 exact ⟨h, rfl, fun t ht => hs t (by simp only [List.mem_cons, List.not_mem_nil, or_false] at ht ⊢; subst ht; simp), hw.2⟩
end Go.YtmpoffijcfaalaaGreat
namespace Go.Proofs.YtmpoffijcfaalaaGreat
open Go.Eng
theorem slt_137 : SliceTy Pg 137 139 11 := ⟨Tryz.underlying137, by kernel_rfl⟩
theorem zero_78 : ZeroOf Pg 78 [.string ByteArray.empty, .int .i64 0, .int .i64 0, .int .i64 0] := ZeroOf.mk (by kernel_rfl)
end Go.Proofs.YtmpoffijcfaalaaGreat
