/- Part 40 of the proof of dutyQuiet_holds: DutL3, DutL4, DutW22, DutY2. Every text below begins with what it shows. -/
import Derived.Test.YtmpoffijcfaalaaGreatQu39

/- What the program's checks tell is what the reference's tell: places, charts, scenes, routes. No program. -/

namespace Go.YtmpoffijcfaalaaGreat
open Go.Eng

theorem rplj_eq (l : List TPlace) (j : Nat) : (!rplj l j) = (!place17b l j && place17c l j) := by
  unfold rplj place17b
  by_cases hg : okGroup (l.getD j default).fGroup = true
  · have hg2 := hg
    simp only [okGroup, Bool.and_eq_true, decide_eq_true_eq] at hg2
    have hs : seenB l j (l.getD j default).fGroup.toNat = !place17c l j := by
      rw [Bool.eq_iff_iff, seen_iff]
      unfold place17c
      rw [Bool.not_eq_true', ← Bool.not_eq_true, allI_iff]
      constructor
      · rintro ⟨k, hk, e⟩ h
        have := h k hk
        simp only [Bool.not_eq_true', decide_eq_false_iff_not] at this
        omega
      · intro h
        refine Classical.byContradiction fun hn => h fun k hk => ?_
        simp only [Bool.not_eq_true', decide_eq_false_iff_not]
        intro e
        exact hn ⟨k, hk, by omega⟩
    rw [hs, hg, decide_eq_false (show ¬ (l.getD j default).fGroup < 1 by omega), decide_eq_false (show ¬ (l.getD j default).fGroup ≥ 8 by omega)]
    cases place17c l j <;> simp
  · have hg2 := hg
    simp only [okGroup, Bool.and_eq_true, decide_eq_true_eq, not_and] at hg2
    rw [Bool.not_eq_true] at hg
    rw [hg]
    by_cases h1 : (l.getD j default).fGroup < 1
    · simp only [h1, decide_true, Bool.true_or, Bool.not_true, Bool.not_false, Bool.false_and]
    · have h2 : (l.getD j default).fGroup ≥ 8 := by have := hg2 (by omega); omega
      simp only [h2, decide_true, Bool.true_or, Bool.or_true, Bool.not_true, Bool.not_false, Bool.false_and]
theorem places_eq (l : List TPlace) : rplacesP l = places17 l := by
  unfold rplacesP places17
  have e : allI l.length (fun j => !rplj l j) = allI l.length (fun j => !place17b l j && place17c l j) := allI_congr fun j _ => rplj_eq l j
  have h1 : place17a l = (rpl1 l || decide ((l.length : Int) > 7)) := by
    unfold place17a rpl1
    cases decide ((l.length : Int) < 1) <;> cases decide ((l.length : Int) > 7) <;> cases isNil (l.getD 0 default).fFrom <;> rfl
  rw [h1, ← e]
  by_cases hr : rpl1 l = true
  · rw [hr]; rfl
  · rw [Bool.not_eq_true] at hr
    rw [hr]
    by_cases h7 : (l.length : Int) > 7
    · simp only [h7, decide_true, Bool.or_true, if_true, Bool.false_eq_true, if_false]
      rw [← Bool.not_eq_true, e, allI_iff]
      intro h
      have := pigeon 7 l.length (fun i => (l.getD i default).fGroup.toNat - 1) (fun i hi => by
        have := h i hi
        simp only [Bool.and_eq_true, Bool.not_eq_true', place17b, Bool.or_eq_false_iff, decide_eq_false_iff_not] at this
        show (l.getD i default).fGroup.toNat - 1 < 7
        omega) (fun i j hi hj ee => by
        have hgi := h i hi
        have hgj := h j hj
        simp only [Bool.and_eq_true, Bool.not_eq_true', place17b, Bool.or_eq_false_iff, decide_eq_false_iff_not] at hgi hgj
        have ei : (l.getD i default).fGroup = (l.getD j default).fGroup := by
          have ee : (l.getD i default).fGroup.toNat - 1 = (l.getD j default).fGroup.toNat - 1 := ee
          omega
        rcases Nat.lt_trichotomy i j with hlt | hlt | hlt
        · have := allI_iff.1 hgj.2 i hlt
          simp only [Bool.not_eq_true', decide_eq_false_iff_not] at this
          exact absurd ei this
        · exact hlt
        · have := allI_iff.1 hgi.2 j hlt
          simp only [Bool.not_eq_true', decide_eq_false_iff_not] at this
          exact absurd ei.symm this)
      omega
    · simp only [h7, decide_false, Bool.or_false]
/-! where a key stands -/
theorem places_at {l : List TPlace} (h : places17 l = true) : isNil (l.getD 0 default).fFrom = true ∧ ∀ j, j + 1 < l.length → ltB (l.getD j default).fFrom (l.getD (j + 1) default).fFrom = true := by
  unfold places17 at h
  split at h
  · cases h
  · rename_i hn
    simp only [place17a, Bool.or_eq_true, not_or, Bool.not_eq_true', Bool.not_eq_false] at hn
    refine ⟨hn.2, fun j hj => ?_⟩
    have := allI_iff.1 h (j + 1) hj
    simp only [Bool.and_eq_true, Bool.not_eq_true', place17b, Bool.or_eq_false_iff, Bool.and_eq_false_iff, decide_eq_false_iff_not] at this
    have h2 := this.1.2
    have h3 : leB (l.getD (j + 1) default).fFrom (l.getD j default).fFrom = false := by
      rcases h2 with h2 | h2
      · omega
      · rwa [show (((j + 1 : Nat) : Int) - 1).toNat = j by omega] at h2
    unfold leB at h3
    rw [le_ge] at h3
    simpa using h3
theorem mono_lt {l : List TPlace} (h : ∀ j, j + 1 < l.length → ltB (l.getD j default).fFrom (l.getD (j + 1) default).fFrom = true) : ∀ (d i : Nat), i + d + 1 < l.length → ltB (l.getD i default).fFrom (l.getD (i + d + 1) default).fFrom = true
  | 0, i, hi => h i hi
  | d + 1, i, hi => lt_trans (mono_lt h d i (by omega)) (h (i + d + 1) (by omega))
theorem lastI_at : ∀ {n : Nat} {p : Nat → Bool}, p 0 = true → 0 < n → p (lastI n p) = true ∧ ∀ k, lastI n p < k → k < n → p k = false
  | n + 1, p, h0, _ => by
    unfold lastI
    split
    · rename_i h
      exact ⟨h, fun k h1 h2 => by omega⟩
    · rename_i h
      rcases Nat.eq_zero_or_pos n with hn | hn
      · subst hn; exact absurd h0 h
      · obtain ⟨a, b⟩ := lastI_at (n := n) h0 hn
        refine ⟨a, fun k h1 h2 => ?_⟩
        rcases Nat.lt_or_ge k n with hk | hk
        · exact b k h1 hk
        · have : k = n := by omega
          subst this
          simpa using h
theorem end_at {l : List TPlace} {j : Nat} : endP l (j : Int) = if j + 1 < l.length then (l.getD (j + 1) default).fFrom else ByteArray.empty := by
  unfold endP
  by_cases h : j + 1 < l.length
  · rw [if_pos h, if_neg (by simp only [Bool.or_eq_true, decide_eq_true_eq]; omega), show ((j : Int) + 1).toNat = j + 1 by omega]
  · rw [if_neg h, if_pos (by simp only [Bool.or_eq_true, decide_eq_true_eq]; omega)]
theorem find_eq {l : List TPlace} (h : places17 l = true) (key : ByteArray) : find17 l key = findP l key := by
  obtain ⟨h0, hm⟩ := places_at h
  have hpos := places17_pos h
  have hp0 : (!ltB key (l.getD 0 default).fFrom) = true := by
    rw [of_decide_eq_true h0, lt_empty]; rfl
  obtain ⟨ha, hb⟩ := lastI_at (p := fun j => !ltB key (l.getD j default).fFrom) hp0 hpos
  have hlt : findP l key < l.length := findP_lt hpos
  have ne : ∀ k, k + 1 < l.length → isNil (l.getD (k + 1) default).fFrom = false := fun k hk => by
    refine decide_eq_false fun e => ?_
    have := hm k hk
    rw [e, lt_empty] at this
    cases this
  unfold find17
  have : firstI l.length (fun j => within (l.getD j default).fFrom (endP l j) key) = some (findP l key) := by
    refine firstI_some hlt (fun k hk => ?_) ?_
    · show within _ (endP l k) key = false
      rw [end_at, if_pos (by omega)]
      unfold within
      rw [ne k (by omega)]
      have h1 : ltB key (l.getD (k + 1) default).fFrom = false := by
        have hf : ltB key (l.getD (findP l key) default).fFrom = false := by
          have q : (!ltB key (l.getD (findP l key) default).fFrom) = true := ha
          rwa [Bool.not_eq_true'] at q
        rcases Nat.lt_or_ge (k + 1) (findP l key) with hlt2 | hge
        · have hlt3 : ltB (l.getD (k + 1) default).fFrom (l.getD (findP l key) default).fFrom = true := by
            have := mono_lt hm (findP l key - (k + 1) - 1) (k + 1) (by omega)
            rwa [show k + 1 + (findP l key - (k + 1) - 1) + 1 = findP l key by omega] at this
          rw [← Bool.not_eq_true]
          intro hc
          rw [lt_trans hc hlt3] at hf
          cases hf
        · rw [show k + 1 = findP l key by omega]; exact hf
      rw [h1]
      simp
    · show within _ (endP l _) key = true
      unfold within
      rw [le_ge]
      have ha' : (!ltB key (l.getD (findP l key) default).fFrom) = true := ha
      rw [ha', Bool.true_and, end_at]
      split
      · rename_i hk
        have := hb (findP l key + 1) (Nat.lt_succ_self _) hk
        rw [Bool.not_eq_false'] at this
        rw [this, Bool.or_true]
      · rfl
  rw [this]
  rfl
theorem okKey_nil (k : ByteArray) : okKey k = !(isNil k || decide ((k.size : Int) > 16)) := by
  rw [isNil_size]
  unfold okKey
  rw [Bool.eq_iff_iff]
  simp only [Bool.and_eq_true, decide_eq_true_eq, Bool.not_eq_true', Bool.or_eq_false_iff, decide_eq_false_iff_not]
  omega
theorem chart_eq (c : TChart) : planP c = right20 c := by
  unfold planP right20
  have h1 : (plan1 c || plan2 c) = right20a c := by
    unfold plan1 plan2 right20a okNum
    rw [errF_ok, errF_ok, places_eq, marks_eq,
      show decide (c.fIndex < 0) = !decide (c.fIndex ≥ 0) by rw [← decide_not]; exact decide_eq_decide.2 (by omega),
      show decide (c.fIndex > far) = !decide (c.fIndex ≤ far) by rw [← decide_not]; exact decide_eq_decide.2 (by omega),
      show decide (c.fLast < 0) = !decide (c.fLast ≥ 0) by rw [← decide_not]; exact decide_eq_decide.2 (by omega),
      show decide (c.fLast > far) = !decide (c.fLast ≤ far) by rw [← decide_not]; exact decide_eq_decide.2 (by omega)]
    cases decide (c.fIndex ≥ 0) <;> cases decide (c.fIndex ≤ far) <;> cases decide (c.fLast ≥ 0) <;> cases decide (c.fLast ≤ far) <;> cases places17 c.fPlaces <;> cases decide (c.fNext < 2) <;> cases decide (c.fNext > 8) <;> cases marks14 c.fMarks <;> rfl
  have h2 : plan3 c = !right20b c := by
    unfold plan3 right20b
    cases e : firstI c.fPlaces.length (fun j => decide ((c.fPlaces.getD j default).fGroup ≥ c.fNext)) with
    | none =>
      rw [show allI c.fPlaces.length (fun j => !decide ((c.fPlaces.getD j default).fGroup ≥ c.fNext)) = true from allI_true fun j hj => by
        have := List.find?_eq_none.1 e j (List.mem_range.2 hj)
        simpa using this]
      rfl
    | some j =>
      have hj := firstI_lt e
      have hp := List.find?_some e
      rw [allI_false j hj (by have hp : decide ((c.fPlaces.getD j default).fGroup ≥ c.fNext) = true := hp; rw [hp]; rfl)]
      show decide ((j : Int) ≥ 0) = _
      simp
  rw [← h1, h2]
  cases ha : plan1 c with
  | true => rfl
  | false =>
    cases hb : plan2 c with
    | true => rfl
    | false =>
      have hpl : places17 c.fPlaces = true := by
        have := hb
        unfold plan2 at this
        rw [errF_ok, places_eq] at this
        simp only [Bool.or_eq_false_iff, Bool.not_eq_false'] at this
        exact this.1
      have hl : 0 ≤ c.fLast := by
        simp only [plan1, Bool.or_eq_false_iff, decide_eq_false_iff_not] at ha
        omega
      have h5 : plan5 c = goesP c := by
        unfold plan5 goesP
        have hg : goes1 c = !(decide (c.fPlan.fNumber = c.fLast) && (!decide (c.fPlan.fNumber = 0)) && okWhose c.fPlan.fClient c.fPlan.fSeq && decide (epochP c.fPlaces < far)) := by
          unfold goes1 okWhose okClient okSeq
          rw [Bool.eq_iff_iff]
          simp only [Bool.or_eq_true, Bool.not_eq_true', Bool.and_eq_false_iff, decide_eq_true_eq, decide_eq_false_iff_not, Bool.not_eq_false']
          omega
        rw [hg]
        cases hX : (decide (c.fPlan.fNumber = c.fLast) && (!decide (c.fPlan.fNumber = 0)) && okWhose c.fPlan.fClient c.fPlan.fSeq && decide (epochP c.fPlaces < far)) with
        | false => rfl
        | true =>
          simp only [Bool.true_and, Bool.not_true, Bool.false_eq_true, if_false]
          unfold splitsP mergesP split1 merge1
          cases ho : (ofP c.fPlaces c.fPlan.fTo).isSome with
          | true =>
            simp only [Bool.true_or, if_true, Bool.not_true, Bool.false_or, Bool.false_eq_true, if_false]
            unfold merge2 goes3
            by_cases hn : nxt c ≥ (c.fPlaces.length : Int)
            · rw [if_pos (decide_eq_true hn), decide_eq_false (show ¬ nxt c < (c.fPlaces.length : Int) by omega)]
              rfl
            · rw [if_neg (by simpa using hn), decide_eq_true (show nxt c < (c.fPlaces.length : Int) by omega), Bool.true_and]
              rw [show decide (c.fPlan.fFrom = (c.fPlaces.getD (nxt c).toNat default).fGroup) = decide ((c.fPlaces.getD (nxt c).toNat default).fGroup = c.fPlan.fFrom) from decide_eq_decide.2 eq_comm,
                show decide (c.fPlan.fLo = (c.fPlaces.getD (nxt c).toNat default).fFrom) = decide ((c.fPlaces.getD (nxt c).toNat default).fFrom = c.fPlan.fLo) from decide_eq_decide.2 eq_comm,
                show decide (c.fPlan.fHi = endP c.fPlaces (nxt c)) = decide (endP c.fPlaces (nxt c) = c.fPlan.fHi) from decide_eq_decide.2 eq_comm]
          | false =>
            simp only [Bool.false_or, Bool.not_false, Bool.true_or, if_true, Bool.or_false]
            unfold split2 goes2
            rw [find_eq hpl, okKey_nil,
              show decide (c.fPlan.fFrom = (c.fPlaces.getD (findP c.fPlaces c.fPlan.fLo) default).fGroup) = decide ((c.fPlaces.getD (findP c.fPlaces c.fPlan.fLo) default).fGroup = c.fPlan.fFrom) from decide_eq_decide.2 eq_comm,
              show decide (c.fPlan.fLo = (c.fPlaces.getD (findP c.fPlaces c.fPlan.fLo) default).fFrom) = decide ((c.fPlaces.getD (findP c.fPlaces c.fPlan.fLo) default).fFrom = c.fPlan.fLo) from decide_eq_decide.2 eq_comm,
              show decide ((c.fPlaces.length : Int) ≥ 7) = !decide ((c.fPlaces.length : Int) < 7) by rw [← decide_not]; exact decide_eq_decide.2 (by omega)]
            cases decide (c.fPlan.fTo = c.fNext - 1) <;> cases decide ((c.fPlaces.length : Int) < 7) <;> cases isNil c.fPlan.fLo <;> cases decide ((c.fPlan.fLo.size : Int) > 16) <;> simp
      rw [h5]
      unfold plan4
      cases right20b c <;> cases decide (c.fPlan = ⟨0, 0, 0, ByteArray.empty, ByteArray.empty, 0, 0⟩) <;> rfl
theorem scene_eq {v : TScene} (hw : ∀ s ∈ v.fStates, ∀ a ∈ s.fAccounts, a.wf) : drightP v = right22 v := by
  unfold drightP right22
  have h1 : r22a v = (dright1 v || !right20 v.fChart || !rights16 v.fRights) := by
    unfold r22a dright1
    cases ((!decide (v.fNodes = 1)) && (!decide (v.fNodes = 3)) && (!decide (v.fNodes = 5))) <;> cases decide (v.fNode < 1) <;> cases decide (v.fNode > v.fNodes) <;> cases right20 v.fChart <;> cases decide ((v.fStates.length : Int) = 7) <;> cases rights16 v.fRights <;> rfl
  have h2 : allI v.fStates.length (fun j => !drightj v j) = allI v.fStates.length (fun j => !r22j v j) := allI_congr fun j hj => by
    unfold drightj r22j
    rw [errF_ok, state_eq (hw _ (getD_mem hj))]
  rw [h1, h2, errF_ok, errF_ok, chart_eq, ledger_eq]
  cases dright1 v <;> cases right20 v.fChart <;> cases rights16 v.fRights <;> cases allI v.fStates.length (fun j => !r22j v j) <;> rfl
end Go.YtmpoffijcfaalaaGreat

/- What a calm scene that is right does not have. No program. -/

namespace Go.YtmpoffijcfaalaaGreat
open Go.Eng
/-- Nothing waits in a state, no deal stands in it, nothing is sealed or out. -/
def calmS (s : TState) : Prop := s.fWaits.length = 0 ∧ s.fDeals.length = 0 ∧ s.fSeal.fNumber = 0 ∧ s.fOut.fNumber = 0
def zplan : TPlan := ⟨0, 0, 0, ByteArray.empty, ByteArray.empty, 0, 0⟩
theorem chart_calm {c : TChart} (h : planP c = true) (h0 : c.fPlan.fNumber = 0) : c.fPlan = ⟨0, 0, 0, ByteArray.empty, ByteArray.empty, 0, 0⟩ := by
  unfold planP at h
  split at h
  · cases h
  split at h
  · cases h
  split at h
  · cases h
  split at h
  · rename_i h4
    exact of_decide_eq_true h4
  · exfalso
    simp [plan5, h0] at h
theorem planned_no {p : TPlan} (h0 : p.fNumber = 0) : plannedP p = false := by simp [plannedP, h0]
theorem state_calm {s : TState} (h : srightP s = true) (hc : calmS s) : s.fSeal = ⟨0, 0, 0, ByteArray.empty, ByteArray.empty, 0, 0⟩ ∧ s.fOut = ⟨0, 0, 0, ByteArray.empty, ByteArray.empty, 0, 0⟩ := by
  unfold srightP at h
  split at h
  · cases h
  split at h
  · cases h
  split at h
  · split at h
    · cases h
    · rename_i h3
      constructor
      · refine Classical.byContradiction fun hn => h3 ?_
        simp [sright3, hn, planned_no hc.2.2.1]
      · split at h
        · rename_i ho
          exact of_decide_eq_true ho
        · exfalso
          simp [sright5, planned_no hc.2.2.2] at h
  · cases h
theorem scene_calm {v : TScene} (hw : ∀ s ∈ v.fStates, ∀ a ∈ s.fAccounts, a.wf) (hR : right22 v = true) (h0 : v.fChart.fPlan.fNumber = 0) (hc : ∀ j, j < v.fStates.length → calmS (v.fStates.getD j default)) :
    v.fChart.fPlan = ⟨0, 0, 0, ByteArray.empty, ByteArray.empty, 0, 0⟩ ∧ (∀ j, j < v.fStates.length → (v.fStates.getD j default).fDeals.length = 0) ∧ (∀ j, j < v.fStates.length → (v.fStates.getD j default).fWaits.length = 0) ∧
    (∀ j, j < v.fStates.length → (v.fStates.getD j default).fSeal = ⟨0, 0, 0, ByteArray.empty, ByteArray.empty, 0, 0⟩) ∧ (∀ j, j < v.fStates.length → (v.fStates.getD j default).fOut = ⟨0, 0, 0, ByteArray.empty, ByteArray.empty, 0, 0⟩) := by
  rw [← scene_eq hw] at hR
  unfold drightP at hR
  split at hR
  · cases hR
  split at hR
  · rename_i ha
    simp only [Bool.and_eq_true, decide_eq_true_eq] at hR
    have hs : ∀ j, j < v.fStates.length → srightP (v.fStates.getD j default) = true := fun j hj => by
      have := allI_iff.1 ha j hj
      simp only [drightj, Bool.not_eq_true', Bool.or_eq_false_iff, Bool.not_eq_false', errF_ok] at this
      exact this.2
    refine ⟨chart_calm (by have := hR.1; unfold errF at this; split at this <;> simp_all) h0, fun j hj => (hc j hj).2.1, fun j hj => (hc j hj).1, fun j hj => (state_calm (hs j hj) (hc j hj)).1, fun j hj => (state_calm (hs j hj) (hc j hj)).2⟩
  · cases hR
/-! one round more -/
theorem calm_snoc {v : TScene} {i : Nat} {c : Bool} (hc : c = true → v.fChart.fPlan.fNumber = 0 ∧ ∀ j, j < i → calmS (v.fStates.getD j default))
    (h : ((((c && decide (((v.fStates.getD i default).fWaits.length : Int) = 0)) && decide (((v.fStates.getD i default).fDeals.length : Int) = 0)) && decide ((v.fStates.getD i default).fSeal.fNumber = 0)) && decide ((v.fStates.getD i default).fOut.fNumber = 0)) = true) :
    v.fChart.fPlan.fNumber = 0 ∧ ∀ j, j < i + 1 → calmS (v.fStates.getD j default) := by
  simp only [Bool.and_eq_true, decide_eq_true_eq] at h
  obtain ⟨⟨⟨⟨h0, h1⟩, h2⟩, h3⟩, h4⟩ := h
  obtain ⟨g0, g1⟩ := hc h0
  refine ⟨g0, fun j hj => ?_⟩
  rcases Nat.lt_or_ge j i with hl | hl
  · exact g1 j hl
  · have : j = i := by omega
    subst this
    exact ⟨by omega, by omega, h3, h4⟩
/-- No account of group n's state is frozen, up to state i. -/
def noFrost (v : TScene) (n : Int) (i : Nat) : Prop := ∀ j, j < i → (j : Int) + 1 = n → ∀ k, k < (v.fStates.getD j default).fAccounts.length → ((v.fStates.getD j default).fAccounts.getD k default).fRound = 0
theorem round_snoc {v : TScene} {n : Int} {i k : Nat} {f : Bool} (hf : f = false → noFrost v n i ∧ ((i : Int) + 1 = n → ∀ q, q < k → ((v.fStates.getD i default).fAccounts.getD q default).fRound = 0))
    (h : (f || !decide (((v.fStates.getD i default).fAccounts.getD k default).fRound = 0)) = false) : noFrost v n i ∧ ((i : Int) + 1 = n → ∀ q, q < k + 1 → ((v.fStates.getD i default).fAccounts.getD q default).fRound = 0) := by
  simp only [Bool.or_eq_false_iff, Bool.not_eq_false', decide_eq_true_eq] at h
  obtain ⟨g0, g1⟩ := hf h.1
  refine ⟨g0, fun hn q hq => ?_⟩
  rcases Nat.lt_or_ge q k with hl | hl
  · exact g1 hn q hl
  · have : q = k := by omega
    subst this
    exact h.2
theorem out_snoc {v : TScene} {n : Int} {i k : Nat} {f : Bool} (hf : f = false → noFrost v n i ∧ ((i : Int) + 1 = n → ∀ q, q < k → ((v.fStates.getD i default).fAccounts.getD q default).fRound = 0))
    (hx : (decide ((i : Int) + 1 = n) && decide ((k : Int) < ((v.fStates.getD i default).fAccounts.length : Int))) = false) (h : f = false) : noFrost v n (i + 1) := by
  obtain ⟨g0, g1⟩ := hf h
  intro j hj hn q hq
  rcases Nat.lt_or_ge j i with hl | hl
  · exact g0 j hl hn q hq
  · have : j = i := by omega
    subst this
    simp only [Bool.and_eq_false_iff, decide_eq_false_iff_not] at hx
    rcases hx with hx | hx
    · exact absurd hn hx
    · exact g1 hn q (by omega)
end Go.YtmpoffijcfaalaaGreat

/- The law DutyQuiet, walked: written by specs9.py. -/

namespace Go.Proofs.YtmpoffijcfaalaaGreat
open Go.Eng Go.YtmpoffijcfaalaaGreat
set_option maxHeartbeats 1000000

theorem dutyQuiet_c (v : TScene) (v_0 v_1 v_2 v_3 v_4 : Value) (n : Int) (h_v : v.wf) (h_n : InI n) (hw : ∀ s ∈ v.fStates, ∀ a ∈ s.fAccounts, a.wf) : FnV Tryz.prog 5 [.agg (cScene v v_0 v_1 v_2 v_3 v_4).toArray, .int .i64 n] [⟨v_0, v.fChart.fPlaces⟩, ⟨v_1, v.fChart.fMarks⟩, ⟨v_2, v.fStates⟩, ⟨v_3, v.fRights⟩, ⟨v_4, v.fAges⟩] (.bool true) := by
 refine Fnc.proof Tryz.func5 G 102 G G fun X w => ?_
 obtain ⟨h_n1, h_n2⟩ := id h_n
 refine gtC (q := v.fStates.length ≤ 9223372036854775807) (fun S w h => list_len (h _ (List.mem_of_getElem? (i := 2) G))) fun hlst => sq<|rg<|bx G G G fun b2 => asg G G<|nl<|nx<|sq<|sq<|rg<|cfv (awake_c ) ok_10 G Sn G<|nt G G<|mv G G ?_
 apply jo [(1, _), (2, _)] ⟨rfl, rfl, trivial⟩
 ·
  intro K16
  refine spO (i := 12) G (fun h12 => ?_) (fun h12 => ?_)
  ·
   exact gY G G G<|ldM 0 (cScene v v_0 v_1 v_2 v_3 v_4) G G row_32 G G<|gY G G G<|cfv (right22_c _ _ _ _ _ _ h_v) ok_18 G (Sc 0 G (Sc 1 G (Sc 2 G (Sc 3 G (Sc 4 G Sn))))) G<|gY G G G<|nt G G<|pkF G G G<|jR K16 h12 ⟨G, G, trivial⟩ Sr
  ·
   exact gS (g := [_, _, _]) G<|pkT G G G<|jR0 K16 h12 ⟨G, G, trivial⟩ Sr
 refine nl<|nx<|cdB G (fun h16 => ?_) (fun h16 => ?_)
 ·
  refine sq<|rg<|cfv (awake_c ) ok_10 G Sn G<|asg G G<|nl<|nx<|rt<|tR<|dpQ ?_
  exact fR1 () G G (by rw [awake_true]) G Sn
 ·
  have hR : right22 v = true := by
   have q := h16
   simp only [Bool.or_eq_false_iff, Bool.not_eq_false'] at q
   exact q.2
  refine sk<|nx<|sq<|rg<|fa G fld_32_2 G<|fa G fld_27_4 G<|fa G fld_24_0 G<|ldB 0 G G one_3 G G<|eqI G G G<|asg G G<|nl<|nx<|sq<|rg ?_
  refine asg G G<|nl<|nx<|sq<|sq<|rg<|asg G G<|nl<|nx<|bk<|lpC (σ := Nat × Bool × Bool) [(1, _), (2, _)] _ (fun i C => (7, .int .i64 (i.1 : Int)) :: (5, .bool i.2.1) :: (6, .bool i.2.2) :: C) (fun i => i.1 ≤ v.fStates.length ∧ (i.2.1 = true → v.fChart.fPlan.fNumber = 0 ∧ ∀ j, j < i.1 → calmS (v.fStates.getD j default)) ∧ (i.2.2 = false → noFrost v n i.1)) (fun i => v.fStates.length - i.1) (0, decide (v.fChart.fPlan.fNumber = 0), false) ⟨G, G, trivial⟩ (Sc 0 G (Sc 1 G (Sc 2 G (Sc 3 G (Sc 4 G Sn))))) ⟨Nat.zero_le _, fun h => ⟨of_decide_eq_true h, fun j hj => absurd hj (Nat.not_lt_zero j)⟩, fun _ j hj => absurd hj (Nat.not_lt_zero j)⟩ ⟨G, G, G, G, G, trivial⟩ ?_
  rintro ⟨i, c, f⟩ ⟨hi, hc, hf⟩
  simp only at hi hc hf
  refine sq<|sq<|rg<|mv G G<|fa G fld_32_3 G<|ldB 0 G G one_28 G G<|lnP 2 G G Tryz.underlying28 G fun l26 => ltI G G G<|nl<|nx<|cdP G (fun h27 => ?_) (fun h27 => ?_)
  ·
   refine sk<|nx<|sq<|bk<|sq<|rg<|fa G fld_32_3 G<|ldB 0 G G one_28 G G<|mv G G<|ixP 2 G G G slt_28 (by omega) (getDE (d := default) (by omega)) G fun v33 => ldS 0 G G row_55 G fun q34 w34 => ?_
   obtain ⟨q34_0, q34_1, q34_2, q34_3, q34_4, q34_5⟩ := q34
   refine al zero_55 G fun b8 => gtL (q := q34_0.oneCell' = true) (fun S w h => oneCell_of_list (h _ (List.mem_of_getElem? (i := 1) G))) fun o_q34_0 => gtL (q := q34_1.oneCell' = true) (fun S w h => oneCell_of_list (h _ (List.mem_of_getElem? (i := 2) G))) fun o_q34_1 => gtL (q := q34_2.oneCell' = true) (fun S w h => oneCell_of_list (h _ (List.mem_of_getElem? (i := 3) G))) fun o_q34_2 => gtL (q := q34_3.oneCell' = true) (fun S w h => oneCell_of_list (h _ (List.mem_of_getElem? (i := 4) G))) fun o_q34_3 => gtL (q := q34_4.oneCell' = true) (fun S w h => oneCell_of_list (h _ (List.mem_of_getElem? (i := 5) G))) fun o_q34_4 => gtL (q := q34_5.oneCell' = true) (fun S w h => oneCell_of_list (h _ (List.mem_of_getElem? (i := 6) G))) fun o_q34_5 => stW 0 (us := (cState ((v.fStates.getD i default)) q34_0 q34_1 q34_2 q34_3 q34_4 q34_5)) G G G row_55 (by simp only [List.all_cons, List.all_nil, Bool.and_true, o_q34_0, o_q34_1, o_q34_2, o_q34_3, o_q34_4, o_q34_5]; rfl) G<|nl<|nx<|sq<|rg<|mv G G<|mv G G ?_
   apply jo [(1, _), (2, _), (6, _), (7, _), (8, _)] ⟨rfl, rfl, rfl, rfl, rfl, trivial⟩
   ·
    intro K41
    refine spA (i := 36) G (fun h36 => ?_) (fun h36 => ?_)
    ·
     exact gY G G G<|fa G fld_55_8 G<|gY G G G<|ldB 0 G G one_51 G G<|gY G G G<|lnP 3 G G Tryz.underlying51 G fun l39 => gY G G G<|eqI G G G<|pkT G G G<|jA K41 h36 ⟨G, G, G, G, G, trivial⟩ Sr
    ·
     exact gS (g := [_, _, _, _]) G<|pkF G G G<|jA0 K41 h36 ⟨G, G, G, G, G, trivial⟩ Sr
   refine mv G G ?_
   apply jo [(1, _), (2, _), (6, _), (7, _), (8, _)] ⟨rfl, rfl, rfl, rfl, rfl, trivial⟩
   ·
    intro K47
    refine spA (i := 42) G (fun h42 => ?_) (fun h42 => ?_)
    ·
     exact gY G G G<|fa G fld_55_9 G<|gY G G G<|ldB 0 G G one_52 G G<|gY G G G<|lnP 4 G G Tryz.underlying52 G fun l45 => gY G G G<|eqI G G G<|pkT G G G<|jA K47 h42 ⟨G, G, G, G, G, trivial⟩ Sr
    ·
     exact gS (g := [_, _, _, _]) G<|pkF G G G<|jA0 K47 h42 ⟨G, G, G, G, G, trivial⟩ Sr
   refine mv G G ?_
   apply jo [(1, _), (2, _), (6, _), (7, _), (8, _)] ⟨rfl, rfl, rfl, rfl, rfl, trivial⟩
   ·
    intro K53
    refine spA (i := 48) G (fun h48 => ?_) (fun h48 => ?_)
    ·
     exact gY G G G<|fa G fld_55_11 G<|gY G G G<|fa G fld_24_0 G<|gY G G G<|ldB 0 G G one_3 G G<|gY G G G<|eqI G G G<|pkT G G G<|jA K53 h48 ⟨G, G, G, G, G, trivial⟩ Sr
    ·
     exact gS (g := [_, _, _, _]) G<|pkF G G G<|jA0 K53 h48 ⟨G, G, G, G, G, trivial⟩ Sr
   refine mv G G ?_
   apply jo [(1, _), (2, _), (6, _), (7, _), (8, _)] ⟨rfl, rfl, rfl, rfl, rfl, trivial⟩
   ·
    intro K59
    refine spA (i := 54) G (fun h54 => ?_) (fun h54 => ?_)
    ·
     exact gY G G G<|fa G fld_55_12 G<|gY G G G<|fa G fld_24_0 G<|gY G G G<|ldB 0 G G one_3 G G<|gY G G G<|eqI G G G<|pkT G G G<|jA K59 h54 ⟨G, G, G, G, G, trivial⟩ Sr
    ·
     exact gS (g := [_, _, _, _]) G<|pkF G G G<|jA0 K59 h54 ⟨G, G, G, G, G, trivial⟩ Sr
   refine asg G G<|nl<|nx<|sq<|rg<|asg G G<|nl<|nx<|bk<|lpC (σ := Nat × Bool) [(1, _), (2, _), (5, _), (7, _), (8, _)] _ (fun k C => (9, .int .i64 (k.1 : Int)) :: (6, .bool k.2) :: C) (fun k => k.1 ≤ (v.fStates.getD i default).fAccounts.length ∧ (k.2 = false → noFrost v n i ∧ ((i : Int) + 1 = n → ∀ q, q < k.1 → ((v.fStates.getD i default).fAccounts.getD q default).fRound = 0))) (fun k => (v.fStates.getD i default).fAccounts.length - k.1) (0, f) ⟨G, G, G, G, G, trivial⟩ (Sc 1 G (Sc 2 G (Sc 3 G (Sc 4 G (Sc 5 G (Sc 6 G (Sc 8 G (Sc 9 G (Sc 10 G (Sc 11 G (Sc 12 G Sn))))))))))) ⟨Nat.zero_le _, fun h => ⟨hf h, fun _ q hq => absurd hq (Nat.not_lt_zero q)⟩⟩ ⟨G, G, G, G, G, G, G, trivial⟩ ?_
   rintro ⟨k, f2⟩ ⟨hk, hf2⟩
   simp only at hk hf2
   refine sq<|sq<|rg<|mv G G<|adI G G (inI (by omega) (by omega)) G<|mv G G<|eqI G G G<|mv G G ?_
   apply jo [(1, _), (2, _), (5, _), (6, _), (7, _), (8, _), (9, _)] ⟨rfl, rfl, rfl, rfl, rfl, rfl, rfl, trivial⟩
   ·
    intro K70
    refine spA (i := 64) G (fun h64 => ?_) (fun h64 => ?_)
    ·
     have p64 := of_decide_eq_true h64
     exact gY G G G<|mv G G<|gY G G G<|fa G fld_55_6 G<|gY G G G<|ldB 0 G G one_50 G G<|gY G G G<|lnP 0 G G Tryz.underlying50 G fun l68 => gY G G G<|ltI G G G<|pkT G G G<|jA K70 h64 ⟨G, G, G, G, G, G, G, trivial⟩ Sr
    ·
     exact gS (g := [_, _, _, _, _]) G<|pkF G G G<|jA0 K70 h64 ⟨G, G, G, G, G, G, G, trivial⟩ Sr
   refine nl<|nx<|cdB G (fun h70 => ?_) (fun h70 => ?_)
   ·
    have q : ((i : Int) + 1 = n) ∧ ((k : Int) < ((v.fStates.getD i default).fAccounts.length : Int)) := by
     have q := h70
     simp only [Bool.and_eq_true, decide_eq_true_eq] at q
     exact q
    refine gtC (q := (v.fStates.getD i default).fAccounts.length ≤ 9223372036854775807) (fun S w h => list_len (h _ (List.mem_of_getElem? (i := 0) G))) fun hla => sk<|nx<|sq<|bk<|rg<|mv G G<|mv G G ?_
    apply jo [(1, _), (2, _), (5, _), (7, _), (8, _), (9, _)] ⟨rfl, rfl, rfl, rfl, rfl, rfl, trivial⟩
    ·
     intro K82
     refine spO (i := 74) G (fun h74 => ?_) (fun h74 => ?_)
     ·
      have q2 : (k : Int) < ((v.fStates.getD (i : Int).toNat default).fAccounts.length : Int) := q.2
      refine gY G G G<|fa G fld_55_6 G<|gY G G G<|ldB 0 G G one_50 G G<|gY G G G<|mv G G<|gY G G G<|ixP 0 G G G slt_50 (by omega) (getDE (d := default) (show k < (v.fStates.getD i default).fAccounts.length by omega)) G fun v78 => gY G G G<|faP (α := TAccount) (β := Int) 0 (fun x : TAccount => x.fRound) G G fld_70_3 pAccount_3 G fun v79 => gY G G G<|ldV 0 G G one_3 G fun w80 => ?_
      exact gY G G G<|neI G G G<|pkF G G G<|jR K82 h74 ⟨G, G, G, G, G, G, trivial⟩ (SubD.tail (SubD.tail Sr))
     ·
      exact gS (g := [_, _, _, _, _, _, _]) G<|pkT G G G<|jR0 K82 h74 ⟨G, G, G, G, G, G, trivial⟩ Sr
    refine asg G G<|nl<|bN<|nx<|rg<|mv G G<|adI G G (inI (by omega) (by omega)) G<|asg G G<|nl ?_
    exact ag ((k + 1, _) : Nat × Bool) ⟨by show k + 1 ≤ _; omega, fun h => round_snoc hf2 h⟩ (by show _ - (k + 1) < _ - k; omega) ⟨G, G, G, G, G, G, G, trivial⟩ G (Sc 0 G (Sc 1 G (Sc 2 G (Sc 3 G (Sc 4 G (Sc 5 G (Sc 6 G (Sc 7 G (Sc 8 G (Sc 9 G (Sc 10 G Sn)))))))))))
   ·
    refine ex<|tE<|tE<|bE<|bN<|nx<|rg<|mv G G<|adI G G (inI (by omega) (by omega)) G<|asg G G<|nl<|dpQ ?_
    exact ag ((i + 1, _, _) : Nat × Bool × Bool) ⟨by show i + 1 ≤ v.fStates.length; omega, fun h => calm_snoc hc h, fun h => out_snoc hf2 h70 h⟩ (by show v.fStates.length - (i + 1) < v.fStates.length - i; omega) ⟨G, G, G, G, G, trivial⟩ G (Sc 6 G (Sc 7 G (Sc 8 G (Sc 9 G (Sc 10 G Sn)))))
  ·
   refine ex<|tE<|tE<|bE<|nx<|sq<|rg<|mv G G<|nt G G<|mv G G ?_
   apply jo [(1, _), (2, _), (6, _)] ⟨rfl, rfl, rfl, trivial⟩
   ·
    intro K91
    refine spO (i := 85) G (fun h85 => ?_) (fun h85 => ?_)
    ·
     have hcc := hc (by simpa using h85)
     obtain ⟨hp, hsd, hsw, hss, hso⟩ := scene_calm hw hR hcc.1 (fun j hj => hcc.2 j (by omega))
     exact gY G G G<|ldM 0 (cScene v v_0 v_1 v_2 v_3 v_4) G G row_32 G G<|gY G G G<|mv G G<|gY G G G<|cfv (duties0_c v v_0 v_1 v_2 v_3 v_4 n h_v h_n hp hsd hsw hss hso) ok_15 G (Sc 0 G (Sc 1 G (Sc 2 G (Sc 3 G (Sc 4 G Sn))))) G<|gY G G G<|lnV G Tryz.underlying45 G<|gY G G G<|eqI G G G<|pkF G G G<|jR K91 h85 ⟨G, G, G, trivial⟩ Sr
    ·
     exact gS (g := [_, _, _, _, _]) G<|pkT G G G<|jR0 K91 h85 ⟨G, G, G, trivial⟩ Sr
   refine mv G G ?_
   apply jo [] trivial
   ·
    intro K101
    refine spA (i := 92) G (fun h92 => ?_) (fun h92 => ?_)
    ·
     refine gY G G G<|mv G G<|gY G G G<|mv G G ?_
     apply jo [(92, _)] ⟨rfl, trivial⟩
     ·
      intro K100
      refine spO (i := 94) G (fun h94 => ?_) (fun h94 => ?_)
      ·
       have hff := hf h94
       have hl := dright_len (v := v) (by rw [scene_eq hw]; exact hR)
       exact gY G G G<|ldM 0 (cScene v v_0 v_1 v_2 v_3 v_4) G G row_32 G G<|gY G G G<|mv G G<|gY G G G<|cfv (reports0_c v v_0 v_1 v_2 v_3 v_4 n h_v h_n (fun h1 h2 j hj => hff (n - 1).toNat (by omega) (by omega) j hj)) ok_13 G (Sc 0 G (Sc 1 G (Sc 2 G (Sc 3 G (Sc 4 G Sn))))) G<|gY G G G<|lnV G Tryz.underlying45 G<|gY G G G<|eqI G G G<|gY G G G<|pkF G G G<|jR K100 h94 ⟨G, trivial⟩ Sr
      ·
       exact gS (g := [_, _, _, _, _]) G<|gY G G G<|pkT G G G<|jR0 K100 h94 ⟨G, trivial⟩ Sr
     exact pkT G G G<|jA K101 h92 trivial Sr
    ·
     exact gS (g := [_, _, _, _, _, _, _, _]) G<|pkF G G G<|jA0 K101 h92 trivial Sr
   refine asg G G<|nl<|nx<|rt<|dpQ ?_
   exact fR1 () G G (by simp) G Sn
end Go.Proofs.YtmpoffijcfaalaaGreat

/- The law DutyQuiet holds of every input: where all is calm nothing is due, and where nothing is frozen nothing is reported. No condition. -/

namespace Go.Proofs.YtmpoffijcfaalaaGreat
open Go.Eng Go.YtmpoffijcfaalaaGreat Go.ChangeShapes Go.WideShapes Go.ChangeAt Go.RowKit

theorem Tryz.own : ownKnob Tryz.prog.godebug = none := by kernel_rfl
theorem Tryz.laidOut : laidOutB Tryz.prog = true := by kernel_rfl

theorem accs_wf {S : Nat → Prop} {w : World} {v : Value} {l : List TState} (h : Atom.holds ⟨v, l⟩ S w) : ∀ s ∈ l, ∀ a ∈ s.fAccounts, a.wf := by
  intro s hs
  obtain ⟨cs, k, _, hsub, _⟩ := list_each h s hs
  exact list_wf (s := sAccount) (hsub _ (List.mem_cons_self ..))

set_option maxRecDepth 100000 in
theorem dutyQuiet_lifted (os : Os) (started : os.Started) (H : Type) (enc : TypeId × Value → H) :
    ReturnsInHanded {} Tryz.checked os 5 .any (Rows.dutyQuietSpec.pre6 enc Tryz.prog Tryz.f5 Rows.dutyQuietRow.domain false) (Rows.dutyQuietSpec.post enc Tryz.prog Tryz.f5 false true false false) := by
  refine returnsInHanded_of_change (C := Tryz.checked) Tryz.own started (by kernel_rfl) Tryz.func5
    (ChangeSpec.witness6 (enc := enc) (C := Tryz.checked) false ⟨#[], #[.agg (cScene zscene (.slice none 0 0) (.slice none 0 0) (.slice none 0 0) (.slice none 0 0) (.slice none 0 0)).toArray, .int .i64 0], []⟩ 8 (by kernel_rfl) (by kernel_rfl) (by kernel_rfl) (by kernel_rfl)) ?_
  intro W base args ds gs before hval0 hW _ _
  have hval : ∀ (j : Nat) t v, Tryz.f5.params[j]? = some t → args[j]? = some v → Value.okWide Tryz.prog W .any base t v := hval0
  have hW' := hW
  obtain ⟨p, q, hA0, hV, rfl, hfz, hnd⟩ := hW
  have hA : DataW.TrodAll enc Tryz.prog W 0 (fun _ => true) true Tryz.f5.params.toList args.toList ds p := hA0
  rw [Tryz.params5] at hA hval
  obtain ⟨v0, r0, d0, e0, p0, q0, ha, rfl, rfl, h0, hA⟩ := trodAll_cons hA
  obtain ⟨v1, r1, d1, e1, p1, q1, rfl, rfl, rfl, h1, hA⟩ := trodAll_cons hA
  obtain ⟨rfl, rfl, rfl⟩ := trodAll_nil hA
  obtain ⟨rfl, rfl⟩ := trodVars_none hV
  have hargs : args = #[v0, v1] := Array.toList_inj.1 ha
  subst hargs
  obtain ⟨c, rfl, rfl, rfl, wc⟩ := open_int Tryz.underlying3 (hval 1 3 v1 rfl rfl) h1
  simp [Lit.wf, IntKind.min, IntKind.max, IntKind.signed, IntKind.bits] at wc
  obtain ⟨cs0, v, rfl, ⟨k0, k1, k2, k3, k4⟩, rfl, hs, wv⟩ := arg_struct Tryz.underlying32 opens_32 (hval 0 32 v0 rfl rfl) h0
  have hF := dutyQuiet_c v k0 k1 k2 k3 k4 c wv ⟨by omega, by omega⟩ (accs_wf (hs ⟨k2, v.fStates⟩ (by simp)))
  exact hF.post Tryz.laidOut (by kernel_rfl) rfl (by kernel_rfl) Tryz.underlying4 rfl hW' hs

theorem and_t {a b : Bool} (ha : a = true) (hb : b = true) : (a && b) = true := by rw [ha, hb]; rfl
set_option maxHeartbeats 40000000 in
theorem dutyQuiet_closed : joinedFacts Tryz.prog 5 Tryz.f5 Rows.dutyQuietSpec Rows.dutyQuietRow = true := by
  unfold joinedFacts
  repeat' (with_reducible apply and_t)
  all_goals (as_aux_lemma => kernel_rfl)
theorem dutyQuiet_named : Tryz.prog.funcNamed Rows.dutyQuietRow.func = some 5 := by kernel_rfl
theorem dutyQuiet_inst : Tryz.f5.isInstance Tryz.prog Rows.dutyQuietRow.origin Rows.dutyQuietRow.targs := of_decide_eq_true (by kernel_rfl)
theorem dutyQuiet_wrap : Tryz.f5.isWrapper Tryz.prog Rows.dutyQuietRow.wrapper Rows.dutyQuietRow.mainSum := by
  unfold Func.isWrapper
  rw [if_neg (by decide +kernel)]
  exact ⟨rfl, rfl⟩
theorem dutyQuiet_holds : Rows.DutyQuietSaid :=
  OpenClaim.holds_of_wide 5 Tryz.f5 rfl rfl rfl rfl rfl rfl rfl ⟨rfl, rfl, rfl, rfl, rfl⟩ rfl rfl rfl rfl rfl dutyQuiet_named Tryz.func5 dutyQuiet_closed dutyQuiet_inst dutyQuiet_wrap
    (fun os started H enc _ => dutyQuiet_lifted os started H enc)
#print axioms dutyQuiet_holds
end Go.Proofs.YtmpoffijcfaalaaGreat
