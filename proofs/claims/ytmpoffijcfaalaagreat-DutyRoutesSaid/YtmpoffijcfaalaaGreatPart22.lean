/- Part 22 of the proof of dutyRoutes_holds: DutL2, DutL3, DutY1. Every text below begins with what it shows. -/
import Derived.Test.YtmpoffijcfaalaaGreatPart21

/- What the program's checks tell is what the reference's tell: accounts, states. No program. -/

namespace Go.YtmpoffijcfaalaaGreat
open Go.Eng

theorem sum_nn : ∀ {l : List Int}, (∀ x ∈ l, 0 ≤ x) → 0 ≤ l.sum
  | [], _ => by simp
  | x :: r, h => by
    have ih := sum_nn (l := r) fun y hy => h y (List.mem_cons_of_mem _ hy)
    have := h x (List.mem_cons_self ..)
    simp only [List.sum_cons]
    omega
theorem hold_mem {l : List THolder} (hh : holdersP l = true) {x : THolder} (hx : x ∈ l) : 0 ≤ x.fUp ∧ 0 ≤ x.fDown := by
  obtain ⟨i, hi, rfl⟩ := List.getElem_of_mem hx
  have := hold_at hh hi
  rw [getD_at hi] at this
  exact ⟨this.2.2.2.1, this.2.2.2.2⟩
theorem ups_ge {a : TAccount} (hh : holdersP a.fHolders = true) : a.fBase ≤ upsS a := by
  unfold upsS
  have := sum_nn (l := a.fHolders.map (·.fUp)) fun x hx => by
    obtain ⟨y, hy, rfl⟩ := List.mem_map.1 hx
    exact (hold_mem hh hy).1
  omega
theorem downs_le {a : TAccount} (hh : holdersP a.fHolders = true) : downsS a ≤ a.fBase := by
  unfold downsS
  have := sum_nn (l := a.fHolders.map (·.fDown)) fun x hx => by
    obtain ⟨y, hy, rfl⟩ := List.mem_map.1 hx
    exact (hold_mem hh hy).2
  omega
theorem sum_ok {x : Int} (h : sumOk x = true) : sumI x = x ∧ sumE x = 0 := by unfold sumI sumE; rw [if_pos h, if_pos h]; exact ⟨rfl, rfl⟩
theorem sum_no {x : Int} (h : sumOk x = false) : sumI x = 0 ∧ sumE x = 10 := by unfold sumI sumE; rw [h]; exact ⟨rfl, rfl⟩
theorem acc2_eq {a : TAccount} (hw : a.wf) (hh : holdersP a.fHolders = true) : acc2 a = r15b a := by
  have h1 := ups_ge hh
  have h2 := downs_le hh
  obtain ⟨hs1, hs2⟩ := hw.2.1
  obtain ⟨l1, l2⟩ := hs1
  obtain ⟨u1, u2⟩ := hs2
  obtain ⟨b1, b2⟩ := hw.2.2.1
  have hd : decide ((wide (downsS a - a.fSpan.fLo)).fHi < 0) = decide (downsS a < a.fSpan.fLo) := decide_eq_decide.2 (by
    show (downsS a - a.fSpan.fLo) / 18446744073709551616 < 0 ↔ _
    omega)
  have hu : aboveP (upsS a) a.fSpan.fHi = decide (upsS a > a.fSpan.fHi) := decide_eq_decide.2 (by omega)
  unfold acc2 r15b
  rw [hd, hu]
  cases e1 : sumOk (upsS a) with
  | true =>
    rw [(sum_ok e1).1, (sum_ok e1).2]
    cases e2 : sumOk (downsS a) with
    | true => rw [(sum_ok e2).1, (sum_ok e2).2]; simp
    | false =>
      rw [(sum_no e2).1, (sum_no e2).2]
      have : downsS a < a.fSpan.fLo := by
        simp only [sumOk, Bool.and_eq_false_iff, decide_eq_false_iff_not] at e2
        omega
      simp [this]
  | false =>
    rw [(sum_no e1).1, (sum_no e1).2]
    have : upsS a > a.fSpan.fHi := by
      simp only [sumOk, Bool.and_eq_false_iff, decide_eq_false_iff_not] at e1
      omega
    simp [this]
theorem fits_eq {a : TAccount} : (sumOk (a.fBase + a.fLock.fN) && fits15 a) = fitsP a a.fLock := by
  unfold fitsP fits15
  cases e : sumOk (a.fBase + a.fLock.fN) with
  | true =>
    rw [(sum_ok e).1, (sum_ok e).2]
    have : IntKind.i64.wrap ((a.fBase + a.fLock.fN) % 18446744073709551616) = a.fBase + a.fLock.fN := by
      rw [wrapi]
      simp only [sumOk, Bool.and_eq_true, decide_eq_true_eq] at e
      omega
    rw [this]
    simp
  | false => rw [(sum_no e).1, (sum_no e).2]; simp
theorem acc1_eq (a : TAccount) : acc1 a = (r15a a || !holdersP a.fHolders) := by
  unfold acc1 r15a okKey
  rw [show (decide ((a.fKey.size : Int) < 1) || decide ((a.fKey.size : Int) > 16)) = !(decide ((a.fKey.size : Int) ≥ 1) && decide ((a.fKey.size : Int) ≤ 16)) by
    rw [Bool.eq_iff_iff]
    simp only [Bool.or_eq_true, Bool.not_eq_true', Bool.and_eq_false_iff, decide_eq_true_eq, decide_eq_false_iff_not]
    omega]
theorem acc_eq {a : TAccount} (hw : a.wf) : accP a = right15 a := by
  unfold accP right15
  rw [acc1_eq]
  cases r15a a with
  | true => rfl
  | false =>
    cases hh : holdersP a.fHolders with
    | false => rfl
    | true =>
      simp only [Bool.not_true, Bool.or_false, Bool.false_eq_true, if_false, if_true]
      rw [acc2_eq hw hh, Bool.and_assoc _ (sumOk _), fits_eq]
theorem acc_key {a : TAccount} (h : accP a = true) : okKey a.fKey = true ∧ (a.fLock.fClient = 0 → a.fLock = ⟨0, 0, 0, 0⟩) := by
  unfold accP at h
  split at h
  · cases h
  · rename_i h1
    rw [acc1_eq] at h1
    simp only [Bool.or_eq_true, not_or, r15a, Bool.not_eq_true', Bool.not_eq_false] at h1
    refine ⟨h1.1.1.1, fun hc => ?_⟩
    split at h
    · cases h
    · rw [if_pos (decide_eq_true hc)] at h
      exact of_decide_eq_true h
theorem plain_eq {a : TAccount} (h : accP a = true) : aplainP a = plain15 a := by
  obtain ⟨hk, hl⟩ := acc_key h
  unfold aplainP plain15 sameAcc new15 newE lockedP
  rw [h, hk]
  simp only [if_true, decide_true, Bool.true_and, Bool.not_not]
  rw [show decide (a.fHolders = []) = decide ((a.fHolders.length : Int) = 0) from decide_eq_decide.2 (by
    rw [← List.length_eq_zero_iff]
    omega)]
  rw [show decide (a.fLock = ⟨0, 0, 0, 0⟩) = decide (a.fLock.fClient = 0) from decide_eq_decide.2 ⟨fun e => by rw [e], hl⟩]
  cases decide (a.fSpan = ⟨0, 0⟩) <;> cases decide (a.fBase = 0) <;> cases decide ((a.fHolders.length : Int) = 0) <;> cases decide (a.fRound = 0) <;> cases decide (a.fLock.fClient = 0) <;> rfl
theorem accs_eq {s : TState} (hw : ∀ a ∈ s.fAccounts, a.wf) : accsP s = (rising19 s.fAccounts && accs19 s) := by
  unfold accsP rising19 accs19
  by_cases h : (s.fAccounts.length : Int) > 12
  · rw [if_pos (decide_eq_true h), decide_eq_false (show ¬ (s.fAccounts.length : Int) ≤ 12 by omega)]
    split <;> rfl
  · rw [if_neg (by simpa using h), decide_eq_true (show (s.fAccounts.length : Int) ≤ 12 by omega)]
    have e : ∀ b : Bool, (if b = true then true else false) = b := fun b => by cases b <;> rfl
    rw [e, allI_and]
    refine allI_congr fun j hj => ?_
    have hm := hw _ (getD_mem (l := s.fAccounts) hj)
    unfold accsj risj
    rw [errF_ok, ← acc_eq hm]
    cases ha : accP (s.fAccounts.getD j default) with
    | false => rfl
    | true =>
      rw [plain_eq ha]
      cases plain15 (s.fAccounts.getD j default) <;> cases ownsP s (s.fAccounts.getD j default).fKey <;> simp
theorem state_eq {s : TState} (hw : ∀ a ∈ s.fAccounts, a.wf) : srightP s = sright19 s := by
  unfold srightP sright19
  have h1 : sright1 s = (q19a s || q19b s || !(rising19 s.fAccounts && accs19 s)) := by
    unfold sright1 q19a
    rw [counts_eq, owned_eq, accs_eq hw]
    simp only [Bool.not_and, Bool.not_not, Bool.or_assoc]
  have h2 : (sright2 s || !rising19 s.fAccounts) = q19c s := by
    unfold sright2 q19c
    rw [errF_ok, errF_ok, errF_ok, marks_eq, deals_eq, ends_eq]
    cases rising19 s.fAccounts <;> simp
  have h3 : sright3 s = q19d s := by unfold sright3 q19d; rw [planned_eq]
  have h4 : srightW s = waits19 s := by unfold srightW waits19; exact allI_congr fun j _ => wait_eq _ _
  have h5 : sright5 s = q19e s := by
    unfold sright5 q19e
    rw [planned_eq]
    cases plan19 s.fOut <;> cases decide (s.fOut.fFrom = s.fGroup) <;> cases decide ((rdState s.fImage).2 = 0) <;> rfl
  rw [h1, h3, h4, h5, ← h2]
  cases q19a s <;> cases q19b s <;> cases rising19 s.fAccounts <;> cases accs19 s <;> cases sright2 s <;> cases waits19 s <;> rfl
end Go.YtmpoffijcfaalaaGreat

/- What the program's checks tell is what the reference's tell: places, charts, scenes, routes. No program. -/

namespace Go.YtmpoffijcfaalaaGreat
open Go.Eng

theorem rplj_eq (l : List TPlace) (j : Nat) : (!rplj l j) = (!place17b l j && place17c l j) := by
  unfold rplj place17b
  by_cases hg : okGroup (l.getD j default).fGroup = true
  · have hg2 := hg
    simp only [okGroup, Bool.and_eq_true, decide_eq_true_eq] at hg2
    have hs : seenB l j (l.getD j default).fGroup.toNat = !place17c l j := by
      rw [Bool.eq_iff_iff, seen_iff]
      unfold place17c
      rw [Bool.not_eq_true', ← Bool.not_eq_true, allI_iff]
      constructor
      · rintro ⟨k, hk, e⟩ h
        have := h k hk
        simp only [Bool.not_eq_true', decide_eq_false_iff_not] at this
        omega
      · intro h
        refine Classical.byContradiction fun hn => h fun k hk => ?_
        simp only [Bool.not_eq_true', decide_eq_false_iff_not]
        intro e
        exact hn ⟨k, hk, by omega⟩
    rw [hs, hg, decide_eq_false (show ¬ (l.getD j default).fGroup < 1 by omega), decide_eq_false (show ¬ (l.getD j default).fGroup ≥ 8 by omega)]
    cases place17c l j <;> simp
  · have hg2 := hg
    simp only [okGroup, Bool.and_eq_true, decide_eq_true_eq, not_and] at hg2
    rw [Bool.not_eq_true] at hg
    rw [hg]
    by_cases h1 : (l.getD j default).fGroup < 1
    · simp only [h1, decide_true, Bool.true_or, Bool.not_true, Bool.not_false, Bool.false_and]
    · have h2 : (l.getD j default).fGroup ≥ 8 := by have := hg2 (by omega); omega
      simp only [h2, decide_true, Bool.true_or, Bool.or_true, Bool.not_true, Bool.not_false, Bool.false_and]
theorem places_eq (l : List TPlace) : rplacesP l = places17 l := by
  unfold rplacesP places17
  have e : allI l.length (fun j => !rplj l j) = allI l.length (fun j => !place17b l j && place17c l j) := allI_congr fun j _ => rplj_eq l j
  have h1 : place17a l = (rpl1 l || decide ((l.length : Int) > 7)) := by
    unfold place17a rpl1
    cases decide ((l.length : Int) < 1) <;> cases decide ((l.length : Int) > 7) <;> cases isNil (l.getD 0 default).fFrom <;> rfl
  rw [h1, ← e]
  by_cases hr : rpl1 l = true
  · rw [hr]; rfl
  · rw [Bool.not_eq_true] at hr
    rw [hr]
    by_cases h7 : (l.length : Int) > 7
    · simp only [h7, decide_true, Bool.or_true, if_true, Bool.false_eq_true, if_false]
      rw [← Bool.not_eq_true, e, allI_iff]
      intro h
      have := pigeon 7 l.length (fun i => (l.getD i default).fGroup.toNat - 1) (fun i hi => by
        have := h i hi
        simp only [Bool.and_eq_true, Bool.not_eq_true', place17b, Bool.or_eq_false_iff, decide_eq_false_iff_not] at this
        show (l.getD i default).fGroup.toNat - 1 < 7
        omega) (fun i j hi hj ee => by
        have hgi := h i hi
        have hgj := h j hj
        simp only [Bool.and_eq_true, Bool.not_eq_true', place17b, Bool.or_eq_false_iff, decide_eq_false_iff_not] at hgi hgj
        have ei : (l.getD i default).fGroup = (l.getD j default).fGroup := by
          have ee : (l.getD i default).fGroup.toNat - 1 = (l.getD j default).fGroup.toNat - 1 := ee
          omega
        rcases Nat.lt_trichotomy i j with hlt | hlt | hlt
        · have := allI_iff.1 hgj.2 i hlt
          simp only [Bool.not_eq_true', decide_eq_false_iff_not] at this
          exact absurd ei this
        · exact hlt
        · have := allI_iff.1 hgi.2 j hlt
          simp only [Bool.not_eq_true', decide_eq_false_iff_not] at this
          exact absurd ei.symm this)
      omega
    · simp only [h7, decide_false, Bool.or_false]
/-! where a key stands -/
theorem places_at {l : List TPlace} (h : places17 l = true) : isNil (l.getD 0 default).fFrom = true ∧ ∀ j, j + 1 < l.length → ltB (l.getD j default).fFrom (l.getD (j + 1) default).fFrom = true := by
  unfold places17 at h
  split at h
  · cases h
  · rename_i hn
    simp only [place17a, Bool.or_eq_true, not_or, Bool.not_eq_true', Bool.not_eq_false] at hn
    refine ⟨hn.2, fun j hj => ?_⟩
    have := allI_iff.1 h (j + 1) hj
    simp only [Bool.and_eq_true, Bool.not_eq_true', place17b, Bool.or_eq_false_iff, Bool.and_eq_false_iff, decide_eq_false_iff_not] at this
    have h2 := this.1.2
    have h3 : leB (l.getD (j + 1) default).fFrom (l.getD j default).fFrom = false := by
      rcases h2 with h2 | h2
      · omega
      · rwa [show (((j + 1 : Nat) : Int) - 1).toNat = j by omega] at h2
    unfold leB at h3
    rw [le_ge] at h3
    simpa using h3
theorem mono_lt {l : List TPlace} (h : ∀ j, j + 1 < l.length → ltB (l.getD j default).fFrom (l.getD (j + 1) default).fFrom = true) : ∀ (d i : Nat), i + d + 1 < l.length → ltB (l.getD i default).fFrom (l.getD (i + d + 1) default).fFrom = true
  | 0, i, hi => h i hi
  | d + 1, i, hi => lt_trans (mono_lt h d i (by omega)) (h (i + d + 1) (by omega))
theorem lastI_at : ∀ {n : Nat} {p : Nat → Bool}, p 0 = true → 0 < n → p (lastI n p) = true ∧ ∀ k, lastI n p < k → k < n → p k = false
  | n + 1, p, h0, _ => by
    unfold lastI
    split
    · rename_i h
      exact ⟨h, fun k h1 h2 => by omega⟩
    · rename_i h
      rcases Nat.eq_zero_or_pos n with hn | hn
      · subst hn; exact absurd h0 h
      · obtain ⟨a, b⟩ := lastI_at (n := n) h0 hn
        refine ⟨a, fun k h1 h2 => ?_⟩
        rcases Nat.lt_or_ge k n with hk | hk
        · exact b k h1 hk
        · have : k = n := by omega
          subst this
          simpa using h
theorem end_at {l : List TPlace} {j : Nat} : endP l (j : Int) = if j + 1 < l.length then (l.getD (j + 1) default).fFrom else ByteArray.empty := by
  unfold endP
  by_cases h : j + 1 < l.length
  · rw [if_pos h, if_neg (by simp only [Bool.or_eq_true, decide_eq_true_eq]; omega), show ((j : Int) + 1).toNat = j + 1 by omega]
  · rw [if_neg h, if_pos (by simp only [Bool.or_eq_true, decide_eq_true_eq]; omega)]
theorem find_eq {l : List TPlace} (h : places17 l = true) (key : ByteArray) : find17 l key = findP l key := by
  obtain ⟨h0, hm⟩ := places_at h
  have hpos := places17_pos h
  have hp0 : (!ltB key (l.getD 0 default).fFrom) = true := by
    rw [of_decide_eq_true h0, lt_empty]; rfl
  obtain ⟨ha, hb⟩ := lastI_at (p := fun j => !ltB key (l.getD j default).fFrom) hp0 hpos
  have hlt : findP l key < l.length := findP_lt hpos
  have ne : ∀ k, k + 1 < l.length → isNil (l.getD (k + 1) default).fFrom = false := fun k hk => by
    refine decide_eq_false fun e => ?_
    have := hm k hk
    rw [e, lt_empty] at this
    cases this
  unfold find17
  have : firstI l.length (fun j => within (l.getD j default).fFrom (endP l j) key) = some (findP l key) := by
    refine firstI_some hlt (fun k hk => ?_) ?_
    · show within _ (endP l k) key = false
      rw [end_at, if_pos (by omega)]
      unfold within
      rw [ne k (by omega)]
      have h1 : ltB key (l.getD (k + 1) default).fFrom = false := by
        have hf : ltB key (l.getD (findP l key) default).fFrom = false := by
          have q : (!ltB key (l.getD (findP l key) default).fFrom) = true := ha
          rwa [Bool.not_eq_true'] at q
        rcases Nat.lt_or_ge (k + 1) (findP l key) with hlt2 | hge
        · have hlt3 : ltB (l.getD (k + 1) default).fFrom (l.getD (findP l key) default).fFrom = true := by
            have := mono_lt hm (findP l key - (k + 1) - 1) (k + 1) (by omega)
            rwa [show k + 1 + (findP l key - (k + 1) - 1) + 1 = findP l key by omega] at this
          rw [← Bool.not_eq_true]
          intro hc
          rw [lt_trans hc hlt3] at hf
          cases hf
        · rw [show k + 1 = findP l key by omega]; exact hf
      rw [h1]
      simp
    · show within _ (endP l _) key = true
      unfold within
      rw [le_ge]
      have ha' : (!ltB key (l.getD (findP l key) default).fFrom) = true := ha
      rw [ha', Bool.true_and, end_at]
      split
      · rename_i hk
        have := hb (findP l key + 1) (Nat.lt_succ_self _) hk
        rw [Bool.not_eq_false'] at this
        rw [this, Bool.or_true]
      · rfl
  rw [this]
  rfl
theorem okKey_nil (k : ByteArray) : okKey k = !(isNil k || decide ((k.size : Int) > 16)) := by
  rw [isNil_size]
  unfold okKey
  rw [Bool.eq_iff_iff]
  simp only [Bool.and_eq_true, decide_eq_true_eq, Bool.not_eq_true', Bool.or_eq_false_iff, decide_eq_false_iff_not]
  omega
theorem chart_eq (c : TChart) : planP c = right20 c := by
  unfold planP right20
  have h1 : (plan1 c || plan2 c) = right20a c := by
    unfold plan1 plan2 right20a okNum
    rw [errF_ok, errF_ok, places_eq, marks_eq,
      show decide (c.fIndex < 0) = !decide (c.fIndex ≥ 0) by rw [← decide_not]; exact decide_eq_decide.2 (by omega),
      show decide (c.fIndex > far) = !decide (c.fIndex ≤ far) by rw [← decide_not]; exact decide_eq_decide.2 (by omega),
      show decide (c.fLast < 0) = !decide (c.fLast ≥ 0) by rw [← decide_not]; exact decide_eq_decide.2 (by omega),
      show decide (c.fLast > far) = !decide (c.fLast ≤ far) by rw [← decide_not]; exact decide_eq_decide.2 (by omega)]
    cases decide (c.fIndex ≥ 0) <;> cases decide (c.fIndex ≤ far) <;> cases decide (c.fLast ≥ 0) <;> cases decide (c.fLast ≤ far) <;> cases places17 c.fPlaces <;> cases decide (c.fNext < 2) <;> cases decide (c.fNext > 8) <;> cases marks14 c.fMarks <;> rfl
  have h2 : plan3 c = !right20b c := by
    unfold plan3 right20b
    cases e : firstI c.fPlaces.length (fun j => decide ((c.fPlaces.getD j default).fGroup ≥ c.fNext)) with
    | none =>
      rw [show allI c.fPlaces.length (fun j => !decide ((c.fPlaces.getD j default).fGroup ≥ c.fNext)) = true from allI_true fun j hj => by
        have := List.find?_eq_none.1 e j (List.mem_range.2 hj)
        simpa using this]
      rfl
    | some j =>
      have hj := firstI_lt e
      have hp := List.find?_some e
      rw [allI_false j hj (by have hp : decide ((c.fPlaces.getD j default).fGroup ≥ c.fNext) = true := hp; rw [hp]; rfl)]
      show decide ((j : Int) ≥ 0) = _
      simp
  rw [← h1, h2]
  cases ha : plan1 c with
  | true => rfl
  | false =>
    cases hb : plan2 c with
    | true => rfl
    | false =>
      have hpl : places17 c.fPlaces = true := by
        have := hb
        unfold plan2 at this
        rw [errF_ok, places_eq] at this
        simp only [Bool.or_eq_false_iff, Bool.not_eq_false'] at this
        exact this.1
      have hl : 0 ≤ c.fLast := by
        simp only [plan1, Bool.or_eq_false_iff, decide_eq_false_iff_not] at ha
        omega
      have h5 : plan5 c = goesP c := by
        unfold plan5 goesP
        have hg : goes1 c = !(decide (c.fPlan.fNumber = c.fLast) && (!decide (c.fPlan.fNumber = 0)) && okWhose c.fPlan.fClient c.fPlan.fSeq && decide (epochP c.fPlaces < far)) := by
          unfold goes1 okWhose okClient okSeq
          rw [Bool.eq_iff_iff]
          simp only [Bool.or_eq_true, Bool.not_eq_true', Bool.and_eq_false_iff, decide_eq_true_eq, decide_eq_false_iff_not, Bool.not_eq_false']
          omega
        rw [hg]
        cases hX : (decide (c.fPlan.fNumber = c.fLast) && (!decide (c.fPlan.fNumber = 0)) && okWhose c.fPlan.fClient c.fPlan.fSeq && decide (epochP c.fPlaces < far)) with
        | false => rfl
        | true =>
          simp only [Bool.true_and, Bool.not_true, Bool.false_eq_true, if_false]
          unfold splitsP mergesP split1 merge1
          cases ho : (ofP c.fPlaces c.fPlan.fTo).isSome with
          | true =>
            simp only [Bool.true_or, if_true, Bool.not_true, Bool.false_or, Bool.false_eq_true, if_false]
            unfold merge2 goes3
            by_cases hn : nxt c ≥ (c.fPlaces.length : Int)
            · rw [if_pos (decide_eq_true hn), decide_eq_false (show ¬ nxt c < (c.fPlaces.length : Int) by omega)]
              rfl
            · rw [if_neg (by simpa using hn), decide_eq_true (show nxt c < (c.fPlaces.length : Int) by omega), Bool.true_and]
              rw [show decide (c.fPlan.fFrom = (c.fPlaces.getD (nxt c).toNat default).fGroup) = decide ((c.fPlaces.getD (nxt c).toNat default).fGroup = c.fPlan.fFrom) from decide_eq_decide.2 eq_comm,
                show decide (c.fPlan.fLo = (c.fPlaces.getD (nxt c).toNat default).fFrom) = decide ((c.fPlaces.getD (nxt c).toNat default).fFrom = c.fPlan.fLo) from decide_eq_decide.2 eq_comm,
                show decide (c.fPlan.fHi = endP c.fPlaces (nxt c)) = decide (endP c.fPlaces (nxt c) = c.fPlan.fHi) from decide_eq_decide.2 eq_comm]
          | false =>
            simp only [Bool.false_or, Bool.not_false, Bool.true_or, if_true, Bool.or_false]
            unfold split2 goes2
            rw [find_eq hpl, okKey_nil,
              show decide (c.fPlan.fFrom = (c.fPlaces.getD (findP c.fPlaces c.fPlan.fLo) default).fGroup) = decide ((c.fPlaces.getD (findP c.fPlaces c.fPlan.fLo) default).fGroup = c.fPlan.fFrom) from decide_eq_decide.2 eq_comm,
              show decide (c.fPlan.fLo = (c.fPlaces.getD (findP c.fPlaces c.fPlan.fLo) default).fFrom) = decide ((c.fPlaces.getD (findP c.fPlaces c.fPlan.fLo) default).fFrom = c.fPlan.fLo) from decide_eq_decide.2 eq_comm,
              show decide ((c.fPlaces.length : Int) ≥ 7) = !decide ((c.fPlaces.length : Int) < 7) by rw [← decide_not]; exact decide_eq_decide.2 (by omega)]
            cases decide (c.fPlan.fTo = c.fNext - 1) <;> cases decide ((c.fPlaces.length : Int) < 7) <;> cases isNil c.fPlan.fLo <;> cases decide ((c.fPlan.fLo.size : Int) > 16) <;> simp
      rw [h5]
      unfold plan4
      cases right20b c <;> cases decide (c.fPlan = ⟨0, 0, 0, ByteArray.empty, ByteArray.empty, 0, 0⟩) <;> rfl
theorem scene_eq {v : TScene} (hw : ∀ s ∈ v.fStates, ∀ a ∈ s.fAccounts, a.wf) : drightP v = right22 v := by
  unfold drightP right22
  have h1 : r22a v = (dright1 v || !right20 v.fChart || !rights16 v.fRights) := by
    unfold r22a dright1
    cases ((!decide (v.fNodes = 1)) && (!decide (v.fNodes = 3)) && (!decide (v.fNodes = 5))) <;> cases decide (v.fNode < 1) <;> cases decide (v.fNode > v.fNodes) <;> cases right20 v.fChart <;> cases decide ((v.fStates.length : Int) = 7) <;> cases rights16 v.fRights <;> rfl
  have h2 : allI v.fStates.length (fun j => !drightj v j) = allI v.fStates.length (fun j => !r22j v j) := allI_congr fun j hj => by
    unfold drightj r22j
    rw [errF_ok, state_eq (hw _ (getD_mem hj))]
  rw [h1, h2, errF_ok, errF_ok, chart_eq, ledger_eq]
  cases dright1 v <;> cases right20 v.fChart <;> cases rights16 v.fRights <;> cases allI v.fStates.length (fun j => !r22j v j) <;> rfl
theorem op_eq (o : TOp) : plainB o = may19 (opm o) := by
  by_cases h7 : o.fKind = 7
  · rw [show opm o = { o with fKind := 4 } by unfold opm; rw [if_pos h7]]
    unfold plainB may19 may19a may19b
    cases okKey o.fKey <;> simp [h7]
  · by_cases h8 : o.fKind = 8
    · rw [show opm o = { o with fKind := 4 } by unfold opm; rw [if_neg h7, if_pos h8]]
      unfold plainB may19 may19a may19b
      cases okKey o.fKey <;> simp [h8]
    · rw [show opm o = o by unfold opm; rw [if_neg h7, if_neg h8]]
      unfold plainB may19 may19a may19b
      cases okKey o.fKey with
      | false => simp
      | true =>
        by_cases hn : o.fN < 1
        · have hn2 : ¬ o.fN ≥ 1 := by omega
          by_cases h1 : o.fKind = 1
          · simp [h1, hn, hn2]
          · by_cases h2 : o.fKind = 2
            · simp [h2, hn, hn2]
            · by_cases h6 : o.fKind = 6
              · simp [h6, hn, hn2]
              · by_cases h5 : o.fKind = 5
                · simp [h5]
                · by_cases h3 : o.fKind = 3
                  · simp [h3]
                  · by_cases h4 : o.fKind = 4
                    · simp [h4]
                    · have : o.fKind < 1 ∨ o.fKind > 6 := by omega
                      rcases this with h | h <;> simp [h1, h2, h3, h4, h5, h6, h7, h8, h]
        · have hn2 : o.fN ≥ 1 := by omega
          by_cases h1 : o.fKind = 1
          · simp [h1, hn, hn2]
          · by_cases h2 : o.fKind = 2
            · simp [h2, hn, hn2]
            · by_cases h6 : o.fKind = 6
              · simp [h6, hn, hn2]
              · by_cases h5 : o.fKind = 5
                · simp [h5]
                · by_cases h3 : o.fKind = 3
                  · simp [h3]
                  · by_cases h4 : o.fKind = 4
                    · simp [h4]
                    · have : o.fKind < 1 ∨ o.fKind > 6 := by omega
                      rcases this with h | h <;> simp [h1, h2, h3, h4, h5, h6, h7, h8, h]
theorem opO_eq {o : TOp} (h : plainB o = true) : plainO o = op22 o := by
  unfold plainB at h
  unfold plainO op22
  split at h
  · rename_i hk
    rw [if_pos hk]
    by_cases h1 : o.fKind = 1
    · simp [h1]
    · by_cases h2 : o.fKind = 2
      · simp [h2]
      · by_cases h6 : o.fKind = 6
        · simp [h6]
        · by_cases h5 : o.fKind = 5
          · simp [h5]
          · by_cases h3 : o.fKind = 3
            · simp [h3]
            · by_cases h4 : o.fKind = 4
              · simp [h4]
              · by_cases h7 : o.fKind = 7
                · simp [h7]
                · by_cases h8 : o.fKind = 8
                  · simp [h8]
                  · simp [h1, h2, h3, h4, h5, h6, h7, h8] at h
  · cases h
theorem op22_kind (o : TOp) : (op22 o).fKind = o.fKind ∧ (op22 o).fKey = o.fKey := by
  unfold op22
  (repeat' split) <;> exact ⟨rfl, rfl⟩
theorem sameCmd_self (x : TCommand) : sameCmd x x = true := by unfold sameCmd; simp
/-- Both route alike. -/
theorem routes_eq {v : TScene} (hw : ∀ s ∈ v.fStates, ∀ a ∈ s.fAccounts, a.wf) (c q : Int) (o : TOp) : routeG v c q o = rouG v c q o ∧ routeC v c q o = rouC v c q o ∧ routeE v c q o = rouE v c q o := by
  unfold routeG routeC routeE rouG rouC rouE
  rw [scene_eq hw]
  cases hR : right22 v with
  | false => exact ⟨rfl, rfl, rfl⟩
  | true =>
    have hpl : places17 v.fChart.fPlaces = true := by
      unfold right22 at hR
      split at hR
      · cases hR
      · rename_i hn
        simp only [r22a, Bool.or_eq_true, not_or, Bool.not_eq_true', Bool.not_eq_false] at hn
        have h1 := hn.1.1.2
        unfold right20 at h1
        split at h1
        · cases h1
        · rename_i hm
          simp only [right20a, Bool.or_eq_true, not_or, Bool.not_eq_true', Bool.not_eq_false] at hm
          exact hm.1.1.1.2
    have hd : dr1 c q o = rr1 c q o := by
      unfold dr1 rr1 okClient okSeq
      rw [op_eq, show decide (c < 1) = !decide (c ≥ 1) by rw [← decide_not]; exact decide_eq_decide.2 (by omega),
        show decide (c > 8) = !decide (c ≤ 8) by rw [← decide_not]; exact decide_eq_decide.2 (by omega),
        show decide (q < 1) = !decide (q ≥ 1) by rw [← decide_not]; exact decide_eq_decide.2 (by omega),
        show decide (q > far) = !decide (q ≤ far) by rw [← decide_not]; exact decide_eq_decide.2 (by omega)]
      cases may19 (opm o) <;> cases decide (c ≥ 1) <;> cases decide (c ≤ 8) <;> cases decide (q ≥ 1) <;> cases decide (q ≤ far) <;> rfl
    rw [hd]
    cases hr : rr1 c q o with
    | true => exact ⟨rfl, rfl, rfl⟩
    | false =>
      have hp : plainB o = true := by
        rw [← hd] at hr
        simp only [dr1, Bool.or_eq_false_iff, Bool.not_eq_false'] at hr
        exact hr.1.1.1.1
      obtain ⟨k1, k2⟩ := op22_kind o
      have hi : isPlan (op22 o) = isPlan o := by unfold isPlan; rw [k1]
      rw [opO_eq hp, hi, k2, find_eq hpl]
      exact ⟨rfl, rfl, rfl⟩
theorem law_routes {v : TScene} (hw : ∀ s ∈ v.fStates, ∀ a ∈ s.fAccounts, a.wf) (c q : Int) (o : TOp) : (awakeB && decide (routeG v c q o = rouG v c q o) && sameCmd (routeC v c q o) (rouC v c q o) && decide (routeE v c q o = rouE v c q o)) = true := by
  obtain ⟨h1, h2, h3⟩ := routes_eq hw c q o
  rw [awake_true, h1, h2, h3, sameCmd_self]
  simp
end Go.YtmpoffijcfaalaaGreat

/- The law DutyRoutes holds of every input: whom an operation is brought to is what the reference tells. No condition. -/

namespace Go.Proofs.YtmpoffijcfaalaaGreat
open Go.Eng Go.YtmpoffijcfaalaaGreat Go.ChangeShapes Go.WideShapes Go.ChangeAt Go.RowKit

theorem Tryz.own : ownKnob Tryz.prog.godebug = none := by kernel_rfl
theorem Tryz.laidOut : laidOutB Tryz.prog = true := by kernel_rfl

theorem accs_wf {S : Nat → Prop} {w : World} {v : Value} {l : List TState} (h : Atom.holds ⟨v, l⟩ S w) : ∀ s ∈ l, ∀ a ∈ s.fAccounts, a.wf := by
  intro s hs
  obtain ⟨cs, k, _, hsub, _⟩ := list_each h s hs
  exact list_wf (s := sAccount) (hsub _ (List.mem_cons_self ..))

set_option maxRecDepth 100000 in
theorem dutyRoutes_lifted (os : Os) (started : os.Started) (H : Type) (enc : TypeId × Value → H) :
    ReturnsInHanded {} Tryz.checked os 3 .any (Rows.dutyRoutesSpec.pre6 enc Tryz.prog Tryz.f3 Rows.dutyRoutesRow.domain false) (Rows.dutyRoutesSpec.post enc Tryz.prog Tryz.f3 false true false false) := by
  refine returnsInHanded_of_change (C := Tryz.checked) Tryz.own started (by kernel_rfl) Tryz.func3
    (ChangeSpec.witness6 (enc := enc) (C := Tryz.checked) false ⟨#[], #[.agg (cScene zscene (.slice none 0 0) (.slice none 0 0) (.slice none 0 0) (.slice none 0 0) (.slice none 0 0)).toArray, .int .i64 0, .int .i64 0, .agg (cOp zop).toArray], []⟩ 8 (by kernel_rfl) (by kernel_rfl) (by kernel_rfl) (by kernel_rfl)) ?_
  intro W base args ds gs before hval0 hW _ _
  have hval : ∀ (j : Nat) t v, Tryz.f3.params[j]? = some t → args[j]? = some v → Value.okWide Tryz.prog W .any base t v := hval0
  have hW' := hW
  obtain ⟨p, q, hA0, hV, rfl, hfz, hnd⟩ := hW
  have hA : DataW.TrodAll enc Tryz.prog W 0 (fun _ => true) true Tryz.f3.params.toList args.toList ds p := hA0
  rw [Tryz.params3] at hA hval
  obtain ⟨v0, r0, d0, e0, p0, q0, ha, rfl, rfl, h0, hA⟩ := trodAll_cons hA
  obtain ⟨v1, r1, d1, e1, p1, q1, rfl, rfl, rfl, h1, hA⟩ := trodAll_cons hA
  obtain ⟨v2, r2, d2, e2, p2, q2, rfl, rfl, rfl, h2, hA⟩ := trodAll_cons hA
  obtain ⟨v3, r3, d3, e3, p3, q3, rfl, rfl, rfl, h3, hA⟩ := trodAll_cons hA
  obtain ⟨rfl, rfl, rfl⟩ := trodAll_nil hA
  obtain ⟨rfl, rfl⟩ := trodVars_none hV
  have hargs : args = #[v0, v1, v2, v3] := Array.toList_inj.1 ha
  subst hargs
  obtain ⟨c, rfl, rfl, rfl, wc⟩ := open_int Tryz.underlying3 (hval 1 3 v1 rfl rfl) h1
  obtain ⟨q, rfl, rfl, rfl, wq⟩ := open_int Tryz.underlying3 (hval 2 3 v2 rfl rfl) h2
  simp [Lit.wf, IntKind.min, IntKind.max, IntKind.signed, IntKind.bits] at wc wq
  obtain ⟨cs0, v, rfl, ⟨k0, k1, k2, k3, k4⟩, rfl, hs, wv⟩ := arg_struct Tryz.underlying32 opens_32 (hval 0 32 v0 rfl rfl) h0
  obtain ⟨cs3, o, rfl, u, rfl, _, wo⟩ := arg_struct Tryz.underlying34 opens_34 (hval 3 34 v3 rfl rfl) h3
  have hF := dutyRoutes_c v k0 k1 k2 k3 k4 c q o wv ⟨by omega, by omega⟩ ⟨by omega, by omega⟩ wo
  rw [law_routes (accs_wf (hs ⟨k2, v.fStates⟩ (by simp)))] at hF
  exact hF.post Tryz.laidOut (by kernel_rfl) rfl (by kernel_rfl) Tryz.underlying4 rfl hW' hs

theorem and_t {a b : Bool} (ha : a = true) (hb : b = true) : (a && b) = true := by rw [ha, hb]; rfl
set_option maxHeartbeats 40000000 in
theorem dutyRoutes_closed : joinedFacts Tryz.prog 3 Tryz.f3 Rows.dutyRoutesSpec Rows.dutyRoutesRow = true := by
  unfold joinedFacts
  repeat' (with_reducible apply and_t)
  all_goals (as_aux_lemma => kernel_rfl)
theorem dutyRoutes_named : Tryz.prog.funcNamed Rows.dutyRoutesRow.func = some 3 := by kernel_rfl
theorem dutyRoutes_inst : Tryz.f3.isInstance Tryz.prog Rows.dutyRoutesRow.origin Rows.dutyRoutesRow.targs := of_decide_eq_true (by kernel_rfl)
theorem dutyRoutes_wrap : Tryz.f3.isWrapper Tryz.prog Rows.dutyRoutesRow.wrapper Rows.dutyRoutesRow.mainSum := by
  unfold Func.isWrapper
  rw [if_neg (by decide +kernel)]
  exact ⟨rfl, rfl⟩
theorem dutyRoutes_holds : Rows.DutyRoutesSaid :=
  OpenClaim.holds_of_wide 3 Tryz.f3 rfl rfl rfl rfl rfl rfl rfl ⟨rfl, rfl, rfl, rfl, rfl⟩ rfl rfl rfl rfl rfl dutyRoutes_named Tryz.func3 dutyRoutes_closed dutyRoutes_inst dutyRoutes_wrap
    (fun os started H enc _ => dutyRoutes_lifted os started H enc)
#print axioms dutyRoutes_holds
end Go.Proofs.YtmpoffijcfaalaaGreat
