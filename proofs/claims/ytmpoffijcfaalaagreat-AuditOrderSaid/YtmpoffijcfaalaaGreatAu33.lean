/- Part 33 of the proof of auditOrder_holds: AudL, AudW11, AudS2, Eng35. Every text below begins with what it shows. -/
import Derived.Test.YtmpoffijcfaalaaGreatAu32

/- What the audit's checks tell. No program. -/

namespace Go.YtmpoffijcfaalaaGreat
open Go.Eng
theorem in0 : InI 0 := ⟨by decide, by decide⟩
theorem errF_z {b : Bool} : errF b = 0 ↔ b = true := by cases b <;> simp [errF]
theorem rising {n B : Nat} {f : Nat → Int} (h : ∀ j, j < n → f j > prevI f j ∧ f j ≤ (B : Int)) : n ≤ B := by
  have key : ∀ j, j < n → f j ≥ (j : Int) + 1 := by
    intro j
    induction j with
    | zero =>
      intro hj
      have := (h 0 hj).1
      simp only [prevI] at this
      omega
    | succ j ih =>
      intro hj
      have h1 := (h (j + 1) hj).1
      simp only [prevI] at h1
      have := ih (by omega)
      omega
  cases n with
  | zero => omega
  | succ n =>
    have h1 := key n (by omega)
    have h2 := (h n (by omega)).2
    omega
theorem marks_len {l : List TMark} (h : marksP l = true) : l.length ≤ 8 := by
  refine rising (f := fun k => (l.getD k default).fClient) fun j hj => ?_
  have := (allI_iff.1 h) j hj
  simp only [markP, Bool.not_eq_true', Bool.or_eq_false_iff, decide_eq_false_iff_not] at this
  omega
theorem ends_len {l : List TEnd} (h : endsP l = true) : l.length ≤ 8 := by
  refine rising (f := fun k => (l.getD k default).fClient) fun j hj => ?_
  have := (allI_iff.1 h) j hj
  simp only [okWhose, Bool.not_eq_true', Bool.or_eq_false_iff, Bool.not_eq_false', Bool.and_eq_true, decide_eq_false_iff_not, decide_eq_true_eq] at this
  omega
theorem deals_len {l : List TDeal} (h : dealsP l = true) : l.length ≤ 4 := by
  unfold dealsP at h
  split at h
  · cases h
  · rename_i hn
    simp only [decide_eq_true_eq] at hn
    omega
theorem acc_hold {a : TAccount} (h : accP a = true) : a.fHolders.length ≤ 5 := by
  unfold accP at h
  split at h
  · cases h
  · rename_i hn
    simp only [acc1, Bool.or_eq_true, not_or, Bool.not_eq_true', Bool.not_eq_false] at hn
    exact hold_len hn.2
theorem accs_facts {s : TState} (h : accsP s = true) : s.fAccounts.length ≤ 12 ∧ ∀ j, j < s.fAccounts.length → (s.fAccounts.getD j default).fHolders.length ≤ 5 := by
  unfold accsP at h
  split at h
  · cases h
  · rename_i hn
    simp only [decide_eq_true_eq] at hn
    refine ⟨by omega, fun j hj => ?_⟩
    have := (allI_iff.1 h) j hj
    simp only [accsj, Bool.not_eq_true', Bool.or_eq_false_iff, Bool.not_eq_false', decide_eq_true_eq] at this
    exact acc_hold (errF_z.1 this.1.1.1)
theorem rd_len {b : List UInt8} (h : (rdState b).2 = 0) : b.length ≤ 65536 := by
  by_cases he : 65536 < b.length
  · exfalso
    unfold rdState errO at h
    rw [if_pos he] at h
    simp at h
  · omega
theorem sright_facts {s : TState} (h : srightP s = true) : accsP s = true ∧ marksP s.fMarks = true ∧ dealsP s.fDeals = true ∧ endsP s.fEnds = true ∧ s.fWaits.length ≤ 8 ∧ s.fImage.length ≤ 65536 := by
  unfold srightP at h
  split at h
  · cases h
  · rename_i h1
    split at h
    · cases h
    · rename_i h2
      simp only [sright1, Bool.or_eq_true, not_or, Bool.not_eq_true', Bool.not_eq_false] at h1
      simp only [sright2, Bool.or_eq_true, not_or, Bool.not_eq_true', Bool.not_eq_false, decide_eq_true_eq, errF_z] at h2
      split at h
      · split at h
        · cases h
        · split at h
          · have : s.fImage.length = 0 := by
              have := of_decide_eq_true h
              omega
            exact ⟨h1.2, h2.1.1.1, h2.1.1.2, h2.1.2, by omega, by omega⟩
          · simp only [sright5, Bool.and_eq_true, decide_eq_true_eq] at h
            exact ⟨h1.2, h2.1.1.1, h2.1.1.2, h2.1.2, by omega, rd_len h.2⟩
      · cases h
theorem bigS {s : TState} (h : srightP s = true) : BigS s := by
  obtain ⟨h1, h2, h3, h4, h5, h6⟩ := sright_facts h
  have ha := accs_facts h1
  exact ⟨by omega, fun j hj => Nat.le_trans (ha.2 j hj) (by decide), Nat.le_trans (marks_len h2) (by decide), by omega, Nat.le_trans (deals_len h3) (by decide), Nat.le_trans (ends_len h4) (by decide), by omega⟩
theorem getD_of_mem {α : Type} [Inhabited α] {l : List α} {x : α} (h : x ∈ l) : ∃ j, j < l.length ∧ l.getD j default = x := by
  obtain ⟨j, hj, rfl⟩ := List.getElem_of_mem h
  exact ⟨j, hj, by simp [List.getD, List.getElem?_eq_getElem hj]⟩
/-- What is handed in order. -/
structure SndF (ss : List TState) : Prop where
  len : ss.length = 7
  acc : ∀ S ∈ ss, S.fAccounts.length ≤ 500
  img : ∀ S ∈ ss, waitsP ss S = true → (rdState S.fImage).1.fAccounts.length ≤ 500 ∧ ∀ a ∈ (rdState S.fImage).1.fAccounts, a.fHolders = []
  big : (allU ss ss.length).length ≤ 100000
  hold : ∀ c ∈ srtC ss, c.fAccount.fHolders.length ≤ 1000
theorem img_facts {ss : List TState} {s : TState} (h : imagedP s = true) (hw : waitsP ss s = true) : (rdState s.fImage).1.fAccounts.length ≤ 12 ∧ ∀ a ∈ (rdState s.fImage).1.fAccounts, a.fHolders = [] := by
  unfold waitsP at hw
  split at hw
  · cases hw
  · rename_i hn
    unfold imagedP at h
    rw [if_neg hn] at h
    split at h
    · cases h
    · rename_i h1
      simp only [Bool.or_eq_true, not_or, Bool.not_eq_true', decide_eq_true_eq] at h1
      refine ⟨by omega, fun a ha => ?_⟩
      obtain ⟨j, hj, rfl⟩ := getD_of_mem ha
      have := (allI_iff.1 h) j hj
      simp only [imgA, Bool.and_eq_true, Bool.not_eq_true', Bool.or_eq_false_iff, decide_eq_false_iff_not] at this
      have := this.1.1.2
      exact List.eq_nil_of_length_eq_zero (by omega)
theorem sound_facts {c : TChart} {ss : List TState} {rr : List (List TRight)} (h : soundP c ss rr = true) : SndF ss := by
  unfold soundP at h
  split at h
  · cases h
  · rename_i h1
    simp only [sndA, Bool.or_eq_true, not_or, Bool.not_eq_true', Bool.not_eq_false, decide_eq_true_eq] at h1
    split at h
    · rename_i h2
      have hall : ∀ S ∈ ss, srightP S = true ∧ imagedP S = true := fun S hS => by
        obtain ⟨j, hj, rfl⟩ := getD_of_mem hS
        have := (allI_iff.1 h2) j hj
        simp only [sndB, Bool.not_eq_true', Bool.or_eq_false_iff, Bool.not_eq_false', decide_eq_true_eq, errF_z] at this
        exact ⟨this.1.2, this.2⟩
      have hacc : ∀ S ∈ ss, S.fAccounts.length ≤ 12 ∧ ∀ a ∈ S.fAccounts, a.fHolders.length ≤ 5 := fun S hS => by
        have := accs_facts (sright_facts (hall S hS).1).1
        refine ⟨this.1, fun a ha => ?_⟩
        obtain ⟨j, hj, rfl⟩ := getD_of_mem ha
        exact this.2 j hj
      have hlist : ∀ S ∈ ss, (listP ss S).length ≤ 24 ∧ ∀ a ∈ listP ss S, a.fHolders.length ≤ 5 := fun S hS => by
        unfold listP
        split
        · rename_i hw
          obtain ⟨i1, i2⟩ := img_facts (hall S hS).2 hw
          obtain ⟨a1, a2⟩ := hacc S hS
          refine ⟨by rw [List.length_append]; omega, fun a ha => ?_⟩
          rcases List.mem_append.1 ha with ha | ha
          · exact a2 a ha
          · rw [i2 a ha]; decide
        · exact ⟨by have := (hacc S hS).1; omega, (hacc S hS).2⟩
      have hU : ∀ i, i ≤ ss.length → (allU ss i).length ≤ 24 * i ∧ ∀ c ∈ allU ss i, c.fAccount.fHolders.length ≤ 5 := by
        intro i
        induction i with
        | zero => intro _; exact ⟨Nat.le_refl _, fun c hc => by cases hc⟩
        | succ i ih =>
          intro hi
          obtain ⟨g1, g2⟩ := ih (by omega)
          have hm : ss.getD i default ∈ ss := getD_mem (by omega)
          obtain ⟨l1, l2⟩ := hlist _ hm
          refine ⟨by rw [allU, List.length_append, List.length_map]; omega, fun c hc => ?_⟩
          rw [allU] at hc
          rcases List.mem_append.1 hc with hc | hc
          · exact g2 c hc
          · obtain ⟨a, ha, rfl⟩ := List.mem_map.1 hc
            exact l2 a ha
      have hl : ss.length = 7 := by omega
      obtain ⟨u1, u2⟩ := hU ss.length (Nat.le_refl _)
      refine ⟨hl, fun S hS => Nat.le_trans (hacc S hS).1 (by decide), fun S hS hw => ?_, by omega, fun c hc => ?_⟩
      · obtain ⟨i1, i2⟩ := img_facts (hall S hS).2 hw
        exact ⟨by omega, i2⟩
      · rcases sortP_mem c hc with hc | rfl
        · exact Nat.le_trans (u2 c hc) (by decide)
        · exact Nat.zero_le _
    · cases h
end Go.YtmpoffijcfaalaaGreat

/- The totals: written by specs10.py. -/

namespace Go.Proofs.YtmpoffijcfaalaaGreat
open Go.Eng Go.YtmpoffijcfaalaaGreat

theorem all_c (v_ss : Value) (ss : List TState) : Fnc Tryz.prog 84 [v_ss] [] [⟨v_ss, ss⟩] (fun (y : Nat) v => v = .func (.func 158) #[] #[.pointer (some ⟨y, 0, none⟩)]) (fun y _ => [bl y 28 [v_ss]]) (fun _ _ => []) := by
  refine Fnc.proof Tryz.func84 rfl 4 rfl rfl fun X w => gtC (q := ∃ A cc, v_ss = .slice A ss.length cc) (fun S w h => slice_of (h _ (List.mem_of_getElem? (i := 0) rfl))) ?_
  rintro ⟨A, cc, rfl⟩
  exact sq<|rg<|bx rfl rfl rfl fun b1 => asg rfl rfl<|nl<|nx<|sq<|rg<|mf (xs := [.tmp 1]) rfl rfl<|asg rfl rfl<|nl<|nx<|rt<|fR1 b1 rfl rfl rfl rfl SubD.nil

theorem truth_c (c : TChart) (c_0 c_1 : Value) (v_ss : Value) (ss : List TState) (v_rr : Value) (rr : List (List TRight)) (Z : List TTotal × Int) (h_c : c.wf) (hrw : ∀ l ∈ rr, ∀ r ∈ l, r.wf) (hZ : truthP c ss rr = Z) : Fnc Tryz.prog 33 [.agg (cChart c c_0 c_1).toArray, v_ss, v_rr] [] [⟨c_0, c.fPlaces⟩, ⟨c_1, c.fMarks⟩, ⟨v_ss, ss⟩, ⟨v_rr, rr⟩] (fun (y : Value) u => u = .tuple #[y, .int .i64 Z.2]) (fun _ _ => []) (fun y _ => [⟨y, Z.1⟩]) := by
  refine Fnc.proofZ 2 Tryz.func33 rfl 88 rfl rfl fun X w => sq<|rg<|bx rfl rfl rfl fun b3 => asg rfl rfl<|asg rfl rfl<|nl<|nx<|sq<|sq<|rg<|ldM 0 (cChart c c_0 c_1) rfl rfl row_27 rfl rfl<|mv rfl rfl<|mv rfl rfl ?_
  refine cfv (sound_c _ _ _ _ _ _ _ h_c) ok_83 rfl (SubD.cons 0 rfl (SubD.cons 1 rfl (SubD.cons 2 rfl (SubD.cons 3 rfl SubD.nil)))) rfl<|nt rfl rfl<|nl<|nx<|cdB rfl (fun h20 => ?_) (fun h20 => ?_)
  ·
    have hs : soundP c ss rr = false := by simpa using h20
    have hZ2 : (([], 1) : List TTotal × Int) = Z := by rw [← hZ, truthP, if_pos hs]
    subst hZ2
    exact emC (α := TTotal)<|sq<|rg<|asg rfl rfl<|asg rfl rfl<|nl<|nx<|rt<|tR<|dpQ<|fR2Z (.slice none 0 0) [] rfl rfl rfl rfl rfl (SubD.cons 0 rfl SubD.nil)
  ·
    have hs : soundP c ss rr = true := by simpa using h20
    have hF := sound_facts hs
    have hs0 : ¬ soundP c ss rr = false := by rw [hs]; decide
    refine sk<|nx<|sq<|rg<|al zero_145 rfl fun b8 => nl<|nx<|sq<|sq<|rg<|mv rfl rfl<|cf (all_c _ _) ok_84 rfl (SubD.cons 2 rfl SubD.nil) rfl fun b22 v22 h22 => ?_
    subst h22
    refine nl<|nx<|bk<|Al.rangeAll 0 1 2 rfl rfl rfl rfl hF.acc hF.img hF.big rfl rfl fun Dm v => mtQD 2 rfl<|dpQD<|mtQD 3 rfl<|dpQD<|bND<|nxD<|sqD<|rgM<|ldB 2 rfl rfl one_145 rfl rfl<|cf1 1 (show Fnc Tryz.prog 85 [v, (.func (.func 86) #[] #[])] [@row Tcounted rcounted 150 v (allU ss ss.length)] [] (fun (_ : Unit) _ => True) (fun _ _ => [@row Tcounted rcounted 150 v (srtC ss)]) (fun _ _ => []) from sort_c v (allU ss ss.length)) ok_85 rfl rfl SubD.nil rfl fun _ v29 _ => ?_
    refine nlD<|nxD<|sqD<|sqD<|rgM<|asg rfl rfl<|nlD<|nxD<|bkD<|lpCD (σ := Nat) [(1, _), (2, _), (8, _)] _ (fun i C => (10, .int .i64 ((i + 1 : Nat) : Int)) :: C) (fun i => (i + 1 ≤ (srtC ss).length ∨ i = 0) ∧ ∀ j, j < i → (!decide (keyC (srtC ss) (j + 1) = keyC (srtC ss) j)) = true) (fun i => (srtC ss).length - i) 0 ⟨rfl, rfl, rfl, trivial⟩ (SubD.cons 0 rfl (SubD.cons 1 rfl (SubD.cons 2 rfl (SubD.cons 3 rfl SubD.nil)))) ⟨.inr rfl, fun j hj => absurd hj (Nat.not_lt_zero j)⟩ ⟨rfl, rfl, rfl, rfl, trivial⟩ ?_
    rintro i ⟨hi, hall⟩
    refine sqD<|sqD<|rgM<|mv rfl rfl<|ldB 2 rfl rfl one_145 rfl rfl<|lnR 1 rfl rfl Tryz.underlying145 rfl fun l32 => ltI rfl rfl rfl<|nlD<|nxD<|cdPD rfl (fun h33 => ?_) (fun h33 => ?_)
    ·
      refine skD<|nxD<|sqD<|bkD<|sqD<|rgQD mixed (by kernel_rfl)<|ldB 2 rfl rfl one_145 rfl rfl<|mv rfl rfl<|ixN 1 ((i + 1 : Nat)) rfl rfl rfl slt_145 (by omega) (by omega) rfl<|faE 1 rfl rfl (by omega) fld_150_0 rfl<|faE 1 rfl rfl (by omega) fld_70_0 rfl<|ldE (s := scounted) 1 ((i + 1 : Nat)) 0 (fun _ => .string ((srtC ss).getD ((i + 1 : Nat)) default).fAccount.fKey) rfl rfl (getDE (d := default) (by omega)) (fun _ => rfl) one_9 rfl fun q41 w41 => ldB 2 rfl rfl one_145 rfl rfl<|mv rfl rfl ?_
      refine sbE (r := ((i : Nat) : Int)) rfl rfl (by omega) (inI (by omega) (by omega)) rfl<|ixN 1 ((i : Nat)) rfl rfl rfl slt_145 (by omega) (by omega) rfl<|faE 1 rfl rfl (by omega) fld_150_0 rfl<|faE 1 rfl rfl (by omega) fld_70_0 rfl<|ldE (s := scounted) 1 ((i : Nat)) 0 (fun _ => .string ((srtC ss).getD ((i : Nat)) default).fAccount.fKey) rfl rfl (getDE (d := default) (by omega)) (fun _ => rfl) one_9 rfl fun q48 w48 => eqS rfl rfl rfl<|nlQD<|nxD<|cdPD rfl (fun h49 => ?_) (fun h49 => ?_)
      ·
        have hd : dupB (srtC ss) = true := by rw [dupB, allI_false i (by omega) (not_decfalse h49)]; rfl
        have hZ2 : (([], 171) : List TTotal × Int) = Z := by rw [← hZ, truthP, if_neg hs0, if_pos hd]
        subst hZ2
        refine sqD<|rgM<|asg rfl rfl<|asg rfl rfl<|nlD<|nxD<|rtD<|bRD<|tRD<|tRD<|bRD<|tRD<|mtQD 1 rfl<|dpQD ?_
        exact mtQD 1 rfl<|dpQD<|emQD (α := TTotal)<|fR2D (.slice none 0 0) [Dm] [] rfl rfl rfl rfl rfl (SubD.cons 0 rfl SubD.nil)
      ·
        exact skD<|bND<|nxD<|rgM<|mv rfl rfl<|adE (r := ((i + 1 + 1 : Nat) : Int)) rfl rfl (by omega) (inI (by omega) (by omega)) rfl<|asg rfl rfl<|nlD<|agD (i + 1) ⟨.inl (by omega), all_snoc hall (not_dectrue h49)⟩ (by omega) ⟨rfl, rfl, rfl, rfl, trivial⟩ rfl (SubD.cons 2 rfl (SubD.cons 3 rfl (SubD.cons 4 rfl (SubD.cons 5 rfl SubD.nil))))
    ·
      have hd : ¬ dupB (srtC ss) = true := by rw [dupB, allI_true (fun j hj => hall j (by omega))]; decide
      refine exD<|tED<|tED<|bED<|nxD<|sqD<|rgM<|asg rfl rfl<|nlD<|nxD<|sqD<|sqD<|rgM<|ldB 2 rfl rfl one_145 rfl rfl ?_
      refine lnR 1 rfl rfl Tryz.underlying145 rfl fun l51 => mv rfl rfl<|nlD<|nxD<|bkD<|rwCD TTotal 78<|lpED (σ := Nat × Value) [(1, _), (2, _), (50, _), (51, _)] _ (fun s C => (52, .int .i64 (s.1 : Int)) :: (11, s.2) :: C) (fun s => [@row TTotal rTotal 78 s.2 (totL ss rr (srtC ss) s.1), dk Dm, @row Tcounted rcounted 150 v (srtC ss), bl b8 145 [v], fz X w]) (fun _ Dc => Dc) (fun s => s.1 ≤ (srtC ss).length ∧ ∀ j, j < s.1 → (hasV ss rr ((srtC ss).getD j default)).2 = true) (fun s => (srtC ss).length - s.1) (0, .slice none 0 0) ⟨rfl, rfl, rfl, rfl, trivial⟩ (SubD.cons 0 rfl (SubD.cons 1 rfl (SubD.cons 2 rfl (SubD.cons 3 rfl SubD.nil)))) ⟨Nat.zero_le _, fun j hj => absurd hj (Nat.not_lt_zero j)⟩ ⟨rfl, rfl, rfl, rfl, rfl, rfl, trivial⟩ rfl (SubD.cons 0 rfl (SubD.cons 1 rfl (SubD.cons 2 rfl (SubD.cons 3 rfl SubD.nil)))) ?_
      rintro ⟨i, rv⟩ ⟨hi, hall⟩
      simp only at hi hall
      show WCD _ _ _ _ [(52, .int .i64 ((i : Int))), (11, _), (1, _), (2, _), (50, _), (51, _)] [@row TTotal rTotal 78 rv (totL ss rr (srtC ss) i), dk Dm, @row Tcounted rcounted 150 v (srtC ss), bl b8 145 [v], fz X w] _
      refine sqD<|rgM<|ltI rfl rfl rfl<|nlD<|nxD<|sqD<|cdPD rfl (fun h53 => ?_) (fun h53 => ?_)
      ·
        refine skD<|nxD<|sqD<|bkD<|sqD<|rgM<|ixN 2 (i) rfl rfl rfl slt_145 (by omega) (by omega) rfl<|ldR (s := scounted) 2 (i) rfl rfl (getDE (d := default) (by omega)) row_150 rfl fun q55 w55 => al zero_150 rfl fun b13 => ?_
        refine gtL (q := q55.oneCell' = true) (fun S w h => oneCell_of_list (h _ (List.mem_of_getElem? (i := 1) rfl))) fun o_q55 => stW 0 (us := (ccounted (((srtC ss).getD (i) default)) q55)) rfl rfl rfl row_150 (by simp only [List.all_cons, List.all_nil, Bool.and_true, o_q55]; rfl) rfl<|nlD<|nxD<|sqD<|rgM<|mv rfl rfl<|mv rfl rfl<|ldM 0 (ccounted (((srtC ss).getD (i) default)) q55) rfl rfl row_150 rfl rfl<|cfv (hasC_c _ _ _ _ _ _ w55 (hF.hold _ (getD_mem (by omega))) hrw) ok_88 rfl (SubD.cons 4 rfl (SubD.cons 5 rfl (SubD.cons 1 rfl SubD.nil))) rfl<|mv rfl rfl<|xt rfl rfl rfl<|xt rfl rfl rfl<|asg rfl rfl ?_
        refine asg rfl rfl<|nlD<|nxD<|sqD<|sqD<|rgM<|mv rfl rfl<|nt rfl rfl<|nlD<|nxD<|cdBD rfl (fun h64 => ?_) (fun h64 => ?_)
        ·
          have hno : ¬ allI (srtC ss).length (fun j => (hasV ss rr ((srtC ss).getD j default)).2) = true := by rw [allI_false i (by omega) (by simpa using h64)]; decide
          have hZ2 : (([], 150) : List TTotal × Int) = Z := by rw [← hZ, truthP, if_neg hs0, if_neg hd, if_neg hno]
          subst hZ2
          refine sqD<|rgM<|asg rfl rfl<|asg rfl rfl<|nlD<|nxD<|rtD<|tRD<|bRD<|tRD<|tRD<|bRD<|tRD<|dpQD ?_
          exact dpQD<|mtQD 1 rfl<|dpQD<|mtQD 1 rfl<|dpQD<|emQD (α := TTotal)<|fR2D (.slice none 0 0) [Dm] [] rfl rfl rfl rfl rfl (SubD.cons 0 rfl SubD.nil)
        ·
          have hok : (hasV ss rr ((srtC ss).getD i default)).2 = true := by simpa using h64
          refine skD<|nxD<|sqD<|rgM<|fa rfl fld_150_0 rfl<|fa rfl fld_70_0 rfl<|ldB 0 rfl rfl one_9 rfl rfl<|fa rfl fld_150_0 rfl<|fa rfl fld_70_1 rfl<|ldM 0 (cSpan (((srtC ss).getD (i) default).fAccount.fSpan)) rfl rfl row_65 rfl rfl<|mv rfl rfl<|bd (ps := [(0, .tmp 67), (1, .tmp 70), (2, .tmp 71)]) (cs := (cAccount (({ fKey := ((srtC ss).getD (i) default).fAccount.fKey, fSpan := ((srtC ss).getD (i) default).fAccount.fSpan, fBase := (hasV ss rr ((srtC ss).getD i default)).1, fRound := 0, fHolders := [], fLock := ({ fClient := 0, fSeq := 0, fHome := 0, fN := 0 } : TLock) } : TAccount)) (.slice none 0 0))) (by rfl) (by kernel_rfl) rfl<|emL (α := THolder)<|cfv (aplain_c (accC ss rr ((srtC ss).getD i default)) _ ⟨w55.1.1, w55.1.2.1, sumI_in _, in0, trivial, in0, in0, in0, in0⟩) ok_89 rfl (SubD.cons 0 rfl SubD.nil) rfl ?_
          refine nt rfl rfl<|nlD<|nxD<|cdBD rfl (fun h74 => ?_) (fun h74 => ?_)
          ·
            have h74 : aplainP (accC ss rr ((srtC ss).getD i default)) = false := by simpa using h74
            refine rgM<|mv rfl rfl<|fa rfl fld_150_0 rfl<|fa rfl fld_70_0 rfl<|ldB 0 rfl rfl one_9 rfl rfl<|fa rfl fld_150_0 rfl<|fa rfl fld_70_1 rfl<|ldM 0 (cSpan (((srtC ss).getD (i) default).fAccount.fSpan)) rfl rfl row_65 rfl rfl<|mv rfl rfl<|bd (ps := [(0, .tmp 78), (1, .tmp 81), (2, .tmp 82)]) (cs := (cTotal (({ fKey := ((srtC ss).getD (i) default).fAccount.fKey, fSpan := ((srtC ss).getD (i) default).fAccount.fSpan, fValue := (hasV ss rr ((srtC ss).getD i default)).1 } : TTotal)))) (by rfl) (by kernel_rfl) rfl<|bsM rfl app_72 rfl rfl rfl rfl fun b84 => frS1 (α := TTotal) (totC ss rr ((srtC ss).getD i default)) (fun S w h => ⟨(), rfl, by simp, w55.1.1, w55.1.2.1, sumI_in _⟩)<|ap 1 0 rfl rfl rfl rfl app_72 (by have := totL_len ss rr (srtC ss) i; have hb := hF.big; have hl : (srtC ss).length = (allU ss ss.length).length := sortP_len ..; simp only [List.length_cons, List.length_nil]; omega) (by have := totL_len ss rr (srtC ss) i; have hb := hF.big; have hl : (srtC ss).length = (allU ss ss.length).length := sortP_len ..; simp only [List.length_cons, List.length_nil]; omega) rfl fun v85 => asg rfl rfl ?_
            refine nlD<|bND<|nxD<|rgM<|adI rfl rfl (inI (by omega) (by omega)) rfl<|mv rfl rfl<|nlD<|dpQD ?_
            rw [show totL ss rr (srtC ss) i ++ [totC ss rr ((srtC ss).getD i default)] = totL ss rr (srtC ss) (i + 1) from by rw [totL, if_neg (by rw [h74]; decide)]]
            exact agD ((i + 1, v85) : Nat × Value) ⟨by show i + 1 ≤ (srtC ss).length; omega, all_snoc hall hok⟩ (by show (srtC ss).length - (i + 1) < (srtC ss).length - i; omega) ⟨rfl, rfl, rfl, rfl, rfl, rfl, trivial⟩ rfl (SubD.cons 4 rfl (SubD.cons 5 rfl (SubD.cons 6 rfl (SubD.cons 7 rfl SubD.nil))))
          ·
            have h74 : aplainP (accC ss rr ((srtC ss).getD i default)) = true := by simpa using h74
            refine skD<|bND<|nxD<|rgM<|adI rfl rfl (inI (by omega) (by omega)) rfl<|mv rfl rfl<|nlD<|dpQD ?_
            rw [show totL ss rr (srtC ss) i = totL ss rr (srtC ss) (i + 1) from by rw [totL, if_pos h74, List.append_nil]]
            exact agD ((i + 1, rv) : Nat × Value) ⟨by show i + 1 ≤ (srtC ss).length; omega, all_snoc hall hok⟩ (by show (srtC ss).length - (i + 1) < (srtC ss).length - i; omega) ⟨rfl, rfl, rfl, rfl, rfl, rfl, trivial⟩ rfl (SubD.cons 3 rfl (SubD.cons 4 rfl (SubD.cons 5 rfl (SubD.cons 6 rfl SubD.nil))))
      ·
        obtain rfl : i = (srtC ss).length := by omega
        have hZ2 : (totL ss rr (srtC ss) (srtC ss).length, 0) = Z := by rw [← hZ, truthP, if_neg hs0, if_neg hd, if_pos (allI_true hall)]
        subst hZ2
        refine exD<|tED<|tED<|bED<|nxD<|sqD<|frRCD<|rgM<|mv rfl rfl<|asg rfl rfl<|asg rfl rfl<|nlD<|nxD<|rtD ?_
        exact mtQD 1 rfl<|dpQD<|mtQD 1 rfl<|dpQD<|fR2D _ [Dm] [] rfl rfl rfl rfl rfl (SubD.cons 0 rfl SubD.nil)
end Go.Proofs.YtmpoffijcfaalaaGreat

/- The furthest of some scenes, as plain functions. No program. -/

namespace Go.YtmpoffijcfaalaaGreat
open Go.Eng
def zchart : TChart := ({ fIndex := 0, fPlaces := [], fNext := 0, fLast := 0, fPlan := ({ fNumber := 0, fFrom := 0, fTo := 0, fLo := ByteArray.empty, fHi := ByteArray.empty, fClient := 0, fSeq := 0 } : TPlan), fMarks := [] } : TChart)
theorem zchart_wf : zchart.wf := ⟨in0, trivial, in0, in0, ⟨in0, in0, in0, by decide, by decide, in0, in0⟩, trivial⟩
def upC (c : TChart) (v : TScene) : TChart := if v.fChart.fIndex > c.fIndex then v.fChart else c
def chF (l : List TScene) : Nat → TChart
  | 0 => (l.getD 0 default).fChart
  | j + 1 => upC (chF l j) ((l.drop 1).getD j default)
def upS (v : TScene) (xs : List TState) : Nat → List TState
  | 0 => xs
  | i + 1 => if (v.fStates.getD i default).fIndex > ((upS v xs i).getD i default).fIndex then (upS v xs i).set i (v.fStates.getD i default) else upS v xs i
def stF (l : List TScene) : Nat → List TState
  | 0 => (l.getD 0 default).fStates
  | j + 1 => upS ((l.drop 1).getD j default) (stF l j) ((l.drop 1).getD j default).fStates.length
def rightAll (l : List TScene) : Bool := allI l.length (fun j => drightP (l.getD j default))
def furC (l : List TScene) : TChart := if l.length = 0 then zchart else if rightAll l = true then chF l (l.drop 1).length else zchart
def furS (l : List TScene) : List TState := if l.length = 0 then [] else if rightAll l = true then stF l (l.drop 1).length else []
def furE (l : List TScene) : Int := if l.length = 0 then 1 else if rightAll l = true then 0 else 21
theorem upS_len (v : TScene) (xs : List TState) : ∀ i, (upS v xs i).length = xs.length
  | 0 => rfl
  | i + 1 => by
    rw [upS]
    split
    · rw [List.length_set, upS_len v xs i]
    · exact upS_len v xs i
theorem stF_len (l : List TScene) : ∀ j, (stF l j).length = (l.getD 0 default).fStates.length
  | 0 => rfl
  | j + 1 => by rw [stF, upS_len, stF_len l j]
theorem upS_mem {v : TScene} {xs : List TState} {P : TState → Prop} (hx : ∀ s ∈ xs, P s) (hv : ∀ s ∈ v.fStates, P s) : ∀ i, i ≤ v.fStates.length → ∀ s ∈ upS v xs i, P s
  | 0, _ => hx
  | i + 1, hi => by
    rw [upS]
    split
    · intro s hs
      rcases List.mem_or_eq_of_mem_set hs with hs | rfl
      · exact upS_mem hx hv i (by omega) s hs
      · exact hv _ (getD_mem (by omega))
    · exact upS_mem hx hv i (by omega)
theorem drop_getD {l : List TScene} {j : Nat} (hj : j < (l.drop 1).length) : (l.drop 1).getD j default ∈ l := List.mem_of_mem_drop (getD_mem hj)
theorem stF_mem {l : List TScene} {P : TState → Prop} (h : ∀ v ∈ l, ∀ s ∈ v.fStates, P s) (h0 : 0 < l.length) : ∀ j, j ≤ (l.drop 1).length → ∀ s ∈ stF l j, P s
  | 0, _ => h _ (getD_mem h0)
  | j + 1, hj => by
    rw [stF]
    exact upS_mem (stF_mem h h0 j (by omega)) (h _ (drop_getD (by omega))) _ (Nat.le_refl _)
theorem chF_mem {l : List TScene} {P : TChart → Prop} (h : ∀ v ∈ l, P v.fChart) (h0 : 0 < l.length) : ∀ j, j ≤ (l.drop 1).length → P (chF l j)
  | 0, _ => h _ (getD_mem h0)
  | j + 1, hj => by
    rw [chF, upC]
    split
    · exact h _ (drop_getD (by omega))
    · exact chF_mem h h0 j (by omega)
theorem right_mem {l : List TScene} (h : rightAll l = true) : ∀ v ∈ l, drightP v = true := fun v hv => by
  obtain ⟨j, hj, rfl⟩ := getD_of_mem hv
  exact (allI_iff.1 h) j hj
theorem dright_parts {v : TScene} (h : drightP v = true) : (∀ s ∈ v.fStates, srightP s = true) ∧ planP v.fChart = true := by
  unfold drightP at h
  split at h
  · cases h
  · split at h
    · rename_i h2
      simp only [Bool.and_eq_true, decide_eq_true_eq, errF_z] at h
      refine ⟨fun s hs => ?_, h.1⟩
      obtain ⟨j, hj, rfl⟩ := getD_of_mem hs
      have := (allI_iff.1 h2) j hj
      simp only [drightj, Bool.not_eq_true', Bool.or_eq_false_iff, Bool.not_eq_false', decide_eq_true_eq, errF_z] at this
      exact this.2
    · cases h
theorem plan_parts {c : TChart} (h : planP c = true) : c.fPlaces.length ≤ 7 ∧ c.fMarks.length ≤ 8 := by
  unfold planP at h
  split at h
  · cases h
  · split at h
    · cases h
    · rename_i h2
      simp only [plan2, Bool.or_eq_true, not_or, Bool.not_eq_true', Bool.not_eq_false, decide_eq_true_eq, errF_z] at h2
      exact ⟨rplaces_len h2.1, marks_len h2.2⟩
theorem set_getD_self {α : Type} [Inhabited α] {xs : List α} {i : Nat} (h : i < xs.length) : xs.set i (xs.getD i default) = xs := by
  refine List.ext_getElem? fun q => ?_
  rw [List.getElem?_set]
  split
  · rename_i e
    subst e
    simp [List.getD, List.getElem?_eq_getElem h]
  · rfl
end Go.YtmpoffijcfaalaaGreat

/- Three results, one of them in a variable; the rest of a slice. Generic: no program. -/

namespace Go.Eng
open Go.RowKit
/-- A cell of a struct. -/
def cel (u : Value) (i : Nat) : Value := u.cells.toList.getD i undef
section
variable {c : Cx} {ops : Array Oper} {J : Cx → Array Oper → List Oper → Env → Own → List Atom → Prop} [iJ : IsJ J] {env : Env} {L : Own} {D : List Atom} {rest : List Oper} {d : Nat} {t : TypeId} {p : String} {af : Array Edge} {x : Operand} {T : TypeId}
include iJ
/-- s[l:] of a slice that stands. -/
theorem slF {α : Type} {r : Rep α} (i n : Nat) {xs : List α} {sv : Value} {lo : Operand} {l : Int} {E : TypeId} (hx : ev env x = some sv) (hA : D[i]? = some (@Atom.mk (List α) (@repList α r) sv xs)) (ht : SliceTy c.P T E r.size)
    (e1 : ev env lo = some (.int .i64 l)) (hl : l = (n : Int)) (h3 : n ≤ xs.length) (hn : Nat.blt d c.n = true)
    (k : ∀ u, J c ops rest ((d, u) :: env) L ((@Atom.mk (List α) (@repList α r) u (xs.drop n)) :: D)) :
    J c ops (⟨some d, .slice T x (some lo) none none, t, p, af, none⟩ :: rest) env L D :=
  iJ.read (σ := Value) rfl rfl (fun u => (d, u) :: env) (fun u => (@Atom.mk (List α) (@repList α r) u (xs.drop n)) :: D) (fun a w f st dh => by
    subst hl
    obtain ⟨ha, hrd⟩ := dh.at_ i hA
    obtain ⟨A, cc, hsv, _⟩ := hrd
    simp only at hsv ha
    rw [cells_of_not ha] at hsv
    have hsv : sv = .slice A xs.length cc := by simpa using hsv
    subst hsv
    have hrd : rdSlice (Sf L.bs w) w [.slice A xs.length cc] xs := (dh.at_ i hA).2
    have hcap : xs.length ≤ cc := by
      obtain ⟨A', c', he, g1, _⟩ := hrd
      simp only [List.cons.injEq, Value.slice.injEq, and_true] at he
      omega
    obtain ⟨j, hj, hs⟩ := Option.map_eq_some_iff.1 ht.2
    have b3 : (0 : Int) ≤ n ∧ (n : Int) ≤ (xs.length : Int) := by omega
    have c2 : (n : Int) ≤ max (xs.length : Int) 0 := by omega
    refine ⟨.slice (if cc = n then A else A.map (·.add (n * r.size))) (xs.length - n) (cc - n), _, fun w' hs' => ?_, f.put _ (lt_blt hn), DH.cons ⟨rfl, by
      have := part_reads hrd (l := n) (h := xs.length) (m := cc) (by omega) (by omega) (by omega) (by omega)
      rw [List.take_length] at this
      exact this⟩ dh⟩
    simp [execOp, f.ev hx, f.ev e1, Instr.sliceAt, run_underlying ht.1, Instr.slice, Instr.sliceBounds, Instr.sliceBound, asIntOf, b3, c2, hcap, sizeOf, typeInfo, hj, hs]
    intro hlt
    exact absurd hlt (by omega)) k
end
section
variable {env : Env} {L : Own} {D : List Atom} {fn : Func} {P : Program} {n : Nat} {w0 : World} {M : List Nat}
theorem rCTT {t u s : Nat} {T T' : TypeId} {b : Nat} {cs : List Value} {v2 v3 : Value} (i : Nat) (hr : fn.results = #[.cell t T, .tmp u, .tmp s]) (h1 : lk env t = some (.pointer (some ⟨b, 0, none⟩))) (h2 : lk env u = some v2) (h3 : lk env s = some v3)
    (hi : L[i]? = some (bl b T' cs)) (ht : RowTy P T cs.length) : ResIs P n w0 M fn env L (.tuple #[.agg cs.toArray, v2, v3]) := fun a w f st => by
  simp [results, hr, f.at_ t _ h1, f.at_ u _ h2, f.at_ s _ h3, asAddr, Sem.run_bind, run_loadVarM ht (own_at i hi st)]
end
end Go.Eng
