/- Part 10 of dutyPlays_holds. -/
import Derived.Test.YtmpoffijcfaalaaGreatPl9

set_option maxRecDepth 20000
set_option maxHeartbeats 1000000
namespace Go.Proofs.YtmpoffijcfaalaaGreat
open Go.Eng Go.YtmpoffijcfaalaaGreat
theorem right14_c (v_l : Value) (l : List TMark) : FnV Pg 128 [v_l] [⟨v_l, l⟩] (.bool (marks14 l)) := by
 refine Fnc.proof Tryz.func128 G 52 G G fun X w => sa 1 G<|sa 1 G<|sq<|sa 1 G<|bk<|lpC (σ := Nat) [(0, _)] _ (fun i C => (4, .int .i64 (i : Int)) :: (3, .int .i64 (prevI (fun k => (l.getD k default).fClient) i)) :: C) (fun i => i ≤ l.length ∧ (∀ j, j < i → (!mark14 (prevI (fun k => (l.getD k default).fClient) j) (l.getD j default)) = true)) (fun i => l.length - i) 0 ⟨G, trivial⟩ (Sc 0 G Sn) ⟨Nat.zero_le _, fun j hj => absurd hj (Nat.not_lt_zero j)⟩ (Gs G) ?_
 rintro i ⟨hi, hall⟩
 refine sq<|qg<|ru 2 G<|lnP 0 G G Tryz.underlying25 G fun l8 => ru 1 G<|nl<|nx<|cdP G (fun h9 => ?_) (fun h9 => ?_)
 ·
  refine sk<|nx<|sq<|bk<|qg<|ru 2 G<|ixP 0 G G G slt_25 (by omega) (gE (by omega)) G fun v14 => ldS 0 G G (Rg G) G fun q15 w15 => al zero_122 G fun b5 => stW 0 (us := (cMark ((l.getD i default)))) G G G (Rg G) G G<|nl<|nx<|sq<|qg<|rl 5 [0] G G<|jb 20 4 [0] [0,4,5] G G G<|mv G G<|jb 25 4 [0] [0,4,5] G G G<|mv G G<|jb 30 4 [0] [0,4,5] G G G<|mv G G ?_
  refine jz 35 14 [0,4,5] G G (fun h35 K49 => by
   refine rl 3 [0] G G ?_
   refine jy 38 10 [0,4,5,35] G G (fun h38 K48 => by
    refine rl 4 [0] G G ?_
    refine jz 42 5 [0,4,5,35,38] G G (fun h42 K47 => by
     have p42 := of_decide_eq_false h42
     exact ru 1 G<|gY G G G<|ldM 0 (cAnswer ((l.getD i default).fAnswer)) G G (Rg G) G G<|gY G G G<|bd (ps := []) (cs := (cAnswer ((⟨0, 0, 0, 0⟩ : TAnswer)))) (by rfl) (by kernel_rfl) G<|gY G G G<|neT eq_Answer ((l.getD i default).fAnswer) ((⟨0, 0, 0, 0⟩ : TAnswer)) G G G<|ru 1 G<|K47 G Sr) ?_
    exact ru 1 G<|K48 G Sr) ?_
   exact ru 1 G<|K49 G Sr) ?_
  refine nl<|nx<|cdB G (fun h49 => ?_) (fun h49 => ?_)
  · exact sa 1 G<|rt<|tR<|bR<|tR<|tR<|bR<|tR<|dpQ<|fR1 () G G (by rw [marks14, allI_false i (by omega) (not_t h49)]; try rfl) G Sn
  ·
   refine sk<|nx<|rb 3 [0] G G<|bN<|nx<|rg<|mv G G<|adI G G (inI (by omega) (by omega)) G<|ru 1 G<|nl<|dpQ ?_
   exact ag (i + 1) ⟨(by omega), (all_snoc hall (not_f h49))⟩ (by omega) (Gs G) G (Sc 2 G Sn)
 · exact ex<|tE<|tE<|bE<|nx<|sa 1 G<|rt<|fR1 () G G (by rw [marks14, allI_true (fun j hj => hall j (by omega))]; try rfl) G Sn
theorem may18_c (d : TDeal) (h_d : d.wf) : FnV Pg 194 [.agg (cDeal d).toArray] [] (.bool (may18 d)) := by
 refine Fnc.proof Tryz.func194 G 76 G G fun X w => qg<|bx G G G fun b1 => ru 1 G<|nl<|nx<|sq<|qg<|rl 2 [0] G G<|cfv (client14_c _ h_d.1) ok_37 G Sn G<|ru 2 G<|jz 8 5 [1] G G (fun h8 K13 => rl 2 [0] G G<|gY G G G<|cfv (seq14_c _ h_d.2.1) ok_38 G Sn G<|ru 2 G<|K13 G Sr)<|mv G G<|jz 14 5 [1] G G (fun h14 K19 => rl 2 [0] G G<|gY G G G<|cfv (key15_c _) ok_168 G Sn G<|ru 2 G<|K19 G Sr)<|mv G G<|jz 20 5 [1] G G (fun h20 K25 => rl 2 [0] G G<|gY G G G<|cfv (key15_c _) ok_168 G Sn G<|ru 2 G<|K25 G Sr)<|mv G G<|jb 26 6 [0,0] [1] G G G<|mv G G<|jb 33 4 [0] [1] G G G<|mv G G<|jb 38 4 [0] [1] G G G<|mv G G ?_
 refine jb 43 4 [0] [1] G G G<|mv G G<|jb 48 4 [0] [1] G G G<|mv G G<|jb 53 4 [0] [1] G G G<|nl<|nx<|cdB G (fun h57 => ?_) (fun h57 => ?_)
 ·
  have e57 : (may18a d) = true := h57
  exact sa 1 G<|rt<|tR<|dpQ<|fR1 () G G (by rw [may18, e57]; try rfl) G Sn
 ·
  have e57 : (may18a d) = false := h57
  refine sk<|nx<|qg<|rl 4 [0,0] G G<|cfv (fate18_c _ _ h_d.2.2.2.2.2.1 h_d.2.2.2.2.2.2.1) ok_246 G Sn G<|ru 1 G<|nl<|nx<|qg<|rl 5 [0] G G ?_
  refine jz 67 8 [] G G (fun h67 K75 => by
   have p67 := of_decide_eq_false h67
   exact ru 3 G<|ja 70 4 [0] [67] G G G<|ru 1 G<|K75 G Sr) ?_
  exact ru 1 G<|nl<|nx<|rt<|dpQ<|fR1 () G G (by rw [may18, e57]; try rfl) G Sn
theorem place18_c (v_l : Value) (l : List TDeal) (c : Int) (q : Int) (h_c : InI c) (h_q : InI q) : FnV Pg 195 [v_l, .int .i64 c, .int .i64 q] [⟨v_l, l⟩] (.int .i64 (placeI (placeO l c q))) := by
 refine Fnc.proof Tryz.func195 G 31 G G fun X w => ?_
 obtain ⟨h_c1, h_c2⟩ := id h_c
 obtain ⟨h_q1, h_q2⟩ := id h_q
 refine sa 1 G<|sq<|sa 1 G<|bk<|lpC (σ := Nat) [(0, _), (1, _), (2, _)] _ (fun i C => (7, .int .i64 (i : Int)) :: C) (fun i => i ≤ l.length ∧ (∀ j, j < i → (decide ((l.getD j default).fClient = c) && decide ((l.getD j default).fSeq = q)) = false)) (fun i => l.length - i) 0 (Gs G) (Sc 0 G Sn) ⟨Nat.zero_le _, fun j hj => absurd hj (Nat.not_lt_zero j)⟩ (Gs G) ?_
 rintro i ⟨hi, hall⟩
 refine sq<|qg<|ru 2 G<|lnP 0 G G Tryz.underlying52 G fun l10 => ru 1 G<|nl<|nx<|cdP G (fun h11 => ?_) (fun h11 => ?_)
 ·
  refine sk<|nx<|sq<|bk<|qg<|ru 2 G<|ixP 0 G G G slt_52 (by omega) (gE (by omega)) G fun v16 => faP (α := TDeal) (β := Int) 0 (fun x : TDeal => x.fClient) G G (Fg G) pDeal_0 G fun v17 => ldV 0 G G (Og G) G fun w18 => ru 3 G ?_
  refine jy 21 8 [0,1,2,7] G G (fun h21 K29 => by
   have p21 := of_decide_eq_true h21
   exact ru 2 G<|gY G G G<|ixP 2 G G G slt_52 (by omega) (gE (by omega)) G fun v24 => gY G G G<|faP (α := TDeal) (β := Int) 0 (fun x : TDeal => x.fSeq) G G (Fg G) pDeal_1 G fun v25 => gY G G G<|ldV 0 G G (Og G) G fun w26 => ru 3 G<|K29 G (SubD.tail (SubD.tail Sr))) ?_
  refine nl<|nx<|cdB G (fun h29 => ?_) (fun h29 => ?_)
  · exact sa 2 G<|rt<|bR<|tR<|tR<|bR<|tR<|fR1 () G G (by rw [placeO, firstI_some (j := i) (by omega) hall h29, placeI]) G Sn
  ·
   refine sk<|bN<|nx<|rg<|mv G G<|adI G G (inI (by omega) (by omega)) G<|ru 1 G<|nl ?_
   exact ag (i + 1) ⟨(by omega), (all_snoc hall (h29))⟩ (by omega) (Gs G) G (Sc 2 G Sn)
 · exact ex<|tE<|tE<|bE<|nx<|sa 1 G<|rt<|fR1 () G G (by rw [placeO, firstI_none (fun k hk => hall k (by omega)), placeI]) G Sn
theorem right18_c (v_l : Value) (l : List TDeal) : FnV Pg 136 [v_l] [⟨v_l, l⟩] (.bool (books18 l)) := by
 refine Fnc.proof Tryz.func136 G 35 G G fun X w => sa 1 G<|sq<|sa 1 G<|bk<|lpC (σ := Nat) [(0, _)] _ (fun i C => (3, .int .i64 (i : Int)) :: C) (fun i => i ≤ l.length ∧ (∀ j, j < i → (!(!may18 (l.getD j default) || !decide (placeI (placeO l (l.getD j default).fClient (l.getD j default).fSeq) = (j : Int)))) = true)) (fun i => l.length - i) 0 ⟨G, trivial⟩ (Sc 0 G Sn) ⟨Nat.zero_le _, fun j hj => absurd hj (Nat.not_lt_zero j)⟩ (Gs G) ?_
 rintro i ⟨hi, hall⟩
 refine sq<|qg<|ru 2 G<|lnP 0 G G Tryz.underlying52 G fun l6 => ru 1 G<|nl<|nx<|cdP G (fun h7 => ?_) (fun h7 => ?_)
 ·
  refine sk<|nx<|sq<|bk<|sq<|rgQ mixed (by kernel_rfl)<|ru 2 G<|ixP 0 G G G slt_52 (by omega) (gE (by omega)) G fun v12 => ldS 0 G G (Rg G) G fun q13 w13 => cfq (may18_c _ w13) ok_194 G Sn G<|ru 2 G ?_
  refine jz 16 15 [0,3] G G (fun h16 K31 => by
   have p16 := h16
   try simp only [Bool.or_eq_false_iff, Bool.and_eq_true, decide_eq_true_eq, decide_eq_false_iff_not, Bool.not_eq_true', Bool.not_eq_false'] at p16
   exact ru 3 G<|gY G G G<|ixP 2 G G G slt_52 (by omega) (gE (by omega)) G fun v20 => gY G G G<|faP (α := TDeal) (β := Int) 0 (fun x : TDeal => x.fClient) G G (Fg G) pDeal_0 G fun v21 => gY G G G<|ldV 0 G G (Og G) G fun w22 => ru 2 G<|gY G G G<|ixP 4 G G G slt_52 (by omega) (gE (by omega)) G fun v25 => gY G G G<|faP (α := TDeal) (β := Int) 0 (fun x : TDeal => x.fSeq) G G (Fg G) pDeal_1 G fun v26 => gY G G G<|ldV 0 G G (Og G) G fun w27 => gY G G G<|cfq (place18_c _ _ _ _ w22 w27) ok_195 G (Sc 6 G Sn) G<|ru 3 G<|K31 G (SubD.tail (SubD.tail (SubD.tail (SubD.tail Sr))))) ?_
  refine nlQ<|nx<|cdB G (fun h31 => ?_) (fun h31 => ?_)
  · exact sa 1 G<|rt<|bR<|tR<|tR<|bR<|tR<|fR1 () G G (by rw [books18, books18a, allI_false i (by omega) (not_t h31)]; try rfl) G Sn
  ·
   refine sk<|bN<|nx<|rg<|mv G G<|adI G G (inI (by omega) (by omega)) G<|ru 1 G<|nl ?_
   exact ag (i + 1) ⟨(by omega), (all_snoc hall (not_f h31))⟩ (by omega) (Gs G) G (Sc 2 G Sn)
 · exact ex<|tE<|tE<|bE<|nx<|qg<|mv G G<|lnP 0 G G Tryz.underlying52 G fun l33 => ru 2 G<|nl<|nx<|rt<|fR1 () G G (by rw [books18, books18a, allI_true (fun j hj => hall j (by omega))]; try rfl) G Sn
theorem ends18_c (v_l : Value) (l : List TEnd) : FnV Pg 137 [v_l] [⟨v_l, l⟩] (.bool (ends18 l)) := by
 refine Fnc.proof Tryz.func137 G 40 G G fun X w => sa 1 G<|sa 1 G<|sq<|sa 1 G<|bk<|lpC (σ := Nat) [(0, _)] _ (fun i C => (4, .int .i64 (i : Int)) :: (3, .int .i64 (prevI (fun k => (l.getD k default).fClient) i)) :: C) (fun i => i ≤ l.length ∧ (∀ j, j < i → (!(decide ((l.getD j default).fClient ≤ prevI (fun k => (l.getD k default).fClient) j) || decide ((l.getD j default).fClient > 8) || !okSeq (l.getD j default).fSeq)) = true)) (fun i => l.length - i) 0 ⟨G, trivial⟩ (Sc 0 G Sn) ⟨Nat.zero_le _, fun j hj => absurd hj (Nat.not_lt_zero j)⟩ (Gs G) ?_
 rintro i ⟨hi, hall⟩
 refine sq<|qg<|ru 2 G<|lnP 0 G G Tryz.underlying53 G fun l7 => ru 1 G<|nl<|nx<|cdP G (fun h8 => ?_) (fun h8 => ?_)
 ·
  refine sk<|nx<|sq<|bk<|sq<|qg<|ru 2 G<|ixP 0 G G G slt_53 (by omega) (gE (by omega)) G fun v13 => faP (α := TEnd) (β := Int) 0 (fun x : TEnd => x.fClient) G G (Fg G) pEnd_0 G fun v14 => ldV 0 G G (Og G) G fun w15 => ru 3 G ?_
  refine jz 18 7 [0,4] G G (fun h18 K25 => by
   have p18 := of_decide_eq_false h18
   exact ru 2 G<|gY G G G<|ixP 2 G G G slt_53 (by omega) (gE (by omega)) G fun v21 => gY G G G<|faP (α := TEnd) (β := Int) 0 (fun x : TEnd => x.fClient) G G (Fg G) pEnd_0 G fun v22 => gY G G G<|ldV 0 G G (Og G) G fun w23 => ru 2 G<|K25 G (SubD.tail (SubD.tail Sr))) ?_
  refine mv G G ?_
  refine jz 26 8 [0,4] G G (fun h26 K34 => by
   have p26 := h26
   try simp only [Bool.or_eq_false_iff, Bool.and_eq_true, decide_eq_true_eq, decide_eq_false_iff_not, Bool.not_eq_true', Bool.not_eq_false'] at p26
   exact ru 2 G<|gY G G G<|ixP 2 G G G slt_53 (by omega) (gE (by omega)) G fun v29 => gY G G G<|faP (α := TEnd) (β := Int) 0 (fun x : TEnd => x.fSeq) G G (Fg G) pEnd_1 G fun v30 => gY G G G<|ldV 0 G G (Og G) G fun w31 => gY G G G<|cfv (seq14_c _ w31) ok_38 G Sn G<|ru 2 G<|K34 G (SubD.tail (SubD.tail Sr))) ?_
  refine nl<|nx<|cdB G (fun h34 => ?_) (fun h34 => ?_)
  · exact sa 1 G<|rt<|tR<|bR<|tR<|tR<|bR<|tR<|fR1 () G G (by rw [ends18, allI_false i (by omega) (not_t h34)]; try rfl) G Sn
  ·
   refine sk<|nx<|rg<|ru 2 G<|ixP 2 G G G slt_53 (by omega) (gE (by omega)) G fun v37 => faP (α := TEnd) (β := Int) 0 (fun x : TEnd => x.fClient) G G (Fg G) pEnd_0 G fun v38 => ldV 0 G G (Og G) G fun w39 => ru 1 G<|nl<|bN<|nx<|rg<|mv G G<|adI G G (inI (by omega) (by omega)) G<|ru 1 G<|nl ?_
   exact ag (i + 1) ⟨(by omega), (all_snoc hall (not_f h34))⟩ (by omega) (Gs G) G (Sc 4 G Sn)
 · exact ex<|tE<|tE<|bE<|nx<|sa 1 G<|rt<|fR1 () G G (by rw [ends18, allI_true (fun j hj => hall j (by omega))]; try rfl) G Sn
theorem wait19_c (s : TState) (s_0 s_1 s_2 s_3 s_4 s_5 : Value) (wt : TWait) (h_s : s.wf) (h_wt : wt.wf) : FnV Pg 138 [.agg (cState s s_0 s_1 s_2 s_3 s_4 s_5).toArray, .agg (cWait wt).toArray] [⟨s_0, s.fAccounts⟩, ⟨s_1, s.fMarks⟩, ⟨s_2, s.fWaits⟩, ⟨s_3, s.fDeals⟩, ⟨s_4, s.fEnds⟩, ⟨s_5, s.fImage⟩] (.bool (wait19 s wt)) := by
 refine Fnc.proof Tryz.func138 G 105 G G fun X w => qg<|bx G G G fun b2 => bx G G G fun b3 => ru 1 G<|nl<|nx<|sq<|qg<|rl 2 [0] G G<|cfv (client14_c _ h_wt.2.1) ok_37 G Sn G<|ru 2 G<|jz 10 5 [2,3] G G (fun h10 K15 => rl 2 [0] G G<|gY G G G<|cfv (seq14_c _ h_wt.2.2.1) ok_38 G Sn G<|ru 2 G<|K15 G Sr)<|mv G G<|jz 16 6 [2,3] G G (fun h16 K22 => rl 3 [0] G G<|gY G G G<|cfv (key15_c _) ok_168 G Sn G<|ru 2 G<|K22 G Sr)<|mv G G<|jz 23 7 [2,3] G G (fun h23 K30 => gY G G G<|ldM 1 (cState s s_0 s_1 s_2 s_3 s_4 s_5) G G (Rg G) G G<|rl 3 [0] G G<|gY G G G<|cfv (owns19_c _ _ _ _ _ _ _ _ h_s) ok_81 G (Si [0,1,2,3,4,5] G) G<|ru 2 G<|K30 G Sr)<|mv G G<|jz 31 6 [3] G G (fun h31 K37 => gY G G G<|ldM 1 (cState s s_0 s_1 s_2 s_3 s_4 s_5) G G (Rg G) G G<|rl 3 [0] G G<|gY G G G<|cfv (sealed19_c _ _ _ _ _ _ _ _ h_s) ok_196 G (Si [0,1,2,3,4,5] G) G<|ru 1 G<|K37 G Sr)<|nl<|nx<|cdB G (fun h37 => ?_) (fun h37 => ?_)
 ·
  have e37 : (wait19a s wt) = true := h37
  exact sa 1 G<|rt<|tR<|dpQ<|dpQ<|fR1 () G G (by rw [wait19, e37]; try rfl) G Sn
 ·
  have e37 : (wait19a s wt) = false := h37
  refine sk<|nx<|sq<|sb 2 [0] G G<|bk<|sa 2 G<|cdP G (fun h40 => ?_) (fun h40 => ?_)
  ·
   have e40 : (decide (wt.fKind = 1)) = true := (decide_eq_true h40)
   refine qg<|ru 1 G<|ldM 0 (cOp wt.fOp) G G (Rg G) G G<|al zero_34 G fun b5 => stW 0 (us := (cOp wt.fOp)) G G G (Rg G) G G<|nl<|nx<|qg<|rl 4 [1] G G<|ja 47 4 [1] [3,5] G G G<|mv G G<|ja 52 4 [1] [5] G G G<|mv G G<|ja 57 4 [0] [5] G G G<|mv G G<|ja 62 4 [0] [5] G G G<|mv G G ?_
   refine jy 67 9 [] G G (fun h67 K76 => by
    exact rl 4 [0] G G<|jb 71 4 [0] [67] G G G<|ru 1 G<|K76 G Sr) ?_
   exact ru 1 G<|nl<|nx<|rt<|bR<|tR<|dpQ<|dpQ<|dpQ<|fR1 () G G (by rw [wait19, e37, e40]; try rfl) G Sn
  ·
   have e40 : (decide (wt.fKind = 1)) = false := (decide_eq_false h40)
   refine sa 2 G<|cdP G (fun h77 => ?_) (fun h77 => ?_)
   ·
    have e77 : (decide (wt.fKind = 2)) = true := (decide_eq_true h77)
    refine qg<|rl 4 [0] G G ?_
    refine jy 82 4 [3] G G (fun h82 K86 => by
     have p82 := of_decide_eq_true h82
     exact rl 2 [0] G G<|gY G G G<|cfv (group19_c _ h_wt.2.2.2.2.1) ok_132 G Sn G<|ru 1 G<|K86 G Sr) ?_
    refine mv G G ?_
    refine jy 87 11 [3] G G (fun h87 K98 => by
     exact ru 1 G<|gY G G G<|ldM 0 (cOp wt.fOp) G G (Rg G) G G<|rl 5 [0] G G<|rl 1 [0] G G<|gY G G G<|bd (ps := [(1, .tmp 92), (3, .tmp 95)]) (cs := (cOp ((⟨0, wt.fOp.fKey, ByteArray.empty, wt.fOp.fN, 0, 0⟩ : TOp)))) (by rfl) (by kernel_rfl) G<|gY G G G<|eqT eq_Op (wt.fOp) ((⟨0, wt.fOp.fKey, ByteArray.empty, wt.fOp.fN, 0, 0⟩ : TOp)) G G G<|ru 1 G<|K98 G Sr) ?_
    exact mv G G<|ja 99 5 [0] [] G G G<|ru 1 G<|nl<|nx<|rt<|bR<|tR<|dpQ<|dpQ<|fR1 () G G (by rw [wait19, e37, e40, e77]; try rfl) G Sn
   ·
    have e77 : (decide (wt.fKind = 2)) = false := (decide_eq_false h77)
    exact sk<|bN<|nx<|sa 1 G<|rt<|dpQ<|dpQ<|fR1 () G G (by rw [wait19, e37, e40, e77]; try rfl) G Sn
theorem below16_c (x : TRight) (y : TRight) (h_x : x.wf) (h_y : y.wf) : FnV Pg 131 [.agg (cRight x).toArray, .agg (cRight y).toArray] [] (.bool (belowP x y)) := by
 refine Fnc.proof Tryz.func131 G 24 G G fun X w => qg<|bx G G G fun b2 => bx G G G fun b3 => ru 1 G<|nl<|nx<|qg<|rl 4 [1,0] G G<|ru 2 G ?_
 refine jz 10 13 [] G G (fun h10 K23 => by
  have p10 := of_decide_eq_false h10
  refine rl 6 [1,0] G G ?_
  refine jy 16 6 [10] G G (fun h16 K22 => by
   have p16 := of_decide_eq_true h16
   exact rl 4 [1,0] G G<|gY G G G<|ltS G G G<|ru 1 G<|K22 G Sr) ?_
  exact ru 1 G<|K23 G Sr) ?_
 exact ru 1 G<|nl<|nx<|rt<|dpQ<|dpQ<|fR1 () G G (by rfl) G Sn
theorem right16_c (v_l : Value) (l : List TRight) : FnV Pg 61 [v_l] [⟨v_l, l⟩] (.bool (rights16 l)) := by
 refine Fnc.proof Tryz.func61 G 33 G G fun X w => sa 1 G<|sq<|sa 1 G<|bk<|lpC (σ := Nat) [(0, _)] _ (fun i C => (3, .int .i64 (i : Int)) :: C) (fun i => i ≤ l.length ∧ (∀ j, j < i → (!right16j l j) = true)) (fun i => l.length - i) 0 ⟨G, trivial⟩ (Sc 0 G Sn) ⟨Nat.zero_le _, fun j hj => absurd hj (Nat.not_lt_zero j)⟩ (Gs G) ?_
 rintro i ⟨hi, hall⟩
 refine sq<|qg<|ru 2 G<|lnP 0 G G Tryz.underlying29 G fun l6 => ru 1 G<|nl<|nx<|cdP G (fun h7 => ?_) (fun h7 => ?_)
 ·
  refine sk<|nx<|sq<|bk<|sq<|rgQ mixed (by kernel_rfl)<|ru 2 G<|ixP 0 G G G slt_29 (by omega) (gE (by omega)) G fun v12 => ldS 0 G G (Rg G) G fun q13 w13 => cfq (lmay16_c _ w13) ok_130 G Sn G<|ru 2 G ?_
  refine jz 16 16 [0,3] G G (fun h16 K32 => by
   have p16 := h16
   try simp only [Bool.or_eq_false_iff, Bool.and_eq_true, decide_eq_true_eq, decide_eq_false_iff_not, Bool.not_eq_true', Bool.not_eq_false'] at p16
   refine ru 3 G ?_
   refine jy 19 12 [0,3,16] G G (fun h19 K31 => by
    have p19 := of_decide_eq_true h19
    exact ru 2 G<|gY G G G<|sbI G G (inI (by omega) (by omega)) G<|gY G G G<|ixP 2 G G G slt_29 (by omega) (gE (by omega)) G fun v23 => gY G G G<|ldS 0 G G (Rg G) G fun q24 w24 => ru 2 G<|gY G G G<|ixP 4 G G G slt_29 (by omega) (gE (by omega)) G fun v27 => gY G G G<|ldS 0 G G (Rg G) G fun q28 w28 => gY G G G<|cfq (below16_c _ _ w24 w28) ok_131 G Sn G<|ru 2 G<|K31 G (SubD.tail (SubD.tail (SubD.tail (SubD.tail Sr))))) ?_
   exact ru 1 G<|K32 G Sr) ?_
  refine nlQ<|nx<|cdB G (fun h32 => ?_) (fun h32 => ?_)
  · exact sa 1 G<|rt<|bR<|tR<|tR<|bR<|tR<|fR1 () G G (by rw [rights16, allI_false i (by omega) (not_t h32)]; try rfl) G Sn
  ·
   refine sk<|bN<|nx<|rg<|mv G G<|adI G G (inI (by omega) (by omega)) G<|ru 1 G<|nl ?_
   exact ag (i + 1) ⟨(by omega), (all_snoc hall (not_f h32))⟩ (by omega) (Gs G) G (Sc 2 G Sn)
 · exact ex<|tE<|tE<|bE<|nx<|sa 1 G<|rt<|fR1 () G G (by rw [rights16, allI_true (fun j hj => hall j (by omega))]; try rfl) G Sn
theorem right17_c (v_l : Value) (l : List TPlace) : FnV Pg 127 [v_l] [⟨v_l, l⟩] (.bool (places17 l)) := by
 refine Fnc.proof Tryz.func127 G 83 G G fun X w => sa 1 G<|sq<|qg<|mv G G<|lnP 0 G G Tryz.underlying22 G fun l7 => ru 2 G ?_
 refine jz 9 4 [0] G G (fun h9 K13 => by
  have p9 := of_decide_eq_false h9
  exact ru 1 G<|gY G G G<|lnP 0 G G Tryz.underlying22 G fun l11 => ru 2 G<|K13 G Sr) ?_
 refine mv G G ?_
 refine jz 14 6 [0] G G (fun h14 K20 => by
  have p14 := h14
  try simp only [Bool.or_eq_false_iff, Bool.and_eq_true, decide_eq_true_eq, decide_eq_false_iff_not, Bool.not_eq_true', Bool.not_eq_false'] at p14
  exact ru 1 G<|gY G G G<|ixP 0 G G G slt_22 (by omega) (gE (by omega)) G fun v16 => gY G G G<|faP (α := TPlace) (β := ByteArray) 0 (fun x : TPlace => x.fFrom) G G (Fg G) pPlace_1 G fun v17 => gY G G G<|ldV 0 G G (Og G) G fun w18 => ru 2 G<|K20 G (SubD.tail (SubD.tail Sr))) ?_
 refine nl<|nx<|cdB G (fun h20 => ?_) (fun h20 => ?_)
 ·
  have e20 : (place17a l) = true := h20
  exact sa 1 G<|rt<|tR<|fR1 () G G (by rw [places17, if_pos e20]) G Sn
 ·
  have e20 : (place17a l) = false := h20
  refine sk<|nx<|sq<|sa 1 G<|bk<|lpC (σ := Nat) [(0, _)] _ (fun i C => (3, .int .i64 (i : Int)) :: C) (fun i => i ≤ l.length ∧ (∀ j, j < i → (!place17b l j && place17c l j) = true)) (fun i => l.length - i) 0 ⟨G, trivial⟩ (Sc 0 G Sn) ⟨Nat.zero_le _, fun j hj => absurd hj (Nat.not_lt_zero j)⟩ (Gs G) ?_
  rintro i ⟨hi, hall⟩
  refine sq<|qg<|ru 2 G<|lnP 0 G G Tryz.underlying22 G fun l23 => ru 1 G<|nl<|nx<|cdP G (fun h24 => ?_) (fun h24 => ?_)
  ·
   refine sk<|nx<|sq<|bk<|qg<|ru 2 G<|ixP 0 G G G slt_22 (by omega) (gE (by omega)) G fun v29 => ldS 0 G G (Rg G) G fun q30 w30 => al zero_90 G fun b4 => stW 0 (us := (cPlace ((l.getD i default)))) G G G (Rg G) G G<|nl<|nx<|sq<|sq<|rgQ mixed (by kernel_rfl)<|rl 4 [0] G G<|jb 34 4 [0] [0,3,4] G G G<|mv G G<|jb 39 4 [0] [0,3,4] G G G<|mv G G<|jb 44 4 [0] [0,3,4] G G G<|mv G G<|jz 49 5 [0,3,4] G G (fun h49 K54 => rl 2 [0] G G<|gY G G G<|lnS G Tryz.underlying9 G<|ru 2 G<|K54 G Sr)<|mv G G ?_
   refine jz 55 14 [0,3,4] G G (fun h55 K69 => by
    have p55 := h55
    try simp only [Bool.or_eq_false_iff, Bool.and_eq_true, decide_eq_true_eq, decide_eq_false_iff_not, Bool.not_eq_true', Bool.not_eq_false'] at p55
    refine ru 3 G ?_
    refine jy 58 10 [0,3,4,55] G G (fun h58 K68 => by
     have p58 := of_decide_eq_true h58
     exact rl 4 [0] G G<|gY G G G<|sbI G G (inI (by omega) (by omega)) G<|gY G G G<|ixP 2 G G G slt_22 (by omega) (gE (by omega)) G fun v64 => gY G G G<|faP (α := TPlace) (β := ByteArray) 0 (fun x : TPlace => x.fFrom) G G (Fg G) pPlace_1 G fun v65 => gY G G G<|ldV 0 G G (Og G) G fun w66 => gY G G G<|leS G G G<|ru 1 G<|K68 G (SubD.tail (SubD.tail Sr))) ?_
    exact ru 1 G<|K69 G Sr) ?_
   refine nlQ<|nx<|cdB G (fun h69 => ?_) (fun h69 => ?_)
   · exact sa 1 G<|rt<|tR<|bR<|tR<|tR<|bR<|tR<|dpQ<|fR1 () G G (by rw [places17, if_neg (by rw [e20]; decide), allI_false i (by omega) (by rw [show place17b l i = true from h69]; rfl)]) G Sn
   ·
    refine sk<|nx<|sa 1 G<|bk<|lpC (σ := Nat) [(0, _), (3, _), (4, _)] _ (fun k C => (5, .int .i64 (k : Int)) :: C) (fun k => k ≤ i ∧ (∀ j, j < k → (!decide ((l.getD j default).fGroup = (l.getD i default).fGroup)) = true)) (fun k => i - k) 0 (Gs G) (Sc 2 G Sn) ⟨Nat.zero_le _, fun j hj => absurd hj (Nat.not_lt_zero j)⟩ (Gs G) ?_
    rintro k ⟨hi_k, hall_k⟩
    refine sq<|sa 3 G<|cdP G (fun h72 => ?_) (fun h72 => ?_)
    ·
     refine sk<|nx<|sq<|bk<|sq<|rgQ mixed (by kernel_rfl)<|ru 2 G<|ixP 0 G G G slt_22 (by omega) (gE (by omega)) G fun v77 => faP (α := TPlace) (β := Int) 0 (fun x : TPlace => x.fGroup) G G (Fg G) pPlace_0 G fun v78 => ldV 0 G G (Og G) G fun w79 => rl 3 [0] G G<|nlQ<|nx<|cdP G (fun h82 => ?_) (fun h82 => ?_)
     · exact sa 1 G<|rt<|bR<|tR<|tR<|bR<|bR<|tR<|tR<|bR<|tR<|dpQ<|fR1 () G G (by rw [places17, if_neg (by rw [e20]; decide), allI_false i (by omega) (by rw [show place17c l i = false from allI_false k (by omega) (not_decfalse h82)]; exact Bool.and_false _)]) G Sn
     ·
      refine sk<|bN<|nx<|rg<|mv G G<|adI G G (inI (by omega) (by omega)) G<|ru 1 G<|nl ?_
      exact ag (k + 1) ⟨(by omega), (all_snoc hall_k (not_dectrue h82))⟩ (by omega) (Gs G) G (Sc 2 G Sn)
    ·
     have hin : (!place17b l i && place17c l i) = true := by rw [show place17b l i = false from h69, show place17c l i = true from allI_true (fun j hj => hall_k j (by omega))]; rfl
     refine ex<|tE<|tE<|bE<|bN<|nx<|rg<|mv G G<|adI G G (inI (by omega) (by omega)) G<|ru 1 G<|nl<|dpQ ?_
     exact ag (i + 1) ⟨(by omega), (all_snoc hall (hin))⟩ (by omega) (Gs G) G (Sc 0 G Sn)
  · exact ex<|tE<|tE<|bE<|nx<|sa 1 G<|rt<|fR1 () G G (by rw [places17, if_neg (by rw [e20]; decide), allI_true (fun j hj => hall j (by omega))]) G Sn
theorem epoch17_c (v_l : Value) (l : List TPlace) : FnV Pg 116 [v_l] [⟨v_l, l⟩] (.int .i64 (epochP l)) := by
 refine Fnc.proof Tryz.func116 G 19 G G fun X w => sa 1 G<|sa 1 G<|sq<|sa 1 G<|bk<|lpC (σ := Nat) [(0, _)] _ (fun i C => (4, .int .i64 (i : Int)) :: (3, .int .i64 (maxI (fun j => (l.getD j default).fEpoch) i)) :: C) (fun i => i ≤ l.length) (fun i => l.length - i) 0 ⟨G, trivial⟩ (Sc 0 G Sn) (Nat.zero_le _) (Gs G) ?_
 intro i hi
 refine sq<|qg<|ru 2 G<|lnP 0 G G Tryz.underlying22 G fun l7 => ru 1 G<|nl<|nx<|cdP G (fun h8 => ?_) (fun h8 => ?_)
 ·
  refine sk<|nx<|sq<|bk<|rg<|ru 3 G<|ixP 0 G G G slt_22 (by omega) (gE (by omega)) G fun v14 => faP (α := TPlace) (β := Int) 0 (fun x : TPlace => x.fEpoch) G G (Fg G) pPlace_2 G fun v15 => ldV 0 G G (Og G) G fun w16 => mxI G G G G<|ru 1 G<|nl<|bN<|nx<|rg<|mv G G<|adI G G (inI (by omega) (by omega)) G<|ru 1 G<|nl ?_
  exact ag (i + 1) (by omega) (by omega) (Gs G) G (Sc 2 G Sn)
 · exact ex<|tE<|tE<|bE<|nx<|sa 2 G<|rt<|fR1 () G G (by have e : i = l.length := (by omega); rw [e, epochP]) G Sn
theorem sum_c (v_l : Value) (l : List Int) : FnV Pg 164 [v_l] [⟨v_l, l⟩] (sumV l.sum) := by
 refine Fnc.proof Tryz.func164 G 41 G G fun X w => gtC (q := allIn l) (fun S w h => ints_all (h _ (List.mem_cons_self ..))) fun hA => gtC (q := l.length ≤ 9223372036854775807) (fun S w h => list_len (h _ (List.mem_of_getElem? (i := 0) G))) fun hlen => sa 2 G<|sa 2 G<|sq<|qg<|mv G G<|lnP 0 G G Tryz.underlying220 G fun l11 => mv G G<|nl<|nx<|bk<|lpC (σ := Nat × Int × Int) [(10, _), (11, _)] _ (fun s C => (12, .int .i64 (s.1 : Int)) :: (4, .int .u64 s.2.1) :: (5, .int .u64 s.2.2) :: C) (fun s => s.1 ≤ l.length ∧ s.2.1 = (l.take s.1).sum / 18446744073709551616 % 18446744073709551616 ∧ s.2.2 = (l.take s.1).sum % 18446744073709551616 ∧ -((s.1 : Int) * 9223372036854775808) ≤ (l.take s.1).sum ∧ (l.take s.1).sum ≤ (s.1 : Int) * 9223372036854775808) (fun s => l.length - s.1) (0, 0, 0) (Gs G) (Sc 0 G Sn) ⟨Nat.zero_le _, by simp, by simp, by simp, by simp⟩ (Gs G) ?_
 rintro ⟨i, hi, lo⟩ ⟨g1, g2, g3, g4, g5⟩
 simp only at g1 g2 g3 g4 g5
 refine sa 1 G<|sq<|cdP G (fun h13 => ?_) (fun h13 => ?_)
 ·
  have hx := getD_InI hA (i := i) (by omega)
  refine sk<|nx<|sq<|bk<|qg<|ixP 0 G G G slt_220 (by omega) (gE (by omega)) G fun v14 => ldV 0 G G (Og G) G fun w15 => ru 1 G<|nl<|nx<|sa 1 G<|qg<|ru 2 G<|cv Tryz.underlying3 Tryz.underlying209 G (wrapu _) G ?_
  have hx20 := fun w => add64_ok (P := Tryz.prog) lo (l.getD i default % 18446744073709551616) 0 (by omega) (by omega) (by omega) (by omega) w
  refine cx ext_222 hx20 G G<|ru 5 G<|nl<|nx<|rg<|ru 2 G<|shR G G (by omega) (shr63 hx) G<|cv Tryz.underlying3 Tryz.underlying209 G (wrapu _) G<|mv G G ?_
  have hx29 := fun w => add64_ok (P := Tryz.prog) hi (sg (l.getD i default) % 18446744073709551616) ((lo + l.getD i default % 18446744073709551616 + 0) / 18446744073709551616) (by omega) (by omega) (by omega) (by omega) w
  refine cx ext_222 hx29 G G<|ru 4 G<|nl<|bN<|nx<|rg<|adI G G (inI (by omega) (by omega)) G<|mv G G<|nl ?_
  have hst := sum_step g2 g3 hx
  have hs := sum_take (l := l) (i := i) (by omega)
  obtain ⟨hx1, hx2⟩ := hx
  exact ag (i + 1, (hi + sg (l.getD i default) % 18446744073709551616 + (lo + l.getD i default % 18446744073709551616 + 0) / 18446744073709551616) % 18446744073709551616, (lo + l.getD i default % 18446744073709551616 + 0) % 18446744073709551616) ⟨by show i + 1 ≤ l.length; omega, by show _ = (l.take (i + 1)).sum / 18446744073709551616 % 18446744073709551616; rw [hs]; exact hst.1, by show _ = (l.take (i + 1)).sum % 18446744073709551616; rw [hs]; exact hst.2, by show -(((i + 1 : Nat) : Int) * 9223372036854775808) ≤ (l.take (i + 1)).sum; rw [hs]; omega, by show (l.take (i + 1)).sum ≤ ((i + 1 : Nat) : Int) * 9223372036854775808; rw [hs]; omega⟩ (by show l.length - (i + 1) < l.length - i; omega) (Gs G) G (Sc 1 G Sn)
 ·
  have e : i = l.length := by omega
  subst e
  rw [List.take_length] at g2 g3 g4 g5
  have hend := sum_end g2 g3 (by omega)
  refine ex<|tE<|tE<|bE<|nx<|qg<|mv G G<|cv Tryz.underlying209 Tryz.underlying3 G G G<|ru 1 G<|nl<|nx<|sq<|qg<|ru 2 G<|shR G G (by omega) (shr63 (wrapi_in lo)) G<|cv Tryz.underlying3 Tryz.underlying209 G (wrapu _) G<|ru 1 G<|nl<|nx<|cdN G (fun h39 => ?_) (fun h39 => ?_)
  · exact sa 2 G<|rt<|tR<|fR2 () G G G (by show _ = sumV l.sum; rw [sumV, sumI, sumE, if_neg (fun hq => h39 (hend.1.2 hq)), if_neg (fun hq => h39 (hend.1.2 hq))]) G Sn
  · exact sk<|nx<|sa 3 G<|rt<|fR2 () G G G (by show _ = sumV l.sum; rw [sumV, sumI, sumE, if_pos (hend.1.1 h39), if_pos (hend.1.1 h39), hend.2 (hend.1.1 h39)]) G Sn
theorem lent_c (a : TAccount) (a_0 : Value) (h_a : a.wf) (hh : holdersP a.fHolders = true) : FnV Pg 224 [.agg (cAccount a a_0).toArray] [⟨a_0, a.fHolders⟩] (lentV a) := by
 refine Fnc.proof Tryz.func224 G 54 G G fun X w => gtC (q := ∀ x ∈ a.fHolders, x.wf) (fun S w h => list_wf (s := sHolder) (h _ (List.mem_of_getElem? (i := 0) G))) fun hW => ?_
 have hl5 := hold_len hh
 refine qg<|bx G G G fun b1 => ru 3 G<|nl<|nx<|sq ?_
 refine rgH ⟨fun q_ => ([[], [0], [1], [], [3], [4], [2], [5]] : List (List Nat)).getD q_ [], fun _ _ => True, fun _ _ => [], fun q_ => ([some (.pointer (some ⟨b1, 3, none⟩)), some (.int .i64 a.fBase), none, some (.pointer (some ⟨b1, 3, none⟩)), some (.int .i64 a.fBase), none, none, none] : List (Option Value)).getD q_ none, fun h_ => match h_ with
   | [] => fun vs_ => [bl b1 70 (cAccount a a_0), fz X w]
   | [2] => fun vs_ => [row 3 (vs_.getD 0 undef) [a.fBase], bl b1 70 (cAccount a a_0), fz X w]
   | [5] => fun vs_ => [row 3 (vs_.getD 0 undef) [a.fBase], bl b1 70 (cAccount a a_0), fz X w]
   | [2, 5] => fun vs_ => [row 3 (vs_.getD 1 undef) [a.fBase], row 3 (vs_.getD 0 undef) [a.fBase], bl b1 70 (cAccount a a_0), fz X w]
   | [2, 6] => fun vs_ => [row 3 (vs_.getD 1 undef) [a.fBase], bl b1 70 (cAccount a a_0), fz X w]
   | [5, 2] => fun vs_ => [row 3 (vs_.getD 0 undef) [a.fBase], row 3 (vs_.getD 1 undef) [a.fBase], bl b1 70 (cAccount a a_0), fz X w]
   | [2, 5, 6] => fun vs_ => [row 3 (vs_.getD 1 undef) [a.fBase], row 3 (vs_.getD 2 undef) [a.fBase], bl b1 70 (cAccount a a_0), fz X w]
   | [2, 6, 5] => fun vs_ => [row 3 (vs_.getD 2 undef) [a.fBase], row 3 (vs_.getD 1 undef) [a.fBase], bl b1 70 (cAccount a a_0), fz X w]
   | [5, 2, 6] => fun vs_ => [row 3 (vs_.getD 0 undef) [a.fBase], row 3 (vs_.getD 2 undef) [a.fBase], bl b1 70 (cAccount a a_0), fz X w]
   | [2, 5, 6, 7] => fun vs_ => [row 3 (vs_.getD 3 undef) [a.fBase], row 3 (vs_.getD 2 undef) [a.fBase], bl b1 70 (cAccount a a_0), fz X w]
   | [2, 6, 5, 7] => fun vs_ => [row 3 (vs_.getD 3 undef) [a.fBase], row 3 (vs_.getD 1 undef) [a.fBase], bl b1 70 (cAccount a a_0), fz X w]
   | [5, 2, 6, 7] => fun vs_ => [row 3 (vs_.getD 3 undef) [a.fBase], row 3 (vs_.getD 2 undef) [a.fBase], bl b1 70 (cAccount a a_0), fz X w]
   | _ => fun _ => [], [2, 5, 6, 7], [[], [2], [5], [2, 5], [2, 6], [5, 2], [2, 5, 6], [2, 6, 5], [5, 2, 6], [2, 5, 6, 7], [2, 6, 5, 7], [5, 2, 6, 7]]⟩ (fun V => [row 3 (V 7) [a.fBase], row 3 (V 6) [a.fBase], bl b1 70 (cAccount a a_0), fz X w]) mixed rfl rfl (show AllP _ [[2, 5, 6, 7], [2, 6, 5, 7], [5, 2, 6, 7]] from ⟨fun _ => rfl, fun _ => rfl, fun _ => rfl, trivial⟩) ?_ ?_
 ·
  refine ⟨fun V De _=>aP5 (fa G (Fg G) G<|oh G G G G) (fa G (Fg G) G<|oh G G G G) (fa G (Fg G) G<|oh G G G G) (fa G (Fg G) G<|oh G G G G) (fa G (Fg G) G<|oh G G G G),fun V De _=>aP2 (ldB 0 G G (Og G) G G<|oh G G G G) (ldB 1 G G (Og G) G G<|oh G G G G),fun V De _=>aP2 (bs1 (xs := [.tmp 12]) (us := [.int .i64 a.fBase]) (E := 3) (bytes := 8) (n := 1) G (by exact app_220) G G G G G G fun b13 => rwB (α := Int) [a.fBase] [[.int .i64 (a.fBase)]] G G (fun S w h => ⟨⟨G, h_a.2.2.1⟩, trivial⟩) G<|nl (odH G G G trivial Sn Sr)) (bs1 (xs := [.tmp 12]) (us := [.int .i64 a.fBase]) (E := 3) (bytes := 8) (n := 1) G (by exact app_220) G G G G G G fun b13 => rwB (α := Int) [a.fBase] [[.int .i64 (a.fBase)]] G G (fun S w h => ⟨⟨G, h_a.2.2.1⟩, trivial⟩) G<|mtL 2 G<|mtL 1 G<|mtL 2 G<|nl (odH G G G trivial Sn Sr)),?_⟩
  refine ⟨fun V De _ => (show AllP _ [[], [2], [5], [2, 5], [2, 6], [5, 2], [2, 5, 6], [2, 6, 5], [5, 2, 6]] from ⟨?_, ?_, ?_, ?_, ?_, ?_, ?_, ?_, ?_, trivial⟩), ?_⟩
  · exact ru 1 G<|oh G G G G
  · exact ru 1 G<|oh G G G G
  · exact ru 1 G<|oh G G G G
  · exact ru 1 G<|oh G G G G
  · exact ru 1 G<|oh G G G G
  · exact ru 1 G<|oh G G G G
  · exact ru 1 G<|oh G G G G
  · exact ru 1 G<|oh G G G G
  · exact ru 1 G<|oh G G G G
  exact ⟨fun V De _=>aP3 (ldB 0 G G (Og G) G G<|oh G G G G) (ldB 1 G G (Og G) G G<|oh G G G G) (ldB 1 G G (Og G) G G<|oh G G G G),fun V De _=>aP3 (bs1 (xs := [.tmp 15]) (us := [.int .i64 a.fBase]) (E := 3) (bytes := 8) (n := 1) G (by exact app_220) G G G G G G fun b16 => rwB (α := Int) [a.fBase] [[.int .i64 (a.fBase)]] G G (fun S w h => ⟨⟨G, h_a.2.2.1⟩, trivial⟩) G<|nl (odH G G G trivial Sn Sr)) (bs1 (xs := [.tmp 15]) (us := [.int .i64 a.fBase]) (E := 3) (bytes := 8) (n := 1) G (by exact app_220) G G G G G G fun b16 => rwB (α := Int) [a.fBase] [[.int .i64 (a.fBase)]] G G (fun S w h => ⟨⟨G, h_a.2.2.1⟩, trivial⟩) G<|nl (odH G G G trivial Sn Sr)) (bs1 (xs := [.tmp 15]) (us := [.int .i64 a.fBase]) (E := 3) (bytes := 8) (n := 1) G (by exact app_220) G G G G G G fun b16 => rwB (α := Int) [a.fBase] [[.int .i64 (a.fBase)]] G G (fun S w h => ⟨⟨G, h_a.2.2.1⟩, trivial⟩) G<|nl (odH G G G trivial Sn Sr)),fun V De _=>aP3 (asg G G<|nl (odH G G G trivial Sn Sr)) (asg G G<|nl (odH G G G trivial Sn Sr)) (asg G G<|nl (odH G G G trivial Sn Sr)),fun V De _=>aP3 (asg G G<|nl (odH G G G trivial Sn Sr)) (asg G G<|nl (odH G G G trivial Sn Sr)) (asg G G<|nl (odH G G G trivial Sn Sr)),trivial⟩
 ·
  intro V _
  refine wkQ (L := [row 3 (V 7) [a.fBase], row 3 (V 6) [a.fBase], bl b1 70 (cAccount a a_0), fz X w]) [(1, _), (5, V 6), (6, V 7)] [_] (Gs G) (Sc 0 G Sn) ?_
  generalize V 6 = v6
  generalize V 7 = v7
  refine nx<|sq<|qg<|rl 2 [2] G G<|lnP 0 G G Tryz.underlying66 G fun l19 => mv G G<|nl<|nx<|bk<|lpE (σ := Nat × Value × Value) [(18, _), (19, _)] _ (fun i C => (20, .int .i64 (i.1 : Int)) :: (5, i.2.1) :: (6, i.2.2) :: C) (fun i => [row 3 i.2.2 (listS (fun h => -h.fDown) a.fBase a.fHolders i.1), row 3 i.2.1 (listS (fun h => h.fUp) a.fBase a.fHolders i.1), bl b1 70 (cAccount a a_0), fz X w]) (fun _ Dc => Dc) (fun i => i.1 ≤ a.fHolders.length) (fun i => a.fHolders.length - i.1) (0, v6, v7) (Gs G) (Sc 0 G Sn) (Nat.zero_le _) (Gs G) G (Sc 0 G Sn) ?_
  rintro ⟨i, v5, v6⟩ hi
  simp only at hi
  refine sa 1 G<|sq<|cdP G (fun h21 => ?_) (fun h21 => ?_)
  ·
   have hd := hold_at hh (i := i) (by omega)
   obtain ⟨hdi1, hdi2⟩ := (hW _ (getD_mem (l := a.fHolders) (i := i) (by omega))).2.2.2
   refine sk<|nx<|sq<|bk<|qg<|ixP 0 G G G slt_66 (by omega) (gE (by omega)) G fun v22 => ldS 0 G G (Rg G) G fun q23 w23 => al zero_165 G fun b8 => stW 0 (us := (cHolder ((a.fHolders.getD i default)))) G G G (Rg G) G G<|nl<|nx<|qg<|rl 3 [0] G G<|bs1 (xs := [.tmp 26]) (us := [.int .i64 ((a.fHolders.getD i default).fUp)]) (E := 3) (bytes := 8) (n := 1) G (by exact app_220) G G G G G G fun b27 => frS (α := Int) [(a.fHolders.getD i default).fUp] [[.int .i64 ((a.fHolders.getD i default).fUp)]] G (fun S w h => ⟨⟨G, (hW _ (getD_mem (l := a.fHolders) (i := i) (by omega))).2.2.1⟩, trivial⟩) (Nat.le_of_ble_eq_true G)<|ap 2 0 G G G G app_220 (by simp only [listS_len, List.length_cons, List.length_nil]; omega) (by simp only [listS_len, List.length_cons, List.length_nil]; omega) G fun v28 => ru 1 G<|nl<|nx<|rg<|rl 3 [0] G G<|ngI G (inI (by omega) (by omega)) G<|bs1 (xs := [.tmp 32]) (us := [.int .i64 ((-(a.fHolders.getD i default).fDown))]) (E := 3) (bytes := 8) (n := 1) G (by exact app_220) G G G G G G fun b33 => frS (α := Int) [-(a.fHolders.getD i default).fDown] [[.int .i64 (-(a.fHolders.getD i default).fDown)]] G (fun S w h => ⟨⟨G, (inI (by omega) (by omega))⟩, trivial⟩) (Nat.le_of_ble_eq_true G)<|ap 1 0 G G G G app_220 (by simp only [listS_len, List.length_cons, List.length_nil]; omega) (by simp only [listS_len, List.length_cons, List.length_nil]; omega) G fun v34 => ru 1 G<|nl<|bN<|nx<|rg<|adI G G (inI (by omega) (by omega)) G<|mv G G<|nl<|dpQ ?_
   exact ag ((i + 1, v28, v34) : Nat × Value × Value) (by show i + 1 ≤ _; omega) (by show _ - _ < _ - _; omega) (Gs G) G (Sc 4 G Sn)
  · exact ex<|tE<|tE<|bE<|nx<|qg<|mv G G<|mtL 1 G<|frRL<|cfv (sum_c _ _) ok_164 G (Sc 0 G Sn) G<|ru 3 G<|ru 2 G<|nl<|nx<|qg<|mv G G<|frRL<|cfv (sum_c _ _) ok_164 G (Sc 0 G Sn) G<|ru 5 G<|nl<|nx<|qg<|ru 5 G<|ja 50 3 [] [46,47] G G G<|ru 3 G<|nl<|nx<|rt<|dpQ<|fR3 () G G G G (by have e : i = a.fHolders.length := (by omega); subst e; simp only [listS_ups a, listS_downs a]; try rfl) G Sn
theorem add_c (x : Int) (y : Int) (h_x : InI x) (h_y : InI y) : FnV Pg 279 [.int .i64 x, .int .i64 y] [] (sumV (x + y)) := by
 refine Fnc.proof Tryz.func279 G 33 G G fun X w => ?_
 obtain ⟨h_x1, h_x2⟩ := id h_x
 obtain ⟨h_y1, h_y2⟩ := id h_y
 refine sa 2 G<|qg<|ru 2 G<|adW G G G<|ru 1 G<|nl<|nx<|sq<|qg<|ru 3 G<|ja 12 3 [] [0,1,6] G G G<|mv G G<|ja 16 3 [] [0,1,6] G G G<|mv G G ?_
 refine jz 20 11 [6] G G (fun h20 K31 => by
  exact ru 3 G<|ja 23 3 [] [6,20] G G G<|ru 1 G<|ja 27 3 [] [6,20] G G G<|ru 1 G<|K31 G Sr) ?_
 refine nl<|nx<|cdB G (fun h31 => ?_) (fun h31 => ?_)
 · exact sa 2 G<|rt<|tR<|fR2 () G G G (by show _ = sumV (x + y); have e := (add_ov h_x h_y).1.symm.trans h31; rw [Bool.not_eq_true'] at e; rw [sumV, sumI, sumE, if_neg (by rw [e]; decide), if_neg (by rw [e]; decide)]) G Sn
 · exact sk<|nx<|sa 3 G<|rt<|fR2 () G G G (by show _ = sumV (x + y); have e := (add_ov h_x h_y).1.symm.trans h31; rw [Bool.not_eq_false'] at e; rw [sumV, sumI, sumE, if_pos e, if_pos e, (add_ov h_x h_y).2 e]) G Sn
theorem fits_c (a : TAccount) (a_0 : Value) (k : TLock) (h_a : a.wf) (h_k : k.wf) : FnV Pg 226 [.agg (cAccount a a_0).toArray, .agg (cLock k).toArray] [⟨a_0, a.fHolders⟩] (.bool (fitsP a k)) := by
 refine Fnc.proof Tryz.func226 G 23 G G fun X w => qg<|bx G G G fun b2 => bx G G G fun b3 => ru 1 G<|nl<|nx<|qg<|rl 4 [1,0] G G<|cfv (add_c _ _ h_a.2.2.1 h_k.2.2.2) ok_279 G Sn G<|ru 5 G<|nl<|nx<|qg<|ru 3 G ?_
 refine jy 17 5 [] G G (fun h17 K22 => by
  have p17 := of_decide_eq_true h17
  exact ru 1 G<|gY G G G<|ldM 1 (cSpan a.fSpan) G G (Rg G) G G<|ru 1 G<|gY G G G<|cfv (has_c _ _ h_a.2.1 (sumI_in (a.fBase + k.fN))) ok_165 G Sn G<|ru 1 G<|K22 G Sr) ?_
 exact ru 1 G<|nl<|nx<|rt<|dpQ<|dpQ<|fR1 () G G (by rfl) G Sn
theorem aright_c (a : TAccount) (a_0 : Value) (h_a : a.wf) : FnV Pg 166 [.agg (cAccount a a_0).toArray] [⟨a_0, a.fHolders⟩] (.bool (accP a)) := by
 refine Fnc.proof Tryz.func166 G 80 G G fun X w => qg<|bx G G G fun b1 => ru 1 G<|nl<|nx<|sq<|qg<|rl 2 [0] G G<|lnS G Tryz.underlying9 G<|ru 1 G<|mv G G ?_
 refine jz 10 5 [1] G G (fun h10 K15 => by
  have p10 := of_decide_eq_false h10
  exact rl 2 [0] G G<|gY G G G<|lnS G Tryz.underlying9 G<|ru 2 G<|K15 G Sr) ?_
 refine mv G G<|jz 16 7 [1] G G (fun h16 K23 => ru 1 G<|gY G G G<|ldM 0 (cSpan a.fSpan) G G (Rg G) G G<|rl 2 [0] G G<|gY G G G<|cfv (has_c _ _ h_a.2.1 h_a.2.2.1) ok_165 G Sn G<|ru 2 G<|K23 G Sr)<|mv G G<|jb 24 4 [0] [1] G G G<|mv G G<|jz 29 5 [1] G G (fun h29 K34 => rl 2 [0] G G<|gY G G G<|cfv (holders_c _ _) ok_223 G (Sc 0 G Sn) G<|ru 2 G<|K34 G Sr)<|nl<|nx<|cdB G (fun h34 => ?_) (fun h34 => ?_)
 ·
  have e34 : (acc1 a) = true := h34
  exact sa 1 G<|rt<|tR<|dpQ<|fR1 () G G (by rw [accP, e34]; try rfl) G Sn
 ·
  have hh : holdersP a.fHolders = true := by have q := h34; simp only [Bool.or_eq_false_iff, Bool.not_eq_false'] at q; exact q.2
  have e34 : (acc1 a) = false := h34
  refine sk<|nx<|qg<|ldM 0 (cAccount a a_0) G G (Rg G) G G<|cfv (lent_c _ _ h_a (by assumption)) ok_224 G (Sc 0 G Sn) G<|ru 7 G<|nl<|nx<|sq<|qg<|ru 3 G<|jb 43 6 [0] [1,4] G G G<|mv G G<|jb 50 6 [0] [1] G G G<|nl<|nx<|cdB G (fun h56 => ?_) (fun h56 => ?_)
  ·
   have e56 : (acc2 a) = true := h56
   exact sa 1 G<|rt<|tR<|dpQ<|fR1 () G G (by rw [accP, e34, e56]; try rfl) G Sn
  ·
   have e56 : (acc2 a) = false := h56
   refine sk<|nx<|sq<|sb 4 [0] G G<|cdP G (fun h60 => ?_) (fun h60 => ?_)
   ·
    have e60 : (decide (a.fLock.fClient = 0)) = true := (decide_eq_true h60)
    exact qg<|ru 1 G<|ldM 0 (cLock a.fLock) G G (Rg G) G G<|bd (ps := []) (cs := (cLock ((⟨0, 0, 0, 0⟩ : TLock)))) (by rfl) (by kernel_rfl) G<|eqT eq_Lock (a.fLock) ((⟨0, 0, 0, 0⟩ : TLock)) G G G<|ru 1 G<|nl<|nx<|rt<|tR<|dpQ<|fR1 () G G (by rw [accP, e34, e56, e60]; try rfl) G Sn
   ·
    have e60 : (decide (a.fLock.fClient = 0)) = false := (decide_eq_false h60)
    exact sk<|nx<|qg<|ru 1 G<|ldM 0 (cLock a.fLock) G G (Rg G) G G<|cfv (keeper_c _ h_a.2.2.2.2.2) ok_225 G Sn G<|mv G G<|jy 68 5 [1] G G (fun h68 K73 => rl 2 [0] G G<|gY G G G<|lnP 0 G G Tryz.underlying66 G fun l71 => ru 2 G<|K73 G Sr)<|mv G G<|jy 74 5 [] G G (fun h74 K79 => gY G G G<|ldM 0 (cAccount a a_0) G G (Rg G) G G<|ru 1 G<|gY G G G<|ldM 0 (cLock a.fLock) G G (Rg G) G G<|gY G G G<|cfv (fits_c _ _ _ h_a h_a.2.2.2.2.2) ok_226 G (Sc 0 G Sn) G<|ru 1 G<|K79 G Sr)<|ru 1 G<|nl<|nx<|rt<|dpQ<|fR1 () G G (by rw [accP, e34, e56, e60]; try rfl) G Sn
theorem acheck_c (a : TAccount) (a_0 : Value) (h_a : a.wf) : FnV Pg 97 [.agg (cAccount a a_0).toArray] [⟨a_0, a.fHolders⟩] (.int .i64 (errF (accP a))) := by
 refine Fnc.proof Tryz.func97 G 6 G G fun X w => qg<|bx G G G fun b1 => ru 1 G<|nl<|nx<|sq<|qg<|ldM 0 (cAccount a a_0) G G (Rg G) G G<|cfv (aright_c _ _ h_a) ok_166 G (Sc 0 G Sn) G<|nt G G<|nl<|nx<|cdB G (fun h5 => ?_) (fun h5 => ?_)
 · exact sa 1 G<|rt<|tR<|dpQ<|fR1 () G G (by rw [errF, if_neg (by have q := h5; rw [Bool.not_eq_true'] at q; rw [q]; decide)]) G Sn
 · exact sk<|nx<|sa 1 G<|rt<|dpQ<|fR1 () G G (by rw [errF, if_pos (by have q := h5; rw [Bool.not_eq_false'] at q; exact q)]) G Sn
theorem aplain_c (a : TAccount) (a_0 : Value) (h_a : a.wf) : FnV Pg 89 [.agg (cAccount a a_0).toArray] [⟨a_0, a.fHolders⟩] (.bool (aplainP a)) := by
 exact Fnc.proof Tryz.func89 G 32 G G fun X w => qg<|bx G G G fun b1 => ru 1 G<|nl<|nx<|qg<|ldM 0 (cAccount a a_0) G G (Rg G) G G<|cfv (aright_c _ _ h_a) ok_166 G (Sc 0 G Sn) G<|mv G G<|jy 5 5 [1] G G (fun h5 K10 => ru 1 G<|gY G G G<|ldM 0 (cSpan a.fSpan) G G (Rg G) G G<|gY G G G<|bd (ps := []) (cs := (cSpan ((⟨0, 0⟩ : TSpan)))) (by rfl) (by kernel_rfl) G<|gY G G G<|eqT eq_Span (a.fSpan) ((⟨0, 0⟩ : TSpan)) G G G<|ru 1 G<|K10 G Sr)<|mv G G<|ja 11 4 [0] [1] G G G<|mv G G<|jy 16 5 [1] G G (fun h16 K21 => rl 2 [0] G G<|gY G G G<|lnP 0 G G Tryz.underlying66 G fun l19 => ru 2 G<|K21 G Sr)<|mv G G<|ja 22 4 [0] [1] G G G<|mv G G<|jy 27 4 [] G G (fun h27 K31 => gY G G G<|ldM 0 (cAccount a a_0) G G (Rg G) G G<|gY G G G<|cfv (locked_c _ _ h_a) ok_167 G (Sc 0 G Sn) G<|ru 2 G<|K31 G Sr)<|ru 1 G<|nl<|nx<|rt<|dpQ<|fR1 () G G (by rfl) G Sn
theorem cmpstr_c (x : ByteArray) (y : ByteArray) : FnV Pg 162 [.string x, .string y] [] (.int .i64 (cmpB x y)) := by
 exact Fnc.proof Tryz.func162 G 8 G G fun X w => sa 1 G<|qg<|ru 2 G<|cx ext_220 (fun w => cmp_ok (P := Tryz.prog) x y w) G G<|ru 1 G<|nl<|nx<|rt<|fR1 () G G (by rfl) G Sn
theorem compare_c (x : ByteArray) (y : ByteArray) : FnV Pg 87 [.string x, .string y] [] (.int .i64 (cmpB x y)) := by
 exact Fnc.proof Tryz.func87 G 8 G G fun X w => sa 1 G<|qg<|ru 2 G<|cfv (cmpstr_c _ _) ok_162 G Sn G<|ru 1 G<|nl<|nx<|rt<|fR1 () G G (by rfl) G Sn
theorem order_c (x : TRight) (y : TRight) (h_x : x.wf) (h_y : y.wf) : FnV Pg 125 [.agg (cRight x).toArray, .agg (cRight y).toArray] [] (.int .i64 (orderP x y)) := by
 refine Fnc.proof Tryz.func125 G 20 G G fun X w => qg<|bx G G G fun b2 => bx G G G fun b3 => ru 1 G<|nl<|nx<|sq<|qg<|rl 3 [1] G G<|rl 2 [0] G G<|nl<|nx<|cdN G (fun h9 => ?_) (fun h9 => ?_)
 ·
  have e9 : (!decide (x.fGroup = y.fGroup)) = true := (not_dectrue h9)
  refine sq<|sb 5 [1,0] G G<|cdP G (fun h14 => ?_) (fun h14 => ?_)
  ·
   have e14 : (decide (x.fGroup < y.fGroup)) = true := (decide_eq_true h14)
   exact sa 1 G<|rt<|tR<|tR<|dpQ<|dpQ<|fR1 () G G (by rw [orderP, e9, e14]; try rfl) G Sn
  ·
   have e14 : (decide (x.fGroup < y.fGroup)) = false := (decide_eq_false h14)
   exact sk<|nx<|sa 1 G<|rt<|tR<|dpQ<|dpQ<|fR1 () G G (by rw [orderP, e9, e14]; try rfl) G Sn
 ·
  have e9 : (!decide (x.fGroup = y.fGroup)) = false := (not_decfalse h9)
  exact sk<|nx<|qg<|rl 4 [1,0] G G<|cfv (compare_c _ _) ok_87 G Sn G<|ru 1 G<|nl<|nx<|rt<|dpQ<|dpQ<|fR1 () G G (by rw [orderP, e9]; try rfl) G Sn
theorem lcheck_c (v_l : Value) (l : List TRight) : FnV Pg 59 [v_l] [⟨v_l, l⟩] (.int .i64 (errF (ledgerP l))) := by
 refine Fnc.proof Tryz.func59 G 30 G G fun X w => sa 1 G<|sq<|qg<|mv G G<|lnP 0 G G Tryz.underlying29 G fun l6 => mv G G<|nl<|nx<|bk<|lpC (σ := Nat) [(0, _), (5, _), (6, _)] _ (fun i C => (7, .int .i64 (i : Int)) :: C) (fun i => i ≤ l.length ∧ (∀ j, j < i → (!ledgerj l j) = true)) (fun i => l.length - i) 0 (Gs G) (Sc 0 G Sn) ⟨Nat.zero_le _, fun j hj => absurd hj (Nat.not_lt_zero j)⟩ (Gs G) ?_
 rintro i ⟨hi, hall⟩
 refine sa 1 G<|sq<|cdP G (fun h8 => ?_) (fun h8 => ?_)
 ·
  refine sk<|nx<|sq<|bk<|qg<|mv G G<|ixP 0 G G G slt_29 (by omega) (gE (by omega)) G fun v10 => ldS 0 G G (Rg G) G fun q11 w11 => al zero_59 G fun b4 => ru 1 G<|stW 0 (us := (cRight ((l.getD i default)))) G G G (Rg G) G G<|nl<|nx<|sq<|rgQ mixed (by kernel_rfl)<|ldM 0 (cRight ((l.getD i default))) G G (Rg G) G G<|cfq (lmay_c _ w11) ok_124 G Sn G<|ru 2 G ?_
  refine jz 15 13 [0,5,6,7] G G (fun h15 K28 => by
   have p15 := h15
   try simp only [Bool.or_eq_false_iff, Bool.and_eq_true, decide_eq_true_eq, decide_eq_false_iff_not, Bool.not_eq_true', Bool.not_eq_false'] at p15
   refine ru 3 G ?_
   refine jy 18 9 [0,5,6,7,15] G G (fun h18 K27 => by
    have p18 := of_decide_eq_true h18
    exact ru 2 G<|gY G G G<|sbI G G (inI (by omega) (by omega)) G<|gY G G G<|ixP 2 G G G slt_29 (by omega) (gE (by omega)) G fun v22 => gY G G G<|ldS 0 G G (Rg G) G fun q23 w23 => gY G G G<|ldM 0 (cRight ((l.getD i default))) G G (Rg G) G G<|gY G G G<|cfq (order_c _ _ w23 w11) ok_125 G Sn G<|ru 2 G<|K27 G (SubD.tail (SubD.tail Sr))) ?_
   exact ru 1 G<|K28 G Sr) ?_
  refine nlQ<|nx<|cdB G (fun h28 => ?_) (fun h28 => ?_)
  · exact sa 1 G<|rt<|bR<|tR<|tR<|bR<|tR<|dpQ<|fR1 () G G (by rw [ledgerP, allI_false i (by omega) (not_t h28)]; try rfl) G Sn
  ·
   refine sk<|bN<|nx<|rg<|adI G G (inI (by omega) (by omega)) G<|mv G G<|nl<|dpQ ?_
   exact ag (i + 1) ⟨(by omega), (all_snoc hall (not_f h28))⟩ (by omega) (Gs G) G (Sc 2 G Sn)
 · exact ex<|tE<|tE<|bE<|nx<|sa 1 G<|rt<|fR1 () G G (by rw [ledgerP, allI_true (fun j hj => hall j (by omega))]; try rfl) G Sn
theorem saccs_c (s : TState) (s_0 s_1 s_2 s_3 s_4 s_5 : Value) (h_s : s.wf) : FnV Pg 181 [.agg (cState s s_0 s_1 s_2 s_3 s_4 s_5).toArray] [⟨s_0, s.fAccounts⟩, ⟨s_1, s.fMarks⟩, ⟨s_2, s.fWaits⟩, ⟨s_3, s.fDeals⟩, ⟨s_4, s.fEnds⟩, ⟨s_5, s.fImage⟩] (.bool (accsP s)) := by
 refine Fnc.proof Tryz.func181 G 48 G G fun X w => qg<|bx G G G fun b1 => ru 1 G<|nl<|nx<|sq<|qg<|rl 2 [0] G G<|lnP 0 G G Tryz.underlying50 G fun l7 => ru 1 G<|nl<|nx<|cdP G (fun h8 => ?_) (fun h8 => ?_)
 ·
  have e8 : (decide ((s.fAccounts.length : Int) > 12)) = true := (decide_eq_true h8)
  exact sa 1 G<|rt<|tR<|dpQ<|fR1 () G G (by rw [accsP, if_pos e8]) G Sn
 ·
  have e8 : (decide ((s.fAccounts.length : Int) > 12)) = false := (decide_eq_false h8)
  refine sk<|nx<|sq<|qg<|rl 2 [0] G G<|lnP 0 G G Tryz.underlying50 G fun l11 => mv G G<|nl<|nx<|bk<|lpC (σ := Nat) [(1, _), (10, _), (11, _)] _ (fun i C => (12, .int .i64 (i : Int)) :: C) (fun i => i ≤ s.fAccounts.length ∧ (∀ j, j < i → (!accsj s j) = true)) (fun i => s.fAccounts.length - i) 0 (Gs G) (Sc 0 G (Sc 1 G (Sc 2 G (Sc 3 G (Sc 4 G (Sc 5 G Sn)))))) ⟨Nat.zero_le _, fun j hj => absurd hj (Nat.not_lt_zero j)⟩ (Gs G) ?_
  rintro i ⟨hi, hall⟩
  refine sa 1 G<|sq<|cdP G (fun h13 => ?_) (fun h13 => ?_)
  ·
   refine sk<|nx<|sq<|bk<|qg<|mv G G<|ixP 0 G G G slt_50 (by omega) (gE (by omega)) G fun v15 => ldS 0 G G (Rg G) G fun q16 w16 => ?_
   refine al zero_70 G fun b4 => ru 1 G<|oc 1 G fun o_q16 => stW 0 (us := (cAccount ((s.fAccounts.getD i default)) q16)) G G G (Rg G) (by simp only [List.all_cons, List.all_nil, Bool.and_true, o_q16]; rfl) G<|nl<|nx<|sq<|rgQ mixed (by kernel_rfl)<|ldM 0 (cAccount ((s.fAccounts.getD i default)) q16) G G (Rg G) G G<|cfq (acheck_c _ _ w16) ok_97 G (Sc 1 G Sn) G<|ru 2 G ?_
   refine jz 20 3 [1,3,4,10,11,12] G G (fun h20 K23 => by
    have p20 := h20
    simp only [Bool.not_eq_true', Bool.not_eq_false', decide_eq_true_eq, decide_eq_false_iff_not] at p20
    exact gY G G G<|ldM 0 (cAccount ((s.fAccounts.getD i default)) q16) G G (Rg G) G G<|gY G G G<|cfq (aplain_c _ _ w16) ok_89 G (Sc 1 G Sn) G<|ru 1 G<|K23 G Sr) ?_
   refine mv G G<|jz 24 6 [1,3,4,10,11,12] G G (fun h24 K30 => gY G G G<|ldM 1 (cState s s_0 s_1 s_2 s_3 s_4 s_5) G G (Rg G) G G<|rl 2 [0] G G<|gY G G G<|cfq (owns_c _ _ _ _ _ _ _ _ h_s) ok_78 G (Si [3,4,5,6,7,8] G) G<|ru 2 G<|K30 G Sr)<|mv G G ?_
   refine jz 31 15 [1,10,11,12] G G (fun h31 K46 => by
    have p31 := h31
    try simp only [Bool.or_eq_false_iff, Bool.and_eq_true, decide_eq_true_eq, decide_eq_false_iff_not, Bool.not_eq_true', Bool.not_eq_false'] at p31
    refine ru 3 G ?_
    refine jy 34 11 [1,10,11,12,31] G G (fun h34 K45 => by
     have p34 := of_decide_eq_true h34
     exact rl 5 [0,1] G G<|gY G G G<|sbI G G (inI (by omega) (by omega)) G<|gY G G G<|ixP 3 G G G slt_50 (by omega) (gE (by omega)) G fun v41 => gY G G G<|faP (α := TAccount) (β := ByteArray) 0 (fun x : TAccount => x.fKey) G G (Fg G) pAccount_0 G fun v42 => gY G G G<|ldV 0 G G (Og G) G fun w43 => gY G G G<|leS G G G<|ru 1 G<|K45 G (SubD.tail (SubD.tail Sr))) ?_
    exact ru 1 G<|K46 G Sr) ?_
   refine nlQ<|nx<|cdB G (fun h46 => ?_) (fun h46 => ?_)
   · exact sa 1 G<|rt<|bR<|tR<|tR<|bR<|tR<|dpQ<|dpQ<|fR1 () G G (by rw [accsP, if_neg (by rw [e8]; decide), allI_false i (by omega) (not_t h46)]) G Sn
   ·
    refine sk<|bN<|nx<|rg<|adI G G (inI (by omega) (by omega)) G<|mv G G<|nl<|dpQ ?_
    exact ag (i + 1) ⟨(by omega), (all_snoc hall (not_f h46))⟩ (by omega) (Gs G) G (Si [3,4,5,6,7,8] G)
  · exact ex<|tE<|tE<|bE<|nx<|sa 1 G<|rt<|dpQ<|fR1 () G G (by rw [accsP, if_neg (by rw [e8]; decide), allI_true (fun j hj => hall j (by omega))]) G Sn
theorem indexDeal_c (v_l : Value) (l : List TDeal) (f : Nat) (caps : Array Value) (A : List Atom) (p : TDeal → Bool) (hok : FnOk Pg f) (hcl : ∀ x : TDeal, x.wf → FnV Pg f (.agg (cDeal x).toArray :: caps.toList) A (.bool (p x))) : FnV Pg 277 [v_l, .func (.func f) #[] caps] (⟨v_l, l⟩ :: A) (.int .i64 (placeI (firstI l.length (fun j => p (l.getD j default))))) := by
 refine Fnc.proof Tryz.func277 G 19 G G fun X w => sa 1 G<|sq<|qg<|mv G G<|lnP 0 G G Tryz.underlying52 G fun l7 => mv G G<|nl<|nx<|bk<|lpC (σ := Nat) [(0, _), (1, _), (7, _)] _ (fun i C => (8, .int .i64 (i : Int)) :: C) (fun i => i ≤ l.length ∧ (∀ j, j < i → p (l.getD j default) = false)) (fun i => l.length - i) 0 (Gs G) (Sc 0 G (SubD.tail Sr)) ⟨Nat.zero_le _, fun j hj => absurd hj (Nat.not_lt_zero j)⟩ (Gs G) ?_
 rintro i ⟨hi, hall⟩
 refine sa 1 G<|sq<|cdP G (fun h9 => ?_) (fun h9 => ?_)
 ·
  refine sk<|nx<|sq<|bk<|sa 2 G<|qg<|ru 2 G<|mv G G<|ixP 0 G G G slt_52 (by omega) (gE (by omega)) G fun v14 => ldS 0 G G (Rg G) G fun q15 w15 => cfc (hcl _ w15) hok G G G (SubD.tail (SubD.tail (SubD.tail Sr))) G fun y16 v16 e16 => ?_
  obtain rfl : v16 = .bool (p (l.getD i default)) := e16
  refine nl<|nx<|cdB G (fun h16 => ?_) (fun h16 => ?_)
  · exact sa 2 G<|rt<|bR<|tR<|tR<|bR<|tR<|fR1 () G G (by rw [firstI_some (j := i) (by omega) hall h16]; try rfl) G Sn
  ·
   refine sk<|bN<|nx<|rg<|adI G G (inI (by omega) (by omega)) G<|mv G G<|nl ?_
   exact ag (i + 1) ⟨(by omega), (all_snoc hall (h16))⟩ (by omega) (Gs G) G (Sc 2 G (SubD.tail (SubD.tail (SubD.tail Sr))))
 · exact ex<|tE<|tE<|bE<|nx<|sa 1 G<|rt<|fR1 () G G (by rw [firstI_none (fun k hk => hall k (by omega))]; try rfl) G Sn
theorem indexPlace_c (v_l : Value) (l : List TPlace) (f : Nat) (caps : Array Value) (A : List Atom) (p : TPlace → Bool) (hok : FnOk Pg f) (hcl : ∀ x : TPlace, x.wf → FnV Pg f (.agg (cPlace x).toArray :: caps.toList) A (.bool (p x))) : FnV Pg 244 [v_l, .func (.func f) #[] caps] (⟨v_l, l⟩ :: A) (.int .i64 (placeI (firstI l.length (fun j => p (l.getD j default))))) := by
 refine Fnc.proof Tryz.func244 G 19 G G fun X w => sa 1 G<|sq<|qg<|mv G G<|lnP 0 G G Tryz.underlying22 G fun l7 => mv G G<|nl<|nx<|bk<|lpC (σ := Nat) [(0, _), (1, _), (7, _)] _ (fun i C => (8, .int .i64 (i : Int)) :: C) (fun i => i ≤ l.length ∧ (∀ j, j < i → p (l.getD j default) = false)) (fun i => l.length - i) 0 (Gs G) (Sc 0 G (SubD.tail Sr)) ⟨Nat.zero_le _, fun j hj => absurd hj (Nat.not_lt_zero j)⟩ (Gs G) ?_
 rintro i ⟨hi, hall⟩
 refine sa 1 G<|sq<|cdP G (fun h9 => ?_) (fun h9 => ?_)
 ·
  refine sk<|nx<|sq<|bk<|sa 2 G<|qg<|ru 2 G<|mv G G<|ixP 0 G G G slt_22 (by omega) (gE (by omega)) G fun v14 => ldS 0 G G (Rg G) G fun q15 w15 => cfc (hcl _ w15) hok G G G (SubD.tail (SubD.tail (SubD.tail Sr))) G fun y16 v16 e16 => ?_
  obtain rfl : v16 = .bool (p (l.getD i default)) := e16
  refine nl<|nx<|cdB G (fun h16 => ?_) (fun h16 => ?_)
  · exact sa 2 G<|rt<|bR<|tR<|tR<|bR<|tR<|fR1 () G G (by rw [firstI_some (j := i) (by omega) hall h16]; try rfl) G Sn
  ·
   refine sk<|bN<|nx<|rg<|adI G G (inI (by omega) (by omega)) G<|mv G G<|nl ?_
   exact ag (i + 1) ⟨(by omega), (all_snoc hall (h16))⟩ (by omega) (Gs G) G (Sc 2 G (SubD.tail (SubD.tail (SubD.tail Sr))))
 · exact ex<|tE<|tE<|bE<|nx<|sa 1 G<|rt<|fR1 () G G (by rw [firstI_none (fun k hk => hall k (by omega))]; try rfl) G Sn
theorem place1_c (x : TDeal) (v1 v2 : Value) (c q : Int) (h_x : x.wf) : FnV Pg 278 [.agg (cDeal x).toArray, v1, v2] [⟨v1, (⟨c⟩ : Pt Int)⟩, ⟨v2, (⟨q⟩ : Pt Int)⟩] (.bool (decide (x.fClient = c) && decide (x.fSeq = q))) := by
 refine Fnc.proof Tryz.func278 G 15 G G fun X w => qg<|bx G G G fun b3 => ru 1 G<|nl<|nx<|qg<|rl 2 [0] G G<|ldV 0 G G (Og G) G fun w7 => ru 2 G ?_
 refine jy 9 5 [] G G (fun h9 K14 => by
  have p9 := of_decide_eq_true h9
  exact rl 2 [0] G G<|gY G G G<|ldV 1 G G (Og G) G fun w12 => ru 2 G<|K14 G Sr) ?_
 exact ru 1 G<|nl<|nx<|rt<|dpQ<|fR1 () G G (by rfl) G Sn
theorem place_c (v_l : Value) (l : List TDeal) (c : Int) (q : Int) (h_c : InI c) (h_q : InI q) : FnV Pg 221 [v_l, .int .i64 c, .int .i64 q] [⟨v_l, l⟩] (.int .i64 (placeI (placeO l c q))) := by
 refine Fnc.proof Tryz.func221 G 10 G G fun X w => ?_
 obtain ⟨h_c1, h_c2⟩ := id h_c
 obtain ⟨h_q1, h_q2⟩ := id h_q
 exact qg<|bx G G G fun b4 => bx G G G fun b5 => ru 1 G<|nl<|nx<|qg<|frP (α := Int) q (fun S w h => ⟨G, h_q⟩)<|frP (α := Int) c (fun S w h => ⟨G, h_c⟩)<|mv G G<|mf (xs := [.tmp 4, .tmp 5]) G G<|cfv (indexDeal_c _ _ 278 #[.pointer (some ⟨b4, 0, none⟩), .pointer (some ⟨b5, 0, none⟩)] [⟨_, (⟨c⟩ : Pt Int)⟩, ⟨_, (⟨q⟩ : Pt Int)⟩] (fun x => decide (x.fClient = c) && decide (x.fSeq = q)) ok_278 (fun x hx => place1_c x _ _ c q hx)) ok_277 G (Si [2,0,1] G) G<|ru 1 G<|nl<|nx<|rt<|fR1 () G G (by rfl) G Sn
theorem deals_c (v_l : Value) (l : List TDeal) : FnV Pg 183 [v_l] [⟨v_l, l⟩] (.int .i64 (errF (dealsP l))) := by
 refine Fnc.proof Tryz.func183 G 29 G G fun X w => sa 1 G<|sq<|qg<|mv G G<|lnP 0 G G Tryz.underlying52 G fun l6 => ru 1 G<|nl<|nx<|cdP G (fun h7 => ?_) (fun h7 => ?_)
 ·
  have e7 : (decide ((l.length : Int) > 4)) = true := (decide_eq_true h7)
  exact sa 1 G<|rt<|tR<|fR1 () G G (by rw [dealsP, if_pos e7]; try rfl) G Sn
 ·
  have e7 : (decide ((l.length : Int) > 4)) = false := (decide_eq_false h7)
  refine sk<|nx<|sq<|qg<|mv G G<|lnP 0 G G Tryz.underlying52 G fun l9 => mv G G<|nl<|nx<|bk<|lpC (σ := Nat) [(0, _), (8, _), (9, _)] _ (fun i C => (10, .int .i64 (i : Int)) :: C) (fun i => i ≤ l.length ∧ (∀ j, j < i → (!dealsj l j) = true)) (fun i => l.length - i) 0 (Gs G) (Sc 0 G Sn) ⟨Nat.zero_le _, fun j hj => absurd hj (Nat.not_lt_zero j)⟩ (Gs G) ?_
  rintro i ⟨hi, hall⟩
  refine sa 1 G<|sq<|cdP G (fun h11 => ?_) (fun h11 => ?_)
  ·
   refine sk<|nx<|sq<|bk<|qg<|mv G G<|ixP 0 G G G slt_52 (by omega) (gE (by omega)) G fun v13 => ldS 0 G G (Rg G) G fun q14 w14 => al zero_126 G fun b4 => ru 1 G<|stW 0 (us := (cDeal ((l.getD i default)))) G G G (Rg G) G G<|nl<|nx<|qg<|ldM 0 (cDeal ((l.getD i default))) G G (Rg G) G G<|cfv (dmay_c _ w14) ok_238 G Sn G<|ru 2 G ?_
   refine jz 18 9 [0,8,9,10] G G (fun h18 K27 => by
    exact rl 5 [0,0] G G<|gY G G G<|cfv (place_c _ _ _ _ w14.1 w14.2.1) ok_221 G (Sc 2 G Sn) G<|ru 1 G<|ru 2 G<|K27 G Sr) ?_
   refine nl<|nx<|cdB G (fun h27 => ?_) (fun h27 => ?_)
   · exact sa 1 G<|rt<|bR<|tR<|tR<|bR<|tR<|dpQ<|fR1 () G G (by rw [dealsP, if_neg (by rw [e7]; decide), allI_false i (by omega) (not_t h27)]; try rfl) G Sn
   ·
    refine sk<|bN<|nx<|rg<|adI G G (inI (by omega) (by omega)) G<|mv G G<|nl<|dpQ ?_
    exact ag (i + 1) ⟨(by omega), (all_snoc hall (not_f h27))⟩ (by omega) (Gs G) G (Sc 2 G Sn)
  · exact ex<|tE<|tE<|bE<|nx<|sa 1 G<|rt<|fR1 () G G (by rw [dealsP, if_neg (by rw [e7]; decide), allI_true (fun j hj => hall j (by omega))]; try rfl) G Sn
theorem rcheck_c (v_l : Value) (l : List TPlace) : FnV Pg 187 [v_l] [⟨v_l, l⟩] (.int .i64 (errF (rplacesP l))) := by
 refine Fnc.proof Tryz.func187 G 68 G G fun X w => sa 1 G<|sq<|qg<|mv G G<|lnP 0 G G Tryz.underlying22 G fun l7 => ru 2 G ?_
 refine jz 9 6 [0] G G (fun h9 K15 => by
  have p9 := of_decide_eq_false h9
  exact ru 1 G<|gY G G G<|ixP 0 G G G slt_22 (by omega) (gE (by omega)) G fun v11 => gY G G G<|faP (α := TPlace) (β := ByteArray) 0 (fun x : TPlace => x.fFrom) G G (Fg G) pPlace_1 G fun v12 => gY G G G<|ldV 0 G G (Og G) G fun w13 => ru 2 G<|K15 G (SubD.tail (SubD.tail Sr))) ?_
 refine nl<|nx<|cdB G (fun h15 => ?_) (fun h15 => ?_)
 ·
  have e15 : (rpl1 l) = true := h15
  exact sa 1 G<|rt<|tR<|fR1 () G G (by rw [rplacesP, if_pos e15]; try rfl) G Sn
 ·
  have e15 : (rpl1 l) = false := h15
  refine sk<|nx<|qg<|al zero_294 G fun b3 => nl<|nx<|sq<|qg<|mv G G<|lnP 0 G G Tryz.underlying22 G fun l17 => mv G G<|nl<|nx<|bk<|lpE (σ := Nat) [(0, _), (3, _), (16, _), (17, _)] _ (fun i C => (18, .int .i64 (i : Int)) :: C) (fun i => [bl b3 294 (seenC l i), fz X w]) (fun _ Dc => Dc) (fun i => i ≤ l.length ∧ (∀ j, j < i → (!rplj l j) = true)) (fun i => l.length - i) 0 (Gs G) (Sc 0 G Sn) ⟨Nat.zero_le _, fun j hj => absurd hj (Nat.not_lt_zero j)⟩ (Gs G) G (Sc 0 G Sn) ?_
  rintro i ⟨hi, hall⟩
  refine sa 1 G<|sq<|cdP G (fun h19 => ?_) (fun h19 => ?_)
  ·
   refine sk<|nx<|sq<|bk<|qg<|mv G G<|ixP 0 G G G slt_22 (by omega) (gE (by omega)) G fun v21 => ldS 0 G G (Rg G) G fun q22 w22 => ?_
   refine al zero_90 G fun b5 => ru 1 G<|stW 0 (us := (cPlace ((l.getD i default)))) G G G (Rg G) G G<|nl<|nx<|sq<|sq<|rgQ mixed (by kernel_rfl)<|rl 2 [0] G G<|cfq (rgroup_c _ w22.1) ok_243 G Sn G<|ru 2 G ?_
   refine jz 27 5 [0,3,4,5,16,17,18] G G (fun h27 K32 => by
    have pg : 1 ≤ (l.getD i default).fGroup ∧ (l.getD i default).fGroup < 8 := by
     have q := h27
     simp only [okGroup, Bool.not_eq_false', Bool.or_eq_false_iff, Bool.and_eq_true, decide_eq_true_eq] at q
     exact q
    exact rl 2 [0] G G<|gY G G G<|ixA G G arr_294 (by omega) (by omega) G<|gY G G G<|ldB 1 G G (Og G) (seen_get (by omega) (by omega)) G<|ru 1 G<|K32 G Sr) ?_
   refine mv G G<|jb 33 4 [0] [0,3,4,5,16,17,18] G G G<|mv G G<|jb 38 4 [0] [0,3,4,5,16,17,18] G G G<|mv G G<|jz 43 5 [0,3,4,5,16,17,18] G G (fun h43 K48 => rl 2 [0] G G<|gY G G G<|lnS G Tryz.underlying9 G<|ru 2 G<|K48 G Sr)<|mv G G ?_
   refine jz 49 14 [0,3,5,16,17,18] G G (fun h49 K63 => by
    have p49 := h49
    try simp only [Bool.or_eq_false_iff, Bool.and_eq_true, decide_eq_true_eq, decide_eq_false_iff_not, Bool.not_eq_true', Bool.not_eq_false'] at p49
    refine ru 3 G ?_
    refine jy 52 10 [0,3,5,16,17,18,49] G G (fun h52 K62 => by
     have p52 := of_decide_eq_true h52
     exact rl 4 [0] G G<|gY G G G<|sbI G G (inI (by omega) (by omega)) G<|gY G G G<|ixP 2 G G G slt_22 (by omega) (gE (by omega)) G fun v58 => gY G G G<|faP (α := TPlace) (β := ByteArray) 0 (fun x : TPlace => x.fFrom) G G (Fg G) pPlace_1 G fun v59 => gY G G G<|ldV 0 G G (Og G) G fun w60 => gY G G G<|leS G G G<|ru 1 G<|K62 G (SubD.tail (SubD.tail Sr))) ?_
    exact ru 1 G<|K63 G Sr) ?_
   refine nlQ<|nx<|cdB G (fun h63 => ?_) (fun h63 => ?_)
   · exact sa 1 G<|rt<|tR<|bR<|tR<|tR<|bR<|tR<|dpQ<|dpQ<|fR1 () G G (by rw [rplacesP, if_neg (by rw [e15]; decide), allI_false i (by omega) (not_t h63)]; try rfl) G Sn
   ·
    have pg : 1 ≤ (l.getD i default).fGroup ∧ (l.getD i default).fGroup < 8 := by
     have q := h63
     simp only [okGroup, Bool.not_eq_false', Bool.or_eq_false_iff, Bool.and_eq_true, decide_eq_true_eq] at q
     exact q.1.1.1.1.1
    refine sk<|nx<|rg<|rl 2 [0] G G<|ixA G G arr_294 (by omega) (by omega) G<|stB 1 G G G (Og G) G (by rw [seen_len]; omega)<|nl<|bN<|nx<|rg<|adI G G (inI (by omega) (by omega)) G<|mv G G<|nl<|dpQ ?_
    exact ag (i + 1) ⟨(by omega), (all_snoc hall (not_f h63))⟩ (by omega) (Gs G) (by rw [← seen_set (l := l) (i := i) (by omega) (by omega)]; rfl) (Sc 2 G Sn)
  · exact ex<|tE<|tE<|bE<|nx<|sa 1 G<|rt<|dpQ<|fR1 () G G (by rw [rplacesP, if_neg (by rw [e15]; decide), allI_true (fun j hj => hall j (by omega))]; try rfl) G Sn
end Go.Proofs.YtmpoffijcfaalaaGreat
namespace Go.YtmpoffijcfaalaaGreat
open Go.Eng
theorem pigeon : ∀ (n : Nat) (m : Nat) (f : Nat → Nat), (∀ i, i < m → f i < n) → (∀ i j, i < m → j < m → f i = f j → i = j) → m ≤ n
 | 0, m, f, hf, _ => by
  rcases Nat.eq_zero_or_pos m with h | h
  · omega
  · exact absurd (hf 0 h) (by omega)
 | n + 1, m, f, hf, hi => by
  by_cases h : ∃ i, i < m ∧ f i = n
  · obtain ⟨i0, h0, e0⟩ := h
    have := pigeon n (m - 1) (fun i => if i < i0 then f i else f (i + 1)) (fun i him => by
     have a1 := hf i (by omega)
     have a2 := hf (i + 1) (by omega)
     show (if i < i0 then f i else f (i + 1)) < n
     split
     · rename_i hlt
       have : f i ≠ n := fun e => by have := hi i i0 (by omega) h0 (by rw [e, e0]); omega
       omega
     · rename_i hlt
       have : f (i + 1) ≠ n := fun e => by have := hi (i + 1) i0 (by omega) h0 (by rw [e, e0]); omega
       omega) (fun i j him hjm e => by
     have e : (if i < i0 then f i else f (i + 1)) = (if j < i0 then f j else f (j + 1)) := e
     split at e <;> split at e
     · exact hi i j (by omega) (by omega) e
     · have := hi i (j + 1) (by omega) (by omega) e; omega
     · have := hi (i + 1) j (by omega) (by omega) e; omega
     · have := hi (i + 1) (j + 1) (by omega) (by omega) e; omega)
    omega
  · have := pigeon n m f (fun i him => by
     have a1 := hf i him
     have : f i ≠ n := fun e => h ⟨i, him, e⟩
     omega) hi
    omega
theorem seen_iff {l : List TPlace} {g : Nat} : ∀ {i : Nat}, seenB l i g = true ↔ ∃ k, k < i ∧ (l.getD k default).fGroup = (g : Int)
 | 0 => by simp [seenB]
 | i + 1 => by
  rw [seenB, Bool.or_eq_true, seen_iff, decide_eq_true_eq]
  constructor
  · rintro (⟨k, hk, e⟩ | e)
    · exact ⟨k, by omega, e⟩
    · exact ⟨i, by omega, e⟩
  · rintro ⟨k, hk, e⟩
    rcases Nat.lt_or_ge k i with h | h
    · exact .inl ⟨k, h, e⟩
    · right
      have : k = i := by omega
      subst this
      exact e
theorem rplaces_len {l : List TPlace} (h : rplacesP l = true) : l.length ≤ 7 := by
 unfold rplacesP at h
 split at h
 · cases h
 · have hj : ∀ j, j < l.length → okGroup (l.getD j default).fGroup = true ∧ seenB l j (l.getD j default).fGroup.toNat = false := fun j hj => by
    have := allI_iff.1 h j hj
    simp only [Bool.not_eq_true', rplj, Bool.or_eq_false_iff, Bool.not_eq_false'] at this
    exact ⟨this.1.1.1.1.1, this.1.1.1.1.2⟩
   have hg : ∀ j, j < l.length → (l.getD j default).fGroup ≥ 1 ∧ (l.getD j default).fGroup < 8 := fun j hjl => by
    have := (hj j hjl).1
    simpa only [okGroup, Bool.and_eq_true, decide_eq_true_eq] using this
   have hs : ∀ i j, i < j → j < l.length → (l.getD i default).fGroup ≠ (l.getD j default).fGroup := fun i j hij hjl e => by
    have h2 := (hj j hjl).2
    rw [← Bool.not_eq_true, seen_iff] at h2
    have := hg j hjl
    exact h2 ⟨i, hij, by omega⟩
   refine pigeon 7 l.length (fun i => (l.getD i default).fGroup.toNat - 1) (fun i hi => ?_) (fun i j hi hjl ee => ?_)
   · have := hg i hi
     show (l.getD i default).fGroup.toNat - 1 < 7
     omega
   · have gi := hg i hi
     have gj := hg j hjl
     have ee : (l.getD i default).fGroup.toNat - 1 = (l.getD j default).fGroup.toNat - 1 := ee
     have ei : (l.getD i default).fGroup = (l.getD j default).fGroup := by omega
     rcases Nat.lt_trichotomy i j with hlt | hlt | hlt
     · exact absurd ei (hs i j hlt hjl)
     · exact hlt
     · exact absurd ei.symm (hs j i hlt hi)
end Go.YtmpoffijcfaalaaGreat
namespace Go.Proofs.YtmpoffijcfaalaaGreat.Ep
open Go.Eng Go.YtmpoffijcfaalaaGreat Go.RowKit
theorem ok_231 : FnOk Pg 231 := ⟨⟨_, Tryz.func231, by kernel_rfl, rfl⟩⟩
theorem ok_280 : FnOk Pg 280 := ⟨⟨_, Tryz.func280, by kernel_rfl, rfl⟩⟩
theorem zero_3 : ZeroOf Tryz.prog 3 [.int .i64 0] := ZeroOf.mk (by kernel_rfl)
def mx (pre : List (ByteArray × TPlace)) : Int := pre.foldl (fun m x => max m x.2.fEpoch) 0
theorem mx_snoc (pre : List (ByteArray × TPlace)) (x : ByteArray × TPlace) : mx (pre ++ [x]) = max (mx pre) x.2.fEpoch := by simp [mx, List.foldl_append]
theorem mx_upto (l : List TPlace) : ∀ k, mx (upto l k) = maxI (fun j => (l.getD j default).fEpoch) k
 | 0 => rfl
 | k + 1 => by rw [upto_succ, mx_snoc, mx_upto l k]; rfl
theorem mx_all (l : List TPlace) : mx (upto l l.length) = epochP l := mx_upto l _
structure Inv (w0 w1 : World) (b3 : Nat) (pre : List (ByteArray × TPlace)) (W : World) : Prop where
 box : W.heap[b3]? = some (.cells #[.int .i64 (mx pre)] 3 (0, 0))
 size : w1.heap.size ≤ W.heap.size
 stp : Stp [] w0 W
structure InA (w1 : World) (b3 : Nat) (x : ByteArray × TPlace) (a : Act) (W : World) : Prop where
 ex : ∃ B5, w1.heap.size ≤ B5 ∧ W.heap[B5]? = some (.cells (cPlace x.2).toArray 90 (0, 0)) ∧ Fr 15 a [(5, .pointer (some ⟨B5, 0, none⟩)), (3, .pointer (some ⟨b3, 0, none⟩))]
theorem inv_own {w0 w1 : World} {b3 : Nat} (hb : b3 < w1.heap.size) (h01 : w0.heap.size ≤ w1.heap.size) : OwnFrom w1.heap.size (Inv w0 w1 b3) := fun s W W' row hs hg hr => by
 have hne : ∀ k, k < w1.heap.size → some k ≠ row := fun k hk e => by
  have := (hr k e.symm).1
  omega
 have keep : ∀ k, k < w1.heap.size → W'.heap[k]? = W.heap[k]? := fun k hk => hg.block k (Nat.lt_of_lt_of_le hk hs.size) (hne k hk)
 exact ⟨(keep b3 hb).trans hs.box, Nat.le_trans hs.size hg.size, ⟨hg.os.trans hs.stp.os, hg.tape.trans hs.stp.tape, hg.output.trans hs.stp.output, Nat.le_trans hs.stp.size hg.size, fun k hk hx => (keep k (Nat.lt_of_lt_of_le hk h01)).trans (hs.stp.block k hk hx)⟩⟩
theorem ina_own {w1 : World} {b3 : Nat} (x : ByteArray × TPlace) (a : Act) : OwnFrom w1.heap.size (fun (_ : Unit) W => InA w1 b3 x a W) := fun _ W W' row hs hg hr => by
 obtain ⟨B5, h1, h2, h3⟩ := hs.ex
 refine ⟨B5, h1, (hg.block B5 (Array.getElem?_eq_some_iff.1 h2).1 fun e => ?_).trans h2, h3⟩
 obtain ⟨_, o, ho, hc⟩ := hr B5 e.symm
 rw [h2] at ho
 cases ho
 cases hc
theorem inv_st {w0 w1 W : World} {b3 : Nat} {pre : List (ByteArray × TPlace)} (h : Inv w0 w1 b3 pre W) : St W [b3] W [bl b3 3 [.int .i64 (mx pre)]] := ⟨Stp.refl _ _, fun p hp => by
 have : p = bl b3 3 [.int .i64 (mx pre)] := by simpa using hp
 subst this
 exact h.box, by simp [Own.bs, bsOf], fun b hb => .inl (by simpa [Own.bs, bsOf] using hb)⟩
theorem inv_st2 {w0 w1 W : World} {b3 B5 : Nat} {pre : List (ByteArray × TPlace)} {p : TPlace} (h : Inv w0 w1 b3 pre W) (hb : b3 < w1.heap.size) (h5 : w1.heap.size ≤ B5) (hp : W.heap[B5]? = some (.cells (cPlace p).toArray 90 (0, 0))) :
  St W [b3, B5] W [bl B5 90 (cPlace p), bl b3 3 [.int .i64 (mx pre)]] := ⟨Stp.refl _ _, fun q hq => by
 have : q = bl B5 90 (cPlace p) ∨ q = bl b3 3 [.int .i64 (mx pre)] := by simpa using hq
 rcases this with rfl | rfl
 · exact hp
 · exact h.box, by simp [Own.bs, bsOf]; omega, fun b hb => .inl (by simpa [Own.bs, bsOf, or_comm] using hb)⟩
theorem stp_old {w0 w1 W W' : World} {M : List Nat} (h : Stp [] w0 W) (hs : Stp M W W') (hM : ∀ k ∈ M, w0.heap.size ≤ k) : Stp [] w0 W' :=
 ⟨hs.os.trans h.os, hs.tape.trans h.tape, hs.output.trans h.output, Nat.le_trans h.size hs.size, fun k hk hx => (hs.block k (Nat.lt_of_lt_of_le hk h.size) (fun hm => by have := hM k hm; omega)).trans (h.block k hk hx)⟩
theorem stp_keeps {W W' : World} {M : List Nat} {B : Nat} (hs : Stp M W W') (hM : ∀ k ∈ M, B ≤ k → ∃ c t p, W.heap[k]? = some (.cells c t p)) : KeepsFrom B W W' :=
 ⟨hs.size, fun k o hB hk ho => (hs.block k (Array.getElem?_eq_some_iff.1 hk).1 fun hm => by
  obtain ⟨c, t, p, h⟩ := hM k hm hB
  rw [hk] at h
  cases h
  cases ho).trans hk⟩
theorem seq_c (m : Nat) {w1 : World} {b1 b3 : Nat} {k5 : Value} {l : List TPlace} (hb1 : b1 < w1.heap.size) (hne : b1 ≠ b3) (box : w1.heap[b1]? = some (.cells #[k5] 22 (0, 0)))
  (hl : Atom.holds ⟨k5, l⟩ (fun b => b < w1.heap.size ∧ b ≠ b1 ∧ b ≠ b3) w1) (hlen : l.length ≤ 7) :
  SeqStopsK Fence.wide m Tryz.prog 280 #[.pointer (some ⟨b1, 0, none⟩)] encs (KB w1.heap.size b3) (fun xs => xs = upto l l.length) (fun _ => True) l.length w1 := by
 intro ll J Jx W hB hJ hJx hY h0
 refine callsIn_wide.2 (Calls.mono (iter m ll J Jx W b1 b3 w1.heap.size k5 l hb1 hne hB.size ((hB.block b1 hb1).trans box) (Atom.keep hl (fun _ h => h) (fun b h => hB.block b h.1)) hlen hJ hJx hY h0) ?_)
 rintro e w' ⟨v, rfl, h⟩
 refine ⟨⟨v, G⟩, ?_⟩
 rcases h with h | ⟨k, hk, h⟩
 · exact .inl ⟨_, G, h⟩
 · exact .inr ⟨_, trivial, h⟩
end Go.Proofs.YtmpoffijcfaalaaGreat.Ep
namespace Go.Proofs.YtmpoffijcfaalaaGreat
open Go.Eng Go.YtmpoffijcfaalaaGreat Go.RowKit Ep
theorem epoch_c (v_l : Value) (l : List TPlace) (hlen : l.length ≤ 7) : FnV Pg 172 [v_l] [⟨v_l, l⟩] (.int .i64 (epochP l)) := by
 refine FnV.proofM 2 Tryz.func172 G 15 G G fun w0 => sa 1 G<|qg<|al Ep.zero_3 G fun b3 => stB 0 G G G (Og G) G (nlt G)<|nl<|nx<|sq<|qg<|mv G G<|cf (all_c v_l l hlen) ok_231 G (Sc 0 G Sn) G fun y v7 hv => ?_
 obtain ⟨b1, k5⟩ := y
 subst hv
 refine nl<|nx<|bk ?_
 intro a w1 f st dh
 have hbox1 : w1.heap[b1]? = some (.cells #[k5] 22 (0, 0)) := bl_at 0 rfl st
 have hbox3 : w1.heap[b3]? = some (.cells #[.int .i64 0] 3 (0, 0)) := bl_at 1 rfl st
 have hb1 : b1 < w1.heap.size := lt_of_heap hbox1
 have hb3 : b3 < w1.heap.size := lt_of_heap hbox3
 have hnd := st.nd
 have hne : b1 ≠ b3 := by simpa [Own.bs, bsOf] using hnd
 have hnew3 : w0.heap.size ≤ b3 := by simpa using st.new b3 (by simp [Own.bs, bsOf])
 have hl : Atom.holds ⟨k5, l⟩ (fun b => b < w1.heap.size ∧ b ≠ b1 ∧ b ≠ b3) w1 := Atom.keep (dh ⟨k5, l⟩ (by simp)) (fun b h => ⟨h.1, by simpa [Own.bs, bsOf] using h.2⟩) (fun _ _ => rfl)
 have hs0 : Stp [] w0 w1 := st.stp
 refine (wpIn_wide (n := 2)).1 (wpIn_rangeFunc_ownH (gf := 280) (lb := #[.pointer (some ⟨b1, 0, none⟩)]) (encs := encs) (Kp := KB w1.heap.size b3) (S := fun xs => xs = upto l l.length) (Sp := fun _ => True) (N := l.length) (w0 := w1) G (by decide) (f.ev G) trivial (run_callFunc ok_280)
  (seq_c _ hb1 hne hbox1 hl hlen) (fun h k => h.trans k) (fun W ll o o' h _ _ _ => KB.putObj h) (Below.refl _ _) (fun _ => rfl) (Inv w0 w1 b3) (fun _ _ _ => False) (inv_own hb3 hs0.size) (fun _ _ _ _ _ h => h.elim) ⟨hbox3, Nat.le_refl _, hs0⟩ (InA w1 b3) (fun x a => ina_own x a) ?_ ?_ ?_ ?_)
 ·
  intro ll pre x W K hI hK
  refine round_region (K := K) G (fun _ _ h => h) ?_
  refine (show WL _ ⟨Tryz.prog, 15, W, [b3]⟩ _ _ [(9, .agg (cPlace x.2).toArray), (3, .pointer (some ⟨b3, 0, none⟩))] [bl b3 3 [.int .i64 (mx pre)]] [] from ?_) _ W (((f.round2 (p := 8) (q := 9) (show 8 < 15 by decide) (show 9 < 15 by decide) (.string x.1) (.agg (cPlace x.2).toArray))).sub (Gs G)) (inv_st hI) DH.nil
  refine al zero_90 G fun b5 => stW 0 (us := cPlace x.2) G G G (Rg G) G G<|nl ?_
  intro a' w' f' st' dh'
  have h5 : w'.heap[b5]? = some (.cells (cPlace x.2).toArray 90 (0, 0)) := bl_at 0 rfl st'
  have h3 : w'.heap[b3]? = some (.cells #[.int .i64 (mx pre)] 3 (0, 0)) := bl_at 1 rfl st'
  have hn5 : b5 ≠ b3 := by simpa [Own.bs, bsOf] using st'.nd
  have hge : W.heap.size ≤ b5 := by
   rcases st'.new b5 (by simp [Own.bs, bsOf]) with h | h
   · exact absurd (by simpa using h) hn5
   · exact h
  have hs : Stp [b3] W w' := st'.stp
  refine ⟨G, hK a' w' (stp_keeps hs fun k hk hB => ?_) (hs.kb hI.size fun k _ hk => by simpa using hk) ⟨h3, Nat.le_trans hI.size hs.size, stp_old (w1 := w1) hI.stp hs fun k hk => ?_⟩ ⟨b5, Nat.le_trans hI.size hge, h5, f'.sub (Gs G)⟩⟩
  ·
   have : k = b3 := by simpa using hk
   omega
  ·
   have : k = b3 := by simpa using hk
   omega
 ·
  rintro ll pre x a' W hll hr hI ⟨B5, hB5, hp5, f'⟩ hlenp
  refine wpIn_block (round_region (K := fun a W' => ownPostG w1.heap.size (KB w1.heap.size b3) (Inv w0 w1 b3) (fun _ _ _ => False) (pre ++ [x]) W .normal a W') G (fun _ _ h => h) ?_)
  refine (show WL _ ⟨Tryz.prog, 15, W, [b3, B5]⟩ _ _ [(5, .pointer (some ⟨B5, 0, none⟩)), (3, .pointer (some ⟨b3, 0, none⟩))] [bl B5 90 (cPlace x.2), bl b3 3 [.int .i64 (mx pre)]] [] from ?_) _ W f' (inv_st2 hI hb3 hB5 hp5) DH.nil
  refine rl 3 [1,0] G G<|mxI G G G G<|stB 1 G G G (Og G) G (nlt G)<|nl ?_
  intro a2 w2 f2 st2 dh2
  have h3 : w2.heap[b3]? = some (.cells #[.int .i64 (max (mx pre) x.2.fEpoch)] 3 (0, 0)) := bl_at 1 rfl st2
  have hs : Stp [b3, B5] W w2 := st2.stp
  refine ⟨G, stp_keeps hs fun k hk hB => ?_, hs.kb hI.size fun k hk1 hk => ?_, ⟨by rw [mx_snoc]; exact h3, Nat.le_trans hI.size hs.size, stp_old (w1 := w1) hI.stp hs fun k hk => ?_⟩⟩
  ·
   have : k = b3 ∨ k = B5 := by simpa using hk
   rcases this with rfl | rfl
   · exact ⟨_, _, _, hI.box⟩
   · exact ⟨_, _, _, hp5⟩
  ·
   have : k = b3 ∨ k = B5 := by simpa using hk
   omega
  ·
   have : k = b3 ∨ k = B5 := by simpa using hk
   have := hs0.size
   omega
 ·
  intro D xs W hD hS hI hK
  subst hS
  have h3 := hI.box
  rw [mx_all] at h3
  obtain ⟨A, hA⟩ : ∃ A : Act, A = { a with defers := { target := .collected D, args := #[] } :: a.defers } := ⟨_, rfl⟩
  have e3 : A.eval (.tmp 3) = .pointer (some ⟨b3, 0, none⟩) := by rw [hA]; exact f.ev (x := .tmp 3) (v := .pointer (some ⟨b3, 0, none⟩)) rfl
  have eD : A.defers = [{ target := .collected D, args := #[] }] := by rw [hA]; simp [f.dn]
  have eN : A.tmps.size = 15 := by rw [hA]; exact f.size
  rw [← hA]
  refine (show Code.wp Tryz.prog _ _ _ _ from ?_)
  refine wp_seq<|wp_region_lit<|wpList_val (v := .int .i64 (epochP l)) G ?_ ?_
  ·
   have := run_loadAt1 (P := Tryz.prog) one_3 (a := ⟨b3, 0, none⟩) (v := .int .i64 (epochP l)) (w := W) (by rw [cell_of_row W b3 0 _ 3 (0, 0) h3]; rfl)
   simp [execOp, e3, this]
  refine wpList_val (v := .int .i64 (epochP l)) G ?_ ?_
  ·
   simp [execOp, Act.put, Act.eval, eN]
  refine wpList_nil ?_
  refine (show Code.wp Tryz.prog _ _ _ _ from ?_)
  refine wp_ret ?_
  refine (show LeavesInM Fence.wide 2 Tryz.prog _ _ _ A.defers .returning W from ?_)
  rw [eD]
  refine ⟨by simp, .inl ⟨_, _, G, run_takeDeferred hK, ?_⟩⟩
  refine ⟨_, results_tmp G _ _ _, _, G, ?_, ?_⟩
  ·
   simp [Act.put, eN]
  ·
   exact stp_old (w1 := w1) (hI.stp) (W' := W.putObj D (.deferred none)) (M := [D]) ⟨G, G, G, by simp [World.putObj], fun k hk hx => World.putObj_heap_other (by simpa using hx)⟩ (fun k hk => by
    have : k = D := by simpa using hk
    have := hs0.size
    omega)
 ·
  intro D c pre W hD _ h
  exact h.elim
end Go.Proofs.YtmpoffijcfaalaaGreat
namespace Go.Proofs.YtmpoffijcfaalaaGreat
open Go.Eng
theorem fld_24_5 : FieldAt Tryz.prog 24 5 5 := FieldAt.mk Tryz.underlying24 rfl (by kernel_rfl) rfl
theorem fld_24_6 : FieldAt Tryz.prog 24 6 6 := FieldAt.mk Tryz.underlying24 rfl (by kernel_rfl) rfl
theorem ok_116 : FnOk Pg 116 := ⟨⟨_, Tryz.func116, by kernel_rfl, rfl⟩⟩
theorem ok_117 : FnOk Pg 117 := ⟨⟨_, Tryz.func117, by kernel_rfl, rfl⟩⟩
theorem ok_123 : FnOk Pg 123 := ⟨⟨_, Tryz.func123, by kernel_rfl, rfl⟩⟩
theorem ok_126 : FnOk Pg 126 := ⟨⟨_, Tryz.func126, by kernel_rfl, rfl⟩⟩
theorem ok_127 : FnOk Pg 127 := ⟨⟨_, Tryz.func127, by kernel_rfl, rfl⟩⟩
theorem ok_128 : FnOk Pg 128 := ⟨⟨_, Tryz.func128, by kernel_rfl, rfl⟩⟩
theorem ok_129 : FnOk Pg 129 := ⟨⟨_, Tryz.func129, by kernel_rfl, rfl⟩⟩
theorem ok_172 : FnOk Pg 172 := ⟨⟨_, Tryz.func172, by kernel_rfl, rfl⟩⟩
theorem ok_173 : FnOk Pg 173 := ⟨⟨_, Tryz.func173, by kernel_rfl, rfl⟩⟩
theorem ok_182 : FnOk Pg 182 := ⟨⟨_, Tryz.func182, by kernel_rfl, rfl⟩⟩
theorem ok_187 : FnOk Pg 187 := ⟨⟨_, Tryz.func187, by kernel_rfl, rfl⟩⟩
theorem ok_188 : FnOk Pg 188 := ⟨⟨_, Tryz.func188, by kernel_rfl, rfl⟩⟩
theorem ok_189 : FnOk Pg 189 := ⟨⟨_, Tryz.func189, by kernel_rfl, rfl⟩⟩
theorem ok_190 : FnOk Pg 190 := ⟨⟨_, Tryz.func190, by kernel_rfl, rfl⟩⟩
theorem ok_191 : FnOk Pg 191 := ⟨⟨_, Tryz.func191, by kernel_rfl, rfl⟩⟩
theorem ok_192 : FnOk Pg 192 := ⟨⟨_, Tryz.func192, by kernel_rfl, rfl⟩⟩
theorem ok_244 : FnOk Pg 244 := ⟨⟨_, Tryz.func244, by kernel_rfl, rfl⟩⟩
theorem ok_245 : FnOk Pg 245 := ⟨⟨_, Tryz.func245, by kernel_rfl, rfl⟩⟩
theorem ok_35 : FnOk Pg 35 := ⟨⟨_, Tryz.func35, by kernel_rfl, rfl⟩⟩
theorem ok_39 : FnOk Pg 39 := ⟨⟨_, Tryz.func39, by kernel_rfl, rfl⟩⟩
theorem one_22 : OneTy Tryz.prog 22 := ⟨⟨_, Tryz.underlying22, rfl⟩, by kernel_rfl⟩
theorem one_25 : OneTy Tryz.prog 25 := ⟨⟨_, Tryz.underlying25, rfl⟩, by kernel_rfl⟩
theorem zero_24 : ZeroOf Tryz.prog 24 [.int .i64 0, .int .i64 0, .int .i64 0, .string ByteArray.empty, .string ByteArray.empty, .int .i64 0, .int .i64 0] := ZeroOf.mk (by kernel_rfl)
end Go.Proofs.YtmpoffijcfaalaaGreat
