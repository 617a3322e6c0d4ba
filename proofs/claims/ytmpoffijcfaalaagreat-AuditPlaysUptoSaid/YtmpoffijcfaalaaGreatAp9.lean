/- Part 9 of auditPlays_holds. -/
import Derived.Test.YtmpoffijcfaalaaGreatAp8

set_option maxRecDepth 20000
set_option maxHeartbeats 1000000
namespace Go.Proofs.YtmpoffijcfaalaaGreat
open Go.Eng Go.YtmpoffijcfaalaaGreat
theorem dmay_c (d : TDeal) (h_d : d.wf) : FnV Pg 238 [.agg (cDeal d).toArray] [] (.bool (dmayP d)) := by
 refine Fnc.proof Tryz.func238 G 82 G G fun X w => qg<|bx G G G fun b1 => ru 1 G<|nl<|nx<|sq<|qg<|rl 4 [0,0] G G<|cfv (dwhose_c _ _ h_d.1 h_d.2.1) (Kg G) G Sn G<|ru 2 G<|jb 10 4 [0] [1] G G G<|mv G G<|jb 15 6 [0,0] [1] G G G<|mv G G<|jb 22 4 [0] [1] G G G<|mv G G<|jb 27 4 [0] [1] G G G<|mv G G<|jb 32 4 [0] [1] G G G<|mv G G<|jb 37 4 [0] [1] G G G<|nl<|nx<|cdB G (fun h41 => ?_) (fun h41 => ?_)
 ·
  have e41 : (dmay1 d) = true := h41
  exact sa 1 G<|rt<|tR<|dpQ<|fR1 () G G (by rw [dmayP, e41]; try rfl) G Sn
 ·
  have e41 : (dmay1 d) = false := h41
  refine sk<|nx<|sq<|qg<|rl 2 [0] G G<|lnS G Tryz.underlying9 G<|ru 2 G ?_
  refine jz 46 5 [1] G G (fun h46 K51 => by
   have p46 := of_decide_eq_false h46
   exact rl 2 [0] G G<|gY G G G<|lnS G Tryz.underlying9 G<|ru 2 G<|K51 G Sr) ?_
  refine mv G G<|jz 52 5 [1] G G (fun h52 K57 => rl 2 [0] G G<|gY G G G<|lnS G Tryz.underlying9 G<|ru 2 G<|K57 G Sr)<|mv G G<|jz 58 5 [1] G G (fun h58 K63 => rl 2 [0] G G<|gY G G G<|lnS G Tryz.underlying9 G<|ru 2 G<|K63 G Sr)<|nl<|nx<|cdB G (fun h63 => ?_) (fun h63 => ?_)
  ·
   have e63 : (dmay2 d) = true := h63
   exact sa 1 G<|rt<|tR<|dpQ<|fR1 () G G (by rw [dmayP, e41, e63]; try rfl) G Sn
  ·
   have e63 : (dmay2 d) = false := h63
   refine sk<|nx<|qg<|rl 4 [0,0] G G<|cfv (fate_c _ _ h_d.2.2.2.2.2.1 h_d.2.2.2.2.2.2.1) (Kg G) G Sn G<|ru 1 G<|nl<|nx<|qg<|rl 5 [0] G G ?_
   refine jz 73 8 [] G G (fun h73 K81 => by
    have p73 := of_decide_eq_false h73
    exact ru 3 G<|ja 76 4 [0] [73] G G G<|ru 1 G<|K81 G Sr) ?_
   exact ru 1 G<|nl<|nx<|rt<|dpQ<|fR1 () G G (by rw [dmayP, e41, e63]; try rfl) G Sn
theorem owned_c (s : TState) (s_0 s_1 s_2 s_3 s_4 s_5 : Value) (h_s : s.wf) : FnV Pg 180 [.agg (cState s s_0 s_1 s_2 s_3 s_4 s_5).toArray] [⟨s_0, s.fAccounts⟩, ⟨s_1, s.fMarks⟩, ⟨s_2, s.fWaits⟩, ⟨s_3, s.fDeals⟩, ⟨s_4, s.fEnds⟩, ⟨s_5, s.fImage⟩] (.bool (ownedP s)) := by
 refine Fnc.proof Tryz.func180 G 42 G G fun X w => qg<|bx G G G fun b1 => ru 1 G<|nl<|nx<|sq<|sb 3 [0] G G<|cdB G (fun h5 => ?_) (fun h5 => ?_)
 ·
  have e5 : (!s.fOwns) = true := h5
  exact qg<|rl 4 [0] G G<|ja 9 4 [0] [1] G G G<|mv G G<|jy 14 5 [1] G G (fun h14 K19 => rl 2 [0] G G<|gY G G G<|lnP 0 G G Tryz.underlying50 G fun l17 => ru 2 G<|K19 G Sr)<|mv G G<|jy 20 5 [1] G G (fun h20 K25 => rl 2 [0] G G<|gY G G G<|lnP 2 G G Tryz.underlying51 G fun l23 => ru 2 G<|K25 G Sr)<|mv G G<|jy 26 5 [] G G (fun h26 K31 => ru 1 G<|gY G G G<|ldM 0 (cPlan s.fSeal) G G (Rg G) G G<|gY G G G<|bd (ps := []) (cs := (cPlan (pZ))) (by rfl) (by kernel_rfl) G<|gY G G G<|eqT eq_Plan (s.fSeal) (pZ) G G G<|ru 1 G<|K31 G Sr)<|ru 1 G<|nl<|nx<|rt<|tR<|dpQ<|fR1 () G G (by rw [ownedP, e5]; try rfl) G Sn
 ·
  have e5 : (!s.fOwns) = false := h5
  refine sk<|nx<|qg<|rl 4 [0] G G ?_
  refine jy 35 6 [] G G (fun h35 K41 => by
   have p35 := of_decide_eq_true h35
   exact rl 4 [0,0] G G<|gY G G G<|cfv (spans_c _ _) (Kg G) G Sn G<|ru 1 G<|K41 G Sr) ?_
  exact ru 1 G<|nl<|nx<|rt<|dpQ<|fR1 () G G (by rw [ownedP, e5]; try rfl) G Sn
theorem waiting_c (s : TState) (s_0 s_1 s_2 s_3 s_4 s_5 : Value) (wt : TWait) (h_s : s.wf) (h_wt : wt.wf) : FnV Pg 185 [.agg (cState s s_0 s_1 s_2 s_3 s_4 s_5).toArray, .agg (cWait wt).toArray] [⟨s_0, s.fAccounts⟩, ⟨s_1, s.fMarks⟩, ⟨s_2, s.fWaits⟩, ⟨s_3, s.fDeals⟩, ⟨s_4, s.fEnds⟩, ⟨s_5, s.fImage⟩] (.bool (waitP s wt)) := by
 refine Fnc.proof Tryz.func185 G 100 G G fun X w => qg<|bx G G G fun b2 => bx G G G fun b3 => ru 1 G<|nl<|nx<|sq<|qg<|rl 3 [0] G G<|rl 1 [0] G G<|cfv (swhose_c _ _ h_wt.2.1 h_wt.2.2.1) (Kg G) G Sn G<|ru 2 G<|jz 12 6 [2,3] G G (fun h12 K18 => rl 3 [0] G G<|gY G G G<|cfv (skeyed_c _) (Kg G) G Sn G<|ru 2 G<|K18 G Sr)<|mv G G<|jz 19 7 [2,3] G G (fun h19 K26 => gY G G G<|ldM 1 (cState s s_0 s_1 s_2 s_3 s_4 s_5) G G (Rg G) G G<|rl 3 [0] G G<|gY G G G<|cfv (owns_c _ _ _ _ _ _ _ _ h_s) (Kg G) G (Si [0,1,2,3,4,5] G) G<|ru 2 G<|K26 G Sr)<|mv G G<|jz 27 6 [3] G G (fun h27 K33 => gY G G G<|ldM 1 (cState s s_0 s_1 s_2 s_3 s_4 s_5) G G (Rg G) G G<|rl 3 [0] G G<|gY G G G<|cfv (sealed_c _ _ _ _ _ _ _ _ h_s) (Kg G) G (Si [0,1,2,3,4,5] G) G<|ru 1 G<|K33 G Sr)<|nl<|nx<|cdB G (fun h33 => ?_) (fun h33 => ?_)
 ·
  have e33 : (waitP0 s wt) = true := h33
  exact sa 1 G<|rt<|tR<|dpQ<|dpQ<|fR1 () G G (by rw [waitP, e33]; try rfl) G Sn
 ·
  have e33 : (waitP0 s wt) = false := h33
  refine sk<|nx<|sq<|sb 2 [0] G G<|bk<|sa 2 G<|cdP G (fun h36 => ?_) (fun h36 => ?_)
  ·
   have e36 : (decide (wt.fKind = 1)) = true := (decide_eq_true h36)
   refine sb 4 [0] G G<|qg<|rl 4 [0] G G<|ja 44 4 [0] [3,5] G G G<|mv G G<|ja 49 4 [0] [3,5] G G G<|mv G G<|ja 54 3 [] [3,5] G G G<|mv G G<|ja 58 3 [] [3,5] G G G<|mv G G ?_
   refine jy 62 9 [] G G (fun h62 K71 => by
    exact ru 3 G<|jb 65 5 [0] [62] G G G<|ru 1 G<|K71 G Sr) ?_
   exact ru 1 G<|nl<|nx<|rt<|bR<|tR<|dpQ<|dpQ<|fR1 () G G (by rw [waitP, e33, e36]; try rfl) G Sn
  ·
   have e36 : (decide (wt.fKind = 1)) = false := (decide_eq_false h36)
   refine sa 2 G<|cdP G (fun h72 => ?_) (fun h72 => ?_)
   ·
    have e72 : (decide (wt.fKind = 2)) = true := (decide_eq_true h72)
    refine qg<|rl 4 [0] G G ?_
    refine jy 77 4 [3] G G (fun h77 K81 => by
     have p77 := of_decide_eq_true h77
     exact rl 2 [0] G G<|gY G G G<|cfv (sgroup_c _ h_wt.2.2.2.2.1) (Kg G) G Sn G<|ru 1 G<|K81 G Sr) ?_
    refine mv G G<|ja 82 5 [0] [3] G G G<|mv G G ?_
    refine jy 88 11 [] G G (fun h88 K99 => by
     exact ru 1 G<|gY G G G<|ldM 0 (cOp wt.fOp) G G (Rg G) G G<|rl 5 [0] G G<|rl 1 [0] G G<|gY G G G<|bd (ps := [(1, .tmp 93), (3, .tmp 96)]) (cs := (cOp ((⟨0, wt.fOp.fKey, ByteArray.empty, wt.fOp.fN, 0, 0⟩ : TOp)))) (by rfl) (by kernel_rfl) G<|gY G G G<|eqT eq_Op (wt.fOp) ((⟨0, wt.fOp.fKey, ByteArray.empty, wt.fOp.fN, 0, 0⟩ : TOp)) G G G<|ru 1 G<|K99 G Sr) ?_
    exact ru 1 G<|nl<|nx<|rt<|bR<|tR<|dpQ<|dpQ<|fR1 () G G (by rw [waitP, e33, e36, e72]; try rfl) G Sn
   ·
    have e72 : (decide (wt.fKind = 2)) = false := (decide_eq_false h72)
    exact sk<|bN<|nx<|sa 1 G<|rt<|dpQ<|dpQ<|fR1 () G G (by rw [waitP, e33, e36, e72]; try rfl) G Sn
theorem holders_c (v_l : Value) (l : List THolder) : FnV Pg 223 [v_l] [⟨v_l, l⟩] (.bool (holdersP l)) := by
 refine Fnc.proof Tryz.func223 G 39 G G fun X w => sa 1 G<|sa 1 G<|sq<|qg<|mv G G<|lnP 0 G G Tryz.underlying66 G fun l7 => mv G G<|nl<|nx<|bk<|lpC (σ := Nat) [(6, _), (7, _)] _ (fun i C => (8, .int .i64 (i : Int)) :: (3, .int .i64 (prevI (fun k => (l.getD k default).fNode) i)) :: C) (fun i => i ≤ l.length ∧ (∀ j, j < i → (!holdP (prevI (fun k => (l.getD k default).fNode) j) (l.getD j default)) = true)) (fun i => l.length - i) 0 (Gs G) (Sc 0 G Sn) ⟨Nat.zero_le _, fun j hj => absurd hj (Nat.not_lt_zero j)⟩ (Gs G) ?_
 rintro i ⟨hi, hall⟩
 refine sa 1 G<|sq<|cdP G (fun h9 => ?_) (fun h9 => ?_)
 ·
  refine sk<|nx<|sq<|bk<|qg<|ixQ 0 G G G slt_66 G fun v10 => ldS 0 G G (Rg G) G fun q11 w11 => al zero_165 G fun b5 => stW 0 (us := (cHolder ((l.getD i default)))) G G G (Rg G) G G<|nl<|nx<|sq<|qg<|rl 5 [0] G G<|jb 16 4 [0] [5,6,7,8] G G G<|mv G G<|jb 21 4 [0] [5,6,7,8] G G G<|mv G G<|jb 26 4 [0] [5,6,7,8] G G G<|mv G G<|jb 31 4 [0] [5,6,7,8] G G G<|nl<|nx<|cdB G (fun h35 => ?_) (fun h35 => ?_)
  · exact sa 1 G<|rt<|tR<|bR<|tR<|tR<|bR<|tR<|dpQ<|fR1 () G G (by rw [holdersP, allI_false i (by omega) (not_t h35)]; try rfl) G Sn
  ·
   refine sk<|nx<|rb 3 [0] G G<|bN<|nx<|rg<|adI G G inI G<|mv G G<|nl<|dpQ ?_
   exact ag (i + 1) ⟨(by omega), (all_snoc hall (not_f h35))⟩ (by omega) (Gs G) G (Sc 2 G Sn)
 · exact ex<|tE<|tE<|bE<|nx<|sa 1 G<|rt<|fR1 () G G (by rw [holdersP, allI_true (fun j hj => hall j (by omega))]; try rfl) G Sn
theorem right14_c (v_l : Value) (l : List TMark) : FnV Pg 128 [v_l] [⟨v_l, l⟩] (.bool (marks14 l)) := by
 refine Fnc.proof Tryz.func128 G 52 G G fun X w => sa 1 G<|sa 1 G<|sq<|sa 1 G<|bk<|lpC (σ := Nat) [(0, _)] _ (fun i C => (4, .int .i64 (i : Int)) :: (3, .int .i64 (prevI (fun k => (l.getD k default).fClient) i)) :: C) (fun i => i ≤ l.length ∧ (∀ j, j < i → (!mark14 (prevI (fun k => (l.getD k default).fClient) j) (l.getD j default)) = true)) (fun i => l.length - i) 0 ⟨G, trivial⟩ (Sc 0 G Sn) ⟨Nat.zero_le _, fun j hj => absurd hj (Nat.not_lt_zero j)⟩ (Gs G) ?_
 rintro i ⟨hi, hall⟩
 refine sq<|qg<|ru 2 G<|lnP 0 G G Tryz.underlying25 G fun l8 => ru 1 G<|nl<|nx<|cdP G (fun h9 => ?_) (fun h9 => ?_)
 ·
  refine sk<|nx<|sq<|bk<|qg<|ru 2 G<|ixQ 0 G G G slt_25 G fun v14 => ldS 0 G G (Rg G) G fun q15 w15 => al zero_122 G fun b5 => stW 0 (us := (cMark ((l.getD i default)))) G G G (Rg G) G G<|nl<|nx<|sq<|qg<|rl 5 [0] G G<|jb 20 4 [0] [0,4,5] G G G<|mv G G<|jb 25 4 [0] [0,4,5] G G G<|mv G G<|jb 30 4 [0] [0,4,5] G G G<|mv G G ?_
  refine jz 35 14 [0,4,5] G G (fun h35 K49 => by
   refine rl 3 [0] G G ?_
   refine jy 38 10 [0,4,5,35] G G (fun h38 K48 => by
    refine rl 4 [0] G G ?_
    refine jz 42 5 [0,4,5,35,38] G G (fun h42 K47 => by
     have p42 := of_decide_eq_false h42
     exact ru 1 G<|gY G G G<|ldM 0 (cAnswer ((l.getD i default).fAnswer)) G G (Rg G) G G<|gY G G G<|bd (ps := []) (cs := (cAnswer ((⟨0, 0, 0, 0⟩ : TAnswer)))) (by rfl) (by kernel_rfl) G<|gY G G G<|neT eq_Answer ((l.getD i default).fAnswer) ((⟨0, 0, 0, 0⟩ : TAnswer)) G G G<|ru 1 G<|K47 G Sr) ?_
    exact ru 1 G<|K48 G Sr) ?_
   exact ru 1 G<|K49 G Sr) ?_
  refine nl<|nx<|cdB G (fun h49 => ?_) (fun h49 => ?_)
  · exact sa 1 G<|rt<|tR<|bR<|tR<|tR<|bR<|tR<|dpQ<|fR1 () G G (by rw [marks14, allI_false i (by omega) (not_t h49)]; try rfl) G Sn
  ·
   refine sk<|nx<|rb 3 [0] G G<|bN<|nx<|rg<|mv G G<|adI G G inI G<|ru 1 G<|nl<|dpQ ?_
   exact ag (i + 1) ⟨(by omega), (all_snoc hall (not_f h49))⟩ (by omega) (Gs G) G (Sc 2 G Sn)
 · exact ex<|tE<|tE<|bE<|nx<|sa 1 G<|rt<|fR1 () G G (by rw [marks14, allI_true (fun j hj => hall j (by omega))]; try rfl) G Sn
theorem may18_c (d : TDeal) (h_d : d.wf) : FnV Pg 194 [.agg (cDeal d).toArray] [] (.bool (may18 d)) := by
 refine Fnc.proof Tryz.func194 G 76 G G fun X w => qg<|bx G G G fun b1 => ru 1 G<|nl<|nx<|sq<|qg<|rl 2 [0] G G<|cfv (client14_c _ h_d.1) (Kg G) G Sn G<|ru 2 G<|jz 8 5 [1] G G (fun h8 K13 => rl 2 [0] G G<|gY G G G<|cfv (seq14_c _ h_d.2.1) (Kg G) G Sn G<|ru 2 G<|K13 G Sr)<|mv G G<|jz 14 5 [1] G G (fun h14 K19 => rl 2 [0] G G<|gY G G G<|cfv (key15_c _) (Kg G) G Sn G<|ru 2 G<|K19 G Sr)<|mv G G<|jz 20 5 [1] G G (fun h20 K25 => rl 2 [0] G G<|gY G G G<|cfv (key15_c _) (Kg G) G Sn G<|ru 2 G<|K25 G Sr)<|mv G G<|jb 26 6 [0,0] [1] G G G<|mv G G<|jb 33 4 [0] [1] G G G<|mv G G<|jb 38 4 [0] [1] G G G<|mv G G ?_
 refine jb 43 4 [0] [1] G G G<|mv G G<|jb 48 4 [0] [1] G G G<|mv G G<|jb 53 4 [0] [1] G G G<|nl<|nx<|cdB G (fun h57 => ?_) (fun h57 => ?_)
 ·
  have e57 : (may18a d) = true := h57
  exact sa 1 G<|rt<|tR<|dpQ<|fR1 () G G (by rw [may18, e57]; try rfl) G Sn
 ·
  have e57 : (may18a d) = false := h57
  refine sk<|nx<|qg<|rl 4 [0,0] G G<|cfv (fate18_c _ _ h_d.2.2.2.2.2.1 h_d.2.2.2.2.2.2.1) (Kg G) G Sn G<|ru 1 G<|nl<|nx<|qg<|rl 5 [0] G G ?_
  refine jz 67 8 [] G G (fun h67 K75 => by
   have p67 := of_decide_eq_false h67
   exact ru 3 G<|ja 70 4 [0] [67] G G G<|ru 1 G<|K75 G Sr) ?_
  exact ru 1 G<|nl<|nx<|rt<|dpQ<|fR1 () G G (by rw [may18, e57]; try rfl) G Sn
theorem place18_c (v_l : Value) (l : List TDeal) (c : Int) (q : Int) (h_c : InI c) (h_q : InI q) : FnV Pg 195 [v_l, .int .i64 c, .int .i64 q] [⟨v_l, l⟩] (.int .i64 (placeI (placeO l c q))) := by
 refine Fnc.proof Tryz.func195 G 31 G G fun X w => ?_
 obtain ⟨h_c1, h_c2⟩ := id h_c
 obtain ⟨h_q1, h_q2⟩ := id h_q
 refine sa 1 G<|sq<|sa 1 G<|bk<|lpC (σ := Nat) [(0, _), (1, _), (2, _)] _ (fun i C => (7, .int .i64 (i : Int)) :: C) (fun i => i ≤ l.length ∧ (∀ j, j < i → (decide ((l.getD j default).fClient = c) && decide ((l.getD j default).fSeq = q)) = false)) (fun i => l.length - i) 0 (Gs G) (Sc 0 G Sn) ⟨Nat.zero_le _, fun j hj => absurd hj (Nat.not_lt_zero j)⟩ (Gs G) ?_
 rintro i ⟨hi, hall⟩
 refine sq<|qg<|ru 2 G<|lnP 0 G G Tryz.underlying52 G fun l10 => ru 1 G<|nl<|nx<|cdP G (fun h11 => ?_) (fun h11 => ?_)
 ·
  refine sk<|nx<|sq<|bk<|qg<|ru 2 G<|ixQ 0 G G G slt_52 G fun v16 => faP (α := TDeal) (β := Int) 0 (fun x : TDeal => x.fClient) G G (Fg G) pDeal_0 G fun v17 => ldV 0 G G (Og G) G fun w18 => ru 3 G ?_
  refine jy 21 8 [0,1,2,7] G G (fun h21 K29 => by
   have p21 := of_decide_eq_true h21
   exact ru 2 G<|gY G G G<|ixQ 2 G G G slt_52 G fun v24 => gY G G G<|faP (α := TDeal) (β := Int) 0 (fun x : TDeal => x.fSeq) G G (Fg G) pDeal_1 G fun v25 => gY G G G<|ldV 0 G G (Og G) G fun w26 => ru 3 G<|K29 G (SubD.tail (SubD.tail Sr))) ?_
  refine nl<|nx<|cdB G (fun h29 => ?_) (fun h29 => ?_)
  · exact sa 2 G<|rt<|bR<|tR<|tR<|bR<|tR<|fR1 () G G (by rw [placeO, firstI_some (j := i) (by omega) hall h29, placeI]) G Sn
  ·
   refine sk<|bN<|nx<|rg<|mv G G<|adI G G inI G<|ru 1 G<|nl ?_
   exact ag (i + 1) ⟨(by omega), (all_snoc hall (h29))⟩ (by omega) (Gs G) G (Sc 2 G Sn)
 · exact ex<|tE<|tE<|bE<|nx<|sa 1 G<|rt<|fR1 () G G (by rw [placeO, firstI_none (fun k hk => hall k (by omega)), placeI]) G Sn
theorem right18_c (v_l : Value) (l : List TDeal) : FnV Pg 136 [v_l] [⟨v_l, l⟩] (.bool (books18 l)) := by
 refine Fnc.proof Tryz.func136 G 35 G G fun X w => sa 1 G<|sq<|sa 1 G<|bk<|lpC (σ := Nat) [(0, _)] _ (fun i C => (3, .int .i64 (i : Int)) :: C) (fun i => i ≤ l.length ∧ (∀ j, j < i → (!(!may18 (l.getD j default) || !decide (placeI (placeO l (l.getD j default).fClient (l.getD j default).fSeq) = (j : Int)))) = true)) (fun i => l.length - i) 0 ⟨G, trivial⟩ (Sc 0 G Sn) ⟨Nat.zero_le _, fun j hj => absurd hj (Nat.not_lt_zero j)⟩ (Gs G) ?_
 rintro i ⟨hi, hall⟩
 refine sq<|qg<|ru 2 G<|lnP 0 G G Tryz.underlying52 G fun l6 => ru 1 G<|nl<|nx<|cdP G (fun h7 => ?_) (fun h7 => ?_)
 ·
  refine sk<|nx<|sq<|bk<|sq<|rgQ mixed (by kernel_rfl)<|ru 2 G<|ixQ 0 G G G slt_52 G fun v12 => ldS 0 G G (Rg G) G fun q13 w13 => cfq (may18_c _ w13) (Kg G) G Sn G<|ru 2 G ?_
  refine jz 16 15 [0,3] G G (fun h16 K31 => by
   have p16 := h16
   try simp only [Bool.or_eq_false_iff, Bool.and_eq_true, decide_eq_true_eq, decide_eq_false_iff_not, Bool.not_eq_true', Bool.not_eq_false'] at p16
   exact ru 3 G<|gY G G G<|ixQ 2 G G G slt_52 G fun v20 => gY G G G<|faP (α := TDeal) (β := Int) 0 (fun x : TDeal => x.fClient) G G (Fg G) pDeal_0 G fun v21 => gY G G G<|ldV 0 G G (Og G) G fun w22 => ru 2 G<|gY G G G<|ixQ 4 G G G slt_52 G fun v25 => gY G G G<|faP (α := TDeal) (β := Int) 0 (fun x : TDeal => x.fSeq) G G (Fg G) pDeal_1 G fun v26 => gY G G G<|ldV 0 G G (Og G) G fun w27 => gY G G G<|cfq (place18_c _ _ _ _ w22 w27) (Kg G) G (Sc 6 G Sn) G<|ru 3 G<|K31 G (SubD.tail (SubD.tail (SubD.tail (SubD.tail Sr))))) ?_
  refine nlQ<|nx<|cdB G (fun h31 => ?_) (fun h31 => ?_)
  · exact sa 1 G<|rt<|bR<|tR<|tR<|bR<|tR<|fR1 () G G (by rw [books18, books18a, allI_false i (by omega) (not_t h31)]; try rfl) G Sn
  ·
   refine sk<|bN<|nx<|rg<|mv G G<|adI G G inI G<|ru 1 G<|nl ?_
   exact ag (i + 1) ⟨(by omega), (all_snoc hall (not_f h31))⟩ (by omega) (Gs G) G (Sc 2 G Sn)
 · exact ex<|tE<|tE<|bE<|nx<|qg<|mv G G<|lnP 0 G G Tryz.underlying52 G fun l33 => ru 2 G<|nl<|nx<|rt<|fR1 () G G (by rw [books18, books18a, allI_true (fun j hj => hall j (by omega))]; try rfl) G Sn
theorem ends18_c (v_l : Value) (l : List TEnd) : FnV Pg 137 [v_l] [⟨v_l, l⟩] (.bool (ends18 l)) := by
 refine Fnc.proof Tryz.func137 G 40 G G fun X w => sa 1 G<|sa 1 G<|sq<|sa 1 G<|bk<|lpC (σ := Nat) [(0, _)] _ (fun i C => (4, .int .i64 (i : Int)) :: (3, .int .i64 (prevI (fun k => (l.getD k default).fClient) i)) :: C) (fun i => i ≤ l.length ∧ (∀ j, j < i → (!(decide ((l.getD j default).fClient ≤ prevI (fun k => (l.getD k default).fClient) j) || decide ((l.getD j default).fClient > 8) || !okSeq (l.getD j default).fSeq)) = true)) (fun i => l.length - i) 0 ⟨G, trivial⟩ (Sc 0 G Sn) ⟨Nat.zero_le _, fun j hj => absurd hj (Nat.not_lt_zero j)⟩ (Gs G) ?_
 rintro i ⟨hi, hall⟩
 refine sq<|qg<|ru 2 G<|lnP 0 G G Tryz.underlying53 G fun l7 => ru 1 G<|nl<|nx<|cdP G (fun h8 => ?_) (fun h8 => ?_)
 ·
  refine sk<|nx<|sq<|bk<|sq<|qg<|ru 2 G<|ixQ 0 G G G slt_53 G fun v13 => faP (α := TEnd) (β := Int) 0 (fun x : TEnd => x.fClient) G G (Fg G) pEnd_0 G fun v14 => ldV 0 G G (Og G) G fun w15 => ru 3 G ?_
  refine jz 18 7 [0,4] G G (fun h18 K25 => by
   have p18 := of_decide_eq_false h18
   exact ru 2 G<|gY G G G<|ixQ 2 G G G slt_53 G fun v21 => gY G G G<|faP (α := TEnd) (β := Int) 0 (fun x : TEnd => x.fClient) G G (Fg G) pEnd_0 G fun v22 => gY G G G<|ldV 0 G G (Og G) G fun w23 => ru 2 G<|K25 G (SubD.tail (SubD.tail Sr))) ?_
  refine mv G G ?_
  refine jz 26 8 [0,4] G G (fun h26 K34 => by
   have p26 := h26
   try simp only [Bool.or_eq_false_iff, Bool.and_eq_true, decide_eq_true_eq, decide_eq_false_iff_not, Bool.not_eq_true', Bool.not_eq_false'] at p26
   exact ru 2 G<|gY G G G<|ixQ 2 G G G slt_53 G fun v29 => gY G G G<|faP (α := TEnd) (β := Int) 0 (fun x : TEnd => x.fSeq) G G (Fg G) pEnd_1 G fun v30 => gY G G G<|ldV 0 G G (Og G) G fun w31 => gY G G G<|cfv (seq14_c _ w31) (Kg G) G Sn G<|ru 2 G<|K34 G (SubD.tail (SubD.tail Sr))) ?_
  refine nl<|nx<|cdB G (fun h34 => ?_) (fun h34 => ?_)
  · exact sa 1 G<|rt<|tR<|bR<|tR<|tR<|bR<|tR<|fR1 () G G (by rw [ends18, allI_false i (by omega) (not_t h34)]; try rfl) G Sn
  ·
   refine sk<|nx<|rg<|ru 2 G<|ixQ 2 G G G slt_53 G fun v37 => faP (α := TEnd) (β := Int) 0 (fun x : TEnd => x.fClient) G G (Fg G) pEnd_0 G fun v38 => ldV 0 G G (Og G) G fun w39 => ru 1 G<|nl<|bN<|nx<|rg<|mv G G<|adI G G inI G<|ru 1 G<|nl ?_
   exact ag (i + 1) ⟨(by omega), (all_snoc hall (not_f h34))⟩ (by omega) (Gs G) G (Sc 4 G Sn)
 · exact ex<|tE<|tE<|bE<|nx<|sa 1 G<|rt<|fR1 () G G (by rw [ends18, allI_true (fun j hj => hall j (by omega))]; try rfl) G Sn
theorem wait19_c (s : TState) (s_0 s_1 s_2 s_3 s_4 s_5 : Value) (wt : TWait) (h_s : s.wf) (h_wt : wt.wf) : FnV Pg 138 [.agg (cState s s_0 s_1 s_2 s_3 s_4 s_5).toArray, .agg (cWait wt).toArray] [⟨s_0, s.fAccounts⟩, ⟨s_1, s.fMarks⟩, ⟨s_2, s.fWaits⟩, ⟨s_3, s.fDeals⟩, ⟨s_4, s.fEnds⟩, ⟨s_5, s.fImage⟩] (.bool (wait19 s wt)) := by
 refine Fnc.proof Tryz.func138 G 105 G G fun X w => qg<|bx G G G fun b2 => bx G G G fun b3 => ru 1 G<|nl<|nx<|sq<|qg<|rl 2 [0] G G<|cfv (client14_c _ h_wt.2.1) (Kg G) G Sn G<|ru 2 G<|jz 10 5 [2,3] G G (fun h10 K15 => rl 2 [0] G G<|gY G G G<|cfv (seq14_c _ h_wt.2.2.1) (Kg G) G Sn G<|ru 2 G<|K15 G Sr)<|mv G G<|jz 16 6 [2,3] G G (fun h16 K22 => rl 3 [0] G G<|gY G G G<|cfv (key15_c _) (Kg G) G Sn G<|ru 2 G<|K22 G Sr)<|mv G G<|jz 23 7 [2,3] G G (fun h23 K30 => gY G G G<|ldM 1 (cState s s_0 s_1 s_2 s_3 s_4 s_5) G G (Rg G) G G<|rl 3 [0] G G<|gY G G G<|cfv (owns19_c _ _ _ _ _ _ _ _ h_s) (Kg G) G (Si [0,1,2,3,4,5] G) G<|ru 2 G<|K30 G Sr)<|mv G G<|jz 31 6 [3] G G (fun h31 K37 => gY G G G<|ldM 1 (cState s s_0 s_1 s_2 s_3 s_4 s_5) G G (Rg G) G G<|rl 3 [0] G G<|gY G G G<|cfv (sealed19_c _ _ _ _ _ _ _ _ h_s) (Kg G) G (Si [0,1,2,3,4,5] G) G<|ru 1 G<|K37 G Sr)<|nl<|nx<|cdB G (fun h37 => ?_) (fun h37 => ?_)
 ·
  have e37 : (wait19a s wt) = true := h37
  exact sa 1 G<|rt<|tR<|dpQ<|dpQ<|fR1 () G G (by rw [wait19, e37]; try rfl) G Sn
 ·
  have e37 : (wait19a s wt) = false := h37
  refine sk<|nx<|sq<|sb 2 [0] G G<|bk<|sa 2 G<|cdP G (fun h40 => ?_) (fun h40 => ?_)
  ·
   have e40 : (decide (wt.fKind = 1)) = true := (decide_eq_true h40)
   refine qg<|ru 1 G<|ldM 0 (cOp wt.fOp) G G (Rg G) G G<|al zero_34 G fun b5 => stW 0 (us := (cOp wt.fOp)) G G G (Rg G) G G<|nl<|nx<|qg<|rl 4 [1] G G<|ja 47 4 [1] [3,5] G G G<|mv G G<|ja 52 4 [1] [5] G G G<|mv G G<|ja 57 4 [0] [5] G G G<|mv G G<|ja 62 4 [0] [5] G G G<|mv G G ?_
   refine jy 67 9 [] G G (fun h67 K76 => by
    exact rl 4 [0] G G<|jb 71 4 [0] [67] G G G<|ru 1 G<|K76 G Sr) ?_
   exact ru 1 G<|nl<|nx<|rt<|bR<|tR<|dpQ<|dpQ<|dpQ<|fR1 () G G (by rw [wait19, e37, e40]; try rfl) G Sn
  ·
   have e40 : (decide (wt.fKind = 1)) = false := (decide_eq_false h40)
   refine sa 2 G<|cdP G (fun h77 => ?_) (fun h77 => ?_)
   ·
    have e77 : (decide (wt.fKind = 2)) = true := (decide_eq_true h77)
    refine qg<|rl 4 [0] G G ?_
    refine jy 82 4 [3] G G (fun h82 K86 => by
     have p82 := of_decide_eq_true h82
     exact rl 2 [0] G G<|gY G G G<|cfv (group19_c _ h_wt.2.2.2.2.1) (Kg G) G Sn G<|ru 1 G<|K86 G Sr) ?_
    refine mv G G ?_
    refine jy 87 11 [3] G G (fun h87 K98 => by
     exact ru 1 G<|gY G G G<|ldM 0 (cOp wt.fOp) G G (Rg G) G G<|rl 5 [0] G G<|rl 1 [0] G G<|gY G G G<|bd (ps := [(1, .tmp 92), (3, .tmp 95)]) (cs := (cOp ((⟨0, wt.fOp.fKey, ByteArray.empty, wt.fOp.fN, 0, 0⟩ : TOp)))) (by rfl) (by kernel_rfl) G<|gY G G G<|eqT eq_Op (wt.fOp) ((⟨0, wt.fOp.fKey, ByteArray.empty, wt.fOp.fN, 0, 0⟩ : TOp)) G G G<|ru 1 G<|K98 G Sr) ?_
    exact mv G G<|ja 99 5 [0] [] G G G<|ru 1 G<|nl<|nx<|rt<|bR<|tR<|dpQ<|dpQ<|fR1 () G G (by rw [wait19, e37, e40, e77]; try rfl) G Sn
   ·
    have e77 : (decide (wt.fKind = 2)) = false := (decide_eq_false h77)
    exact sk<|bN<|nx<|sa 1 G<|rt<|dpQ<|dpQ<|fR1 () G G (by rw [wait19, e37, e40, e77]; try rfl) G Sn
theorem below16_c (x : TRight) (y : TRight) (h_x : x.wf) (h_y : y.wf) : FnV Pg 131 [.agg (cRight x).toArray, .agg (cRight y).toArray] [] (.bool (belowP x y)) := by
 refine Fnc.proof Tryz.func131 G 24 G G fun X w => qg<|bx G G G fun b2 => bx G G G fun b3 => ru 1 G<|nl<|nx<|qg<|rl 4 [1,0] G G<|ru 2 G ?_
 refine jz 10 13 [] G G (fun h10 K23 => by
  have p10 := of_decide_eq_false h10
  refine rl 6 [1,0] G G ?_
  refine jy 16 6 [10] G G (fun h16 K22 => by
   have p16 := of_decide_eq_true h16
   exact rl 4 [1,0] G G<|gY G G G<|ltS G G G<|ru 1 G<|K22 G Sr) ?_
  exact ru 1 G<|K23 G Sr) ?_
 exact ru 1 G<|nl<|nx<|rt<|dpQ<|dpQ<|fR1 () G G (by rfl) G Sn
theorem right16_c (v_l : Value) (l : List TRight) : FnV Pg 61 [v_l] [⟨v_l, l⟩] (.bool (rights16 l)) := by
 refine Fnc.proof Tryz.func61 G 33 G G fun X w => sa 1 G<|sq<|sa 1 G<|bk<|lpC (σ := Nat) [(0, _)] _ (fun i C => (3, .int .i64 (i : Int)) :: C) (fun i => i ≤ l.length ∧ (∀ j, j < i → (!right16j l j) = true)) (fun i => l.length - i) 0 ⟨G, trivial⟩ (Sc 0 G Sn) ⟨Nat.zero_le _, fun j hj => absurd hj (Nat.not_lt_zero j)⟩ (Gs G) ?_
 rintro i ⟨hi, hall⟩
 refine sq<|qg<|ru 2 G<|lnP 0 G G Tryz.underlying29 G fun l6 => ru 1 G<|nl<|nx<|cdP G (fun h7 => ?_) (fun h7 => ?_)
 ·
  refine sk<|nx<|sq<|bk<|sq<|rgQ mixed (by kernel_rfl)<|ru 2 G<|ixQ 0 G G G slt_29 G fun v12 => ldS 0 G G (Rg G) G fun q13 w13 => cfq (lmay16_c _ w13) (Kg G) G Sn G<|ru 2 G ?_
  refine jz 16 16 [0,3] G G (fun h16 K32 => by
   have p16 := h16
   try simp only [Bool.or_eq_false_iff, Bool.and_eq_true, decide_eq_true_eq, decide_eq_false_iff_not, Bool.not_eq_true', Bool.not_eq_false'] at p16
   refine ru 3 G ?_
   refine jy 19 12 [0,3,16] G G (fun h19 K31 => by
    have p19 := of_decide_eq_true h19
    exact ru 2 G<|gY G G G<|sbI G G inI G<|gY G G G<|ixQ 2 G G G slt_29 G fun v23 => gY G G G<|ldS 0 G G (Rg G) G fun q24 w24 => ru 2 G<|gY G G G<|ixQ 4 G G G slt_29 G fun v27 => gY G G G<|ldS 0 G G (Rg G) G fun q28 w28 => gY G G G<|cfq (below16_c _ _ w24 w28) (Kg G) G Sn G<|ru 2 G<|K31 G (SubD.tail (SubD.tail (SubD.tail (SubD.tail Sr))))) ?_
   exact ru 1 G<|K32 G Sr) ?_
  refine nlQ<|nx<|cdB G (fun h32 => ?_) (fun h32 => ?_)
  · exact sa 1 G<|rt<|bR<|tR<|tR<|bR<|tR<|fR1 () G G (by rw [rights16, allI_false i (by omega) (not_t h32)]; try rfl) G Sn
  ·
   refine sk<|bN<|nx<|rg<|mv G G<|adI G G inI G<|ru 1 G<|nl ?_
   exact ag (i + 1) ⟨(by omega), (all_snoc hall (not_f h32))⟩ (by omega) (Gs G) G (Sc 2 G Sn)
 · exact ex<|tE<|tE<|bE<|nx<|sa 1 G<|rt<|fR1 () G G (by rw [rights16, allI_true (fun j hj => hall j (by omega))]; try rfl) G Sn
theorem right17_c (v_l : Value) (l : List TPlace) : FnV Pg 127 [v_l] [⟨v_l, l⟩] (.bool (places17 l)) := by
 refine Fnc.proof Tryz.func127 G 83 G G fun X w => sa 1 G<|sq<|qg<|mv G G<|lnP 0 G G Tryz.underlying22 G fun l7 => ru 2 G ?_
 refine jz 9 4 [0] G G (fun h9 K13 => by
  have p9 := of_decide_eq_false h9
  exact ru 1 G<|gY G G G<|lnP 0 G G Tryz.underlying22 G fun l11 => ru 2 G<|K13 G Sr) ?_
 refine mv G G ?_
 refine jz 14 6 [0] G G (fun h14 K20 => by
  have p14 := h14
  try simp only [Bool.or_eq_false_iff, Bool.and_eq_true, decide_eq_true_eq, decide_eq_false_iff_not, Bool.not_eq_true', Bool.not_eq_false'] at p14
  exact ru 1 G<|gY G G G<|ixQ 0 G G G slt_22 G fun v16 => gY G G G<|faP (α := TPlace) (β := ByteArray) 0 (fun x : TPlace => x.fFrom) G G (Fg G) pPlace_1 G fun v17 => gY G G G<|ldV 0 G G (Og G) G fun w18 => ru 2 G<|K20 G (SubD.tail (SubD.tail Sr))) ?_
 refine nl<|nx<|cdB G (fun h20 => ?_) (fun h20 => ?_)
 ·
  have e20 : (place17a l) = true := h20
  exact sa 1 G<|rt<|tR<|fR1 () G G (by rw [places17, if_pos e20]) G Sn
 ·
  have e20 : (place17a l) = false := h20
  refine sk<|nx<|sq<|sa 1 G<|bk<|lpC (σ := Nat) [(0, _)] _ (fun i C => (3, .int .i64 (i : Int)) :: C) (fun i => i ≤ l.length ∧ (∀ j, j < i → (!place17b l j && place17c l j) = true)) (fun i => l.length - i) 0 ⟨G, trivial⟩ (Sc 0 G Sn) ⟨Nat.zero_le _, fun j hj => absurd hj (Nat.not_lt_zero j)⟩ (Gs G) ?_
  rintro i ⟨hi, hall⟩
  refine sq<|qg<|ru 2 G<|lnP 0 G G Tryz.underlying22 G fun l23 => ru 1 G<|nl<|nx<|cdP G (fun h24 => ?_) (fun h24 => ?_)
  ·
   refine sk<|nx<|sq<|bk<|qg<|ru 2 G<|ixQ 0 G G G slt_22 G fun v29 => ldS 0 G G (Rg G) G fun q30 w30 => al zero_90 G fun b4 => stW 0 (us := (cPlace ((l.getD i default)))) G G G (Rg G) G G<|nl<|nx<|sq<|sq<|rgQ mixed (by kernel_rfl)<|rl 4 [0] G G<|jb 34 4 [0] [0,3,4] G G G<|mv G G<|jb 39 4 [0] [0,3,4] G G G<|mv G G<|jb 44 4 [0] [0,3,4] G G G<|mv G G<|jz 49 5 [0,3,4] G G (fun h49 K54 => rl 2 [0] G G<|gY G G G<|lnS G Tryz.underlying9 G<|ru 2 G<|K54 G Sr)<|mv G G ?_
   refine jz 55 14 [0,3,4] G G (fun h55 K69 => by
    have p55 := h55
    try simp only [Bool.or_eq_false_iff, Bool.and_eq_true, decide_eq_true_eq, decide_eq_false_iff_not, Bool.not_eq_true', Bool.not_eq_false'] at p55
    refine ru 3 G ?_
    refine jy 58 10 [0,3,4,55] G G (fun h58 K68 => by
     have p58 := of_decide_eq_true h58
     exact rl 4 [0] G G<|gY G G G<|sbI G G inI G<|gY G G G<|ixQ 2 G G G slt_22 G fun v64 => gY G G G<|faP (α := TPlace) (β := ByteArray) 0 (fun x : TPlace => x.fFrom) G G (Fg G) pPlace_1 G fun v65 => gY G G G<|ldV 0 G G (Og G) G fun w66 => gY G G G<|leS G G G<|ru 1 G<|K68 G (SubD.tail (SubD.tail Sr))) ?_
    exact ru 1 G<|K69 G Sr) ?_
   refine nlQ<|nx<|cdB G (fun h69 => ?_) (fun h69 => ?_)
   · exact sa 1 G<|rt<|tR<|bR<|tR<|tR<|bR<|tR<|dpQ<|fR1 () G G (by rw [places17, if_neg (by rw [e20]; decide), allI_false i (by omega) (by rw [show place17b l i = true from h69]; rfl)]) G Sn
   ·
    refine sk<|nx<|sa 1 G<|bk<|lpC (σ := Nat) [(0, _), (3, _), (4, _)] _ (fun k C => (5, .int .i64 (k : Int)) :: C) (fun k => k ≤ i ∧ (∀ j, j < k → (!decide ((l.getD j default).fGroup = (l.getD i default).fGroup)) = true)) (fun k => i - k) 0 (Gs G) (Sc 2 G Sn) ⟨Nat.zero_le _, fun j hj => absurd hj (Nat.not_lt_zero j)⟩ (Gs G) ?_
    rintro k ⟨hi_k, hall_k⟩
    refine sq<|sa 3 G<|cdP G (fun h72 => ?_) (fun h72 => ?_)
    ·
     refine sk<|nx<|sq<|bk<|sq<|rgQ mixed (by kernel_rfl)<|ru 2 G<|ixQ 0 G G G slt_22 G fun v77 => faP (α := TPlace) (β := Int) 0 (fun x : TPlace => x.fGroup) G G (Fg G) pPlace_0 G fun v78 => ldV 0 G G (Og G) G fun w79 => rl 3 [0] G G<|nlQ<|nx<|cdP G (fun h82 => ?_) (fun h82 => ?_)
     · exact sa 1 G<|rt<|bR<|tR<|tR<|bR<|bR<|tR<|tR<|bR<|tR<|dpQ<|fR1 () G G (by rw [places17, if_neg (by rw [e20]; decide), allI_false i (by omega) (by rw [show place17c l i = false from allI_false k (by omega) (not_decfalse h82)]; exact Bool.and_false _)]) G Sn
     ·
      refine sk<|bN<|nx<|rg<|mv G G<|adI G G inI G<|ru 1 G<|nl ?_
      exact ag (k + 1) ⟨(by omega), (all_snoc hall_k (not_dectrue h82))⟩ (by omega) (Gs G) G (Sc 2 G Sn)
    ·
     have hin : (!place17b l i && place17c l i) = true := by rw [show place17b l i = false from h69, show place17c l i = true from allI_true (fun j hj => hall_k j (by omega))]; rfl
     refine ex<|tE<|tE<|bE<|bN<|nx<|rg<|mv G G<|adI G G inI G<|ru 1 G<|nl<|dpQ ?_
     exact ag (i + 1) ⟨(by omega), (all_snoc hall (hin))⟩ (by omega) (Gs G) G (Sc 0 G Sn)
  · exact ex<|tE<|tE<|bE<|nx<|sa 1 G<|rt<|fR1 () G G (by rw [places17, if_neg (by rw [e20]; decide), allI_true (fun j hj => hall j (by omega))]) G Sn
theorem epoch17_c (v_l : Value) (l : List TPlace) : FnV Pg 116 [v_l] [⟨v_l, l⟩] (.int .i64 (epochP l)) := by
 refine Fnc.proof Tryz.func116 G 19 G G fun X w => sa 1 G<|sa 1 G<|sq<|sa 1 G<|bk<|lpC (σ := Nat) [(0, _)] _ (fun i C => (4, .int .i64 (i : Int)) :: (3, .int .i64 (maxI (fun j => (l.getD j default).fEpoch) i)) :: C) (fun i => i ≤ l.length) (fun i => l.length - i) 0 ⟨G, trivial⟩ (Sc 0 G Sn) (Nat.zero_le _) (Gs G) ?_
 intro i hi
 refine sq<|qg<|ru 2 G<|lnP 0 G G Tryz.underlying22 G fun l7 => ru 1 G<|nl<|nx<|cdP G (fun h8 => ?_) (fun h8 => ?_)
 ·
  refine sk<|nx<|sq<|bk<|rg<|ru 3 G<|ixQ 0 G G G slt_22 G fun v14 => faP (α := TPlace) (β := Int) 0 (fun x : TPlace => x.fEpoch) G G (Fg G) pPlace_2 G fun v15 => ldV 0 G G (Og G) G fun w16 => mxI G G G G<|ru 1 G<|nl<|bN<|nx<|rg<|mv G G<|adI G G inI G<|ru 1 G<|nl ?_
  exact ag (i + 1) (by omega) (by omega) (Gs G) G (Sc 2 G Sn)
 · exact ex<|tE<|tE<|bE<|nx<|sa 2 G<|rt<|fR1 () G G (by have e : i = l.length := (by omega); rw [e, epochP]) G Sn
theorem sum_c (v_l : Value) (l : List Int) : FnV Pg 164 [v_l] [⟨v_l, l⟩] (sumV l.sum) := by
 refine Fnc.proof Tryz.func164 G 41 G G fun X w => gtC (q := allIn l) (fun S w h => ints_all (h _ (List.mem_cons_self ..))) fun hA => gtC (q := l.length ≤ 9223372036854775807) (fun S w h => list_len (h _ (List.mem_of_getElem? (i := 0) G))) fun hlen => sa 2 G<|sa 2 G<|sq<|qg<|mv G G<|lnP 0 G G Tryz.underlying220 G fun l11 => mv G G<|nl<|nx<|bk<|lpC (σ := Nat × Int × Int) [(10, _), (11, _)] _ (fun s C => (12, .int .i64 (s.1 : Int)) :: (4, .int .u64 s.2.1) :: (5, .int .u64 s.2.2) :: C) (fun s => s.1 ≤ l.length ∧ s.2.1 = (l.take s.1).sum / 18446744073709551616 % 18446744073709551616 ∧ s.2.2 = (l.take s.1).sum % 18446744073709551616 ∧ -((s.1 : Int) * 9223372036854775808) ≤ (l.take s.1).sum ∧ (l.take s.1).sum ≤ (s.1 : Int) * 9223372036854775808) (fun s => l.length - s.1) (0, 0, 0) (Gs G) (Sc 0 G Sn) ⟨Nat.zero_le _, by simp, by simp, by simp, by simp⟩ (Gs G) ?_
 rintro ⟨i, hi, lo⟩ ⟨g1, g2, g3, g4, g5⟩
 simp only at g1 g2 g3 g4 g5
 refine sa 1 G<|sq<|cdP G (fun h13 => ?_) (fun h13 => ?_)
 ·
  have hx := getD_InI hA (i := i) (by omega)
  refine sk<|nx<|sq<|bk<|qg<|ixQ 0 G G G slt_220 G fun v14 => ldV 0 G G (Og G) G fun w15 => ru 1 G<|nl<|nx<|sa 1 G<|qg<|ru 2 G<|cv Tryz.underlying3 Tryz.underlying209 G (wrapu _) G ?_
  have hx20 := fun w => add64_ok (P := Tryz.prog) lo (l.getD i default % 18446744073709551616) 0 (by omega) (by omega) (by omega) (by omega) w
  refine cx ext_222 hx20 G G<|ru 5 G<|nl<|nx<|rg<|ru 2 G<|shR G G (by omega) (shr63 hx) G<|cv Tryz.underlying3 Tryz.underlying209 G (wrapu _) G<|mv G G ?_
  have hx29 := fun w => add64_ok (P := Tryz.prog) hi (sg (l.getD i default) % 18446744073709551616) ((lo + l.getD i default % 18446744073709551616 + 0) / 18446744073709551616) (by omega) (by omega) (by omega) (by omega) w
  refine cx ext_222 hx29 G G<|ru 4 G<|nl<|bN<|nx<|rg<|adI G G inI G<|mv G G<|nl ?_
  have hst := sum_step g2 g3 hx
  have hs := sum_take (l := l) (i := i) (by omega)
  obtain ⟨hx1, hx2⟩ := hx
  exact ag (i + 1, (hi + sg (l.getD i default) % 18446744073709551616 + (lo + l.getD i default % 18446744073709551616 + 0) / 18446744073709551616) % 18446744073709551616, (lo + l.getD i default % 18446744073709551616 + 0) % 18446744073709551616) ⟨by show i + 1 ≤ l.length; omega, by show _ = (l.take (i + 1)).sum / 18446744073709551616 % 18446744073709551616; rw [hs]; exact hst.1, by show _ = (l.take (i + 1)).sum % 18446744073709551616; rw [hs]; exact hst.2, by show -(((i + 1 : Nat) : Int) * 9223372036854775808) ≤ (l.take (i + 1)).sum; rw [hs]; omega, by show (l.take (i + 1)).sum ≤ ((i + 1 : Nat) : Int) * 9223372036854775808; rw [hs]; omega⟩ (by show l.length - (i + 1) < l.length - i; omega) (Gs G) G (Sc 1 G Sn)
 ·
  have e : i = l.length := by omega
  subst e
  rw [List.take_length] at g2 g3 g4 g5
  have hend := sum_end g2 g3 (by omega)
  refine ex<|tE<|tE<|bE<|nx<|qg<|mv G G<|cv Tryz.underlying209 Tryz.underlying3 G G G<|ru 1 G<|nl<|nx<|sq<|qg<|ru 2 G<|shR G G (by omega) (shr63 (wrapi_in lo)) G<|cv Tryz.underlying3 Tryz.underlying209 G (wrapu _) G<|ru 1 G<|nl<|nx<|cdN G (fun h39 => ?_) (fun h39 => ?_)
  · exact sa 2 G<|rt<|tR<|fR2 () G G G (by show _ = sumV l.sum; rw [sumV, sumI, sumE, if_neg (fun hq => h39 (hend.1.2 hq)), if_neg (fun hq => h39 (hend.1.2 hq))]) G Sn
  · exact sk<|nx<|sa 3 G<|rt<|fR2 () G G G (by show _ = sumV l.sum; rw [sumV, sumI, sumE, if_pos (hend.1.1 h39), if_pos (hend.1.1 h39), hend.2 (hend.1.1 h39)]) G Sn
theorem lent_c (a : TAccount) (a_0 : Value) (h_a : a.wf) (hh : holdersP a.fHolders = true) : FnV Pg 224 [.agg (cAccount a a_0).toArray] [⟨a_0, a.fHolders⟩] (lentV a) := by
 refine Fnc.proof Tryz.func224 G 54 G G fun X w => gtC (q := ∀ x ∈ a.fHolders, x.wf) (fun S w h => list_wf (s := sHolder) (h _ (List.mem_of_getElem? (i := 0) G))) fun hW => ?_
 have hl5 := hold_len hh
 refine qg<|bx G G G fun b1 => ru 3 G<|nl<|nx<|sq ?_
 refine rgH ⟨fun q_ => ([[], [0], [1], [], [3], [4], [2], [5]] : List (List Nat)).getD q_ [], fun _ _ => True, fun _ _ => [], fun q_ => ([some (.pointer (some ⟨b1, 3, none⟩)), some (.int .i64 a.fBase), none, some (.pointer (some ⟨b1, 3, none⟩)), some (.int .i64 a.fBase), none, none, none] : List (Option Value)).getD q_ none, fun h_ => match h_ with
   | [] => fun vs_ => [bl b1 70 (cAccount a a_0), fz X w]
   | [2] => fun vs_ => [row 3 (vs_.getD 0 undef) [a.fBase], bl b1 70 (cAccount a a_0), fz X w]
   | [5] => fun vs_ => [row 3 (vs_.getD 0 undef) [a.fBase], bl b1 70 (cAccount a a_0), fz X w]
   | [2, 5] => fun vs_ => [row 3 (vs_.getD 1 undef) [a.fBase], row 3 (vs_.getD 0 undef) [a.fBase], bl b1 70 (cAccount a a_0), fz X w]
   | [2, 6] => fun vs_ => [row 3 (vs_.getD 1 undef) [a.fBase], bl b1 70 (cAccount a a_0), fz X w]
   | [5, 2] => fun vs_ => [row 3 (vs_.getD 0 undef) [a.fBase], row 3 (vs_.getD 1 undef) [a.fBase], bl b1 70 (cAccount a a_0), fz X w]
   | [2, 5, 6] => fun vs_ => [row 3 (vs_.getD 1 undef) [a.fBase], row 3 (vs_.getD 2 undef) [a.fBase], bl b1 70 (cAccount a a_0), fz X w]
   | [2, 6, 5] => fun vs_ => [row 3 (vs_.getD 2 undef) [a.fBase], row 3 (vs_.getD 1 undef) [a.fBase], bl b1 70 (cAccount a a_0), fz X w]
   | [5, 2, 6] => fun vs_ => [row 3 (vs_.getD 0 undef) [a.fBase], row 3 (vs_.getD 2 undef) [a.fBase], bl b1 70 (cAccount a a_0), fz X w]
   | [2, 5, 6, 7] => fun vs_ => [row 3 (vs_.getD 3 undef) [a.fBase], row 3 (vs_.getD 2 undef) [a.fBase], bl b1 70 (cAccount a a_0), fz X w]
   | [2, 6, 5, 7] => fun vs_ => [row 3 (vs_.getD 3 undef) [a.fBase], row 3 (vs_.getD 1 undef) [a.fBase], bl b1 70 (cAccount a a_0), fz X w]
   | [5, 2, 6, 7] => fun vs_ => [row 3 (vs_.getD 3 undef) [a.fBase], row 3 (vs_.getD 2 undef) [a.fBase], bl b1 70 (cAccount a a_0), fz X w]
   | _ => fun _ => [], [2, 5, 6, 7], [[], [2], [5], [2, 5], [2, 6], [5, 2], [2, 5, 6], [2, 6, 5], [5, 2, 6], [2, 5, 6, 7], [2, 6, 5, 7], [5, 2, 6, 7]]⟩ (fun V => [row 3 (V 7) [a.fBase], row 3 (V 6) [a.fBase], bl b1 70 (cAccount a a_0), fz X w]) mixed rfl rfl (show AllP _ [[2, 5, 6, 7], [2, 6, 5, 7], [5, 2, 6, 7]] from ⟨fun _ => rfl, fun _ => rfl, fun _ => rfl, trivial⟩) ?_ ?_
 ·
  refine ⟨fun V De _=>aP5 (fa G (Fg G) G<|oh G G G G) (fa G (Fg G) G<|oh G G G G) (fa G (Fg G) G<|oh G G G G) (fa G (Fg G) G<|oh G G G G) (fa G (Fg G) G<|oh G G G G),fun V De _=>aP2 (ldB 0 G G (Og G) G G<|oh G G G G) (ldB 1 G G (Og G) G G<|oh G G G G),fun V De _=>aP2 (bs1 (xs := [.tmp 12]) (us := [.int .i64 a.fBase]) (E := 3) (bytes := 8) (n := 1) G (by exact app_220) G G G G G G fun b13 => rwB (α := Int) [a.fBase] [[.int .i64 (a.fBase)]] G G (fun S w h => ⟨⟨G, h_a.2.2.1⟩, trivial⟩) G<|nl (odH G G G trivial Sn Sr)) (bs1 (xs := [.tmp 12]) (us := [.int .i64 a.fBase]) (E := 3) (bytes := 8) (n := 1) G (by exact app_220) G G G G G G fun b13 => rwB (α := Int) [a.fBase] [[.int .i64 (a.fBase)]] G G (fun S w h => ⟨⟨G, h_a.2.2.1⟩, trivial⟩) G<|mtL 2 G<|mtL 1 G<|mtL 2 G<|nl (odH G G G trivial Sn Sr)),?_⟩
  refine ⟨fun V De _ => (show AllP _ [[], [2], [5], [2, 5], [2, 6], [5, 2], [2, 5, 6], [2, 6, 5], [5, 2, 6]] from ⟨?_, ?_, ?_, ?_, ?_, ?_, ?_, ?_, ?_, trivial⟩), ?_⟩
  · exact ru 1 G<|oh G G G G
  · exact ru 1 G<|oh G G G G
  · exact ru 1 G<|oh G G G G
  · exact ru 1 G<|oh G G G G
  · exact ru 1 G<|oh G G G G
  · exact ru 1 G<|oh G G G G
  · exact ru 1 G<|oh G G G G
  · exact ru 1 G<|oh G G G G
  · exact ru 1 G<|oh G G G G
  exact ⟨fun V De _=>aP3 (ldB 0 G G (Og G) G G<|oh G G G G) (ldB 1 G G (Og G) G G<|oh G G G G) (ldB 1 G G (Og G) G G<|oh G G G G),fun V De _=>aP3 (bs1 (xs := [.tmp 15]) (us := [.int .i64 a.fBase]) (E := 3) (bytes := 8) (n := 1) G (by exact app_220) G G G G G G fun b16 => rwB (α := Int) [a.fBase] [[.int .i64 (a.fBase)]] G G (fun S w h => ⟨⟨G, h_a.2.2.1⟩, trivial⟩) G<|nl (odH G G G trivial Sn Sr)) (bs1 (xs := [.tmp 15]) (us := [.int .i64 a.fBase]) (E := 3) (bytes := 8) (n := 1) G (by exact app_220) G G G G G G fun b16 => rwB (α := Int) [a.fBase] [[.int .i64 (a.fBase)]] G G (fun S w h => ⟨⟨G, h_a.2.2.1⟩, trivial⟩) G<|nl (odH G G G trivial Sn Sr)) (bs1 (xs := [.tmp 15]) (us := [.int .i64 a.fBase]) (E := 3) (bytes := 8) (n := 1) G (by exact app_220) G G G G G G fun b16 => rwB (α := Int) [a.fBase] [[.int .i64 (a.fBase)]] G G (fun S w h => ⟨⟨G, h_a.2.2.1⟩, trivial⟩) G<|nl (odH G G G trivial Sn Sr)),fun V De _=>aP3 (asg G G<|nl (odH G G G trivial Sn Sr)) (asg G G<|nl (odH G G G trivial Sn Sr)) (asg G G<|nl (odH G G G trivial Sn Sr)),fun V De _=>aP3 (asg G G<|nl (odH G G G trivial Sn Sr)) (asg G G<|nl (odH G G G trivial Sn Sr)) (asg G G<|nl (odH G G G trivial Sn Sr)),trivial⟩
 ·
  intro V _
  refine wkQ (L := [row 3 (V 7) [a.fBase], row 3 (V 6) [a.fBase], bl b1 70 (cAccount a a_0), fz X w]) [(1, _), (5, V 6), (6, V 7)] [_] (Gs G) (Sc 0 G Sn) ?_
  generalize V 6 = v6
  generalize V 7 = v7
  refine nx<|sq<|qg<|rl 2 [2] G G<|lnP 0 G G Tryz.underlying66 G fun l19 => mv G G<|nl<|nx<|bk<|lpE (σ := Nat × Value × Value) [(18, _), (19, _)] _ (fun i C => (20, .int .i64 (i.1 : Int)) :: (5, i.2.1) :: (6, i.2.2) :: C) (fun i => [row 3 i.2.2 (listS (fun h => -h.fDown) a.fBase a.fHolders i.1), row 3 i.2.1 (listS (fun h => h.fUp) a.fBase a.fHolders i.1), bl b1 70 (cAccount a a_0), fz X w]) (fun _ Dc => Dc) (fun i => i.1 ≤ a.fHolders.length) (fun i => a.fHolders.length - i.1) (0, v6, v7) (Gs G) (Sc 0 G Sn) (Nat.zero_le _) (Gs G) G (Sc 0 G Sn) ?_
  rintro ⟨i, v5, v6⟩ hi
  simp only at hi
  refine sa 1 G<|sq<|cdP G (fun h21 => ?_) (fun h21 => ?_)
  ·
   have hd := hold_at hh (i := i) (by omega)
   obtain ⟨hdi1, hdi2⟩ := (hW _ (getD_mem (l := a.fHolders) (i := i) (by omega))).2.2.2
   refine sk<|nx<|sq<|bk<|qg<|ixQ 0 G G G slt_66 G fun v22 => ldS 0 G G (Rg G) G fun q23 w23 => al zero_165 G fun b8 => stW 0 (us := (cHolder ((a.fHolders.getD i default)))) G G G (Rg G) G G<|nl<|nx<|qg<|rl 3 [0] G G<|bs1 (xs := [.tmp 26]) (us := [.int .i64 ((a.fHolders.getD i default).fUp)]) (E := 3) (bytes := 8) (n := 1) G (by exact app_220) G G G G G G fun b27 => frS (α := Int) [(a.fHolders.getD i default).fUp] [[.int .i64 ((a.fHolders.getD i default).fUp)]] G (fun S w h => ⟨⟨G, (hW _ (getD_mem (l := a.fHolders) (i := i) (by omega))).2.2.1⟩, trivial⟩) (Nat.le_of_ble_eq_true G)<|ap 2 0 G G G G app_220 (by simp only [listS_len, List.length_cons, List.length_nil]; omega) (by simp only [listS_len, List.length_cons, List.length_nil]; omega) G fun v28 => ru 1 G<|nl<|nx<|rg<|rl 3 [0] G G<|ngI G inI G<|bs1 (xs := [.tmp 32]) (us := [.int .i64 ((-(a.fHolders.getD i default).fDown))]) (E := 3) (bytes := 8) (n := 1) G (by exact app_220) G G G G G G fun b33 => frS (α := Int) [-(a.fHolders.getD i default).fDown] [[.int .i64 (-(a.fHolders.getD i default).fDown)]] G (fun S w h => ⟨⟨G, inI⟩, trivial⟩) (Nat.le_of_ble_eq_true G)<|ap 1 0 G G G G app_220 (by simp only [listS_len, List.length_cons, List.length_nil]; omega) (by simp only [listS_len, List.length_cons, List.length_nil]; omega) G fun v34 => ru 1 G<|nl<|bN<|nx<|rg<|adI G G inI G<|mv G G<|nl<|dpQ ?_
   exact ag ((i + 1, v28, v34) : Nat × Value × Value) (by show i + 1 ≤ _; omega) (by show _ - _ < _ - _; omega) (Gs G) G (Sc 4 G Sn)
  · exact ex<|tE<|tE<|bE<|nx<|qg<|mv G G<|mtL 1 G<|frRL<|cfv (sum_c _ _) (Kg G) G (Sc 0 G Sn) G<|ru 3 G<|ru 2 G<|nl<|nx<|qg<|mv G G<|frRL<|cfv (sum_c _ _) (Kg G) G (Sc 0 G Sn) G<|ru 5 G<|nl<|nx<|qg<|ru 5 G<|ja 50 3 [] [46,47] G G G<|ru 3 G<|nl<|nx<|rt<|dpQ<|fR3 () G G G G (by have e : i = a.fHolders.length := (by omega); subst e; simp only [listS_ups a, listS_downs a]; try rfl) G Sn
theorem add_c (x : Int) (y : Int) (h_x : InI x) (h_y : InI y) : FnV Pg 279 [.int .i64 x, .int .i64 y] [] (sumV (x + y)) := by
 refine Fnc.proof Tryz.func279 G 33 G G fun X w => ?_
 obtain ⟨h_x1, h_x2⟩ := id h_x
 obtain ⟨h_y1, h_y2⟩ := id h_y
 refine sa 2 G<|qg<|ru 2 G<|adW G G G<|ru 1 G<|nl<|nx<|sq<|qg<|ru 3 G<|ja 12 3 [] [0,1,6] G G G<|mv G G<|ja 16 3 [] [0,1,6] G G G<|mv G G ?_
 refine jz 20 11 [6] G G (fun h20 K31 => by
  exact ru 3 G<|ja 23 3 [] [6,20] G G G<|ru 1 G<|ja 27 3 [] [6,20] G G G<|ru 1 G<|K31 G Sr) ?_
 refine nl<|nx<|cdB G (fun h31 => ?_) (fun h31 => ?_)
 · exact sa 2 G<|rt<|tR<|fR2 () G G G (by show _ = sumV (x + y); have e := (add_ov h_x h_y).1.symm.trans h31; rw [Bool.not_eq_true'] at e; rw [sumV, sumI, sumE, if_neg (by rw [e]; decide), if_neg (by rw [e]; decide)]) G Sn
 · exact sk<|nx<|sa 3 G<|rt<|fR2 () G G G (by show _ = sumV (x + y); have e := (add_ov h_x h_y).1.symm.trans h31; rw [Bool.not_eq_false'] at e; rw [sumV, sumI, sumE, if_pos e, if_pos e, (add_ov h_x h_y).2 e]) G Sn
theorem fits_c (a : TAccount) (a_0 : Value) (k : TLock) (h_a : a.wf) (h_k : k.wf) : FnV Pg 226 [.agg (cAccount a a_0).toArray, .agg (cLock k).toArray] [⟨a_0, a.fHolders⟩] (.bool (fitsP a k)) := by
 refine Fnc.proof Tryz.func226 G 23 G G fun X w => qg<|bx G G G fun b2 => bx G G G fun b3 => ru 1 G<|nl<|nx<|qg<|rl 4 [1,0] G G<|cfv (add_c _ _ h_a.2.2.1 h_k.2.2.2) (Kg G) G Sn G<|ru 5 G<|nl<|nx<|qg<|ru 3 G ?_
 refine jy 17 5 [] G G (fun h17 K22 => by
  have p17 := of_decide_eq_true h17
  exact ru 1 G<|gY G G G<|ldM 1 (cSpan a.fSpan) G G (Rg G) G G<|ru 1 G<|gY G G G<|cfv (has_c _ _ h_a.2.1 (sumI_in (a.fBase + k.fN))) (Kg G) G Sn G<|ru 1 G<|K22 G Sr) ?_
 exact ru 1 G<|nl<|nx<|rt<|dpQ<|dpQ<|fR1 () G G (by rfl) G Sn
theorem aright_c (a : TAccount) (a_0 : Value) (h_a : a.wf) : FnV Pg 166 [.agg (cAccount a a_0).toArray] [⟨a_0, a.fHolders⟩] (.bool (accP a)) := by
 refine Fnc.proof Tryz.func166 G 80 G G fun X w => qg<|bx G G G fun b1 => ru 1 G<|nl<|nx<|sq<|qg<|rl 2 [0] G G<|lnS G Tryz.underlying9 G<|ru 1 G<|mv G G ?_
 refine jz 10 5 [1] G G (fun h10 K15 => by
  have p10 := of_decide_eq_false h10
  exact rl 2 [0] G G<|gY G G G<|lnS G Tryz.underlying9 G<|ru 2 G<|K15 G Sr) ?_
 refine mv G G<|jz 16 7 [1] G G (fun h16 K23 => ru 1 G<|gY G G G<|ldM 0 (cSpan a.fSpan) G G (Rg G) G G<|rl 2 [0] G G<|gY G G G<|cfv (has_c _ _ h_a.2.1 h_a.2.2.1) (Kg G) G Sn G<|ru 2 G<|K23 G Sr)<|mv G G<|jb 24 4 [0] [1] G G G<|mv G G<|jz 29 5 [1] G G (fun h29 K34 => rl 2 [0] G G<|gY G G G<|cfv (holders_c _ _) (Kg G) G (Sc 0 G Sn) G<|ru 2 G<|K34 G Sr)<|nl<|nx<|cdB G (fun h34 => ?_) (fun h34 => ?_)
 ·
  have e34 : (acc1 a) = true := h34
  exact sa 1 G<|rt<|tR<|dpQ<|fR1 () G G (by rw [accP, e34]; try rfl) G Sn
 ·
  have hh : holdersP a.fHolders = true := by have q := h34; simp only [Bool.or_eq_false_iff, Bool.not_eq_false'] at q; exact q.2
  have e34 : (acc1 a) = false := h34
  refine sk<|nx<|qg<|ldM 0 (cAccount a a_0) G G (Rg G) G G<|cfv (lent_c _ _ h_a (by assumption)) (Kg G) G (Sc 0 G Sn) G<|ru 7 G<|nl<|nx<|sq<|qg<|ru 3 G<|jb 43 6 [0] [1,4] G G G<|mv G G<|jb 50 6 [0] [1] G G G<|nl<|nx<|cdB G (fun h56 => ?_) (fun h56 => ?_)
  ·
   have e56 : (acc2 a) = true := h56
   exact sa 1 G<|rt<|tR<|dpQ<|fR1 () G G (by rw [accP, e34, e56]; try rfl) G Sn
  ·
   have e56 : (acc2 a) = false := h56
   refine sk<|nx<|sq<|sb 4 [0] G G<|cdP G (fun h60 => ?_) (fun h60 => ?_)
   ·
    have e60 : (decide (a.fLock.fClient = 0)) = true := (decide_eq_true h60)
    exact qg<|ru 1 G<|ldM 0 (cLock a.fLock) G G (Rg G) G G<|bd (ps := []) (cs := (cLock ((⟨0, 0, 0, 0⟩ : TLock)))) (by rfl) (by kernel_rfl) G<|eqT eq_Lock (a.fLock) ((⟨0, 0, 0, 0⟩ : TLock)) G G G<|ru 1 G<|nl<|nx<|rt<|tR<|dpQ<|fR1 () G G (by rw [accP, e34, e56, e60]; try rfl) G Sn
   ·
    have e60 : (decide (a.fLock.fClient = 0)) = false := (decide_eq_false h60)
    exact sk<|nx<|qg<|ru 1 G<|ldM 0 (cLock a.fLock) G G (Rg G) G G<|cfv (keeper_c _ h_a.2.2.2.2.2) (Kg G) G Sn G<|mv G G<|jy 68 5 [1] G G (fun h68 K73 => rl 2 [0] G G<|gY G G G<|lnP 0 G G Tryz.underlying66 G fun l71 => ru 2 G<|K73 G Sr)<|mv G G<|jy 74 5 [] G G (fun h74 K79 => gY G G G<|ldM 0 (cAccount a a_0) G G (Rg G) G G<|ru 1 G<|gY G G G<|ldM 0 (cLock a.fLock) G G (Rg G) G G<|gY G G G<|cfv (fits_c _ _ _ h_a h_a.2.2.2.2.2) (Kg G) G (Sc 0 G Sn) G<|ru 1 G<|K79 G Sr)<|ru 1 G<|nl<|nx<|rt<|dpQ<|fR1 () G G (by rw [accP, e34, e56, e60]; try rfl) G Sn
theorem acheck_c (a : TAccount) (a_0 : Value) (h_a : a.wf) : FnV Pg 97 [.agg (cAccount a a_0).toArray] [⟨a_0, a.fHolders⟩] (.int .i64 (errF (accP a))) := by
 refine Fnc.proof Tryz.func97 G 6 G G fun X w => qg<|bx G G G fun b1 => ru 1 G<|nl<|nx<|sq<|qg<|ldM 0 (cAccount a a_0) G G (Rg G) G G<|cfv (aright_c _ _ h_a) (Kg G) G (Sc 0 G Sn) G<|nt G G<|nl<|nx<|cdB G (fun h5 => ?_) (fun h5 => ?_)
 · exact sa 1 G<|rt<|tR<|dpQ<|fR1 () G G (by rw [errF, if_neg (by have q := h5; rw [Bool.not_eq_true'] at q; rw [q]; decide)]) G Sn
 · exact sk<|nx<|sa 1 G<|rt<|dpQ<|fR1 () G G (by rw [errF, if_pos (by have q := h5; rw [Bool.not_eq_false'] at q; exact q)]) G Sn
theorem aplain_c (a : TAccount) (a_0 : Value) (h_a : a.wf) : FnV Pg 89 [.agg (cAccount a a_0).toArray] [⟨a_0, a.fHolders⟩] (.bool (aplainP a)) := by
 exact Fnc.proof Tryz.func89 G 32 G G fun X w => qg<|bx G G G fun b1 => ru 1 G<|nl<|nx<|qg<|ldM 0 (cAccount a a_0) G G (Rg G) G G<|cfv (aright_c _ _ h_a) (Kg G) G (Sc 0 G Sn) G<|mv G G<|jy 5 5 [1] G G (fun h5 K10 => ru 1 G<|gY G G G<|ldM 0 (cSpan a.fSpan) G G (Rg G) G G<|gY G G G<|bd (ps := []) (cs := (cSpan ((⟨0, 0⟩ : TSpan)))) (by rfl) (by kernel_rfl) G<|gY G G G<|eqT eq_Span (a.fSpan) ((⟨0, 0⟩ : TSpan)) G G G<|ru 1 G<|K10 G Sr)<|mv G G<|ja 11 4 [0] [1] G G G<|mv G G<|jy 16 5 [1] G G (fun h16 K21 => rl 2 [0] G G<|gY G G G<|lnP 0 G G Tryz.underlying66 G fun l19 => ru 2 G<|K21 G Sr)<|mv G G<|ja 22 4 [0] [1] G G G<|mv G G<|jy 27 4 [] G G (fun h27 K31 => gY G G G<|ldM 0 (cAccount a a_0) G G (Rg G) G G<|gY G G G<|cfv (locked_c _ _ h_a) (Kg G) G (Sc 0 G Sn) G<|ru 2 G<|K31 G Sr)<|ru 1 G<|nl<|nx<|rt<|dpQ<|fR1 () G G (by rfl) G Sn
theorem cmpstr_c (x : ByteArray) (y : ByteArray) : FnV Pg 162 [.string x, .string y] [] (.int .i64 (cmpB x y)) := by
 exact Fnc.proof Tryz.func162 G 8 G G fun X w => sa 1 G<|qg<|ru 2 G<|cx ext_220 (fun w => cmp_ok (P := Tryz.prog) x y w) G G<|ru 1 G<|nl<|nx<|rt<|fR1 () G G (by rfl) G Sn
theorem compare_c (x : ByteArray) (y : ByteArray) : FnV Pg 87 [.string x, .string y] [] (.int .i64 (cmpB x y)) := by
 exact Fnc.proof Tryz.func87 G 8 G G fun X w => sa 1 G<|qg<|ru 2 G<|cfv (cmpstr_c _ _) (Kg G) G Sn G<|ru 1 G<|nl<|nx<|rt<|fR1 () G G (by rfl) G Sn
theorem order_c (x : TRight) (y : TRight) (h_x : x.wf) (h_y : y.wf) : FnV Pg 125 [.agg (cRight x).toArray, .agg (cRight y).toArray] [] (.int .i64 (orderP x y)) := by
 refine Fnc.proof Tryz.func125 G 20 G G fun X w => qg<|bx G G G fun b2 => bx G G G fun b3 => ru 1 G<|nl<|nx<|sq<|qg<|rl 3 [1] G G<|rl 2 [0] G G<|nl<|nx<|cdN G (fun h9 => ?_) (fun h9 => ?_)
 ·
  have e9 : (!decide (x.fGroup = y.fGroup)) = true := (not_dectrue h9)
  refine sq<|sb 5 [1,0] G G<|cdP G (fun h14 => ?_) (fun h14 => ?_)
  ·
   have e14 : (decide (x.fGroup < y.fGroup)) = true := (decide_eq_true h14)
   exact sa 1 G<|rt<|tR<|tR<|dpQ<|dpQ<|fR1 () G G (by rw [orderP, e9, e14]; try rfl) G Sn
  ·
   have e14 : (decide (x.fGroup < y.fGroup)) = false := (decide_eq_false h14)
   exact sk<|nx<|sa 1 G<|rt<|tR<|dpQ<|dpQ<|fR1 () G G (by rw [orderP, e9, e14]; try rfl) G Sn
 ·
  have e9 : (!decide (x.fGroup = y.fGroup)) = false := (not_decfalse h9)
  exact sk<|nx<|qg<|rl 4 [1,0] G G<|cfv (compare_c _ _) (Kg G) G Sn G<|ru 1 G<|nl<|nx<|rt<|dpQ<|dpQ<|fR1 () G G (by rw [orderP, e9]; try rfl) G Sn
theorem lcheck_c (v_l : Value) (l : List TRight) : FnV Pg 59 [v_l] [⟨v_l, l⟩] (.int .i64 (errF (ledgerP l))) := by
 refine Fnc.proof Tryz.func59 G 30 G G fun X w => sa 1 G<|sq<|qg<|mv G G<|lnP 0 G G Tryz.underlying29 G fun l6 => mv G G<|nl<|nx<|bk<|lpC (σ := Nat) [(0, _), (5, _), (6, _)] _ (fun i C => (7, .int .i64 (i : Int)) :: C) (fun i => i ≤ l.length ∧ (∀ j, j < i → (!ledgerj l j) = true)) (fun i => l.length - i) 0 (Gs G) (Sc 0 G Sn) ⟨Nat.zero_le _, fun j hj => absurd hj (Nat.not_lt_zero j)⟩ (Gs G) ?_
 rintro i ⟨hi, hall⟩
 refine sa 1 G<|sq<|cdP G (fun h8 => ?_) (fun h8 => ?_)
 ·
  refine sk<|nx<|sq<|bk<|qg<|mv G G<|ixQ 0 G G G slt_29 G fun v10 => ldS 0 G G (Rg G) G fun q11 w11 => al zero_59 G fun b4 => ru 1 G<|stW 0 (us := (cRight ((l.getD i default)))) G G G (Rg G) G G<|nl<|nx<|sq<|rgQ mixed (by kernel_rfl)<|ldM 0 (cRight ((l.getD i default))) G G (Rg G) G G<|cfq (lmay_c _ w11) (Kg G) G Sn G<|ru 2 G ?_
  refine jz 15 13 [0,5,6,7] G G (fun h15 K28 => by
   have p15 := h15
   try simp only [Bool.or_eq_false_iff, Bool.and_eq_true, decide_eq_true_eq, decide_eq_false_iff_not, Bool.not_eq_true', Bool.not_eq_false'] at p15
   refine ru 3 G ?_
   refine jy 18 9 [0,5,6,7,15] G G (fun h18 K27 => by
    have p18 := of_decide_eq_true h18
    exact ru 2 G<|gY G G G<|sbI G G inI G<|gY G G G<|ixQ 2 G G G slt_29 G fun v22 => gY G G G<|ldS 0 G G (Rg G) G fun q23 w23 => gY G G G<|ldM 0 (cRight ((l.getD i default))) G G (Rg G) G G<|gY G G G<|cfq (order_c _ _ w23 w11) (Kg G) G Sn G<|ru 2 G<|K27 G (SubD.tail (SubD.tail Sr))) ?_
   exact ru 1 G<|K28 G Sr) ?_
  refine nlQ<|nx<|cdB G (fun h28 => ?_) (fun h28 => ?_)
  · exact sa 1 G<|rt<|bR<|tR<|tR<|bR<|tR<|dpQ<|fR1 () G G (by rw [ledgerP, allI_false i (by omega) (not_t h28)]; try rfl) G Sn
  ·
   refine sk<|bN<|nx<|rg<|adI G G inI G<|mv G G<|nl<|dpQ ?_
   exact ag (i + 1) ⟨(by omega), (all_snoc hall (not_f h28))⟩ (by omega) (Gs G) G (Sc 2 G Sn)
 · exact ex<|tE<|tE<|bE<|nx<|sa 1 G<|rt<|fR1 () G G (by rw [ledgerP, allI_true (fun j hj => hall j (by omega))]; try rfl) G Sn
end Go.Proofs.YtmpoffijcfaalaaGreat
namespace Go.Proofs.YtmpoffijcfaalaaGreat
open Go.Eng
theorem zero_24 : ZeroOf Pg 24 [.int .i64 0, .int .i64 0, .int .i64 0, .string ByteArray.empty, .string ByteArray.empty, .int .i64 0, .int .i64 0] := ZeroOf.mk (by kernel_rfl)
theorem slt_28 : SliceTy Pg 28 55 29 := ⟨Tryz.underlying28, by kernel_rfl⟩
theorem slt_51 : SliceTy Pg 51 108 11 := ⟨Tryz.underlying51, by kernel_rfl⟩
theorem zero_108 : ZeroOf Pg 108 [.int .i64 0, .int .i64 0, .int .i64 0, .int .i64 0, .int .i64 0, .int .i64 0, .string ByteArray.empty, .string ByteArray.empty, .int .i64 0, .int .i64 0, .int .i64 0] := ZeroOf.mk (by kernel_rfl)
theorem zero_55 : ZeroOf Pg 55 [.int .i64 0, .int .i64 0, .bool false, .string ByteArray.empty, .string ByteArray.empty, .int .i64 0, .slice none 0 0, .slice none 0 0, .slice none 0 0, .slice none 0 0, .slice none 0 0, .int .i64 0, .int .i64 0, .int .i64 0, .string ByteArray.empty, .string ByteArray.empty, .int .i64 0, .int .i64 0, .int .i64 0, .int .i64 0, .int .i64 0, .string ByteArray.empty, .string ByteArray.empty, .int .i64 0, .int .i64 0, .slice none 0 0, .int .i64 0, .int .i64 0, .int .i64 0] := ZeroOf.mk (by kernel_rfl)
theorem zero_211 : ZeroOf Pg 211 [.int .i64 0, .int .u64 0] := ZeroOf.mk (by kernel_rfl)
theorem app_22 : AppTy Pg 22 90 3 32 := AppTy.mk Tryz.underlying22 (by kernel_rfl) (by decide)
theorem app_28 : AppTy Pg 28 55 29 376 := AppTy.mk Tryz.underlying28 (by kernel_rfl) (by decide)
theorem fdv_211_0 : FieldV Tryz.prog 211 0 0 := ⟨_, _, _, Tryz.underlying211, rfl, rfl, Tryz.underlying2, rfl⟩
theorem slt_35 : SliceTy Pg 35 5 1 := ⟨Tryz.underlying35, by kernel_rfl⟩
theorem zero_27 : ZeroOf Pg 27 [.int .i64 0, .slice none 0 0, .int .i64 0, .int .i64 0, .int .i64 0, .int .i64 0, .int .i64 0, .string ByteArray.empty, .string ByteArray.empty, .int .i64 0, .int .i64 0, .slice none 0 0] := ZeroOf.mk (by kernel_rfl)
theorem zero_32 : ZeroOf Pg 32 [.int .i64 0, .int .i64 0, .int .i64 0, .slice none 0 0, .int .i64 0, .int .i64 0, .int .i64 0, .int .i64 0, .int .i64 0, .string ByteArray.empty, .string ByteArray.empty, .int .i64 0, .int .i64 0, .slice none 0 0, .slice none 0 0, .slice none 0 0, .slice none 0 0] := ZeroOf.mk (by kernel_rfl)
theorem app_145 : AppTy Pg 145 150 11 112 := AppTy.mk Tryz.underlying145 (by kernel_rfl) (by decide)
theorem app_25 : AppTy Pg 25 122 7 56 := AppTy.mk Tryz.underlying25 (by kernel_rfl) (by decide)
theorem app_272 : AppTy Pg 272 50 1 24 := AppTy.mk Tryz.underlying272 (by kernel_rfl) (by decide)
theorem app_50 : AppTy Pg 50 70 10 104 := AppTy.mk Tryz.underlying50 (by kernel_rfl) (by decide)
theorem app_51 : AppTy Pg 51 108 11 104 := AppTy.mk Tryz.underlying51 (by kernel_rfl) (by decide)
theorem app_52 : AppTy Pg 52 126 8 80 := AppTy.mk Tryz.underlying52 (by kernel_rfl) (by decide)
theorem app_53 : AppTy Pg 53 129 2 16 := AppTy.mk Tryz.underlying53 (by kernel_rfl) (by decide)
theorem app_66 : AppTy Pg 66 165 4 32 := AppTy.mk Tryz.underlying66 (by kernel_rfl) (by decide)
theorem app_72 : AppTy Pg 72 78 4 40 := AppTy.mk Tryz.underlying72 (by kernel_rfl) (by decide)
theorem app_75 : AppTy Pg 75 32 17 232 := AppTy.mk Tryz.underlying75 (by kernel_rfl) (by decide)
theorem slt_145 : SliceTy Pg 145 150 11 := ⟨Tryz.underlying145, by kernel_rfl⟩
theorem slt_272 : SliceTy Pg 272 50 1 := ⟨Tryz.underlying272, by kernel_rfl⟩
theorem slt_71 : SliceTy Pg 71 29 1 := ⟨Tryz.underlying71, by kernel_rfl⟩
theorem slt_72 : SliceTy Pg 72 78 4 := ⟨Tryz.underlying72, by kernel_rfl⟩
theorem slt_75 : SliceTy Pg 75 32 17 := ⟨Tryz.underlying75, by kernel_rfl⟩
theorem zero_145 : ZeroOf Pg 145 [.slice none 0 0] := ZeroOf.mk (by kernel_rfl)
theorem zero_150 : ZeroOf Pg 150 [.string ByteArray.empty, .int .i64 0, .int .i64 0, .int .i64 0, .int .i64 0, .slice none 0 0, .int .i64 0, .int .i64 0, .int .i64 0, .int .i64 0, .int .i64 0] := ZeroOf.mk (by kernel_rfl)
end Go.Proofs.YtmpoffijcfaalaaGreat
namespace Go.Proofs.YtmpoffijcfaalaaGreat
open Go.Eng Go.YtmpoffijcfaalaaGreat
theorem cmpC_c (x y : Tcounted) (x_0 y_0 : Value) (h_x : x.wf) (h_y : y.wf) : FnV Pg 86 [.agg (ccounted x x_0).toArray, .agg (ccounted y y_0).toArray] [⟨x_0, x.fAccount.fHolders⟩, ⟨y_0, y.fAccount.fHolders⟩] (.int .i64 (cmpC x y)) := by
 exact Fnc.proof Tryz.func86 G 12 G G fun X w => qg<|bx G G G fun b2 => bx G G G fun b3 => ru 1 G<|nl<|nx<|qg<|rl 4 [1] G G<|rl 2 [0] G G<|cfv (compare_c _ _) (Kg G) G Sn G<|ru 1 G<|nl<|nx<|rt<|dpQ<|dpQ<|fR1 () G G (by rfl) G Sn
end Go.Proofs.YtmpoffijcfaalaaGreat
namespace Go.Proofs.YtmpoffijcfaalaaGreat.Ep
open Go.Eng
theorem app_22 : AppTy Pg 22 90 3 32 := AppTy.mk Tryz.underlying22 (by kernel_rfl) (by decide)
theorem zero_22 : ZeroOf Pg 22 [.slice none 0 0] := ZeroOf.mk (by kernel_rfl)
end Go.Proofs.YtmpoffijcfaalaaGreat.Ep
namespace Go.Proofs.YtmpoffijcfaalaaGreat.Ep
open Go.Eng Go.YtmpoffijcfaalaaGreat
theorem clonePl_c (sv : Value) (l : List TPlace) (hlen : l.length ≤ 7) : Fnc Pg 71 [sv] [] [⟨sv, l⟩] (fun (_ : Unit) _ => True) (fun _ _ => []) (fun _ v => [⟨v, l⟩]) := by
 refine Fnc.proof Tryz.func71 G 8 G G fun X w => sa 1 G<|sq<|qg<|mv G G<|eqN 0 Tryz.underlying22 G G G G fun q4 n4 => nl<|nx<|cdB G (fun h4 => ?_) (fun h4 => ?_)
 ·
  have hx : l = [] := n4 h4
  subst hx
  exact emC (α := TPlace)<|sa 1 G<|rt<|tR<|fR1 () G G trivial G (Sc 0 G Sn)
 · exact sk<|nx<|qg<|bs0 app_22 G fun b5 => rwB (α := TPlace) [] [] G G (fun _ _ _ => trivial) G<|mv G G<|ap 0 0 G G G G app_22 (by simp only [List.length_nil]; omega) (by simp only [List.length_nil]; omega) G fun v7 => ru 1 G<|nl<|nx<|rt<|frRQ<|fR1 () G G trivial G (Sc 0 G Sn)
theorem all_c (sv : Value) (l : List TPlace) (hlen : l.length ≤ 7) : Fnc Pg 231 [sv] [] [⟨sv, l⟩] (fun (y : Nat × Value) v => v = .func (.func 280) #[] #[.pointer (some ⟨y.1, 0, none⟩)]) (fun y _ => [bl y.1 22 [y.2]]) (fun y _ => [⟨y.2, l⟩]) := by
 exact Fnc.proof Tryz.func231 G 7 G G fun X w => sa 1 G<|qg<|mv G G<|cf (clonePl_c sv l hlen) (Kg G) G (Sc 0 G Sn) G fun _ v5 _ => al zero_22 G fun b3 => stL 0 0 G G G G (Og G) (nlt G)<|nl<|nx<|qg<|mf (xs := [.tmp 3]) G G<|ru 1 G<|nl<|nx<|rt<|fR1 (b3, v5) G G G G (Sc 0 G Sn)
end Go.Proofs.YtmpoffijcfaalaaGreat.Ep
namespace Go.Proofs.YtmpoffijcfaalaaGreat.Ep
open Go.Eng Go.YtmpoffijcfaalaaGreat Go.RowKit
def item (l : List TPlace) (j : Nat) : ByteArray × TPlace := (endP l j, l.getD j default)
def upto (l : List TPlace) (k : Nat) : List (ByteArray × TPlace) := (List.range k).map (item l)
theorem upto_succ (l : List TPlace) (k : Nat) : upto l (k + 1) = upto l k ++ [item l k] := by simp [upto, List.range_succ]
theorem upto_len (l : List TPlace) (k : Nat) : (upto l k).length = k := by simp [upto]
def encs (x : ByteArray × TPlace) : Array Value := #[.string x.1, .agg (cPlace x.2).toArray]
theorem stp_own {b : Nat} {w w' : World} (h : Stp [b] w w') (hb : w'.heap[b]? = w.heap[b]?) : Stp [] w w' := ⟨h.os, h.tape, h.output, h.size, fun k hk _ => by
 by_cases e : k = b
 ·
  subst e; exact hb
 · exact h.block k hk (by simpa using e)⟩
theorem bl_at {b : Nat} {cs : List Value} {T : TypeId} {w w0 : World} {L : Go.Eng.Own} {M : List Nat} (i : Nat) (hi : L[i]? = some (bl b T cs)) (st : St w0 M w L) : w.heap[b]? = some (.cells cs.toArray T (0, 0)) := st.own _ (List.mem_of_getElem? hi)
theorem start_st {b1 : Nat} {k5 : Value} {w : World} (box : w.heap[b1]? = some (.cells #[k5] 22 (0, 0))) : St w [b1] w [bl b1 22 [k5]] := ⟨Stp.refl _ _, fun p hp => by
 have : p = bl b1 22 [k5] := by simpa using hp
 subst this
 exact box, by simp [Own.bs, bsOf], fun b hb => .inl (by simpa [Own.bs, bsOf] using hb)⟩
theorem start_dh {b1 b3 n₀ : Nat} {k5 : Value} {w : World} {l : List TPlace} (hl : Atom.holds ⟨k5, l⟩ (fun b => b < n₀ ∧ b ≠ b1 ∧ b ≠ b3) w) (hn : n₀ ≤ w.heap.size) : DH [⟨k5, l⟩] w [bl b1 22 [k5]] := fun t ht => by
 have : t = ⟨k5, l⟩ := by simpa using ht
 subst this
 exact Atom.keep hl (fun b h => ⟨Nat.lt_of_lt_of_le h.1 hn, by simpa [Own.bs, bsOf] using h.2.1⟩) (fun _ _ => G)
theorem iter (n ll : Nat) (J Jx : List (ByteArray × TPlace) → World → Prop) (W : World) (b1 b3 n₀ : Nat) (k5 : Value) (l : List TPlace) (hb1 : b1 < n₀) (hne : b1 ≠ b3) (hn0 : n₀ ≤ W.heap.size)
  (box : W.heap[b1]? = some (.cells #[k5] 22 (0, 0))) (hl : Atom.holds ⟨k5, l⟩ (fun b => b < n₀ ∧ b ≠ b1 ∧ b ≠ b3) W) (hlen : l.length ≤ 7) (hJ : AbidesFrom W.heap.size J) (hJx : AbidesFrom W.heap.size Jx)
  (hY : ∀ pre x W1, J pre W1 → pre.length < l.length → YieldAt Fence.wide (n - 1) Tryz.prog ll (encs x) W1 fun e W' => (e = .returned (.bool true) ∧ J (pre ++ [x]) W' ∧ KB n₀ b3 W1 W') ∨ (e = .returned (.bool false) ∧ Jx (pre ++ [x]) W'))
  (h0 : J [] W) : Ret Tryz.prog 280 [.func (.yield ll) #[] #[], .pointer (some ⟨b1, 0, none⟩)] W (fun _ w' => J (upto l l.length) w' ∨ ∃ k, k ≤ l.length ∧ Jx (upto l k) w') := by
 have keepJ : ∀ {pre : List (ByteArray × TPlace)} {w w' : World}, J pre w → Stp [b1] w w' → w'.heap[b1]? = w.heap[b1]? → J pre w' := fun hj hs hb => hJ _ _ _ none hj (stp_own hs hb).grown (fun r h => by cases h)
 refine enter [b1] [bl b1 22 [k5]] [⟨k5, l⟩] Tryz.func280 G 20 G (Nat.le_of_ble_eq_true G) (start_st box) (start_dh hl hn0)<|qg<|rl 1 [0] G G<|lnP 0 G G Tryz.underlying22 G fun l6 => mv G G<|nl<|nx<|bk ?_
 refine lpW (σ := Nat) (fun i => [(7, .int .i64 (i : Int)), (6, .int .i64 (l.length : Int)), (5, k5), (1, .pointer (some ⟨b1, 0, none⟩)), (0, .func (.yield ll) #[] #[])])
  (fun i w => i ≤ l.length ∧ J (upto l i) w ∧ KB n₀ b3 W w) (fun i => l.length - i) 0 ⟨rfl, rfl, rfl, rfl, rfl, trivial⟩ ?_ ?_
 ·
  intro w st dh
  have hb := bl_at 0 rfl st
  refine ⟨Nat.zero_le _, keepJ h0 st.stp (hb.trans box.symm), ?_⟩
  have := stp_own st.stp (hb.trans box.symm)
  exact this.kb hn0 (by simp)
 ·
  rintro i w ⟨hi, hJw, hB⟩ a f
  have box' : w.heap[b1]? = some (.cells #[k5] 22 (0, 0)) := (hB.block b1 hb1 hne).trans box
  have hl' : Atom.holds ⟨k5, l⟩ (fun b => b < n₀ ∧ b ≠ b1 ∧ b ≠ b3) w := Atom.keep hl (fun _ h => h) (fun b h => hB.block b h.1 h.2.2)
  have hn' : n₀ ≤ w.heap.size := Nat.le_trans hn0 hB.size
  refine (show WC ⟨Tryz.prog, 20, w, [b1]⟩ _ _ _ [bl b1 22 [k5]] [⟨k5, l⟩] from ?_) a w f (start_st box') (start_dh hl' hn')
  refine sa 1 G<|sq<|cdP G (fun h8 => ?_) (fun h8 => ?_)
  ·
   refine sk<|nx<|sq<|bk<|qg<|mv G G<|ixQ 0 G G G slt_22 G fun v10 => ldS 0 G G (Rg G) G fun q11 w11 => al zero_90 G fun b4 => ru 1 G<|stW 0 (us := cPlace (l.getD i default)) G G G (Rg G) G G<|nl<|nx<|sq<|rgTail (n := n) (hd := 5) ⟨fun q_ => ([[], [], [], [1, 2], [], [], []] : List (List Nat)).getD q_ [], fun _ _ => True, fun _ _ => [], fun q_ => ([some (.func (.yield ll) #[] #[]), some k5, some (.int .i64 (i : Int)), some (.string (endP l i)), some (.agg (cPlace (l.getD i default)).toArray)] : List (Option Value)).getD q_ none, fun _ _ => [bl b4 90 (cPlace (l.getD i default)), bl b1 22 [k5]], [], [[]]⟩ ?_ mixed ?_ ?_ ?_ ?_ ?_ ?_
   · rfl
   · rfl
   · exact Nat.le_of_ble_eq_true G
   · rfl
   · exact ⟨fun V De _=>aP1 (mv G G<|oh G G G G),fun V De _=>aP1 (ldB 1 G G (Og G) G G<|oh G G G G),fun V De _=>aP1 (mv G G<|oh G G G G),fun V De _=>aP1 (cfv (end_c k5 l (i : Int) inI) (Kg G) G (Sc 2 G Sn) G<|oh G G G G),fun V De _=>aP1 (ldM 0 (cPlace (l.getD i default)) G G (Rg G) G G<|oh G G G G),trivial⟩
   ·
    intro listed hcl i5 h5 h7 hp
    have h7 : i5 < 7 := h7
    have : i5 = 5 ∨ i5 = 6 := by omega
    have g : listed.getD 0 false = true ∧ listed.getD 1 false = true ∧ listed.getD 2 false = true ∧ listed.getD 3 false = true ∧ listed.getD 4 false = true := by
     rcases this with rfl | rfl
     ·
      have g3 := hp 3 rfl
      exact ⟨hp 0 G, hcl 3 1 g3 G, hcl 3 2 g3 G, g3, hp 4 G⟩
     ·
      have g5 := hp 5 rfl
      have g3 := hcl 5 3 g5 rfl
      exact ⟨hcl 5 0 g5 G, hcl 3 1 g3 G, hcl 3 2 g3 G, g3, hcl 5 4 g5 G⟩
    intro k hk
    match k, hk with
    | 0, _ => exact g.1
    | 1, _ => exact g.2.1
    | 2, _ => exact g.2.2.1
    | 3, _ => exact g.2.2.2.1
    | 4, _ => exact g.2.2.2.2
   ·
    intro V _ a3 w3 f3 st3 dh3
    have hb3 := bl_at 1 rfl st3
    have hJ3 := keepJ hJw st3.stp (hb3.trans box'.symm)
    have hB3 : KB n₀ b3 w w3 := (stp_own st3.stp (hb3.trans box'.symm)).kb hn' (by simp)
    obtain ⟨fn, tmps, assign, body, hy, hR⟩ := hY (upto l i) (item l i) w3 hJ3 (by rw [upto_len]; omega)
    refine wpAnyIn_all (rs := [5]) (by kernel_rfl) (by simp) fun j hj => ?_
    have : j = 5 := by simpa using hj
    subst this
    refine wpOpIn_plain G G (round_in G G (fun _ => trivial) (run_round G (f3.ev G) (f3.evs G) hy) (hR.mono ?_))
    rintro e W' (⟨rfl, hJ4, hk4⟩ | ⟨rfl, hJ4⟩)
    ·
     refine ⟨_, G, wpAnyIn_all (rs := [6]) (by kernel_rfl) (by simp) fun j hj => ?_⟩
     have : j = 6 := by simpa using hj
     subst this
     have f4 := f3.put (d := 17) (.bool true) (by show 17 < 20; decide)
     refine wpOpIn_plain G G (not_in G G (f4.ev G) (fun _ => trivial) (wpAnyIn_done (by kernel_rfl) ?_ _))
     have f5 := f4.put (d := 18) (.bool false) (by show 18 < 20; decide)
     refine (show WC ⟨Tryz.prog, 20, W', []⟩ _ _ _ [] [] from ?_) _ W' f5 (St.start W' []) DH.nil
     refine cdF G<|sk<|bN<|nx<|rg<|adI G G inI G<|mv G G<|nl ?_
     intro a6 w6 f6 st6 _
     have e6 : Stp [] W' w6 := st6.stp
     refine ⟨i + 1, by omega, f6.sub (Gs G), by omega, ?_, ?_⟩
     ·
      rw [upto_succ]
      exact hJ _ _ _ none hJ4 e6.grown (fun r h => by cases h)
     · exact hB.trans (hB3.trans (hk4.trans (e6.kb (Nat.le_trans hn' (Nat.le_trans hB3.size hk4.size)) (by simp))))
    ·
     refine ⟨_, G, wpAnyIn_all (rs := [6]) (by kernel_rfl) (by simp) fun j hj => ?_⟩
     have : j = 6 := by simpa using hj
     subst this
     have f4 := f3.put (d := 17) (.bool false) (by show 17 < 20; decide)
     refine wpOpIn_plain G G (not_in G G (f4.ev G) (fun _ => trivial) (wpAnyIn_done (by kernel_rfl) ?_ _))
     have f5 := f4.put (d := 18) (.bool true) (by show 18 < 20; decide)
     refine (show WC ⟨Tryz.prog, 20, W', []⟩ _ _ _ [] [] from ?_) _ W' f5 (St.start W' []) DH.nil
     refine cdT G<|rt<|bR<|tR<|tR<|bR ?_
     intro a6 w6 f6 st6 _
     have e6 : Stp [] W' w6 := st6.stp
     refine bodyPost_ret (results_none G _ _ _) f6.dn ⟨_, G, .inr ⟨i + 1, by omega, ?_⟩⟩
     rw [upto_succ]
     exact hJx _ _ _ none hJ4 e6.grown (fun r h => by cases h)
  ·
   refine ex<|tE<|tE<|bE ?_
   intro a' w' f' st' dh'
   have e : i = l.length := by omega
   subst e
   exact bodyPost_end (results_none G _ _ _) f'.dn ⟨_, G, .inl (keepJ hJw st'.stp ((bl_at 0 G st').trans box'.symm))⟩
end Go.Proofs.YtmpoffijcfaalaaGreat.Ep
