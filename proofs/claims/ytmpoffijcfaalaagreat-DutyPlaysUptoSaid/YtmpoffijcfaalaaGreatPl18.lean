/- Part 18 of dutyPlays_holds. -/
import Derived.Test.YtmpoffijcfaalaaGreatPl17

set_option maxRecDepth 20000
set_option maxHeartbeats 1000000
namespace Go.Proofs.YtmpoffijcfaalaaGreat
open Go.Eng Go.YtmpoffijcfaalaaGreat
section
variable (v : TScene) (v_0 v_1 v_2 v_3 v_4 : Value) (S : TState) (S_0 S_1 S_2 S_3 S_4 S_5 : Value) (key : ByteArray) (d : TDeal) (v_l : Value) (l : List TEnd) (c q : Int)
theorem age_c (h_v : v.wf) (h_c : InI c) (h_q : InI q) : FnV Pg 105 [.agg (cScene v v_0 v_1 v_2 v_3 v_4).toArray, .int .i64 c, .int .i64 q] [⟨v_0, v.fChart.fPlaces⟩, ⟨v_1, v.fChart.fMarks⟩, ⟨v_2, v.fStates⟩, ⟨v_3, v.fRights⟩, ⟨v_4, v.fAges⟩] (.int .i64 (ageP v.fAges c q v.fAges.length)) := by
 refine Fnc.proof Tryz.func105 G 33 G G fun X w => ?_
 obtain ⟨h_c1, h_c2⟩ := id h_c
 obtain ⟨h_q1, h_q2⟩ := id h_q
 refine qg<|bx G G G fun b3 => ru 1 G<|nl<|nx<|sa 1 G<|sq<|qg<|rl 2 [0] G G<|lnP 4 G G Tryz.underlying30 G fun l12 => mv G G<|nl<|nx<|bk<|lpC (σ := Nat) [(1, _), (2, _), (11, _), (12, _)] _ (fun i C => (13, .int .i64 (i : Int)) :: (7, .int .i64 (ageP v.fAges c q i)) :: C) (fun i => i ≤ v.fAges.length) (fun i => v.fAges.length - i) 0 (Gs G) (Sc 0 G (Sc 1 G (Sc 2 G (Sc 3 G (Sc 4 G Sn))))) (Nat.zero_le _) (Gs G) ?_
 intro i hi
 refine sa 1 G<|sq<|cdP G (fun h14 => ?_) (fun h14 => ?_)
 ·
  refine sk<|nx<|sq<|bk<|qg<|ixP 4 G G G slt_30 (by omega) (gE (by omega)) G fun v15 => ldS 0 G G (Rg G) G fun q16 w16 => al zero_62 G fun b9 => stW 0 (us := (cAge ((v.fAges.getD i default)))) G G G (Rg G) G G<|nl<|nx<|qg<|rl 5 [0] G G<|ja 21 5 [0] [1,2,7,9,11,12,13] G G G<|nl<|nx<|cdB G (fun h26 => ?_) (fun h26 => ?_)
  ·
   refine rg<|rl 3 [0] G G<|mxI G G G G<|ru 1 G<|nl<|bN<|nx<|rg<|adI G G (inI (by omega) (by omega)) G<|mv G G<|nl<|dpQ ?_
   rw [show max (ageP v.fAges c q i) (v.fAges.getD i default).fTicks = ageP v.fAges c q (i + 1) from (age_T h26).symm]
   exact ag (i + 1) (by omega) (by omega) (Gs G) G (Si [2,3,4,5,6] G)
  ·
   refine sk<|bN<|nx<|rg<|adI G G (inI (by omega) (by omega)) G<|mv G G<|nl<|dpQ ?_
   rw [show ageP v.fAges c q i = ageP v.fAges c q (i + 1) from (age_F h26).symm]
   exact ag (i + 1) (by omega) (by omega) (Gs G) G (Si [2,3,4,5,6] G)
 · exact ex<|tE<|tE<|bE<|nx<|sa 2 G<|rt<|dpQ<|fR1 () G G (by rw [show i = v.fAges.length by omega]) G Sn
theorem whose_c (h_v : v.wf) (hp : 0 < v.fChart.fPlaces.length) : FnV Pg 112 [.agg (cScene v v_0 v_1 v_2 v_3 v_4).toArray, .string key] [⟨v_0, v.fChart.fPlaces⟩, ⟨v_1, v.fChart.fMarks⟩, ⟨v_2, v.fStates⟩, ⟨v_3, v.fRights⟩, ⟨v_4, v.fAges⟩] (.int .i64 (whoseP v key)) := by
 refine Fnc.proof Tryz.func112 G 16 G G fun X w => ?_
 have hfl := findP_lt (k := key) hp
 exact qg<|bx G G G fun b2 => ru 1 G<|nl<|nx<|sq<|rgQ mixed (by kernel_rfl)<|rl 6 [0,0] G G<|mv G G<|cfq (find_c _ _ _) ok_35 G (Sc 0 G Sn) G<|ixP 0 G G G slt_22 (by omega) (gE (by omega)) G fun v13 => faP (α := TPlace) (β := Int) 0 (fun x : TPlace => x.fGroup) G G (Fg G) pPlace_0 G fun v14 => ldV 0 G G (Og G) G fun w15 => ru 1 G<|nlQ<|nx<|rt<|dpQ<|fR1 () G G (by rfl) G Sn
theorem ownA_c (a : TAccount) (a_0 : Value) (h_a : a.wf) (hb : a.fHolders.length ≤ 100000) : Fnc Pg 281 [.agg (cAccount a a_0).toArray] [] [⟨a_0, a.fHolders⟩] (fun (y : Value) u => u = .agg (cAccount a y).toArray) (fun _ _ => []) (fun y _ => [⟨y, a.fHolders⟩]) := by
 refine Fnc.proof Tryz.func281 G 8 G G fun X w => qg<|bx G G G fun b1 => al zero_70 G fun b2 => nl<|nx<|qg<|rl 2 [1] G G<|cf (cloneHo_c _ _ hb) ok_144 G (Sc 0 G Sn) G fun _ v5 _ => ru 1 G<|stL 1 0 G G G G (Og G) (nlt G)<|nl<|nx<|qg ?_
 have hbr := h_a
 exact ldM 1 (cAccount ((⟨a.fKey, (⟨a.fSpan.fLo, a.fSpan.fHi⟩ : TSpan), a.fBase, a.fRound, a.fHolders, (⟨a.fLock.fClient, a.fLock.fSeq, a.fLock.fHome, a.fLock.fN⟩ : TLock)⟩ : TAccount)) v5) G G (Rg G) G G<|oc 0 G fun o_v5 => stW 0 (us := (cAccount ((⟨a.fKey, (⟨a.fSpan.fLo, a.fSpan.fHi⟩ : TSpan), a.fBase, a.fRound, a.fHolders, (⟨a.fLock.fClient, a.fLock.fSeq, a.fLock.fHome, a.fLock.fN⟩ : TLock)⟩ : TAccount)) v5)) G G G (Rg G) (by simp only [List.all_cons, List.all_nil, Bool.and_true, o_v5]; rfl) G<|nl<|nx<|rt<|fRG v5 [_, _] (rC 0 G G G (Rg G)) (by rfl) G (Sc 0 G Sn)
theorem newA_c (k : ByteArray) : FnV Pg 282 [.string k] [] (.tuple #[.agg (cAccount (new15 k) nS).toArray, .int .i64 (newE k)]) := by
 refine Fnc.proof Tryz.func282 G 15 G G fun X w => qg<|al zero_70 G fun b2 => ru 1 G<|nl<|nx<|sq<|qg<|mv G G<|lnS G Tryz.underlying9 G<|ru 2 G ?_
 refine jz 7 4 [0,2] G G (fun h7 K11 => by
  have p7 := of_decide_eq_false h7
  exact ru 1 G<|gY G G G<|lnS G Tryz.underlying9 G<|ru 2 G<|K11 G Sr) ?_
 refine nl<|nx<|cdB G (fun h11 => ?_) (fun h11 => ?_)
 · exact qg<|bd (ps := []) (cs := (cAccount ((⟨ByteArray.empty, (⟨0, 0⟩ : TSpan), 0, 0, [], (⟨0, 0, 0, 0⟩ : TLock)⟩ : TAccount)) nS)) (by rfl) (by kernel_rfl) G<|stW 0 (us := (cAccount ((⟨ByteArray.empty, (⟨0, 0⟩ : TSpan), 0, 0, [], (⟨0, 0, 0, 0⟩ : TLock)⟩ : TAccount)) nS)) G G G (Rg G) G G<|ru 1 G<|nl<|nx<|rt<|tR<|fRG () [_] (rCT 0 G G G G (Rg G)) (by have q : okKey k = false := (by rw [okKey_nil]; have q := h11; simp only [Bool.or_eq_true, decide_eq_true_eq] at q; rw [isNil_size]; simp; omega); rw [new15, newE, q]; rfl) G Sn
 · exact sk<|nx<|qg<|mv G G<|bd (ps := [(0, .tmp 13)]) (cs := (cAccount ((⟨k, (⟨0, 0⟩ : TSpan), 0, 0, [], (⟨0, 0, 0, 0⟩ : TLock)⟩ : TAccount)) nS)) (by rfl) (by kernel_rfl) G<|stW 0 (us := (cAccount ((⟨k, (⟨0, 0⟩ : TSpan), 0, 0, [], (⟨0, 0, 0, 0⟩ : TLock)⟩ : TAccount)) nS)) G G G (Rg G) G G<|ru 1 G<|nl<|nx<|rt<|fRG () [_] (rCT 0 G G G G (Rg G)) (by have q : okKey k = true := (by rw [okKey_nil]; have q := h11; simp only [Bool.or_eq_false_iff, decide_eq_false_iff_not] at q; rw [isNil_size]; simp; omega); rw [new15, newE, q]; rfl) G Sn
theorem findA_c (s_0 s_1 s_2 s_3 s_4 s_5 : Value) (key : ByteArray) (A : TAccount) (hA : accAt S key = A) (h_S : S.wf) (hb : HolS S) : Fnc Pg 232 [.agg (cState S s_0 s_1 s_2 s_3 s_4 s_5).toArray, .string key] [] [⟨s_0, S.fAccounts⟩, ⟨s_1, S.fMarks⟩, ⟨s_2, S.fWaits⟩, ⟨s_3, S.fDeals⟩, ⟨s_4, S.fEnds⟩, ⟨s_5, S.fImage⟩] (fun (y : Value) u => u = .tuple #[.agg (cAccount A y).toArray, .bool (isAt S key)] ∧ A.wf) (fun _ _ => []) (fun y _ => [⟨y, A.fHolders⟩]) := by
 refine Fnc.proof Tryz.func232 G 30 G G fun X w => qg<|bx G G G fun b2 => al zero_70 G fun b4 => ru 1 G<|nl<|nx<|sq<|qg<|rl 2 [1] G G<|lnP 0 G G Tryz.underlying50 G fun l12 => mv G G<|nl<|nx<|bk<|lpC (σ := Nat) [(1, _), (4, _), (11, _), (12, _)] _ (fun i C => (13, .int .i64 (i : Int)) :: C) (fun i => i ≤ S.fAccounts.length ∧ (∀ j, j < i → decide ((S.fAccounts.getD j default).fKey = key) = false)) (fun i => S.fAccounts.length - i) 0 (Gs G) (Sc 0 G (Sc 1 G (Sc 2 G (Sc 3 G (Sc 4 G (Sc 5 G Sn)))))) ⟨Nat.zero_le _, fun j hj => absurd hj (Nat.not_lt_zero j)⟩ (Gs G) ?_
 rintro i ⟨hi, hall⟩
 refine sa 1 G<|sq<|cdP G (fun h14 => ?_) (fun h14 => ?_)
 ·
  refine sk<|nx<|sq<|bk<|qg<|ixP 0 G G G slt_50 (by omega) (gE (by omega)) G fun v15 => ldS 0 G G (Rg G) G fun q16 w16 => ?_
  refine al zero_70 G fun b7 => oc 1 G fun o_q16 => stW 0 (us := (cAccount ((S.fAccounts.getD i default)) q16)) G G G (Rg G) (by simp only [List.all_cons, List.all_nil, Bool.and_true, o_q16]; rfl) G<|nl<|nx<|sb 4 [0] G G<|cdP G (fun h20 => ?_) (fun h20 => ?_)
  ·
   have e1 : accO S key = some i := firstI_some (by omega) hall (decide_eq_true h20)
   have e2 : (S.fAccounts.getD i default) = A := by rw [← hA, accAt, e1]
   subst e2
   have e3 : isAt S key = true := by rw [isAt, e1]; rfl
   refine qg<|ldM 0 (cAccount ((S.fAccounts.getD i default)) q16) G G (Rg G) G G<|cf (ownA_c _ _ w16 (hb i)) ok_281 G (Sc 1 G Sn) G fun y22 v22 h22 => ?_
   subst h22
   exact oc 0 G fun o_y22 => stW 1 (us := (cAccount ((S.fAccounts.getD i default)) y22)) G G G (Rg G) (by simp only [List.all_cons, List.all_nil, Bool.and_true, o_y22]; rfl) G<|ru 1 G<|nl<|nx<|rt<|bR<|tR<|tR<|bR<|tR<|fRG y22 [_, _, _] (rCT 1 G G G G (Rg G)) (by rw [e3]; exact ⟨rfl, w16⟩) G (Sc 0 G Sn)
  ·
   refine sk<|bN<|nx<|rg<|adI G G (inI (by omega) (by omega)) G<|mv G G<|nl<|dpQ ?_
   exact ag (i + 1) ⟨(by omega), (all_snoc hall (decide_eq_false h20))⟩ (by omega) (Gs G) G (Si [3,4,5,6,7,8] G)
 ·
  have e1 : accO S key = none := firstI_none (fun k hk => hall k (by omega))
  have e2 : new15 key = A := by rw [← hA, accAt, e1]
  subst e2
  have e3 : isAt S key = false := by rw [isAt, e1]; rfl
  exact emC (α := THolder)<|ex<|tE<|tE<|bE<|nx<|qg<|mv G G<|cfv (newA_c _) ok_282 G Sn G<|ru 3 G<|al zero_70 G fun b8 => stW 0 (us := (cAccount ((new15 key)) nS)) G G G (Rg G) G G<|ru 1 G<|nl<|nx<|qg<|ldM 0 (cAccount ((new15 key)) nS) G G (Rg G) G G<|stW 1 (us := (cAccount ((new15 key)) nS)) G G G (Rg G) G G<|ru 1 G<|nl<|nx<|rt<|fRG nS [_, _, _] (rCT 1 G G G G (Rg G)) (by rw [e3]; exact ⟨rfl, new15_wf _⟩) G (Sc 0 G Sn)
theorem dlocked_c (h_S : S.wf) (h_d : d.wf) (hb : HolS S) : FnV Pg 174 [.agg (cState S S_0 S_1 S_2 S_3 S_4 S_5).toArray, .string key, .agg (cDeal d).toArray] [⟨S_0, S.fAccounts⟩, ⟨S_1, S.fMarks⟩, ⟨S_2, S.fWaits⟩, ⟨S_3, S.fDeals⟩, ⟨S_4, S.fEnds⟩, ⟨S_5, S.fImage⟩] (.bool (lockedS S key d.fClient d.fSeq)) := by
 refine Fnc.proof Tryz.func174 G 32 G G fun X w => qg<|bx G G G fun b3 => bx G G G fun b5 => ru 1 G<|nl<|nx<|qg<|ldM 1 (cState S S_0 S_1 S_2 S_3 S_4 S_5) G G (Rg G) G G<|mv G G<|cf (findA_c S _ _ _ _ _ _ key (accAt S key) G h_S hb) ok_232 G (Si [0,1,2,3,4,5] G) G fun y12 v12 h12 => ?_
 obtain ⟨e12, w12⟩ := h12
 subst e12
 exact ru 3 G<|al zero_70 G fun b7 => oc 0 G fun o_y12 => stW 0 (us := (cAccount ((accAt S key)) y12)) G G G (Rg G) (by simp only [List.all_cons, List.all_nil, Bool.and_true, o_y12]; rfl) G<|ru 1 G<|nl<|nx<|qg<|ru 2 G<|ja 16 7 [0,1] [5,7] G G G<|mv G G<|ja 24 7 [0,1] [] G G G<|ru 1 G<|nl<|nx<|rt<|dpQ<|dpQ<|dpQ<|fR1 () G G (by rfl) G Sn
theorem endD_c (h_c : InI c) : FnV Pg 233 [v_l, .int .i64 c] [⟨v_l, l⟩] (.tuple #[.int .i64 (endN l c : Int), .bool (isEnd l c)]) := by
 refine Fnc.proof Tryz.func233 G 27 G G fun X w => ?_
 obtain ⟨h_c1, h_c2⟩ := id h_c
 refine sa 2 G<|sq<|qg<|mv G G<|lnP 0 G G Tryz.underlying53 G fun l9 => mv G G<|nl<|nx<|bk<|lpC (σ := Nat) [(0, _), (1, _), (8, _), (9, _)] _ (fun i C => (10, .int .i64 (i : Int)) :: C) (fun i => i ≤ l.length ∧ (∀ j, j < i → decide ((l.getD j default).fClient ≥ c) = false)) (fun i => l.length - i) 0 (Gs G) (Sc 0 G Sn) ⟨Nat.zero_le _, fun j hj => absurd hj (Nat.not_lt_zero j)⟩ (Gs G) ?_
 rintro i ⟨hi, hall⟩
 refine sa 1 G<|sq<|cdP G (fun h11 => ?_) (fun h11 => ?_)
 ·
  refine sk<|nx<|sq<|bk<|qg<|mv G G<|ixP 0 G G G slt_53 (by omega) (gE (by omega)) G fun v13 => ldS 0 G G (Rg G) G fun q14 w14 => al zero_129 G fun b7 => ru 1 G<|stW 0 (us := (cEnd ((l.getD i default)))) G G G (Rg G) G G<|nl<|nx<|sb 4 [0] G G<|cdP G (fun h18 => ?_) (fun h18 => ?_)
  · exact sq<|rgQ mixed (by kernel_rfl)<|rl 7 [0] G G<|nlQ<|nx<|rt<|bR<|tR<|tR<|bR<|tR<|dpQ<|fR2 () G G G (by have e1 : endO l c = some i := firstI_some (by omega) hall (decide_eq_true h18); rw [endN, isEnd, e1]; rfl) G Sn
  ·
   refine sk<|bN<|nx<|rg<|adI G G (inI (by omega) (by omega)) G<|mv G G<|nl<|dpQ ?_
   exact ag (i + 1) ⟨(by omega), (all_snoc hall (decide_eq_false h18))⟩ (by omega) (Gs G) G (Sc 2 G Sn)
 · exact ex<|tE<|tE<|bE<|nx<|qg<|mv G G<|lnP 0 G G Tryz.underlying53 G fun l26 => ru 2 G<|nl<|nx<|rt<|fR2 () G G G (by have e1 : endO l c = none := firstI_none (fun k hk => hall k (by omega)); rw [endN, isEnd, e1]; rfl) G Sn
theorem past_c (h_c : InI c) (h_q : InI q) : FnV Pg 175 [v_l, .int .i64 c, .int .i64 q] [⟨v_l, l⟩] (.bool (pastP l c q)) := by
 refine Fnc.proof Tryz.func175 G 30 G G fun X w => ?_
 obtain ⟨h_c1, h_c2⟩ := id h_c
 obtain ⟨h_q1, h_q2⟩ := id h_q
 refine gtC (q := l.length ≤ 9223372036854775807) (fun S w h => list_len (h _ (List.mem_of_getElem? (i := 0) G))) fun hlen => sa 1 G<|qg<|ru 2 G<|cfv (endD_c _ _ _ h_c) ok_233 G (Sc 0 G Sn) G<|ru 3 G<|ru 2 G<|nl<|nx<|qg<|ru 2 G ?_
 refine jy 16 8 [0] G G (fun h16 K24 => by
  have hlt := isEnd_lt h16
  exact ru 2 G<|gY G G G<|ixP 0 G G G slt_53 (by omega) (gE (by omega)) G fun v19 => gY G G G<|faP (α := TEnd) (β := Int) 0 (fun x : TEnd => x.fSeq) G G (Fg G) pEnd_1 G fun v20 => gY G G G<|ldV 0 G G (Og G) G fun w21 => ru 3 G<|K24 G (SubD.tail (SubD.tail Sr))) ?_
 exact mv G G<|jy 25 4 [] G G (fun h25 K29 => ru 1 G<|gY G G G<|cfv (dends_c _ _) ok_184 G (Sc 0 G Sn) G<|ru 2 G<|K29 G Sr)<|ru 1 G<|nl<|nx<|rt<|fR1 () G G (by rfl) G Sn
theorem waits1_c (x : TWait) (v1 v2 : Value) (d : TDeal) (key : ByteArray) (h_x : x.wf) : FnV Pg 235 [.agg (cWait x).toArray, v1, v2] [⟨v1, (⟨d⟩ : Pt TDeal)⟩, ⟨v2, (⟨key⟩ : Pt ByteArray)⟩] (.bool (waitM key d.fClient d.fSeq x)) := by
 refine Fnc.proof Tryz.func235 G 24 G G fun X w => qg<|bx G G G fun b3 => ru 1 G<|nl<|nx<|qg<|rl 2 [0] G G<|faP (α := TDeal) (β := Int) 0 (fun x : TDeal => x.fClient) G G (Fg G) pDeal_0 G fun v7 => ldV 0 G G (Og G) G fun w8 => ru 2 G ?_
 refine jy 10 6 [2,3] G G (fun h10 K16 => by
  have p10 := of_decide_eq_true h10
  exact rl 2 [0] G G<|gY G G G<|faP (α := TDeal) (β := Int) 1 (fun x : TDeal => x.fSeq) G G (Fg G) pDeal_1 G fun v13 => gY G G G<|ldV 0 G G (Og G) G fun w14 => ru 2 G<|K16 G (SubD.tail Sr)) ?_
 refine mv G G ?_
 refine jy 17 6 [] G G (fun h17 K23 => by
  exact rl 3 [0] G G<|gY G G G<|ldV 2 G G (Og G) G fun w21 => ru 2 G<|K23 G Sr) ?_
 exact ru 1 G<|nl<|nx<|rt<|dpQ<|fR1 () G G (by rfl) G Sn
theorem indexWait_c (l : List TWait) (f : Nat) (caps : Array Value) (A : List Atom) (p : TWait → Bool) (hok : FnOk Pg f) (hcl : ∀ x : TWait, x.wf → FnV Pg f (.agg (cWait x).toArray :: caps.toList) A (.bool (p x))) : FnV Pg 283 [v_l, .func (.func f) #[] caps] (⟨v_l, l⟩ :: A) (.int .i64 (placeI (firstI l.length (fun j => p (l.getD j default))))) := by
 refine Fnc.proof Tryz.func283 G 19 G G fun X w => sa 1 G<|sq<|qg<|mv G G<|lnP 0 G G Tryz.underlying51 G fun l7 => mv G G<|nl<|nx<|bk<|lpC (σ := Nat) [(0, _), (1, _), (7, _)] _ (fun i C => (8, .int .i64 (i : Int)) :: C) (fun i => i ≤ l.length ∧ (∀ j, j < i → p (l.getD j default) = false)) (fun i => l.length - i) 0 (Gs G) (Sc 0 G (SubD.tail Sr)) ⟨Nat.zero_le _, fun j hj => absurd hj (Nat.not_lt_zero j)⟩ (Gs G) ?_
 rintro i ⟨hi, hall⟩
 refine sa 1 G<|sq<|cdP G (fun h9 => ?_) (fun h9 => ?_)
 ·
  refine sk<|nx<|sq<|bk<|sa 2 G<|qg<|ru 2 G<|mv G G<|ixP 0 G G G slt_51 (by omega) (gE (by omega)) G fun v14 => ldS 0 G G (Rg G) G fun q15 w15 => cfc (hcl _ w15) hok G G G (SubD.tail (SubD.tail (SubD.tail Sr))) G fun y16 v16 e16 => ?_
  obtain rfl : v16 = .bool (p (l.getD i default)) := e16
  refine nl<|nx<|cdB G (fun h16 => ?_) (fun h16 => ?_)
  · exact sa 2 G<|rt<|bR<|tR<|tR<|bR<|tR<|fR1 () G G (by rw [firstI_some (j := i) (by omega) hall h16]; try rfl) G Sn
  ·
   refine sk<|bN<|nx<|rg<|adI G G (inI (by omega) (by omega)) G<|mv G G<|nl ?_
   exact ag (i + 1) ⟨(by omega), (all_snoc hall (h16))⟩ (by omega) (Gs G) G (Sc 2 G (SubD.tail (SubD.tail (SubD.tail Sr))))
 · exact ex<|tE<|tE<|bE<|nx<|sa 1 G<|rt<|fR1 () G G (by rw [firstI_none (fun k hk => hall k (by omega))]; try rfl) G Sn
theorem containsWait_c (l : List TWait) (f : Nat) (caps : Array Value) (A : List Atom) (p : TWait → Bool) (hok : FnOk Pg f) (hcl : ∀ x : TWait, x.wf → FnV Pg f (.agg (cWait x).toArray :: caps.toList) A (.bool (p x))) : FnV Pg 234 [v_l, .func (.func f) #[] caps] (⟨v_l, l⟩ :: A) (.bool (decide (placeI (firstI l.length (fun j => p (l.getD j default))) ≥ 0))) := by
 exact Fnc.proof Tryz.func234 G 9 G G fun X w => sa 1 G<|qg<|ru 2 G<|cfv (indexWait_c _ _ f caps A p hok hcl) ok_283 G (Sc 0 G (SubD.tail Sr)) G<|ru 2 G<|nl<|nx<|rt<|fR1 () G G (by rfl) G Sn
theorem dwaits_c (h_S : S.wf) (h_d : d.wf) (hk : key.size ≤ 9223372036854775807) : FnV Pg 176 [.agg (cState S S_0 S_1 S_2 S_3 S_4 S_5).toArray, .string key, .agg (cDeal d).toArray] [⟨S_0, S.fAccounts⟩, ⟨S_1, S.fMarks⟩, ⟨S_2, S.fWaits⟩, ⟨S_3, S.fDeals⟩, ⟨S_4, S.fEnds⟩, ⟨S_5, S.fImage⟩] (.bool (waitsS S key d.fClient d.fSeq)) := by
 exact Fnc.proof Tryz.func176 G 11 G G fun X w => qg<|bx G G G fun b3 => bx G G G fun b4 => bx G G G fun b5 => ru 1 G<|nl<|nx<|qg<|frP (α := TDeal) d (fun S w h => ⟨(), G, by simp, h_d⟩)<|frP (α := ByteArray) key (fun S w h => ⟨G, hk⟩)<|ru 1 G<|rl 1 [0] G G<|mf (xs := [.tmp 5, .tmp 4]) G G<|cfv (containsWait_c _ _ 235 #[.pointer (some ⟨b5, 0, none⟩), .pointer (some ⟨b4, 0, none⟩)] [⟨_, (⟨d⟩ : Pt TDeal)⟩, ⟨_, (⟨key⟩ : Pt ByteArray)⟩] (fun x => waitM key d.fClient d.fSeq x) ok_235 (fun x hx => waits1_c x _ _ d key hx)) ok_234 G (Si [4,1,0] G) G<|ru 1 G<|nl<|nx<|rt<|dpQ<|fR1 () G G (by rfl) G Sn
end
end Go.Proofs.YtmpoffijcfaalaaGreat
namespace Go.YtmpoffijcfaalaaGreat
open Go.Eng
def m1 (v : TScene) (S : TState) : Bool := (!decide (v.fChart.fPlan = zpl)) && decide (v.fChart.fPlan.fFrom = S.fGroup) && (!decide (S.fSeal.fNumber = v.fChart.fPlan.fNumber)) && (!decide (S.fOut.fNumber = v.fChart.fPlan.fNumber)) && decide (S.fUndone < v.fChart.fPlan.fNumber)
def mv1 (v : TScene) (S : TState) : List TCommand := if m1 v S = true then [{ zcmd with fKind := 8, fPlan := v.fChart.fPlan, fEpoch := S.fEpoch }] else []
def m2 (v : TScene) (S : TState) : Bool := (!decide (S.fSeal = zpl)) && oldP v 0 0
def mv2 (v : TScene) (S : TState) : List TCommand := if m2 v S = true then [{ zcmd with fKind := 9, fPlan := S.fSeal }] else []
def m3 (v : TScene) (S : TState) : Bool := (!decide (v.fChart.fPlan = zpl)) && decide (v.fChart.fPlan.fTo = S.fGroup) && decide (S.fAbsorbed < v.fChart.fPlan.fNumber)
def m3c (v : TScene) (F : TState) : TCommand := { zcmd with fKind := 10, fPlan := v.fChart.fPlan, fEpoch := epochC v.fChart, fImage := F.fImage }
def mv3 (v : TScene) (S F : TState) : List TCommand := if m3 v S = true then (if F.fOut.fNumber = v.fChart.fPlan.fNumber then [m3c v F] else []) else []
def mv4 (v : TScene) (S T : TState) : List TCommand := if outB v S T = true then [outC v S T] else []
def movesL (v : TScene) (S : TState) : List TCommand := mv1 v S ++ mv2 v S ++ mv3 v S (stAt v v.fChart.fPlan.fFrom) ++ mv4 v S (stAt v S.fOut.fTo)
def dealF (v : TScene) (d : TDeal) : List TCommand := if decB v d (stAt v (whoseP v d.fOther)) = true then [decC v d (stAt v (whoseP v d.fOther))] else []
def dealL (v : TScene) (l : List TDeal) : Nat → List TCommand
 | 0 => []
 | i + 1 => dealL v l i ++ dealF v (l.getD i default)
def sideF (v : TScene) (S : TState) (n : Int) (d : TDeal) : List TCommand := if whoseP v d.fOther = S.fGroup then (if sideB S d = true then [sideC S n d] else []) else []
def sideL (v : TScene) (S : TState) (n : Int) (l : List TDeal) : Nat → List TCommand
 | 0 => []
 | i + 1 => sideL v S n l i ++ sideF v S n (l.getD i default)
def sidesL (v : TScene) (S : TState) (ss : List TState) : Nat → List TCommand
 | 0 => []
 | i + 1 => sidesL v S ss i ++ sideL v S (ss.getD i default).fGroup (ss.getD i default).fDeals (ss.getD i default).fDeals.length
def lateB (v : TScene) (w : TWait) : Bool := (!decide (w.fKind = 1)) || decide (ageP v.fAges w.fClient w.fSeq v.fAges.length < 8)
def lateF (v : TScene) (w : TWait) : List TCommand := if lateB v w = true then [] else [cmdK 3 w.fClient w.fSeq]
def lateL (v : TScene) (l : List TWait) : Nat → List TCommand
 | 0 => []
 | i + 1 => lateL v l i ++ lateF v (l.getD i default)
theorem if_len {α : Type} {p : Prop} [Decidable p] {x : α} : (if p then [x] else []).length ≤ 1 := by split <;> simp
theorem if_len' {α : Type} {p : Prop} [Decidable p] {x : α} : (if p then [] else [x]).length ≤ 1 := by split <;> simp
theorem dealL_len (v : TScene) (l : List TDeal) : ∀ i, (dealL v l i).length ≤ i
 | 0 => Nat.le_refl _
 | i + 1 => by
  have := dealL_len v l i
  have h : (dealF v (l.getD i default)).length ≤ 1 := if_len
  rw [dealL, List.length_append]
  omega
theorem sideF_len (v : TScene) (S : TState) (n : Int) (d : TDeal) : (sideF v S n d).length ≤ 1 := by
 unfold sideF
 split
 · exact if_len
 · simp
theorem sideL_len (v : TScene) (S : TState) (n : Int) (l : List TDeal) : ∀ i, (sideL v S n l i).length ≤ i
 | 0 => Nat.le_refl _
 | i + 1 => by
  have := sideL_len v S n l i
  have := sideF_len v S n (l.getD i default)
  rw [sideL, List.length_append]
  omega
theorem sidesL_len (v : TScene) (S : TState) (ss : List TState) (h : ∀ j, (ss.getD j default).fDeals.length ≤ 4) : ∀ i, (sidesL v S ss i).length ≤ 4 * i
 | 0 => Nat.le_refl _
 | i + 1 => by
  have := sidesL_len v S ss h i
  have := sideL_len v S (ss.getD i default).fGroup (ss.getD i default).fDeals (ss.getD i default).fDeals.length
  have := h i
  rw [sidesL, List.length_append]
  omega
theorem lateL_len (v : TScene) (l : List TWait) : ∀ i, (lateL v l i).length ≤ i
 | 0 => Nat.le_refl _
 | i + 1 => by
  have := lateL_len v l i
  have h : (lateF v (l.getD i default)).length ≤ 1 := if_len'
  rw [lateL, List.length_append]
  omega
theorem mv_len (v : TScene) (S F T : TState) : (mv1 v S).length ≤ 1 ∧ (mv2 v S).length ≤ 1 ∧ (mv3 v S F).length ≤ 1 ∧ (mv4 v S T).length ≤ 1 := by
 refine ⟨if_len, if_len, ?_, if_len⟩
 unfold mv3
 split
 · exact if_len
 · simp
theorem kI (k : Int) (h : 0 ≤ k ∧ k ≤ 99 := by decide) : InI k := ⟨by omega, by omega⟩
theorem cmdK_wf {k c q : Int} (hk : InI k) (hc : InI c) (hq : InI q) : (cmdK k c q).wf := ⟨hk, hc, hq, I0, I0, I0, Eb0, I0, I0, I0, trivial, ⟨I0, Eb0, Eb0, I0, I0, I0⟩, ⟨I0, I0, I0, Eb0, Eb0, I0, I0⟩, trivial⟩
theorem decC_wf {v : TScene} {d : TDeal} {T : TState} (h : d.wf) : (decC v d T).wf := by
 unfold decC
 split
 · exact cmdK_wf (kI 7) h.1 h.2.1
 · split
   · exact cmdK_wf (kI 3) h.1 h.2.1
   · exact cmdK_wf (kI 5) h.1 h.2.1
theorem sideC_wf {S : TState} {n : Int} {d : TDeal} (h : d.wf) (hn : InI n) (hS : S.wf) : (sideC S n d).wf := by
 have hz := cmdK_wf (k := 0) I0 I0 I0
 unfold sideC
 split
 · exact ⟨kI 6, h.1, h.2.1, I0, I0, I0, h.2.2.2.1, I0, I0, I0, trivial, hz.2.2.2.2.2.2.2.2.2.2.2.1, hz.2.2.2.2.2.2.2.2.2.2.2.2.1, trivial⟩
 · exact ⟨kI 4, h.1, h.2.1, hS.2.2.2.2.2.1, I0, hn, h.2.2.2.1, I0, I0, h.2.2.2.2.1, trivial, hz.2.2.2.2.2.2.2.2.2.2.2.1, hz.2.2.2.2.2.2.2.2.2.2.2.2.1, trivial⟩
theorem decC_img (v : TScene) (d : TDeal) (T : TState) : (decC v d T).fImage = [] := by
 unfold decC
 (repeat' split) <;> rfl
theorem sideC_img (S : TState) (n : Int) (d : TDeal) : (sideC S n d).fImage = [] := by
 unfold sideC
 split <;> rfl
theorem outC_img (v : TScene) (S T : TState) : (outC v S T).fImage = [] := by
 unfold outC
 (repeat' split) <;> rfl
theorem outC_wf {v : TScene} {S T : TState} (hS : S.wf) (he : InI (epoO v S)) : (outC v S T).wf := by
 have hz := cmdK_wf (k := 0) I0 I0 I0
 have hp : S.fOut.wf := hS.2.2.2.2.2.2.2.2.2.2.2.2.1
 unfold outC
 split
 · exact hz
 · split
   · exact ⟨kI 9, I0, I0, I0, I0, I0, hz.2.2.2.2.2.2.1, I0, I0, I0, trivial, hz.2.2.2.2.2.2.2.2.2.2.2.1, hp, trivial⟩
   · split
     · exact hz
     · exact ⟨kI 11, I0, I0, he, I0, I0, hz.2.2.2.2.2.2.1, I0, I0, I0, trivial, hz.2.2.2.2.2.2.2.2.2.2.2.1, hp, trivial⟩
theorem maxI_le {f : Nat → Int} {b : Int} (hb : 0 ≤ b) : ∀ {n : Nat}, (∀ j, j < n → f j ≤ b) → maxI f n ≤ b
 | 0, _ => hb
 | n + 1, h => Int.max_le.2 ⟨maxI_le hb fun j hj => h j (by omega), h n (by omega)⟩
theorem maxI_pos {f : Nat → Int} : ∀ {n : Nat}, 0 ≤ maxI f n
 | 0 => Int.le_refl _
 | n + 1 => by
  have := maxI_pos (f := f) (n := n)
  unfold maxI
  omega
theorem places_in {l : List TPlace} (h : places17 l = true) {j : Nat} (hj : j < l.length) : 1 ≤ (l.getD j default).fGroup ∧ (l.getD j default).fGroup < 8 ∧ 1 ≤ (l.getD j default).fEpoch ∧ (l.getD j default).fEpoch ≤ far := by
 unfold places17 at h
 split at h
 · cases h
 · have := allI_iff.1 h j hj
   simp only [Bool.and_eq_true, Bool.not_eq_true', place17b, Bool.or_eq_false_iff, decide_eq_false_iff_not] at this
   omega
theorem places_le {l : List TPlace} (h : places17 l = true) : l.length ≤ 7 := by
 unfold places17 at h
 split at h
 · cases h
 · rename_i hn
   simp only [place17a, Bool.or_eq_true, decide_eq_true_eq, not_or] at hn
   omega
structure Ss (S : TState) : Prop where
 grp : 1 ≤ S.fGroup ∧ S.fGroup < 8
 hol : ∀ j, j < S.fAccounts.length → right15 (S.fAccounts.getD j default) = true
 rise : rising19 S.fAccounts = true
 deals : books18 S.fDeals = true
 ends : ends18 S.fEnds = true
 waits : S.fWaits.length ≤ 8
 wait : ∀ j, j < S.fWaits.length → wait19 S (S.fWaits.getD j default) = true
 sel : S.fSeal ≠ zpl → plan19 S.fSeal = true
 out : S.fOut ≠ zpl → plan19 S.fOut = true
theorem plan_in {p : TPlan} (h : plan19 p = true) : 1 ≤ p.fNumber ∧ 1 ≤ p.fFrom ∧ p.fFrom < 8 ∧ 1 ≤ p.fTo ∧ p.fTo < 8 := by
 simp only [plan19, okGroup, Bool.and_eq_true, decide_eq_true_eq] at h
 omega
theorem state_has {S : TState} (h : sright19 S = true) : Ss S := by
 unfold sright19 at h
 split at h
 · cases h
 rename_i ha
 split at h
 · cases h
 split at h
 · cases h
 rename_i hc
 split at h
 · split at h
   · rename_i hw
     split at h
     · cases h
     rename_i hd
     simp only [q19a, Bool.or_eq_true, not_or, Bool.not_eq_true', Bool.not_eq_false, okGroup, Bool.and_eq_true, decide_eq_true_eq] at ha
     simp only [q19c, Bool.or_eq_true, not_or, Bool.not_eq_true', Bool.not_eq_false, decide_eq_true_eq] at hc
     obtain ⟨⟨⟨⟨hr, _⟩, hb⟩, he⟩, hl⟩ := hc
     refine ⟨ha.1.1.1.1.1, fun j hj => ?_, hr, hb, he, by omega, fun j hj => allI_iff.1 hw j hj, fun hz => ?_, fun hz => ?_⟩
     · have hr := hr
       unfold rising19 at hr
       split at hr
       · rename_i hr2
         have := allI_iff.1 hr2 j hj
         simp only [risj, Bool.not_eq_true', Bool.or_eq_false_iff, Bool.not_eq_false'] at this
         exact this.1.1
       · cases hr
     · have e : decide (S.fSeal = ⟨0, 0, 0, ByteArray.empty, ByteArray.empty, 0, 0⟩) = false := decide_eq_false hz
       simp only [q19d, e, Bool.not_false, Bool.true_and, Bool.or_eq_true, not_or, Bool.not_eq_true', Bool.not_eq_false] at hd
       exact hd.1.1.1
     · have e : decide (S.fOut = ⟨0, 0, 0, ByteArray.empty, ByteArray.empty, 0, 0⟩) = false := decide_eq_false hz
       rw [e] at h
       simp only [Bool.false_eq_true, if_false, q19e, Bool.and_eq_true] at h
       exact h.1.2
   · cases h
 · cases h
theorem acc_hold {a : TAccount} (h : right15 a = true) : a.fHolders.length ≤ 5 := by
 unfold right15 at h
 split at h
 · cases h
 split at h
 · rename_i hh
   exact hold_len hh
 · cases h
theorem Ss.holS {S : TState} (h : Ss S) : HolS S := fun j => by
 rcases Nat.lt_or_ge j S.fAccounts.length with hj | hj
 · have := acc_hold (h.hol j hj)
   omega
 · rw [List.getD_eq_getElem?_getD, List.getElem?_eq_none hj]
   decide
theorem Ss.deals4 {S : TState} (h : Ss S) : S.fDeals.length ≤ 4 := by
 have := h.deals
 simp only [books18, Bool.and_eq_true, decide_eq_true_eq] at this
 omega
structure Sc (v : TScene) : Prop where
 len : v.fStates.length = 7
 chart : right20 v.fChart = true
 places : places17 v.fChart.fPlaces = true
 rights : rights16 v.fRights = true
 st : ∀ j, j < 7 → Ss (v.fStates.getD j default) ∧ (v.fStates.getD j default).fGroup = (j : Int) + 1
 plan : v.fChart.fPlan ≠ zpl → 1 ≤ v.fChart.fPlan.fNumber ∧ 1 ≤ v.fChart.fPlan.fFrom ∧ v.fChart.fPlan.fFrom < 8 ∧ 1 ≤ v.fChart.fPlan.fTo ∧ v.fChart.fPlan.fTo < 8
theorem scene_has {v : TScene} (h : right22 v = true) : Sc v := by
 unfold right22 at h
 split at h
 · cases h
 rename_i ha
 simp only [r22a, Bool.or_eq_true, not_or, Bool.not_eq_true', Bool.not_eq_false, decide_eq_true_eq] at ha
 obtain ⟨⟨⟨_, hc⟩, hl⟩, hr⟩ := ha
 have hl : v.fStates.length = 7 := by omega
 have hc' := hc
 unfold right20 at hc
 split at hc
 · cases hc
 rename_i h20
 simp only [right20a, Bool.or_eq_true, not_or, Bool.not_eq_true', Bool.not_eq_false, decide_eq_true_eq] at h20
 obtain ⟨⟨⟨⟨⟨_, _⟩, hp⟩, hn1⟩, hn2⟩, _⟩ := h20
 split at hc
 · refine ⟨hl, hc', hp, hr, fun j hj => ?_, fun hz => ?_⟩
   · have := allI_iff.1 h j (by omega)
     simp only [r22j, Bool.not_eq_true', Bool.or_eq_false_iff, Bool.not_eq_false', decide_eq_true_eq] at this
     exact ⟨state_has this.2, this.1⟩
   · have e : decide (v.fChart.fPlan = ⟨0, 0, 0, ByteArray.empty, ByteArray.empty, 0, 0⟩) = false := decide_eq_false hz
     rw [e, Bool.false_or] at hc
     unfold goesP at hc
     split at hc
     · cases hc
     rename_i hg
     simp only [goes1, Bool.or_eq_true, not_or, Bool.not_eq_true', Bool.not_eq_false, decide_eq_true_eq] at hg
     have hnum : 1 ≤ v.fChart.fPlan.fNumber := by omega
     split at hc
     · simp only [goes2, Bool.and_eq_true, decide_eq_true_eq] at hc
       have := places_in hp (find17_lt (k := v.fChart.fPlan.fLo) (places17_pos hp))
       omega
     · rename_i ho
       simp only [goes3, Bool.and_eq_true, decide_eq_true_eq] at hc
       obtain ⟨j, hj⟩ : ∃ j, ofP v.fChart.fPlaces v.fChart.fPlan.fTo = some j := by
        cases e : ofP v.fChart.fPlaces v.fChart.fPlan.fTo with
        | none => rw [e] at ho; exact absurd rfl ho
        | some j => exact ⟨j, rfl⟩
       have h1 := places_in hp (firstI_lt hj)
       have h2 := (List.find?_range_eq_some.1 hj).1
       simp only [decide_eq_true_eq] at h2
       have h3 := places_in hp (j := (nxt v.fChart).toNat) (by unfold nxt at hc ⊢; omega)
       omega
 · cases hc
theorem Sc.holS {v : TScene} (h : Sc v) (j : Nat) : HolS (v.fStates.getD j default) := by
 rcases Nat.lt_or_ge j 7 with hj | hj
 · exact (h.st j hj).1.holS
 · rw [List.getD_eq_getElem?_getD, List.getElem?_eq_none (by have := h.len; omega)]
   intro k
   show ((([] : List TAccount).getD k default).fHolders).length ≤ 100000
   simp [show (default : TAccount).fHolders = [] from rfl]
theorem Sc.deals {v : TScene} (h : Sc v) (j : Nat) : (v.fStates.getD j default).fDeals.length ≤ 4 := by
 rcases Nat.lt_or_ge j 7 with hj | hj
 · exact (h.st j hj).1.deals4
 · rw [List.getD_eq_getElem?_getD, List.getElem?_eq_none (by have := h.len; omega)]
   decide
theorem Sc.whose {v : TScene} (h : Sc v) (key : ByteArray) : 1 ≤ whoseP v key ∧ whoseP v key < 8 := by
 have := places_in h.places (findP_lt (k := key) (places17_pos h.places))
 exact ⟨this.1, this.2.1⟩
theorem Sc.ep {v : TScene} (h : Sc v) : 0 ≤ epochP v.fChart.fPlaces ∧ epochP v.fChart.fPlaces ≤ far :=
 ⟨maxI_pos, maxI_le (by decide) fun j hj => (places_in h.places hj).2.2.2⟩
theorem Sc.he1 {v : TScene} (h : Sc v) : InI (epochP v.fChart.fPlaces + 1) := by
 have := h.ep
 unfold far at this
 exact ⟨by omega, by omega⟩
theorem Sc.hec {v : TScene} (h : Sc v) : InI (epochC v.fChart) := by
 unfold epochC
 split
 · exact h.he1
 · exact I0
theorem Sc.heo {v : TScene} (h : Sc v) (S : TState) : InI (epoO v S) := by
 have hp := h.ep
 unfold far at hp
 unfold epoO
 split
 · rename_i hi
   cases e : ofP v.fChart.fPlaces S.fGroup with
   | none => rw [e] at hi; cases hi
   | some j =>
    have := places_in h.places (firstI_lt e)
    unfold far at this
    exact ⟨by show _ ≤ (v.fChart.fPlaces.getD j default).fEpoch; omega, by show (v.fChart.fPlaces.getD j default).fEpoch ≤ _; omega⟩
 · exact ⟨by omega, by omega⟩
theorem BkV.img {v : TScene} (h : BkV v) (j : Nat) : (v.fStates.getD j default).fImage.length ≤ 140737488355328 := by
 rcases Nat.lt_or_ge j v.fStates.length with hj | hj
 · have := (h.state j hj).image
   omega
 · rw [List.getD_eq_getElem?_getD, List.getElem?_eq_none hj]
   decide
def dutiesL (v : TScene) (n : Int) : List TCommand :=
 if (((!decide (n = 0)) && !okGroup n) || !right22 v) = true then []
 else if n = 0 then chL v (stAt v v.fChart.fPlan.fTo) (stAt v v.fChart.fPlan.fFrom)
 else movesL v (stAt v n) ++ dealL v (stAt v n).fDeals (stAt v n).fDeals.length ++ sidesL v (stAt v n) v.fStates v.fStates.length ++ lateL v (stAt v n).fWaits (stAt v n).fWaits.length
def repF (v : TScene) (n : Int) (a : TAccount) : List TCommand := if repB v.fRights n a v.fNode = true then [repC v.fRights n a v.fNode] else []
def repL (v : TScene) (n : Int) (l : List TAccount) : Nat → List TCommand
 | 0 => []
 | i + 1 => repL v n l i ++ repF v n (l.getD i default)
def reportsL (v : TScene) (n : Int) : List TCommand :=
 if (!okGroup n || !right22 v) = true then [] else repL v n (stAt v n).fAccounts (stAt v n).fAccounts.length
theorem repF_len (v : TScene) (n : Int) (a : TAccount) : (repF v n a).length ≤ 1 := if_len
theorem repL_len (v : TScene) (n : Int) (l : List TAccount) : ∀ i, (repL v n l i).length ≤ i
 | 0 => Nat.le_refl _
 | i + 1 => by
  have := repL_len v n l i
  have := repF_len v n (l.getD i default)
  rw [repL, List.length_append]
  omega
theorem Ss.accs {S : TState} (h : Ss S) : S.fAccounts.length ≤ 12 := by
 have := h.rise
 unfold rising19 at this
 split at this
 · simp only [decide_eq_true_eq] at this
   omega
 · cases this
theorem findH_wf {a : TAccount} (hh : ∀ x ∈ a.fHolders, x.wf) (n : Int) : (findH a n).wf := by
 have hz : zhold.wf := ⟨I0, I0, I0, I0⟩
 unfold findH
 split
 · cases e : holdO a n with
   | none => exact hz
   | some j => exact hh _ (getD_mem (firstI_lt e))
 · exact hz
theorem repC_wf {l : List TRight} {g n : Int} {a : TAccount} (hn : InI n) (ha : a.wf) (hl : ∀ r ∈ l, r.wf) (hh : ∀ x ∈ a.fHolders, x.wf) : (repC l g a n).wf := by
 have hz := cmdK_wf (k := 0) I0 I0 I0
 unfold repC
 split
 · exact hz
 · split
   · exact ⟨kI 2, I0, I0, I0, hn, I0, ha.1, (findH_wf hh n).2.1, ha.2.2.2.1, netP_in hl _ _ _, trivial, hz.2.2.2.2.2.2.2.2.2.2.2.1, hz.2.2.2.2.2.2.2.2.2.2.2.2.1, trivial⟩
   · exact hz
theorem repC_img (l : List TRight) (g : Int) (a : TAccount) (n : Int) : (repC l g a n).fImage = [] := by
 unfold repC
 (repeat' split) <;> rfl
def ageR (l : List TAge) (c q : Int) : Nat → Int × Bool
 | 0 => (0, false)
 | i + 1 => if (ageM c q (l.getD i default) && (!(ageR l c q i).2 || decide ((l.getD i default).fTicks > (ageR l c q i).1))) = true then ((l.getD i default).fTicks, true) else ageR l c q i
theorem ageR_T {l : List TAge} {c q : Int} {i : Nat} (h : (ageM c q (l.getD i default) && (!(ageR l c q i).2 || decide ((l.getD i default).fTicks > (ageR l c q i).1))) = true) : ageR l c q (i + 1) = ((l.getD i default).fTicks, true) := by rw [ageR, if_pos h]
theorem ageR_F {l : List TAge} {c q : Int} {i : Nat} (h : (ageM c q (l.getD i default) && (!(ageR l c q i).2 || decide ((l.getD i default).fTicks > (ageR l c q i).1))) = false) : ageR l c q (i + 1) = ageR l c q i := by rw [ageR, if_neg (by rw [h]; decide)]
def ofO (l : List TEnd) (c : Int) : Option Nat := firstI l.length (fun j => decide ((l.getD j default).fClient = c))
def ofE (l : List TEnd) (c : Int) : Int := match ofO l c with
 | some j => (l.getD j default).fSeq
 | none => 0
def pastR (l : List TEnd) (c q : Int) : Bool := ends18 l && decide (ofE l c > 0) && decide (ofE l c ≥ q)
def waitR (S : TState) (key : ByteArray) (c q : Int) : Bool := (firstI S.fWaits.length (fun j => waitM key c q (S.fWaits.getD j default))).isSome
def rightM (gr : Int) (key : ByteArray) (n : Int) (r : TRight) : Bool := decide (r.fGroup = gr) && decide (r.fKey = key) && decide (r.fLease = n)
theorem rightM_eq (gr : Int) (key : ByteArray) (n : Int) (r : TRight) : decide (r = ({ fGroup := gr, fKey := key, fLease := n, fNet := r.fNet } : TRight)) = rightM gr key n r := by
 obtain ⟨a, b, c, d⟩ := r
 rw [Bool.eq_iff_iff]
 simp [rightM, and_assoc]
theorem netP_none {l : List TRight} {gr n : Int} {key : ByteArray} (h : rights16 l = false) : netP l gr key n = 0 := by
 unfold netP
 rw [ledger_eq, h]
 rfl
theorem errF_true : errF true = 0 := rfl
theorem netP_some {l : List TRight} {gr n : Int} {key : ByteArray} {i : Nat} (h : rights16 l = true) (hi : i < l.length) (h0 : ∀ j, j < i → rightM gr key n (l.getD j default) = false) (h1 : rightM gr key n (l.getD i default) = true) : netP l gr key n = (l.getD i default).fNet := by
 unfold netP
 rw [ledger_eq, h, if_neg (not_not_intro errF_true)]
 simp only [rightM_eq]
 rw [firstI_some hi h0 h1]
theorem netP_no {l : List TRight} {gr n : Int} {key : ByteArray} (h : rights16 l = true) (h0 : ∀ j, j < l.length → rightM gr key n (l.getD j default) = false) : netP l gr key n = 0 := by
 unfold netP
 rw [ledger_eq, h, if_neg (not_not_intro errF_true)]
 simp only [rightM_eq]
 rw [firstI_none h0]
theorem repOK_eq {l : List TRight} {gr : Int} {a : TAccount} (ha : a.wf) : repOK l gr a = (!rights16 l || !right15 a || decide (a.fRound = 0) || !okGroup gr) := by
 unfold repOK
 rw [ledger_eq, acc_eq ha]
 cases rights16 l <;> cases right15 a <;> rfl
theorem isH_eq {a : TAccount} (ha : a.wf) (n : Int) : isH a n = (right15 a && (holdO a n).isSome) := by unfold isH; rw [acc_eq ha]
theorem findH_some {a : TAccount} (ha : a.wf) {n : Int} {j : Nat} (h : right15 a = true) (hj : j < a.fHolders.length) (h0 : ∀ k, k < j → decide ((a.fHolders.getD k default).fNode = n) = false) (h1 : decide ((a.fHolders.getD j default).fNode = n) = true) : findH a n = a.fHolders.getD j default ∧ isH a n = true := by
 have e : holdO a n = some j := firstI_some hj h0 h1
 rw [findH, isH, acc_eq ha, if_pos h, e, h]
 exact ⟨rfl, rfl⟩
theorem findH_none {a : TAccount} (ha : a.wf) {n : Int} (h0 : ∀ k, k < a.fHolders.length → decide ((a.fHolders.getD k default).fNode = n) = false) : findH a n = zhold ∧ isH a n = false := by
 have e : holdO a n = none := firstI_none h0
 rw [findH, isH, acc_eq ha, e]
 exact ⟨by split <;> rfl, by simp⟩
theorem findH_no {a : TAccount} (ha : a.wf) {n : Int} (h : right15 a = false) : findH a n = zhold ∧ isH a n = false := by
 rw [findH, isH, acc_eq ha, h]
 exact ⟨rfl, rfl⟩
theorem findH_fin {a : TAccount} (ha : a.wf) {n : Int} {i : Nat} (hn : right15 a = true → i = a.fHolders.length) (h0 : ∀ k, k < i → decide ((a.fHolders.getD k default).fNode = n) = false) : findH a n = zhold ∧ isH a n = false := by
 rcases Bool.eq_false_or_eq_true (right15 a) with hr | hr
 · exact findH_none ha (hn hr ▸ h0)
 · exact findH_no ha hr
theorem netP_fin {l : List TRight} {gr n : Int} {key : ByteArray} {i : Nat} (hn : rights16 l = true → i = l.length) (h0 : ∀ j, j < i → rightM gr key n (l.getD j default) = false) : netP l gr key n = 0 := by
 rcases Bool.eq_false_or_eq_true (rights16 l) with hr | hr
 · exact netP_no hr (hn hr ▸ h0)
 · exact netP_none hr
theorem rep_no {l : List TRight} {g n : Int} {a : TAccount} (ha : a.wf) (h : (!rights16 l || !isH a n || decide (a.fRound = 0) || !okGroup g) = true) : repC l g a n = zcmd ∧ repB l g a n = false := by
 rcases Bool.eq_false_or_eq_true (isH a n) with hi | hi
 · have hr : right15 a = true := by
    rw [isH_eq ha, Bool.and_eq_true] at hi
    exact hi.1
   have e : repOK l g a = true := by
    rw [repOK_eq ha, hr]
    rw [hi] at h
    exact h
   rw [repC, repB, if_pos e, if_pos e]
   exact ⟨rfl, rfl⟩
 · rw [repC, repB, hi]
   constructor <;> split <;> rfl
theorem rep_yes {l : List TRight} {g n : Int} {a : TAccount} (ha : a.wf) (h : (!rights16 l || !isH a n || decide (a.fRound = 0) || !okGroup g) = false) : repC l g a n = { zcmd with fKind := 2, fNode := n, fKey := a.fKey, fLease := (findH a n).fLease, fRound := a.fRound, fNet := netP l g a.fKey (findH a n).fLease } ∧ repB l g a n = true := by
 have hi : isH a n = true := by
  simp only [Bool.or_eq_false_iff, Bool.not_eq_false'] at h
  exact h.1.1.2
 have hr : right15 a = true := by
  have hi := hi
  rw [isH_eq ha, Bool.and_eq_true] at hi
  exact hi.1
 have e : ¬ repOK l g a = true := by
  rw [repOK_eq ha, hr, Bool.not_eq_true]
  rw [hi] at h
  exact h
 rw [repC, repB, if_neg e, if_neg e, if_pos hi]
 exact ⟨rfl, hi⟩
end Go.YtmpoffijcfaalaaGreat
namespace Go.Proofs.YtmpoffijcfaalaaGreat
open Go.Eng
theorem ok_106 : FnOk Pg 106 := ⟨⟨_, Tryz.func106, by kernel_rfl, rfl⟩⟩
theorem ok_110 : FnOk Pg 110 := ⟨⟨_, Tryz.func110, by kernel_rfl, rfl⟩⟩
theorem ok_113 : FnOk Pg 113 := ⟨⟨_, Tryz.func113, by kernel_rfl, rfl⟩⟩
theorem ok_101 : FnOk Pg 101 := ⟨⟨_, Tryz.func101, by kernel_rfl, rfl⟩⟩
theorem ok_103 : FnOk Pg 103 := ⟨⟨_, Tryz.func103, by kernel_rfl, rfl⟩⟩
theorem ok_177 : FnOk Pg 177 := ⟨⟨_, Tryz.func177, by kernel_rfl, rfl⟩⟩
theorem ok_178 : FnOk Pg 178 := ⟨⟨_, Tryz.func178, by kernel_rfl, rfl⟩⟩
end Go.Proofs.YtmpoffijcfaalaaGreat
namespace Go.Proofs.YtmpoffijcfaalaaGreat
open Go.Eng Go.YtmpoffijcfaalaaGreat
section
variable (S : TState) (S_0 S_1 S_2 S_3 S_4 S_5 : Value) (key : ByteArray) (v_l : Value) (l : List TEnd) (c q : Int)
theorem rage_c (v : TScene) (v_0 v_1 v_2 v_3 v_4 : Value) (c : Int) (q : Int) (h_v : v.wf) (h_c : InI c) (h_q : InI q) : FnV Pg 56 [.agg (cScene v v_0 v_1 v_2 v_3 v_4).toArray, .int .i64 c, .int .i64 q] [⟨v_0, v.fChart.fPlaces⟩, ⟨v_1, v.fChart.fMarks⟩, ⟨v_2, v.fStates⟩, ⟨v_3, v.fRights⟩, ⟨v_4, v.fAges⟩] (.int .i64 (ageR v.fAges c q v.fAges.length).1) := by
 refine Fnc.proof Tryz.func56 G 46 G G fun X w => ?_
 obtain ⟨h_c1, h_c2⟩ := id h_c
 obtain ⟨h_q1, h_q2⟩ := id h_q
 refine qg<|bx G G G fun b3 => ru 1 G<|nl<|nx<|sa 2 G<|sq<|sa 1 G<|bk<|lpC (σ := Nat) [(1, _), (2, _), (3, _)] _ (fun i C => (9, .int .i64 (i : Int)) :: (7, .int .i64 (ageR v.fAges c q i).1) :: (8, .bool (ageR v.fAges c q i).2) :: C) (fun i => i ≤ v.fAges.length) (fun i => v.fAges.length - i) 0 (Gs G) (Sc 0 G (Sc 1 G (Sc 2 G (Sc 3 G (Sc 4 G Sn))))) (Nat.zero_le _) (Gs G) ?_
 intro i hi
 refine sq<|qg<|rl 3 [0] G G<|lnP 4 G G Tryz.underlying30 G fun l14 => ru 1 G<|nl<|nx<|cdP G (fun h15 => ?_) (fun h15 => ?_)
 ·
  refine sk<|nx<|sq<|bk<|qg<|rl 3 [0] G G<|ixP 4 G G G slt_30 (by omega) (gE (by omega)) G fun v21 => ldS 0 G G (Rg G) G fun q22 w22 => al zero_62 G fun b10 => stW 0 (us := (cAge ((v.fAges.getD i default)))) G G G (Rg G) G G<|nl<|nx<|qg<|rl 5 [0] G G<|ja 27 5 [0] [1,2,3,7,8,9,10] G G G<|mv G G ?_
  refine jy 33 9 [1,2,3,7,8,9,10] G G (fun h33 K42 => by
   exact ru 3 G<|jb 36 5 [0] [1,2,3,7,8,9,10,33] G G G<|ru 1 G<|K42 G Sr) ?_
  refine nl<|nx<|cdB G (fun h42 => ?_) (fun h42 => ?_)
  ·
   refine rb 4 [0] G G<|bN<|nx<|rg<|mv G G<|adI G G (inI (by omega) (by omega)) G<|ru 1 G<|nl<|dpQ ?_
   rw [show (v.fAges.getD i default).fTicks = (ageR v.fAges c q (i + 1)).1 from by rw [ageR_T h42], show true = (ageR v.fAges c q (i + 1)).2 from by rw [ageR_T h42]]
   exact ag (i + 1) (by omega) (by omega) (Gs G) G (Si [2,3,4,5,6] G)
  ·
   refine sk<|bN<|nx<|rg<|mv G G<|adI G G (inI (by omega) (by omega)) G<|ru 1 G<|nl<|dpQ ?_
   rw [show (ageR v.fAges c q i) = ageR v.fAges c q (i + 1) from (ageR_F h42).symm]
   exact ag (i + 1) (by omega) (by omega) (Gs G) G (Si [2,3,4,5,6] G)
 · exact ex<|tE<|tE<|bE<|nx<|sa 2 G<|rt<|dpQ<|fR1 () G G (by rw [show i = v.fAges.length by omega]) G Sn
theorem of18_c (h_c : InI c) : FnV Pg 177 [v_l, .int .i64 c] [⟨v_l, l⟩] (.int .i64 (ofE l c)) := by
 refine Fnc.proof Tryz.func177 G 24 G G fun X w => ?_
 obtain ⟨h_c1, h_c2⟩ := id h_c
 refine sa 1 G<|sq<|sa 1 G<|bk<|lpC (σ := Nat) [(0, _), (1, _)] _ (fun i C => (5, .int .i64 (i : Int)) :: C) (fun i => i ≤ l.length ∧ (∀ j, j < i → decide ((l.getD j default).fClient = c) = false)) (fun i => l.length - i) 0 (Gs G) (Sc 0 G Sn) ⟨Nat.zero_le _, fun j hj => absurd hj (Nat.not_lt_zero j)⟩ (Gs G) ?_
 rintro i ⟨hi, hall⟩
 refine sq<|qg<|ru 2 G<|lnP 0 G G Tryz.underlying53 G fun l8 => ru 1 G<|nl<|nx<|cdP G (fun h9 => ?_) (fun h9 => ?_)
 ·
  refine sk<|nx<|sq<|bk<|qg<|ru 2 G<|ixP 0 G G G slt_53 (by omega) (gE (by omega)) G fun v14 => faP (α := TEnd) (β := Int) 0 (fun x : TEnd => x.fClient) G G (Fg G) pEnd_0 G fun v15 => ldV 0 G G (Og G) G fun w16 => ru 2 G<|nl<|nx<|cdP G (fun h18 => ?_) (fun h18 => ?_)
  · exact qg<|ru 2 G<|ixP 2 G G G slt_53 (by omega) (gE (by omega)) G fun v21 => faP (α := TEnd) (β := Int) 0 (fun x : TEnd => x.fSeq) G G (Fg G) pEnd_1 G fun v22 => ldV 0 G G (Og G) G fun w23 => ru 1 G<|nl<|nx<|rt<|bR<|tR<|tR<|bR<|tR<|fR1 () G G (by rw [ofE, show ofO l c = some i from firstI_some (by omega) hall (decide_eq_true h18)]; rfl) G Sn
  ·
   refine sk<|bN<|nx<|rg<|mv G G<|adI G G (inI (by omega) (by omega)) G<|ru 1 G<|nl ?_
   exact ag (i + 1) ⟨(by omega), (all_snoc hall (decide_eq_false h18))⟩ (by omega) (Gs G) G (Sc 2 G Sn)
 · exact ex<|tE<|tE<|bE<|nx<|sa 1 G<|rt<|fR1 () G G (by rw [ofE, show ofO l c = none from firstI_none (fun k hk => hall k (by omega))]) G Sn
theorem past18_c (h_c : InI c) (h_q : InI q) : FnV Pg 119 [v_l, .int .i64 c, .int .i64 q] [⟨v_l, l⟩] (.bool (pastR l c q)) := by
 refine Fnc.proof Tryz.func119 G 22 G G fun X w => ?_
 obtain ⟨h_c1, h_c2⟩ := id h_c
 obtain ⟨h_q1, h_q2⟩ := id h_q
 exact sa 1 G<|qg<|ru 2 G<|cfv (of18_c _ _ _ h_c) ok_177 G (Sc 0 G Sn) G<|ru 1 G<|nl<|nx<|qg<|mv G G<|cfv (ends18_c _ _) ok_137 G (Sc 0 G Sn) G<|mv G G<|ja 13 3 [] [2,7] G G G<|mv G G<|ja 17 4 [] [] G G G<|ru 1 G<|nl<|nx<|rt<|fR1 () G G (by rfl) G Sn
theorem find19_c (s_0 s_1 s_2 s_3 s_4 s_5 : Value) (key : ByteArray) (A : TAccount) (hA : accAt S key = A) (h_S : S.wf) : Fnc Pg 178 [.agg (cState S s_0 s_1 s_2 s_3 s_4 s_5).toArray, .string key] [] [⟨s_0, S.fAccounts⟩, ⟨s_1, S.fMarks⟩, ⟨s_2, S.fWaits⟩, ⟨s_3, S.fDeals⟩, ⟨s_4, S.fEnds⟩, ⟨s_5, S.fImage⟩] (fun (y : Value) u => u = .tuple #[.agg (cAccount A y).toArray, .bool (isAt S key)] ∧ A.wf) (fun _ _ => []) (fun y _ => [⟨y, A.fHolders⟩]) := by
 refine Fnc.proof Tryz.func178 G 35 G G fun X w => qg<|bx G G G fun b2 => al zero_70 G fun b4 => ru 1 G<|nl<|nx<|sq<|sa 1 G<|bk<|lpC (σ := Nat) [(1, _), (2, _), (4, _)] _ (fun i C => (6, .int .i64 (i : Int)) :: C) (fun i => i ≤ S.fAccounts.length ∧ (∀ j, j < i → decide ((S.fAccounts.getD j default).fKey = key) = false)) (fun i => S.fAccounts.length - i) 0 (Gs G) (Sc 0 G (Sc 1 G (Sc 2 G (Sc 3 G (Sc 4 G (Sc 5 G Sn)))))) ⟨Nat.zero_le _, fun j hj => absurd hj (Nat.not_lt_zero j)⟩ (Gs G) ?_
 rintro i ⟨hi, hall⟩
 refine sq<|qg<|rl 3 [1] G G<|lnP 0 G G Tryz.underlying50 G fun l12 => ru 1 G<|nl<|nx<|cdP G (fun h13 => ?_) (fun h13 => ?_)
 ·
  refine sk<|nx<|sq<|bk<|qg<|rl 3 [1] G G<|ixP 0 G G G slt_50 (by omega) (gE (by omega)) G fun v19 => faP (α := TAccount) (β := ByteArray) 0 (fun x : TAccount => x.fKey) G G (Fg G) pAccount_0 G fun v20 => ldV 0 G G (Og G) G fun w21 => ru 2 G<|nl<|nx<|cdP G (fun h23 => ?_) (fun h23 => ?_)
  ·
   have e1 : accO S key = some i := firstI_some (by omega) hall (decide_eq_true h23)
   have e2 : (S.fAccounts.getD i default) = A := by rw [← hA, accAt, e1]
   subst e2
   have e3 : isAt S key = true := by rw [isAt, e1]; rfl
   refine qg<|rl 3 [1] G G<|ixP 2 G G G slt_50 (by omega) (gE (by omega)) G fun v27 => ldS 0 G G (Rg G) G fun q28 w28 => ?_
   exact oc 1 G fun o_q28 => stW 0 (us := (cAccount ((S.fAccounts.getD i default)) q28)) G G G (Rg G) (by simp only [List.all_cons, List.all_nil, Bool.and_true, o_q28]; rfl) G<|ru 1 G<|nl<|nx<|rt<|bR<|tR<|tR<|bR<|tR<|fRG q28 [_, _] (rCT 0 G G G G (Rg G)) (by rw [e3]; exact ⟨rfl, w28⟩) G (Sc 1 G Sn)
  ·
   refine sk<|bN<|nx<|rg<|mv G G<|adI G G (inI (by omega) (by omega)) G<|ru 1 G<|nl ?_
   exact ag (i + 1) ⟨(by omega), (all_snoc hall (decide_eq_false h23))⟩ (by omega) (Gs G) G (Si [2,3,4,5,6,7] G)
 ·
  have e1 : accO S key = none := firstI_none (fun k hk => hall k (by omega))
  have e2 : new15 key = A := by rw [← hA, accAt, e1]
  subst e2
  have e3 : isAt S key = false := by rw [isAt, e1]; rfl
  exact emC (α := THolder)<|ex<|tE<|tE<|bE<|nx<|qg<|mv G G<|cfv (new15_c _) ok_236 G Sn G<|ru 3 G<|al zero_70 G fun b7 => stW 0 (us := (cAccount ((new15 key)) nS)) G G G (Rg G) G G<|ru 1 G<|nl<|nx<|qg<|ldM 0 (cAccount ((new15 key)) nS) G G (Rg G) G G<|stW 1 (us := (cAccount ((new15 key)) nS)) G G G (Rg G) G G<|ru 1 G<|nl<|nx<|rt<|fRG nS [_, _, _] (rCT 1 G G G G (Rg G)) (by rw [e3]; exact ⟨rfl, new15_wf _⟩) G (Sc 0 G Sn)
theorem locked22_c (h_S : S.wf) (h_c : InI c) (h_q : InI q) : FnV Pg 120 [.agg (cState S S_0 S_1 S_2 S_3 S_4 S_5).toArray, .string key, .int .i64 c, .int .i64 q] [⟨S_0, S.fAccounts⟩, ⟨S_1, S.fMarks⟩, ⟨S_2, S.fWaits⟩, ⟨S_3, S.fDeals⟩, ⟨S_4, S.fEnds⟩, ⟨S_5, S.fImage⟩] (.bool (lockedS S key c q)) := by
 refine Fnc.proof Tryz.func120 G 32 G G fun X w => ?_
 obtain ⟨h_c1, h_c2⟩ := id h_c
 obtain ⟨h_q1, h_q2⟩ := id h_q
 refine qg<|bx G G G fun b4 => ru 1 G<|nl<|nx<|qg<|ldM 0 (cState S S_0 S_1 S_2 S_3 S_4 S_5) G G (Rg G) G G<|mv G G<|cf (find19_c S _ _ _ _ _ _ key (accAt S key) G h_S) ok_178 G (Si [0,1,2,3,4,5] G) G fun y14 v14 h14 => ?_
 obtain ⟨e14, w14⟩ := h14
 subst e14
 exact ru 3 G<|al zero_70 G fun b9 => oc 0 G fun o_y14 => stW 0 (us := (cAccount ((accAt S key)) y14)) G G G (Rg G) (by simp only [List.all_cons, List.all_nil, Bool.and_true, o_y14]; rfl) G<|ru 1 G<|nl<|nx<|qg<|ru 2 G<|ja 18 6 [0] [3,9] G G G<|mv G G<|ja 25 6 [0] [] G G G<|ru 1 G<|nl<|nx<|rt<|dpQ<|dpQ<|fR1 () G G (by rfl) G Sn
theorem waiting22_c (h_S : S.wf) (h_c : InI c) (h_q : InI q) : FnV Pg 121 [.agg (cState S S_0 S_1 S_2 S_3 S_4 S_5).toArray, .string key, .int .i64 c, .int .i64 q] [⟨S_0, S.fAccounts⟩, ⟨S_1, S.fMarks⟩, ⟨S_2, S.fWaits⟩, ⟨S_3, S.fDeals⟩, ⟨S_4, S.fEnds⟩, ⟨S_5, S.fImage⟩] (.bool (waitR S key c q)) := by
 refine Fnc.proof Tryz.func121 G 46 G G fun X w => ?_
 obtain ⟨h_c1, h_c2⟩ := id h_c
 obtain ⟨h_q1, h_q2⟩ := id h_q
 refine qg<|bx G G G fun b4 => ru 1 G<|nl<|nx<|sq<|sa 1 G<|bk<|lpC (σ := Nat) [(1, _), (2, _), (3, _), (4, _)] _ (fun i C => (9, .int .i64 (i : Int)) :: C) (fun i => i ≤ S.fWaits.length ∧ (∀ j, j < i → waitM key c q (S.fWaits.getD j default) = false)) (fun i => S.fWaits.length - i) 0 (Gs G) (Sc 0 G (Sc 1 G (Sc 2 G (Sc 3 G (Sc 4 G (Sc 5 G Sn)))))) ⟨Nat.zero_le _, fun j hj => absurd hj (Nat.not_lt_zero j)⟩ (Gs G) ?_
 rintro i ⟨hi, hall⟩
 refine sq<|qg<|rl 3 [0] G G<|lnP 2 G G Tryz.underlying51 G fun l13 => ru 1 G<|nl<|nx<|cdP G (fun h14 => ?_) (fun h14 => ?_)
 ·
  refine sk<|nx<|sq<|bk<|qg<|rl 3 [0] G G<|ixP 2 G G G slt_51 (by omega) (gE (by omega)) G fun v20 => faP (α := TWait) (β := Int) 0 (fun x : TWait => x.fClient) G G (Fg G) pWait_1 G fun v21 => ldV 0 G G (Og G) G fun w22 => ru 3 G ?_
  refine jy 25 9 [1,2,3,4,9] G G (fun h25 K34 => by
   have p25 := of_decide_eq_true h25
   exact rl 3 [0] G G<|gY G G G<|ixP 4 G G G slt_51 (by omega) (gE (by omega)) G fun v29 => gY G G G<|faP (α := TWait) (β := Int) 0 (fun x : TWait => x.fSeq) G G (Fg G) pWait_2 G fun v30 => gY G G G<|ldV 0 G G (Og G) G fun w31 => ru 3 G<|K34 G (SubD.tail (SubD.tail Sr))) ?_
  refine mv G G ?_
  refine jy 35 10 [1,2,3,4,9] G G (fun h35 K45 => by
   have p35 := h35
   try simp only [Bool.and_eq_true, decide_eq_true_eq] at p35
   exact rl 3 [0] G G<|gY G G G<|ixP 4 G G G slt_51 (by omega) (gE (by omega)) G fun v39 => gY G G G<|faP (α := TWait) (β := TOp) 0 (fun x : TWait => x.fOp) G G (Fg G) pWait_5 G fun v40 => gY G G G<|faP (α := TOp) (β := ByteArray) 0 (fun x : TOp => x.fKey) G G (Fg G) pOp_1 G fun v41 => gY G G G<|ldV 0 G G (Og G) G fun w42 => ru 3 G<|K45 G (SubD.tail (SubD.tail (SubD.tail Sr)))) ?_
  refine nl<|nx<|cdB G (fun h45 => ?_) (fun h45 => ?_)
  · exact sa 1 G<|rt<|bR<|tR<|tR<|bR<|tR<|dpQ<|fR1 () G G (by rw [waitR, firstI_some (by omega) hall h45]; rfl) G Sn
  ·
   refine sk<|bN<|nx<|rg<|mv G G<|adI G G (inI (by omega) (by omega)) G<|ru 1 G<|nl ?_
   exact ag (i + 1) ⟨(by omega), (all_snoc hall (h45))⟩ (by omega) (Gs G) G (Si [2,3,4,5,6,7] G)
 · exact ex<|tE<|tE<|bE<|nx<|sa 1 G<|rt<|dpQ<|fR1 () G G (by rw [waitR, firstI_none (fun k hk => hall k (by omega))]; rfl) G Sn
theorem epoch20_c (c : TChart) (c_0 c_1 : Value) (h_c : c.wf) (he : InI (epochP c.fPlaces + 1)) : FnV Pg 115 [.agg (cChart c c_0 c_1).toArray] [⟨c_0, c.fPlaces⟩, ⟨c_1, c.fMarks⟩] (.int .i64 (epochC c)) := by
 refine Fnc.proof Tryz.func115 G 10 G G fun X w => qg<|bx G G G fun b1 => ru 1 G<|nl<|nx<|sq<|qg<|ldM 0 (cChart c c_0 c_1) G G (Rg G) G G<|cfv (right20_c _ _ _ h_c) ok_60 G (Si [0,1] G) G<|nt G G<|nl<|nx<|cdB G (fun h5 => ?_) (fun h5 => ?_)
 · exact sa 1 G<|rt<|tR<|dpQ<|fR1 () G G (by rw [epochC, chart_eq, if_neg (by simpa using h5)]) G Sn
 · exact sk<|nx<|qg<|rl 2 [0] G G<|cfv (epoch17_c _ _ ) ok_116 G (Sc 0 G Sn) G<|adI G G he G<|ru 1 G<|nl<|nx<|rt<|dpQ<|fR1 () G G (by rw [epochC, chart_eq, if_pos (by simpa using h5)]) G Sn
theorem find15_c (a : TAccount) (a_0 : Value) (n : Int) (h_a : a.wf) (h_n : InI n) : FnV Pg 101 [.agg (cAccount a a_0).toArray, .int .i64 n] [⟨a_0, a.fHolders⟩] (.tuple #[.agg (cHolder (findH a n)).toArray, .bool (isH a n)]) := by
 refine Fnc.proof Tryz.func101 G 32 G G fun X w => ?_
 obtain ⟨h_n1, h_n2⟩ := id h_n
 refine gtC (q := a.fHolders.length ≤ 9223372036854775807) (fun S w h => list_len (h _ (List.mem_of_getElem? (i := 0) G))) fun hla => qg<|bx G G G fun b2 => al zero_165 G fun b4 => ru 1 G<|nl<|nx<|sq<|sa 1 G<|bk<|lpC (σ := Nat) [(1, _), (2, _), (4, _)] _ (fun i C => (6, .int .i64 (i : Int)) :: C) (fun i => i ≤ a.fHolders.length ∧ (∀ j, j < i → decide ((a.fHolders.getD j default).fNode = n) = false)) (fun i => a.fHolders.length - i) 0 (Gs G) (Sc 0 G Sn) ⟨Nat.zero_le _, fun j hj => absurd hj (Nat.not_lt_zero j)⟩ (Gs G) ?_
 rintro i ⟨hi, hall⟩
 refine sq<|qg<|ldM 1 (cAccount a a_0) G G (Rg G) G G<|cfv (right15_c _ _ h_a) ok_171 G (Sc 0 G Sn) G<|mv G G<|jy 9 6 [1,2,4,6] G G (fun h9 K15 => rl 3 [1] G G<|gY G G G<|lnP 0 G G Tryz.underlying66 G fun l13 => ru 2 G<|K15 G Sr)<|nl<|nx<|cdB G (fun h15 => ?_) (fun h15 => ?_)
 ·
  have hh := h15
  simp only [Bool.and_eq_true, decide_eq_true_eq] at hh
  obtain ⟨hr, hlt⟩ := hh
  have hlt : i < a.fHolders.length := by omega
  refine sk<|nx<|sq<|bk<|qg<|rl 3 [1] G G<|ixP 0 G G G slt_66 (by omega) (gE (by omega)) G fun v21 => faP (α := THolder) (β := Int) 0 (fun x : THolder => x.fNode) G G (Fg G) pHolder_0 G fun v22 => ldV 0 G G (Og G) G fun w23 => ru 2 G<|nl<|nx<|cdP G (fun h25 => ?_) (fun h25 => ?_)
  · exact qg<|rl 3 [1] G G<|ixP 2 G G G slt_66 (by omega) (gE (by omega)) G fun v29 => ldS 0 G G (Rg G) G fun q30 w30 => stW 0 (us := (cHolder ((a.fHolders.getD i default)))) G G G (Rg G) G G<|ru 1 G<|nl<|nx<|rt<|bR<|tR<|tR<|bR<|tR<|fRG () [_, _] (rCT 0 G G G G (Rg G)) (by have e := findH_some h_a hr hlt hall (decide_eq_true h25); rw [e.1, e.2]) G Sn
  ·
   refine sk<|bN<|nx<|rg<|mv G G<|adI G G (inI (by omega) (by omega)) G<|ru 1 G<|nl ?_
   exact ag (i + 1) ⟨(by omega), (all_snoc hall (decide_eq_false h25))⟩ (by omega) (Gs G) G (Sc 2 G Sn)
 ·
  have hn : right15 a = true → i = a.fHolders.length := fun e => by
   have hh := h15
   rw [e] at hh
   simp only [Bool.true_and, decide_eq_false_iff_not] at hh
   omega
  exact ex<|tE<|tE<|bE<|nx<|qg<|bd (ps := []) (cs := (cHolder ((⟨0, 0, 0, 0⟩ : THolder)))) (by rfl) (by kernel_rfl) G<|stW 0 (us := (cHolder ((⟨0, 0, 0, 0⟩ : THolder)))) G G G (Rg G) G G<|ru 1 G<|nl<|nx<|rt<|fRG () [_, _] (rCT 0 G G G G (Rg G)) (by have e := findH_fin h_a hn hall; rw [e.1, e.2]; rfl) G Sn
theorem net16_c (l : List TRight) (g : Int) (key : ByteArray) (n : Int) (h_g : InI g) (h_n : InI n) : FnV Pg 103 [v_l, .int .i64 g, .string key, .int .i64 n] [⟨v_l, l⟩] (.int .i64 (netP l g key n)) := by
 refine Fnc.proof Tryz.func103 G 50 G G fun X w => ?_
 obtain ⟨h_g1, h_g2⟩ := id h_g
 obtain ⟨h_n1, h_n2⟩ := id h_n
 refine gtC (q := l.length ≤ 9223372036854775807) (fun S w h => list_len (h _ (List.mem_of_getElem? (i := 0) G))) fun hla => sa 1 G<|sq<|sa 1 G<|bk<|lpC (σ := Nat) [(0, _), (1, _), (2, _), (3, _)] _ (fun i C => (9, .int .i64 (i : Int)) :: C) (fun i => i ≤ l.length ∧ (∀ j, j < i → rightM g key n (l.getD j default) = false)) (fun i => l.length - i) 0 (Gs G) (Sc 0 G Sn) ⟨Nat.zero_le _, fun j hj => absurd hj (Nat.not_lt_zero j)⟩ (Gs G) ?_
 rintro i ⟨hi, hall⟩
 refine sq<|qg<|mv G G<|cfv (right16_c _ _) ok_61 G (Sc 0 G Sn) G<|mv G G<|jy 12 5 [0,1,2,3,9] G G (fun h12 K17 => ru 2 G<|gY G G G<|lnP 0 G G Tryz.underlying29 G fun l15 => ru 2 G<|K17 G Sr)<|nl<|nx<|cdB G (fun h17 => ?_) (fun h17 => ?_)
 ·
  have hh := h17
  simp only [Bool.and_eq_true, decide_eq_true_eq] at hh
  obtain ⟨hr, hlt⟩ := hh
  have hlt : i < l.length := by omega
  refine sk<|nx<|sq<|bk<|qg<|ru 2 G<|ixP 0 G G G slt_29 (by omega) (gE (by omega)) G fun v22 => faP (α := TRight) (β := Int) 0 (fun x : TRight => x.fGroup) G G (Fg G) pRight_0 G fun v23 => ldV 0 G G (Og G) G fun w24 => ru 3 G ?_
  refine jy 27 8 [0,1,2,3,9] G G (fun h27 K35 => by
   have p27 := of_decide_eq_true h27
   exact ru 2 G<|gY G G G<|ixP 2 G G G slt_29 (by omega) (gE (by omega)) G fun v30 => gY G G G<|faP (α := TRight) (β := ByteArray) 0 (fun x : TRight => x.fKey) G G (Fg G) pRight_1 G fun v31 => gY G G G<|ldV 0 G G (Og G) G fun w32 => ru 3 G<|K35 G (SubD.tail (SubD.tail Sr))) ?_
  refine mv G G ?_
  refine jy 36 8 [0,1,2,3,9] G G (fun h36 K44 => by
   have p36 := h36
   try simp only [Bool.and_eq_true, decide_eq_true_eq] at p36
   exact ru 2 G<|gY G G G<|ixP 2 G G G slt_29 (by omega) (gE (by omega)) G fun v39 => gY G G G<|faP (α := TRight) (β := Int) 0 (fun x : TRight => x.fLease) G G (Fg G) pRight_2 G fun v40 => gY G G G<|ldV 0 G G (Og G) G fun w41 => ru 3 G<|K44 G (SubD.tail (SubD.tail Sr))) ?_
  refine nl<|nx<|cdB G (fun h44 => ?_) (fun h44 => ?_)
  · exact qg<|ru 2 G<|ixP 2 G G G slt_29 (by omega) (gE (by omega)) G fun v47 => faP (α := TRight) (β := Int) 0 (fun x : TRight => x.fNet) G G (Fg G) pRight_3 G fun v48 => ldV 0 G G (Og G) G fun w49 => ru 1 G<|nl<|nx<|rt<|bR<|tR<|tR<|bR<|tR<|fR1 () G G (by rw [netP_some hr hlt hall h44]; rfl) G Sn
  ·
   refine sk<|bN<|nx<|rg<|mv G G<|adI G G (inI (by omega) (by omega)) G<|ru 1 G<|nl ?_
   exact ag (i + 1) ⟨(by omega), (all_snoc hall (h44))⟩ (by omega) (Gs G) G (Sc 2 G Sn)
 ·
  have hn : rights16 l = true → i = l.length := fun e => by
   have hh := h17
   rw [e] at hh
   simp only [Bool.true_and, decide_eq_false_iff_not] at hh
   omega
  exact ex<|tE<|tE<|bE<|nx<|sa 1 G<|rt<|fR1 () G G (by rw [netP_fin hn hall]) G Sn
theorem report16_c (l : List TRight) (g : Int) (a : TAccount) (a_0 : Value) (n : Int) (h_a : a.wf) (h_g : InI g) (h_n : InI n) : FnV Pg 47 [v_l, .int .i64 g, .agg (cAccount a a_0).toArray, .int .i64 n] [⟨v_l, l⟩, ⟨a_0, a.fHolders⟩] (.tuple #[.agg (cCommand (repC l g a n) nS).toArray, .bool (repB l g a n)]) := by
 refine Fnc.proof Tryz.func47 G 51 G G fun X w => ?_
 obtain ⟨h_g1, h_g2⟩ := id h_g
 obtain ⟨h_n1, h_n2⟩ := id h_n
 refine gtC (q := ∀ x ∈ a.fHolders, x.wf) (fun S w h => list_wf (s := sHolder) (h _ (List.mem_of_getElem? (i := 1) G))) fun hwH => ?_
 obtain ⟨hfl1, hfl2⟩ := (findH_wf hwH n).2.1
 refine qg<|bx G G G fun b6 => al zero_37 G fun b8 => ru 1 G<|nl<|nx<|qg<|ldM 1 (cAccount a a_0) G G (Rg G) G G<|mv G G<|cfv (find15_c _ _ _ h_a h_n) ok_101 G (Sc 1 G Sn) G<|ru 2 G<|ru 1 G<|al zero_165 G fun b10 => stW 0 (us := (cHolder ((findH a n)))) G G G (Rg G) G G<|ru 1 G<|nl<|nx<|sq<|qg<|mv G G<|cfv (right16_c _ _) ok_61 G (Sc 0 G Sn) G<|ru 2 G<|jb 21 3 [] [0,1,3,6,8,10] G G G<|mv G G<|jb 25 4 [2] [0,1,3,6,8,10] G G G<|mv G G<|jz 30 4 [0,1,3,6,8,10] G G (fun h30 K34 => ru 1 G<|gY G G G<|cfv (group16_c _ h_g) ok_102 G Sn G<|ru 2 G<|K34 G Sr)<|nl<|nx<|cdB G (fun h34 => ?_) (fun h34 => ?_)
 · exact qg<|bd (ps := []) (cs := (cCommand ((⟨0, 0, 0, 0, 0, 0, ByteArray.empty, 0, 0, 0, false, oZ, pZ, []⟩ : TCommand)) nS)) (by rfl) (by kernel_rfl) G<|stW 1 (us := (cCommand ((⟨0, 0, 0, 0, 0, 0, ByteArray.empty, 0, 0, 0, false, oZ, pZ, []⟩ : TCommand)) nS)) G G G (Rg G) G G<|ru 1 G<|nl<|nx<|rt<|tR<|fRG () [_, _, _] (rCT 1 G G G G (Rg G)) (by have e := rep_no h_a h34; rw [e.1, e.2]; rfl) G Sn
 · exact sk<|nx<|sq<|rgT 15 mixed (by kernel_rfl)<|rl 10 [2,0,2] G G<|rl 3 [2,0] G G<|cfq (net16_c _ _ _ _ _ h_g (inI (by omega) (by omega))) ok_103 G (Sc 0 G Sn) G<|bdJ (ps := [(0, .const (.int .i64 2)), (4, .tmp 36), (6, .tmp 38), (7, .tmp 40), (8, .tmp 42), (9, .tmp 49)]) (cs := (cCommand ((⟨2, 0, 0, 0, n, 0, a.fKey, (findH a n).fLease, a.fRound, (netP l g a.fKey (findH a n).fLease), false, oZ, pZ, []⟩ : TCommand)) nS)) (by rfl) (by kernel_rfl) G<|nlT<|stW 1 (us := (cCommand ((⟨2, 0, 0, 0, n, 0, a.fKey, (findH a n).fLease, a.fRound, (netP l g a.fKey (findH a n).fLease), false, oZ, pZ, []⟩ : TCommand)) nS)) G G G (Rg G) G G<|ru 1 G<|nl<|nx<|rt<|fRG () [_, _, _] (rCT 1 G G G G (Rg G)) (by have e := rep_yes h_a h34; rw [e.1, e.2]; rfl) G Sn
end
end Go.Proofs.YtmpoffijcfaalaaGreat
