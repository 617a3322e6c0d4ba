/- Part 19 of dutyPlays_holds. -/
import Derived.Test.YtmpoffijcfaalaaGreatPl18

set_option maxRecDepth 20000
set_option maxHeartbeats 1000000
namespace Go.Proofs.YtmpoffijcfaalaaGreat
open Go.Eng Go.YtmpoffijcfaalaaGreat
section
variable (v : TScene) (v_0 v_1 v_2 v_3 v_4 : Value) (n : Int) (S : TState) (s_0 s_1 s_2 s_3 s_4 s_5 : Value) (T : TState)
theorem state_r (ys : List (TState × sState.H)) (h_v : v.wf) (hn1 : 1 ≤ n) (hn2 : n ≤ 100) (hy : ys[(n - 1).toNat]? = some (S, (s_0, s_1, s_2, s_3, s_4, s_5))) : FnV Pg 45 [.agg (cScene v v_0 v_1 v_2 v_3 v_4).toArray, .int .i64 n] [rawA sState v_2 ys, ⟨s_0, S.fAccounts⟩, ⟨s_1, S.fMarks⟩, ⟨s_2, S.fWaits⟩, ⟨s_3, S.fDeals⟩, ⟨s_4, S.fEnds⟩, ⟨s_5, S.fImage⟩] (.agg (cState S s_0 s_1 s_2 s_3 s_4 s_5).toArray) := by
 exact Fnc.proof Tryz.func45 G 11 G G fun X w => qg<|bx G G G fun b2 => al zero_55 G fun b4 => nl<|nx<|qg<|rl 3 [1] G G<|sbI G G (inI (by omega) (by omega)) G<|ixP 0 G G G slt_28 (by omega) hy G fun v9 => ldRaw (s := sState) (ov := S) (hh := ⟨s_0, s_1, s_2, s_3, s_4, s_5⟩) 0 G G (Rg G) G fun w10 => oc 2 G fun o_s_0 => oc 3 G fun o_s_1 => oc 4 G fun o_s_2 => oc 5 G fun o_s_3 => oc 6 G fun o_s_4 => oc 7 G fun o_s_5 => stW 0 (us := (cState S s_0 s_1 s_2 s_3 s_4 s_5)) G G G (Rg G) (by simp only [List.all_cons, List.all_nil, Bool.and_true, o_s_0, o_s_1, o_s_2, o_s_3, o_s_4, o_s_5]; rfl) G<|nl<|nx<|rt<|fRG () [_, _] (rC 0 G G G (Rg G)) (by rfl) G Sn
theorem decide_c (d : TDeal) (T : TState) (hT : stAt v (whoseP v d.fOther) = T) (h_v : v.wf) (h_d : d.wf) (hp : 0 < v.fChart.fPlaces.length) (hw1 : 1 ≤ whoseP v d.fOther) (hw2 : whoseP v d.fOther < 8) (hl : v.fStates.length = 7) (hb : HolS T) : FnV Pg 110 [.agg (cScene v v_0 v_1 v_2 v_3 v_4).toArray, .agg (cDeal d).toArray] [⟨v_0, v.fChart.fPlaces⟩, ⟨v_1, v.fChart.fMarks⟩, ⟨v_2, v.fStates⟩, ⟨v_3, v.fRights⟩, ⟨v_4, v.fAges⟩] (.tuple #[.agg (cCommand (decC v d T) nS).toArray, .bool (decB v d T)]) := by
 refine Fnc.proof Tryz.func110 G 81 G G fun X w => rawNC (s := sState) 2 ((whoseP v d.fOther) - 1).toNat G (by omega) ?_
 rw [show v.fStates.getD ((whoseP v d.fOther) - 1).toNat default = T from hT]
 rintro ys ⟨t_0, t_1, t_2, t_3, t_4, t_5⟩ hy_t h_T
 have hk := h_d.2.2.2.1
 refine qg<|bx G G G fun b2 => bx G G G fun b3 => al zero_37 G fun b4 => ru 1 G<|nl<|nx<|qg<|rl 4 [1,1] G G<|bd (ps := [(1, .tmp 11), (2, .tmp 13)]) (cs := (cCommand ((⟨0, d.fClient, d.fSeq, 0, 0, 0, ByteArray.empty, 0, 0, 0, false, oZ, pZ, []⟩ : TCommand)) nS)) (by rfl) (by kernel_rfl) G<|al zero_37 G fun b6 => stW 0 (us := (cCommand ((⟨0, d.fClient, d.fSeq, 0, 0, 0, ByteArray.empty, 0, 0, 0, false, oZ, pZ, []⟩ : TCommand)) nS)) G G G (Rg G) G G<|nl<|nx<|sq ?_
 have hbr2 := h_d
 refine rgZ (L := [bl b6 37 (cCommand ((⟨0, d.fClient, d.fSeq, 0, 0, 0, ByteArray.empty, 0, 0, 0, false, oZ, pZ, []⟩ : TCommand)) nS), bl b4 37 zv9, bl b3 126 (cDeal d), bl b2 32 (cScene v v_0 v_1 v_2 v_3 v_4), fz X w]) [(4,.cv [7,8,9,10,11] ⟨_,_,_,_,whose_c v v_0 v_1 v_2 v_3 v_4 d.fOther h_v hp,ok_112⟩),(5,.cv [0,1,2,3,4,5,6] ⟨_,_,_,_,state_r v v_0 v_1 v_2 v_3 v_4 (whoseP v d.fOther) T t_0 t_1 t_2 t_3 t_4 t_5 ys h_v (by omega) (by omega) hy_t,ok_45⟩)] [(0,⟨some (.agg (cScene v v_0 v_1 v_2 v_3 v_4).toArray),fun _ => [],false⟩),(1,⟨some (.agg (cScene v v_0 v_1 v_2 v_3 v_4).toArray),fun _ => [],false⟩),(3,⟨some (.string d.fOther),fun _ => [],false⟩),(6,⟨none,fun _ => [],true⟩),(7,⟨none,fun _ => [],true⟩)] [(6,fun u => u = .pointer (some ⟨ptrB u, 0, none⟩))] [] [(6,fun L zz => (bl (ptrB (zz 6)) 55 zv6) :: L),(7,fun L zz => rpE 5 (bl (ptrB (zz 6)) 55 (cState T t_0 t_1 t_2 t_3 t_4 t_5)) L)] (fun _ => G) (fun _ => by kernel_rfl) ?_ fun V hV => ?_
 ·
  refine ⟨fun V De _=>aP2 (ldM 3 (cScene v v_0 v_1 v_2 v_3 v_4) G G (Rg G) G G<|oh G G G G) (ldM 4 (cScene v v_0 v_1 v_2 v_3 v_4) G G (Rg G) G G<|oh G G G G),fun V De _=>aP2 (ldM 3 (cScene v v_0 v_1 v_2 v_3 v_4) G G (Rg G) G G<|oh G G G G) (ldM 4 (cScene v v_0 v_1 v_2 v_3 v_4) G G (Rg G) G G<|oh G G G G),fun V De _=>aP2 (ldB 2 G G (Og G) G G<|oh G G G G) (ldB 3 G G (Og G) G G<|oh G G G G),fun V De _=>aP1 (al zero_55 G fun b7 => oh G G G G),?_⟩
  refine ⟨fun V De hV=>aP1 ?_,?_⟩
  · exact oc 1 G fun o_t_0 => oc 2 G fun o_t_1 => oc 3 G fun o_t_2 => oc 4 G fun o_t_3 => oc 5 G fun o_t_4 => oc 6 G fun o_t_5 => stW 0 (us := (cState T t_0 t_1 t_2 t_3 t_4 t_5)) (congrArg some (hV.mem 6 (mE G) G)) G G (Rg G) (by simp only [List.all_cons, List.all_nil, Bool.and_true, o_t_0, o_t_1, o_t_2, o_t_3, o_t_4, o_t_5]; rfl) G<|oh0 G G
  trivial
 ·
  obtain ⟨b7, hb7⟩ : ∃ b, V 6 = .pointer (some ⟨b, 0, none⟩) := ⟨_, hV.mem 6 (by decide) rfl rfl⟩
  simp only [hb7, ptrB_mk]
  refine nx<|sq<|rgQ mixed (by kernel_rfl)<|ldM 0 (cState T t_0 t_1 t_2 t_3 t_4 t_5) G G (Rg G) G G<|rl 2 [3] G G<|ldM 3 (cDeal d) G G (Rg G) G G<|cfq (dlocked_c _ _ _ _ _ _ _ _ _ h_T h_d (by assumption)) ok_174 G (Si [1,2,3,4,5,6] G) G<|rl 6 [0,3,3] G G<|cfq (past_c _ _ _ _ h_d.1 h_d.2.1) ok_175 G (Sc 5 G Sn) G<|ru 2 G<|nlQ<|nx<|sq<|bk<|sb 4 [3] G G<|cdN G (fun h33 => ?_) (fun h33 => ?_)
  ·
   have q1 : d.fFate ≠ 0 := by simpa using h33
   refine qg<|ru 1 G<|stB 1 G G G (Og G) G (nlt G)<|nl<|nx<|sq ?_
   have hbr6 := h_d
   refine rgZ (L := [bl b7 55 (cState T t_0 t_1 t_2 t_3 t_4 t_5), bl b6 37 [.int .i64 7, .int .i64 (d.fClient), .int .i64 (d.fSeq), .int .i64 (0), .int .i64 (0), .int .i64 (0), .string ByteArray.empty, .int .i64 (0), .int .i64 (0), .int .i64 (0), .bool (false), .int .i64 (0), .string ByteArray.empty, .string ByteArray.empty, .int .i64 (0), .int .i64 (0), .int .i64 (0), .int .i64 (0), .int .i64 (0), .int .i64 (0), .string ByteArray.empty, .string ByteArray.empty, .int .i64 (0), .int .i64 (0), nS], bl b4 37 zv9, bl b3 126 (cDeal d), bl b2 32 (cScene v v_0 v_1 v_2 v_3 v_4), fz X w]) [(0,.ld 1),(1,.ld 0),(3,.ld 3),(4,.cv [1,2,3,4,5,6] ⟨_,_,_,_,owns_c T t_0 t_1 t_2 t_3 t_4 t_5 d.fOther h_T,ok_78⟩)] [(6,⟨some ((bif ownsP T d.fOther then (.bool (pastP T.fEnds d.fClient d.fSeq)) else undef)),fun _ => [],false⟩),(7,⟨some (.bool ((ownsP T d.fOther && pastP T.fEnds d.fClient d.fSeq))),fun _ => [],false⟩),(9,⟨some ((bif (ownsP T d.fOther && pastP T.fEnds d.fClient d.fSeq) then (.bool (lockedS T d.fOther d.fClient d.fSeq)) else undef)),fun _ => [],false⟩),(10,⟨some ((bif (ownsP T d.fOther && pastP T.fEnds d.fClient d.fSeq) then (.bool ((!(lockedS T d.fOther d.fClient d.fSeq)))) else undef)),fun _ => [],false⟩),(11,⟨some (.bool (((ownsP T d.fOther && pastP T.fEnds d.fClient d.fSeq) && (!(lockedS T d.fOther d.fClient d.fSeq))))),fun _ => [],false⟩),(13,⟨some ((bif ((ownsP T d.fOther && pastP T.fEnds d.fClient d.fSeq) && (!(lockedS T d.fOther d.fClient d.fSeq))) then (.agg (cState T t_0 t_1 t_2 t_3 t_4 t_5).toArray) else undef)),fun _ => [],false⟩),(14,⟨some ((bif ((ownsP T d.fOther && pastP T.fEnds d.fClient d.fSeq) && (!(lockedS T d.fOther d.fClient d.fSeq))) then (.pointer (some ⟨b3, 3, none⟩)) else undef)),fun _ => [],false⟩),(15,⟨some ((bif ((ownsP T d.fOther && pastP T.fEnds d.fClient d.fSeq) && (!(lockedS T d.fOther d.fClient d.fSeq))) then (.string d.fOther) else undef)),fun _ => [],false⟩),(16,⟨some ((bif ((ownsP T d.fOther && pastP T.fEnds d.fClient d.fSeq) && (!(lockedS T d.fOther d.fClient d.fSeq))) then (.agg (cDeal d).toArray) else undef)),fun _ => [],false⟩),(17,⟨some ((bif ((ownsP T d.fOther && pastP T.fEnds d.fClient d.fSeq) && (!(lockedS T d.fOther d.fClient d.fSeq))) then (.bool (waitsS T d.fOther d.fClient d.fSeq)) else undef)),fun _ => [],false⟩),(18,⟨some ((bif ((ownsP T d.fOther && pastP T.fEnds d.fClient d.fSeq) && (!(lockedS T d.fOther d.fClient d.fSeq))) then (.bool ((!(waitsS T d.fOther d.fClient d.fSeq)))) else undef)),fun _ => [],false⟩),(19,⟨some (.bool ((((ownsP T d.fOther && pastP T.fEnds d.fClient d.fSeq) && (!(lockedS T d.fOther d.fClient d.fSeq))) && (!(waitsS T d.fOther d.fClient d.fSeq))))),fun _ => [],false⟩),(20,⟨none,fun _ => [],true⟩)] [] [] [(20,fun L _ => rpE 3 (bl b4 37 (cCommand ((⟨7, d.fClient, d.fSeq, 0, 0, 0, ByteArray.empty, 0, 0, 0, false, oZ, pZ, ([])⟩ : TCommand)) nS)) L)] (fun _ => G) (fun _ => by kernel_rfl) ?_ fun V _ => ?_
   ·
    refine ⟨fun V De _=>?_,?_⟩
    ·
     repeat
      refine aC ?_ ?_
      ·
       rcases Bool.eq_false_or_eq_true (ownsP T d.fOther) with hg | hg
       ·
        simp only [hg]
        exact ru 1 G<|oh G G G G
       ·
        simp only [hg]
        exact gN G G G G G<|oh G G G G
     trivial
    refine ⟨fun V De _=>?_,?_⟩
    ·
     repeat
      refine aC ?_ ?_
      ·
       rcases Bool.eq_false_or_eq_true (ownsP T d.fOther) with hg | hg
       ·
        simp only [hg]
        exact ru 1 G<|oh G G G G
       ·
        simp only [hg]
        exact ru 1 G<|oh G G G G
     trivial
    refine ⟨fun V De _=>?_,?_⟩
    ·
     repeat
      refine aC ?_ ?_
      ·
       rcases Bool.eq_false_or_eq_true ((ownsP T d.fOther && pastP T.fEnds d.fClient d.fSeq)) with hg | hg
       ·
        simp only [hg]
        exact ru 1 G<|oh G G G G
       ·
        simp only [hg]
        exact gN G G G G G<|oh G G G G
     trivial
    refine ⟨fun V De _=>?_,?_⟩
    ·
     repeat
      refine aC ?_ ?_
      ·
       rcases Bool.eq_false_or_eq_true ((ownsP T d.fOther && pastP T.fEnds d.fClient d.fSeq)) with hg | hg
       ·
        simp only [hg]
        exact ru 1 G<|oh G G G G
       ·
        simp only [hg]
        exact gN G G G G G<|oh G G G G
     trivial
    refine ⟨fun V De _=>?_,?_⟩
    ·
     repeat
      refine aC ?_ ?_
      ·
       rcases Bool.eq_false_or_eq_true ((ownsP T d.fOther && pastP T.fEnds d.fClient d.fSeq)) with hg | hg
       ·
        simp only [hg]
        exact ru 1 G<|oh G G G G
       ·
        simp only [hg]
        exact ru 1 G<|oh G G G G
     trivial
    refine ⟨fun V De _=>?_,?_⟩
    ·
     repeat
      refine aC ?_ ?_
      ·
       rcases Bool.eq_false_or_eq_true (((ownsP T d.fOther && pastP T.fEnds d.fClient d.fSeq) && (!(lockedS T d.fOther d.fClient d.fSeq)))) with hg | hg
       ·
        simp only [hg]
        exact gY G G G<|ldM 0 (cState T t_0 t_1 t_2 t_3 t_4 t_5) G G (Rg G) G G<|oh G G G G
       ·
        simp only [hg]
        exact gN G G G G G<|oh G G G G
     trivial
    refine ⟨fun V De _=>?_,?_⟩
    ·
     repeat
      refine aC ?_ ?_
      ·
       rcases Bool.eq_false_or_eq_true (((ownsP T d.fOther && pastP T.fEnds d.fClient d.fSeq) && (!(lockedS T d.fOther d.fClient d.fSeq)))) with hg | hg
       ·
        simp only [hg]
        exact ru 1 G<|oh G G G G
       ·
        simp only [hg]
        exact gN G G G G G<|oh G G G G
     trivial
    refine ⟨fun V De _=>?_,?_⟩
    ·
     repeat
      refine aC ?_ ?_
      ·
       rcases Bool.eq_false_or_eq_true (((ownsP T d.fOther && pastP T.fEnds d.fClient d.fSeq) && (!(lockedS T d.fOther d.fClient d.fSeq)))) with hg | hg
       ·
        simp only [hg]
        exact rl 1 [3] G G<|oh G G G G
       ·
        simp only [hg]
        exact gN G G G G G<|oh G G G G
     trivial
    refine ⟨fun V De _=>?_,?_⟩
    ·
     repeat
      refine aC ?_ ?_
      ·
       rcases Bool.eq_false_or_eq_true (((ownsP T d.fOther && pastP T.fEnds d.fClient d.fSeq) && (!(lockedS T d.fOther d.fClient d.fSeq)))) with hg | hg
       ·
        simp only [hg]
        exact gY G G G<|ldM 3 (cDeal d) G G (Rg G) G G<|oh G G G G
       ·
        simp only [hg]
        exact gN G G G G G<|oh G G G G
     trivial
    refine ⟨fun V De _=>aP1 ?_,?_⟩
    ·
     rcases Bool.eq_false_or_eq_true (((ownsP T d.fOther && pastP T.fEnds d.fClient d.fSeq) && (!(lockedS T d.fOther d.fClient d.fSeq)))) with hg | hg
     ·
      simp only [hg]
      exact gY G G G<|cfv (dwaits_c _ _ _ _ _ _ _ _ _ h_T h_d (by assumption)) ok_176 G (Si [1,2,3,4,5,6] G) G<|oh G G G G
     ·
      simp only [hg]
      exact gN G G G G G<|oh G G G G
    refine ⟨fun V De _=>?_,?_⟩
    ·
     repeat
      refine aC ?_ ?_
      ·
       rcases Bool.eq_false_or_eq_true (((ownsP T d.fOther && pastP T.fEnds d.fClient d.fSeq) && (!(lockedS T d.fOther d.fClient d.fSeq)))) with hg | hg
       ·
        simp only [hg]
        exact ru 1 G<|oh G G G G
       ·
        simp only [hg]
        exact gN G G G G G<|oh G G G G
     trivial
    refine ⟨fun V De _=>?_,?_⟩
    ·
     repeat
      refine aC ?_ ?_
      ·
       rcases Bool.eq_false_or_eq_true (((ownsP T d.fOther && pastP T.fEnds d.fClient d.fSeq) && (!(lockedS T d.fOther d.fClient d.fSeq)))) with hg | hg
       ·
        simp only [hg]
        exact ru 1 G<|oh G G G G
       ·
        simp only [hg]
        exact ru 1 G<|oh G G G G
     trivial
    exact ⟨fun V De _=>aP1 (stW 2 (us := (cCommand ((⟨7, d.fClient, d.fSeq, 0, 0, 0, ByteArray.empty, 0, 0, 0, false, oZ, pZ, ([])⟩ : TCommand)) nS)) G G G (Rg G) G G<|oh0 G G),trivial⟩
   · exact nx<|rt<|bR<|tR<|fRG () [_, _, _, _, _] (rCT 2 G G G G (Rg G)) (by rw [decC, decB, if_pos q1, if_pos q1]; rfl) G Sn
  ·
   have q1 : ¬ d.fFate ≠ 0 := by simpa using h33
   refine qg<|ldM 4 (cScene v v_0 v_1 v_2 v_3 v_4) G G (Rg G) G G<|rl 4 [3,3] G G<|cfv (age_c _ _ _ _ _ _ _ _ h_v h_d.1 h_d.2.1) ok_105 G (Si [7,8,9,10,11] G) G<|ru 2 G<|nl<|nx<|cdP G (fun h58 => ?_) (fun h58 => ?_)
   ·
    have q2 : oldP v d.fClient d.fSeq = true := decide_eq_true h58
    exact qg<|ru 1 G<|stB 1 G G G (Og G) G (nlt G)<|nl<|nx<|qg<|ldM 1 (cCommand ((⟨3, d.fClient, d.fSeq, 0, 0, 0, ByteArray.empty, 0, 0, 0, false, oZ, pZ, ([])⟩ : TCommand)) nS) G G (Rg G) G G<|stW 2 (us := (cCommand ((⟨3, d.fClient, d.fSeq, 0, 0, 0, ByteArray.empty, 0, 0, 0, false, oZ, pZ, ([])⟩ : TCommand)) nS)) G G G (Rg G) G G<|ru 1 G<|nl<|nx<|rt<|bR<|tR<|fRG () [_, _, _, _, _] (rCT 2 G G G G (Rg G)) (by rw [decC, decB, if_neg q1, if_neg q1, if_pos q2, if_pos q2]; rfl) G Sn
   ·
    have q2 : ¬ oldP v d.fClient d.fSeq = true := fun e => h58 (of_decide_eq_true e)
    refine sk<|bN<|nx<|qg<|ru 2 G<|stB 1 G G G (Og G) G (nlt G)<|ru 1 G<|stB 1 G G G (Og G) G (nlt G)<|nl<|nx<|qg<|ldM 1 (cCommand ((⟨5, d.fClient, d.fSeq, 0, 0, 0, ByteArray.empty, 0, 0, 0, lockedS T d.fOther d.fClient d.fSeq, oZ, pZ, ([])⟩ : TCommand)) nS) G G (Rg G) G G<|rl 4 [3] G G ?_
    refine jy 75 5 [4,71] G G (fun h75 K80 => by
     have p75 := of_decide_eq_true h75
     exact ru 2 G<|jb 77 2 [] [4,71,75] G G G<|ru 1 G<|K80 G Sr) ?_
    exact stW 2 (us := (cCommand ((⟨5, d.fClient, d.fSeq, 0, 0, 0, ByteArray.empty, 0, 0, 0, lockedS T d.fOther d.fClient d.fSeq, oZ, pZ, ([])⟩ : TCommand)) nS)) G G G (Rg G) G G<|ru 1 G<|nl<|nx<|rt<|fRG () [_, _, _, _, _] (rCT 2 G G G G (Rg G)) (by rw [decC, decB, if_neg q1, if_neg q1, if_neg q2, if_neg q2]; rfl) G Sn
theorem side_c (n : Int) (d : TDeal) (h_S : S.wf) (h_n : InI n) (h_d : d.wf) (hb : HolS S) : FnV Pg 113 [.agg (cState S s_0 s_1 s_2 s_3 s_4 s_5).toArray, .int .i64 n, .agg (cDeal d).toArray] [⟨s_0, S.fAccounts⟩, ⟨s_1, S.fMarks⟩, ⟨s_2, S.fWaits⟩, ⟨s_3, S.fDeals⟩, ⟨s_4, S.fEnds⟩, ⟨s_5, S.fImage⟩] (.tuple #[.agg (cCommand (sideC S n d) nS).toArray, .bool (sideB S d)]) := by
 refine Fnc.proof Tryz.func113 G 80 G G fun X w => ?_
 obtain ⟨h_n1, h_n2⟩ := id h_n
 have hk := h_d.2.2.2.1
 refine qg<|bx G G G fun b3 => bx G G G fun b5 => al zero_37 G fun b6 => ru 1 G<|nl<|nx<|sq<|rgQ mixed (by kernel_rfl)<|ldM 2 (cState S s_0 s_1 s_2 s_3 s_4 s_5) G G (Rg G) G G<|rl 2 [1] G G<|ldM 1 (cDeal d) G G (Rg G) G G<|cfq (dlocked_c _ _ _ _ _ _ _ _ _ h_S h_d (by assumption)) ok_174 G (Si [0,1,2,3,4,5] G) G<|rl 6 [2,1,1] G G<|cfq (past_c _ _ _ _ h_d.1 h_d.2.1) ok_175 G (Sc 4 G Sn) G<|ru 2 G<|nlQ<|nx<|qg<|rl 6 [1,1,1] G G<|bd (ps := [(1, .tmp 24), (2, .tmp 26), (6, .tmp 28)]) (cs := (cCommand ((⟨0, d.fClient, d.fSeq, 0, 0, 0, d.fOther, 0, 0, 0, false, oZ, pZ, []⟩ : TCommand)) nS)) (by rfl) (by kernel_rfl) G<|al zero_37 G fun b10 => stW 0 (us := (cCommand ((⟨0, d.fClient, d.fSeq, 0, 0, 0, d.fOther, 0, 0, 0, false, oZ, pZ, []⟩ : TCommand)) nS)) G G G (Rg G) G G<|nl<|nx<|sq<|sb 3 [2] G G<|cdN G (fun h32 => ?_) (fun h32 => ?_)
 ·
  have q1 : d.fFate ≠ 0 := by simpa using h32
  refine sq ?_
  have hbr4 := h_d
  refine rgX [(1,.ld 2),(4,.st 0),(6,.st 0)] G (by kernel_rfl)<|nx<|sq ?_
  have hbr5 := h_d
  refine rgZ (L := [bl b10 37 [.int .i64 6, .int .i64 (d.fClient), .int .i64 (d.fSeq), .int .i64 (0), .int .i64 (0), .int .i64 (0), .string d.fOther, .int .i64 (0), .int .i64 (0), .int .i64 (0), .bool (decide (d.fFate = 1)), .int .i64 (0), .string ByteArray.empty, .string ByteArray.empty, .int .i64 (0), .int .i64 (0), .int .i64 (0), .int .i64 (0), .int .i64 (0), .int .i64 (0), .string ByteArray.empty, .string ByteArray.empty, .int .i64 (0), .int .i64 (0), nS], bl b6 37 zv9, bl b5 126 (cDeal d), bl b3 55 (cState S s_0 s_1 s_2 s_3 s_4 s_5), fz X w]) [(0,.ld 0)] [(3,⟨some ((bif lockedS S d.fOther d.fClient d.fSeq then undef else (.bool (pastP S.fEnds d.fClient d.fSeq)))),fun _ => [],false⟩),(4,⟨some ((bif lockedS S d.fOther d.fClient d.fSeq then undef else (.bool ((!(pastP S.fEnds d.fClient d.fSeq)))))),fun _ => [],false⟩),(5,⟨some (.bool ((lockedS S d.fOther d.fClient d.fSeq || (!(pastP S.fEnds d.fClient d.fSeq))))),fun _ => [],false⟩),(7,⟨some ((bif (lockedS S d.fOther d.fClient d.fSeq || (!(pastP S.fEnds d.fClient d.fSeq))) then undef else (.agg (cState S s_0 s_1 s_2 s_3 s_4 s_5).toArray))),fun _ => [],false⟩),(8,⟨some ((bif (lockedS S d.fOther d.fClient d.fSeq || (!(pastP S.fEnds d.fClient d.fSeq))) then undef else (.pointer (some ⟨b5, 3, none⟩)))),fun _ => [],false⟩),(9,⟨some ((bif (lockedS S d.fOther d.fClient d.fSeq || (!(pastP S.fEnds d.fClient d.fSeq))) then undef else (.string d.fOther))),fun _ => [],false⟩),(10,⟨some ((bif (lockedS S d.fOther d.fClient d.fSeq || (!(pastP S.fEnds d.fClient d.fSeq))) then undef else (.agg (cDeal d).toArray))),fun _ => [],false⟩),(11,⟨some ((bif (lockedS S d.fOther d.fClient d.fSeq || (!(pastP S.fEnds d.fClient d.fSeq))) then undef else (.bool (waitsS S d.fOther d.fClient d.fSeq)))),fun _ => [],false⟩),(12,⟨some (.bool (((lockedS S d.fOther d.fClient d.fSeq || (!(pastP S.fEnds d.fClient d.fSeq))) || waitsS S d.fOther d.fClient d.fSeq))),fun _ => [],false⟩),(13,⟨none,fun _ => [],true⟩)] [] [] [(13,fun L _ => rpE 3 (bl b6 37 (cCommand ((⟨6, d.fClient, d.fSeq, 0, 0, 0, d.fOther, 0, 0, 0, decide (d.fFate = 1), oZ, pZ, ([])⟩ : TCommand)) nS)) L)] (fun _ => G) (fun _ => by kernel_rfl) ?_ fun V _ => ?_
  ·
   refine ⟨fun V De _=>?_,?_⟩
   ·
    repeat
     refine aC ?_ ?_
     ·
      rcases Bool.eq_false_or_eq_true (lockedS S d.fOther d.fClient d.fSeq) with hg | hg
      ·
       simp only [hg]
       exact gN G G G G G<|oh G G G G
      ·
       simp only [hg]
       exact ru 1 G<|oh G G G G
    trivial
   refine ⟨fun V De _=>?_,?_⟩
   ·
    repeat
     refine aC ?_ ?_
     ·
      rcases Bool.eq_false_or_eq_true (lockedS S d.fOther d.fClient d.fSeq) with hg | hg
      ·
       simp only [hg]
       exact gN G G G G G<|oh G G G G
      ·
       simp only [hg]
       exact ru 1 G<|oh G G G G
    trivial
   refine ⟨fun V De _=>?_,?_⟩
   ·
    repeat
     refine aC ?_ ?_
     ·
      rcases Bool.eq_false_or_eq_true (lockedS S d.fOther d.fClient d.fSeq) with hg | hg
      ·
       simp only [hg]
       exact ru 1 G<|oh G G G G
      ·
       simp only [hg]
       exact ru 1 G<|oh G G G G
    trivial
   refine ⟨fun V De _=>?_,?_⟩
   ·
    repeat
     refine aC ?_ ?_
     ·
      rcases Bool.eq_false_or_eq_true ((lockedS S d.fOther d.fClient d.fSeq || (!(pastP S.fEnds d.fClient d.fSeq)))) with hg | hg
      ·
       simp only [hg]
       exact gN G G G G G<|oh G G G G
      ·
       simp only [hg]
       exact gY G G G<|ldM 3 (cState S s_0 s_1 s_2 s_3 s_4 s_5) G G (Rg G) G G<|oh G G G G
    trivial
   refine ⟨fun V De _=>?_,?_⟩
   ·
    repeat
     refine aC ?_ ?_
     ·
      rcases Bool.eq_false_or_eq_true ((lockedS S d.fOther d.fClient d.fSeq || (!(pastP S.fEnds d.fClient d.fSeq)))) with hg | hg
      ·
       simp only [hg]
       exact gN G G G G G<|oh G G G G
      ·
       simp only [hg]
       exact ru 1 G<|oh G G G G
    trivial
   refine ⟨fun V De _=>?_,?_⟩
   ·
    repeat
     refine aC ?_ ?_
     ·
      rcases Bool.eq_false_or_eq_true ((lockedS S d.fOther d.fClient d.fSeq || (!(pastP S.fEnds d.fClient d.fSeq)))) with hg | hg
      ·
       simp only [hg]
       exact gN G G G G G<|oh G G G G
      ·
       simp only [hg]
       exact rl 1 [2] G G<|oh G G G G
    trivial
   refine ⟨fun V De _=>?_,?_⟩
   ·
    repeat
     refine aC ?_ ?_
     ·
      rcases Bool.eq_false_or_eq_true ((lockedS S d.fOther d.fClient d.fSeq || (!(pastP S.fEnds d.fClient d.fSeq)))) with hg | hg
      ·
       simp only [hg]
       exact gN G G G G G<|oh G G G G
      ·
       simp only [hg]
       exact gY G G G<|ldM 2 (cDeal d) G G (Rg G) G G<|oh G G G G
    trivial
   refine ⟨fun V De _=>aP1 ?_,?_⟩
   ·
    rcases Bool.eq_false_or_eq_true ((lockedS S d.fOther d.fClient d.fSeq || (!(pastP S.fEnds d.fClient d.fSeq)))) with hg | hg
    ·
     simp only [hg]
     exact gN G G G G G<|oh G G G G
    ·
     simp only [hg]
     exact gY G G G<|cfv (dwaits_c _ _ _ _ _ _ _ _ _ h_S h_d (by assumption)) ok_176 G (Si [0,1,2,3,4,5] G) G<|oh G G G G
   refine ⟨fun V De _=>?_,?_⟩
   ·
    repeat
     refine aC ?_ ?_
     ·
      rcases Bool.eq_false_or_eq_true ((lockedS S d.fOther d.fClient d.fSeq || (!(pastP S.fEnds d.fClient d.fSeq)))) with hg | hg
      ·
       simp only [hg]
       exact ru 1 G<|oh G G G G
      ·
       simp only [hg]
       exact ru 1 G<|oh G G G G
    trivial
   exact ⟨fun V De _=>aP1 (stW 1 (us := (cCommand ((⟨6, d.fClient, d.fSeq, 0, 0, 0, d.fOther, 0, 0, 0, decide (d.fFate = 1), oZ, pZ, ([])⟩ : TCommand)) nS)) G G G (Rg G) G G<|oh0 G G),trivial⟩
  · exact nx<|rt<|tR<|fRG () [_, _, _, _] (rCT 1 G G G G (Rg G)) (by rw [sideC, sideB, if_pos q1, if_pos q1]; rfl) G Sn
 ·
  have q1 : ¬ d.fFate ≠ 0 := by simpa using h32
  refine sk<|nx<|sq ?_
  have hbr6 := h_d
  refine rgX [(2,.ld 2),(4,.ld 3),(6,.st 0),(8,.st 0),(10,.st 0),(12,.st 0)] G (by kernel_rfl)<|nx<|sq ?_
  have hbr7 := h_d
  refine rgZ (L := [bl b10 37 [.int .i64 4, .int .i64 (d.fClient), .int .i64 (d.fSeq), .int .i64 S.fEpoch, .int .i64 (0), .int .i64 n, .string d.fOther, .int .i64 (0), .int .i64 (0), .int .i64 d.fN, .bool (false), .int .i64 (0), .string ByteArray.empty, .string ByteArray.empty, .int .i64 (0), .int .i64 (0), .int .i64 (0), .int .i64 (0), .int .i64 (0), .int .i64 (0), .string ByteArray.empty, .string ByteArray.empty, .int .i64 (0), .int .i64 (0), nS], bl b6 37 zv9, bl b5 126 (cDeal d), bl b3 55 (cState S s_0 s_1 s_2 s_3 s_4 s_5), fz X w]) [(0,.ld 0),(2,.ld 2)] [(5,⟨some ((bif decide (d.fTheirs = 0) then (.bool (lockedS S d.fOther d.fClient d.fSeq)) else undef)),fun _ => [],false⟩),(6,⟨some ((bif decide (d.fTheirs = 0) then (.bool ((!(lockedS S d.fOther d.fClient d.fSeq)))) else undef)),fun _ => [],false⟩),(7,⟨some (.bool ((decide (d.fTheirs = 0) && (!(lockedS S d.fOther d.fClient d.fSeq))))),fun _ => [],false⟩),(9,⟨some ((bif (decide (d.fTheirs = 0) && (!(lockedS S d.fOther d.fClient d.fSeq))) then (.bool (pastP S.fEnds d.fClient d.fSeq)) else undef)),fun _ => [],false⟩),(10,⟨some ((bif (decide (d.fTheirs = 0) && (!(lockedS S d.fOther d.fClient d.fSeq))) then (.bool ((!(pastP S.fEnds d.fClient d.fSeq)))) else undef)),fun _ => [],false⟩),(11,⟨some (.bool (((decide (d.fTheirs = 0) && (!(lockedS S d.fOther d.fClient d.fSeq))) && (!(pastP S.fEnds d.fClient d.fSeq))))),fun _ => [],false⟩),(13,⟨some ((bif ((decide (d.fTheirs = 0) && (!(lockedS S d.fOther d.fClient d.fSeq))) && (!(pastP S.fEnds d.fClient d.fSeq))) then (.agg (cState S s_0 s_1 s_2 s_3 s_4 s_5).toArray) else undef)),fun _ => [],false⟩),(14,⟨some ((bif ((decide (d.fTheirs = 0) && (!(lockedS S d.fOther d.fClient d.fSeq))) && (!(pastP S.fEnds d.fClient d.fSeq))) then (.pointer (some ⟨b5, 3, none⟩)) else undef)),fun _ => [],false⟩),(15,⟨some ((bif ((decide (d.fTheirs = 0) && (!(lockedS S d.fOther d.fClient d.fSeq))) && (!(pastP S.fEnds d.fClient d.fSeq))) then (.string d.fOther) else undef)),fun _ => [],false⟩),(16,⟨some ((bif ((decide (d.fTheirs = 0) && (!(lockedS S d.fOther d.fClient d.fSeq))) && (!(pastP S.fEnds d.fClient d.fSeq))) then (.agg (cDeal d).toArray) else undef)),fun _ => [],false⟩),(17,⟨some ((bif ((decide (d.fTheirs = 0) && (!(lockedS S d.fOther d.fClient d.fSeq))) && (!(pastP S.fEnds d.fClient d.fSeq))) then (.bool (waitsS S d.fOther d.fClient d.fSeq)) else undef)),fun _ => [],false⟩),(18,⟨some ((bif ((decide (d.fTheirs = 0) && (!(lockedS S d.fOther d.fClient d.fSeq))) && (!(pastP S.fEnds d.fClient d.fSeq))) then (.bool ((!(waitsS S d.fOther d.fClient d.fSeq)))) else undef)),fun _ => [],false⟩),(19,⟨some (.bool ((((decide (d.fTheirs = 0) && (!(lockedS S d.fOther d.fClient d.fSeq))) && (!(pastP S.fEnds d.fClient d.fSeq))) && (!(waitsS S d.fOther d.fClient d.fSeq))))),fun _ => [],false⟩),(20,⟨none,fun _ => [],true⟩)] [] [] [(20,fun L _ => rpE 3 (bl b6 37 (cCommand ((⟨4, d.fClient, d.fSeq, S.fEpoch, 0, n, d.fOther, 0, 0, d.fN, false, oZ, pZ, ([])⟩ : TCommand)) nS)) L)] (fun _ => G) (fun _ => by kernel_rfl) ?_ fun V _ => ?_
  ·
   refine ⟨fun V De _=>?_,?_⟩
   ·
    repeat
     refine aC ?_ ?_
     ·
      rcases Bool.eq_false_or_eq_true (decide (d.fTheirs = 0)) with hg | hg
      ·
       simp only [hg]
       exact ru 1 G<|oh G G G G
      ·
       simp only [hg]
       exact gN G G G G G<|oh G G G G
    trivial
   refine ⟨fun V De _=>?_,?_⟩
   ·
    repeat
     refine aC ?_ ?_
     ·
      rcases Bool.eq_false_or_eq_true (decide (d.fTheirs = 0)) with hg | hg
      ·
       simp only [hg]
       exact ru 1 G<|oh G G G G
      ·
       simp only [hg]
       exact gN G G G G G<|oh G G G G
    trivial
   refine ⟨fun V De _=>?_,?_⟩
   ·
    repeat
     refine aC ?_ ?_
     ·
      rcases Bool.eq_false_or_eq_true (decide (d.fTheirs = 0)) with hg | hg
      ·
       simp only [hg]
       exact ru 1 G<|oh G G G G
      ·
       simp only [hg]
       exact ru 1 G<|oh G G G G
    trivial
   refine ⟨fun V De _=>?_,?_⟩
   ·
    repeat
     refine aC ?_ ?_
     ·
      rcases Bool.eq_false_or_eq_true ((decide (d.fTheirs = 0) && (!(lockedS S d.fOther d.fClient d.fSeq)))) with hg | hg
      ·
       simp only [hg]
       exact ru 1 G<|oh G G G G
      ·
       simp only [hg]
       exact gN G G G G G<|oh G G G G
    trivial
   refine ⟨fun V De _=>?_,?_⟩
   ·
    repeat
     refine aC ?_ ?_
     ·
      rcases Bool.eq_false_or_eq_true ((decide (d.fTheirs = 0) && (!(lockedS S d.fOther d.fClient d.fSeq)))) with hg | hg
      ·
       simp only [hg]
       exact ru 1 G<|oh G G G G
      ·
       simp only [hg]
       exact gN G G G G G<|oh G G G G
    trivial
   refine ⟨fun V De _=>?_,?_⟩
   ·
    repeat
     refine aC ?_ ?_
     ·
      rcases Bool.eq_false_or_eq_true ((decide (d.fTheirs = 0) && (!(lockedS S d.fOther d.fClient d.fSeq)))) with hg | hg
      ·
       simp only [hg]
       exact ru 1 G<|oh G G G G
      ·
       simp only [hg]
       exact ru 1 G<|oh G G G G
    trivial
   refine ⟨fun V De _=>?_,?_⟩
   ·
    repeat
     refine aC ?_ ?_
     ·
      rcases Bool.eq_false_or_eq_true (((decide (d.fTheirs = 0) && (!(lockedS S d.fOther d.fClient d.fSeq))) && (!(pastP S.fEnds d.fClient d.fSeq)))) with hg | hg
      ·
       simp only [hg]
       exact gY G G G<|ldM 3 (cState S s_0 s_1 s_2 s_3 s_4 s_5) G G (Rg G) G G<|oh G G G G
      ·
       simp only [hg]
       exact gN G G G G G<|oh G G G G
    trivial
   refine ⟨fun V De _=>?_,?_⟩
   ·
    repeat
     refine aC ?_ ?_
     ·
      rcases Bool.eq_false_or_eq_true (((decide (d.fTheirs = 0) && (!(lockedS S d.fOther d.fClient d.fSeq))) && (!(pastP S.fEnds d.fClient d.fSeq)))) with hg | hg
      ·
       simp only [hg]
       exact ru 1 G<|oh G G G G
      ·
       simp only [hg]
       exact gN G G G G G<|oh G G G G
    trivial
   refine ⟨fun V De _=>?_,?_⟩
   ·
    repeat
     refine aC ?_ ?_
     ·
      rcases Bool.eq_false_or_eq_true (((decide (d.fTheirs = 0) && (!(lockedS S d.fOther d.fClient d.fSeq))) && (!(pastP S.fEnds d.fClient d.fSeq)))) with hg | hg
      ·
       simp only [hg]
       exact rl 1 [2] G G<|oh G G G G
      ·
       simp only [hg]
       exact gN G G G G G<|oh G G G G
    trivial
   refine ⟨fun V De _=>?_,?_⟩
   ·
    repeat
     refine aC ?_ ?_
     ·
      rcases Bool.eq_false_or_eq_true (((decide (d.fTheirs = 0) && (!(lockedS S d.fOther d.fClient d.fSeq))) && (!(pastP S.fEnds d.fClient d.fSeq)))) with hg | hg
      ·
       simp only [hg]
       exact gY G G G<|ldM 2 (cDeal d) G G (Rg G) G G<|oh G G G G
      ·
       simp only [hg]
       exact gN G G G G G<|oh G G G G
    trivial
   refine ⟨fun V De _=>aP1 ?_,?_⟩
   ·
    rcases Bool.eq_false_or_eq_true (((decide (d.fTheirs = 0) && (!(lockedS S d.fOther d.fClient d.fSeq))) && (!(pastP S.fEnds d.fClient d.fSeq)))) with hg | hg
    ·
     simp only [hg]
     exact gY G G G<|cfv (dwaits_c _ _ _ _ _ _ _ _ _ h_S h_d (by assumption)) ok_176 G (Si [0,1,2,3,4,5] G) G<|oh G G G G
    ·
     simp only [hg]
     exact gN G G G G G<|oh G G G G
   refine ⟨fun V De _=>?_,?_⟩
   ·
    repeat
     refine aC ?_ ?_
     ·
      rcases Bool.eq_false_or_eq_true (((decide (d.fTheirs = 0) && (!(lockedS S d.fOther d.fClient d.fSeq))) && (!(pastP S.fEnds d.fClient d.fSeq)))) with hg | hg
      ·
       simp only [hg]
       exact ru 1 G<|oh G G G G
      ·
       simp only [hg]
       exact gN G G G G G<|oh G G G G
    trivial
   refine ⟨fun V De _=>?_,?_⟩
   ·
    repeat
     refine aC ?_ ?_
     ·
      rcases Bool.eq_false_or_eq_true (((decide (d.fTheirs = 0) && (!(lockedS S d.fOther d.fClient d.fSeq))) && (!(pastP S.fEnds d.fClient d.fSeq)))) with hg | hg
      ·
       simp only [hg]
       exact ru 1 G<|oh G G G G
      ·
       simp only [hg]
       exact ru 1 G<|oh G G G G
    trivial
   exact ⟨fun V De _=>aP1 (stW 1 (us := (cCommand ((⟨4, d.fClient, d.fSeq, S.fEpoch, 0, n, d.fOther, 0, 0, d.fN, false, oZ, pZ, ([])⟩ : TCommand)) nS)) G G G (Rg G) G G<|oh0 G G),trivial⟩
  · exact nx<|rt<|fRG () [_, _, _, _] (rCT 1 G G G G (Rg G)) (by rw [sideC, sideB, if_neg q1, if_neg q1]; rfl) G Sn
theorem pepoch_c (c : TChart) (c_0 c_1 : Value) (h_c : c.wf) (hl : c.fPlaces.length ≤ 7) (he : InI (epochP c.fPlaces + 1)) : FnV Pg 106 [.agg (cChart c c_0 c_1).toArray] [⟨c_0, c.fPlaces⟩, ⟨c_1, c.fMarks⟩] (.int .i64 (epochC c)) := by
 refine Fnc.proof Tryz.func106 G 10 G G fun X w => qg<|bx G G G fun b1 => ru 1 G<|nl<|nx<|sq<|qg<|ldM 0 (cChart c c_0 c_1) G G (Rg G) G G<|cfv (pright_c _ _ _ h_c) ok_123 G (Si [0,1] G) G<|nt G G<|nl<|nx<|cdB G (fun h5 => ?_) (fun h5 => ?_)
 · exact sa 1 G<|rt<|tR<|dpQ<|fR1 () G G (by rw [epochC, if_neg (by have q := h5; simp only [Bool.not_eq_true'] at q; simpa [errF_ok] using q)]) G Sn
 · exact sk<|nx<|qg<|rl 2 [0] G G<|cfv (epoch_c _ _ (by assumption)) ok_172 G (Sc 0 G Sn) G<|adI G G he G<|ru 1 G<|nl<|nx<|rt<|dpQ<|fR1 () G G (by rw [epochC, if_pos (by have q := h5; simp only [Bool.not_eq_false'] at q; simpa [errF_ok] using q)]) G Sn
theorem out_c (hT : stAt v S.fOut.fTo = T) (h_v : v.wf) (h_S : S.wf) (hto : S.fOut ≠ zpl → 1 ≤ S.fOut.fTo ∧ S.fOut.fTo < 8) (hl : v.fStates.length = 7) (hp : v.fChart.fPlaces.length ≤ 7) : FnV Pg 108 [.agg (cScene v v_0 v_1 v_2 v_3 v_4).toArray, .agg (cState S s_0 s_1 s_2 s_3 s_4 s_5).toArray] [⟨v_0, v.fChart.fPlaces⟩, ⟨v_1, v.fChart.fMarks⟩, ⟨v_2, v.fStates⟩, ⟨v_3, v.fRights⟩, ⟨v_4, v.fAges⟩, ⟨s_0, S.fAccounts⟩, ⟨s_1, S.fMarks⟩, ⟨s_2, S.fWaits⟩, ⟨s_3, S.fDeals⟩, ⟨s_4, S.fEnds⟩, ⟨s_5, S.fImage⟩] (.tuple #[.agg (cCommand (outC v S T) nS).toArray, .bool (outB v S T)]) := by
 refine Fnc.proof Tryz.func108 G 75 G G fun X w => qg<|bx G G G fun b2 => bx G G G fun b3 => al zero_37 G fun b4 => ru 1 G<|nl<|nx<|qg<|ru 1 G<|ldM 1 (cPlan S.fOut) G G (Rg G) G G<|al zero_24 G fun b6 => stW 0 (us := (cPlan S.fOut)) G G G (Rg G) G G<|nl<|nx<|sq<|qg<|ldM 0 (cPlan S.fOut) G G (Rg G) G G<|bd (ps := []) (cs := (cPlan (pZ))) (by rfl) (by kernel_rfl) G<|eqT eq_Plan (S.fOut) (pZ) G G G<|nl<|nx<|cdP G (fun h15 => ?_) (fun h15 => ?_)
 ·
  have q1 : S.fOut = zpl := h15
  exact qg<|bd (ps := []) (cs := (cCommand ((⟨0, 0, 0, 0, 0, 0, ByteArray.empty, 0, 0, 0, false, oZ, pZ, []⟩ : TCommand)) nS)) (by rfl) (by kernel_rfl) G<|stW 1 (us := (cCommand ((⟨0, 0, 0, 0, 0, 0, ByteArray.empty, 0, 0, 0, false, oZ, pZ, []⟩ : TCommand)) nS)) G G G (Rg G) G G<|ru 1 G<|nl<|nx<|rt<|tR<|fRG () [_, _, _, _] (rCT 1 G G G G (Rg G)) (by rw [outC, outB, if_pos q1, if_pos q1]; rfl) G Sn
 ·
  have q1 : ¬ S.fOut = zpl := h15
  obtain ⟨ht1, ht2⟩ := hto q1
  refine rawNC (s := sState) 2 (S.fOut.fTo - 1).toNat G (by omega) ?_
  rw [show v.fStates.getD (S.fOut.fTo - 1).toNat default = T from hT]
  rintro ys ⟨t_0, t_1, t_2, t_3, t_4, t_5⟩ hy_t h_T
  refine sk<|nx<|qg<|ldM 3 (cScene v v_0 v_1 v_2 v_3 v_4) G G (Rg G) G G<|rl 2 [0] G G<|cfv (state_r v v_0 v_1 v_2 v_3 v_4 S.fOut.fTo T t_0 t_1 t_2 t_3 t_4 t_5 ys h_v (by omega) (by omega) hy_t) ok_45 G (Si [0,1,2,3,4,5,6] G) G<|al zero_55 G fun b7 => oc 1 G fun o_t_0 => oc 2 G fun o_t_1 => oc 3 G fun o_t_2 => oc 4 G fun o_t_3 => oc 5 G fun o_t_4 => oc 6 G fun o_t_5 => stW 0 (us := (cState T t_0 t_1 t_2 t_3 t_4 t_5)) G G G (Rg G) (by simp only [List.all_cons, List.all_nil, Bool.and_true, o_t_0, o_t_1, o_t_2, o_t_3, o_t_4, o_t_5]; rfl) G<|nl<|nx<|sq<|sb 5 [0,1] G G<|cdP G (fun h25 => ?_) (fun h25 => ?_)
  · exact qg<|ldM 1 (cPlan S.fOut) G G (Rg G) G G<|bd (ps := [(0, .const (.int .i64 9)), (12, .tmp 26), (10, .const (.bool true))]) (cs := (cCommand ((⟨9, 0, 0, 0, 0, 0, ByteArray.empty, 0, 0, 0, true, oZ, S.fOut, []⟩ : TCommand)) nS)) (by rfl) (by kernel_rfl) G<|stW 2 (us := (cCommand ((⟨9, 0, 0, 0, 0, 0, ByteArray.empty, 0, 0, 0, true, oZ, S.fOut, []⟩ : TCommand)) nS)) G G G (Rg G) G G<|ru 1 G<|nl<|nx<|rt<|tR<|fRG () [_, _, _, _, _] (rCT 2 G G G G (Rg G)) (by rw [outC, outB, if_neg q1, if_neg q1, if_pos h25, if_pos h25]; rfl) G Sn
  ·
   have q2 : ¬ T.fRefused = S.fOut.fNumber := h25
   refine sk<|nx<|sq<|qg<|rl 7 [4,1] G G ?_
   refine jz 34 8 [2,3,4,6,7] G G (fun h34 K42 => by
    have p34 := of_decide_eq_false h34
    exact rl 7 [4,1] G G<|ru 1 G<|K42 G Sr) ?_
   refine mv G G<|jb 43 6 [0,1] [2,3,4,6] G G G<|nl<|nx<|cdB G (fun h49 => ?_) (fun h49 => ?_)
   · exact qg<|bd (ps := []) (cs := (cCommand ((⟨0, 0, 0, 0, 0, 0, ByteArray.empty, 0, 0, 0, false, oZ, pZ, []⟩ : TCommand)) nS)) (by rfl) (by kernel_rfl) G<|stW 2 (us := (cCommand ((⟨0, 0, 0, 0, 0, 0, ByteArray.empty, 0, 0, 0, false, oZ, pZ, []⟩ : TCommand)) nS)) G G G (Rg G) G G<|ru 1 G<|nl<|nx<|rt<|tR<|fRG () [_, _, _, _, _] (rCT 2 G G G G (Rg G)) (by rw [outC, outB, if_neg q1, if_neg q1, if_neg q2, if_neg q2, show outN v S T = true from h49, if_pos rfl]; rfl) G Sn
   ·
    refine sk<|nx<|qg<|rl 3 [4] G G<|cfv (epoch_c _ _ (by assumption)) ok_172 G (Sc 7 G Sn) G<|ru 1 G<|nl<|nx<|sq<|qg<|rl 5 [4,3] G G<|cfv (of_c _ _ _ h_S.1) ok_173 G (Sc 7 G Sn) G<|ru 5 G<|nl<|nx<|qg<|mv G G<|nl<|nx<|cdB G (fun h64 => ?_) (fun h64 => ?_)
    ·
     obtain ⟨i, hi⟩ := Option.isSome_iff_exists.1 h64
     have hil : i < v.fChart.fPlaces.length := List.mem_range.1 (List.mem_of_find?_eq_some hi)
     refine rg<|rl 4 [4] G G ?_
     have hof : (ofP v.fChart.fPlaces S.fGroup).getD 0 < v.fChart.fPlaces.length := by rw [hi]; exact hil
     exact ixP 7 G G G slt_22 (by omega) (getDE (d := default) hof) G fun v69 => faP (α := TPlace) (β := Int) 0 (fun x : TPlace => x.fEpoch) G G (Fg G) pPlace_2 G fun v70 => ldV 0 G G (Og G) G fun w71 => ru 1 G<|nl<|nx<|qg<|ldM 1 (cPlan S.fOut) G G (Rg G) G G<|mv G G<|bd (ps := [(0, .const (.int .i64 11)), (12, .tmp 72), (3, .tmp 73)]) (cs := (cCommand ((⟨11, 0, 0, (v.fChart.fPlaces.getD ((ofP v.fChart.fPlaces S.fGroup).getD 0) default).fEpoch, 0, 0, ByteArray.empty, 0, 0, 0, false, oZ, S.fOut, []⟩ : TCommand)) nS)) (by rfl) (by kernel_rfl) G<|stW 2 (us := (cCommand ((⟨11, 0, 0, (v.fChart.fPlaces.getD ((ofP v.fChart.fPlaces S.fGroup).getD 0) default).fEpoch, 0, 0, ByteArray.empty, 0, 0, 0, false, oZ, S.fOut, []⟩ : TCommand)) nS)) G G G (Rg G) G G<|ru 1 G<|nl<|nx<|rt<|fRG () [_, _, _, _, _] (rCT 2 G G G G (Rg G)) (by rw [outC, outB, if_neg q1, if_neg q1, if_neg q2, if_neg q2, show outN v S T = false from h49, if_neg (by decide), epoO, if_pos h64]; rfl) G Sn
    · exact sk<|nx<|qg<|ldM 1 (cPlan S.fOut) G G (Rg G) G G<|mv G G<|bd (ps := [(0, .const (.int .i64 11)), (12, .tmp 72), (3, .tmp 73)]) (cs := (cCommand ((⟨11, 0, 0, (epochP v.fChart.fPlaces), 0, 0, ByteArray.empty, 0, 0, 0, false, oZ, S.fOut, []⟩ : TCommand)) nS)) (by rfl) (by kernel_rfl) G<|stW 2 (us := (cCommand ((⟨11, 0, 0, (epochP v.fChart.fPlaces), 0, 0, ByteArray.empty, 0, 0, 0, false, oZ, S.fOut, []⟩ : TCommand)) nS)) G G G (Rg G) G G<|ru 1 G<|nl<|nx<|rt<|fRG () [_, _, _, _, _] (rCT 2 G G G G (Rg G)) (by rw [outC, outB, if_neg q1, if_neg q1, if_neg q2, if_neg q2, show outN v S T = false from h49, if_neg (by decide), epoO, if_neg (by rw [h64]; decide)]; rfl) G Sn
theorem findH_c (a : TAccount) (a_0 : Value) (n : Int) (h_a : a.wf) : FnV Pg 99 [.agg (cAccount a a_0).toArray, .int .i64 n] [⟨a_0, a.fHolders⟩] (.tuple #[.agg (cHolder (findH a n)).toArray, .bool (isH a n)]) := by
 refine Fnc.proof Tryz.func99 G 26 G G fun X w => qg<|bx G G G fun b2 => al zero_165 G fun b4 => ru 1 G<|nl<|nx<|sq<|qg<|ldM 1 (cAccount a a_0) G G (Rg G) G G<|cfv (aright_c _ _ h_a) ok_166 G (Sc 0 G Sn) G<|nt G G<|nl<|nx<|cdB G (fun h10 => ?_) (fun h10 => ?_)
 ·
  have q1 : ¬ accP a = true := by simpa using h10
  exact qg<|bd (ps := []) (cs := (cHolder ((⟨0, 0, 0, 0⟩ : THolder)))) (by rfl) (by kernel_rfl) G<|stW 0 (us := (cHolder ((⟨0, 0, 0, 0⟩ : THolder)))) G G G (Rg G) G G<|ru 1 G<|nl<|nx<|rt<|tR<|fRG () [_, _] (rCT 0 G G G G (Rg G)) (by rw [findH, isH, if_neg q1, show accP a = false by simpa using q1]; rfl) G Sn
 ·
  have q1 : accP a = true := by simpa using h10
  refine sk<|nx<|sq<|qg<|rl 2 [1] G G<|lnP 0 G G Tryz.underlying66 G fun l14 => mv G G<|nl<|nx<|bk<|lpC (σ := Nat) [(1, _), (4, _), (13, _), (14, _)] _ (fun i C => (15, .int .i64 (i : Int)) :: C) (fun i => i ≤ a.fHolders.length ∧ (∀ j, j < i → decide ((a.fHolders.getD j default).fNode = n) = false)) (fun i => a.fHolders.length - i) 0 (Gs G) (Sc 0 G Sn) ⟨Nat.zero_le _, fun j hj => absurd hj (Nat.not_lt_zero j)⟩ (Gs G) ?_
  rintro i ⟨hi, hall⟩
  refine sa 1 G<|sq<|cdP G (fun h16 => ?_) (fun h16 => ?_)
  ·
   refine sk<|nx<|sq<|bk<|qg<|ixP 0 G G G slt_66 (by omega) (gE (by omega)) G fun v17 => ldS 0 G G (Rg G) G fun q18 w18 => al zero_165 G fun b7 => stW 0 (us := (cHolder ((a.fHolders.getD i default)))) G G G (Rg G) G G<|nl<|nx<|sb 4 [0] G G<|cdP G (fun h22 => ?_) (fun h22 => ?_)
   · exact qg<|ldM 0 (cHolder ((a.fHolders.getD i default))) G G (Rg G) G G<|stW 1 (us := (cHolder ((a.fHolders.getD i default)))) G G G (Rg G) G G<|ru 1 G<|nl<|nx<|rt<|bR<|tR<|tR<|bR<|tR<|fRG () [_, _, _] (rCT 1 G G G G (Rg G)) (by have e1 : holdO a n = some i := firstI_some (by omega) hall (decide_eq_true h22); rw [findH, isH, if_pos q1, q1, e1]; rfl) G Sn
   ·
    refine sk<|bN<|nx<|rg<|adI G G (inI (by omega) (by omega)) G<|mv G G<|nl<|dpQ ?_
    exact ag (i + 1) ⟨(by omega), (all_snoc hall (decide_eq_false h22))⟩ (by omega) (Gs G) G (Sc 2 G Sn)
  · exact ex<|tE<|tE<|bE<|nx<|qg<|bd (ps := []) (cs := (cHolder ((⟨0, 0, 0, 0⟩ : THolder)))) (by rfl) (by kernel_rfl) G<|stW 0 (us := (cHolder ((⟨0, 0, 0, 0⟩ : THolder)))) G G G (Rg G) G G<|ru 1 G<|nl<|nx<|rt<|fRG () [_, _] (rCT 0 G G G G (Rg G)) (by have e1 : holdO a n = none := firstI_none (fun k hk => hall k (by omega)); rw [findH, isH, if_pos q1, q1, e1]; rfl) G Sn
theorem report_c (v_l : Value) (l : List TRight) (g : Int) (a : TAccount) (a_0 : Value) (n : Int) (h_a : a.wf) (h_g : InI g) (h_n : InI n) : FnV Pg 46 [v_l, .int .i64 g, .agg (cAccount a a_0).toArray, .int .i64 n] [⟨v_l, l⟩, ⟨a_0, a.fHolders⟩] (.tuple #[.agg (cCommand (repC l g a n) nS).toArray, .bool (repB l g a n)]) := by
 refine Fnc.proof Tryz.func46 G 55 G G fun X w => ?_
 obtain ⟨h_g1, h_g2⟩ := id h_g
 obtain ⟨h_n1, h_n2⟩ := id h_n
 refine qg<|bx G G G fun b6 => al zero_37 G fun b8 => ru 1 G<|nl<|nx<|sq<|qg<|mv G G<|cfv (lcheck_c _ _) ok_59 G (Sc 0 G Sn) G<|ru 2 G ?_
 refine jz 15 4 [0,1,3,6,8] G G (fun h15 K19 => by
  have p15 := h15
  simp only [Bool.not_eq_false', decide_eq_true_eq] at p15
  exact gY G G G<|ldM 1 (cAccount a a_0) G G (Rg G) G G<|gY G G G<|cfv (acheck_c _ _ h_a) ok_97 G (Sc 1 G Sn) G<|ru 2 G<|K19 G Sr) ?_
 refine mv G G<|jb 20 4 [1] [0,1,3,6,8] G G G<|mv G G<|jz 25 4 [0,1,3,6,8] G G (fun h25 K29 => ru 1 G<|gY G G G<|cfv (lgroup_c _ h_g) ok_98 G Sn G<|ru 2 G<|K29 G Sr)<|nl<|nx<|cdB G (fun h29 => ?_) (fun h29 => ?_)
 ·
  have q1 : repOK l g a = true := h29
  exact qg<|bd (ps := []) (cs := (cCommand ((⟨0, 0, 0, 0, 0, 0, ByteArray.empty, 0, 0, 0, false, oZ, pZ, []⟩ : TCommand)) nS)) (by rfl) (by kernel_rfl) G<|stW 0 (us := (cCommand ((⟨0, 0, 0, 0, 0, 0, ByteArray.empty, 0, 0, 0, false, oZ, pZ, []⟩ : TCommand)) nS)) G G G (Rg G) G G<|ru 1 G<|nl<|nx<|rt<|tR<|fRG () [_, _] (rCT 0 G G G G (Rg G)) (by rw [repC, repB, if_pos q1, if_pos q1]; rfl) G Sn
 ·
  have q1 : ¬ repOK l g a = true := by rw [show repOK l g a = false from h29]; decide
  refine sk<|nx<|qg<|ldM 1 (cAccount a a_0) G G (Rg G) G G<|mv G G<|cfv (findH_c _ _ _ h_a) ok_99 G (Sc 1 G Sn) G<|ru 3 G<|al zero_165 G fun b10 => stW 0 (us := (cHolder ((findH a n)))) G G G (Rg G) G G<|ru 1 G<|nl<|nx<|sq<|sa 2 G<|cdB G (fun h38 => ?_) (fun h38 => ?_)
  ·
   have q2 : ¬ isH a n = true := by simpa using h38
   exact qg<|bd (ps := []) (cs := (cCommand ((⟨0, 0, 0, 0, 0, 0, ByteArray.empty, 0, 0, 0, false, oZ, pZ, []⟩ : TCommand)) nS)) (by rfl) (by kernel_rfl) G<|stW 1 (us := (cCommand ((⟨0, 0, 0, 0, 0, 0, ByteArray.empty, 0, 0, 0, false, oZ, pZ, []⟩ : TCommand)) nS)) G G G (Rg G) G G<|ru 1 G<|nl<|nx<|rt<|tR<|fRG () [_, _, _] (rCT 1 G G G G (Rg G)) (by rw [repC, repB, if_neg q1, if_neg q1, if_neg q2, show isH a n = false by simpa using q2]; rfl) G Sn
  ·
   have q2 : isH a n = true := by simpa using h38
   refine sk<|nx<|sq ?_
   have hbr6 := h_a
   exact rgZ (L := [bl b10 165 (cHolder ((findH a n))), bl b8 37 zv9, bl b6 70 (cAccount a a_0), fz X w]) [(2,.ld 2),(4,.ld 0),(6,.ld 2),(10,.ld 2),(12,.ld 0),(13,.cv [0] ⟨_,_,_,_,net_c v_l l g a.fKey (findH a n).fLease,ok_100⟩)] [(14,⟨some (.agg (cCommand ((⟨2, 0, 0, 0, n, 0, a.fKey, (findH a n).fLease, a.fRound, (netP l g a.fKey (findH a n).fLease), false, oZ, pZ, []⟩ : TCommand)) nS).toArray),fun _ => [],false⟩),(15,⟨none,fun _ => [],true⟩)] [] [] [(15,fun L _ => rpE 2 (bl b8 37 (cCommand ((⟨2, 0, 0, 0, n, 0, a.fKey, (findH a n).fLease, a.fRound, (netP l g a.fKey (findH a n).fLease), false, oZ, pZ, []⟩ : TCommand)) nS)) L)] (fun _ => G) (fun _ => by kernel_rfl) ⟨fun V De _=>aP1 (bd (ps := [(0, .const (.int .i64 2)), (4, .tmp 40), (6, .tmp 42), (7, .tmp 44), (8, .tmp 46), (9, .tmp 53)]) (cs := (cCommand ((⟨2, 0, 0, 0, n, 0, a.fKey, (findH a n).fLease, a.fRound, (netP l g a.fKey (findH a n).fLease), false, oZ, pZ, []⟩ : TCommand)) nS)) (by rfl) (by kernel_rfl) G<|oh G G G G),fun V De _=>aP1 (stW 1 (us := (cCommand ((⟨2, 0, 0, 0, n, 0, a.fKey, (findH a n).fLease, a.fRound, (netP l g a.fKey (findH a n).fLease), false, oZ, pZ, []⟩ : TCommand)) nS)) G G G (Rg G) G G<|oh0 G G),trivial⟩ fun V _ => nx<|rt<|fRG () [_, _, _] (rCT 1 G G G G (Rg G)) (by rw [repC, repB, if_neg q1, if_neg q1, if_pos q2, q2]; rfl) G Sn
theorem charted_c (F : TState) (hT : stAt v v.fChart.fPlan.fTo = T) (hF : stAt v v.fChart.fPlan.fFrom = F) (h_v : v.wf) (hto : v.fChart.fPlan ≠ zpl → 1 ≤ v.fChart.fPlan.fTo ∧ v.fChart.fPlan.fTo < 8 ∧ 1 ≤ v.fChart.fPlan.fFrom ∧ v.fChart.fPlan.fFrom < 8) (hl : v.fStates.length = 7) : Fnc Pg 48 [.agg (cScene v v_0 v_1 v_2 v_3 v_4).toArray] [] [⟨v_0, v.fChart.fPlaces⟩, ⟨v_1, v.fChart.fMarks⟩, ⟨v_2, v.fStates⟩, ⟨v_3, v.fRights⟩, ⟨v_4, v.fAges⟩] (fun (_ : Unit) _ => True) (fun _ _ => []) (fun _ u => [⟨u, chL v T F⟩]) := by
 refine Fnc.proof Tryz.func48 G 41 G G fun X w => qg<|bx G G G fun b1 => ru 1 G<|nl<|nx<|qg<|ru 2 G<|ldM 0 (cPlan v.fChart.fPlan) G G (Rg G) G G<|al zero_24 G fun b3 => stW 0 (us := (cPlan v.fChart.fPlan)) G G G (Rg G) G G<|nl<|nx<|sq<|qg<|ldM 0 (cPlan v.fChart.fPlan) G G (Rg G) G G<|bd (ps := []) (cs := (cPlan (pZ))) (by rfl) (by kernel_rfl) G<|eqT eq_Plan (v.fChart.fPlan) (pZ) G G G<|nl<|nx<|cdP G (fun h10 => ?_) (fun h10 => ?_)
 ·
  have q1 : v.fChart.fPlan = zpl := h10
  have e : chL v T F = [] := by rw [chL, if_pos q1]
  rw [e]
  exact emC (α := TCommand)<|sa 1 G<|rt<|tR<|dpQ<|dpQ<|fR1 () G G trivial G (Sc 0 G Sn)
 ·
  have q1 : ¬ v.fChart.fPlan = zpl := h10
  obtain ⟨ht1, ht2, hf1, hf2⟩ := hto q1
  refine rawNC (s := sState) 2 (v.fChart.fPlan.fFrom - 1).toNat G (by omega) ?_
  rw [show v.fStates.getD (v.fChart.fPlan.fFrom - 1).toNat default = F from hF]
  rintro zs ⟨f_0, f_1, f_2, f_3, f_4, f_5⟩ hy_f h_F
  refine rawNC (s := sState) 9 (v.fChart.fPlan.fTo - 1).toNat G (by omega) ?_
  rw [show v.fStates.getD (v.fChart.fPlan.fTo - 1).toNat default = T from hT]
  rintro ys ⟨t_0, t_1, t_2, t_3, t_4, t_5⟩ hy_t h_T
  refine sk<|nx<|qg<|ldM 1 (cScene v v_0 v_1 v_2 v_3 v_4) G G (Rg G) G G<|rl 2 [0] G G<|cfv (state_r v v_0 v_1 v_2 v_3 v_4 v.fChart.fPlan.fTo T t_0 t_1 t_2 t_3 t_4 t_5 ys h_v (by omega) (by omega) hy_t) ok_45 G (Si [0,1,2,3,4,5,6] G) G<|al zero_55 G fun b4 => oc 1 G fun o_t_0 => oc 2 G fun o_t_1 => oc 3 G fun o_t_2 => oc 4 G fun o_t_3 => oc 5 G fun o_t_4 => oc 6 G fun o_t_5 => stW 0 (us := (cState T t_0 t_1 t_2 t_3 t_4 t_5)) G G G (Rg G) (by simp only [List.all_cons, List.all_nil, Bool.and_true, o_t_0, o_t_1, o_t_2, o_t_3, o_t_4, o_t_5]; rfl) G<|nl<|nx<|sq<|qg<|rl 6 [0,1] G G<|ja 20 6 [0,1] [1,3] G G G<|nl<|nx<|cdB G (fun h26 => ?_) (fun h26 => ?_)
  ·
   have e : chL v T F = [{ zcmd with fKind := 13, fPlan := v.fChart.fPlan }] := by rw [chL, if_neg q1, if_pos h26]
   refine qg<|ldM 1 (cPlan v.fChart.fPlan) G G (Rg G) G G<|bd (ps := [(0, .const (.int .i64 13)), (12, .tmp 27)]) (cs := (cCommand ((⟨13, 0, 0, 0, 0, 0, ByteArray.empty, 0, 0, 0, false, oZ, v.fChart.fPlan, []⟩ : TCommand)) nS)) (by rfl) (by kernel_rfl) G<|bsM G app_45 G G G G fun b29 => ?_
   refine frS1 (α := TCommand) ({ zcmd with fKind := 13, fPlan := v.fChart.fPlan } : TCommand) (fun S w h => ⟨nS, G, fun t ht => by
     simp only [List.mem_cons, List.not_mem_nil, or_false] at ht
     subst ht
     exact nil_list S w, ⟨show InI 13 from ⟨by decide, by decide⟩, I0, I0, I0, I0, I0, Eb0, I0, I0, I0, trivial, ⟨I0, Eb0, Eb0, I0, I0, I0⟩, h_v.2.2.1.2.2.2.2.1, trivial⟩⟩) ?_
   exact ru 1 G<|nl<|nx<|rt<|tR<|dpQ<|dpQ<|dpQ<|fR1 () G G trivial G (by rw [e]; exact (SubD.cons 0 rfl SubD.nil))
  ·
   have q2 := h26
   refine sk<|nx<|sq<|sq<|rgQ mixed (by kernel_rfl)<|ldM 2 (cScene v v_0 v_1 v_2 v_3 v_4) G G (Rg G) G G<|rl 2 [1] G G<|cfq (state_r v v_0 v_1 v_2 v_3 v_4 v.fChart.fPlan.fFrom F f_0 f_1 f_2 f_3 f_4 f_5 zs h_v (by omega) (by omega) hy_f) ok_45 G (Si [7,8,9,10,11,12,13] G) G<|fd G fdv_55_16 G G<|rl 3 [1] G G<|nlQ<|nx<|cdP G (fun h37 => ?_) (fun h37 => ?_)
   ·
    have e : chL v T F = [{ zcmd with fKind := 14, fPlan := v.fChart.fPlan }] := by rw [chL, if_neg q1, if_neg (by rw [q2]; decide), if_pos h37]
    refine qg<|ldM 1 (cPlan v.fChart.fPlan) G G (Rg G) G G<|bd (ps := [(0, .const (.int .i64 14)), (12, .tmp 38)]) (cs := (cCommand ((⟨14, 0, 0, 0, 0, 0, ByteArray.empty, 0, 0, 0, false, oZ, v.fChart.fPlan, []⟩ : TCommand)) nS)) (by rfl) (by kernel_rfl) G<|bsM G app_45 G G G G fun b40 => ?_
    refine frS1 (α := TCommand) ({ zcmd with fKind := 14, fPlan := v.fChart.fPlan } : TCommand) (fun S w h => ⟨nS, G, fun t ht => by
      simp only [List.mem_cons, List.not_mem_nil, or_false] at ht
      subst ht
      exact nil_list S w, ⟨show InI 14 from ⟨by decide, by decide⟩, I0, I0, I0, I0, I0, Eb0, I0, I0, I0, trivial, ⟨I0, Eb0, Eb0, I0, I0, I0⟩, h_v.2.2.1.2.2.2.2.1, trivial⟩⟩) ?_
    exact ru 1 G<|nl<|nx<|rt<|tR<|dpQ<|dpQ<|dpQ<|fR1 () G G trivial G (by rw [e]; exact (SubD.cons 0 rfl SubD.nil))
   ·
    have e : chL v T F = [] := by rw [chL, if_neg q1, if_neg (by rw [q2]; decide), if_neg h37]
    exact emC (α := TCommand)<|sk<|nx<|sa 1 G<|rt<|dpQ<|dpQ<|dpQ<|fR1 () G G trivial G (by rw [e]; exact (SubD.cons 0 rfl SubD.nil))
end
end Go.Proofs.YtmpoffijcfaalaaGreat
namespace Go.YtmpoffijcfaalaaGreat
open Go.Eng
theorem ageR_P (l : List TAge) (c q : Int) : ∀ i, ageP l c q i = max 0 (ageR l c q i).1 ∧ ((ageR l c q i).2 = false → (ageR l c q i).1 = 0)
 | 0 => ⟨rfl, fun _ => rfl⟩
 | i + 1 => by
  obtain ⟨h1, h2⟩ := ageR_P l c q i
  rcases Bool.eq_false_or_eq_true (ageM c q (l.getD i default)) with hm | hm
  · rw [age_T hm]
    rcases Bool.eq_false_or_eq_true (!(ageR l c q i).2 || decide ((l.getD i default).fTicks > (ageR l c q i).1)) with hx | hx
    · rw [ageR_T (by rw [hm, hx]; rfl)]
      refine ⟨?_, fun h => by cases h⟩
      show max (ageP l c q i) (l.getD i default).fTicks = max 0 (l.getD i default).fTicks
      simp only [Bool.or_eq_true, Bool.not_eq_true', decide_eq_true_eq] at hx
      rw [h1]
      rcases hx with hx | hx
      · rw [h2 hx]; omega
      · omega
    · rw [ageR_F (by rw [hm, hx]; rfl)]
      simp only [Bool.or_eq_false_iff, Bool.not_eq_false', decide_eq_false_iff_not] at hx
      refine ⟨?_, h2⟩
      rw [h1]
      omega
  · rw [age_F hm, ageR_F (by rw [hm]; rfl)]
    exact ⟨h1, h2⟩
theorem age8 (v : TScene) (c q : Int) : oldP v c q = decide ((ageR v.fAges c q v.fAges.length).1 ≥ 8) := by
 unfold oldP
 rw [(ageR_P v.fAges c q v.fAges.length).1, Bool.eq_iff_iff, decide_eq_true_eq, decide_eq_true_eq]
 omega
theorem waitR_eq (S : TState) (key : ByteArray) (c q : Int) : waitsS S key c q = waitR S key c q := by
 unfold waitsS waitR placeI
 cases firstI S.fWaits.length (fun j => waitM key c q (S.fWaits.getD j default)) with
 | none => rfl
 | some j =>
  show decide ((j : Int) ≥ 0) = true
  simp
theorem ends_at {l : List TEnd} (h : ends18 l = true) {j : Nat} (hj : j < l.length) : okSeq (l.getD j default).fSeq = true ∧ ∀ k, k < j → (l.getD k default).fClient < (l.getD j default).fClient := by
 have hall := allI_iff.1 h
 have h1 := hall j hj
 simp only [Bool.not_eq_true', Bool.or_eq_false_iff, Bool.not_eq_false', decide_eq_false_iff_not] at h1
 refine ⟨h1.2, ?_⟩
 have step : ∀ m, m + 1 < l.length → (l.getD m default).fClient < (l.getD (m + 1) default).fClient := fun m hm => by
  have h2 := hall (m + 1) hm
  simp only [Bool.not_eq_true', Bool.or_eq_false_iff, Bool.not_eq_false', decide_eq_false_iff_not] at h2
  have := h2.1.1
  simp only [prevI] at this
  omega
 intro k hk
 have : ∀ d, k + d + 1 ≤ j → (l.getD k default).fClient < (l.getD (k + d + 1) default).fClient := fun d => by
  induction d with
  | zero => exact fun hd => step k (by omega)
  | succ d ih =>
   intro hd
   have h1 := ih (by omega)
   have h2 := step (k + d + 1) (by omega)
   rw [show k + (d + 1) + 1 = k + d + 1 + 1 by omega]
   omega
 have := this (j - k - 1) (by omega)
 rwa [show k + (j - k - 1) + 1 = j by omega] at this
theorem pastR_eq {l : List TEnd} (h : ends18 l = true) (c q : Int) : pastP l c q = pastR l c q := by
 unfold pastP pastR
 rw [ends_eq, h]
 cases e : ofO l c with
 | none =>
  have hE : isEnd l c = false := by
   unfold isEnd
   cases e2 : endO l c with
   | none => rfl
   | some j =>
    have := List.find?_range_eq_none.1 e j (List.mem_range.1 (List.mem_of_find?_eq_some e2))
    simpa using this
  simp [hE, ofE, e]
 | some j =>
  have hj := firstI_lt e
  have hc := (List.find?_range_eq_some.1 e).1
  simp only [decide_eq_true_eq] at hc
  obtain ⟨hs, hlt⟩ := ends_at h hj
  have e2 : endO l c = some j := firstI_some hj (fun k hk => decide_eq_false (by have := hlt k hk; omega)) (decide_eq_true (by omega))
  have hE : isEnd l c = true := by
   unfold isEnd
   rw [e2]
   exact decide_eq_true hc
  have hpos : (l.getD j default).fSeq > 0 := by
   simp only [okSeq, Bool.and_eq_true, decide_eq_true_eq] at hs
   omega
  rw [hE, endN, e2, ofE, e]
  show (true && decide ((l.getD j default).fSeq ≥ q) && decide (errF true = 0)) = (true && decide ((l.getD j default).fSeq > 0) && decide ((l.getD j default).fSeq ≥ q))
  rw [decide_eq_true hpos, decide_eq_true errF_true]
  cases decide ((l.getD j default).fSeq ≥ q) <;> rfl
def ownC (v : TScene) (d : TDeal) (T : TState) : TCommand := if d.fFate ≠ 0 then (if (ownsP T d.fOther && pastR T.fEnds d.fClient d.fSeq && (!lockedS T d.fOther d.fClient d.fSeq) && (!waitR T d.fOther d.fClient d.fSeq)) = true then cmdK 7 d.fClient d.fSeq else cmdK 0 d.fClient d.fSeq)
 else if (ageR v.fAges d.fClient d.fSeq v.fAges.length).1 ≥ 8 then cmdK 3 d.fClient d.fSeq
 else if (decide (d.fTheirs = 0) && (lockedS T d.fOther d.fClient d.fSeq || pastR T.fEnds d.fClient d.fSeq)) = true then { cmdK 5 d.fClient d.fSeq with fYes := lockedS T d.fOther d.fClient d.fSeq } else cmdK 0 d.fClient d.fSeq
theorem ownC_1 {v : TScene} {d : TDeal} {T : TState} (h : d.fFate ≠ 0) (h2 : (ownsP T d.fOther && pastR T.fEnds d.fClient d.fSeq && (!lockedS T d.fOther d.fClient d.fSeq) && (!waitR T d.fOther d.fClient d.fSeq)) = true) : ownC v d T = cmdK 7 d.fClient d.fSeq := by rw [ownC, if_pos h, if_pos h2]
theorem ownC_2 {v : TScene} {d : TDeal} {T : TState} (h : d.fFate ≠ 0) (h2 : (ownsP T d.fOther && pastR T.fEnds d.fClient d.fSeq && (!lockedS T d.fOther d.fClient d.fSeq) && (!waitR T d.fOther d.fClient d.fSeq)) = false) : ownC v d T = cmdK 0 d.fClient d.fSeq := by rw [ownC, if_pos h, if_neg (by rw [h2]; decide)]
theorem ownC_3 {v : TScene} {d : TDeal} {T : TState} (h : ¬ d.fFate ≠ 0) (h2 : (ageR v.fAges d.fClient d.fSeq v.fAges.length).1 ≥ 8) : ownC v d T = cmdK 3 d.fClient d.fSeq := by rw [ownC, if_neg h, if_pos h2]
theorem ownC_4 {v : TScene} {d : TDeal} {T : TState} (h : ¬ d.fFate ≠ 0) (h2 : ¬ (ageR v.fAges d.fClient d.fSeq v.fAges.length).1 ≥ 8) (h3 : (decide (d.fTheirs = 0) && (lockedS T d.fOther d.fClient d.fSeq || pastR T.fEnds d.fClient d.fSeq)) = true) : ownC v d T = { cmdK 5 d.fClient d.fSeq with fYes := lockedS T d.fOther d.fClient d.fSeq } := by rw [ownC, if_neg h, if_neg h2, if_pos h3]
theorem ownC_5 {v : TScene} {d : TDeal} {T : TState} (h : ¬ d.fFate ≠ 0) (h2 : ¬ (ageR v.fAges d.fClient d.fSeq v.fAges.length).1 ≥ 8) (h3 : (decide (d.fTheirs = 0) && (lockedS T d.fOther d.fClient d.fSeq || pastR T.fEnds d.fClient d.fSeq)) = false) : ownC v d T = cmdK 0 d.fClient d.fSeq := by rw [ownC, if_neg h, if_neg h2, if_neg (by rw [h3]; decide)]
theorem ownC_wf {v : TScene} {d : TDeal} {T : TState} (h : d.wf) : (ownC v d T).wf := by
 have k : ∀ k : Int, InI k → (cmdK k d.fClient d.fSeq).wf := fun k hk => cmdK_wf hk h.1 h.2.1
 unfold ownC
 (repeat' split) <;> first | exact k 7 (kI 7) | exact k 3 (kI 3) | exact k 0 (kI 0) | exact k 5 (kI 5)
theorem ownC_img (v : TScene) (d : TDeal) (T : TState) : (ownC v d T).fImage = [] := by
 unfold ownC
 (repeat' split) <;> rfl
theorem dealF_eq {v : TScene} {d : TDeal} {T : TState} (hT : stAt v (whoseP v d.fOther) = T) (hs : Ss T) : dealF v d = if (ownC v d T).fKind ≠ 0 then [ownC v d T] else [] := by
 have hp := pastR_eq hs.ends d.fClient d.fSeq
 have hw := waitR_eq T d.fOther d.fClient d.fSeq
 have ha := age8 v d.fClient d.fSeq
 unfold dealF decB decC ownC
 rw [hT, hp, hw, ha]
 by_cases hf : d.fFate ≠ 0
 · rw [if_pos hf, if_pos hf, if_pos hf]
   split <;> rfl
 · rw [if_neg hf, if_neg hf, if_neg hf]
   by_cases h8 : (ageR v.fAges d.fClient d.fSeq v.fAges.length).1 ≥ 8
   · simp only [h8, decide_true, if_true]
     rfl
   · simp only [h8, decide_false, if_false, Bool.false_eq_true]
     split <;> rfl
def sideA (S : TState) (n : Int) (d : TDeal) : List TCommand := if (decide (d.fFate = 0) && decide (d.fTheirs = 0) && (!lockedS S d.fOther d.fClient d.fSeq) && (!waitR S d.fOther d.fClient d.fSeq) && (!pastR S.fEnds d.fClient d.fSeq)) = true then [{ cmdK 4 d.fClient d.fSeq with fKey := d.fOther, fHome := n, fNet := d.fN, fEpoch := S.fEpoch }] else []
def sideE (S : TState) (d : TDeal) : List TCommand := if ((!decide (d.fFate = 0)) && (lockedS S d.fOther d.fClient d.fSeq || waitR S d.fOther d.fClient d.fSeq || (!pastR S.fEnds d.fClient d.fSeq))) = true then [{ cmdK 6 d.fClient d.fSeq with fKey := d.fOther, fYes := decide (d.fFate = 1) }] else []
theorem sideA_T {S : TState} {n : Int} {d : TDeal} (h : (decide (d.fFate = 0) && decide (d.fTheirs = 0) && (!lockedS S d.fOther d.fClient d.fSeq) && (!waitR S d.fOther d.fClient d.fSeq) && (!pastR S.fEnds d.fClient d.fSeq)) = true) : sideA S n d = [{ cmdK 4 d.fClient d.fSeq with fKey := d.fOther, fHome := n, fNet := d.fN, fEpoch := S.fEpoch }] := by rw [sideA, if_pos h]
theorem sideA_F {S : TState} {n : Int} {d : TDeal} (h : (decide (d.fFate = 0) && decide (d.fTheirs = 0) && (!lockedS S d.fOther d.fClient d.fSeq) && (!waitR S d.fOther d.fClient d.fSeq) && (!pastR S.fEnds d.fClient d.fSeq)) = false) : sideA S n d = [] := by rw [sideA, if_neg (by rw [h]; decide)]
theorem sideE_T {S : TState} {d : TDeal} (h : ((!decide (d.fFate = 0)) && (lockedS S d.fOther d.fClient d.fSeq || waitR S d.fOther d.fClient d.fSeq || (!pastR S.fEnds d.fClient d.fSeq))) = true) : sideE S d = [{ cmdK 6 d.fClient d.fSeq with fKey := d.fOther, fYes := decide (d.fFate = 1) }] := by rw [sideE, if_pos h]
theorem sideE_F {S : TState} {d : TDeal} (h : ((!decide (d.fFate = 0)) && (lockedS S d.fOther d.fClient d.fSeq || waitR S d.fOther d.fClient d.fSeq || (!pastR S.fEnds d.fClient d.fSeq))) = false) : sideE S d = [] := by rw [sideE, if_neg (by rw [h]; decide)]
theorem sideF_eq {v : TScene} {S : TState} {n : Int} {d : TDeal} (hs : Ss S) (hw : whoseP v d.fOther = S.fGroup) : sideF v S n d = sideA S n d ++ sideE S d := by
 have hp := pastR_eq hs.ends d.fClient d.fSeq
 have hx := waitR_eq S d.fOther d.fClient d.fSeq
 unfold sideF sideB sideC sideA sideE
 rw [if_pos hw, hp, hx]
 by_cases hf : d.fFate = 0
 · simp only [hf, ne_eq, not_true_eq_false, if_false, decide_true, Bool.true_and, Bool.not_true, Bool.false_and, Bool.false_eq_true, List.append_nil]
   cases decide (d.fTheirs = 0) <;> cases lockedS S d.fOther d.fClient d.fSeq <;> cases pastR S.fEnds d.fClient d.fSeq <;> cases waitR S d.fOther d.fClient d.fSeq <;> rfl
 · simp only [hf, ne_eq, not_false_eq_true, if_true, decide_false, Bool.false_and, Bool.not_false, Bool.true_and, Bool.false_eq_true, if_false, List.nil_append]
   cases lockedS S d.fOther d.fClient d.fSeq <;> cases pastR S.fEnds d.fClient d.fSeq <;> cases waitR S d.fOther d.fClient d.fSeq <;> rfl
theorem sideK {v : TScene} {S : TState} {A l : List TCommand} {n m : Int} {dl : List TDeal} {k : Nat} (hs : Ss S) (hw : whoseP v (dl.getD k default).fOther = S.fGroup) (hm : n = m) (hE : sideE S (dl.getD k default) = l) : A ++ sideL v S n dl (k + 1) = A ++ sideL v S n dl k ++ sideA S m (dl.getD k default) ++ l := by
 subst hm
 rw [sideL, sideF_eq hs hw, hE]
 simp only [List.append_assoc]
theorem sideA_len (S : TState) (n : Int) (d : TDeal) : (sideA S n d).length ≤ 1 := if_len
theorem movesX {v : TScene} {S : TState} {l : List TCommand} (h : mv4 v S (stAt v S.fOut.fTo) = l) : movesL v S = mv1 v S ++ mv2 v S ++ mv3 v S (stAt v v.fChart.fPlan.fFrom) ++ l := by rw [movesL, h]
theorem mv4_0 {v : TScene} {S T : TState} (h : S.fOut = zpl) : mv4 v S T = [] := by rw [mv4, outB, if_pos h]; rfl
theorem mv4_1 {v : TScene} {S T : TState} (h : ¬ S.fOut = zpl) (h2 : T.fRefused = S.fOut.fNumber) : mv4 v S T = [{ zcmd with fKind := 9, fPlan := S.fOut, fYes := true }] := by rw [mv4, outB, outC, if_neg h, if_neg h, if_pos h2, if_pos h2]; rfl
def refN (v : TScene) (S T : TState) : Bool := decide (v.fChart.fLast ≥ S.fOut.fNumber) && (!decide (v.fChart.fPlan.fNumber = S.fOut.fNumber)) && decide (T.fAbsorbed ≥ S.fOut.fNumber)
theorem refN_eq (v : TScene) (S T : TState) : outN v S T = !refN v S T := by
 unfold outN refN
 rw [show decide (v.fChart.fLast < S.fOut.fNumber) = !decide (v.fChart.fLast ≥ S.fOut.fNumber) from by rw [← decide_not]; exact decide_eq_decide.2 (by omega), show decide (T.fAbsorbed < S.fOut.fNumber) = !decide (T.fAbsorbed ≥ S.fOut.fNumber) from by rw [← decide_not]; exact decide_eq_decide.2 (by omega)]
 cases decide (v.fChart.fLast ≥ S.fOut.fNumber) <;> cases decide (v.fChart.fPlan.fNumber = S.fOut.fNumber) <;> cases decide (T.fAbsorbed ≥ S.fOut.fNumber) <;> rfl
theorem mv4_2 {v : TScene} {S T : TState} (h : ¬ S.fOut = zpl) (h2 : ¬ T.fRefused = S.fOut.fNumber) (h3 : refN v S T = true) : mv4 v S T = [{ zcmd with fKind := 11, fPlan := S.fOut, fEpoch := epoO v S }] := by
 have h4 : outN v S T = false := by rw [refN_eq, h3]; rfl
 rw [mv4, outB, outC, if_neg h, if_neg h, if_neg h2, if_neg h2, h4]
 rfl
theorem mv4_3 {v : TScene} {S T : TState} (h : ¬ S.fOut = zpl) (h2 : ¬ T.fRefused = S.fOut.fNumber) (h3 : refN v S T = false) : mv4 v S T = [] := by
 have h4 : outN v S T = true := by rw [refN_eq, h3]; rfl
 rw [mv4, outB, if_neg h, if_neg h2, h4]
 rfl
theorem mv3R_T {v : TScene} {S F : TState} (h : ((!decide (v.fChart.fPlan = zpl)) && decide (v.fChart.fPlan.fTo = S.fGroup) && decide (F.fOut.fNumber = v.fChart.fPlan.fNumber) && decide (S.fAbsorbed < v.fChart.fPlan.fNumber)) = true) : mv3 v S F = [m3c v F] := by
 simp only [Bool.and_eq_true, decide_eq_true_eq, Bool.not_eq_true', decide_eq_false_iff_not] at h
 obtain ⟨⟨⟨h1, h2⟩, h3⟩, h4⟩ := h
 rw [mv3, if_pos (show m3 v S = true from by simp only [m3, Bool.and_eq_true, decide_eq_true_eq, Bool.not_eq_true', decide_eq_false_iff_not]; exact ⟨⟨h1, h2⟩, h4⟩), if_pos h3]
theorem mv3R_F {v : TScene} {S F : TState} (h : ((!decide (v.fChart.fPlan = zpl)) && decide (v.fChart.fPlan.fTo = S.fGroup) && decide (F.fOut.fNumber = v.fChart.fPlan.fNumber) && decide (S.fAbsorbed < v.fChart.fPlan.fNumber)) = false) : mv3 v S F = [] := by
 unfold mv3
 split
 · rename_i hm
   split
   · rename_i hf
     exfalso
     simp only [m3, Bool.and_eq_true, decide_eq_true_eq, Bool.not_eq_true', decide_eq_false_iff_not] at hm
     rw [← Bool.not_eq_true] at h
     refine h ?_
     simp only [Bool.and_eq_true, decide_eq_true_eq, Bool.not_eq_true', decide_eq_false_iff_not]
     exact ⟨⟨⟨hm.1.1, hm.1.2⟩, hf⟩, hm.2⟩
   · rfl
 · rfl
theorem Sc.z {v : TScene} (h : Sc v) : decide (v.fChart.fPlan.fNumber = 0) = decide (v.fChart.fPlan = zpl) := by
 refine decide_eq_decide.2 ⟨fun e => Classical.byContradiction fun hn => ?_, fun e => by rw [e]; rfl⟩
 have := (h.plan hn).1
 omega
theorem plan_z {p : TPlan} (h : p ≠ zpl → plan19 p = true) : (p.fNumber = 0) = (p = zpl) := propext ⟨fun e => Classical.byContradiction fun hn => by
 have := (plan_in (h hn)).1
 omega, fun e => by rw [e]; rfl⟩
theorem refCond (n : Int) : (decide (n < 1) || decide (n ≥ 8)) = !okGroup n := by
 unfold okGroup
 rw [Bool.not_and, ← decide_not, ← decide_not]
 congr 1 <;> exact decide_eq_decide.2 (by omega)
theorem BkV.img2 {v : TScene} (h : BkV v) (j : Nat) : (v.fStates.getD j default).fImage.length ≤ 1048576 := by
 rcases Nat.lt_or_ge j v.fStates.length with hj | hj
 · exact (h.state j hj).image
 · rw [List.getD_eq_getElem?_getD, List.getElem?_eq_none hj]
   decide
theorem refCond0 (n : Int) : (decide (n < 0) || decide (n ≥ 8)) = ((!decide (n = 0)) && !okGroup n) := by
 rw [← refCond, Bool.eq_iff_iff]
 simp only [Bool.or_eq_true, Bool.and_eq_true, decide_eq_true_eq, Bool.not_eq_true', decide_eq_false_iff_not]
 omega
theorem lateR_T {v : TScene} {w : TWait} (h : (decide (w.fKind = 1) && decide ((ageR v.fAges w.fClient w.fSeq v.fAges.length).1 ≥ 8)) = true) : lateF v w = [cmdK 3 w.fClient w.fSeq] := by
 rw [← age8] at h
 simp only [Bool.and_eq_true, decide_eq_true_eq, oldP] at h
 rw [lateF, if_neg]
 simp only [lateB, Bool.or_eq_true, Bool.not_eq_true', decide_eq_false_iff_not, decide_eq_true_eq, not_or, Decidable.not_not]
 exact ⟨h.1, by omega⟩
theorem lateR_F {v : TScene} {w : TWait} (h : (decide (w.fKind = 1) && decide ((ageR v.fAges w.fClient w.fSeq v.fAges.length).1 ≥ 8)) = false) : lateF v w = [] := by
 rw [← age8] at h
 rw [lateF, if_pos]
 rw [← Bool.not_eq_true] at h
 simp only [Bool.and_eq_true, decide_eq_true_eq, oldP, not_and] at h
 simp only [lateB, Bool.or_eq_true, Bool.not_eq_true', decide_eq_false_iff_not, decide_eq_true_eq]
 by_cases hk : w.fKind = 1
 · exact .inr (by have := h hk; omega)
 · exact .inl hk
end Go.YtmpoffijcfaalaaGreat
namespace Go.Proofs.YtmpoffijcfaalaaGreat
open Go.Eng
theorem fdv_55_0 : FieldV Tryz.prog 55 0 0 := ⟨_, _, _, Tryz.underlying55, rfl, rfl, Tryz.underlying3, rfl⟩
theorem ok_115 : FnOk Pg 115 := ⟨⟨_, Tryz.func115, by kernel_rfl, rfl⟩⟩
theorem ok_118 : FnOk Pg 118 := ⟨⟨_, Tryz.func118, by kernel_rfl, rfl⟩⟩
theorem ok_119 : FnOk Pg 119 := ⟨⟨_, Tryz.func119, by kernel_rfl, rfl⟩⟩
theorem ok_120 : FnOk Pg 120 := ⟨⟨_, Tryz.func120, by kernel_rfl, rfl⟩⟩
theorem ok_121 : FnOk Pg 121 := ⟨⟨_, Tryz.func121, by kernel_rfl, rfl⟩⟩
theorem ok_47 : FnOk Pg 47 := ⟨⟨_, Tryz.func47, by kernel_rfl, rfl⟩⟩
theorem ok_53 : FnOk Pg 53 := ⟨⟨_, Tryz.func53, by kernel_rfl, rfl⟩⟩
theorem ok_54 : FnOk Pg 54 := ⟨⟨_, Tryz.func54, by kernel_rfl, rfl⟩⟩
theorem ok_55 : FnOk Pg 55 := ⟨⟨_, Tryz.func55, by kernel_rfl, rfl⟩⟩
theorem ok_56 : FnOk Pg 56 := ⟨⟨_, Tryz.func56, by kernel_rfl, rfl⟩⟩
end Go.Proofs.YtmpoffijcfaalaaGreat
namespace Go.Eng
open Go.RowKit
section
def cel (u : Value) (i : Nat) : Value := u.cells.toList.getD i undef
section
variable {c : Cx} {ops : Array Oper} {J : Cx → Array Oper → List Oper → Env → Own → List Atom → Prop} [iJ : IsJ J] {env : Env} {L : Own} {D : List Atom} {rest : List Oper} {d : Nat} {t : TypeId} {p : String} {af : Array Edge} {x : Operand} {T : TypeId}
include iJ
end
section
variable {env : Env} {L : Own} {D : List Atom} {fn : Func} {P : Program} {n : Nat} {w0 : World} {M : List Nat}
end
end
end Go.Eng
