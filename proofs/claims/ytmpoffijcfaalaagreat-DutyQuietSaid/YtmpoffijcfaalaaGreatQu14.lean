/- Part 14 of the proof of dutyQuiet_holds: DutW4. Every text below begins with what it shows. -/
import Derived.Test.YtmpoffijcfaalaaGreatQu13

/- Walks, written by specs2.py. -/

namespace Go.Proofs.YtmpoffijcfaalaaGreat
open Go.Eng Go.YtmpoffijcfaalaaGreat
set_option maxHeartbeats 1000000

theorem dmay_c (d : TDeal) (h_d : d.wf) : FnV Tryz.prog 238 [.agg (cDeal d).toArray] [] (.bool (dmayP d)) := by
 refine Fnc.proof Tryz.func238 G 82 G G fun X w => sq<|rg<|bx G G G fun b1 => asg G G<|nl<|nx<|sq<|sq<|rg<|fa G fld_126_0 G<|ldB 0 G G one_3 G G<|fa G fld_126_1 G<|ldB 0 G G one_3 G G ?_
 refine cfv (dwhose_c _ _ h_d.1 h_d.2.1) ok_239 G Sn G<|nt G G<|mv G G ?_
 apply jo [(1, _)] ⟨rfl, trivial⟩
 ·
  intro K14
  refine spO (i := 10) G (fun h10 => ?_) (fun h10 => ?_)
  ·
   exact gY G G G<|fa G fld_126_4 G<|gY G G G<|ldB 0 G G one_3 G G<|gY G G G<|ltI G G G<|pkF G G G<|jR K14 h10 ⟨G, trivial⟩ Sr
  ·
   exact gS (g := [_, _, _]) G<|pkT G G G<|jR0 K14 h10 ⟨G, trivial⟩ Sr
 refine mv G G ?_
 apply jo [(1, _)] ⟨rfl, trivial⟩
 ·
  intro K21
  refine spO (i := 15) G (fun h15 => ?_) (fun h15 => ?_)
  ·
   exact gY G G G<|fa G fld_126_2 G<|gY G G G<|ldB 0 G G one_9 G G<|gY G G G<|fa G fld_126_3 G<|gY G G G<|ldB 0 G G one_9 G G<|gY G G G<|eqS G G G<|pkF G G G<|jR K21 h15 ⟨G, trivial⟩ Sr
  ·
   exact gS (g := [_, _, _, _, _]) G<|pkT G G G<|jR0 K21 h15 ⟨G, trivial⟩ Sr
 refine mv G G ?_
 apply jo [(1, _)] ⟨rfl, trivial⟩
 ·
  intro K26
  refine spO (i := 22) G (fun h22 => ?_) (fun h22 => ?_)
  ·
   exact gY G G G<|fa G fld_126_5 G<|gY G G G<|ldB 0 G G one_3 G G<|gY G G G<|ltI G G G<|pkF G G G<|jR K26 h22 ⟨G, trivial⟩ Sr
  ·
   exact gS (g := [_, _, _]) G<|pkT G G G<|jR0 K26 h22 ⟨G, trivial⟩ Sr
 refine mv G G ?_
 apply jo [(1, _)] ⟨rfl, trivial⟩
 ·
  intro K31
  refine spO (i := 27) G (fun h27 => ?_) (fun h27 => ?_)
  ·
   exact gY G G G<|fa G fld_126_5 G<|gY G G G<|ldB 0 G G one_3 G G<|gY G G G<|gtI G G G<|pkF G G G<|jR K31 h27 ⟨G, trivial⟩ Sr
  ·
   exact gS (g := [_, _, _]) G<|pkT G G G<|jR0 K31 h27 ⟨G, trivial⟩ Sr
 refine mv G G ?_
 apply jo [(1, _)] ⟨rfl, trivial⟩
 ·
  intro K36
  refine spO (i := 32) G (fun h32 => ?_) (fun h32 => ?_)
  ·
   exact gY G G G<|fa G fld_126_6 G<|gY G G G<|ldB 0 G G one_3 G G<|gY G G G<|ltI G G G<|pkF G G G<|jR K36 h32 ⟨G, trivial⟩ Sr
  ·
   exact gS (g := [_, _, _]) G<|pkT G G G<|jR0 K36 h32 ⟨G, trivial⟩ Sr
 refine mv G G ?_
 apply jo [(1, _)] ⟨rfl, trivial⟩
 ·
  intro K41
  refine spO (i := 37) G (fun h37 => ?_) (fun h37 => ?_)
  ·
   exact gY G G G<|fa G fld_126_6 G<|gY G G G<|ldB 0 G G one_3 G G<|gY G G G<|gtI G G G<|pkF G G G<|jR K41 h37 ⟨G, trivial⟩ Sr
  ·
   exact gS (g := [_, _, _]) G<|pkT G G G<|jR0 K41 h37 ⟨G, trivial⟩ Sr
 refine nl<|nx<|cdB G (fun h41 => ?_) (fun h41 => ?_)
 ·
  have e41 : (dmay1 d) = true := h41
  refine sq<|rg<|asg G G<|nl<|nx<|rt<|tR<|dpQ ?_
  exact fR1 () G G (by rw [dmayP, e41]; try rfl) G Sn
 ·
  have e41 : (dmay1 d) = false := h41
  refine sk<|nx<|sq<|sq<|rg<|fa G fld_126_2 G<|ldB 0 G G one_9 G G<|lnS G Tryz.underlying9 G<|ltI G G G<|mv G G ?_
  apply jo [(1, _)] ⟨rfl, trivial⟩
  ·
   intro K51
   refine spO (i := 46) G (fun h46 => ?_) (fun h46 => ?_)
   ·
    have p46 := of_decide_eq_false h46
    exact gY G G G<|fa G fld_126_2 G<|gY G G G<|ldB 0 G G one_9 G G<|gY G G G<|lnS G Tryz.underlying9 G<|gY G G G<|gtI G G G<|pkF G G G<|jR K51 h46 ⟨G, trivial⟩ Sr
   ·
    exact gS (g := [_, _, _, _]) G<|pkT G G G<|jR0 K51 h46 ⟨G, trivial⟩ Sr
  refine mv G G ?_
  apply jo [(1, _)] ⟨rfl, trivial⟩
  ·
   intro K57
   refine spO (i := 52) G (fun h52 => ?_) (fun h52 => ?_)
   ·
    exact gY G G G<|fa G fld_126_3 G<|gY G G G<|ldB 0 G G one_9 G G<|gY G G G<|lnS G Tryz.underlying9 G<|gY G G G<|ltI G G G<|pkF G G G<|jR K57 h52 ⟨G, trivial⟩ Sr
   ·
    exact gS (g := [_, _, _, _]) G<|pkT G G G<|jR0 K57 h52 ⟨G, trivial⟩ Sr
  refine mv G G ?_
  apply jo [(1, _)] ⟨rfl, trivial⟩
  ·
   intro K63
   refine spO (i := 58) G (fun h58 => ?_) (fun h58 => ?_)
   ·
    exact gY G G G<|fa G fld_126_3 G<|gY G G G<|ldB 0 G G one_9 G G<|gY G G G<|lnS G Tryz.underlying9 G<|gY G G G<|gtI G G G<|pkF G G G<|jR K63 h58 ⟨G, trivial⟩ Sr
   ·
    exact gS (g := [_, _, _, _]) G<|pkT G G G<|jR0 K63 h58 ⟨G, trivial⟩ Sr
  refine nl<|nx<|cdB G (fun h63 => ?_) (fun h63 => ?_)
  ·
   have e63 : (dmay2 d) = true := h63
   refine sq<|rg<|asg G G<|nl<|nx<|rt<|tR<|dpQ ?_
   exact fR1 () G G (by rw [dmayP, e41, e63]; try rfl) G Sn
  ·
   have e63 : (dmay2 d) = false := h63
   refine sk<|nx<|sq<|rg<|fa G fld_126_5 G<|ldB 0 G G one_3 G G<|fa G fld_126_6 G<|ldB 0 G G one_3 G G<|cfv (fate_c _ _ h_d.2.2.2.2.2.1 h_d.2.2.2.2.2.2.1) ok_284 G Sn G<|asg G G<|nl<|nx<|sq<|rg ?_
   refine fa G fld_126_7 G<|ldB 0 G G one_3 G G<|mv G G<|eqI G G G<|mv G G ?_
   apply jo [] trivial
   ·
    intro K81
    refine spO (i := 73) G (fun h73 => ?_) (fun h73 => ?_)
    ·
     have p73 := of_decide_eq_false h73
     refine gY G G G<|mv G G<|gY G G G<|eqI G G G<|gY G G G<|mv G G ?_
     apply jo [(73, _)] ⟨rfl, trivial⟩
     ·
      intro K80
      refine spA (i := 76) G (fun h76 => ?_) (fun h76 => ?_)
      ·
       have p76 := of_decide_eq_true h76
       exact gY G G G<|fa G fld_126_7 G<|gY G G G<|ldB 0 G G one_3 G G<|gY G G G<|eqI G G G<|gY G G G<|pkT G G G<|jA K80 h76 ⟨G, trivial⟩ Sr
      ·
       exact gS (g := [_, _, _]) G<|gY G G G<|pkF G G G<|jA0 K80 h76 ⟨G, trivial⟩ Sr
     exact pkF G G G<|jR K81 h73 trivial Sr
    ·
     exact gS (g := [_, _, _, _, _, _, _]) G<|pkT G G G<|jR0 K81 h73 trivial Sr
   refine asg G G<|nl<|nx<|rt<|dpQ ?_
   exact fR1 () G G (by rw [dmayP, e41, e63]; try rfl) G Sn

theorem owned_c (s : TState) (s_0 s_1 s_2 s_3 s_4 s_5 : Value) (h_s : s.wf) : FnV Tryz.prog 180 [.agg (cState s s_0 s_1 s_2 s_3 s_4 s_5).toArray] [⟨s_0, s.fAccounts⟩, ⟨s_1, s.fMarks⟩, ⟨s_2, s.fWaits⟩, ⟨s_3, s.fDeals⟩, ⟨s_4, s.fEnds⟩, ⟨s_5, s.fImage⟩] (.bool (ownedP s)) := by
 refine Fnc.proof Tryz.func180 G 42 G G fun X w => sq<|rg<|bx G G G fun b1 => asg G G<|nl<|nx<|sq<|sq<|rg<|fa G fld_55_2 G<|ldB 0 G G one_4 G G<|nt G G<|nl ?_
 refine nx<|cdB G (fun h5 => ?_) (fun h5 => ?_)
 ·
  have e5 : (!s.fOwns) = true := h5
  refine sq<|rg<|fa G fld_55_3 G<|ldB 0 G G one_9 G G<|eqS G G G<|mv G G ?_
  apply jo [(1, _)] ⟨rfl, trivial⟩
  ·
   intro K13
   refine spA (i := 9) G (fun h9 => ?_) (fun h9 => ?_)
   ·
    have p9 := of_decide_eq_true h9
    exact gY G G G<|fa G fld_55_4 G<|gY G G G<|ldB 0 G G one_9 G G<|gY G G G<|eqS G G G<|pkT G G G<|jA K13 h9 ⟨G, trivial⟩ Sr
   ·
    exact gS (g := [_, _, _]) G<|pkF G G G<|jA0 K13 h9 ⟨G, trivial⟩ Sr
  refine mv G G ?_
  apply jo [(1, _)] ⟨rfl, trivial⟩
  ·
   intro K19
   refine spA (i := 14) G (fun h14 => ?_) (fun h14 => ?_)
   ·
    exact gY G G G<|fa G fld_55_6 G<|gY G G G<|ldB 0 G G one_50 G G<|gY G G G<|lnP 0 G G Tryz.underlying50 G fun l17 => gY G G G<|eqI G G G<|pkT G G G<|jA K19 h14 ⟨G, trivial⟩ Sr
   ·
    exact gS (g := [_, _, _, _]) G<|pkF G G G<|jA0 K19 h14 ⟨G, trivial⟩ Sr
  refine mv G G ?_
  apply jo [(1, _)] ⟨rfl, trivial⟩
  ·
   intro K25
   refine spA (i := 20) G (fun h20 => ?_) (fun h20 => ?_)
   ·
    exact gY G G G<|fa G fld_55_8 G<|gY G G G<|ldB 0 G G one_51 G G<|gY G G G<|lnP 2 G G Tryz.underlying51 G fun l23 => gY G G G<|eqI G G G<|pkT G G G<|jA K25 h20 ⟨G, trivial⟩ Sr
   ·
    exact gS (g := [_, _, _, _]) G<|pkF G G G<|jA0 K25 h20 ⟨G, trivial⟩ Sr
  refine mv G G ?_
  apply jo [] trivial
  ·
   intro K31
   refine spA (i := 26) G (fun h26 => ?_) (fun h26 => ?_)
   ·
    exact gY G G G<|fa G fld_55_11 G<|gY G G G<|ldM 0 (cPlan s.fSeal) G G row_24 G G<|gY G G G<|bd (ps := []) (cs := (cPlan ((⟨0, 0, 0, ByteArray.empty, ByteArray.empty, 0, 0⟩ : TPlan)))) (by rfl) (by kernel_rfl) G<|gY G G G<|eqT eq_Plan (s.fSeal) ((⟨0, 0, 0, ByteArray.empty, ByteArray.empty, 0, 0⟩ : TPlan)) G G G<|pkT G G G<|jA K31 h26 trivial Sr
   ·
    exact gS (g := [_, _, _, _]) G<|pkF G G G<|jA0 K31 h26 trivial Sr
  refine asg G G<|nl<|nx<|rt<|tR<|dpQ ?_
  exact fR1 () G G (by rw [ownedP, e5]; try rfl) G Sn
 ·
  have e5 : (!s.fOwns) = false := h5
  refine sk<|nx<|sq<|rg<|fa G fld_55_5 G<|ldB 0 G G one_3 G G<|geI G G G<|mv G G ?_
  apply jo [] trivial
  ·
   intro K41
   refine spA (i := 35) G (fun h35 => ?_) (fun h35 => ?_)
   ·
    have p35 := of_decide_eq_true h35
    exact gY G G G<|fa G fld_55_3 G<|gY G G G<|ldB 0 G G one_9 G G<|gY G G G<|fa G fld_55_4 G<|gY G G G<|ldB 0 G G one_9 G G<|gY G G G<|cfv (spans_c _ _) ok_237 G Sn G<|pkT G G G<|jA K41 h35 trivial Sr
   ·
    exact gS (g := [_, _, _, _, _]) G<|pkF G G G<|jA0 K41 h35 trivial Sr
  refine asg G G<|nl<|nx<|rt<|dpQ ?_
  exact fR1 () G G (by rw [ownedP, e5]; try rfl) G Sn

theorem waiting_c (s : TState) (s_0 s_1 s_2 s_3 s_4 s_5 : Value) (wt : TWait) (h_s : s.wf) (h_wt : wt.wf) : FnV Tryz.prog 185 [.agg (cState s s_0 s_1 s_2 s_3 s_4 s_5).toArray, .agg (cWait wt).toArray] [⟨s_0, s.fAccounts⟩, ⟨s_1, s.fMarks⟩, ⟨s_2, s.fWaits⟩, ⟨s_3, s.fDeals⟩, ⟨s_4, s.fEnds⟩, ⟨s_5, s.fImage⟩] (.bool (waitP s wt)) := by
 refine Fnc.proof Tryz.func185 G 100 G G fun X w => sq<|rg<|bx G G G fun b2 => bx G G G fun b3 => asg G G<|nl<|nx<|sq<|sq<|rg<|fa G fld_108_1 G<|ldB 0 G G one_3 G G<|fa G fld_108_2 G ?_
 refine ldB 0 G G one_3 G G<|cfv (swhose_c _ _ h_wt.2.1 h_wt.2.2.1) ok_240 G Sn G<|nt G G<|mv G G ?_
 apply jo [(2, _), (3, _)] ⟨rfl, rfl, trivial⟩
 ·
  intro K18
  refine spO (i := 12) G (fun h12 => ?_) (fun h12 => ?_)
  ·
   exact gY G G G<|fa G fld_108_5 G<|gY G G G<|fa G fld_34_1 G<|gY G G G<|ldB 0 G G one_9 G G<|gY G G G<|cfv (skeyed_c _) ok_241 G Sn G<|gY G G G<|nt G G<|pkF G G G<|jR K18 h12 ⟨G, G, trivial⟩ Sr
  ·
   exact gS (g := [_, _, _, _, _]) G<|pkT G G G<|jR0 K18 h12 ⟨G, G, trivial⟩ Sr
 refine mv G G ?_
 apply jo [(2, _), (3, _)] ⟨rfl, rfl, trivial⟩
 ·
  intro K26
  refine spO (i := 19) G (fun h19 => ?_) (fun h19 => ?_)
  ·
   exact gY G G G<|ldM 1 (cState s s_0 s_1 s_2 s_3 s_4 s_5) G G row_55 G G<|gY G G G<|fa G fld_108_5 G<|gY G G G<|fa G fld_34_1 G<|gY G G G<|ldB 0 G G one_9 G G<|gY G G G<|cfv (owns_c _ _ _ _ _ _ _ _ h_s) ok_78 G (Sc 0 G (Sc 1 G (Sc 2 G (Sc 3 G (Sc 4 G (Sc 5 G Sn)))))) G<|gY G G G<|nt G G<|pkF G G G<|jR K26 h19 ⟨G, G, trivial⟩ Sr
  ·
   exact gS (g := [_, _, _, _, _, _]) G<|pkT G G G<|jR0 K26 h19 ⟨G, G, trivial⟩ Sr
 refine mv G G ?_
 apply jo [(3, _)] ⟨rfl, trivial⟩
 ·
  intro K33
  refine spO (i := 27) G (fun h27 => ?_) (fun h27 => ?_)
  ·
   exact gY G G G<|ldM 1 (cState s s_0 s_1 s_2 s_3 s_4 s_5) G G row_55 G G<|gY G G G<|fa G fld_108_5 G<|gY G G G<|fa G fld_34_1 G<|gY G G G<|ldB 0 G G one_9 G G<|gY G G G<|cfv (sealed_c _ _ _ _ _ _ _ _ h_s) ok_242 G (Sc 0 G (Sc 1 G (Sc 2 G (Sc 3 G (Sc 4 G (Sc 5 G Sn)))))) G<|pkF G G G<|jR K33 h27 ⟨G, trivial⟩ Sr
  ·
   exact gS (g := [_, _, _, _, _]) G<|pkT G G G<|jR0 K33 h27 ⟨G, trivial⟩ Sr
 refine nl<|nx<|cdB G (fun h33 => ?_) (fun h33 => ?_)
 ·
  have e33 : (waitP0 s wt) = true := h33
  refine sq<|rg<|asg G G<|nl<|nx<|rt<|tR<|dpQ<|dpQ ?_
  exact fR1 () G G (by rw [waitP, e33]; try rfl) G Sn
 ·
  have e33 : (waitP0 s wt) = false := h33
  refine sk<|nx<|sq<|sq<|rg<|fa G fld_108_0 G<|ldB 0 G G one_3 G G<|nl<|nx<|bk<|sq<|rg<|eqI G G G<|asg G G ?_
  refine nl<|nx<|cdP G (fun h36 => ?_) (fun h36 => ?_)
  ·
   have e36 : (decide (wt.fKind = 1)) = true := (decide_eq_true h36)
   refine sq<|rg<|fa G fld_108_5 G<|fa G fld_34_0 G<|ldB 0 G G one_3 G G<|asg G G<|nl<|nx<|sq<|rg<|fa G fld_108_3 G<|ldB 0 G G one_3 G G<|geI G G G<|mv G G ?_
   apply jo [(3, _), (5, _)] ⟨rfl, rfl, trivial⟩
   ·
    intro K48
    refine spA (i := 44) G (fun h44 => ?_) (fun h44 => ?_)
    ·
     have p44 := of_decide_eq_true h44
     exact gY G G G<|fa G fld_108_3 G<|gY G G G<|ldB 0 G G one_3 G G<|gY G G G<|leI G G G<|pkT G G G<|jA K48 h44 ⟨G, G, trivial⟩ Sr
    ·
     exact gS (g := [_, _, _]) G<|pkF G G G<|jA0 K48 h44 ⟨G, G, trivial⟩ Sr
   refine mv G G ?_
   apply jo [(3, _), (5, _)] ⟨rfl, rfl, trivial⟩
   ·
    intro K53
    refine spA (i := 49) G (fun h49 => ?_) (fun h49 => ?_)
    ·
     exact gY G G G<|fa G fld_108_4 G<|gY G G G<|ldB 0 G G one_3 G G<|gY G G G<|eqI G G G<|pkT G G G<|jA K53 h49 ⟨G, G, trivial⟩ Sr
    ·
     exact gS (g := [_, _, _]) G<|pkF G G G<|jA0 K53 h49 ⟨G, G, trivial⟩ Sr
   refine mv G G ?_
   apply jo [(3, _), (5, _)] ⟨rfl, rfl, trivial⟩
   ·
    intro K57
    refine spA (i := 54) G (fun h54 => ?_) (fun h54 => ?_)
    ·
     exact gY G G G<|mv G G<|gY G G G<|geI G G G<|pkT G G G<|jA K57 h54 ⟨G, G, trivial⟩ Sr
    ·
     exact gS (g := [_, _]) G<|pkF G G G<|jA0 K57 h54 ⟨G, G, trivial⟩ Sr
   refine mv G G ?_
   apply jo [(3, _), (5, _)] ⟨rfl, rfl, trivial⟩
   ·
    intro K61
    refine spA (i := 58) G (fun h58 => ?_) (fun h58 => ?_)
    ·
     exact gY G G G<|mv G G<|gY G G G<|leI G G G<|pkT G G G<|jA K61 h58 ⟨G, G, trivial⟩ Sr
    ·
     exact gS (g := [_, _]) G<|pkF G G G<|jA0 K61 h58 ⟨G, G, trivial⟩ Sr
   refine mv G G ?_
   apply jo [] trivial
   ·
    intro K71
    refine spA (i := 62) G (fun h62 => ?_) (fun h62 => ?_)
    ·
     refine gY G G G<|mv G G<|gY G G G<|gtI G G G<|gY G G G<|mv G G ?_
     apply jo [(62, _)] ⟨rfl, trivial⟩
     ·
      intro K70
      refine spO (i := 65) G (fun h65 => ?_) (fun h65 => ?_)
      ·
       have p65 := of_decide_eq_false h65
       exact gY G G G<|fa G fld_108_5 G<|gY G G G<|fa G fld_34_3 G<|gY G G G<|ldB 0 G G one_3 G G<|gY G G G<|geI G G G<|gY G G G<|pkF G G G<|jR K70 h65 ⟨G, trivial⟩ Sr
      ·
       exact gS (g := [_, _, _, _]) G<|gY G G G<|pkT G G G<|jR0 K70 h65 ⟨G, trivial⟩ Sr
     exact pkT G G G<|jA K71 h62 trivial Sr
    ·
     exact gS (g := [_, _, _, _, _, _, _, _]) G<|pkF G G G<|jA0 K71 h62 trivial Sr
   refine asg G G<|nl<|nx<|rt<|bR<|tR<|dpQ<|dpQ ?_
   exact fR1 () G G (by rw [waitP, e33, e36]; try rfl) G Sn
  ·
   have e36 : (decide (wt.fKind = 1)) = false := (decide_eq_false h36)
   refine sq<|rg<|eqI G G G<|asg G G<|nl<|nx<|cdP G (fun h72 => ?_) (fun h72 => ?_)
   ·
    have e72 : (decide (wt.fKind = 2)) = true := (decide_eq_true h72)
    refine sq<|rg<|fa G fld_108_3 G<|ldB 0 G G one_3 G G<|eqI G G G<|mv G G ?_
    apply jo [(3, _)] ⟨rfl, trivial⟩
    ·
     intro K81
     refine spA (i := 77) G (fun h77 => ?_) (fun h77 => ?_)
     ·
      have p77 := of_decide_eq_true h77
      exact gY G G G<|fa G fld_108_4 G<|gY G G G<|ldB 0 G G one_3 G G<|gY G G G<|cfv (sgroup_c _ h_wt.2.2.2.2.1) ok_169 G Sn G<|pkT G G G<|jA K81 h77 ⟨G, trivial⟩ Sr
     ·
      exact gS (g := [_, _, _]) G<|pkF G G G<|jA0 K81 h77 ⟨G, trivial⟩ Sr
    refine mv G G ?_
    apply jo [(3, _)] ⟨rfl, trivial⟩
    ·
     intro K87
     refine spA (i := 82) G (fun h82 => ?_) (fun h82 => ?_)
     ·
      exact gY G G G<|fa G fld_108_5 G<|gY G G G<|fa G fld_34_3 G<|gY G G G<|ldB 0 G G one_3 G G<|gY G G G<|neI G G G<|pkT G G G<|jA K87 h82 ⟨G, trivial⟩ Sr
     ·
      exact gS (g := [_, _, _, _]) G<|pkF G G G<|jA0 K87 h82 ⟨G, trivial⟩ Sr
    refine mv G G ?_
    apply jo [] trivial
    ·
     intro K99
     refine spA (i := 88) G (fun h88 => ?_) (fun h88 => ?_)
     ·
      refine gY G G G<|fa G fld_108_5 G<|gY G G G<|ldM 0 (cOp wt.fOp) G G row_34 G G<|gY G G G<|fa G fld_108_5 G<|gY G G G<|fa G fld_34_1 G<|gY G G G<|ldB 0 G G one_9 G G<|gY G G G<|fa G fld_108_5 G<|gY G G G<|fa G fld_34_3 G ?_
      exact gY G G G<|ldB 0 G G one_3 G G<|gY G G G<|bd (ps := [(1, .tmp 93), (3, .tmp 96)]) (cs := (cOp ((⟨0, wt.fOp.fKey, ByteArray.empty, wt.fOp.fN, 0, 0⟩ : TOp)))) (by rfl) (by kernel_rfl) G<|gY G G G<|eqT eq_Op (wt.fOp) ((⟨0, wt.fOp.fKey, ByteArray.empty, wt.fOp.fN, 0, 0⟩ : TOp)) G G G<|pkT G G G<|jA K99 h88 trivial Sr
     ·
      exact gS (g := [_, _, _, _, _, _, _, _, _, _]) G<|pkF G G G<|jA0 K99 h88 trivial Sr
    refine asg G G<|nl<|nx<|rt<|bR<|tR<|dpQ<|dpQ ?_
    exact fR1 () G G (by rw [waitP, e33, e36, e72]; try rfl) G Sn
   ·
    have e72 : (decide (wt.fKind = 2)) = false := (decide_eq_false h72)
    refine sk<|bN<|nx<|sq<|rg<|asg G G<|nl<|nx<|rt<|dpQ<|dpQ ?_
    exact fR1 () G G (by rw [waitP, e33, e36, e72]; try rfl) G Sn

theorem holders_c (v_l : Value) (l : List THolder) : FnV Tryz.prog 223 [v_l] [⟨v_l, l⟩] (.bool (holdersP l)) := by
 refine Fnc.proof Tryz.func223 G 39 G G fun X w => sq<|rg<|asg G G<|nl<|nx<|sq<|rg<|asg G G<|nl<|nx<|sq<|sq<|rg ?_
 refine mv G G<|lnP 0 G G Tryz.underlying66 G fun l7 => mv G G<|nl<|nx<|bk<|lpC (σ := Nat) [(6, _), (7, _)] _ (fun i C => (8, .int .i64 (i : Int)) :: (3, .int .i64 (prevI (fun k => (l.getD k default).fNode) i)) :: C) (fun i => i ≤ l.length ∧ (∀ j, j < i → (!holdP (prevI (fun k => (l.getD k default).fNode) j) (l.getD j default)) = true)) (fun i => l.length - i) 0 ⟨G, G, trivial⟩ (Sc 0 G Sn) ⟨Nat.zero_le _, fun j hj => absurd hj (Nat.not_lt_zero j)⟩ ⟨G, G, G, G, trivial⟩ ?_
 rintro i ⟨hi, hall⟩
 refine sq<|rg<|ltI G G G<|nl<|nx<|sq<|cdP G (fun h9 => ?_) (fun h9 => ?_)
 ·
  refine sk<|nx<|sq<|bk<|sq<|rg<|ixP 0 G G G slt_66 (by omega) (getDE (d := default) (by omega)) G fun v10 => ldS 0 G G row_165 G fun q11 w11 => ?_
  refine al zero_165 G fun b5 => stW 0 (us := (cHolder ((l.getD i default)))) G G G row_165 G G<|nl<|nx<|sq<|sq<|rg<|fa G fld_165_0 G<|ldB 0 G G one_3 G G<|mv G G<|leI G G G<|mv G G ?_
  apply jo [(5, _), (6, _), (7, _), (8, _)] ⟨rfl, rfl, rfl, rfl, trivial⟩
  ·
   intro K20
   refine spO (i := 16) G (fun h16 => ?_) (fun h16 => ?_)
   ·
    have p16 := of_decide_eq_false h16
    exact gY G G G<|fa G fld_165_0 G<|gY G G G<|ldB 0 G G one_3 G G<|gY G G G<|gtI G G G<|pkF G G G<|jR K20 h16 ⟨G, G, G, G, trivial⟩ Sr
   ·
    exact gS (g := [_, _, _]) G<|pkT G G G<|jR0 K20 h16 ⟨G, G, G, G, trivial⟩ Sr
  refine mv G G ?_
  apply jo [(5, _), (6, _), (7, _), (8, _)] ⟨rfl, rfl, rfl, rfl, trivial⟩
  ·
   intro K25
   refine spO (i := 21) G (fun h21 => ?_) (fun h21 => ?_)
   ·
    exact gY G G G<|fa G fld_165_1 G<|gY G G G<|ldB 0 G G one_3 G G<|gY G G G<|ltI G G G<|pkF G G G<|jR K25 h21 ⟨G, G, G, G, trivial⟩ Sr
   ·
    exact gS (g := [_, _, _]) G<|pkT G G G<|jR0 K25 h21 ⟨G, G, G, G, trivial⟩ Sr
  refine mv G G ?_
  apply jo [(5, _), (6, _), (7, _), (8, _)] ⟨rfl, rfl, rfl, rfl, trivial⟩
  ·
   intro K30
   refine spO (i := 26) G (fun h26 => ?_) (fun h26 => ?_)
   ·
    exact gY G G G<|fa G fld_165_2 G<|gY G G G<|ldB 0 G G one_3 G G<|gY G G G<|ltI G G G<|pkF G G G<|jR K30 h26 ⟨G, G, G, G, trivial⟩ Sr
   ·
    exact gS (g := [_, _, _]) G<|pkT G G G<|jR0 K30 h26 ⟨G, G, G, G, trivial⟩ Sr
  refine mv G G ?_
  apply jo [(5, _), (6, _), (7, _), (8, _)] ⟨rfl, rfl, rfl, rfl, trivial⟩
  ·
   intro K35
   refine spO (i := 31) G (fun h31 => ?_) (fun h31 => ?_)
   ·
    exact gY G G G<|fa G fld_165_3 G<|gY G G G<|ldB 0 G G one_3 G G<|gY G G G<|ltI G G G<|pkF G G G<|jR K35 h31 ⟨G, G, G, G, trivial⟩ Sr
   ·
    exact gS (g := [_, _, _]) G<|pkT G G G<|jR0 K35 h31 ⟨G, G, G, G, trivial⟩ Sr
  refine nl<|nx<|cdB G (fun h35 => ?_) (fun h35 => ?_)
  ·
   refine sq<|rg<|asg G G<|nl<|nx<|rt<|tR<|bR<|tR<|tR<|bR<|tR<|dpQ ?_
   exact fR1 () G G (by rw [holdersP, allI_false i (by omega) (not_t h35)]; try rfl) G Sn
  ·
   refine sk<|nx<|rg<|fa G fld_165_0 G<|ldB 0 G G one_3 G G<|asg G G<|nl<|bN<|nx<|rg<|adI G G (inI (by omega) (by omega)) G<|mv G G<|nl<|dpQ ?_
   exact ag (i + 1) ⟨(by omega), (all_snoc hall (not_f h35))⟩ (by omega) ⟨G, G, G, G, trivial⟩ G (Sc 2 G Sn)
 ·
  refine ex<|tE<|tE<|bE<|nx<|sq<|rg<|asg G G<|nl<|nx<|rt ?_
  exact fR1 () G G (by rw [holdersP, allI_true (fun j hj => hall j (by omega))]; try rfl) G Sn


end Go.Proofs.YtmpoffijcfaalaaGreat
