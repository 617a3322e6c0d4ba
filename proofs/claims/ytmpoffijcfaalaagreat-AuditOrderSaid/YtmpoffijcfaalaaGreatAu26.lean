/- Part 26 of the proof of auditOrder_holds: DutW11, DutW12, DutW13, DutW14, DutW15, DutW16, DutW17, DutW18, DutW19, DutW20. Every text below begins with what it shows. -/
import Derived.Test.YtmpoffijcfaalaaGreatAu25

/- Walks, written by specs2.py. -/

namespace Go.Proofs.YtmpoffijcfaalaaGreat
open Go.Eng Go.YtmpoffijcfaalaaGreat
set_option maxHeartbeats 1000000

theorem sright_c (s : TState) (s_0 s_1 s_2 s_3 s_4 s_5 : Value) (h_s : s.wf) : FnV Tryz.prog 122 [.agg (cState s s_0 s_1 s_2 s_3 s_4 s_5).toArray] [⟨s_0, s.fAccounts⟩, ⟨s_1, s.fMarks⟩, ⟨s_2, s.fWaits⟩, ⟨s_3, s.fDeals⟩, ⟨s_4, s.fEnds⟩, ⟨s_5, s.fImage⟩] (.bool (srightP s)) := by
 refine Fnc.proof Tryz.func122 G 133 G G fun X w => sq<|rg<|bx G G G fun b1 => asg G G<|nl<|nx<|sq<|sq<|rg<|fa G fld_55_0 G<|ldB 0 G G one_3 G G<|cfv (sgroup_c _ h_s.1) ok_169 G Sn G<|nt G G ?_
 refine mv G G ?_
 apply jo [(1, _)] ⟨rfl, trivial⟩
 ·
  intro K25
  refine spO (i := 11) G (fun h11 => ?_) (fun h11 => ?_)
  ·
   refine gY G G G<|fa G fld_55_1 G<|gY G G G<|ldB 0 G G one_3 G G<|gY G G G<|fa G fld_55_5 G<|gY G G G<|ldB 0 G G one_3 G G<|gY G G G<|fa G fld_55_14 G<|gY G G G<|ldB 0 G G one_3 G G<|gY G G G<|fa G fld_55_15 G ?_
   refine gY G G G<|ldB 0 G G one_3 G G<|gY G G G<|fa G fld_55_16 G<|gY G G G<|ldB 0 G G one_3 G G<|gY G G G<|bs1 (xs := [.tmp 13, .tmp 15, .tmp 17, .tmp 19, .tmp 21]) (us := [.int .i64 s.fIndex, .int .i64 s.fEpoch, .int .i64 s.fAbsorbed, .int .i64 s.fRefused, .int .i64 s.fUndone]) (E := 3) (bytes := 8) (n := 5) G (by exact app_220) G G G G G G fun b22 => frS (α := Int) [s.fIndex, s.fEpoch, s.fAbsorbed, s.fRefused, s.fUndone] [[.int .i64 s.fIndex], [.int .i64 s.fEpoch], [.int .i64 s.fAbsorbed], [.int .i64 s.fRefused], [.int .i64 s.fUndone]] G (fun S w h => ⟨⟨G, h_s.2.1⟩, ⟨G, h_s.2.2.2.2.2.1⟩, ⟨G, h_s.2.2.2.2.2.2.2.2.2.2.2.2.2.2.1⟩, ⟨G, h_s.2.2.2.2.2.2.2.2.2.2.2.2.2.2.2.1⟩, ⟨G, h_s.2.2.2.2.2.2.2.2.2.2.2.2.2.2.2.2⟩, trivial⟩) (Nat.le_of_ble_eq_true G)<|gY G G G<|cfv (counts_c _ _) ok_179 G (Sc 0 G Sn) G<|gY G G G<|nt G G<|pkF G G G ?_
   exact jR K25 h11 ⟨G, trivial⟩ (SubD.tail Sr)
  ·
   exact gS (g := [_, _, _, _, _, _, _, _, _, _, _, _, _]) G<|pkT G G G<|jR0 K25 h11 ⟨G, trivial⟩ Sr
 refine mv G G ?_
 apply jo [(1, _)] ⟨rfl, trivial⟩
 ·
  intro K30
  refine spO (i := 26) G (fun h26 => ?_) (fun h26 => ?_)
  ·
   exact gY G G G<|ldM 0 (cState s s_0 s_1 s_2 s_3 s_4 s_5) G G row_55 G G<|gY G G G<|cfv (owned_c _ _ _ _ _ _ _ h_s) ok_180 G (Sc 0 G (Sc 1 G (Sc 2 G (Sc 3 G (Sc 4 G (Sc 5 G Sn)))))) G<|gY G G G<|nt G G<|pkF G G G<|jR K30 h26 ⟨G, trivial⟩ Sr
  ·
   exact gS (g := [_, _, _]) G<|pkT G G G<|jR0 K30 h26 ⟨G, trivial⟩ Sr
 refine mv G G ?_
 apply jo [(1, _)] ⟨rfl, trivial⟩
 ·
  intro K35
  refine spO (i := 31) G (fun h31 => ?_) (fun h31 => ?_)
  ·
   exact gY G G G<|ldM 0 (cState s s_0 s_1 s_2 s_3 s_4 s_5) G G row_55 G G<|gY G G G<|cfv (saccs_c _ _ _ _ _ _ _ h_s) ok_181 G (Sc 0 G (Sc 1 G (Sc 2 G (Sc 3 G (Sc 4 G (Sc 5 G Sn)))))) G<|gY G G G<|nt G G<|pkF G G G<|jR K35 h31 ⟨G, trivial⟩ Sr
  ·
   exact gS (g := [_, _, _]) G<|pkT G G G<|jR0 K35 h31 ⟨G, trivial⟩ Sr
 refine nl<|nx<|cdB G (fun h35 => ?_) (fun h35 => ?_)
 ·
  have e35 : (sright1 s) = true := h35
  refine sq<|rg<|asg G G<|nl<|nx<|rt<|tR<|dpQ ?_
  exact fR1 () G G (by rw [srightP, if_pos e35]) G Sn
 ·
  have e35 : (sright1 s) = false := h35
  refine sk<|nx<|sq<|sq<|rg<|fa G fld_55_7 G<|ldB 0 G G one_25 G G<|cfv (scheck_c _ _) ok_182 G (Sc 1 G Sn) G<|neI G G G<|mv G G ?_
  apply jo [(1, _)] ⟨rfl, trivial⟩
  ·
   intro K45
   refine spO (i := 40) G (fun h40 => ?_) (fun h40 => ?_)
   ·
    have p40 := h40
    simp only [Bool.not_eq_true', Bool.not_eq_false', decide_eq_true_eq, decide_eq_false_iff_not] at p40
    exact gY G G G<|fa G fld_55_9 G<|gY G G G<|ldB 0 G G one_52 G G<|gY G G G<|cfv (deals_c _ _) ok_183 G (Sc 3 G Sn) G<|gY G G G<|neI G G G<|pkF G G G<|jR K45 h40 ⟨G, trivial⟩ Sr
   ·
    exact gS (g := [_, _, _, _]) G<|pkT G G G<|jR0 K45 h40 ⟨G, trivial⟩ Sr
  refine mv G G ?_
  apply jo [(1, _)] ⟨rfl, trivial⟩
  ·
   intro K51
   refine spO (i := 46) G (fun h46 => ?_) (fun h46 => ?_)
   ·
    exact gY G G G<|fa G fld_55_10 G<|gY G G G<|ldB 0 G G one_53 G G<|gY G G G<|cfv (dends_c _ _) ok_184 G (Sc 4 G Sn) G<|gY G G G<|neI G G G<|pkF G G G<|jR K51 h46 ⟨G, trivial⟩ Sr
   ·
    exact gS (g := [_, _, _, _]) G<|pkT G G G<|jR0 K51 h46 ⟨G, trivial⟩ Sr
  refine mv G G ?_
  apply jo [(1, _)] ⟨rfl, trivial⟩
  ·
   intro K57
   refine spO (i := 52) G (fun h52 => ?_) (fun h52 => ?_)
   ·
    exact gY G G G<|fa G fld_55_8 G<|gY G G G<|ldB 0 G G one_51 G G<|gY G G G<|lnP 2 G G Tryz.underlying51 G fun l55 => gY G G G<|gtI G G G<|pkF G G G<|jR K57 h52 ⟨G, trivial⟩ Sr
   ·
    exact gS (g := [_, _, _, _]) G<|pkT G G G<|jR0 K57 h52 ⟨G, trivial⟩ Sr
  refine nl<|nx<|cdB G (fun h57 => ?_) (fun h57 => ?_)
  ·
   have e57 : (sright2 s) = true := h57
   refine sq<|rg<|asg G G<|nl<|nx<|rt<|tR<|dpQ ?_
   exact fR1 () G G (by rw [srightP, if_neg (by rw [e35]; decide), if_pos e57]) G Sn
  ·
   have e57 : (sright2 s) = false := h57
   refine sk<|nx<|sq<|sq<|rg<|fa G fld_55_8 G<|ldB 0 G G one_51 G G<|lnP 2 G G Tryz.underlying51 G fun l60 => mv G G<|nl<|nx<|bk<|lpC (σ := Nat) [(1, _), (59, _), (60, _)] _ (fun i C => (61, .int .i64 (i : Int)) :: C) (fun i => i ≤ s.fWaits.length ∧ (∀ j, j < i → waitP s (s.fWaits.getD j default) = true)) (fun i => s.fWaits.length - i) 0 ⟨G, G, G, trivial⟩ (Sc 0 G (Sc 1 G (Sc 2 G (Sc 3 G (Sc 4 G (Sc 5 G Sn)))))) ⟨Nat.zero_le _, fun j hj => absurd hj (Nat.not_lt_zero j)⟩ ⟨G, G, G, G, trivial⟩ ?_
   rintro i ⟨hi, hall⟩
   refine sq<|rg<|ltI G G G<|nl<|nx<|sq<|cdP G (fun h62 => ?_) (fun h62 => ?_)
   ·
    refine sk<|nx<|sq<|bk<|sq<|rg<|ixP 2 G G G slt_51 (by omega) (getDE (d := default) (by omega)) G fun v63 => ldS 0 G G row_108 G fun q64 w64 => ?_
    refine al zero_108 G fun b4 => stW 0 (us := (cWait ((s.fWaits.getD i default)))) G G G row_108 G G<|nl<|nx<|sq<|rg<|ldM 1 (cState s s_0 s_1 s_2 s_3 s_4 s_5) G G row_55 G G<|ldM 0 (cWait ((s.fWaits.getD i default))) G G row_108 G G<|cfv (waiting_c _ _ _ _ _ _ _ _ h_s w64) ok_185 G (Sc 2 G (Sc 3 G (Sc 4 G (Sc 5 G (Sc 6 G (Sc 7 G Sn)))))) G<|nt G G<|nl<|nx<|cdB G (fun h68 => ?_) (fun h68 => ?_)
    ·
     refine sq<|rg<|asg G G<|nl<|nx<|rt<|bR<|tR<|tR<|bR<|tR<|dpQ<|dpQ ?_
     exact fR1 () G G (by rw [srightP, if_neg (by rw [e35]; decide), if_neg (by rw [e57]; decide), if_neg (by rw [srightW, allI_false i (by omega) (by simpa using h68)]; decide)]) G Sn
    ·
     refine sk<|bN<|nx<|rg<|adI G G (inI (by omega) (by omega)) G<|mv G G<|nl<|dpQ ?_
     exact ag (i + 1) ⟨(by omega), (all_snoc hall (by simpa using h68))⟩ (by omega) ⟨G, G, G, G, trivial⟩ G (Sc 2 G (Sc 3 G (Sc 4 G (Sc 5 G (Sc 6 G (Sc 7 G Sn))))))
   ·
    have eW : srightW s = true := allI_true (fun j hj => hall j (by omega))
    refine ex<|tE<|tE<|bE<|nx<|sq<|sq<|rg<|fa G fld_55_11 G<|ldM 0 (cPlan s.fSeal) G G row_24 G G<|bd (ps := []) (cs := (cPlan ((⟨0, 0, 0, ByteArray.empty, ByteArray.empty, 0, 0⟩ : TPlan)))) (by rfl) (by kernel_rfl) G<|neT eq_Plan (s.fSeal) ((⟨0, 0, 0, ByteArray.empty, ByteArray.empty, 0, 0⟩ : TPlan)) G G G<|mv G G ?_
    apply jo [(1, _)] ⟨rfl, trivial⟩
    ·
     intro K103
     refine spA (i := 74) G (fun h74 => ?_) (fun h74 => ?_)
     ·
      have p74 := h74
      simp only [Bool.not_eq_true', Bool.not_eq_false', decide_eq_true_eq, decide_eq_false_iff_not] at p74
      refine gY G G G<|fa G fld_55_11 G<|gY G G G<|ldM 0 (cPlan s.fSeal) G G row_24 G G<|gY G G G<|cfv (planned_c _ h_s.2.2.2.2.2.2.2.2.2.2.2.1) ok_186 G Sn G<|gY G G G<|nt G G<|gY G G G<|mv G G ?_
      apply jo [(1, _), (74, _)] ⟨rfl, rfl, trivial⟩
      ·
       intro K86
       refine spO (i := 79) G (fun h79 => ?_) (fun h79 => ?_)
       ·
        refine gY G G G<|fa G fld_55_11 G<|gY G G G<|fa G fld_24_1 G<|gY G G G<|ldB 0 G G one_3 G G<|gY G G G<|fa G fld_55_0 G<|gY G G G<|ldB 0 G G one_3 G G<|gY G G G<|neI G G G<|gY G G G<|pkF G G G ?_
        exact jR K86 h79 ⟨G, G, trivial⟩ Sr
       ·
        exact gS (g := [_, _, _, _, _, _]) G<|gY G G G<|pkT G G G<|jR0 K86 h79 ⟨G, G, trivial⟩ Sr
      refine gY G G G<|mv G G ?_
      apply jo [(1, _), (74, _)] ⟨rfl, rfl, trivial⟩
      ·
       intro K94
       refine spO (i := 87) G (fun h87 => ?_) (fun h87 => ?_)
       ·
        refine gY G G G<|fa G fld_55_11 G<|gY G G G<|fa G fld_24_4 G<|gY G G G<|ldB 0 G G one_9 G G<|gY G G G<|fa G fld_55_4 G<|gY G G G<|ldB 0 G G one_9 G G<|gY G G G<|neS G G G<|gY G G G<|pkF G G G ?_
        exact jR K94 h87 ⟨G, G, trivial⟩ Sr
       ·
        exact gS (g := [_, _, _, _, _, _]) G<|gY G G G<|pkT G G G<|jR0 K94 h87 ⟨G, G, trivial⟩ Sr
      refine gY G G G<|mv G G ?_
      apply jo [(1, _), (74, _)] ⟨rfl, rfl, trivial⟩
      ·
       intro K102
       refine spO (i := 95) G (fun h95 => ?_) (fun h95 => ?_)
       ·
        refine gY G G G<|ldM 0 (cState s s_0 s_1 s_2 s_3 s_4 s_5) G G row_55 G G<|gY G G G<|fa G fld_55_11 G<|gY G G G<|fa G fld_24_3 G<|gY G G G<|ldB 0 G G one_9 G G<|gY G G G<|cfv (owns_c _ _ _ _ _ _ _ _ h_s) ok_78 G (Sc 0 G (Sc 1 G (Sc 2 G (Sc 3 G (Sc 4 G (Sc 5 G Sn)))))) G<|gY G G G<|nt G G<|gY G G G<|pkF G G G ?_
        exact jR K102 h95 ⟨G, G, trivial⟩ Sr
       ·
        exact gS (g := [_, _, _, _, _, _]) G<|gY G G G<|pkT G G G<|jR0 K102 h95 ⟨G, G, trivial⟩ Sr
      exact pkT G G G<|jA K103 h74 ⟨G, trivial⟩ Sr
     ·
      exact gS (g := [_, _, _, _, _, _, _, _, _, _, _, _, _, _, _, _, _, _, _, _, _, _, _, _, _, _, _, _]) G<|pkF G G G<|jA0 K103 h74 ⟨G, trivial⟩ Sr
    refine nl<|nx<|cdB G (fun h103 => ?_) (fun h103 => ?_)
    ·
     have e103 : (sright3 s) = true := h103
     refine sq<|rg<|asg G G<|nl<|nx<|rt<|tR<|dpQ ?_
     exact fR1 () G G (by rw [srightP, if_neg (by rw [e35]; decide), if_neg (by rw [e57]; decide), if_pos eW, e103]; first | (rw [e107]; try rfl) | (try rfl)) G Sn
    ·
     have e103 : (sright3 s) = false := h103
     refine sk<|nx<|sq<|sq<|rg<|fa G fld_55_12 G<|ldM 0 (cPlan s.fOut) G G row_24 G G<|bd (ps := []) (cs := (cPlan ((⟨0, 0, 0, ByteArray.empty, ByteArray.empty, 0, 0⟩ : TPlan)))) (by rfl) (by kernel_rfl) G<|eqT eq_Plan (s.fOut) ((⟨0, 0, 0, ByteArray.empty, ByteArray.empty, 0, 0⟩ : TPlan)) G G G<|nl<|nx<|cdP G (fun h107 => ?_) (fun h107 => ?_)
     ·
      have e107 : (decide (s.fOut = ⟨0, 0, 0, ByteArray.empty, ByteArray.empty, 0, 0⟩)) = true := (decide_eq_true h107)
      refine sq<|rg<|fa G fld_55_13 G<|ldB 0 G G one_35 G G<|lnP 5 G G Tryz.underlying35 G fun l110 => eqI G G G<|asg G G<|nl<|nx<|rt<|tR<|dpQ ?_
      exact fR1 () G G (by rw [srightP, if_neg (by rw [e35]; decide), if_neg (by rw [e57]; decide), if_pos eW, e103]; first | (rw [e107]; try rfl) | (try rfl)) G Sn
     ·
      have e107 : (decide (s.fOut = ⟨0, 0, 0, ByteArray.empty, ByteArray.empty, 0, 0⟩)) = false := (decide_eq_false h107)
      refine sk<|nx<|sq<|rg<|fa G fld_55_13 G<|ldB 0 G G one_35 G G<|cf (rs_c _ _) ok_159 G (Sc 5 G Sn) G fun y115 v115 h115 => ?_
      obtain ⟨y115_0, y115_1, y115_2, y115_3, y115_4, y115_5⟩ := y115
      replace h115 : v115 = .tuple #[.agg (cState (rdState _).1 y115_0 y115_1 y115_2 y115_3 y115_4 y115_5).toArray, .int .i64 (rdState _).2] := h115
      subst h115
      refine mv G G<|xt G G G<|xt G G G<|al zero_55 G fun b5 => gtL (q := y115_0.oneCell' = true) (fun S w h => oneCell_of_list (h _ (List.mem_of_getElem? (i := 0) G))) fun o_y115_0 => gtL (q := y115_1.oneCell' = true) (fun S w h => oneCell_of_list (h _ (List.mem_of_getElem? (i := 1) G))) fun o_y115_1 => gtL (q := y115_2.oneCell' = true) (fun S w h => oneCell_of_list (h _ (List.mem_of_getElem? (i := 2) G))) fun o_y115_2 => gtL (q := y115_3.oneCell' = true) (fun S w h => oneCell_of_list (h _ (List.mem_of_getElem? (i := 3) G))) fun o_y115_3 => gtL (q := y115_4.oneCell' = true) (fun S w h => oneCell_of_list (h _ (List.mem_of_getElem? (i := 4) G))) fun o_y115_4 => gtL (q := y115_5.oneCell' = true) (fun S w h => oneCell_of_list (h _ (List.mem_of_getElem? (i := 5) G))) fun o_y115_5 => stW 0 (us := (cState ((rdState s.fImage).1) y115_0 y115_1 y115_2 y115_3 y115_4 y115_5)) G G G row_55 (by simp only [List.all_cons, List.all_nil, Bool.and_true, o_y115_0, o_y115_1, o_y115_2, o_y115_3, o_y115_4, o_y115_5]; rfl) G<|asg G G<|nl<|nx ?_
      refine sq<|rg<|fa G fld_55_12 G<|ldM 1 (cPlan s.fOut) G G row_24 G G<|cfv (planned_c _ h_s.2.2.2.2.2.2.2.2.2.2.2.2.1) ok_186 G Sn G<|mv G G ?_
      apply jo [(6, _)] ⟨rfl, trivial⟩
      ·
       intro K128
       refine spA (i := 121) G (fun h121 => ?_) (fun h121 => ?_)
       ·
        exact gY G G G<|fa G fld_55_12 G<|gY G G G<|fa G fld_24_1 G<|gY G G G<|ldB 1 G G one_3 G G<|gY G G G<|fa G fld_55_0 G<|gY G G G<|ldB 1 G G one_3 G G<|gY G G G<|eqI G G G<|pkT G G G<|jA K128 h121 ⟨G, trivial⟩ Sr
       ·
        exact gS (g := [_, _, _, _, _, _]) G<|pkF G G G<|jA0 K128 h121 ⟨G, trivial⟩ Sr
      refine mv G G ?_
      apply jo [] trivial
      ·
       intro K132
       refine spA (i := 129) G (fun h129 => ?_) (fun h129 => ?_)
       ·
        exact gY G G G<|mv G G<|gY G G G<|eqI G G G<|pkT G G G<|jA K132 h129 trivial Sr
       ·
        exact gS (g := [_, _]) G<|pkF G G G<|jA0 K132 h129 trivial Sr
      refine asg G G<|nl<|nx<|rt<|dpQ<|dpQ ?_
      exact fR1 () G G (by rw [srightP, if_neg (by rw [e35]; decide), if_neg (by rw [e57]; decide), if_pos eW, e103]; first | (rw [e107]; try rfl) | (try rfl)) G Sn

theorem shcheck_c (s : TState) (s_0 s_1 s_2 s_3 s_4 s_5 : Value) (h_s : s.wf) : FnV Tryz.prog 57 [.agg (cState s s_0 s_1 s_2 s_3 s_4 s_5).toArray] [⟨s_0, s.fAccounts⟩, ⟨s_1, s.fMarks⟩, ⟨s_2, s.fWaits⟩, ⟨s_3, s.fDeals⟩, ⟨s_4, s.fEnds⟩, ⟨s_5, s.fImage⟩] (.int .i64 (errF (srightP s))) := by
 refine Fnc.proof Tryz.func57 G 6 G G fun X w => sq<|rg<|bx G G G fun b1 => asg G G<|nl<|nx<|sq<|sq<|rg<|ldM 0 (cState s s_0 s_1 s_2 s_3 s_4 s_5) G G row_55 G G<|cfv (sright_c _ _ _ _ _ _ _ h_s) ok_122 G (Sc 0 G (Sc 1 G (Sc 2 G (Sc 3 G (Sc 4 G (Sc 5 G Sn)))))) G<|nt G G<|nl ?_
 refine nx<|cdB G (fun h5 => ?_) (fun h5 => ?_)
 ·
  refine sq<|rg<|asg G G<|nl<|nx<|rt<|tR<|dpQ ?_
  exact fR1 () G G (by rw [errF, if_neg (by have q := h5; rw [Bool.not_eq_true'] at q; rw [q]; decide)]) G Sn
 ·
  refine sk<|nx<|sq<|rg<|asg G G<|nl<|nx<|rt<|dpQ ?_
  exact fR1 () G G (by rw [errF, if_pos (by have q := h5; rw [Bool.not_eq_false'] at q; exact q)]) G Sn

theorem dright_c (v : TScene) (v_0 v_1 v_2 v_3 v_4 : Value) (h_v : v.wf) : FnV Tryz.prog 17 [.agg (cScene v v_0 v_1 v_2 v_3 v_4).toArray] [⟨v_0, v.fChart.fPlaces⟩, ⟨v_1, v.fChart.fMarks⟩, ⟨v_2, v.fStates⟩, ⟨v_3, v.fRights⟩, ⟨v_4, v.fAges⟩] (.bool (drightP v)) := by
 refine Fnc.proof Tryz.func17 G 65 G G fun X w => sq<|rg<|bx G G G fun b1 => asg G G<|nl<|nx<|sq<|sq<|rg<|fa G fld_32_1 G<|ldB 0 G G one_3 G G<|neI G G G<|mv G G ?_
 apply jo [(1, _)] ⟨rfl, trivial⟩
 ·
  intro K12
  refine spA (i := 8) G (fun h8 => ?_) (fun h8 => ?_)
  ·
   have p8 := h8
   simp only [Bool.not_eq_true', Bool.not_eq_false', decide_eq_true_eq, decide_eq_false_iff_not] at p8
   exact gY G G G<|fa G fld_32_1 G<|gY G G G<|ldB 0 G G one_3 G G<|gY G G G<|neI G G G<|pkT G G G<|jA K12 h8 ⟨G, trivial⟩ Sr
  ·
   exact gS (g := [_, _, _]) G<|pkF G G G<|jA0 K12 h8 ⟨G, trivial⟩ Sr
 refine mv G G ?_
 apply jo [(1, _)] ⟨rfl, trivial⟩
 ·
  intro K17
  refine spA (i := 13) G (fun h13 => ?_) (fun h13 => ?_)
  ·
   exact gY G G G<|fa G fld_32_1 G<|gY G G G<|ldB 0 G G one_3 G G<|gY G G G<|neI G G G<|pkT G G G<|jA K17 h13 ⟨G, trivial⟩ Sr
  ·
   exact gS (g := [_, _, _]) G<|pkF G G G<|jA0 K17 h13 ⟨G, trivial⟩ Sr
 refine mv G G ?_
 apply jo [(1, _)] ⟨rfl, trivial⟩
 ·
  intro K22
  refine spO (i := 18) G (fun h18 => ?_) (fun h18 => ?_)
  ·
   exact gY G G G<|fa G fld_32_0 G<|gY G G G<|ldB 0 G G one_3 G G<|gY G G G<|ltI G G G<|pkF G G G<|jR K22 h18 ⟨G, trivial⟩ Sr
  ·
   exact gS (g := [_, _, _]) G<|pkT G G G<|jR0 K22 h18 ⟨G, trivial⟩ Sr
 refine mv G G ?_
 apply jo [(1, _)] ⟨rfl, trivial⟩
 ·
  intro K29
  refine spO (i := 23) G (fun h23 => ?_) (fun h23 => ?_)
  ·
   exact gY G G G<|fa G fld_32_0 G<|gY G G G<|ldB 0 G G one_3 G G<|gY G G G<|fa G fld_32_1 G<|gY G G G<|ldB 0 G G one_3 G G<|gY G G G<|gtI G G G<|pkF G G G<|jR K29 h23 ⟨G, trivial⟩ Sr
  ·
   exact gS (g := [_, _, _, _, _]) G<|pkT G G G<|jR0 K29 h23 ⟨G, trivial⟩ Sr
 refine mv G G ?_
 apply jo [(1, _)] ⟨rfl, trivial⟩
 ·
  intro K35
  refine spO (i := 30) G (fun h30 => ?_) (fun h30 => ?_)
  ·
   exact gY G G G<|fa G fld_32_3 G<|gY G G G<|ldB 0 G G one_28 G G<|gY G G G<|lnP 2 G G Tryz.underlying28 G fun l33 => gY G G G<|neI G G G<|pkF G G G<|jR K35 h30 ⟨G, trivial⟩ Sr
  ·
   exact gS (g := [_, _, _, _]) G<|pkT G G G<|jR0 K35 h30 ⟨G, trivial⟩ Sr
 refine nl<|nx<|cdB G (fun h35 => ?_) (fun h35 => ?_)
 ·
  have e35 : (dright1 v) = true := h35
  refine sq<|rg<|asg G G<|nl<|nx<|rt<|tR<|dpQ ?_
  exact fR1 () G G (by rw [drightP, if_pos e35]) G Sn
 ·
  have e35 : (dright1 v) = false := h35
  refine sk<|nx<|sq<|sq<|rg<|fa G fld_32_3 G<|ldB 0 G G one_28 G G<|lnP 2 G G Tryz.underlying28 G fun l38 => mv G G<|nl<|nx<|bk<|lpC (σ := Nat) [(1, _), (37, _), (38, _)] _ (fun i C => (39, .int .i64 (i : Int)) :: C) (fun i => i ≤ v.fStates.length ∧ (∀ j, j < i → (!drightj v j) = true)) (fun i => v.fStates.length - i) 0 ⟨G, G, G, trivial⟩ (Sc 0 G (Sc 1 G (Sc 2 G (Sc 3 G (Sc 4 G Sn))))) ⟨Nat.zero_le _, fun j hj => absurd hj (Nat.not_lt_zero j)⟩ ⟨G, G, G, G, trivial⟩ ?_
  rintro i ⟨hi, hall⟩
  refine sq<|rg<|ltI G G G<|nl<|nx<|sq<|cdP G (fun h40 => ?_) (fun h40 => ?_)
  ·
   refine sk<|nx<|sq<|bk<|sq<|rg<|mv G G<|ixP 2 G G G slt_28 (by omega) (getDE (d := default) (by omega)) G fun v42 => ldS 0 G G row_55 G fun q43 w43 => ?_
   obtain ⟨q43_0, q43_1, q43_2, q43_3, q43_4, q43_5⟩ := q43
   refine al zero_55 G fun b4 => asg G G<|gtL (q := q43_0.oneCell' = true) (fun S w h => oneCell_of_list (h _ (List.mem_of_getElem? (i := 1) G))) fun o_q43_0 => gtL (q := q43_1.oneCell' = true) (fun S w h => oneCell_of_list (h _ (List.mem_of_getElem? (i := 2) G))) fun o_q43_1 => gtL (q := q43_2.oneCell' = true) (fun S w h => oneCell_of_list (h _ (List.mem_of_getElem? (i := 3) G))) fun o_q43_2 => gtL (q := q43_3.oneCell' = true) (fun S w h => oneCell_of_list (h _ (List.mem_of_getElem? (i := 4) G))) fun o_q43_3 => gtL (q := q43_4.oneCell' = true) (fun S w h => oneCell_of_list (h _ (List.mem_of_getElem? (i := 5) G))) fun o_q43_4 => gtL (q := q43_5.oneCell' = true) (fun S w h => oneCell_of_list (h _ (List.mem_of_getElem? (i := 6) G))) fun o_q43_5 => stW 0 (us := (cState ((v.fStates.getD i default)) q43_0 q43_1 q43_2 q43_3 q43_4 q43_5)) G G G row_55 (by simp only [List.all_cons, List.all_nil, Bool.and_true, o_q43_0, o_q43_1, o_q43_2, o_q43_3, o_q43_4, o_q43_5]; rfl) G<|nl<|nx<|sq<|rg<|fa G fld_55_0 G ?_
   refine ldB 0 G G one_3 G G<|mv G G<|adI G G (inI (by omega) (by omega)) G<|neI G G G<|mv G G ?_
   apply jo [(1, _), (37, _), (38, _), (39, _)] ⟨rfl, rfl, rfl, rfl, trivial⟩
   ·
    intro K53
    refine spO (i := 49) G (fun h49 => ?_) (fun h49 => ?_)
    ·
     have p49 := h49
     simp only [Bool.not_eq_true', Bool.not_eq_false', decide_eq_true_eq, decide_eq_false_iff_not] at p49
     exact gY G G G<|ldM 0 (cState ((v.fStates.getD i default)) q43_0 q43_1 q43_2 q43_3 q43_4 q43_5) G G row_55 G G<|gY G G G<|cfv (shcheck_c _ _ _ _ _ _ _ w43) ok_57 G (Sc 1 G (Sc 2 G (Sc 3 G (Sc 4 G (Sc 5 G (Sc 6 G Sn)))))) G<|gY G G G<|neI G G G<|pkF G G G<|jR K53 h49 ⟨G, G, G, G, trivial⟩ Sr
    ·
     exact gS (g := [_, _, _]) G<|pkT G G G<|jR0 K53 h49 ⟨G, G, G, G, trivial⟩ Sr
   refine nl<|nx<|cdB G (fun h53 => ?_) (fun h53 => ?_)
   ·
    refine sq<|rg<|asg G G<|nl<|nx<|rt<|bR<|tR<|tR<|bR<|tR<|dpQ<|dpQ ?_
    exact fR1 () G G (by rw [drightP, if_neg (by rw [e35]; decide), if_neg (by rw [allI_false i (by omega) (not_t h53)]; decide)]) G Sn
   ·
    refine sk<|bN<|nx<|rg<|adI G G (inI (by omega) (by omega)) G<|mv G G<|nl<|dpQ ?_
    exact ag (i + 1) ⟨(by omega), (all_snoc hall (not_f h53))⟩ (by omega) ⟨G, G, G, G, trivial⟩ G (Sc 8 G (Sc 9 G (Sc 10 G (Sc 11 G (Sc 12 G Sn)))))
  ·
   refine ex<|tE<|tE<|bE<|nx<|sq<|rg<|fa G fld_32_2 G<|ldM 0 (cChart v.fChart v_0 v_1) G G row_27 G G<|cfv (pcheck_c _ _ _ h_v.2.2.1) ok_58 G (Sc 0 G (Sc 1 G Sn)) G<|eqI G G G<|mv G G ?_
   apply jo [] trivial
   ·
    intro K64
    refine spA (i := 59) G (fun h59 => ?_) (fun h59 => ?_)
    ·
     have p59 := of_decide_eq_true h59
     exact gY G G G<|fa G fld_32_4 G<|gY G G G<|ldB 0 G G one_29 G G<|gY G G G<|cfv (lcheck_c _ _) ok_59 G (Sc 3 G Sn) G<|gY G G G<|eqI G G G<|pkT G G G<|jA K64 h59 trivial Sr
    ·
     exact gS (g := [_, _, _, _]) G<|pkF G G G<|jA0 K64 h59 trivial Sr
   refine asg G G<|nl<|nx<|rt<|dpQ ?_
   exact fR1 () G G (by rw [drightP, if_neg (by rw [e35]; decide), if_pos (allI_true (fun j hj => hall j (by omega)))]) G Sn
end Go.Proofs.YtmpoffijcfaalaaGreat

/- Walks, written by specs2.py. -/

namespace Go.Proofs.YtmpoffijcfaalaaGreat
open Go.Eng Go.YtmpoffijcfaalaaGreat
set_option maxHeartbeats 1000000

end Go.Proofs.YtmpoffijcfaalaaGreat

/- Walks, written by specs6.py. -/

namespace Go.Proofs.YtmpoffijcfaalaaGreat
open Go.Eng Go.YtmpoffijcfaalaaGreat
set_option maxHeartbeats 1000000

end Go.Proofs.YtmpoffijcfaalaaGreat

/- Walks, written by specs6.py. -/

namespace Go.Proofs.YtmpoffijcfaalaaGreat
open Go.Eng Go.YtmpoffijcfaalaaGreat
set_option maxHeartbeats 1000000

end Go.Proofs.YtmpoffijcfaalaaGreat

/- Walks, written by specs6.py. -/

namespace Go.Proofs.YtmpoffijcfaalaaGreat
open Go.Eng Go.YtmpoffijcfaalaaGreat
set_option maxHeartbeats 1000000

end Go.Proofs.YtmpoffijcfaalaaGreat

/- Walks, written by specs6.py. -/

namespace Go.Proofs.YtmpoffijcfaalaaGreat
open Go.Eng Go.YtmpoffijcfaalaaGreat
set_option maxHeartbeats 1000000

end Go.Proofs.YtmpoffijcfaalaaGreat

/- Walks, written by specs6.py. -/

namespace Go.Proofs.YtmpoffijcfaalaaGreat
open Go.Eng Go.YtmpoffijcfaalaaGreat
set_option maxHeartbeats 1000000

end Go.Proofs.YtmpoffijcfaalaaGreat

/- Walks, written by specs6.py. -/

namespace Go.Proofs.YtmpoffijcfaalaaGreat
open Go.Eng Go.YtmpoffijcfaalaaGreat
set_option maxHeartbeats 1000000

end Go.Proofs.YtmpoffijcfaalaaGreat

/- Walks, written by specs6.py. -/

namespace Go.Proofs.YtmpoffijcfaalaaGreat
open Go.Eng Go.YtmpoffijcfaalaaGreat
set_option maxHeartbeats 1000000

theorem pnew_c : Fnc Tryz.prog 93 [] [] [] (fun (y : Value) v => v = .agg (cChart chart1 y (.slice none 0 0)).toArray) (fun _ _ => []) (fun y _ => [⟨y, chart1.fPlaces⟩]) := by
 refine Fnc.proof Tryz.func93 G 4 G G fun X w => sq<|rg<|al zero_27 G fun b0 => nl<|nx<|sq<|rg<|bd (ps := [(0, .const (.int .i64 1)), (2, .const (.int .i64 1))]) (cs := (cPlace ((⟨1, ByteArray.empty, 1⟩ : TPlace)))) (by rfl) (by kernel_rfl) G<|bsM G app_22 G G G G fun b2 => frS1 (α := TPlace) place1 (fun S w h => ⟨(), G, by simp, place1_wf⟩)<|bd (ps := [(1, .tmp 2), (2, .const (.int .i64 2))]) (cs := (cChart ((⟨0, [place1], 2, 0, (⟨0, 0, 0, ByteArray.empty, ByteArray.empty, 0, 0⟩ : TPlan), []⟩ : TChart)) (.slice (some ⟨b2, 0, none⟩) 1 1) (.slice none 0 0))) (by rfl) (by kernel_rfl) G<|stW 0 (us := (cChart ((⟨0, [place1], 2, 0, (⟨0, 0, 0, ByteArray.empty, ByteArray.empty, 0, 0⟩ : TPlan), []⟩ : TChart)) (.slice (some ⟨b2, 0, none⟩) 1 1) (.slice none 0 0))) G G G row_27 G G<|nl ?_
 exact nx<|rt<|fRG (.slice (some ⟨b2, 0, none⟩) 1 1) [_] (rC 0 G G G row_27) (by rfl) G (Sc 0 G Sn)

theorem snew_c (n : Int) (h_n : InI n) : FnV Tryz.prog 94 [.int .i64 n] [] (.tuple #[.agg (cState (newS n) (.slice none 0 0) (.slice none 0 0) (.slice none 0 0) (.slice none 0 0) (.slice none 0 0) (.slice none 0 0)).toArray, .int .i64 (if okGroup n = true then 0 else 1)]) := by
 refine Fnc.proof Tryz.func94 G 16 G G fun X w => ?_
 obtain ⟨h_n1, h_n2⟩ := id h_n
 refine sq<|rg<|al zero_55 G fun b2 => asg G G<|nl<|nx<|sq<|sq<|rg<|mv G G<|cfv (sgroup_c _ h_n) ok_169 G Sn G<|nt G G<|nl<|nx ?_
 refine cdB G (fun h7 => ?_) (fun h7 => ?_)
 ·
  have q : okGroup n = false := (by simpa using h7)
  exact sq<|rg<|bd (ps := []) (cs := (cState ((⟨0, 0, false, ByteArray.empty, ByteArray.empty, 0, [], [], [], [], [], (⟨0, 0, 0, ByteArray.empty, ByteArray.empty, 0, 0⟩ : TPlan), (⟨0, 0, 0, ByteArray.empty, ByteArray.empty, 0, 0⟩ : TPlan), [], 0, 0, 0⟩ : TState)) (.slice none 0 0) (.slice none 0 0) (.slice none 0 0) (.slice none 0 0) (.slice none 0 0) (.slice none 0 0))) (by rfl) (by kernel_rfl) G<|stW 0 (us := (cState ((⟨0, 0, false, ByteArray.empty, ByteArray.empty, 0, [], [], [], [], [], (⟨0, 0, 0, ByteArray.empty, ByteArray.empty, 0, 0⟩ : TPlan), (⟨0, 0, 0, ByteArray.empty, ByteArray.empty, 0, 0⟩ : TPlan), [], 0, 0, 0⟩ : TState)) (.slice none 0 0) (.slice none 0 0) (.slice none 0 0) (.slice none 0 0) (.slice none 0 0) (.slice none 0 0))) G G G row_55 G G<|asg G G<|nl<|nx<|rt<|tR<|fRG () [_] (rCT 0 G G G G row_55) (by rw [newS, q]; rfl) G Sn
 ·
  have q : okGroup n = true := (by simpa using h7)
  refine sk<|nx<|sq<|rg<|mv G G<|bd (ps := [(0, .tmp 9)]) (cs := (cState ((⟨n, 0, false, ByteArray.empty, ByteArray.empty, 0, [], [], [], [], [], (⟨0, 0, 0, ByteArray.empty, ByteArray.empty, 0, 0⟩ : TPlan), (⟨0, 0, 0, ByteArray.empty, ByteArray.empty, 0, 0⟩ : TPlan), [], 0, 0, 0⟩ : TState)) (.slice none 0 0) (.slice none 0 0) (.slice none 0 0) (.slice none 0 0) (.slice none 0 0) (.slice none 0 0))) (by rfl) (by kernel_rfl) G<|al zero_55 G fun b4 => stW 0 (us := (cState ((⟨n, 0, false, ByteArray.empty, ByteArray.empty, 0, [], [], [], [], [], (⟨0, 0, 0, ByteArray.empty, ByteArray.empty, 0, 0⟩ : TPlan), (⟨0, 0, 0, ByteArray.empty, ByteArray.empty, 0, 0⟩ : TPlan), [], 0, 0, 0⟩ : TState)) (.slice none 0 0) (.slice none 0 0) (.slice none 0 0) (.slice none 0 0) (.slice none 0 0) (.slice none 0 0))) G G G row_55 G G<|nl<|nx<|sq<|sq<|rg<|mv G G ?_
  refine eqI G G G<|nl<|nx<|cdP G (fun h12 => ?_) (fun h12 => ?_)
  ·
   refine sq<|rg<|fa G fld_55_2 G<|stB 0 G G G one_4 G (Nat.lt_of_lt_of_le (Nat.lt_succ_self _) (Nat.le_of_ble_eq_true G))<|nl<|nx<|rg<|fa G fld_55_5 G<|stB 0 G G G one_3 G (Nat.lt_of_lt_of_le (Nat.lt_succ_self _) (Nat.le_of_ble_eq_true G))<|nl<|nx<|sq<|rg<|ldM 0 (cState ((⟨n, 0, true, ByteArray.empty, ByteArray.empty, 1, ([]), ([]), ([]), ([]), ([]), (⟨0, 0, 0, ByteArray.empty, ByteArray.empty, 0, 0⟩ : TPlan), (⟨0, 0, 0, ByteArray.empty, ByteArray.empty, 0, 0⟩ : TPlan), ([]), 0, 0, 0⟩ : TState)) (.slice none 0 0) (.slice none 0 0) (.slice none 0 0) (.slice none 0 0) (.slice none 0 0) (.slice none 0 0)) G G row_55 G G ?_
   exact stW 1 (us := (cState ((⟨n, 0, true, ByteArray.empty, ByteArray.empty, 1, ([]), ([]), ([]), ([]), ([]), (⟨0, 0, 0, ByteArray.empty, ByteArray.empty, 0, 0⟩ : TPlan), (⟨0, 0, 0, ByteArray.empty, ByteArray.empty, 0, 0⟩ : TPlan), ([]), 0, 0, 0⟩ : TState)) (.slice none 0 0) (.slice none 0 0) (.slice none 0 0) (.slice none 0 0) (.slice none 0 0) (.slice none 0 0))) G G G row_55 G G<|asg G G<|nl<|nx<|rt<|fRG () [_, _] (rCT 1 G G G G row_55) (by rw [newS, q, if_pos rfl, if_pos rfl, if_pos rfl]; simp [h12]) G Sn
  ·
   exact sk<|nx<|sq<|rg<|ldM 0 (cState ((⟨n, 0, false, ByteArray.empty, ByteArray.empty, 0, [], [], [], [], [], (⟨0, 0, 0, ByteArray.empty, ByteArray.empty, 0, 0⟩ : TPlan), (⟨0, 0, 0, ByteArray.empty, ByteArray.empty, 0, 0⟩ : TPlan), [], 0, 0, 0⟩ : TState)) (.slice none 0 0) (.slice none 0 0) (.slice none 0 0) (.slice none 0 0) (.slice none 0 0) (.slice none 0 0)) G G row_55 G G<|stW 1 (us := (cState ((⟨n, 0, false, ByteArray.empty, ByteArray.empty, 0, [], [], [], [], [], (⟨0, 0, 0, ByteArray.empty, ByteArray.empty, 0, 0⟩ : TPlan), (⟨0, 0, 0, ByteArray.empty, ByteArray.empty, 0, 0⟩ : TPlan), [], 0, 0, 0⟩ : TState)) (.slice none 0 0) (.slice none 0 0) (.slice none 0 0) (.slice none 0 0) (.slice none 0 0) (.slice none 0 0))) G G G row_55 G G<|asg G G<|nl<|nx<|rt<|fRG () [_, _] (rCT 1 G G G G row_55) (by rw [newS, q]; simp [h12]) G Sn

theorem scene_c (a b : Int) (h_a : InI a) (h_b : InI b) : Fnc Tryz.prog 40 [.int .i64 a, .int .i64 b] [] [] (fun (y : Value × Value) v => v = .tuple #[.agg (cScene (scene1 a b) y.1 (.slice none 0 0) y.2 (.slice none 0 0) (.slice none 0 0)).toArray, .bool true]) (fun _ _ => []) (fun y _ => [⟨y.1, chart1.fPlaces⟩, ⟨y.2, stsN 7⟩]) := by
 refine Fnc.proof Tryz.func40 G 33 G G fun X w => ?_
 obtain ⟨h_a1, h_a2⟩ := id h_a
 obtain ⟨h_b1, h_b2⟩ := id h_b
 refine sq<|rg<|al zero_32 G fun b4 => asg G G<|nl<|nx<|sq<|rg<|mv G G<|mv G G<|cf (pnew_c) ok_93 G Sn G fun y12 v12 h12 => ?_
 have h12 : v12 = .agg (cChart chart1 y12 (.slice none 0 0)).toArray := h12
 subst h12
 refine bd (ps := [(0, .tmp 10), (1, .tmp 11), (2, .tmp 12)]) (cs := (cScene ((⟨a, b, chart1, [], [], []⟩ : TScene)) y12 (.slice none 0 0) (.slice none 0 0) (.slice none 0 0) (.slice none 0 0))) (by rfl) (by kernel_rfl) G<|al zero_32 G fun b6 => gtL (q := y12.oneCell' = true) (fun S w h => oneCell_of_list (h _ (List.mem_of_getElem? (i := 0) G))) fun o_y12 => stW 0 (us := (cScene ((⟨a, b, chart1, [], [], []⟩ : TScene)) y12 (.slice none 0 0) (.slice none 0 0) (.slice none 0 0) (.slice none 0 0))) G G G row_32 (by simp only [List.all_cons, List.all_nil, Bool.and_true, o_y12]; rfl) G<|nl<|nx<|sq<|sq<|rg<|asg G G<|nl<|nx<|bk<|rwC TState 55 ?_
 refine lpE (σ := Nat × Value) [(4, _), (6, _)] _ (fun i C => (7, .int .i64 ((i.1 : Int) + 1)) :: C) (fun i => [row 55 i.2 (stsN i.1), bl b6 32 (cScene (scene1 a b) y12 (.slice none 0 0) i.2 (.slice none 0 0) (.slice none 0 0)), bl b4 32 (cScene zscene (.slice none 0 0) (.slice none 0 0) (.slice none 0 0) (.slice none 0 0) (.slice none 0 0)), fz X w]) (fun _ Dc => Dc) (fun i => i.1 ≤ 7) (fun i => 7 - i.1) (0, (.slice none 0 0)) ⟨G, G, trivial⟩ (Sc 0 G Sn) (by decide) ⟨G, G, G, trivial⟩ G (Sc 0 G Sn) ?_
 rintro ⟨i, rv⟩ hi
 simp only at hi
 refine sq<|sq<|rg<|mv G G<|ltI G G G<|nl<|nx<|cdP G (fun h15 => ?_) (fun h15 => ?_)
 ·
  have hg : okGroup ((i : Int) + 1) = true := (by simp only [okGroup, Bool.and_eq_true, decide_eq_true_eq]; omega)
  refine sk<|nx<|sq<|bk<|sq<|rg<|mv G G<|cfv (snew_c _ (inI (by omega) (by omega))) ok_94 G Sn G<|mv G G<|xt G G G<|xt G G G<|al zero_55 G fun b8 => stW 0 (us := (cState ((newS ((i : Int) + 1))) (.slice none 0 0) (.slice none 0 0) (.slice none 0 0) (.slice none 0 0) (.slice none 0 0) (.slice none 0 0))) G G G row_55 G G<|asg G G ?_
  refine nl<|nx<|sq<|sq<|rg<|mv G G<|neI G G G<|nl<|nx<|cdN G (fun h24 => ?_) (fun h24 => ?_)
  ·
   exact absurd (if_pos hg) h24 --#done
  ·
   refine sk<|nx<|rg<|fa G fld_32_3 G<|ldB 2 G G one_28 G G<|ldM 0 (cState ((newS ((i : Int) + 1))) (.slice none 0 0) (.slice none 0 0) (.slice none 0 0) (.slice none 0 0) (.slice none 0 0) (.slice none 0 0)) G G row_55 G G<|emL (α := TAccount)<|emL (α := TMark)<|emL (α := TWait)<|emL (α := TDeal)<|emL (α := TEnd)<|emL (α := UInt8)<|bsM G app_28 G G G G fun b29 => ?_
   refine frS1 (α := TState) (newS ((i : Int) + 1)) (fun S w h => ⟨((.slice none 0 0), (.slice none 0 0), (.slice none 0 0), (.slice none 0 0), (.slice none 0 0), (.slice none 0 0)), G, fun t ht => by
     simp only [List.mem_cons, List.not_mem_nil, or_false] at ht
     rcases ht with rfl | rfl | rfl | rfl | rfl | rfl
     ·
      exact h _ (List.mem_of_getElem? (i := 5) G)
     ·
      exact h _ (List.mem_of_getElem? (i := 4) G)
     ·
      exact h _ (List.mem_of_getElem? (i := 3) G)
     ·
      exact h _ (List.mem_of_getElem? (i := 2) G)
     ·
      exact h _ (List.mem_of_getElem? (i := 1) G)
     ·
      exact h _ (List.mem_of_getElem? (i := 0) G), newS_wf (inI (by omega) (by omega))⟩) ?_
   refine ap 1 0 G G G G app_28 (by simp only [stsN_len, List.length_cons, List.length_nil]; omega) (by simp only [stsN_len, List.length_cons, List.length_nil]; omega) G fun v30 => fa G fld_32_3 G<|stR 2 1 G G G G one_28 (Nat.lt_of_lt_of_le (Nat.lt_succ_self _) (Nat.le_of_ble_eq_true G))<|nl<|bN<|nx<|rg<|mv G G<|adI G G (inI (by omega) (by omega)) G<|asg G G<|nl<|dpQ ?_
   exact ag ((i + 1, v30) : Nat × Value) (by show i + 1 ≤ 7; omega) (by show 7 - (i + 1) < 7 - i; omega) ⟨G, G, G, trivial⟩ G (Sc 7 G Sn)
 ·
  have e : i = 7 := (by omega)
  subst e
  refine ex<|tE<|tE<|bE<|nx<|sq<|frR<|rg<|ldM 0 (cScene (scene1 a b) y12 (.slice none 0 0) rv (.slice none 0 0) (.slice none 0 0)) G G row_32 G G<|gtL (q := y12.oneCell' = true) (fun S w h => oneCell_of_list (h _ (List.mem_of_getElem? (i := 1) G))) fun o_y12 => gtL (q := rv.oneCell' = true) (fun S w h => oneCell_of_list (h _ (List.mem_of_getElem? (i := 0) G))) fun o_rv => stW 1 (us := (cScene ((scene1 a b)) y12 (.slice none 0 0) rv (.slice none 0 0) (.slice none 0 0))) G G G row_32 (by simp only [List.all_cons, List.all_nil, Bool.and_true, o_y12, o_rv]; rfl) G<|asg G G<|nl ?_
  exact nx<|rt<|fRG (y12, rv) [_, _] (rCT 1 G G G G row_32) (by rfl) G (Sc 1 G (Sc 0 G Sn))

end Go.Proofs.YtmpoffijcfaalaaGreat

/- Walks, written by specs9.py. -/

namespace Go.Proofs.YtmpoffijcfaalaaGreat
open Go.Eng Go.YtmpoffijcfaalaaGreat
set_option maxHeartbeats 1000000

end Go.Proofs.YtmpoffijcfaalaaGreat
