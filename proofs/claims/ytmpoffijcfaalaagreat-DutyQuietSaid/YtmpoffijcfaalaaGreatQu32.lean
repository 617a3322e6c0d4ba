/- Part 32 of the proof of dutyQuiet_holds: DutW11, DutS4, DutF4, DutW12, DutF5. Every text below begins with what it shows. -/
import Derived.Test.YtmpoffijcfaalaaGreatQu31

/- Walks, written by specs2.py. -/

namespace Go.Proofs.YtmpoffijcfaalaaGreat
open Go.Eng Go.YtmpoffijcfaalaaGreat
set_option maxHeartbeats 1000000

theorem sright_c (s : TState) (s_0 s_1 s_2 s_3 s_4 s_5 : Value) (h_s : s.wf) : FnV Tryz.prog 122 [.agg (cState s s_0 s_1 s_2 s_3 s_4 s_5).toArray] [⟨s_0, s.fAccounts⟩, ⟨s_1, s.fMarks⟩, ⟨s_2, s.fWaits⟩, ⟨s_3, s.fDeals⟩, ⟨s_4, s.fEnds⟩, ⟨s_5, s.fImage⟩] (.bool (srightP s)) := by
 refine Fnc.proof Tryz.func122 G 133 G G fun X w => sq<|rg<|bx G G G fun b1 => asg G G<|nl<|nx<|sq<|sq<|rg<|fa G fld_55_0 G<|ldB 0 G G one_3 G G<|cfv (sgroup_c _ h_s.1) ok_169 G Sn G<|nt G G ?_
 refine mv G G ?_
 apply jo [(1, _)] ⟨rfl, trivial⟩
 ·
  intro K25
  refine spO (i := 11) G (fun h11 => ?_) (fun h11 => ?_)
  ·
   refine gY G G G<|fa G fld_55_1 G<|gY G G G<|ldB 0 G G one_3 G G<|gY G G G<|fa G fld_55_5 G<|gY G G G<|ldB 0 G G one_3 G G<|gY G G G<|fa G fld_55_14 G<|gY G G G<|ldB 0 G G one_3 G G<|gY G G G<|fa G fld_55_15 G ?_
   refine gY G G G<|ldB 0 G G one_3 G G<|gY G G G<|fa G fld_55_16 G<|gY G G G<|ldB 0 G G one_3 G G<|gY G G G<|bs1 (xs := [.tmp 13, .tmp 15, .tmp 17, .tmp 19, .tmp 21]) (us := [.int .i64 s.fIndex, .int .i64 s.fEpoch, .int .i64 s.fAbsorbed, .int .i64 s.fRefused, .int .i64 s.fUndone]) (E := 3) (bytes := 8) (n := 5) G (by exact app_220) G G G G G G fun b22 => frS (α := Int) [s.fIndex, s.fEpoch, s.fAbsorbed, s.fRefused, s.fUndone] [[.int .i64 s.fIndex], [.int .i64 s.fEpoch], [.int .i64 s.fAbsorbed], [.int .i64 s.fRefused], [.int .i64 s.fUndone]] G (fun S w h => ⟨⟨G, h_s.2.1⟩, ⟨G, h_s.2.2.2.2.2.1⟩, ⟨G, h_s.2.2.2.2.2.2.2.2.2.2.2.2.2.2.1⟩, ⟨G, h_s.2.2.2.2.2.2.2.2.2.2.2.2.2.2.2.1⟩, ⟨G, h_s.2.2.2.2.2.2.2.2.2.2.2.2.2.2.2.2⟩, trivial⟩) (Nat.le_of_ble_eq_true G)<|gY G G G<|cfv (counts_c _ _) ok_179 G (Sc 0 G Sn) G<|gY G G G<|nt G G<|pkF G G G ?_
   exact jR K25 h11 ⟨G, trivial⟩ (SubD.tail Sr)
  ·
   exact gS (g := [_, _, _, _, _, _, _, _, _, _, _, _, _]) G<|pkT G G G<|jR0 K25 h11 ⟨G, trivial⟩ Sr
 refine mv G G ?_
 apply jo [(1, _)] ⟨rfl, trivial⟩
 ·
  intro K30
  refine spO (i := 26) G (fun h26 => ?_) (fun h26 => ?_)
  ·
   exact gY G G G<|ldM 0 (cState s s_0 s_1 s_2 s_3 s_4 s_5) G G row_55 G G<|gY G G G<|cfv (owned_c _ _ _ _ _ _ _ h_s) ok_180 G (Sc 0 G (Sc 1 G (Sc 2 G (Sc 3 G (Sc 4 G (Sc 5 G Sn)))))) G<|gY G G G<|nt G G<|pkF G G G<|jR K30 h26 ⟨G, trivial⟩ Sr
  ·
   exact gS (g := [_, _, _]) G<|pkT G G G<|jR0 K30 h26 ⟨G, trivial⟩ Sr
 refine mv G G ?_
 apply jo [(1, _)] ⟨rfl, trivial⟩
 ·
  intro K35
  refine spO (i := 31) G (fun h31 => ?_) (fun h31 => ?_)
  ·
   exact gY G G G<|ldM 0 (cState s s_0 s_1 s_2 s_3 s_4 s_5) G G row_55 G G<|gY G G G<|cfv (saccs_c _ _ _ _ _ _ _ h_s) ok_181 G (Sc 0 G (Sc 1 G (Sc 2 G (Sc 3 G (Sc 4 G (Sc 5 G Sn)))))) G<|gY G G G<|nt G G<|pkF G G G<|jR K35 h31 ⟨G, trivial⟩ Sr
  ·
   exact gS (g := [_, _, _]) G<|pkT G G G<|jR0 K35 h31 ⟨G, trivial⟩ Sr
 refine nl<|nx<|cdB G (fun h35 => ?_) (fun h35 => ?_)
 ·
  have e35 : (sright1 s) = true := h35
  refine sq<|rg<|asg G G<|nl<|nx<|rt<|tR<|dpQ ?_
  exact fR1 () G G (by rw [srightP, if_pos e35]) G Sn
 ·
  have e35 : (sright1 s) = false := h35
  refine sk<|nx<|sq<|sq<|rg<|fa G fld_55_7 G<|ldB 0 G G one_25 G G<|cfv (scheck_c _ _) ok_182 G (Sc 1 G Sn) G<|neI G G G<|mv G G ?_
  apply jo [(1, _)] ⟨rfl, trivial⟩
  ·
   intro K45
   refine spO (i := 40) G (fun h40 => ?_) (fun h40 => ?_)
   ·
    have p40 := h40
    simp only [Bool.not_eq_true', Bool.not_eq_false', decide_eq_true_eq, decide_eq_false_iff_not] at p40
    exact gY G G G<|fa G fld_55_9 G<|gY G G G<|ldB 0 G G one_52 G G<|gY G G G<|cfv (deals_c _ _) ok_183 G (Sc 3 G Sn) G<|gY G G G<|neI G G G<|pkF G G G<|jR K45 h40 ⟨G, trivial⟩ Sr
   ·
    exact gS (g := [_, _, _, _]) G<|pkT G G G<|jR0 K45 h40 ⟨G, trivial⟩ Sr
  refine mv G G ?_
  apply jo [(1, _)] ⟨rfl, trivial⟩
  ·
   intro K51
   refine spO (i := 46) G (fun h46 => ?_) (fun h46 => ?_)
   ·
    exact gY G G G<|fa G fld_55_10 G<|gY G G G<|ldB 0 G G one_53 G G<|gY G G G<|cfv (dends_c _ _) ok_184 G (Sc 4 G Sn) G<|gY G G G<|neI G G G<|pkF G G G<|jR K51 h46 ⟨G, trivial⟩ Sr
   ·
    exact gS (g := [_, _, _, _]) G<|pkT G G G<|jR0 K51 h46 ⟨G, trivial⟩ Sr
  refine mv G G ?_
  apply jo [(1, _)] ⟨rfl, trivial⟩
  ·
   intro K57
   refine spO (i := 52) G (fun h52 => ?_) (fun h52 => ?_)
   ·
    exact gY G G G<|fa G fld_55_8 G<|gY G G G<|ldB 0 G G one_51 G G<|gY G G G<|lnP 2 G G Tryz.underlying51 G fun l55 => gY G G G<|gtI G G G<|pkF G G G<|jR K57 h52 ⟨G, trivial⟩ Sr
   ·
    exact gS (g := [_, _, _, _]) G<|pkT G G G<|jR0 K57 h52 ⟨G, trivial⟩ Sr
  refine nl<|nx<|cdB G (fun h57 => ?_) (fun h57 => ?_)
  ·
   have e57 : (sright2 s) = true := h57
   refine sq<|rg<|asg G G<|nl<|nx<|rt<|tR<|dpQ ?_
   exact fR1 () G G (by rw [srightP, if_neg (by rw [e35]; decide), if_pos e57]) G Sn
  ·
   have e57 : (sright2 s) = false := h57
   refine sk<|nx<|sq<|sq<|rg<|fa G fld_55_8 G<|ldB 0 G G one_51 G G<|lnP 2 G G Tryz.underlying51 G fun l60 => mv G G<|nl<|nx<|bk<|lpC (σ := Nat) [(1, _), (59, _), (60, _)] _ (fun i C => (61, .int .i64 (i : Int)) :: C) (fun i => i ≤ s.fWaits.length ∧ (∀ j, j < i → waitP s (s.fWaits.getD j default) = true)) (fun i => s.fWaits.length - i) 0 ⟨G, G, G, trivial⟩ (Sc 0 G (Sc 1 G (Sc 2 G (Sc 3 G (Sc 4 G (Sc 5 G Sn)))))) ⟨Nat.zero_le _, fun j hj => absurd hj (Nat.not_lt_zero j)⟩ ⟨G, G, G, G, trivial⟩ ?_
   rintro i ⟨hi, hall⟩
   refine sq<|rg<|ltI G G G<|nl<|nx<|sq<|cdP G (fun h62 => ?_) (fun h62 => ?_)
   ·
    refine sk<|nx<|sq<|bk<|sq<|rg<|ixP 2 G G G slt_51 (by omega) (getDE (d := default) (by omega)) G fun v63 => ldS 0 G G row_108 G fun q64 w64 => ?_
    refine al zero_108 G fun b4 => stW 0 (us := (cWait ((s.fWaits.getD i default)))) G G G row_108 G G<|nl<|nx<|sq<|rg<|ldM 1 (cState s s_0 s_1 s_2 s_3 s_4 s_5) G G row_55 G G<|ldM 0 (cWait ((s.fWaits.getD i default))) G G row_108 G G<|cfv (waiting_c _ _ _ _ _ _ _ _ h_s w64) ok_185 G (Sc 2 G (Sc 3 G (Sc 4 G (Sc 5 G (Sc 6 G (Sc 7 G Sn)))))) G<|nt G G<|nl<|nx<|cdB G (fun h68 => ?_) (fun h68 => ?_)
    ·
     refine sq<|rg<|asg G G<|nl<|nx<|rt<|bR<|tR<|tR<|bR<|tR<|dpQ<|dpQ ?_
     exact fR1 () G G (by rw [srightP, if_neg (by rw [e35]; decide), if_neg (by rw [e57]; decide), if_neg (by rw [srightW, allI_false i (by omega) (by simpa using h68)]; decide)]) G Sn
    ·
     refine sk<|bN<|nx<|rg<|adI G G (inI (by omega) (by omega)) G<|mv G G<|nl<|dpQ ?_
     exact ag (i + 1) ⟨(by omega), (all_snoc hall (by simpa using h68))⟩ (by omega) ⟨G, G, G, G, trivial⟩ G (Sc 2 G (Sc 3 G (Sc 4 G (Sc 5 G (Sc 6 G (Sc 7 G Sn))))))
   ·
    have eW : srightW s = true := allI_true (fun j hj => hall j (by omega))
    refine ex<|tE<|tE<|bE<|nx<|sq<|sq<|rg<|fa G fld_55_11 G<|ldM 0 (cPlan s.fSeal) G G row_24 G G<|bd (ps := []) (cs := (cPlan ((⟨0, 0, 0, ByteArray.empty, ByteArray.empty, 0, 0⟩ : TPlan)))) (by rfl) (by kernel_rfl) G<|neT eq_Plan (s.fSeal) ((⟨0, 0, 0, ByteArray.empty, ByteArray.empty, 0, 0⟩ : TPlan)) G G G<|mv G G ?_
    apply jo [(1, _)] ⟨rfl, trivial⟩
    ·
     intro K103
     refine spA (i := 74) G (fun h74 => ?_) (fun h74 => ?_)
     ·
      have p74 := h74
      simp only [Bool.not_eq_true', Bool.not_eq_false', decide_eq_true_eq, decide_eq_false_iff_not] at p74
      refine gY G G G<|fa G fld_55_11 G<|gY G G G<|ldM 0 (cPlan s.fSeal) G G row_24 G G<|gY G G G<|cfv (planned_c _ h_s.2.2.2.2.2.2.2.2.2.2.2.1) ok_186 G Sn G<|gY G G G<|nt G G<|gY G G G<|mv G G ?_
      apply jo [(1, _), (74, _)] ⟨rfl, rfl, trivial⟩
      ·
       intro K86
       refine spO (i := 79) G (fun h79 => ?_) (fun h79 => ?_)
       ·
        refine gY G G G<|fa G fld_55_11 G<|gY G G G<|fa G fld_24_1 G<|gY G G G<|ldB 0 G G one_3 G G<|gY G G G<|fa G fld_55_0 G<|gY G G G<|ldB 0 G G one_3 G G<|gY G G G<|neI G G G<|gY G G G<|pkF G G G ?_
        exact jR K86 h79 ⟨G, G, trivial⟩ Sr
       ·
        exact gS (g := [_, _, _, _, _, _]) G<|gY G G G<|pkT G G G<|jR0 K86 h79 ⟨G, G, trivial⟩ Sr
      refine gY G G G<|mv G G ?_
      apply jo [(1, _), (74, _)] ⟨rfl, rfl, trivial⟩
      ·
       intro K94
       refine spO (i := 87) G (fun h87 => ?_) (fun h87 => ?_)
       ·
        refine gY G G G<|fa G fld_55_11 G<|gY G G G<|fa G fld_24_4 G<|gY G G G<|ldB 0 G G one_9 G G<|gY G G G<|fa G fld_55_4 G<|gY G G G<|ldB 0 G G one_9 G G<|gY G G G<|neS G G G<|gY G G G<|pkF G G G ?_
        exact jR K94 h87 ⟨G, G, trivial⟩ Sr
       ·
        exact gS (g := [_, _, _, _, _, _]) G<|gY G G G<|pkT G G G<|jR0 K94 h87 ⟨G, G, trivial⟩ Sr
      refine gY G G G<|mv G G ?_
      apply jo [(1, _), (74, _)] ⟨rfl, rfl, trivial⟩
      ·
       intro K102
       refine spO (i := 95) G (fun h95 => ?_) (fun h95 => ?_)
       ·
        refine gY G G G<|ldM 0 (cState s s_0 s_1 s_2 s_3 s_4 s_5) G G row_55 G G<|gY G G G<|fa G fld_55_11 G<|gY G G G<|fa G fld_24_3 G<|gY G G G<|ldB 0 G G one_9 G G<|gY G G G<|cfv (owns_c _ _ _ _ _ _ _ _ h_s) ok_78 G (Sc 0 G (Sc 1 G (Sc 2 G (Sc 3 G (Sc 4 G (Sc 5 G Sn)))))) G<|gY G G G<|nt G G<|gY G G G<|pkF G G G ?_
        exact jR K102 h95 ⟨G, G, trivial⟩ Sr
       ·
        exact gS (g := [_, _, _, _, _, _]) G<|gY G G G<|pkT G G G<|jR0 K102 h95 ⟨G, G, trivial⟩ Sr
      exact pkT G G G<|jA K103 h74 ⟨G, trivial⟩ Sr
     ·
      exact gS (g := [_, _, _, _, _, _, _, _, _, _, _, _, _, _, _, _, _, _, _, _, _, _, _, _, _, _, _, _]) G<|pkF G G G<|jA0 K103 h74 ⟨G, trivial⟩ Sr
    refine nl<|nx<|cdB G (fun h103 => ?_) (fun h103 => ?_)
    ·
     have e103 : (sright3 s) = true := h103
     refine sq<|rg<|asg G G<|nl<|nx<|rt<|tR<|dpQ ?_
     exact fR1 () G G (by rw [srightP, if_neg (by rw [e35]; decide), if_neg (by rw [e57]; decide), if_pos eW, e103]; first | (rw [e107]; try rfl) | (try rfl)) G Sn
    ·
     have e103 : (sright3 s) = false := h103
     refine sk<|nx<|sq<|sq<|rg<|fa G fld_55_12 G<|ldM 0 (cPlan s.fOut) G G row_24 G G<|bd (ps := []) (cs := (cPlan ((⟨0, 0, 0, ByteArray.empty, ByteArray.empty, 0, 0⟩ : TPlan)))) (by rfl) (by kernel_rfl) G<|eqT eq_Plan (s.fOut) ((⟨0, 0, 0, ByteArray.empty, ByteArray.empty, 0, 0⟩ : TPlan)) G G G<|nl<|nx<|cdP G (fun h107 => ?_) (fun h107 => ?_)
     ·
      have e107 : (decide (s.fOut = ⟨0, 0, 0, ByteArray.empty, ByteArray.empty, 0, 0⟩)) = true := (decide_eq_true h107)
      refine sq<|rg<|fa G fld_55_13 G<|ldB 0 G G one_35 G G<|lnP 5 G G Tryz.underlying35 G fun l110 => eqI G G G<|asg G G<|nl<|nx<|rt<|tR<|dpQ ?_
      exact fR1 () G G (by rw [srightP, if_neg (by rw [e35]; decide), if_neg (by rw [e57]; decide), if_pos eW, e103]; first | (rw [e107]; try rfl) | (try rfl)) G Sn
     ·
      have e107 : (decide (s.fOut = ⟨0, 0, 0, ByteArray.empty, ByteArray.empty, 0, 0⟩)) = false := (decide_eq_false h107)
      refine sk<|nx<|sq<|rg<|fa G fld_55_13 G<|ldB 0 G G one_35 G G<|cf (rs_c _ _) ok_159 G (Sc 5 G Sn) G fun y115 v115 h115 => ?_
      obtain ⟨y115_0, y115_1, y115_2, y115_3, y115_4, y115_5⟩ := y115
      replace h115 : v115 = .tuple #[.agg (cState (rdState _).1 y115_0 y115_1 y115_2 y115_3 y115_4 y115_5).toArray, .int .i64 (rdState _).2] := h115
      subst h115
      refine mv G G<|xt G G G<|xt G G G<|al zero_55 G fun b5 => gtL (q := y115_0.oneCell' = true) (fun S w h => oneCell_of_list (h _ (List.mem_of_getElem? (i := 0) G))) fun o_y115_0 => gtL (q := y115_1.oneCell' = true) (fun S w h => oneCell_of_list (h _ (List.mem_of_getElem? (i := 1) G))) fun o_y115_1 => gtL (q := y115_2.oneCell' = true) (fun S w h => oneCell_of_list (h _ (List.mem_of_getElem? (i := 2) G))) fun o_y115_2 => gtL (q := y115_3.oneCell' = true) (fun S w h => oneCell_of_list (h _ (List.mem_of_getElem? (i := 3) G))) fun o_y115_3 => gtL (q := y115_4.oneCell' = true) (fun S w h => oneCell_of_list (h _ (List.mem_of_getElem? (i := 4) G))) fun o_y115_4 => gtL (q := y115_5.oneCell' = true) (fun S w h => oneCell_of_list (h _ (List.mem_of_getElem? (i := 5) G))) fun o_y115_5 => stW 0 (us := (cState ((rdState s.fImage).1) y115_0 y115_1 y115_2 y115_3 y115_4 y115_5)) G G G row_55 (by simp only [List.all_cons, List.all_nil, Bool.and_true, o_y115_0, o_y115_1, o_y115_2, o_y115_3, o_y115_4, o_y115_5]; rfl) G<|asg G G<|nl<|nx ?_
      refine sq<|rg<|fa G fld_55_12 G<|ldM 1 (cPlan s.fOut) G G row_24 G G<|cfv (planned_c _ h_s.2.2.2.2.2.2.2.2.2.2.2.2.1) ok_186 G Sn G<|mv G G ?_
      apply jo [(6, _)] ⟨rfl, trivial⟩
      ·
       intro K128
       refine spA (i := 121) G (fun h121 => ?_) (fun h121 => ?_)
       ·
        exact gY G G G<|fa G fld_55_12 G<|gY G G G<|fa G fld_24_1 G<|gY G G G<|ldB 1 G G one_3 G G<|gY G G G<|fa G fld_55_0 G<|gY G G G<|ldB 1 G G one_3 G G<|gY G G G<|eqI G G G<|pkT G G G<|jA K128 h121 ⟨G, trivial⟩ Sr
       ·
        exact gS (g := [_, _, _, _, _, _]) G<|pkF G G G<|jA0 K128 h121 ⟨G, trivial⟩ Sr
      refine mv G G ?_
      apply jo [] trivial
      ·
       intro K132
       refine spA (i := 129) G (fun h129 => ?_) (fun h129 => ?_)
       ·
        exact gY G G G<|mv G G<|gY G G G<|eqI G G G<|pkT G G G<|jA K132 h129 trivial Sr
       ·
        exact gS (g := [_, _]) G<|pkF G G G<|jA0 K132 h129 trivial Sr
      refine asg G G<|nl<|nx<|rt<|dpQ<|dpQ ?_
      exact fR1 () G G (by rw [srightP, if_neg (by rw [e35]; decide), if_neg (by rw [e57]; decide), if_pos eW, e103]; first | (rw [e107]; try rfl) | (try rfl)) G Sn

theorem shcheck_c (s : TState) (s_0 s_1 s_2 s_3 s_4 s_5 : Value) (h_s : s.wf) : FnV Tryz.prog 57 [.agg (cState s s_0 s_1 s_2 s_3 s_4 s_5).toArray] [⟨s_0, s.fAccounts⟩, ⟨s_1, s.fMarks⟩, ⟨s_2, s.fWaits⟩, ⟨s_3, s.fDeals⟩, ⟨s_4, s.fEnds⟩, ⟨s_5, s.fImage⟩] (.int .i64 (errF (srightP s))) := by
 refine Fnc.proof Tryz.func57 G 6 G G fun X w => sq<|rg<|bx G G G fun b1 => asg G G<|nl<|nx<|sq<|sq<|rg<|ldM 0 (cState s s_0 s_1 s_2 s_3 s_4 s_5) G G row_55 G G<|cfv (sright_c _ _ _ _ _ _ _ h_s) ok_122 G (Sc 0 G (Sc 1 G (Sc 2 G (Sc 3 G (Sc 4 G (Sc 5 G Sn)))))) G<|nt G G<|nl ?_
 refine nx<|cdB G (fun h5 => ?_) (fun h5 => ?_)
 ·
  refine sq<|rg<|asg G G<|nl<|nx<|rt<|tR<|dpQ ?_
  exact fR1 () G G (by rw [errF, if_neg (by have q := h5; rw [Bool.not_eq_true'] at q; rw [q]; decide)]) G Sn
 ·
  refine sk<|nx<|sq<|rg<|asg G G<|nl<|nx<|rt<|dpQ ?_
  exact fR1 () G G (by rw [errF, if_pos (by have q := h5; rw [Bool.not_eq_false'] at q; exact q)]) G Sn

theorem dright_c (v : TScene) (v_0 v_1 v_2 v_3 v_4 : Value) (h_v : v.wf) : FnV Tryz.prog 17 [.agg (cScene v v_0 v_1 v_2 v_3 v_4).toArray] [⟨v_0, v.fChart.fPlaces⟩, ⟨v_1, v.fChart.fMarks⟩, ⟨v_2, v.fStates⟩, ⟨v_3, v.fRights⟩, ⟨v_4, v.fAges⟩] (.bool (drightP v)) := by
 refine Fnc.proof Tryz.func17 G 65 G G fun X w => sq<|rg<|bx G G G fun b1 => asg G G<|nl<|nx<|sq<|sq<|rg<|fa G fld_32_1 G<|ldB 0 G G one_3 G G<|neI G G G<|mv G G ?_
 apply jo [(1, _)] ⟨rfl, trivial⟩
 ·
  intro K12
  refine spA (i := 8) G (fun h8 => ?_) (fun h8 => ?_)
  ·
   have p8 := h8
   simp only [Bool.not_eq_true', Bool.not_eq_false', decide_eq_true_eq, decide_eq_false_iff_not] at p8
   exact gY G G G<|fa G fld_32_1 G<|gY G G G<|ldB 0 G G one_3 G G<|gY G G G<|neI G G G<|pkT G G G<|jA K12 h8 ⟨G, trivial⟩ Sr
  ·
   exact gS (g := [_, _, _]) G<|pkF G G G<|jA0 K12 h8 ⟨G, trivial⟩ Sr
 refine mv G G ?_
 apply jo [(1, _)] ⟨rfl, trivial⟩
 ·
  intro K17
  refine spA (i := 13) G (fun h13 => ?_) (fun h13 => ?_)
  ·
   exact gY G G G<|fa G fld_32_1 G<|gY G G G<|ldB 0 G G one_3 G G<|gY G G G<|neI G G G<|pkT G G G<|jA K17 h13 ⟨G, trivial⟩ Sr
  ·
   exact gS (g := [_, _, _]) G<|pkF G G G<|jA0 K17 h13 ⟨G, trivial⟩ Sr
 refine mv G G ?_
 apply jo [(1, _)] ⟨rfl, trivial⟩
 ·
  intro K22
  refine spO (i := 18) G (fun h18 => ?_) (fun h18 => ?_)
  ·
   exact gY G G G<|fa G fld_32_0 G<|gY G G G<|ldB 0 G G one_3 G G<|gY G G G<|ltI G G G<|pkF G G G<|jR K22 h18 ⟨G, trivial⟩ Sr
  ·
   exact gS (g := [_, _, _]) G<|pkT G G G<|jR0 K22 h18 ⟨G, trivial⟩ Sr
 refine mv G G ?_
 apply jo [(1, _)] ⟨rfl, trivial⟩
 ·
  intro K29
  refine spO (i := 23) G (fun h23 => ?_) (fun h23 => ?_)
  ·
   exact gY G G G<|fa G fld_32_0 G<|gY G G G<|ldB 0 G G one_3 G G<|gY G G G<|fa G fld_32_1 G<|gY G G G<|ldB 0 G G one_3 G G<|gY G G G<|gtI G G G<|pkF G G G<|jR K29 h23 ⟨G, trivial⟩ Sr
  ·
   exact gS (g := [_, _, _, _, _]) G<|pkT G G G<|jR0 K29 h23 ⟨G, trivial⟩ Sr
 refine mv G G ?_
 apply jo [(1, _)] ⟨rfl, trivial⟩
 ·
  intro K35
  refine spO (i := 30) G (fun h30 => ?_) (fun h30 => ?_)
  ·
   exact gY G G G<|fa G fld_32_3 G<|gY G G G<|ldB 0 G G one_28 G G<|gY G G G<|lnP 2 G G Tryz.underlying28 G fun l33 => gY G G G<|neI G G G<|pkF G G G<|jR K35 h30 ⟨G, trivial⟩ Sr
  ·
   exact gS (g := [_, _, _, _]) G<|pkT G G G<|jR0 K35 h30 ⟨G, trivial⟩ Sr
 refine nl<|nx<|cdB G (fun h35 => ?_) (fun h35 => ?_)
 ·
  have e35 : (dright1 v) = true := h35
  refine sq<|rg<|asg G G<|nl<|nx<|rt<|tR<|dpQ ?_
  exact fR1 () G G (by rw [drightP, if_pos e35]) G Sn
 ·
  have e35 : (dright1 v) = false := h35
  refine sk<|nx<|sq<|sq<|rg<|fa G fld_32_3 G<|ldB 0 G G one_28 G G<|lnP 2 G G Tryz.underlying28 G fun l38 => mv G G<|nl<|nx<|bk<|lpC (σ := Nat) [(1, _), (37, _), (38, _)] _ (fun i C => (39, .int .i64 (i : Int)) :: C) (fun i => i ≤ v.fStates.length ∧ (∀ j, j < i → (!drightj v j) = true)) (fun i => v.fStates.length - i) 0 ⟨G, G, G, trivial⟩ (Sc 0 G (Sc 1 G (Sc 2 G (Sc 3 G (Sc 4 G Sn))))) ⟨Nat.zero_le _, fun j hj => absurd hj (Nat.not_lt_zero j)⟩ ⟨G, G, G, G, trivial⟩ ?_
  rintro i ⟨hi, hall⟩
  refine sq<|rg<|ltI G G G<|nl<|nx<|sq<|cdP G (fun h40 => ?_) (fun h40 => ?_)
  ·
   refine sk<|nx<|sq<|bk<|sq<|rg<|mv G G<|ixP 2 G G G slt_28 (by omega) (getDE (d := default) (by omega)) G fun v42 => ldS 0 G G row_55 G fun q43 w43 => ?_
   obtain ⟨q43_0, q43_1, q43_2, q43_3, q43_4, q43_5⟩ := q43
   refine al zero_55 G fun b4 => asg G G<|gtL (q := q43_0.oneCell' = true) (fun S w h => oneCell_of_list (h _ (List.mem_of_getElem? (i := 1) G))) fun o_q43_0 => gtL (q := q43_1.oneCell' = true) (fun S w h => oneCell_of_list (h _ (List.mem_of_getElem? (i := 2) G))) fun o_q43_1 => gtL (q := q43_2.oneCell' = true) (fun S w h => oneCell_of_list (h _ (List.mem_of_getElem? (i := 3) G))) fun o_q43_2 => gtL (q := q43_3.oneCell' = true) (fun S w h => oneCell_of_list (h _ (List.mem_of_getElem? (i := 4) G))) fun o_q43_3 => gtL (q := q43_4.oneCell' = true) (fun S w h => oneCell_of_list (h _ (List.mem_of_getElem? (i := 5) G))) fun o_q43_4 => gtL (q := q43_5.oneCell' = true) (fun S w h => oneCell_of_list (h _ (List.mem_of_getElem? (i := 6) G))) fun o_q43_5 => stW 0 (us := (cState ((v.fStates.getD i default)) q43_0 q43_1 q43_2 q43_3 q43_4 q43_5)) G G G row_55 (by simp only [List.all_cons, List.all_nil, Bool.and_true, o_q43_0, o_q43_1, o_q43_2, o_q43_3, o_q43_4, o_q43_5]; rfl) G<|nl<|nx<|sq<|rg<|fa G fld_55_0 G ?_
   refine ldB 0 G G one_3 G G<|mv G G<|adI G G (inI (by omega) (by omega)) G<|neI G G G<|mv G G ?_
   apply jo [(1, _), (37, _), (38, _), (39, _)] ⟨rfl, rfl, rfl, rfl, trivial⟩
   ·
    intro K53
    refine spO (i := 49) G (fun h49 => ?_) (fun h49 => ?_)
    ·
     have p49 := h49
     simp only [Bool.not_eq_true', Bool.not_eq_false', decide_eq_true_eq, decide_eq_false_iff_not] at p49
     exact gY G G G<|ldM 0 (cState ((v.fStates.getD i default)) q43_0 q43_1 q43_2 q43_3 q43_4 q43_5) G G row_55 G G<|gY G G G<|cfv (shcheck_c _ _ _ _ _ _ _ w43) ok_57 G (Sc 1 G (Sc 2 G (Sc 3 G (Sc 4 G (Sc 5 G (Sc 6 G Sn)))))) G<|gY G G G<|neI G G G<|pkF G G G<|jR K53 h49 ⟨G, G, G, G, trivial⟩ Sr
    ·
     exact gS (g := [_, _, _]) G<|pkT G G G<|jR0 K53 h49 ⟨G, G, G, G, trivial⟩ Sr
   refine nl<|nx<|cdB G (fun h53 => ?_) (fun h53 => ?_)
   ·
    refine sq<|rg<|asg G G<|nl<|nx<|rt<|bR<|tR<|tR<|bR<|tR<|dpQ<|dpQ ?_
    exact fR1 () G G (by rw [drightP, if_neg (by rw [e35]; decide), if_neg (by rw [allI_false i (by omega) (not_t h53)]; decide)]) G Sn
   ·
    refine sk<|bN<|nx<|rg<|adI G G (inI (by omega) (by omega)) G<|mv G G<|nl<|dpQ ?_
    exact ag (i + 1) ⟨(by omega), (all_snoc hall (not_f h53))⟩ (by omega) ⟨G, G, G, G, trivial⟩ G (Sc 8 G (Sc 9 G (Sc 10 G (Sc 11 G (Sc 12 G Sn)))))
  ·
   refine ex<|tE<|tE<|bE<|nx<|sq<|rg<|fa G fld_32_2 G<|ldM 0 (cChart v.fChart v_0 v_1) G G row_27 G G<|cfv (pcheck_c _ _ _ h_v.2.2.1) ok_58 G (Sc 0 G (Sc 1 G Sn)) G<|eqI G G G<|mv G G ?_
   apply jo [] trivial
   ·
    intro K64
    refine spA (i := 59) G (fun h59 => ?_) (fun h59 => ?_)
    ·
     have p59 := of_decide_eq_true h59
     exact gY G G G<|fa G fld_32_4 G<|gY G G G<|ldB 0 G G one_29 G G<|gY G G G<|cfv (lcheck_c _ _) ok_59 G (Sc 3 G Sn) G<|gY G G G<|eqI G G G<|pkT G G G<|jA K64 h59 trivial Sr
    ·
     exact gS (g := [_, _, _, _]) G<|pkF G G G<|jA0 K64 h59 trivial Sr
   refine asg G G<|nl<|nx<|rt<|dpQ ?_
   exact fR1 () G G (by rw [drightP, if_neg (by rw [e35]; decide), if_pos (allI_true (fun j hj => hall j (by omega)))]) G Sn
end Go.Proofs.YtmpoffijcfaalaaGreat

/- Whole numbers of 128 bits. No program. -/

namespace Go.YtmpoffijcfaalaaGreat
open Go.Eng

structure TWide where
  fHi : Int
  fLo : Int
  deriving DecidableEq, Inhabited
@[reducible] def cWide (x : TWide) : List Value := [.int .i64 x.fHi, .int .u64 x.fLo]
@[reducible] def wide (S : Int) : TWide := ⟨S / 18446744073709551616, S % 18446744073709551616⟩
def BW (S : Int) : Prop := -1329227995784915872903807060280344576 ≤ S ∧ S ≤ 1329227995784915872903807060280344576
def BV (S : Int) : Prop := -1298074214633706907132624082305024 ≤ S ∧ S ≤ 1298074214633706907132624082305024
theorem BV.w {S : Int} (h : BV S) : BW S := by unfold BV at h; unfold BW; omega
theorem wideN {S n : Int} (h : n < 0) (hn : InI n) : (⟨S / 18446744073709551616 + (S % 18446744073709551616 + n % 18446744073709551616 + 0) / 18446744073709551616 - 1, (S % 18446744073709551616 + n % 18446744073709551616 + 0) % 18446744073709551616⟩ : TWide) = wide (S + n) := by
  obtain ⟨h1, h2⟩ := hn
  simp only [wide, TWide.mk.injEq]
  omega
theorem wideP {S n : Int} (h : ¬ n < 0) (hn : InI n) : (⟨S / 18446744073709551616 + (S % 18446744073709551616 + n % 18446744073709551616 + 0) / 18446744073709551616, (S % 18446744073709551616 + n % 18446744073709551616 + 0) % 18446744073709551616⟩ : TWide) = wide (S + n) := by
  obtain ⟨h1, h2⟩ := hn
  simp only [wide, TWide.mk.injEq]
  omega
theorem wide_eq {x y : TWide} (h : x = y) : Value.agg (cWide x).toArray = Value.agg (cWide y).toArray := by rw [h]

theorem cplI {x : Int} (h : InI x) : bitV .xor .i64 (if IntKind.i64.signed then -1 else IntKind.i64.max) x = -x - 1 := by
  obtain ⟨h1, h2⟩ := h
  have e : (BitVec.ofInt 64 (-1) ^^^ BitVec.ofInt 64 x) = BitVec.ofInt 64 (-x - 1) := by
    have a : BitVec.ofInt 64 (-1) = BitVec.allOnes 64 := by decide
    rw [a, BitVec.allOnes_xor]
    have : BitVec.ofInt 64 (-x - 1) = ~~~ BitVec.ofInt 64 x := by
      apply BitVec.eq_of_toInt_eq
      rw [BitVec.toInt_not, BitVec.toInt_ofInt]
      have t : (BitVec.ofInt 64 x).toNat = (x % 2 ^ 64).toNat := by simp [BitVec.toNat_ofInt]
      rw [t]
      simp only [Int.bmod]
      omega
    rw [this]
  show IntKind.i64.wrap _ = _
  have : ∀ y : Int, InI y → IntKind.i64.wrap ((BitVec.ofInt 64 y).toNat : Int) = y := by
    intro y hy
    obtain ⟨h3, h4⟩ := hy
    have t : (BitVec.ofInt 64 y).toNat = (y % 2 ^ 64).toNat := by simp [BitVec.toNat_ofInt]
    rw [t, wrapi]
    omega
  rw [← this (-x - 1) ⟨by omega, by omega⟩, ← e]
  rfl
def aboveP (S n : Int) : Bool := decide (S - n > 0)
theorem above_w {S n : Int} (hS : BW S) (hn : InI n) : (decide ((S - n) / 18446744073709551616 > 0) || (decide ((S - n) / 18446744073709551616 = 0) && decide ((S - n) % 18446744073709551616 > 0))) = decide (S - n > 0) := by
  rw [Bool.eq_iff_iff]
  simp only [Bool.or_eq_true, Bool.and_eq_true, decide_eq_true_eq]
  omega
theorem int_w {S : Int} (hS : BW S) : ((decide (S / 18446744073709551616 = 0) && decide (S % 18446744073709551616 < 9223372036854775808)) || (decide (S / 18446744073709551616 = -1) && decide (S % 18446744073709551616 ≥ 9223372036854775808))) = sumOk S := by
  rw [Bool.eq_iff_iff]
  simp only [sumOk, Bool.or_eq_true, Bool.and_eq_true, decide_eq_true_eq]
  omega
theorem sum_BW {l : List Int} (h : allIn l) (hl : l.length ≤ 1000) : ∀ i, i ≤ l.length → -((i : Int) * 9223372036854775808) ≤ (l.take i).sum ∧ (l.take i).sum ≤ (i : Int) * 9223372036854775808 := by
  intro i
  induction i with
  | zero => simp
  | succ i ih =>
    intro hi
    have hs := sum_take (l := l) (i := i) (by omega)
    obtain ⟨a1, a2⟩ := ih (by omega)
    obtain ⟨x1, x2⟩ := getD_InI h (i := i) (by omega)
    rw [hs]
    omega
end Go.YtmpoffijcfaalaaGreat

/- Closed facts on the program, written by specs2.py. -/

namespace Go.Proofs.YtmpoffijcfaalaaGreat
open Go.Eng

theorem fld_211_0 : FieldAt Tryz.prog 211 0 0 := FieldAt.mk Tryz.underlying211 rfl (by kernel_rfl) rfl
theorem fld_211_1 : FieldAt Tryz.prog 211 1 1 := FieldAt.mk Tryz.underlying211 rfl (by kernel_rfl) rfl
theorem ok_211 : FnOk Tryz.prog 211 := ⟨⟨_, Tryz.func211, by kernel_rfl, rfl⟩⟩
theorem ok_229 : FnOk Tryz.prog 229 := ⟨⟨_, Tryz.func229, by kernel_rfl, rfl⟩⟩
theorem one_2 : OneTy Tryz.prog 2 := ⟨⟨_, Tryz.underlying2, rfl⟩, by kernel_rfl⟩
theorem one_209 : OneTy Tryz.prog 209 := ⟨⟨_, Tryz.underlying209, rfl⟩, by kernel_rfl⟩
theorem row_211 : RowTy Tryz.prog 211 2 := ⟨⟨_, Tryz.underlying211, rfl⟩, by kernel_rfl⟩
theorem zero_211 : ZeroOf Tryz.prog 211 [.int .i64 0, .int .u64 0] := ZeroOf.mk (by kernel_rfl)
end Go.Proofs.YtmpoffijcfaalaaGreat

/- Walks, written by specs2.py. -/

namespace Go.Proofs.YtmpoffijcfaalaaGreat
open Go.Eng Go.YtmpoffijcfaalaaGreat
set_option maxHeartbeats 1000000

theorem plus_c (S : Int) (n : Int) (hS : BW S) (h_n : InI n) : FnV Tryz.prog 211 [.agg (cWide (wide S)).toArray, .int .i64 n] [] (.agg (cWide (wide (S + n))).toArray) := by
 refine Fnc.proof Tryz.func211 G 28 G G fun X w => ?_
 obtain ⟨h_n1, h_n2⟩ := id h_n
 obtain ⟨hS1, hS2⟩ := id hS
 refine sq<|rg<|bx G G G fun b2 => al zero_211 G fun b4 => nl<|nx<|sq<|rg<|fa G fld_211_1 G<|ldB 1 G G one_209 G G<|mv G G<|cv Tryz.underlying3 Tryz.underlying209 G (wrapu _) G ?_
 have hx13 := fun w => add64_ok (P := Tryz.prog) (S % 18446744073709551616) (n % 18446744073709551616) 0 (by omega) (by omega) (by omega) (by omega) w
 refine cx ext_222 hx13 G G<|mv G G<|xt G G G<|xt G G G<|asg G G<|asg G G<|nl<|nx<|sq<|rg<|fa G fld_211_0 G<|ldB 1 G G one_2 G G<|mv G G<|cv Tryz.underlying209 Tryz.underlying2 G (wrap_i64_in (inI (by omega) (by omega))) G ?_
 refine adI G G (show InI (S / 18446744073709551616 + ((S % 18446744073709551616 + n % 18446744073709551616 + 0) / 18446744073709551616)) from inI (by omega) (by omega)) G<|asg G G<|nl<|nx<|sq<|sq<|rg<|mv G G<|ltI G G G<|nl<|nx<|cdP G (fun h22 => ?_) (fun h22 => ?_)
 ·
  refine rg<|mv G G<|sbI G G (show InI (S / 18446744073709551616 + ((S % 18446744073709551616 + n % 18446744073709551616 + 0) / 18446744073709551616) - 1) from inI (by omega) (by omega)) G<|asg G G<|nl<|nx<|sq<|rg<|mv G G<|mv G G<|bd (ps := [(0, .tmp 25), (1, .tmp 26)]) (cs := (cWide ((⟨(S / 18446744073709551616 + ((S % 18446744073709551616 + n % 18446744073709551616 + 0) / 18446744073709551616) - 1), ((S % 18446744073709551616 + n % 18446744073709551616 + 0) % 18446744073709551616)⟩ : TWide)))) (by rfl) (by kernel_rfl) G<|stW 0 (us := (cWide ((⟨(S / 18446744073709551616 + ((S % 18446744073709551616 + n % 18446744073709551616 + 0) / 18446744073709551616) - 1), ((S % 18446744073709551616 + n % 18446744073709551616 + 0) % 18446744073709551616)⟩ : TWide)))) G G G row_211 G G<|nl<|nx ?_
  exact rt<|fRG () [_, _] (rC 0 G G G row_211) (by exact wide_eq (wideN h22 h_n)) G Sn
 ·
  exact sk<|nx<|sq<|rg<|mv G G<|mv G G<|bd (ps := [(0, .tmp 25), (1, .tmp 26)]) (cs := (cWide ((⟨(S / 18446744073709551616 + ((S % 18446744073709551616 + n % 18446744073709551616 + 0) / 18446744073709551616)), ((S % 18446744073709551616 + n % 18446744073709551616 + 0) % 18446744073709551616)⟩ : TWide)))) (by rfl) (by kernel_rfl) G<|stW 0 (us := (cWide ((⟨(S / 18446744073709551616 + ((S % 18446744073709551616 + n % 18446744073709551616 + 0) / 18446744073709551616)), ((S % 18446744073709551616 + n % 18446744073709551616 + 0) % 18446744073709551616)⟩ : TWide)))) G G G row_211 G G<|nl<|nx<|rt<|fRG () [_, _] (rC 0 G G G row_211) (by exact wide_eq (wideP h22 h_n)) G Sn

theorem less_c (S : Int) (n : Int) (hS : BV S) (h_n : InI n) : FnV Tryz.prog 229 [.agg (cWide (wide S)).toArray, .int .i64 n] [] (.agg (cWide (wide (S - n))).toArray) := by
 refine Fnc.proof Tryz.func229 G 10 G G fun X w => ?_
 obtain ⟨h_n1, h_n2⟩ := id h_n
 obtain ⟨hS1, hS2⟩ := id hS
 refine sq<|rg<|bx G G G fun b2 => al zero_211 G fun b4 => nl<|nx<|sq<|rg<|ldM 1 (cWide ((wide S))) G G row_211 G G<|mv G G<|cpW G (cplI h_n) G<|cfv (plus_c S (-n - 1) hS.w (inI (by omega) (by omega))) ok_211 G Sn G<|cfv (plus_c (S + (-n - 1)) 1 (by unfold BW; omega) (inI (by omega) (by omega))) ok_211 G Sn G<|stW 0 (us := (cWide ((wide (S + (-n - 1) + 1))))) G G G row_211 G G ?_
 exact nl<|nx<|rt<|fRG () [_, _] (rC 0 G G G row_211) (by exact wide_eq (congrArg wide (by omega))) G Sn

theorem above_c (S : Int) (n : Int) (hS : BV S) (h_n : InI n) : FnV Tryz.prog 228 [.agg (cWide (wide S)).toArray, .int .i64 n] [] (.bool (aboveP S n)) := by
 refine Fnc.proof Tryz.func228 G 22 G G fun X w => ?_
 obtain ⟨h_n1, h_n2⟩ := id h_n
 obtain ⟨hS1, hS2⟩ := id hS
 refine sq<|rg<|bx G G G fun b2 => asg G G<|nl<|nx<|sq<|rg<|ldM 0 (cWide ((wide S))) G G row_211 G G<|mv G G<|cfv (less_c S n hS h_n) ok_229 G Sn G<|al zero_211 G fun b5 => stW 0 (us := (cWide ((wide (S - n))))) G G G row_211 G G<|nl ?_
 refine nx<|sq<|rg<|fa G fld_211_0 G<|ldB 0 G G one_2 G G<|gtI G G G<|mv G G ?_
 apply jo [] trivial
 ·
  intro K21
  refine spO (i := 12) G (fun h12 => ?_) (fun h12 => ?_)
  ·
   have p12 := of_decide_eq_false h12
   refine gY G G G<|fa G fld_211_0 G<|gY G G G<|ldB 0 G G one_2 G G<|gY G G G<|eqI G G G<|gY G G G<|mv G G ?_
   apply jo [(12, _)] ⟨rfl, trivial⟩
   ·
    intro K20
    refine spA (i := 16) G (fun h16 => ?_) (fun h16 => ?_)
    ·
     have p16 := of_decide_eq_true h16
     exact gY G G G<|fa G fld_211_1 G<|gY G G G<|ldB 0 G G one_209 G G<|gY G G G<|gtI G G G<|gY G G G<|pkT G G G<|jA K20 h16 ⟨G, trivial⟩ Sr
    ·
     exact gS (g := [_, _, _]) G<|gY G G G<|pkF G G G<|jA0 K20 h16 ⟨G, trivial⟩ Sr
   exact pkF G G G<|jR K21 h12 trivial Sr
  ·
   exact gS (g := [_, _, _, _, _, _, _, _]) G<|pkT G G G<|jR0 K21 h12 trivial Sr
 refine asg G G<|nl<|nx<|rt<|dpQ<|dpQ ?_
 exact fR1 () G G (by exact congrArg Value.bool (above_w hS.w h_n)) G Sn

theorem wint_c (S : Int) (hS : BW S) : FnV Tryz.prog 152 [.agg (cWide (wide S)).toArray] [] (.tuple #[.int .i64 (IntKind.i64.wrap (S % 18446744073709551616)), .bool (sumOk S)]) := by
 refine Fnc.proof Tryz.func152 G 25 G G fun X w => ?_
 obtain ⟨hS1, hS2⟩ := id hS
 refine sq<|rg<|bx G G G fun b1 => asg G G<|asg G G<|nl<|nx<|sq<|rgQ mixed (by kernel_rfl)<|fa G fld_211_1 G<|ldB 0 G G one_209 G G<|cv Tryz.underlying209 Tryz.underlying3 G G G<|fa G fld_211_0 G<|ldB 0 G G one_2 G G ?_
 refine eqI G G G<|mv G G ?_
 apply jo [(1, _), (6, _)] ⟨rfl, rfl, trivial⟩
 ·
  intro K14
  refine spA (i := 10) G (fun h10 => ?_) (fun h10 => ?_)
  ·
   have p10 := of_decide_eq_true h10
   exact gY G G G<|fa G fld_211_1 G<|gY G G G<|ldB 0 G G one_209 G G<|gY G G G<|ltI G G G<|pkT G G G<|jA K14 h10 ⟨G, G, trivial⟩ Sr
  ·
   exact gS (g := [_, _, _]) G<|pkF G G G<|jA0 K14 h10 ⟨G, G, trivial⟩ Sr
 refine mv G G ?_
 apply jo [(6, _)] ⟨rfl, trivial⟩
 ·
  intro K24
  refine spO (i := 15) G (fun h15 => ?_) (fun h15 => ?_)
  ·
   refine gY G G G<|fa G fld_211_0 G<|gY G G G<|ldB 0 G G one_2 G G<|gY G G G<|eqI G G G<|gY G G G<|mv G G ?_
   apply jo [(6, _), (15, _)] ⟨rfl, rfl, trivial⟩
   ·
    intro K23
    refine spA (i := 19) G (fun h19 => ?_) (fun h19 => ?_)
    ·
     have p19 := of_decide_eq_true h19
     exact gY G G G<|fa G fld_211_1 G<|gY G G G<|ldB 0 G G one_209 G G<|gY G G G<|geI G G G<|gY G G G<|pkT G G G<|jA K23 h19 ⟨G, G, trivial⟩ Sr
    ·
     exact gS (g := [_, _, _]) G<|gY G G G<|pkF G G G<|jA0 K23 h19 ⟨G, G, trivial⟩ Sr
   exact pkF G G G<|jR K24 h15 ⟨G, trivial⟩ Sr
  ·
   exact gS (g := [_, _, _, _, _, _, _, _]) G<|pkT G G G<|jR0 K24 h15 ⟨G, trivial⟩ Sr
 exact asg G G<|asg G G<|nlQ<|nx<|rt<|dpQ<|fR2 () G G G (by exact congrArg (fun b => Value.tuple #[.int .i64 (IntKind.i64.wrap (S % 18446744073709551616)), .bool b]) (int_w hS)) G Sn

theorem wof_c (v_l : Value) (l : List Int) (hl : l.length ≤ 1000) : FnV Tryz.prog 210 [v_l] [⟨v_l, l⟩] (.agg (cWide (wide l.sum)).toArray) := by
 refine Fnc.proof Tryz.func210 G 19 G G fun X w => gtC (q := allIn l) (fun S w h => ints_all (h _ (List.mem_cons_self ..))) fun hA => ?_
 have hB := sum_BW hA hl
 refine sq<|rg<|al zero_211 G fun b2 => nl<|nx<|sq<|rg<|bd (ps := []) (cs := cWide (wide 0)) (by rfl) (by kernel_rfl) G<|al zero_211 G fun b3 => stW 0 (us := (cWide ((wide 0)))) G G G row_211 G G<|nl<|nx<|sq<|sq ?_
 refine rg<|asg G G<|nl<|nx<|bk<|lpE (σ := Nat) [(0, _), (2, _), (3, _)] _ (fun i C => (4, .int .i64 (i : Int)) :: C) (fun i => [bl b3 211 (cWide (wide (l.take i).sum)), bl b2 211 zv7, fz X w]) (fun _ Dc => Dc) (fun i => i ≤ l.length) (fun i => l.length - i) 0 ⟨G, G, G, trivial⟩ (Sc 0 G Sn) (Nat.zero_le _) ⟨G, G, G, G, trivial⟩ G (Sc 0 G Sn) ?_
 intro i hi
 refine sq<|sq<|rg<|mv G G<|mv G G<|lnP 0 G G Tryz.underlying220 G fun l8 => ltI G G G<|nl<|nx<|cdP G (fun h9 => ?_) (fun h9 => ?_)
 ·
  have hb := hB i hi
  have hx := getD_InI hA (i := i) (by omega)
  refine sk<|nx<|sq<|bk<|rgT 6 mixed (by kernel_rfl)<|ldM 0 (cWide ((wide (l.take i).sum))) G G row_211 G G<|mv G G<|mv G G<|ixP 0 G G G slt_220 (by omega) (getDE (d := default) (by omega)) G fun v15 => ldV 0 G G one_3 G fun w16 => ?_
  refine cfq (plus_c (l.take i).sum (l.getD i default) (by unfold BW; omega) hx) ok_211 G Sn G<|nlT<|stW 0 (us := (cWide ((wide ((l.take i).sum + l.getD i default))))) G G G row_211 G G<|nl<|bN<|nx<|rg<|mv G G<|adI G G (inI (by omega) (by omega)) G<|asg G G<|nl ?_
  exact ag (i + 1) (by omega) (by omega) ⟨G, G, G, G, trivial⟩ (by rw [sum_take (l := l) (i := i) (by omega)]; rfl) (Sc 1 G Sn)
 ·
  exact ex<|tE<|tE<|bE<|nx<|sq<|rg<|ldM 0 (cWide ((wide (l.take i).sum))) G G row_211 G G<|stW 1 (us := (cWide ((wide (l.take i).sum)))) G G G row_211 G G<|nl<|nx<|rt<|fRG () [_, _] (rC 1 G G G row_211) (by have e : i = l.length := (by omega); rw [e, List.take_length]) G Sn
end Go.Proofs.YtmpoffijcfaalaaGreat

/- Closed facts on the program, written by specs6.py. -/

namespace Go.Proofs.YtmpoffijcfaalaaGreat
open Go.Eng

theorem app_22 : AppTy Tryz.prog 22 90 3 32 := AppTy.mk Tryz.underlying22 (by kernel_rfl) (by decide)
theorem app_28 : AppTy Tryz.prog 28 55 29 376 := AppTy.mk Tryz.underlying28 (by kernel_rfl) (by decide)
theorem fdv_211_0 : FieldV Tryz.prog 211 0 0 := ⟨_, _, _, Tryz.underlying211, rfl, rfl, Tryz.underlying2, rfl⟩
theorem fld_34_2 : FieldAt Tryz.prog 34 2 2 := FieldAt.mk Tryz.underlying34 rfl (by kernel_rfl) rfl
theorem fld_34_4 : FieldAt Tryz.prog 34 4 4 := FieldAt.mk Tryz.underlying34 rfl (by kernel_rfl) rfl
theorem fld_34_5 : FieldAt Tryz.prog 34 5 5 := FieldAt.mk Tryz.underlying34 rfl (by kernel_rfl) rfl
theorem fld_37_0 : FieldAt Tryz.prog 37 0 0 := FieldAt.mk Tryz.underlying37 rfl (by kernel_rfl) rfl
theorem fld_37_3 : FieldAt Tryz.prog 37 3 3 := FieldAt.mk Tryz.underlying37 rfl (by kernel_rfl) rfl
theorem fld_37_4 : FieldAt Tryz.prog 37 4 4 := FieldAt.mk Tryz.underlying37 rfl (by kernel_rfl) rfl
theorem ok_10 : FnOk Tryz.prog 10 := ⟨⟨_, Tryz.func10, by kernel_rfl, rfl⟩⟩
theorem ok_135 : FnOk Tryz.prog 135 := ⟨⟨_, Tryz.func135, by kernel_rfl, rfl⟩⟩
theorem ok_136 : FnOk Tryz.prog 136 := ⟨⟨_, Tryz.func136, by kernel_rfl, rfl⟩⟩
theorem ok_137 : FnOk Tryz.prog 137 := ⟨⟨_, Tryz.func137, by kernel_rfl, rfl⟩⟩
theorem ok_138 : FnOk Tryz.prog 138 := ⟨⟨_, Tryz.func138, by kernel_rfl, rfl⟩⟩
theorem ok_139 : FnOk Tryz.prog 139 := ⟨⟨_, Tryz.func139, by kernel_rfl, rfl⟩⟩
theorem ok_140 : FnOk Tryz.prog 140 := ⟨⟨_, Tryz.func140, by kernel_rfl, rfl⟩⟩
theorem ok_142 : FnOk Tryz.prog 142 := ⟨⟨_, Tryz.func142, by kernel_rfl, rfl⟩⟩
theorem ok_152 : FnOk Tryz.prog 152 := ⟨⟨_, Tryz.func152, by kernel_rfl, rfl⟩⟩
theorem ok_153 : FnOk Tryz.prog 153 := ⟨⟨_, Tryz.func153, by kernel_rfl, rfl⟩⟩
theorem ok_17 : FnOk Tryz.prog 17 := ⟨⟨_, Tryz.func17, by kernel_rfl, rfl⟩⟩
theorem ok_171 : FnOk Tryz.prog 171 := ⟨⟨_, Tryz.func171, by kernel_rfl, rfl⟩⟩
theorem ok_18 : FnOk Tryz.prog 18 := ⟨⟨_, Tryz.func18, by kernel_rfl, rfl⟩⟩
theorem ok_193 : FnOk Tryz.prog 193 := ⟨⟨_, Tryz.func193, by kernel_rfl, rfl⟩⟩
theorem ok_197 : FnOk Tryz.prog 197 := ⟨⟨_, Tryz.func197, by kernel_rfl, rfl⟩⟩
theorem ok_210 : FnOk Tryz.prog 210 := ⟨⟨_, Tryz.func210, by kernel_rfl, rfl⟩⟩
theorem ok_227 : FnOk Tryz.prog 227 := ⟨⟨_, Tryz.func227, by kernel_rfl, rfl⟩⟩
theorem ok_228 : FnOk Tryz.prog 228 := ⟨⟨_, Tryz.func228, by kernel_rfl, rfl⟩⟩
theorem ok_230 : FnOk Tryz.prog 230 := ⟨⟨_, Tryz.func230, by kernel_rfl, rfl⟩⟩
theorem ok_236 : FnOk Tryz.prog 236 := ⟨⟨_, Tryz.func236, by kernel_rfl, rfl⟩⟩
theorem ok_34 : FnOk Tryz.prog 34 := ⟨⟨_, Tryz.func34, by kernel_rfl, rfl⟩⟩
theorem ok_40 : FnOk Tryz.prog 40 := ⟨⟨_, Tryz.func40, by kernel_rfl, rfl⟩⟩
theorem ok_60 : FnOk Tryz.prog 60 := ⟨⟨_, Tryz.func60, by kernel_rfl, rfl⟩⟩
theorem ok_61 : FnOk Tryz.prog 61 := ⟨⟨_, Tryz.func61, by kernel_rfl, rfl⟩⟩
theorem ok_62 : FnOk Tryz.prog 62 := ⟨⟨_, Tryz.func62, by kernel_rfl, rfl⟩⟩
theorem ok_8 : FnOk Tryz.prog 8 := ⟨⟨_, Tryz.func8, by kernel_rfl, rfl⟩⟩
theorem ok_90 : FnOk Tryz.prog 90 := ⟨⟨_, Tryz.func90, by kernel_rfl, rfl⟩⟩
theorem ok_93 : FnOk Tryz.prog 93 := ⟨⟨_, Tryz.func93, by kernel_rfl, rfl⟩⟩
theorem ok_94 : FnOk Tryz.prog 94 := ⟨⟨_, Tryz.func94, by kernel_rfl, rfl⟩⟩
theorem one_5 : OneTy Tryz.prog 5 := ⟨⟨_, Tryz.underlying5, rfl⟩, by kernel_rfl⟩
theorem row_32 : RowTy Tryz.prog 32 17 := ⟨⟨_, Tryz.underlying32, rfl⟩, by kernel_rfl⟩
theorem row_37 : RowTy Tryz.prog 37 25 := ⟨⟨_, Tryz.underlying37, rfl⟩, by kernel_rfl⟩
theorem slt_35 : SliceTy Tryz.prog 35 5 1 := ⟨Tryz.underlying35, by kernel_rfl⟩
theorem zero_27 : ZeroOf Tryz.prog 27 [.int .i64 0, .slice none 0 0, .int .i64 0, .int .i64 0, .int .i64 0, .int .i64 0, .int .i64 0, .string ByteArray.empty, .string ByteArray.empty, .int .i64 0, .int .i64 0, .slice none 0 0] := ZeroOf.mk (by kernel_rfl)
theorem zero_32 : ZeroOf Tryz.prog 32 [.int .i64 0, .int .i64 0, .int .i64 0, .slice none 0 0, .int .i64 0, .int .i64 0, .int .i64 0, .int .i64 0, .int .i64 0, .string ByteArray.empty, .string ByteArray.empty, .int .i64 0, .int .i64 0, .slice none 0 0, .slice none 0 0, .slice none 0 0, .slice none 0 0] := ZeroOf.mk (by kernel_rfl)
theorem zero_37 : ZeroOf Tryz.prog 37 [.int .i64 0, .int .i64 0, .int .i64 0, .int .i64 0, .int .i64 0, .int .i64 0, .string ByteArray.empty, .int .i64 0, .int .i64 0, .int .i64 0, .bool false, .int .i64 0, .string ByteArray.empty, .string ByteArray.empty, .int .i64 0, .int .i64 0, .int .i64 0, .int .i64 0, .int .i64 0, .int .i64 0, .string ByteArray.empty, .string ByteArray.empty, .int .i64 0, .int .i64 0, .slice none 0 0] := ZeroOf.mk (by kernel_rfl)
end Go.Proofs.YtmpoffijcfaalaaGreat
