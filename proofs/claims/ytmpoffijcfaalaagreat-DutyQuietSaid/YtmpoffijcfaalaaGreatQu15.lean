/- Part 15 of the proof of dutyQuiet_holds: DutW5, DutW6. Every text below begins with what it shows. -/
import Derived.Test.YtmpoffijcfaalaaGreatQu14

/- Walks, written by specs2.py. -/

namespace Go.Proofs.YtmpoffijcfaalaaGreat
open Go.Eng Go.YtmpoffijcfaalaaGreat
set_option maxHeartbeats 1000000

theorem right14_c (v_l : Value) (l : List TMark) : FnV Tryz.prog 128 [v_l] [⟨v_l, l⟩] (.bool (marks14 l)) := by
 refine Fnc.proof Tryz.func128 G 52 G G fun X w => sq<|rg<|asg G G<|nl<|nx<|sq<|rg<|asg G G<|nl<|nx<|sq<|sq<|rg ?_
 refine asg G G<|nl<|nx<|bk<|lpC (σ := Nat) [(0, _)] _ (fun i C => (4, .int .i64 (i : Int)) :: (3, .int .i64 (prevI (fun k => (l.getD k default).fClient) i)) :: C) (fun i => i ≤ l.length ∧ (∀ j, j < i → (!mark14 (prevI (fun k => (l.getD k default).fClient) j) (l.getD j default)) = true)) (fun i => l.length - i) 0 ⟨G, trivial⟩ (Sc 0 G Sn) ⟨Nat.zero_le _, fun j hj => absurd hj (Nat.not_lt_zero j)⟩ ⟨G, G, G, trivial⟩ ?_
 rintro i ⟨hi, hall⟩
 refine sq<|sq<|rg<|mv G G<|mv G G<|lnP 0 G G Tryz.underlying25 G fun l8 => ltI G G G<|nl<|nx<|cdP G (fun h9 => ?_) (fun h9 => ?_)
 ·
  refine sk<|nx<|sq<|bk<|sq<|rg<|mv G G<|mv G G<|ixP 0 G G G slt_25 (by omega) (getDE (d := default) (by omega)) G fun v14 => ldS 0 G G row_122 G fun q15 w15 => ?_
  refine al zero_122 G fun b5 => stW 0 (us := (cMark ((l.getD i default)))) G G G row_122 G G<|nl<|nx<|sq<|sq<|rg<|fa G fld_122_0 G<|ldB 0 G G one_3 G G<|mv G G<|leI G G G<|mv G G ?_
  apply jo [(0, _), (4, _), (5, _)] ⟨rfl, rfl, rfl, trivial⟩
  ·
   intro K24
   refine spO (i := 20) G (fun h20 => ?_) (fun h20 => ?_)
   ·
    have p20 := of_decide_eq_false h20
    exact gY G G G<|fa G fld_122_0 G<|gY G G G<|ldB 0 G G one_3 G G<|gY G G G<|gtI G G G<|pkF G G G<|jR K24 h20 ⟨G, G, G, trivial⟩ Sr
   ·
    exact gS (g := [_, _, _]) G<|pkT G G G<|jR0 K24 h20 ⟨G, G, G, trivial⟩ Sr
  refine mv G G ?_
  apply jo [(0, _), (4, _), (5, _)] ⟨rfl, rfl, rfl, trivial⟩
  ·
   intro K29
   refine spO (i := 25) G (fun h25 => ?_) (fun h25 => ?_)
   ·
    exact gY G G G<|fa G fld_122_1 G<|gY G G G<|ldB 0 G G one_3 G G<|gY G G G<|ltI G G G<|pkF G G G<|jR K29 h25 ⟨G, G, G, trivial⟩ Sr
   ·
    exact gS (g := [_, _, _]) G<|pkT G G G<|jR0 K29 h25 ⟨G, G, G, trivial⟩ Sr
  refine mv G G ?_
  apply jo [(0, _), (4, _), (5, _)] ⟨rfl, rfl, rfl, trivial⟩
  ·
   intro K34
   refine spO (i := 30) G (fun h30 => ?_) (fun h30 => ?_)
   ·
    exact gY G G G<|fa G fld_122_1 G<|gY G G G<|ldB 0 G G one_3 G G<|gY G G G<|gtI G G G<|pkF G G G<|jR K34 h30 ⟨G, G, G, trivial⟩ Sr
   ·
    exact gS (g := [_, _, _]) G<|pkT G G G<|jR0 K34 h30 ⟨G, G, G, trivial⟩ Sr
  refine mv G G ?_
  apply jo [(0, _), (4, _), (5, _)] ⟨rfl, rfl, rfl, trivial⟩
  ·
   intro K49
   refine spO (i := 35) G (fun h35 => ?_) (fun h35 => ?_)
   ·
    refine gY G G G<|fa G fld_122_2 G<|gY G G G<|ldB 0 G G one_4 G G<|gY G G G<|mv G G ?_
    apply jo [(0, _), (4, _), (5, _), (35, _)] ⟨rfl, rfl, rfl, rfl, trivial⟩
    ·
     intro K48
     refine spA (i := 38) G (fun h38 => ?_) (fun h38 => ?_)
     ·
      refine gY G G G<|fa G fld_122_1 G<|gY G G G<|ldB 0 G G one_3 G G<|gY G G G<|ltI G G G<|gY G G G<|mv G G ?_
      apply jo [(0, _), (4, _), (5, _), (35, _), (38, _)] ⟨rfl, rfl, rfl, rfl, rfl, trivial⟩
      ·
       intro K47
       refine spO (i := 42) G (fun h42 => ?_) (fun h42 => ?_)
       ·
        have p42 := of_decide_eq_false h42
        exact gY G G G<|fa G fld_122_3 G<|gY G G G<|ldM 0 (cAnswer ((l.getD i default).fAnswer)) G G row_120 G G<|gY G G G<|bd (ps := []) (cs := (cAnswer ((⟨0, 0, 0, 0⟩ : TAnswer)))) (by rfl) (by kernel_rfl) G<|gY G G G<|neT eq_Answer ((l.getD i default).fAnswer) ((⟨0, 0, 0, 0⟩ : TAnswer)) G G G<|gY G G G<|pkF G G G<|jR K47 h42 ⟨G, G, G, G, G, trivial⟩ Sr
       ·
        exact gS (g := [_, _, _, _]) G<|gY G G G<|pkT G G G<|jR0 K47 h42 ⟨G, G, G, G, G, trivial⟩ Sr
      exact gY G G G<|pkT G G G<|jA K48 h38 ⟨G, G, G, G, trivial⟩ Sr
     ·
      exact gS (g := [_, _, _, _, _, _, _, _, _]) G<|gY G G G<|pkF G G G<|jA0 K48 h38 ⟨G, G, G, G, trivial⟩ Sr
    exact pkF G G G<|jR K49 h35 ⟨G, G, G, trivial⟩ Sr
   ·
    exact gS (g := [_, _, _, _, _, _, _, _, _, _, _, _, _]) G<|pkT G G G<|jR0 K49 h35 ⟨G, G, G, trivial⟩ Sr
  refine nl<|nx<|cdB G (fun h49 => ?_) (fun h49 => ?_)
  ·
   refine sq<|rg<|asg G G<|nl<|nx<|rt<|tR<|bR<|tR<|tR<|bR<|tR<|dpQ ?_
   exact fR1 () G G (by rw [marks14, allI_false i (by omega) (not_t h49)]; try rfl) G Sn
  ·
   refine sk<|nx<|rg<|fa G fld_122_0 G<|ldB 0 G G one_3 G G<|asg G G<|nl<|bN<|nx<|rg<|mv G G<|adI G G (inI (by omega) (by omega)) G<|asg G G<|nl ?_
   refine dpQ ?_
   exact ag (i + 1) ⟨(by omega), (all_snoc hall (not_f h49))⟩ (by omega) ⟨G, G, G, trivial⟩ G (Sc 2 G Sn)
 ·
  refine ex<|tE<|tE<|bE<|nx<|sq<|rg<|asg G G<|nl<|nx<|rt ?_
  exact fR1 () G G (by rw [marks14, allI_true (fun j hj => hall j (by omega))]; try rfl) G Sn

theorem may18_c (d : TDeal) (h_d : d.wf) : FnV Tryz.prog 194 [.agg (cDeal d).toArray] [] (.bool (may18 d)) := by
 refine Fnc.proof Tryz.func194 G 76 G G fun X w => sq<|rg<|bx G G G fun b1 => asg G G<|nl<|nx<|sq<|sq<|rg<|fa G fld_126_0 G<|ldB 0 G G one_3 G G<|cfv (client14_c _ h_d.1) ok_37 G Sn G<|nt G G ?_
 refine mv G G ?_
 apply jo [(1, _)] ⟨rfl, trivial⟩
 ·
  intro K13
  refine spO (i := 8) G (fun h8 => ?_) (fun h8 => ?_)
  ·
   exact gY G G G<|fa G fld_126_1 G<|gY G G G<|ldB 0 G G one_3 G G<|gY G G G<|cfv (seq14_c _ h_d.2.1) ok_38 G Sn G<|gY G G G<|nt G G<|pkF G G G<|jR K13 h8 ⟨G, trivial⟩ Sr
  ·
   exact gS (g := [_, _, _, _]) G<|pkT G G G<|jR0 K13 h8 ⟨G, trivial⟩ Sr
 refine mv G G ?_
 apply jo [(1, _)] ⟨rfl, trivial⟩
 ·
  intro K19
  refine spO (i := 14) G (fun h14 => ?_) (fun h14 => ?_)
  ·
   exact gY G G G<|fa G fld_126_2 G<|gY G G G<|ldB 0 G G one_9 G G<|gY G G G<|cfv (key15_c _) ok_168 G Sn G<|gY G G G<|nt G G<|pkF G G G<|jR K19 h14 ⟨G, trivial⟩ Sr
  ·
   exact gS (g := [_, _, _, _]) G<|pkT G G G<|jR0 K19 h14 ⟨G, trivial⟩ Sr
 refine mv G G ?_
 apply jo [(1, _)] ⟨rfl, trivial⟩
 ·
  intro K25
  refine spO (i := 20) G (fun h20 => ?_) (fun h20 => ?_)
  ·
   exact gY G G G<|fa G fld_126_3 G<|gY G G G<|ldB 0 G G one_9 G G<|gY G G G<|cfv (key15_c _) ok_168 G Sn G<|gY G G G<|nt G G<|pkF G G G<|jR K25 h20 ⟨G, trivial⟩ Sr
  ·
   exact gS (g := [_, _, _, _]) G<|pkT G G G<|jR0 K25 h20 ⟨G, trivial⟩ Sr
 refine mv G G ?_
 apply jo [(1, _)] ⟨rfl, trivial⟩
 ·
  intro K32
  refine spO (i := 26) G (fun h26 => ?_) (fun h26 => ?_)
  ·
   exact gY G G G<|fa G fld_126_2 G<|gY G G G<|ldB 0 G G one_9 G G<|gY G G G<|fa G fld_126_3 G<|gY G G G<|ldB 0 G G one_9 G G<|gY G G G<|eqS G G G<|pkF G G G<|jR K32 h26 ⟨G, trivial⟩ Sr
  ·
   exact gS (g := [_, _, _, _, _]) G<|pkT G G G<|jR0 K32 h26 ⟨G, trivial⟩ Sr
 refine mv G G ?_
 apply jo [(1, _)] ⟨rfl, trivial⟩
 ·
  intro K37
  refine spO (i := 33) G (fun h33 => ?_) (fun h33 => ?_)
  ·
   exact gY G G G<|fa G fld_126_4 G<|gY G G G<|ldB 0 G G one_3 G G<|gY G G G<|ltI G G G<|pkF G G G<|jR K37 h33 ⟨G, trivial⟩ Sr
  ·
   exact gS (g := [_, _, _]) G<|pkT G G G<|jR0 K37 h33 ⟨G, trivial⟩ Sr
 refine mv G G ?_
 apply jo [(1, _)] ⟨rfl, trivial⟩
 ·
  intro K42
  refine spO (i := 38) G (fun h38 => ?_) (fun h38 => ?_)
  ·
   exact gY G G G<|fa G fld_126_5 G<|gY G G G<|ldB 0 G G one_3 G G<|gY G G G<|ltI G G G<|pkF G G G<|jR K42 h38 ⟨G, trivial⟩ Sr
  ·
   exact gS (g := [_, _, _]) G<|pkT G G G<|jR0 K42 h38 ⟨G, trivial⟩ Sr
 refine mv G G ?_
 apply jo [(1, _)] ⟨rfl, trivial⟩
 ·
  intro K47
  refine spO (i := 43) G (fun h43 => ?_) (fun h43 => ?_)
  ·
   exact gY G G G<|fa G fld_126_5 G<|gY G G G<|ldB 0 G G one_3 G G<|gY G G G<|gtI G G G<|pkF G G G<|jR K47 h43 ⟨G, trivial⟩ Sr
  ·
   exact gS (g := [_, _, _]) G<|pkT G G G<|jR0 K47 h43 ⟨G, trivial⟩ Sr
 refine mv G G ?_
 apply jo [(1, _)] ⟨rfl, trivial⟩
 ·
  intro K52
  refine spO (i := 48) G (fun h48 => ?_) (fun h48 => ?_)
  ·
   exact gY G G G<|fa G fld_126_6 G<|gY G G G<|ldB 0 G G one_3 G G<|gY G G G<|ltI G G G<|pkF G G G<|jR K52 h48 ⟨G, trivial⟩ Sr
  ·
   exact gS (g := [_, _, _]) G<|pkT G G G<|jR0 K52 h48 ⟨G, trivial⟩ Sr
 refine mv G G ?_
 apply jo [(1, _)] ⟨rfl, trivial⟩
 ·
  intro K57
  refine spO (i := 53) G (fun h53 => ?_) (fun h53 => ?_)
  ·
   exact gY G G G<|fa G fld_126_6 G<|gY G G G<|ldB 0 G G one_3 G G<|gY G G G<|gtI G G G<|pkF G G G<|jR K57 h53 ⟨G, trivial⟩ Sr
  ·
   exact gS (g := [_, _, _]) G<|pkT G G G<|jR0 K57 h53 ⟨G, trivial⟩ Sr
 refine nl<|nx<|cdB G (fun h57 => ?_) (fun h57 => ?_)
 ·
  have e57 : (may18a d) = true := h57
  refine sq<|rg<|asg G G<|nl<|nx<|rt<|tR<|dpQ ?_
  exact fR1 () G G (by rw [may18, e57]; try rfl) G Sn
 ·
  have e57 : (may18a d) = false := h57
  refine sk<|nx<|sq<|rg<|fa G fld_126_5 G<|ldB 0 G G one_3 G G<|fa G fld_126_6 G<|ldB 0 G G one_3 G G<|cfv (fate18_c _ _ h_d.2.2.2.2.2.1 h_d.2.2.2.2.2.2.1) ok_246 G Sn G<|asg G G<|nl<|nx<|sq<|rg ?_
  refine fa G fld_126_7 G<|ldB 0 G G one_3 G G<|mv G G<|eqI G G G<|mv G G ?_
  apply jo [] trivial
  ·
   intro K75
   refine spO (i := 67) G (fun h67 => ?_) (fun h67 => ?_)
   ·
    have p67 := of_decide_eq_false h67
    refine gY G G G<|mv G G<|gY G G G<|eqI G G G<|gY G G G<|mv G G ?_
    apply jo [(67, _)] ⟨rfl, trivial⟩
    ·
     intro K74
     refine spA (i := 70) G (fun h70 => ?_) (fun h70 => ?_)
     ·
      have p70 := of_decide_eq_true h70
      exact gY G G G<|fa G fld_126_7 G<|gY G G G<|ldB 0 G G one_3 G G<|gY G G G<|eqI G G G<|gY G G G<|pkT G G G<|jA K74 h70 ⟨G, trivial⟩ Sr
     ·
      exact gS (g := [_, _, _]) G<|gY G G G<|pkF G G G<|jA0 K74 h70 ⟨G, trivial⟩ Sr
    exact pkF G G G<|jR K75 h67 trivial Sr
   ·
    exact gS (g := [_, _, _, _, _, _, _]) G<|pkT G G G<|jR0 K75 h67 trivial Sr
  refine asg G G<|nl<|nx<|rt<|dpQ ?_
  exact fR1 () G G (by rw [may18, e57]; try rfl) G Sn

theorem place18_c (v_l : Value) (l : List TDeal) (c : Int) (q : Int) (h_c : InI c) (h_q : InI q) : FnV Tryz.prog 195 [v_l, .int .i64 c, .int .i64 q] [⟨v_l, l⟩] (.int .i64 (placeI (placeO l c q))) := by
 refine Fnc.proof Tryz.func195 G 31 G G fun X w => ?_
 obtain ⟨h_c1, h_c2⟩ := id h_c
 obtain ⟨h_q1, h_q2⟩ := id h_q
 refine sq<|rg<|asg G G<|nl<|nx<|sq<|sq<|rg<|asg G G<|nl<|nx<|bk<|lpC (σ := Nat) [(0, _), (1, _), (2, _)] _ (fun i C => (7, .int .i64 (i : Int)) :: C) (fun i => i ≤ l.length ∧ (∀ j, j < i → (decide ((l.getD j default).fClient = c) && decide ((l.getD j default).fSeq = q)) = false)) (fun i => l.length - i) 0 ⟨G, G, G, trivial⟩ (Sc 0 G Sn) ⟨Nat.zero_le _, fun j hj => absurd hj (Nat.not_lt_zero j)⟩ ⟨G, G, G, G, trivial⟩ ?_
 rintro i ⟨hi, hall⟩
 refine sq<|sq<|rg<|mv G G<|mv G G<|lnP 0 G G Tryz.underlying52 G fun l10 => ltI G G G<|nl<|nx<|cdP G (fun h11 => ?_) (fun h11 => ?_)
 ·
  refine sk<|nx<|sq<|bk<|sq<|rg<|mv G G<|mv G G<|ixP 0 G G G slt_52 (by omega) (getDE (d := default) (by omega)) G fun v16 => faP (α := TDeal) (β := Int) 0 (fun x : TDeal => x.fClient) G G fld_126_0 pDeal_0 G fun v17 => ldV 0 G G one_3 G fun w18 => ?_
  refine mv G G<|eqI G G G<|mv G G ?_
  apply jo [(0, _), (1, _), (2, _), (7, _)] ⟨rfl, rfl, rfl, rfl, trivial⟩
  ·
   intro K29
   refine spA (i := 21) G (fun h21 => ?_) (fun h21 => ?_)
   ·
    have p21 := of_decide_eq_true h21
    refine gY G G G<|mv G G<|gY G G G<|mv G G<|gY G G G<|ixP 2 G G G slt_52 (by omega) (getDE (d := default) (by omega)) G fun v24 => gY G G G<|faP (α := TDeal) (β := Int) 0 (fun x : TDeal => x.fSeq) G G fld_126_1 pDeal_1 G fun v25 => gY G G G<|ldV 0 G G one_3 G fun w26 => ?_
    exact gY G G G<|mv G G<|gY G G G<|eqI G G G<|pkT G G G<|jA K29 h21 ⟨G, G, G, G, trivial⟩ (SubD.tail (SubD.tail Sr))
   ·
    exact gS (g := [_, _, _, _, _, _, _]) G<|pkF G G G<|jA0 K29 h21 ⟨G, G, G, G, trivial⟩ Sr
  refine nl<|nx<|cdB G (fun h29 => ?_) (fun h29 => ?_)
  ·
   refine sq<|rg<|mv G G<|asg G G<|nl<|nx<|rt<|bR<|tR<|tR<|bR<|tR ?_
   exact fR1 () G G (by rw [placeO, firstI_some (j := i) (by omega) hall h29, placeI]) G Sn
  ·
   refine sk<|bN<|nx<|rg<|mv G G<|adI G G (inI (by omega) (by omega)) G<|asg G G<|nl ?_
   exact ag (i + 1) ⟨(by omega), (all_snoc hall (h29))⟩ (by omega) ⟨G, G, G, G, trivial⟩ G (Sc 2 G Sn)
 ·
  refine ex<|tE<|tE<|bE<|nx<|sq<|rg<|asg G G<|nl<|nx<|rt ?_
  exact fR1 () G G (by rw [placeO, firstI_none (fun k hk => hall k (by omega)), placeI]) G Sn

theorem right18_c (v_l : Value) (l : List TDeal) : FnV Tryz.prog 136 [v_l] [⟨v_l, l⟩] (.bool (books18 l)) := by
 refine Fnc.proof Tryz.func136 G 35 G G fun X w => sq<|rg<|asg G G<|nl<|nx<|sq<|sq<|rg<|asg G G<|nl<|nx<|bk<|lpC (σ := Nat) [(0, _)] _ (fun i C => (3, .int .i64 (i : Int)) :: C) (fun i => i ≤ l.length ∧ (∀ j, j < i → (!(!may18 (l.getD j default) || !decide (placeI (placeO l (l.getD j default).fClient (l.getD j default).fSeq) = (j : Int)))) = true)) (fun i => l.length - i) 0 ⟨G, trivial⟩ (Sc 0 G Sn) ⟨Nat.zero_le _, fun j hj => absurd hj (Nat.not_lt_zero j)⟩ ⟨G, G, trivial⟩ ?_
 rintro i ⟨hi, hall⟩
 refine sq<|sq<|rg<|mv G G<|mv G G<|lnP 0 G G Tryz.underlying52 G fun l6 => ltI G G G<|nl<|nx<|cdP G (fun h7 => ?_) (fun h7 => ?_)
 ·
  refine sk<|nx<|sq<|bk<|sq<|rgQ mixed (by kernel_rfl)<|mv G G<|mv G G<|ixP 0 G G G slt_52 (by omega) (getDE (d := default) (by omega)) G fun v12 => ldS 0 G G row_126 G fun q13 w13 => ?_
  refine cfq (may18_c _ w13) ok_194 G Sn G<|nt G G<|mv G G ?_
  apply jo [(0, _), (3, _)] ⟨rfl, rfl, trivial⟩
  ·
   intro K31
   refine spO (i := 16) G (fun h16 => ?_) (fun h16 => ?_)
   ·
    have p16 := h16
    try simp only [Bool.or_eq_false_iff, Bool.and_eq_true, decide_eq_true_eq, decide_eq_false_iff_not, Bool.not_eq_true', Bool.not_eq_false'] at p16
    refine gY G G G<|mv G G<|gY G G G<|mv G G<|gY G G G<|mv G G<|gY G G G<|ixP 2 G G G slt_52 (by omega) (getDE (d := default) (by omega)) G fun v20 => gY G G G<|faP (α := TDeal) (β := Int) 0 (fun x : TDeal => x.fClient) G G fld_126_0 pDeal_0 G fun v21 => gY G G G<|ldV 0 G G one_3 G fun w22 => ?_
    refine gY G G G<|mv G G<|gY G G G<|mv G G<|gY G G G<|ixP 4 G G G slt_52 (by omega) (getDE (d := default) (by omega)) G fun v25 => gY G G G<|faP (α := TDeal) (β := Int) 0 (fun x : TDeal => x.fSeq) G G fld_126_1 pDeal_1 G fun v26 => gY G G G<|ldV 0 G G one_3 G fun w27 => ?_
    exact gY G G G<|cfq (place18_c _ _ _ _ w22 w27) ok_195 G (Sc 6 G Sn) G<|gY G G G<|mv G G<|gY G G G<|neI G G G<|pkF G G G<|jR K31 h16 ⟨G, G, trivial⟩ (SubD.tail (SubD.tail (SubD.tail (SubD.tail Sr))))
   ·
    exact gS (g := [_, _, _, _, _, _, _, _, _, _, _, _, _, _]) G<|pkT G G G<|jR0 K31 h16 ⟨G, G, trivial⟩ Sr
  refine nlQ<|nx<|cdB G (fun h31 => ?_) (fun h31 => ?_)
  ·
   refine sq<|rg<|asg G G<|nl<|nx<|rt<|bR<|tR<|tR<|bR<|tR ?_
   exact fR1 () G G (by rw [books18, books18a, allI_false i (by omega) (not_t h31)]; try rfl) G Sn
  ·
   refine sk<|bN<|nx<|rg<|mv G G<|adI G G (inI (by omega) (by omega)) G<|asg G G<|nl ?_
   exact ag (i + 1) ⟨(by omega), (all_snoc hall (not_f h31))⟩ (by omega) ⟨G, G, trivial⟩ G (Sc 2 G Sn)
 ·
  refine ex<|tE<|tE<|bE<|nx<|sq<|rg<|mv G G<|lnP 0 G G Tryz.underlying52 G fun l33 => leI G G G<|asg G G<|nl<|nx<|rt ?_
  exact fR1 () G G (by rw [books18, books18a, allI_true (fun j hj => hall j (by omega))]; try rfl) G Sn

theorem ends18_c (v_l : Value) (l : List TEnd) : FnV Tryz.prog 137 [v_l] [⟨v_l, l⟩] (.bool (ends18 l)) := by
 refine Fnc.proof Tryz.func137 G 40 G G fun X w => sq<|rg<|asg G G<|nl<|nx<|sq<|rg<|asg G G<|nl<|nx<|sq<|sq<|rg ?_
 refine asg G G<|nl<|nx<|bk<|lpC (σ := Nat) [(0, _)] _ (fun i C => (4, .int .i64 (i : Int)) :: (3, .int .i64 (prevI (fun k => (l.getD k default).fClient) i)) :: C) (fun i => i ≤ l.length ∧ (∀ j, j < i → (!(decide ((l.getD j default).fClient ≤ prevI (fun k => (l.getD k default).fClient) j) || decide ((l.getD j default).fClient > 8) || !okSeq (l.getD j default).fSeq)) = true)) (fun i => l.length - i) 0 ⟨G, trivial⟩ (Sc 0 G Sn) ⟨Nat.zero_le _, fun j hj => absurd hj (Nat.not_lt_zero j)⟩ ⟨G, G, G, trivial⟩ ?_
 rintro i ⟨hi, hall⟩
 refine sq<|sq<|rg<|mv G G<|mv G G<|lnP 0 G G Tryz.underlying53 G fun l7 => ltI G G G<|nl<|nx<|cdP G (fun h8 => ?_) (fun h8 => ?_)
 ·
  refine sk<|nx<|sq<|bk<|sq<|sq<|rg<|mv G G<|mv G G<|ixP 0 G G G slt_53 (by omega) (getDE (d := default) (by omega)) G fun v13 => faP (α := TEnd) (β := Int) 0 (fun x : TEnd => x.fClient) G G fld_129_0 pEnd_0 G fun v14 => ldV 0 G G one_3 G fun w15 => ?_
  refine mv G G<|leI G G G<|mv G G ?_
  apply jo [(0, _), (4, _)] ⟨rfl, rfl, trivial⟩
  ·
   intro K25
   refine spO (i := 18) G (fun h18 => ?_) (fun h18 => ?_)
   ·
    have p18 := of_decide_eq_false h18
    refine gY G G G<|mv G G<|gY G G G<|mv G G<|gY G G G<|ixP 2 G G G slt_53 (by omega) (getDE (d := default) (by omega)) G fun v21 => gY G G G<|faP (α := TEnd) (β := Int) 0 (fun x : TEnd => x.fClient) G G fld_129_0 pEnd_0 G fun v22 => gY G G G<|ldV 0 G G one_3 G fun w23 => ?_
    exact gY G G G<|gtI G G G<|pkF G G G<|jR K25 h18 ⟨G, G, trivial⟩ (SubD.tail (SubD.tail Sr))
   ·
    exact gS (g := [_, _, _, _, _, _]) G<|pkT G G G<|jR0 K25 h18 ⟨G, G, trivial⟩ Sr
  refine mv G G ?_
  apply jo [(0, _), (4, _)] ⟨rfl, rfl, trivial⟩
  ·
   intro K34
   refine spO (i := 26) G (fun h26 => ?_) (fun h26 => ?_)
   ·
    have p26 := h26
    try simp only [Bool.or_eq_false_iff, Bool.and_eq_true, decide_eq_true_eq, decide_eq_false_iff_not, Bool.not_eq_true', Bool.not_eq_false'] at p26
    refine gY G G G<|mv G G<|gY G G G<|mv G G<|gY G G G<|ixP 2 G G G slt_53 (by omega) (getDE (d := default) (by omega)) G fun v29 => gY G G G<|faP (α := TEnd) (β := Int) 0 (fun x : TEnd => x.fSeq) G G fld_129_1 pEnd_1 G fun v30 => gY G G G<|ldV 0 G G one_3 G fun w31 => ?_
    exact gY G G G<|cfv (seq14_c _ w31) ok_38 G Sn G<|gY G G G<|nt G G<|pkF G G G<|jR K34 h26 ⟨G, G, trivial⟩ (SubD.tail (SubD.tail Sr))
   ·
    exact gS (g := [_, _, _, _, _, _, _]) G<|pkT G G G<|jR0 K34 h26 ⟨G, G, trivial⟩ Sr
  refine nl<|nx<|cdB G (fun h34 => ?_) (fun h34 => ?_)
  ·
   refine sq<|rg<|asg G G<|nl<|nx<|rt<|tR<|bR<|tR<|tR<|bR<|tR ?_
   exact fR1 () G G (by rw [ends18, allI_false i (by omega) (not_t h34)]; try rfl) G Sn
  ·
   refine sk<|nx<|rg<|mv G G<|mv G G<|ixP 2 G G G slt_53 (by omega) (getDE (d := default) (by omega)) G fun v37 => faP (α := TEnd) (β := Int) 0 (fun x : TEnd => x.fClient) G G fld_129_0 pEnd_0 G fun v38 => ldV 0 G G one_3 G fun w39 => ?_
   refine asg G G<|nl<|bN<|nx<|rg<|mv G G<|adI G G (inI (by omega) (by omega)) G<|asg G G<|nl ?_
   exact ag (i + 1) ⟨(by omega), (all_snoc hall (not_f h34))⟩ (by omega) ⟨G, G, G, trivial⟩ G (Sc 4 G Sn)
 ·
  refine ex<|tE<|tE<|bE<|nx<|sq<|rg<|asg G G<|nl<|nx<|rt ?_
  exact fR1 () G G (by rw [ends18, allI_true (fun j hj => hall j (by omega))]; try rfl) G Sn

theorem wait19_c (s : TState) (s_0 s_1 s_2 s_3 s_4 s_5 : Value) (wt : TWait) (h_s : s.wf) (h_wt : wt.wf) : FnV Tryz.prog 138 [.agg (cState s s_0 s_1 s_2 s_3 s_4 s_5).toArray, .agg (cWait wt).toArray] [⟨s_0, s.fAccounts⟩, ⟨s_1, s.fMarks⟩, ⟨s_2, s.fWaits⟩, ⟨s_3, s.fDeals⟩, ⟨s_4, s.fEnds⟩, ⟨s_5, s.fImage⟩] (.bool (wait19 s wt)) := by
 refine Fnc.proof Tryz.func138 G 105 G G fun X w => sq<|rg<|bx G G G fun b2 => bx G G G fun b3 => asg G G<|nl<|nx<|sq<|sq<|rg<|fa G fld_108_1 G<|ldB 0 G G one_3 G G<|cfv (client14_c _ h_wt.2.1) ok_37 G Sn G ?_
 refine nt G G<|mv G G ?_
 apply jo [(2, _), (3, _)] ⟨rfl, rfl, trivial⟩
 ·
  intro K15
  refine spO (i := 10) G (fun h10 => ?_) (fun h10 => ?_)
  ·
   exact gY G G G<|fa G fld_108_2 G<|gY G G G<|ldB 0 G G one_3 G G<|gY G G G<|cfv (seq14_c _ h_wt.2.2.1) ok_38 G Sn G<|gY G G G<|nt G G<|pkF G G G<|jR K15 h10 ⟨G, G, trivial⟩ Sr
  ·
   exact gS (g := [_, _, _, _]) G<|pkT G G G<|jR0 K15 h10 ⟨G, G, trivial⟩ Sr
 refine mv G G ?_
 apply jo [(2, _), (3, _)] ⟨rfl, rfl, trivial⟩
 ·
  intro K22
  refine spO (i := 16) G (fun h16 => ?_) (fun h16 => ?_)
  ·
   exact gY G G G<|fa G fld_108_5 G<|gY G G G<|fa G fld_34_1 G<|gY G G G<|ldB 0 G G one_9 G G<|gY G G G<|cfv (key15_c _) ok_168 G Sn G<|gY G G G<|nt G G<|pkF G G G<|jR K22 h16 ⟨G, G, trivial⟩ Sr
  ·
   exact gS (g := [_, _, _, _, _]) G<|pkT G G G<|jR0 K22 h16 ⟨G, G, trivial⟩ Sr
 refine mv G G ?_
 apply jo [(2, _), (3, _)] ⟨rfl, rfl, trivial⟩
 ·
  intro K30
  refine spO (i := 23) G (fun h23 => ?_) (fun h23 => ?_)
  ·
   exact gY G G G<|ldM 1 (cState s s_0 s_1 s_2 s_3 s_4 s_5) G G row_55 G G<|gY G G G<|fa G fld_108_5 G<|gY G G G<|fa G fld_34_1 G<|gY G G G<|ldB 0 G G one_9 G G<|gY G G G<|cfv (owns19_c _ _ _ _ _ _ _ _ h_s) ok_81 G (Sc 0 G (Sc 1 G (Sc 2 G (Sc 3 G (Sc 4 G (Sc 5 G Sn)))))) G<|gY G G G<|nt G G<|pkF G G G<|jR K30 h23 ⟨G, G, trivial⟩ Sr
  ·
   exact gS (g := [_, _, _, _, _, _]) G<|pkT G G G<|jR0 K30 h23 ⟨G, G, trivial⟩ Sr
 refine mv G G ?_
 apply jo [(3, _)] ⟨rfl, trivial⟩
 ·
  intro K37
  refine spO (i := 31) G (fun h31 => ?_) (fun h31 => ?_)
  ·
   exact gY G G G<|ldM 1 (cState s s_0 s_1 s_2 s_3 s_4 s_5) G G row_55 G G<|gY G G G<|fa G fld_108_5 G<|gY G G G<|fa G fld_34_1 G<|gY G G G<|ldB 0 G G one_9 G G<|gY G G G<|cfv (sealed19_c _ _ _ _ _ _ _ _ h_s) ok_196 G (Sc 0 G (Sc 1 G (Sc 2 G (Sc 3 G (Sc 4 G (Sc 5 G Sn)))))) G<|pkF G G G<|jR K37 h31 ⟨G, trivial⟩ Sr
  ·
   exact gS (g := [_, _, _, _, _]) G<|pkT G G G<|jR0 K37 h31 ⟨G, trivial⟩ Sr
 refine nl<|nx<|cdB G (fun h37 => ?_) (fun h37 => ?_)
 ·
  have e37 : (wait19a s wt) = true := h37
  refine sq<|rg<|asg G G<|nl<|nx<|rt<|tR<|dpQ<|dpQ ?_
  exact fR1 () G G (by rw [wait19, e37]; try rfl) G Sn
 ·
  have e37 : (wait19a s wt) = false := h37
  refine sk<|nx<|sq<|sq<|rg<|fa G fld_108_0 G<|ldB 0 G G one_3 G G<|nl<|nx<|bk<|sq<|rg<|eqI G G G<|asg G G ?_
  refine nl<|nx<|cdP G (fun h40 => ?_) (fun h40 => ?_)
  ·
   have e40 : (decide (wt.fKind = 1)) = true := (decide_eq_true h40)
   refine sq<|rg<|fa G fld_108_5 G<|ldM 0 (cOp wt.fOp) G G row_34 G G<|al zero_34 G fun b5 => stW 0 (us := (cOp wt.fOp)) G G G row_34 G G<|nl<|nx<|sq<|rg<|fa G fld_108_3 G<|ldB 1 G G one_3 G G<|geI G G G<|mv G G ?_
   apply jo [(3, _), (5, _)] ⟨rfl, rfl, trivial⟩
   ·
    intro K51
    refine spA (i := 47) G (fun h47 => ?_) (fun h47 => ?_)
    ·
     have p47 := of_decide_eq_true h47
     exact gY G G G<|fa G fld_108_3 G<|gY G G G<|ldB 1 G G one_3 G G<|gY G G G<|leI G G G<|pkT G G G<|jA K51 h47 ⟨G, G, trivial⟩ Sr
    ·
     exact gS (g := [_, _, _]) G<|pkF G G G<|jA0 K51 h47 ⟨G, G, trivial⟩ Sr
   refine mv G G ?_
   apply jo [(5, _)] ⟨rfl, trivial⟩
   ·
    intro K56
    refine spA (i := 52) G (fun h52 => ?_) (fun h52 => ?_)
    ·
     exact gY G G G<|fa G fld_108_4 G<|gY G G G<|ldB 1 G G one_3 G G<|gY G G G<|eqI G G G<|pkT G G G<|jA K56 h52 ⟨G, trivial⟩ Sr
    ·
     exact gS (g := [_, _, _]) G<|pkF G G G<|jA0 K56 h52 ⟨G, trivial⟩ Sr
   refine mv G G ?_
   apply jo [(5, _)] ⟨rfl, trivial⟩
   ·
    intro K61
    refine spA (i := 57) G (fun h57 => ?_) (fun h57 => ?_)
    ·
     exact gY G G G<|fa G fld_34_0 G<|gY G G G<|ldB 0 G G one_3 G G<|gY G G G<|geI G G G<|pkT G G G<|jA K61 h57 ⟨G, trivial⟩ Sr
    ·
     exact gS (g := [_, _, _]) G<|pkF G G G<|jA0 K61 h57 ⟨G, trivial⟩ Sr
   refine mv G G ?_
   apply jo [(5, _)] ⟨rfl, trivial⟩
   ·
    intro K66
    refine spA (i := 62) G (fun h62 => ?_) (fun h62 => ?_)
    ·
     exact gY G G G<|fa G fld_34_0 G<|gY G G G<|ldB 0 G G one_3 G G<|gY G G G<|leI G G G<|pkT G G G<|jA K66 h62 ⟨G, trivial⟩ Sr
    ·
     exact gS (g := [_, _, _]) G<|pkF G G G<|jA0 K66 h62 ⟨G, trivial⟩ Sr
   refine mv G G ?_
   apply jo [] trivial
   ·
    intro K76
    refine spA (i := 67) G (fun h67 => ?_) (fun h67 => ?_)
    ·
     refine gY G G G<|fa G fld_34_0 G<|gY G G G<|ldB 0 G G one_3 G G<|gY G G G<|gtI G G G<|gY G G G<|mv G G ?_
     apply jo [(67, _)] ⟨rfl, trivial⟩
     ·
      intro K75
      refine spO (i := 71) G (fun h71 => ?_) (fun h71 => ?_)
      ·
       have p71 := of_decide_eq_false h71
       exact gY G G G<|fa G fld_34_3 G<|gY G G G<|ldB 0 G G one_3 G G<|gY G G G<|geI G G G<|gY G G G<|pkF G G G<|jR K75 h71 ⟨G, trivial⟩ Sr
      ·
       exact gS (g := [_, _, _]) G<|gY G G G<|pkT G G G<|jR0 K75 h71 ⟨G, trivial⟩ Sr
     exact pkT G G G<|jA K76 h67 trivial Sr
    ·
     exact gS (g := [_, _, _, _, _, _, _, _]) G<|pkF G G G<|jA0 K76 h67 trivial Sr
   refine asg G G<|nl<|nx<|rt<|bR<|tR<|dpQ<|dpQ<|dpQ ?_
   exact fR1 () G G (by rw [wait19, e37, e40]; try rfl) G Sn
  ·
   have e40 : (decide (wt.fKind = 1)) = false := (decide_eq_false h40)
   refine sq<|rg<|eqI G G G<|asg G G<|nl<|nx<|cdP G (fun h77 => ?_) (fun h77 => ?_)
   ·
    have e77 : (decide (wt.fKind = 2)) = true := (decide_eq_true h77)
    refine sq<|rg<|fa G fld_108_3 G<|ldB 0 G G one_3 G G<|eqI G G G<|mv G G ?_
    apply jo [(3, _)] ⟨rfl, trivial⟩
    ·
     intro K86
     refine spA (i := 82) G (fun h82 => ?_) (fun h82 => ?_)
     ·
      have p82 := of_decide_eq_true h82
      exact gY G G G<|fa G fld_108_4 G<|gY G G G<|ldB 0 G G one_3 G G<|gY G G G<|cfv (group19_c _ h_wt.2.2.2.2.1) ok_132 G Sn G<|pkT G G G<|jA K86 h82 ⟨G, trivial⟩ Sr
     ·
      exact gS (g := [_, _, _]) G<|pkF G G G<|jA0 K86 h82 ⟨G, trivial⟩ Sr
    refine mv G G ?_
    apply jo [(3, _)] ⟨rfl, trivial⟩
    ·
     intro K98
     refine spA (i := 87) G (fun h87 => ?_) (fun h87 => ?_)
     ·
      refine gY G G G<|fa G fld_108_5 G<|gY G G G<|ldM 0 (cOp wt.fOp) G G row_34 G G<|gY G G G<|fa G fld_108_5 G<|gY G G G<|fa G fld_34_1 G<|gY G G G<|ldB 0 G G one_9 G G<|gY G G G<|fa G fld_108_5 G<|gY G G G<|fa G fld_34_3 G ?_
      exact gY G G G<|ldB 0 G G one_3 G G<|gY G G G<|bd (ps := [(1, .tmp 92), (3, .tmp 95)]) (cs := (cOp ((⟨0, wt.fOp.fKey, ByteArray.empty, wt.fOp.fN, 0, 0⟩ : TOp)))) (by rfl) (by kernel_rfl) G<|gY G G G<|eqT eq_Op (wt.fOp) ((⟨0, wt.fOp.fKey, ByteArray.empty, wt.fOp.fN, 0, 0⟩ : TOp)) G G G<|pkT G G G<|jA K98 h87 ⟨G, trivial⟩ Sr
     ·
      exact gS (g := [_, _, _, _, _, _, _, _, _, _]) G<|pkF G G G<|jA0 K98 h87 ⟨G, trivial⟩ Sr
    refine mv G G ?_
    apply jo [] trivial
    ·
     intro K104
     refine spA (i := 99) G (fun h99 => ?_) (fun h99 => ?_)
     ·
      exact gY G G G<|fa G fld_108_5 G<|gY G G G<|fa G fld_34_3 G<|gY G G G<|ldB 0 G G one_3 G G<|gY G G G<|neI G G G<|pkT G G G<|jA K104 h99 trivial Sr
     ·
      exact gS (g := [_, _, _, _]) G<|pkF G G G<|jA0 K104 h99 trivial Sr
    refine asg G G<|nl<|nx<|rt<|bR<|tR<|dpQ<|dpQ ?_
    exact fR1 () G G (by rw [wait19, e37, e40, e77]; try rfl) G Sn
   ·
    have e77 : (decide (wt.fKind = 2)) = false := (decide_eq_false h77)
    refine sk<|bN<|nx<|sq<|rg<|asg G G<|nl<|nx<|rt<|dpQ<|dpQ ?_
    exact fR1 () G G (by rw [wait19, e37, e40, e77]; try rfl) G Sn

theorem below16_c (x : TRight) (y : TRight) (h_x : x.wf) (h_y : y.wf) : FnV Tryz.prog 131 [.agg (cRight x).toArray, .agg (cRight y).toArray] [] (.bool (belowP x y)) := by
 refine Fnc.proof Tryz.func131 G 24 G G fun X w => sq<|rg<|bx G G G fun b2 => bx G G G fun b3 => asg G G<|nl<|nx<|sq<|rg<|fa G fld_59_0 G<|ldB 1 G G one_3 G G<|fa G fld_59_0 G<|ldB 0 G G one_3 G G ?_
 refine ltI G G G<|mv G G ?_
 apply jo [] trivial
 ·
  intro K23
  refine spO (i := 10) G (fun h10 => ?_) (fun h10 => ?_)
  ·
   have p10 := of_decide_eq_false h10
   refine gY G G G<|fa G fld_59_0 G<|gY G G G<|ldB 1 G G one_3 G G<|gY G G G<|fa G fld_59_0 G<|gY G G G<|ldB 0 G G one_3 G G<|gY G G G<|eqI G G G<|gY G G G<|mv G G ?_
   apply jo [(10, _)] ⟨rfl, trivial⟩
   ·
    intro K22
    refine spA (i := 16) G (fun h16 => ?_) (fun h16 => ?_)
    ·
     have p16 := of_decide_eq_true h16
     exact gY G G G<|fa G fld_59_1 G<|gY G G G<|ldB 1 G G one_9 G G<|gY G G G<|fa G fld_59_1 G<|gY G G G<|ldB 0 G G one_9 G G<|gY G G G<|ltS G G G<|gY G G G<|pkT G G G<|jA K22 h16 ⟨G, trivial⟩ Sr
    ·
     exact gS (g := [_, _, _, _, _]) G<|gY G G G<|pkF G G G<|jA0 K22 h16 ⟨G, trivial⟩ Sr
   exact pkF G G G<|jR K23 h10 trivial Sr
  ·
   exact gS (g := [_, _, _, _, _, _, _, _, _, _, _, _]) G<|pkT G G G<|jR0 K23 h10 trivial Sr
 refine asg G G<|nl<|nx<|rt<|dpQ<|dpQ ?_
 exact fR1 () G G (by rfl) G Sn

theorem right16_c (v_l : Value) (l : List TRight) : FnV Tryz.prog 61 [v_l] [⟨v_l, l⟩] (.bool (rights16 l)) := by
 refine Fnc.proof Tryz.func61 G 33 G G fun X w => sq<|rg<|asg G G<|nl<|nx<|sq<|sq<|rg<|asg G G<|nl<|nx<|bk<|lpC (σ := Nat) [(0, _)] _ (fun i C => (3, .int .i64 (i : Int)) :: C) (fun i => i ≤ l.length ∧ (∀ j, j < i → (!right16j l j) = true)) (fun i => l.length - i) 0 ⟨G, trivial⟩ (Sc 0 G Sn) ⟨Nat.zero_le _, fun j hj => absurd hj (Nat.not_lt_zero j)⟩ ⟨G, G, trivial⟩ ?_
 rintro i ⟨hi, hall⟩
 refine sq<|sq<|rg<|mv G G<|mv G G<|lnP 0 G G Tryz.underlying29 G fun l6 => ltI G G G<|nl<|nx<|cdP G (fun h7 => ?_) (fun h7 => ?_)
 ·
  refine sk<|nx<|sq<|bk<|sq<|rgQ mixed (by kernel_rfl)<|mv G G<|mv G G<|ixP 0 G G G slt_29 (by omega) (getDE (d := default) (by omega)) G fun v12 => ldS 0 G G row_59 G fun q13 w13 => ?_
  refine cfq (lmay16_c _ w13) ok_130 G Sn G<|nt G G<|mv G G ?_
  apply jo [(0, _), (3, _)] ⟨rfl, rfl, trivial⟩
  ·
   intro K32
   refine spO (i := 16) G (fun h16 => ?_) (fun h16 => ?_)
   ·
    have p16 := h16
    try simp only [Bool.or_eq_false_iff, Bool.and_eq_true, decide_eq_true_eq, decide_eq_false_iff_not, Bool.not_eq_true', Bool.not_eq_false'] at p16
    refine gY G G G<|mv G G<|gY G G G<|gtI G G G<|gY G G G<|mv G G ?_
    apply jo [(0, _), (3, _), (16, _)] ⟨rfl, rfl, rfl, trivial⟩
    ·
     intro K31
     refine spA (i := 19) G (fun h19 => ?_) (fun h19 => ?_)
     ·
      have p19 := of_decide_eq_true h19
      refine gY G G G<|mv G G<|gY G G G<|mv G G<|gY G G G<|sbI G G (inI (by omega) (by omega)) G<|gY G G G<|ixP 2 G G G slt_29 (by omega) (getDE (d := default) (by omega)) G fun v23 => gY G G G<|ldS 0 G G row_59 G fun q24 w24 => ?_
      refine gY G G G<|mv G G<|gY G G G<|mv G G<|gY G G G<|ixP 4 G G G slt_29 (by omega) (getDE (d := default) (by omega)) G fun v27 => gY G G G<|ldS 0 G G row_59 G fun q28 w28 => ?_
      exact gY G G G<|cfq (below16_c _ _ w24 w28) ok_131 G Sn G<|gY G G G<|nt G G<|gY G G G<|pkT G G G<|jA K31 h19 ⟨G, G, G, trivial⟩ (SubD.tail (SubD.tail (SubD.tail (SubD.tail Sr))))
     ·
      exact gS (g := [_, _, _, _, _, _, _, _, _, _, _]) G<|gY G G G<|pkF G G G<|jA0 K31 h19 ⟨G, G, G, trivial⟩ Sr
    exact pkF G G G<|jR K32 h16 ⟨G, G, trivial⟩ Sr
   ·
    exact gS (g := [_, _, _, _, _, _, _, _, _, _, _, _, _, _, _]) G<|pkT G G G<|jR0 K32 h16 ⟨G, G, trivial⟩ Sr
  refine nlQ<|nx<|cdB G (fun h32 => ?_) (fun h32 => ?_)
  ·
   refine sq<|rg<|asg G G<|nl<|nx<|rt<|bR<|tR<|tR<|bR<|tR ?_
   exact fR1 () G G (by rw [rights16, allI_false i (by omega) (not_t h32)]; try rfl) G Sn
  ·
   refine sk<|bN<|nx<|rg<|mv G G<|adI G G (inI (by omega) (by omega)) G<|asg G G<|nl ?_
   exact ag (i + 1) ⟨(by omega), (all_snoc hall (not_f h32))⟩ (by omega) ⟨G, G, trivial⟩ G (Sc 2 G Sn)
 ·
  refine ex<|tE<|tE<|bE<|nx<|sq<|rg<|asg G G<|nl<|nx<|rt ?_
  exact fR1 () G G (by rw [rights16, allI_true (fun j hj => hall j (by omega))]; try rfl) G Sn

theorem right17_c (v_l : Value) (l : List TPlace) : FnV Tryz.prog 127 [v_l] [⟨v_l, l⟩] (.bool (places17 l)) := by
 refine Fnc.proof Tryz.func127 G 83 G G fun X w => sq<|rg<|asg G G<|nl<|nx<|sq<|sq<|rg<|mv G G<|lnP 0 G G Tryz.underlying22 G fun l7 => ltI G G G<|mv G G ?_
 apply jo [(0, _)] ⟨rfl, trivial⟩
 ·
  intro K13
  refine spO (i := 9) G (fun h9 => ?_) (fun h9 => ?_)
  ·
   have p9 := of_decide_eq_false h9
   exact gY G G G<|mv G G<|gY G G G<|lnP 0 G G Tryz.underlying22 G fun l11 => gY G G G<|gtI G G G<|pkF G G G<|jR K13 h9 ⟨G, trivial⟩ Sr
  ·
   exact gS (g := [_, _, _]) G<|pkT G G G<|jR0 K13 h9 ⟨G, trivial⟩ Sr
 refine mv G G ?_
 apply jo [(0, _)] ⟨rfl, trivial⟩
 ·
  intro K20
  refine spO (i := 14) G (fun h14 => ?_) (fun h14 => ?_)
  ·
   have p14 := h14
   try simp only [Bool.or_eq_false_iff, Bool.and_eq_true, decide_eq_true_eq, decide_eq_false_iff_not, Bool.not_eq_true', Bool.not_eq_false'] at p14
   refine gY G G G<|mv G G<|gY G G G<|ixP 0 G G G slt_22 (by omega) (getDE (d := default) (by omega)) G fun v16 => gY G G G<|faP (α := TPlace) (β := ByteArray) 0 (fun x : TPlace => x.fFrom) G G fld_90_1 pPlace_1 G fun v17 => gY G G G<|ldV 0 G G one_9 G fun w18 => ?_
   exact gY G G G<|neS G G G<|pkF G G G<|jR K20 h14 ⟨G, trivial⟩ (SubD.tail (SubD.tail Sr))
  ·
   exact gS (g := [_, _, _, _, _]) G<|pkT G G G<|jR0 K20 h14 ⟨G, trivial⟩ Sr
 refine nl<|nx<|cdB G (fun h20 => ?_) (fun h20 => ?_)
 ·
  have e20 : (place17a l) = true := h20
  refine sq<|rg<|asg G G<|nl<|nx<|rt<|tR ?_
  exact fR1 () G G (by rw [places17, if_pos e20]) G Sn
 ·
  have e20 : (place17a l) = false := h20
  refine sk<|nx<|sq<|sq<|rg<|asg G G<|nl<|nx<|bk<|lpC (σ := Nat) [(0, _)] _ (fun i C => (3, .int .i64 (i : Int)) :: C) (fun i => i ≤ l.length ∧ (∀ j, j < i → (!place17b l j && place17c l j) = true)) (fun i => l.length - i) 0 ⟨G, trivial⟩ (Sc 0 G Sn) ⟨Nat.zero_le _, fun j hj => absurd hj (Nat.not_lt_zero j)⟩ ⟨G, G, trivial⟩ ?_
  rintro i ⟨hi, hall⟩
  refine sq<|sq<|rg<|mv G G<|mv G G<|lnP 0 G G Tryz.underlying22 G fun l23 => ltI G G G<|nl<|nx<|cdP G (fun h24 => ?_) (fun h24 => ?_)
  ·
   refine sk<|nx<|sq<|bk<|sq<|rg<|mv G G<|mv G G<|ixP 0 G G G slt_22 (by omega) (getDE (d := default) (by omega)) G fun v29 => ldS 0 G G row_90 G fun q30 w30 => ?_
   refine al zero_90 G fun b4 => stW 0 (us := (cPlace ((l.getD i default)))) G G G row_90 G G<|nl<|nx<|sq<|sq<|rgQ mixed (by kernel_rfl)<|fa G fld_90_0 G<|ldB 0 G G one_3 G G<|ltI G G G<|mv G G ?_
   apply jo [(0, _), (3, _), (4, _)] ⟨rfl, rfl, rfl, trivial⟩
   ·
    intro K38
    refine spO (i := 34) G (fun h34 => ?_) (fun h34 => ?_)
    ·
     have p34 := of_decide_eq_false h34
     exact gY G G G<|fa G fld_90_0 G<|gY G G G<|ldB 0 G G one_3 G G<|gY G G G<|geI G G G<|pkF G G G<|jR K38 h34 ⟨G, G, G, trivial⟩ Sr
    ·
     exact gS (g := [_, _, _]) G<|pkT G G G<|jR0 K38 h34 ⟨G, G, G, trivial⟩ Sr
   refine mv G G ?_
   apply jo [(0, _), (3, _), (4, _)] ⟨rfl, rfl, rfl, trivial⟩
   ·
    intro K43
    refine spO (i := 39) G (fun h39 => ?_) (fun h39 => ?_)
    ·
     exact gY G G G<|fa G fld_90_2 G<|gY G G G<|ldB 0 G G one_3 G G<|gY G G G<|ltI G G G<|pkF G G G<|jR K43 h39 ⟨G, G, G, trivial⟩ Sr
    ·
     exact gS (g := [_, _, _]) G<|pkT G G G<|jR0 K43 h39 ⟨G, G, G, trivial⟩ Sr
   refine mv G G ?_
   apply jo [(0, _), (3, _), (4, _)] ⟨rfl, rfl, rfl, trivial⟩
   ·
    intro K48
    refine spO (i := 44) G (fun h44 => ?_) (fun h44 => ?_)
    ·
     exact gY G G G<|fa G fld_90_2 G<|gY G G G<|ldB 0 G G one_3 G G<|gY G G G<|gtI G G G<|pkF G G G<|jR K48 h44 ⟨G, G, G, trivial⟩ Sr
    ·
     exact gS (g := [_, _, _]) G<|pkT G G G<|jR0 K48 h44 ⟨G, G, G, trivial⟩ Sr
   refine mv G G ?_
   apply jo [(0, _), (3, _), (4, _)] ⟨rfl, rfl, rfl, trivial⟩
   ·
    intro K54
    refine spO (i := 49) G (fun h49 => ?_) (fun h49 => ?_)
    ·
     exact gY G G G<|fa G fld_90_1 G<|gY G G G<|ldB 0 G G one_9 G G<|gY G G G<|lnS G Tryz.underlying9 G<|gY G G G<|gtI G G G<|pkF G G G<|jR K54 h49 ⟨G, G, G, trivial⟩ Sr
    ·
     exact gS (g := [_, _, _, _]) G<|pkT G G G<|jR0 K54 h49 ⟨G, G, G, trivial⟩ Sr
   refine mv G G ?_
   apply jo [(0, _), (3, _), (4, _)] ⟨rfl, rfl, rfl, trivial⟩
   ·
    intro K69
    refine spO (i := 55) G (fun h55 => ?_) (fun h55 => ?_)
    ·
     have p55 := h55
     try simp only [Bool.or_eq_false_iff, Bool.and_eq_true, decide_eq_true_eq, decide_eq_false_iff_not, Bool.not_eq_true', Bool.not_eq_false'] at p55
     refine gY G G G<|mv G G<|gY G G G<|gtI G G G<|gY G G G<|mv G G ?_
     apply jo [(0, _), (3, _), (4, _), (55, _)] ⟨rfl, rfl, rfl, rfl, trivial⟩
     ·
      intro K68
      refine spA (i := 58) G (fun h58 => ?_) (fun h58 => ?_)
      ·
       have p58 := of_decide_eq_true h58
       refine gY G G G<|fa G fld_90_1 G<|gY G G G<|ldB 0 G G one_9 G G<|gY G G G<|mv G G<|gY G G G<|mv G G<|gY G G G<|sbI G G (inI (by omega) (by omega)) G<|gY G G G<|ixP 2 G G G slt_22 (by omega) (getDE (d := default) (by omega)) G fun v64 => gY G G G<|faP (α := TPlace) (β := ByteArray) 0 (fun x : TPlace => x.fFrom) G G fld_90_1 pPlace_1 G fun v65 => ?_
       refine gY G G G<|ldV 0 G G one_9 G fun w66 => ?_
       exact gY G G G<|leS G G G<|gY G G G<|pkT G G G<|jA K68 h58 ⟨G, G, G, G, trivial⟩ (SubD.tail (SubD.tail Sr))
      ·
       exact gS (g := [_, _, _, _, _, _, _, _, _]) G<|gY G G G<|pkF G G G<|jA0 K68 h58 ⟨G, G, G, G, trivial⟩ Sr
     exact pkF G G G<|jR K69 h55 ⟨G, G, G, trivial⟩ Sr
    ·
     exact gS (g := [_, _, _, _, _, _, _, _, _, _, _, _, _]) G<|pkT G G G<|jR0 K69 h55 ⟨G, G, G, trivial⟩ Sr
   refine nlQ<|nx<|cdB G (fun h69 => ?_) (fun h69 => ?_)
   ·
    refine sq<|rg<|asg G G<|nl<|nx<|rt<|tR<|bR<|tR<|tR<|bR<|tR<|dpQ ?_
    exact fR1 () G G (by rw [places17, if_neg (by rw [e20]; decide), allI_false i (by omega) (by rw [show place17b l i = true from h69]; rfl)]) G Sn
   ·
    refine sk<|nx<|sq<|rg<|asg G G<|nl<|nx<|bk<|lpC (σ := Nat) [(0, _), (3, _), (4, _)] _ (fun k C => (5, .int .i64 (k : Int)) :: C) (fun k => k ≤ i ∧ (∀ j, j < k → (!decide ((l.getD j default).fGroup = (l.getD i default).fGroup)) = true)) (fun k => i - k) 0 ⟨G, G, G, trivial⟩ (Sc 2 G Sn) ⟨Nat.zero_le _, fun j hj => absurd hj (Nat.not_lt_zero j)⟩ ⟨G, G, G, G, trivial⟩ ?_
    rintro k ⟨hi_k, hall_k⟩
    refine sq<|sq<|rg<|mv G G<|mv G G<|ltI G G G<|nl<|nx<|cdP G (fun h72 => ?_) (fun h72 => ?_)
    ·
     refine sk<|nx<|sq<|bk<|sq<|rgQ mixed (by kernel_rfl)<|mv G G<|mv G G<|ixP 0 G G G slt_22 (by omega) (getDE (d := default) (by omega)) G fun v77 => faP (α := TPlace) (β := Int) 0 (fun x : TPlace => x.fGroup) G G fld_90_0 pPlace_0 G fun v78 => ldV 0 G G one_3 G fun w79 => ?_
     refine fa G fld_90_0 G<|ldB 0 G G one_3 G G<|eqI G G G<|nlQ<|nx<|cdP G (fun h82 => ?_) (fun h82 => ?_)
     ·
      refine sq<|rg<|asg G G<|nl<|nx<|rt<|bR<|tR<|tR<|bR<|bR<|tR<|tR<|bR ?_
      refine tR<|dpQ ?_
      exact fR1 () G G (by rw [places17, if_neg (by rw [e20]; decide), allI_false i (by omega) (by rw [show place17c l i = false from allI_false k (by omega) (not_decfalse h82)]; exact Bool.and_false _)]) G Sn
     ·
      refine sk<|bN<|nx<|rg<|mv G G<|adI G G (inI (by omega) (by omega)) G<|asg G G<|nl ?_
      exact ag (k + 1) ⟨(by omega), (all_snoc hall_k (not_dectrue h82))⟩ (by omega) ⟨G, G, G, G, trivial⟩ G (Sc 2 G Sn)
    ·
     have hin : (!place17b l i && place17c l i) = true := by rw [show place17b l i = false from h69, show place17c l i = true from allI_true (fun j hj => hall_k j (by omega))]; rfl
     refine ex<|tE<|tE<|bE<|bN<|nx<|rg<|mv G G<|adI G G (inI (by omega) (by omega)) G<|asg G G<|nl<|dpQ ?_
     exact ag (i + 1) ⟨(by omega), (all_snoc hall (hin))⟩ (by omega) ⟨G, G, trivial⟩ G (Sc 0 G Sn)
  ·
   refine ex<|tE<|tE<|bE<|nx<|sq<|rg<|asg G G<|nl<|nx<|rt ?_
   exact fR1 () G G (by rw [places17, if_neg (by rw [e20]; decide), allI_true (fun j hj => hall j (by omega))]) G Sn

theorem epoch17_c (v_l : Value) (l : List TPlace) : FnV Tryz.prog 116 [v_l] [⟨v_l, l⟩] (.int .i64 (epochP l)) := by
 refine Fnc.proof Tryz.func116 G 19 G G fun X w => sq<|rg<|asg G G<|nl<|nx<|sq<|rg<|asg G G<|nl<|nx<|sq<|sq<|rg ?_
 refine asg G G<|nl<|nx<|bk<|lpC (σ := Nat) [(0, _)] _ (fun i C => (4, .int .i64 (i : Int)) :: (3, .int .i64 (maxI (fun j => (l.getD j default).fEpoch) i)) :: C) (fun i => i ≤ l.length) (fun i => l.length - i) 0 ⟨G, trivial⟩ (Sc 0 G Sn) (Nat.zero_le _) ⟨G, G, G, trivial⟩ ?_
 intro i hi
 refine sq<|sq<|rg<|mv G G<|mv G G<|lnP 0 G G Tryz.underlying22 G fun l7 => ltI G G G<|nl<|nx<|cdP G (fun h8 => ?_) (fun h8 => ?_)
 ·
  refine sk<|nx<|sq<|bk<|rg<|mv G G<|mv G G<|mv G G<|ixP 0 G G G slt_22 (by omega) (getDE (d := default) (by omega)) G fun v14 => faP (α := TPlace) (β := Int) 0 (fun x : TPlace => x.fEpoch) G G fld_90_2 pPlace_2 G fun v15 => ldV 0 G G one_3 G fun w16 => ?_
  refine mxI G G G G<|asg G G<|nl<|bN<|nx<|rg<|mv G G<|adI G G (inI (by omega) (by omega)) G<|asg G G<|nl ?_
  exact ag (i + 1) (by omega) (by omega) ⟨G, G, G, trivial⟩ G (Sc 2 G Sn)
 ·
  refine ex<|tE<|tE<|bE<|nx<|sq<|rg<|mv G G<|asg G G<|nl<|nx<|rt ?_
  exact fR1 () G G (by have e : i = l.length := (by omega); rw [e, epochP]) G Sn
end Go.Proofs.YtmpoffijcfaalaaGreat

/- Walks, written by specs2.py. -/

namespace Go.Proofs.YtmpoffijcfaalaaGreat
open Go.Eng Go.YtmpoffijcfaalaaGreat
set_option maxHeartbeats 1000000

theorem sum_c (v_l : Value) (l : List Int) : FnV Tryz.prog 164 [v_l] [⟨v_l, l⟩] (sumV l.sum) := by
 refine Fnc.proof Tryz.func164 G 41 G G fun X w => gtC (q := allIn l) (fun S w h => ints_all (h _ (List.mem_cons_self ..))) fun hA => gtC (q := l.length ≤ 9223372036854775807) (fun S w h => list_len (h _ (List.mem_of_getElem? (i := 0) G))) fun hlen => sq<|rg<|asg G G<|asg G G<|nl<|nx<|sq<|rg<|asg G G<|asg G G<|nl ?_
 refine nx<|sq<|sq<|rg<|mv G G<|lnP 0 G G Tryz.underlying220 G fun l11 => mv G G<|nl<|nx<|bk<|lpC (σ := Nat × Int × Int) [(10, _), (11, _)] _ (fun s C => (12, .int .i64 (s.1 : Int)) :: (4, .int .u64 s.2.1) :: (5, .int .u64 s.2.2) :: C) (fun s => s.1 ≤ l.length ∧ s.2.1 = (l.take s.1).sum / 18446744073709551616 % 18446744073709551616 ∧ s.2.2 = (l.take s.1).sum % 18446744073709551616 ∧ -((s.1 : Int) * 9223372036854775808) ≤ (l.take s.1).sum ∧ (l.take s.1).sum ≤ (s.1 : Int) * 9223372036854775808) (fun s => l.length - s.1) (0, 0, 0) ⟨G, G, trivial⟩ (Sc 0 G Sn) ⟨Nat.zero_le _, by simp, by simp, by simp, by simp⟩ ⟨G, G, G, G, G, trivial⟩ ?_
 rintro ⟨i, hi, lo⟩ ⟨g1, g2, g3, g4, g5⟩
 simp only at g1 g2 g3 g4 g5
 refine sq<|rg<|ltI G G G<|nl<|nx<|sq<|cdP G (fun h13 => ?_) (fun h13 => ?_)
 ·
  have hx := getD_InI hA (i := i) (by omega)
  refine sk<|nx<|sq<|bk<|sq<|rg<|ixP 0 G G G slt_220 (by omega) (getDE (d := default) (by omega)) G fun v14 => ldV 0 G G one_3 G fun w15 => ?_
  refine asg G G<|nl<|nx<|sq<|rg<|asg G G<|nl<|nx<|sq<|rg<|mv G G<|mv G G<|cv Tryz.underlying3 Tryz.underlying209 G (wrapu _) G ?_
  have hx20 := fun w => add64_ok (P := Tryz.prog) lo (l.getD i default % 18446744073709551616) 0 (by omega) (by omega) (by omega) (by omega) w
  refine cx ext_222 hx20 G G<|mv G G<|xt G G G<|xt G G G<|asg G G<|asg G G<|nl<|nx<|rg<|mv G G<|mv G G<|shR G G (by omega) (shr63 hx) G<|cv Tryz.underlying3 Tryz.underlying209 G (wrapu _) G<|mv G G ?_
  have hx29 := fun w => add64_ok (P := Tryz.prog) hi (sg (l.getD i default) % 18446744073709551616) ((lo + l.getD i default % 18446744073709551616 + 0) / 18446744073709551616) (by omega) (by omega) (by omega) (by omega) w
  refine cx ext_222 hx29 G G<|mv G G<|xt G G G<|xt G G G<|asg G G<|nl<|bN<|nx<|rg<|adI G G (inI (by omega) (by omega)) G<|mv G G<|nl ?_
  have hst := sum_step g2 g3 hx
  have hs := sum_take (l := l) (i := i) (by omega)
  obtain ⟨hx1, hx2⟩ := hx
  exact ag (i + 1, (hi + sg (l.getD i default) % 18446744073709551616 + (lo + l.getD i default % 18446744073709551616 + 0) / 18446744073709551616) % 18446744073709551616, (lo + l.getD i default % 18446744073709551616 + 0) % 18446744073709551616) ⟨by show i + 1 ≤ l.length; omega, by show _ = (l.take (i + 1)).sum / 18446744073709551616 % 18446744073709551616; rw [hs]; exact hst.1, by show _ = (l.take (i + 1)).sum % 18446744073709551616; rw [hs]; exact hst.2, by show -(((i + 1 : Nat) : Int) * 9223372036854775808) ≤ (l.take (i + 1)).sum; rw [hs]; omega, by show (l.take (i + 1)).sum ≤ ((i + 1 : Nat) : Int) * 9223372036854775808; rw [hs]; omega⟩ (by show l.length - (i + 1) < l.length - i; omega) ⟨G, G, G, G, G, trivial⟩ G (Sc 1 G Sn)
 ·
  have e : i = l.length := by omega
  subst e
  rw [List.take_length] at g2 g3 g4 g5
  have hend := sum_end g2 g3 (by omega)
  refine ex<|tE<|tE<|bE<|nx<|sq<|rg<|mv G G<|cv Tryz.underlying209 Tryz.underlying3 G G G<|asg G G<|nl<|nx<|sq<|sq ?_
  refine rg<|mv G G<|mv G G<|shR G G (by omega) (shr63 (wrapi_in lo)) G<|cv Tryz.underlying3 Tryz.underlying209 G (wrapu _) G<|neI G G G<|nl<|nx<|cdN G (fun h39 => ?_) (fun h39 => ?_)
  ·
   exact sq<|rg<|asg G G<|asg G G<|nl<|nx<|rt<|tR<|fR2 () G G G (by show _ = sumV l.sum; rw [sumV, sumI, sumE, if_neg (fun hq => h39 (hend.1.2 hq)), if_neg (fun hq => h39 (hend.1.2 hq))]) G Sn
  ·
   exact sk<|nx<|sq<|rg<|mv G G<|asg G G<|asg G G<|nl<|nx<|rt<|fR2 () G G G (by show _ = sumV l.sum; rw [sumV, sumI, sumE, if_pos (hend.1.1 h39), if_pos (hend.1.1 h39), hend.2 (hend.1.1 h39)]) G Sn
end Go.Proofs.YtmpoffijcfaalaaGreat
