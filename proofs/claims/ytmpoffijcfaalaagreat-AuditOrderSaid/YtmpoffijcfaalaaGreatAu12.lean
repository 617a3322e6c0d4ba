/- Part 12 of the proof of auditOrder_holds: DutW3, DutW4, DutW5, DutW6, DutSL. Every text below begins with what it shows. -/
import Derived.Test.YtmpoffijcfaalaaGreatAu11

/- Walks, written by specs2.py. -/

namespace Go.Proofs.YtmpoffijcfaalaaGreat
open Go.Eng Go.YtmpoffijcfaalaaGreat
set_option maxHeartbeats 1000000

theorem find_c (v_l : Value) (l : List TPlace) (key : ByteArray) : FnV Tryz.prog 35 [v_l, .string key] [⟨v_l, l⟩] (.int .i64 (findP l key : Int)) := by
 refine Fnc.proof Tryz.func35 G 22 G G fun X w => sq<|rg<|asg G G<|nl<|nx<|sq<|rg<|asg G G<|nl<|nx<|sq<|sq<|rg ?_
 refine mv G G<|lnP 0 G G Tryz.underlying22 G fun l9 => mv G G<|nl<|nx<|bk<|lpC (σ := Nat × Nat) [(1, _), (8, _), (9, _)] _ (fun s C => (10, .int .i64 (s.1 : Int)) :: (5, .int .i64 (s.2 : Int)) :: C) (fun s => s.1 ≤ l.length ∧ s.2 = lastI s.1 (fun j => !ltB key (l.getD j default).fFrom)) (fun s => l.length - s.1) (0, 0) ⟨G, G, G, trivial⟩ (Sc 0 G Sn) ⟨Nat.zero_le _, G⟩ ⟨G, G, G, G, G, trivial⟩ ?_
 rintro ⟨i, a⟩ ⟨hi, ha⟩
 simp only at hi ha
 refine sq<|rg<|ltI G G G<|nl<|nx<|sq<|cdP G (fun h11 => ?_) (fun h11 => ?_)
 ·
  refine sk<|nx<|sq<|bk<|sq<|rg<|mv G G<|ixP 0 G G G slt_22 (by omega) (getDE (d := default) (by omega)) G fun v13 => ldS 0 G G row_90 G fun q14 w14 => ?_
  refine al zero_90 G fun b7 => asg G G<|stW 0 (us := (cPlace ((l.getD i default)))) G G G row_90 G G<|nl<|nx<|sq<|rg<|fa G fld_90_1 G<|ldB 0 G G one_9 G G<|mv G G<|leS G G G<|nl<|nx<|cdB G (fun h18 => ?_) (fun h18 => ?_)
  ·
   refine rg<|mv G G<|asg G G<|nl<|bN<|nx<|rg<|adI G G (inI (by omega) (by omega)) G<|mv G G<|nl<|dpQ ?_
   exact ag (i + 1, i) ⟨by show i + 1 ≤ l.length; omega, by show i = if (!ltB key (l.getD i default).fFrom) = true then i else lastI i (fun j => !ltB key (l.getD j default).fFrom); rw [if_pos (by rw [← le_ge]; exact h18)]⟩ (by show l.length - (i + 1) < l.length - i; omega) ⟨G, G, G, G, G, trivial⟩ G (Sc 2 G Sn)
  ·
   refine sk<|bN<|nx<|rg<|adI G G (inI (by omega) (by omega)) G<|mv G G<|nl<|dpQ ?_
   exact ag (i + 1, a) ⟨by show i + 1 ≤ l.length; omega, by show a = if (!ltB key (l.getD i default).fFrom) = true then i else lastI i (fun j => !ltB key (l.getD j default).fFrom); rw [if_neg (by rw [← le_ge, h18]; decide)]; exact ha⟩ (by show l.length - (i + 1) < l.length - i; omega) ⟨G, G, G, G, G, trivial⟩ G (Sc 2 G Sn)
 ·
  refine ex<|tE<|tE<|bE<|nx<|sq<|rg<|mv G G<|asg G G<|nl<|nx<|rt ?_
  exact fR1 () G G (by have e : i = l.length := (by omega); show Value.int .i64 (a : Int) = _; rw [ha, e, findP]) G Sn

theorem of_c (v_l : Value) (l : List TPlace) (gr : Int) (h_gr : InI gr) : FnV Tryz.prog 173 [v_l, .int .i64 gr] [⟨v_l, l⟩] (ofV (ofP l gr)) := by
 refine Fnc.proof Tryz.func173 G 21 G G fun X w => ?_
 obtain ⟨h_gr1, h_gr2⟩ := id h_gr
 refine sq<|rg<|asg G G<|asg G G<|nl<|nx<|sq<|sq<|rg<|mv G G<|lnP 0 G G Tryz.underlying22 G fun l9 => mv G G<|nl<|nx ?_
 refine bk<|lpC (σ := Nat) [(1, _), (8, _), (9, _)] _ (fun i C => (10, .int .i64 (i : Int)) :: C) (fun i => i ≤ l.length ∧ (∀ j, j < i → decide ((l.getD j default).fGroup = gr) = false)) (fun i => l.length - i) 0 ⟨G, G, G, trivial⟩ (Sc 0 G Sn) ⟨Nat.zero_le _, fun j hj => absurd hj (Nat.not_lt_zero j)⟩ ⟨G, G, G, G, trivial⟩ ?_
 rintro i ⟨hi, hall⟩
 refine sq<|rg<|ltI G G G<|nl<|nx<|sq<|cdP G (fun h11 => ?_) (fun h11 => ?_)
 ·
  refine sk<|nx<|sq<|bk<|sq<|rg<|mv G G<|ixP 0 G G G slt_22 (by omega) (getDE (d := default) (by omega)) G fun v13 => ldS 0 G G row_90 G fun q14 w14 => ?_
  refine al zero_90 G fun b7 => asg G G<|stW 0 (us := (cPlace ((l.getD i default)))) G G G row_90 G G<|nl<|nx<|sq<|rg<|fa G fld_90_0 G<|ldB 0 G G one_3 G G<|mv G G<|eqI G G G<|nl<|nx<|cdP G (fun h18 => ?_) (fun h18 => ?_)
  ·
   refine sq<|rg<|mv G G<|asg G G<|asg G G<|nl<|nx<|rt<|bR<|tR<|tR<|bR<|tR<|dpQ ?_
   exact fR2 () G G G (by rw [ofP, firstI_some (j := i) (by omega) hall (decide_eq_true h18)]; try rfl) G Sn
  ·
   refine sk<|bN<|nx<|rg<|adI G G (inI (by omega) (by omega)) G<|mv G G<|nl<|dpQ ?_
   exact ag (i + 1) ⟨(by omega), (all_snoc hall (decide_eq_false h18))⟩ (by omega) ⟨G, G, G, G, trivial⟩ G (Sc 2 G Sn)
 ·
  exact ex<|tE<|tE<|bE<|nx<|sq<|rg<|asg G G<|asg G G<|nl<|nx<|rt<|fR2 () G G G (by rw [ofP, firstI_none (fun k hk => hall k (by omega))]; try rfl) G Sn

theorem counts_c (v_l : Value) (l : List Int) : FnV Tryz.prog 179 [v_l] [⟨v_l, l⟩] (.bool (countsP l)) := by
 refine Fnc.proof Tryz.func179 G 18 G G fun X w => sq<|rg<|asg G G<|nl<|nx<|sq<|sq<|rg<|mv G G<|lnP 0 G G Tryz.underlying220 G fun l6 => mv G G<|nl<|nx ?_
 refine bk<|lpC (σ := Nat) [(5, _), (6, _)] _ (fun i C => (7, .int .i64 (i : Int)) :: C) (fun i => i ≤ l.length ∧ (∀ j, j < i → (!(decide (l.getD j default < 0) || decide (l.getD j default > far))) = true)) (fun i => l.length - i) 0 ⟨G, G, trivial⟩ (Sc 0 G Sn) ⟨Nat.zero_le _, fun j hj => absurd hj (Nat.not_lt_zero j)⟩ ⟨G, G, G, trivial⟩ ?_
 rintro i ⟨hi, hall⟩
 refine sq<|rg<|ltI G G G<|nl<|nx<|sq<|cdP G (fun h8 => ?_) (fun h8 => ?_)
 ·
  refine sk<|nx<|sq<|bk<|sq<|rg<|ixP 0 G G G slt_220 (by omega) (getDE (d := default) (by omega)) G fun v9 => ldV 0 G G one_3 G fun w10 => ?_
  refine asg G G<|nl<|nx<|sq<|rg<|mv G G<|ltI G G G<|mv G G ?_
  apply jo [(5, _), (6, _), (7, _)] ⟨rfl, rfl, rfl, trivial⟩
  ·
   intro K16
   refine spO (i := 13) G (fun h13 => ?_) (fun h13 => ?_)
   ·
    have p13 := of_decide_eq_false h13
    exact gY G G G<|mv G G<|gY G G G<|gtI G G G<|pkF G G G<|jR K16 h13 ⟨G, G, G, trivial⟩ Sr
   ·
    exact gS (g := [_, _]) G<|pkT G G G<|jR0 K16 h13 ⟨G, G, G, trivial⟩ Sr
  refine nl<|nx<|cdB G (fun h16 => ?_) (fun h16 => ?_)
  ·
   refine sq<|rg<|asg G G<|nl<|nx<|rt<|bR<|tR<|tR<|bR<|tR ?_
   exact fR1 () G G (by rw [countsP, allI_false i (by omega) (not_t h16)]; try rfl) G Sn
  ·
   refine sk<|bN<|nx<|rg<|adI G G (inI (by omega) (by omega)) G<|mv G G<|nl ?_
   exact ag (i + 1) ⟨(by omega), (all_snoc hall (not_f h16))⟩ (by omega) ⟨G, G, G, trivial⟩ G (Sc 1 G Sn)
 ·
  refine ex<|tE<|tE<|bE<|nx<|sq<|rg<|asg G G<|nl<|nx<|rt ?_
  exact fR1 () G G (by rw [countsP, allI_true (fun j hj => hall j (by omega))]; try rfl) G Sn

theorem scheck_c (v_l : Value) (l : List TMark) : FnV Tryz.prog 182 [v_l] [⟨v_l, l⟩] (.int .i64 (errF (marksP l))) := by
 refine Fnc.proof Tryz.func182 G 49 G G fun X w => sq<|rg<|asg G G<|nl<|nx<|sq<|rg<|asg G G<|nl<|nx<|sq<|sq<|rg ?_
 refine mv G G<|lnP 0 G G Tryz.underlying25 G fun l7 => mv G G<|nl<|nx<|bk<|lpC (σ := Nat) [(6, _), (7, _)] _ (fun i C => (8, .int .i64 (i : Int)) :: (3, .int .i64 (prevI (fun k => (l.getD k default).fClient) i)) :: C) (fun i => i ≤ l.length ∧ (∀ j, j < i → (!markP (prevI (fun k => (l.getD k default).fClient) j) (l.getD j default)) = true)) (fun i => l.length - i) 0 ⟨G, G, trivial⟩ (Sc 0 G Sn) ⟨Nat.zero_le _, fun j hj => absurd hj (Nat.not_lt_zero j)⟩ ⟨G, G, G, G, trivial⟩ ?_
 rintro i ⟨hi, hall⟩
 refine sq<|rg<|ltI G G G<|nl<|nx<|sq<|cdP G (fun h9 => ?_) (fun h9 => ?_)
 ·
  refine sk<|nx<|sq<|bk<|sq<|rg<|ixP 0 G G G slt_25 (by omega) (getDE (d := default) (by omega)) G fun v10 => ldS 0 G G row_122 G fun q11 w11 => ?_
  refine al zero_122 G fun b5 => stW 0 (us := (cMark ((l.getD i default)))) G G G row_122 G G<|nl<|nx<|sq<|sq<|rg<|fa G fld_122_0 G<|ldB 0 G G one_3 G G<|mv G G<|leI G G G<|mv G G ?_
  apply jo [(5, _), (6, _), (7, _), (8, _)] ⟨rfl, rfl, rfl, rfl, trivial⟩
  ·
   intro K20
   refine spO (i := 16) G (fun h16 => ?_) (fun h16 => ?_)
   ·
    have p16 := of_decide_eq_false h16
    exact gY G G G<|fa G fld_122_0 G<|gY G G G<|ldB 0 G G one_3 G G<|gY G G G<|gtI G G G<|pkF G G G<|jR K20 h16 ⟨G, G, G, G, trivial⟩ Sr
   ·
    exact gS (g := [_, _, _]) G<|pkT G G G<|jR0 K20 h16 ⟨G, G, G, G, trivial⟩ Sr
  refine mv G G ?_
  apply jo [(5, _), (6, _), (7, _), (8, _)] ⟨rfl, rfl, rfl, rfl, trivial⟩
  ·
   intro K25
   refine spO (i := 21) G (fun h21 => ?_) (fun h21 => ?_)
   ·
    exact gY G G G<|fa G fld_122_1 G<|gY G G G<|ldB 0 G G one_3 G G<|gY G G G<|ltI G G G<|pkF G G G<|jR K25 h21 ⟨G, G, G, G, trivial⟩ Sr
   ·
    exact gS (g := [_, _, _]) G<|pkT G G G<|jR0 K25 h21 ⟨G, G, G, G, trivial⟩ Sr
  refine mv G G ?_
  apply jo [(5, _), (6, _), (7, _), (8, _)] ⟨rfl, rfl, rfl, rfl, trivial⟩
  ·
   intro K30
   refine spO (i := 26) G (fun h26 => ?_) (fun h26 => ?_)
   ·
    exact gY G G G<|fa G fld_122_1 G<|gY G G G<|ldB 0 G G one_3 G G<|gY G G G<|gtI G G G<|pkF G G G<|jR K30 h26 ⟨G, G, G, G, trivial⟩ Sr
   ·
    exact gS (g := [_, _, _]) G<|pkT G G G<|jR0 K30 h26 ⟨G, G, G, G, trivial⟩ Sr
  refine mv G G ?_
  apply jo [(5, _), (6, _), (7, _), (8, _)] ⟨rfl, rfl, rfl, rfl, trivial⟩
  ·
   intro K45
   refine spO (i := 31) G (fun h31 => ?_) (fun h31 => ?_)
   ·
    refine gY G G G<|fa G fld_122_2 G<|gY G G G<|ldB 0 G G one_4 G G<|gY G G G<|mv G G ?_
    apply jo [(5, _), (6, _), (7, _), (8, _), (31, _)] ⟨rfl, rfl, rfl, rfl, rfl, trivial⟩
    ·
     intro K44
     refine spA (i := 34) G (fun h34 => ?_) (fun h34 => ?_)
     ·
      refine gY G G G<|fa G fld_122_1 G<|gY G G G<|ldB 0 G G one_3 G G<|gY G G G<|eqI G G G<|gY G G G<|mv G G ?_
      apply jo [(5, _), (6, _), (7, _), (8, _), (31, _), (34, _)] ⟨rfl, rfl, rfl, rfl, rfl, rfl, trivial⟩
      ·
       intro K43
       refine spO (i := 38) G (fun h38 => ?_) (fun h38 => ?_)
       ·
        have p38 := of_decide_eq_false h38
        exact gY G G G<|fa G fld_122_3 G<|gY G G G<|ldM 0 (cAnswer ((l.getD i default).fAnswer)) G G row_120 G G<|gY G G G<|bd (ps := []) (cs := (cAnswer ((⟨0, 0, 0, 0⟩ : TAnswer)))) (by rfl) (by kernel_rfl) G<|gY G G G<|neT eq_Answer ((l.getD i default).fAnswer) ((⟨0, 0, 0, 0⟩ : TAnswer)) G G G<|gY G G G<|pkF G G G<|jR K43 h38 ⟨G, G, G, G, G, G, trivial⟩ Sr
       ·
        exact gS (g := [_, _, _, _]) G<|gY G G G<|pkT G G G<|jR0 K43 h38 ⟨G, G, G, G, G, G, trivial⟩ Sr
      exact gY G G G<|pkT G G G<|jA K44 h34 ⟨G, G, G, G, G, trivial⟩ Sr
     ·
      exact gS (g := [_, _, _, _, _, _, _, _, _]) G<|gY G G G<|pkF G G G<|jA0 K44 h34 ⟨G, G, G, G, G, trivial⟩ Sr
    exact pkF G G G<|jR K45 h31 ⟨G, G, G, G, trivial⟩ Sr
   ·
    exact gS (g := [_, _, _, _, _, _, _, _, _, _, _, _, _]) G<|pkT G G G<|jR0 K45 h31 ⟨G, G, G, G, trivial⟩ Sr
  refine nl<|nx<|cdB G (fun h45 => ?_) (fun h45 => ?_)
  ·
   refine sq<|rg<|asg G G<|nl<|nx<|rt<|tR<|bR<|tR<|tR<|bR<|tR<|dpQ ?_
   exact fR1 () G G (by rw [marksP, allI_false i (by omega) (not_t h45)]; try rfl) G Sn
  ·
   refine sk<|nx<|rg<|fa G fld_122_0 G<|ldB 0 G G one_3 G G<|asg G G<|nl<|bN<|nx<|rg<|adI G G (inI (by omega) (by omega)) G<|mv G G<|nl<|dpQ ?_
   exact ag (i + 1) ⟨(by omega), (all_snoc hall (not_f h45))⟩ (by omega) ⟨G, G, G, G, trivial⟩ G (Sc 2 G Sn)
 ·
  refine ex<|tE<|tE<|bE<|nx<|sq<|rg<|asg G G<|nl<|nx<|rt ?_
  exact fR1 () G G (by rw [marksP, allI_true (fun j hj => hall j (by omega))]; try rfl) G Sn

theorem dends_c (v_l : Value) (l : List TEnd) : FnV Tryz.prog 184 [v_l] [⟨v_l, l⟩] (.int .i64 (errF (endsP l))) := by
 refine Fnc.proof Tryz.func184 G 27 G G fun X w => sq<|rg<|asg G G<|nl<|nx<|sq<|rg<|asg G G<|nl<|nx<|sq<|sq<|rg ?_
 refine mv G G<|lnP 0 G G Tryz.underlying53 G fun l7 => mv G G<|nl<|nx<|bk<|lpC (σ := Nat) [(6, _), (7, _)] _ (fun i C => (8, .int .i64 (i : Int)) :: (3, .int .i64 (prevI (fun k => (l.getD k default).fClient) i)) :: C) (fun i => i ≤ l.length ∧ (∀ j, j < i → (!(decide ((l.getD j default).fClient ≤ prevI (fun k => (l.getD k default).fClient) j) || !okWhose (l.getD j default).fClient (l.getD j default).fSeq)) = true)) (fun i => l.length - i) 0 ⟨G, G, trivial⟩ (Sc 0 G Sn) ⟨Nat.zero_le _, fun j hj => absurd hj (Nat.not_lt_zero j)⟩ ⟨G, G, G, G, trivial⟩ ?_
 rintro i ⟨hi, hall⟩
 refine sq<|rg<|ltI G G G<|nl<|nx<|sq<|cdP G (fun h9 => ?_) (fun h9 => ?_)
 ·
  refine sk<|nx<|sq<|bk<|sq<|rg<|ixP 0 G G G slt_53 (by omega) (getDE (d := default) (by omega)) G fun v10 => ldS 0 G G row_129 G fun q11 w11 => ?_
  refine al zero_129 G fun b5 => stW 0 (us := (cEnd ((l.getD i default)))) G G G row_129 G G<|nl<|nx<|sq<|sq<|rg<|fa G fld_129_0 G<|ldB 0 G G one_3 G G<|mv G G<|leI G G G<|mv G G ?_
  apply jo [(5, _), (6, _), (7, _), (8, _)] ⟨rfl, rfl, rfl, rfl, trivial⟩
  ·
   intro K23
   refine spO (i := 16) G (fun h16 => ?_) (fun h16 => ?_)
   ·
    have p16 := of_decide_eq_false h16
    exact gY G G G<|fa G fld_129_0 G<|gY G G G<|ldB 0 G G one_3 G G<|gY G G G<|fa G fld_129_1 G<|gY G G G<|ldB 0 G G one_3 G G<|gY G G G<|cfv (dwhose_c _ _ w11.1 w11.2) ok_239 G Sn G<|gY G G G<|nt G G<|pkF G G G<|jR K23 h16 ⟨G, G, G, G, trivial⟩ Sr
   ·
    exact gS (g := [_, _, _, _, _, _]) G<|pkT G G G<|jR0 K23 h16 ⟨G, G, G, G, trivial⟩ Sr
  refine nl<|nx<|cdB G (fun h23 => ?_) (fun h23 => ?_)
  ·
   refine sq<|rg<|asg G G<|nl<|nx<|rt<|tR<|bR<|tR<|tR<|bR<|tR<|dpQ ?_
   exact fR1 () G G (by rw [endsP, allI_false i (by omega) (not_t h23)]; try rfl) G Sn
  ·
   refine sk<|nx<|rg<|fa G fld_129_0 G<|ldB 0 G G one_3 G G<|asg G G<|nl<|bN<|nx<|rg<|adI G G (inI (by omega) (by omega)) G<|mv G G<|nl<|dpQ ?_
   exact ag (i + 1) ⟨(by omega), (all_snoc hall (not_f h23))⟩ (by omega) ⟨G, G, G, G, trivial⟩ G (Sc 2 G Sn)
 ·
  refine ex<|tE<|tE<|bE<|nx<|sq<|rg<|asg G G<|nl<|nx<|rt ?_
  exact fR1 () G G (by rw [endsP, allI_true (fun j hj => hall j (by omega))]; try rfl) G Sn
end Go.Proofs.YtmpoffijcfaalaaGreat

/- Walks, written by specs2.py. -/

namespace Go.Proofs.YtmpoffijcfaalaaGreat
open Go.Eng Go.YtmpoffijcfaalaaGreat
set_option maxHeartbeats 1000000

theorem dmay_c (d : TDeal) (h_d : d.wf) : FnV Tryz.prog 238 [.agg (cDeal d).toArray] [] (.bool (dmayP d)) := by
 refine Fnc.proof Tryz.func238 G 82 G G fun X w => sq<|rg<|bx G G G fun b1 => asg G G<|nl<|nx<|sq<|sq<|rg<|fa G fld_126_0 G<|ldB 0 G G one_3 G G<|fa G fld_126_1 G<|ldB 0 G G one_3 G G ?_
 refine cfv (dwhose_c _ _ h_d.1 h_d.2.1) ok_239 G Sn G<|nt G G<|mv G G ?_
 apply jo [(1, _)] ⟨rfl, trivial⟩
 ·
  intro K14
  refine spO (i := 10) G (fun h10 => ?_) (fun h10 => ?_)
  ·
   exact gY G G G<|fa G fld_126_4 G<|gY G G G<|ldB 0 G G one_3 G G<|gY G G G<|ltI G G G<|pkF G G G<|jR K14 h10 ⟨G, trivial⟩ Sr
  ·
   exact gS (g := [_, _, _]) G<|pkT G G G<|jR0 K14 h10 ⟨G, trivial⟩ Sr
 refine mv G G ?_
 apply jo [(1, _)] ⟨rfl, trivial⟩
 ·
  intro K21
  refine spO (i := 15) G (fun h15 => ?_) (fun h15 => ?_)
  ·
   exact gY G G G<|fa G fld_126_2 G<|gY G G G<|ldB 0 G G one_9 G G<|gY G G G<|fa G fld_126_3 G<|gY G G G<|ldB 0 G G one_9 G G<|gY G G G<|eqS G G G<|pkF G G G<|jR K21 h15 ⟨G, trivial⟩ Sr
  ·
   exact gS (g := [_, _, _, _, _]) G<|pkT G G G<|jR0 K21 h15 ⟨G, trivial⟩ Sr
 refine mv G G ?_
 apply jo [(1, _)] ⟨rfl, trivial⟩
 ·
  intro K26
  refine spO (i := 22) G (fun h22 => ?_) (fun h22 => ?_)
  ·
   exact gY G G G<|fa G fld_126_5 G<|gY G G G<|ldB 0 G G one_3 G G<|gY G G G<|ltI G G G<|pkF G G G<|jR K26 h22 ⟨G, trivial⟩ Sr
  ·
   exact gS (g := [_, _, _]) G<|pkT G G G<|jR0 K26 h22 ⟨G, trivial⟩ Sr
 refine mv G G ?_
 apply jo [(1, _)] ⟨rfl, trivial⟩
 ·
  intro K31
  refine spO (i := 27) G (fun h27 => ?_) (fun h27 => ?_)
  ·
   exact gY G G G<|fa G fld_126_5 G<|gY G G G<|ldB 0 G G one_3 G G<|gY G G G<|gtI G G G<|pkF G G G<|jR K31 h27 ⟨G, trivial⟩ Sr
  ·
   exact gS (g := [_, _, _]) G<|pkT G G G<|jR0 K31 h27 ⟨G, trivial⟩ Sr
 refine mv G G ?_
 apply jo [(1, _)] ⟨rfl, trivial⟩
 ·
  intro K36
  refine spO (i := 32) G (fun h32 => ?_) (fun h32 => ?_)
  ·
   exact gY G G G<|fa G fld_126_6 G<|gY G G G<|ldB 0 G G one_3 G G<|gY G G G<|ltI G G G<|pkF G G G<|jR K36 h32 ⟨G, trivial⟩ Sr
  ·
   exact gS (g := [_, _, _]) G<|pkT G G G<|jR0 K36 h32 ⟨G, trivial⟩ Sr
 refine mv G G ?_
 apply jo [(1, _)] ⟨rfl, trivial⟩
 ·
  intro K41
  refine spO (i := 37) G (fun h37 => ?_) (fun h37 => ?_)
  ·
   exact gY G G G<|fa G fld_126_6 G<|gY G G G<|ldB 0 G G one_3 G G<|gY G G G<|gtI G G G<|pkF G G G<|jR K41 h37 ⟨G, trivial⟩ Sr
  ·
   exact gS (g := [_, _, _]) G<|pkT G G G<|jR0 K41 h37 ⟨G, trivial⟩ Sr
 refine nl<|nx<|cdB G (fun h41 => ?_) (fun h41 => ?_)
 ·
  have e41 : (dmay1 d) = true := h41
  refine sq<|rg<|asg G G<|nl<|nx<|rt<|tR<|dpQ ?_
  exact fR1 () G G (by rw [dmayP, e41]; try rfl) G Sn
 ·
  have e41 : (dmay1 d) = false := h41
  refine sk<|nx<|sq<|sq<|rg<|fa G fld_126_2 G<|ldB 0 G G one_9 G G<|lnS G Tryz.underlying9 G<|ltI G G G<|mv G G ?_
  apply jo [(1, _)] ⟨rfl, trivial⟩
  ·
   intro K51
   refine spO (i := 46) G (fun h46 => ?_) (fun h46 => ?_)
   ·
    have p46 := of_decide_eq_false h46
    exact gY G G G<|fa G fld_126_2 G<|gY G G G<|ldB 0 G G one_9 G G<|gY G G G<|lnS G Tryz.underlying9 G<|gY G G G<|gtI G G G<|pkF G G G<|jR K51 h46 ⟨G, trivial⟩ Sr
   ·
    exact gS (g := [_, _, _, _]) G<|pkT G G G<|jR0 K51 h46 ⟨G, trivial⟩ Sr
  refine mv G G ?_
  apply jo [(1, _)] ⟨rfl, trivial⟩
  ·
   intro K57
   refine spO (i := 52) G (fun h52 => ?_) (fun h52 => ?_)
   ·
    exact gY G G G<|fa G fld_126_3 G<|gY G G G<|ldB 0 G G one_9 G G<|gY G G G<|lnS G Tryz.underlying9 G<|gY G G G<|ltI G G G<|pkF G G G<|jR K57 h52 ⟨G, trivial⟩ Sr
   ·
    exact gS (g := [_, _, _, _]) G<|pkT G G G<|jR0 K57 h52 ⟨G, trivial⟩ Sr
  refine mv G G ?_
  apply jo [(1, _)] ⟨rfl, trivial⟩
  ·
   intro K63
   refine spO (i := 58) G (fun h58 => ?_) (fun h58 => ?_)
   ·
    exact gY G G G<|fa G fld_126_3 G<|gY G G G<|ldB 0 G G one_9 G G<|gY G G G<|lnS G Tryz.underlying9 G<|gY G G G<|gtI G G G<|pkF G G G<|jR K63 h58 ⟨G, trivial⟩ Sr
   ·
    exact gS (g := [_, _, _, _]) G<|pkT G G G<|jR0 K63 h58 ⟨G, trivial⟩ Sr
  refine nl<|nx<|cdB G (fun h63 => ?_) (fun h63 => ?_)
  ·
   have e63 : (dmay2 d) = true := h63
   refine sq<|rg<|asg G G<|nl<|nx<|rt<|tR<|dpQ ?_
   exact fR1 () G G (by rw [dmayP, e41, e63]; try rfl) G Sn
  ·
   have e63 : (dmay2 d) = false := h63
   refine sk<|nx<|sq<|rg<|fa G fld_126_5 G<|ldB 0 G G one_3 G G<|fa G fld_126_6 G<|ldB 0 G G one_3 G G<|cfv (fate_c _ _ h_d.2.2.2.2.2.1 h_d.2.2.2.2.2.2.1) ok_284 G Sn G<|asg G G<|nl<|nx<|sq<|rg ?_
   refine fa G fld_126_7 G<|ldB 0 G G one_3 G G<|mv G G<|eqI G G G<|mv G G ?_
   apply jo [] trivial
   ·
    intro K81
    refine spO (i := 73) G (fun h73 => ?_) (fun h73 => ?_)
    ·
     have p73 := of_decide_eq_false h73
     refine gY G G G<|mv G G<|gY G G G<|eqI G G G<|gY G G G<|mv G G ?_
     apply jo [(73, _)] ⟨rfl, trivial⟩
     ·
      intro K80
      refine spA (i := 76) G (fun h76 => ?_) (fun h76 => ?_)
      ·
       have p76 := of_decide_eq_true h76
       exact gY G G G<|fa G fld_126_7 G<|gY G G G<|ldB 0 G G one_3 G G<|gY G G G<|eqI G G G<|gY G G G<|pkT G G G<|jA K80 h76 ⟨G, trivial⟩ Sr
      ·
       exact gS (g := [_, _, _]) G<|gY G G G<|pkF G G G<|jA0 K80 h76 ⟨G, trivial⟩ Sr
     exact pkF G G G<|jR K81 h73 trivial Sr
    ·
     exact gS (g := [_, _, _, _, _, _, _]) G<|pkT G G G<|jR0 K81 h73 trivial Sr
   refine asg G G<|nl<|nx<|rt<|dpQ ?_
   exact fR1 () G G (by rw [dmayP, e41, e63]; try rfl) G Sn

theorem owned_c (s : TState) (s_0 s_1 s_2 s_3 s_4 s_5 : Value) (h_s : s.wf) : FnV Tryz.prog 180 [.agg (cState s s_0 s_1 s_2 s_3 s_4 s_5).toArray] [⟨s_0, s.fAccounts⟩, ⟨s_1, s.fMarks⟩, ⟨s_2, s.fWaits⟩, ⟨s_3, s.fDeals⟩, ⟨s_4, s.fEnds⟩, ⟨s_5, s.fImage⟩] (.bool (ownedP s)) := by
 refine Fnc.proof Tryz.func180 G 42 G G fun X w => sq<|rg<|bx G G G fun b1 => asg G G<|nl<|nx<|sq<|sq<|rg<|fa G fld_55_2 G<|ldB 0 G G one_4 G G<|nt G G<|nl ?_
 refine nx<|cdB G (fun h5 => ?_) (fun h5 => ?_)
 ·
  have e5 : (!s.fOwns) = true := h5
  refine sq<|rg<|fa G fld_55_3 G<|ldB 0 G G one_9 G G<|eqS G G G<|mv G G ?_
  apply jo [(1, _)] ⟨rfl, trivial⟩
  ·
   intro K13
   refine spA (i := 9) G (fun h9 => ?_) (fun h9 => ?_)
   ·
    have p9 := of_decide_eq_true h9
    exact gY G G G<|fa G fld_55_4 G<|gY G G G<|ldB 0 G G one_9 G G<|gY G G G<|eqS G G G<|pkT G G G<|jA K13 h9 ⟨G, trivial⟩ Sr
   ·
    exact gS (g := [_, _, _]) G<|pkF G G G<|jA0 K13 h9 ⟨G, trivial⟩ Sr
  refine mv G G ?_
  apply jo [(1, _)] ⟨rfl, trivial⟩
  ·
   intro K19
   refine spA (i := 14) G (fun h14 => ?_) (fun h14 => ?_)
   ·
    exact gY G G G<|fa G fld_55_6 G<|gY G G G<|ldB 0 G G one_50 G G<|gY G G G<|lnP 0 G G Tryz.underlying50 G fun l17 => gY G G G<|eqI G G G<|pkT G G G<|jA K19 h14 ⟨G, trivial⟩ Sr
   ·
    exact gS (g := [_, _, _, _]) G<|pkF G G G<|jA0 K19 h14 ⟨G, trivial⟩ Sr
  refine mv G G ?_
  apply jo [(1, _)] ⟨rfl, trivial⟩
  ·
   intro K25
   refine spA (i := 20) G (fun h20 => ?_) (fun h20 => ?_)
   ·
    exact gY G G G<|fa G fld_55_8 G<|gY G G G<|ldB 0 G G one_51 G G<|gY G G G<|lnP 2 G G Tryz.underlying51 G fun l23 => gY G G G<|eqI G G G<|pkT G G G<|jA K25 h20 ⟨G, trivial⟩ Sr
   ·
    exact gS (g := [_, _, _, _]) G<|pkF G G G<|jA0 K25 h20 ⟨G, trivial⟩ Sr
  refine mv G G ?_
  apply jo [] trivial
  ·
   intro K31
   refine spA (i := 26) G (fun h26 => ?_) (fun h26 => ?_)
   ·
    exact gY G G G<|fa G fld_55_11 G<|gY G G G<|ldM 0 (cPlan s.fSeal) G G row_24 G G<|gY G G G<|bd (ps := []) (cs := (cPlan ((⟨0, 0, 0, ByteArray.empty, ByteArray.empty, 0, 0⟩ : TPlan)))) (by rfl) (by kernel_rfl) G<|gY G G G<|eqT eq_Plan (s.fSeal) ((⟨0, 0, 0, ByteArray.empty, ByteArray.empty, 0, 0⟩ : TPlan)) G G G<|pkT G G G<|jA K31 h26 trivial Sr
   ·
    exact gS (g := [_, _, _, _]) G<|pkF G G G<|jA0 K31 h26 trivial Sr
  refine asg G G<|nl<|nx<|rt<|tR<|dpQ ?_
  exact fR1 () G G (by rw [ownedP, e5]; try rfl) G Sn
 ·
  have e5 : (!s.fOwns) = false := h5
  refine sk<|nx<|sq<|rg<|fa G fld_55_5 G<|ldB 0 G G one_3 G G<|geI G G G<|mv G G ?_
  apply jo [] trivial
  ·
   intro K41
   refine spA (i := 35) G (fun h35 => ?_) (fun h35 => ?_)
   ·
    have p35 := of_decide_eq_true h35
    exact gY G G G<|fa G fld_55_3 G<|gY G G G<|ldB 0 G G one_9 G G<|gY G G G<|fa G fld_55_4 G<|gY G G G<|ldB 0 G G one_9 G G<|gY G G G<|cfv (spans_c _ _) ok_237 G Sn G<|pkT G G G<|jA K41 h35 trivial Sr
   ·
    exact gS (g := [_, _, _, _, _]) G<|pkF G G G<|jA0 K41 h35 trivial Sr
  refine asg G G<|nl<|nx<|rt<|dpQ ?_
  exact fR1 () G G (by rw [ownedP, e5]; try rfl) G Sn

theorem waiting_c (s : TState) (s_0 s_1 s_2 s_3 s_4 s_5 : Value) (wt : TWait) (h_s : s.wf) (h_wt : wt.wf) : FnV Tryz.prog 185 [.agg (cState s s_0 s_1 s_2 s_3 s_4 s_5).toArray, .agg (cWait wt).toArray] [⟨s_0, s.fAccounts⟩, ⟨s_1, s.fMarks⟩, ⟨s_2, s.fWaits⟩, ⟨s_3, s.fDeals⟩, ⟨s_4, s.fEnds⟩, ⟨s_5, s.fImage⟩] (.bool (waitP s wt)) := by
 refine Fnc.proof Tryz.func185 G 100 G G fun X w => sq<|rg<|bx G G G fun b2 => bx G G G fun b3 => asg G G<|nl<|nx<|sq<|sq<|rg<|fa G fld_108_1 G<|ldB 0 G G one_3 G G<|fa G fld_108_2 G ?_
 refine ldB 0 G G one_3 G G<|cfv (swhose_c _ _ h_wt.2.1 h_wt.2.2.1) ok_240 G Sn G<|nt G G<|mv G G ?_
 apply jo [(2, _), (3, _)] ⟨rfl, rfl, trivial⟩
 ·
  intro K18
  refine spO (i := 12) G (fun h12 => ?_) (fun h12 => ?_)
  ·
   exact gY G G G<|fa G fld_108_5 G<|gY G G G<|fa G fld_34_1 G<|gY G G G<|ldB 0 G G one_9 G G<|gY G G G<|cfv (skeyed_c _) ok_241 G Sn G<|gY G G G<|nt G G<|pkF G G G<|jR K18 h12 ⟨G, G, trivial⟩ Sr
  ·
   exact gS (g := [_, _, _, _, _]) G<|pkT G G G<|jR0 K18 h12 ⟨G, G, trivial⟩ Sr
 refine mv G G ?_
 apply jo [(2, _), (3, _)] ⟨rfl, rfl, trivial⟩
 ·
  intro K26
  refine spO (i := 19) G (fun h19 => ?_) (fun h19 => ?_)
  ·
   exact gY G G G<|ldM 1 (cState s s_0 s_1 s_2 s_3 s_4 s_5) G G row_55 G G<|gY G G G<|fa G fld_108_5 G<|gY G G G<|fa G fld_34_1 G<|gY G G G<|ldB 0 G G one_9 G G<|gY G G G<|cfv (owns_c _ _ _ _ _ _ _ _ h_s) ok_78 G (Sc 0 G (Sc 1 G (Sc 2 G (Sc 3 G (Sc 4 G (Sc 5 G Sn)))))) G<|gY G G G<|nt G G<|pkF G G G<|jR K26 h19 ⟨G, G, trivial⟩ Sr
  ·
   exact gS (g := [_, _, _, _, _, _]) G<|pkT G G G<|jR0 K26 h19 ⟨G, G, trivial⟩ Sr
 refine mv G G ?_
 apply jo [(3, _)] ⟨rfl, trivial⟩
 ·
  intro K33
  refine spO (i := 27) G (fun h27 => ?_) (fun h27 => ?_)
  ·
   exact gY G G G<|ldM 1 (cState s s_0 s_1 s_2 s_3 s_4 s_5) G G row_55 G G<|gY G G G<|fa G fld_108_5 G<|gY G G G<|fa G fld_34_1 G<|gY G G G<|ldB 0 G G one_9 G G<|gY G G G<|cfv (sealed_c _ _ _ _ _ _ _ _ h_s) ok_242 G (Sc 0 G (Sc 1 G (Sc 2 G (Sc 3 G (Sc 4 G (Sc 5 G Sn)))))) G<|pkF G G G<|jR K33 h27 ⟨G, trivial⟩ Sr
  ·
   exact gS (g := [_, _, _, _, _]) G<|pkT G G G<|jR0 K33 h27 ⟨G, trivial⟩ Sr
 refine nl<|nx<|cdB G (fun h33 => ?_) (fun h33 => ?_)
 ·
  have e33 : (waitP0 s wt) = true := h33
  refine sq<|rg<|asg G G<|nl<|nx<|rt<|tR<|dpQ<|dpQ ?_
  exact fR1 () G G (by rw [waitP, e33]; try rfl) G Sn
 ·
  have e33 : (waitP0 s wt) = false := h33
  refine sk<|nx<|sq<|sq<|rg<|fa G fld_108_0 G<|ldB 0 G G one_3 G G<|nl<|nx<|bk<|sq<|rg<|eqI G G G<|asg G G ?_
  refine nl<|nx<|cdP G (fun h36 => ?_) (fun h36 => ?_)
  ·
   have e36 : (decide (wt.fKind = 1)) = true := (decide_eq_true h36)
   refine sq<|rg<|fa G fld_108_5 G<|fa G fld_34_0 G<|ldB 0 G G one_3 G G<|asg G G<|nl<|nx<|sq<|rg<|fa G fld_108_3 G<|ldB 0 G G one_3 G G<|geI G G G<|mv G G ?_
   apply jo [(3, _), (5, _)] ⟨rfl, rfl, trivial⟩
   ·
    intro K48
    refine spA (i := 44) G (fun h44 => ?_) (fun h44 => ?_)
    ·
     have p44 := of_decide_eq_true h44
     exact gY G G G<|fa G fld_108_3 G<|gY G G G<|ldB 0 G G one_3 G G<|gY G G G<|leI G G G<|pkT G G G<|jA K48 h44 ⟨G, G, trivial⟩ Sr
    ·
     exact gS (g := [_, _, _]) G<|pkF G G G<|jA0 K48 h44 ⟨G, G, trivial⟩ Sr
   refine mv G G ?_
   apply jo [(3, _), (5, _)] ⟨rfl, rfl, trivial⟩
   ·
    intro K53
    refine spA (i := 49) G (fun h49 => ?_) (fun h49 => ?_)
    ·
     exact gY G G G<|fa G fld_108_4 G<|gY G G G<|ldB 0 G G one_3 G G<|gY G G G<|eqI G G G<|pkT G G G<|jA K53 h49 ⟨G, G, trivial⟩ Sr
    ·
     exact gS (g := [_, _, _]) G<|pkF G G G<|jA0 K53 h49 ⟨G, G, trivial⟩ Sr
   refine mv G G ?_
   apply jo [(3, _), (5, _)] ⟨rfl, rfl, trivial⟩
   ·
    intro K57
    refine spA (i := 54) G (fun h54 => ?_) (fun h54 => ?_)
    ·
     exact gY G G G<|mv G G<|gY G G G<|geI G G G<|pkT G G G<|jA K57 h54 ⟨G, G, trivial⟩ Sr
    ·
     exact gS (g := [_, _]) G<|pkF G G G<|jA0 K57 h54 ⟨G, G, trivial⟩ Sr
   refine mv G G ?_
   apply jo [(3, _), (5, _)] ⟨rfl, rfl, trivial⟩
   ·
    intro K61
    refine spA (i := 58) G (fun h58 => ?_) (fun h58 => ?_)
    ·
     exact gY G G G<|mv G G<|gY G G G<|leI G G G<|pkT G G G<|jA K61 h58 ⟨G, G, trivial⟩ Sr
    ·
     exact gS (g := [_, _]) G<|pkF G G G<|jA0 K61 h58 ⟨G, G, trivial⟩ Sr
   refine mv G G ?_
   apply jo [] trivial
   ·
    intro K71
    refine spA (i := 62) G (fun h62 => ?_) (fun h62 => ?_)
    ·
     refine gY G G G<|mv G G<|gY G G G<|gtI G G G<|gY G G G<|mv G G ?_
     apply jo [(62, _)] ⟨rfl, trivial⟩
     ·
      intro K70
      refine spO (i := 65) G (fun h65 => ?_) (fun h65 => ?_)
      ·
       have p65 := of_decide_eq_false h65
       exact gY G G G<|fa G fld_108_5 G<|gY G G G<|fa G fld_34_3 G<|gY G G G<|ldB 0 G G one_3 G G<|gY G G G<|geI G G G<|gY G G G<|pkF G G G<|jR K70 h65 ⟨G, trivial⟩ Sr
      ·
       exact gS (g := [_, _, _, _]) G<|gY G G G<|pkT G G G<|jR0 K70 h65 ⟨G, trivial⟩ Sr
     exact pkT G G G<|jA K71 h62 trivial Sr
    ·
     exact gS (g := [_, _, _, _, _, _, _, _]) G<|pkF G G G<|jA0 K71 h62 trivial Sr
   refine asg G G<|nl<|nx<|rt<|bR<|tR<|dpQ<|dpQ ?_
   exact fR1 () G G (by rw [waitP, e33, e36]; try rfl) G Sn
  ·
   have e36 : (decide (wt.fKind = 1)) = false := (decide_eq_false h36)
   refine sq<|rg<|eqI G G G<|asg G G<|nl<|nx<|cdP G (fun h72 => ?_) (fun h72 => ?_)
   ·
    have e72 : (decide (wt.fKind = 2)) = true := (decide_eq_true h72)
    refine sq<|rg<|fa G fld_108_3 G<|ldB 0 G G one_3 G G<|eqI G G G<|mv G G ?_
    apply jo [(3, _)] ⟨rfl, trivial⟩
    ·
     intro K81
     refine spA (i := 77) G (fun h77 => ?_) (fun h77 => ?_)
     ·
      have p77 := of_decide_eq_true h77
      exact gY G G G<|fa G fld_108_4 G<|gY G G G<|ldB 0 G G one_3 G G<|gY G G G<|cfv (sgroup_c _ h_wt.2.2.2.2.1) ok_169 G Sn G<|pkT G G G<|jA K81 h77 ⟨G, trivial⟩ Sr
     ·
      exact gS (g := [_, _, _]) G<|pkF G G G<|jA0 K81 h77 ⟨G, trivial⟩ Sr
    refine mv G G ?_
    apply jo [(3, _)] ⟨rfl, trivial⟩
    ·
     intro K87
     refine spA (i := 82) G (fun h82 => ?_) (fun h82 => ?_)
     ·
      exact gY G G G<|fa G fld_108_5 G<|gY G G G<|fa G fld_34_3 G<|gY G G G<|ldB 0 G G one_3 G G<|gY G G G<|neI G G G<|pkT G G G<|jA K87 h82 ⟨G, trivial⟩ Sr
     ·
      exact gS (g := [_, _, _, _]) G<|pkF G G G<|jA0 K87 h82 ⟨G, trivial⟩ Sr
    refine mv G G ?_
    apply jo [] trivial
    ·
     intro K99
     refine spA (i := 88) G (fun h88 => ?_) (fun h88 => ?_)
     ·
      refine gY G G G<|fa G fld_108_5 G<|gY G G G<|ldM 0 (cOp wt.fOp) G G row_34 G G<|gY G G G<|fa G fld_108_5 G<|gY G G G<|fa G fld_34_1 G<|gY G G G<|ldB 0 G G one_9 G G<|gY G G G<|fa G fld_108_5 G<|gY G G G<|fa G fld_34_3 G ?_
      exact gY G G G<|ldB 0 G G one_3 G G<|gY G G G<|bd (ps := [(1, .tmp 93), (3, .tmp 96)]) (cs := (cOp ((⟨0, wt.fOp.fKey, ByteArray.empty, wt.fOp.fN, 0, 0⟩ : TOp)))) (by rfl) (by kernel_rfl) G<|gY G G G<|eqT eq_Op (wt.fOp) ((⟨0, wt.fOp.fKey, ByteArray.empty, wt.fOp.fN, 0, 0⟩ : TOp)) G G G<|pkT G G G<|jA K99 h88 trivial Sr
     ·
      exact gS (g := [_, _, _, _, _, _, _, _, _, _]) G<|pkF G G G<|jA0 K99 h88 trivial Sr
    refine asg G G<|nl<|nx<|rt<|bR<|tR<|dpQ<|dpQ ?_
    exact fR1 () G G (by rw [waitP, e33, e36, e72]; try rfl) G Sn
   ·
    have e72 : (decide (wt.fKind = 2)) = false := (decide_eq_false h72)
    refine sk<|bN<|nx<|sq<|rg<|asg G G<|nl<|nx<|rt<|dpQ<|dpQ ?_
    exact fR1 () G G (by rw [waitP, e33, e36, e72]; try rfl) G Sn

theorem holders_c (v_l : Value) (l : List THolder) : FnV Tryz.prog 223 [v_l] [⟨v_l, l⟩] (.bool (holdersP l)) := by
 refine Fnc.proof Tryz.func223 G 39 G G fun X w => sq<|rg<|asg G G<|nl<|nx<|sq<|rg<|asg G G<|nl<|nx<|sq<|sq<|rg ?_
 refine mv G G<|lnP 0 G G Tryz.underlying66 G fun l7 => mv G G<|nl<|nx<|bk<|lpC (σ := Nat) [(6, _), (7, _)] _ (fun i C => (8, .int .i64 (i : Int)) :: (3, .int .i64 (prevI (fun k => (l.getD k default).fNode) i)) :: C) (fun i => i ≤ l.length ∧ (∀ j, j < i → (!holdP (prevI (fun k => (l.getD k default).fNode) j) (l.getD j default)) = true)) (fun i => l.length - i) 0 ⟨G, G, trivial⟩ (Sc 0 G Sn) ⟨Nat.zero_le _, fun j hj => absurd hj (Nat.not_lt_zero j)⟩ ⟨G, G, G, G, trivial⟩ ?_
 rintro i ⟨hi, hall⟩
 refine sq<|rg<|ltI G G G<|nl<|nx<|sq<|cdP G (fun h9 => ?_) (fun h9 => ?_)
 ·
  refine sk<|nx<|sq<|bk<|sq<|rg<|ixP 0 G G G slt_66 (by omega) (getDE (d := default) (by omega)) G fun v10 => ldS 0 G G row_165 G fun q11 w11 => ?_
  refine al zero_165 G fun b5 => stW 0 (us := (cHolder ((l.getD i default)))) G G G row_165 G G<|nl<|nx<|sq<|sq<|rg<|fa G fld_165_0 G<|ldB 0 G G one_3 G G<|mv G G<|leI G G G<|mv G G ?_
  apply jo [(5, _), (6, _), (7, _), (8, _)] ⟨rfl, rfl, rfl, rfl, trivial⟩
  ·
   intro K20
   refine spO (i := 16) G (fun h16 => ?_) (fun h16 => ?_)
   ·
    have p16 := of_decide_eq_false h16
    exact gY G G G<|fa G fld_165_0 G<|gY G G G<|ldB 0 G G one_3 G G<|gY G G G<|gtI G G G<|pkF G G G<|jR K20 h16 ⟨G, G, G, G, trivial⟩ Sr
   ·
    exact gS (g := [_, _, _]) G<|pkT G G G<|jR0 K20 h16 ⟨G, G, G, G, trivial⟩ Sr
  refine mv G G ?_
  apply jo [(5, _), (6, _), (7, _), (8, _)] ⟨rfl, rfl, rfl, rfl, trivial⟩
  ·
   intro K25
   refine spO (i := 21) G (fun h21 => ?_) (fun h21 => ?_)
   ·
    exact gY G G G<|fa G fld_165_1 G<|gY G G G<|ldB 0 G G one_3 G G<|gY G G G<|ltI G G G<|pkF G G G<|jR K25 h21 ⟨G, G, G, G, trivial⟩ Sr
   ·
    exact gS (g := [_, _, _]) G<|pkT G G G<|jR0 K25 h21 ⟨G, G, G, G, trivial⟩ Sr
  refine mv G G ?_
  apply jo [(5, _), (6, _), (7, _), (8, _)] ⟨rfl, rfl, rfl, rfl, trivial⟩
  ·
   intro K30
   refine spO (i := 26) G (fun h26 => ?_) (fun h26 => ?_)
   ·
    exact gY G G G<|fa G fld_165_2 G<|gY G G G<|ldB 0 G G one_3 G G<|gY G G G<|ltI G G G<|pkF G G G<|jR K30 h26 ⟨G, G, G, G, trivial⟩ Sr
   ·
    exact gS (g := [_, _, _]) G<|pkT G G G<|jR0 K30 h26 ⟨G, G, G, G, trivial⟩ Sr
  refine mv G G ?_
  apply jo [(5, _), (6, _), (7, _), (8, _)] ⟨rfl, rfl, rfl, rfl, trivial⟩
  ·
   intro K35
   refine spO (i := 31) G (fun h31 => ?_) (fun h31 => ?_)
   ·
    exact gY G G G<|fa G fld_165_3 G<|gY G G G<|ldB 0 G G one_3 G G<|gY G G G<|ltI G G G<|pkF G G G<|jR K35 h31 ⟨G, G, G, G, trivial⟩ Sr
   ·
    exact gS (g := [_, _, _]) G<|pkT G G G<|jR0 K35 h31 ⟨G, G, G, G, trivial⟩ Sr
  refine nl<|nx<|cdB G (fun h35 => ?_) (fun h35 => ?_)
  ·
   refine sq<|rg<|asg G G<|nl<|nx<|rt<|tR<|bR<|tR<|tR<|bR<|tR<|dpQ ?_
   exact fR1 () G G (by rw [holdersP, allI_false i (by omega) (not_t h35)]; try rfl) G Sn
  ·
   refine sk<|nx<|rg<|fa G fld_165_0 G<|ldB 0 G G one_3 G G<|asg G G<|nl<|bN<|nx<|rg<|adI G G (inI (by omega) (by omega)) G<|mv G G<|nl<|dpQ ?_
   exact ag (i + 1) ⟨(by omega), (all_snoc hall (not_f h35))⟩ (by omega) ⟨G, G, G, G, trivial⟩ G (Sc 2 G Sn)
 ·
  refine ex<|tE<|tE<|bE<|nx<|sq<|rg<|asg G G<|nl<|nx<|rt ?_
  exact fR1 () G G (by rw [holdersP, allI_true (fun j hj => hall j (by omega))]; try rfl) G Sn


end Go.Proofs.YtmpoffijcfaalaaGreat

/- Walks, written by specs2.py. -/

namespace Go.Proofs.YtmpoffijcfaalaaGreat
open Go.Eng Go.YtmpoffijcfaalaaGreat
set_option maxHeartbeats 1000000

end Go.Proofs.YtmpoffijcfaalaaGreat

/- Walks, written by specs2.py. -/

namespace Go.Proofs.YtmpoffijcfaalaaGreat
open Go.Eng Go.YtmpoffijcfaalaaGreat
set_option maxHeartbeats 1000000

theorem sum_c (v_l : Value) (l : List Int) : FnV Tryz.prog 164 [v_l] [⟨v_l, l⟩] (sumV l.sum) := by
 refine Fnc.proof Tryz.func164 G 41 G G fun X w => gtC (q := allIn l) (fun S w h => ints_all (h _ (List.mem_cons_self ..))) fun hA => gtC (q := l.length ≤ 9223372036854775807) (fun S w h => list_len (h _ (List.mem_of_getElem? (i := 0) G))) fun hlen => sq<|rg<|asg G G<|asg G G<|nl<|nx<|sq<|rg<|asg G G<|asg G G<|nl ?_
 refine nx<|sq<|sq<|rg<|mv G G<|lnP 0 G G Tryz.underlying220 G fun l11 => mv G G<|nl<|nx<|bk<|lpC (σ := Nat × Int × Int) [(10, _), (11, _)] _ (fun s C => (12, .int .i64 (s.1 : Int)) :: (4, .int .u64 s.2.1) :: (5, .int .u64 s.2.2) :: C) (fun s => s.1 ≤ l.length ∧ s.2.1 = (l.take s.1).sum / 18446744073709551616 % 18446744073709551616 ∧ s.2.2 = (l.take s.1).sum % 18446744073709551616 ∧ -((s.1 : Int) * 9223372036854775808) ≤ (l.take s.1).sum ∧ (l.take s.1).sum ≤ (s.1 : Int) * 9223372036854775808) (fun s => l.length - s.1) (0, 0, 0) ⟨G, G, trivial⟩ (Sc 0 G Sn) ⟨Nat.zero_le _, by simp, by simp, by simp, by simp⟩ ⟨G, G, G, G, G, trivial⟩ ?_
 rintro ⟨i, hi, lo⟩ ⟨g1, g2, g3, g4, g5⟩
 simp only at g1 g2 g3 g4 g5
 refine sq<|rg<|ltI G G G<|nl<|nx<|sq<|cdP G (fun h13 => ?_) (fun h13 => ?_)
 ·
  have hx := getD_InI hA (i := i) (by omega)
  refine sk<|nx<|sq<|bk<|sq<|rg<|ixP 0 G G G slt_220 (by omega) (getDE (d := default) (by omega)) G fun v14 => ldV 0 G G one_3 G fun w15 => ?_
  refine asg G G<|nl<|nx<|sq<|rg<|asg G G<|nl<|nx<|sq<|rg<|mv G G<|mv G G<|cv Tryz.underlying3 Tryz.underlying209 G (wrapu _) G ?_
  have hx20 := fun w => add64_ok (P := Tryz.prog) lo (l.getD i default % 18446744073709551616) 0 (by omega) (by omega) (by omega) (by omega) w
  refine cx ext_222 hx20 G G<|mv G G<|xt G G G<|xt G G G<|asg G G<|asg G G<|nl<|nx<|rg<|mv G G<|mv G G<|shR G G (by omega) (shr63 hx) G<|cv Tryz.underlying3 Tryz.underlying209 G (wrapu _) G<|mv G G ?_
  have hx29 := fun w => add64_ok (P := Tryz.prog) hi (sg (l.getD i default) % 18446744073709551616) ((lo + l.getD i default % 18446744073709551616 + 0) / 18446744073709551616) (by omega) (by omega) (by omega) (by omega) w
  refine cx ext_222 hx29 G G<|mv G G<|xt G G G<|xt G G G<|asg G G<|nl<|bN<|nx<|rg<|adI G G (inI (by omega) (by omega)) G<|mv G G<|nl ?_
  have hst := sum_step g2 g3 hx
  have hs := sum_take (l := l) (i := i) (by omega)
  obtain ⟨hx1, hx2⟩ := hx
  exact ag (i + 1, (hi + sg (l.getD i default) % 18446744073709551616 + (lo + l.getD i default % 18446744073709551616 + 0) / 18446744073709551616) % 18446744073709551616, (lo + l.getD i default % 18446744073709551616 + 0) % 18446744073709551616) ⟨by show i + 1 ≤ l.length; omega, by show _ = (l.take (i + 1)).sum / 18446744073709551616 % 18446744073709551616; rw [hs]; exact hst.1, by show _ = (l.take (i + 1)).sum % 18446744073709551616; rw [hs]; exact hst.2, by show -(((i + 1 : Nat) : Int) * 9223372036854775808) ≤ (l.take (i + 1)).sum; rw [hs]; omega, by show (l.take (i + 1)).sum ≤ ((i + 1 : Nat) : Int) * 9223372036854775808; rw [hs]; omega⟩ (by show l.length - (i + 1) < l.length - i; omega) ⟨G, G, G, G, G, trivial⟩ G (Sc 1 G Sn)
 ·
  have e : i = l.length := by omega
  subst e
  rw [List.take_length] at g2 g3 g4 g5
  have hend := sum_end g2 g3 (by omega)
  refine ex<|tE<|tE<|bE<|nx<|sq<|rg<|mv G G<|cv Tryz.underlying209 Tryz.underlying3 G G G<|asg G G<|nl<|nx<|sq<|sq ?_
  refine rg<|mv G G<|mv G G<|shR G G (by omega) (shr63 (wrapi_in lo)) G<|cv Tryz.underlying3 Tryz.underlying209 G (wrapu _) G<|neI G G G<|nl<|nx<|cdN G (fun h39 => ?_) (fun h39 => ?_)
  ·
   exact sq<|rg<|asg G G<|asg G G<|nl<|nx<|rt<|tR<|fR2 () G G G (by show _ = sumV l.sum; rw [sumV, sumI, sumE, if_neg (fun hq => h39 (hend.1.2 hq)), if_neg (fun hq => h39 (hend.1.2 hq))]) G Sn
  ·
   exact sk<|nx<|sq<|rg<|mv G G<|asg G G<|asg G G<|nl<|nx<|rt<|fR2 () G G G (by show _ = sumV l.sum; rw [sumV, sumI, sumE, if_pos (hend.1.1 h39), if_pos (hend.1.1 h39), hend.2 (hend.1.1 h39)]) G Sn
end Go.Proofs.YtmpoffijcfaalaaGreat

/- Holders told one by one. No program. -/

namespace Go.YtmpoffijcfaalaaGreat
open Go.Eng

def listS (f : THolder → Int) (b : Int) (l : List THolder) : Nat → List Int
  | 0 => [b]
  | i + 1 => listS f b l i ++ [f (l.getD i default)]
theorem listS_len (f : THolder → Int) (b : Int) (l : List THolder) : ∀ i, (listS f b l i).length = i + 1
  | 0 => rfl
  | i + 1 => by simp [listS, listS_len f b l i]
theorem getD_at {α : Type} [Inhabited α] {l : List α} {i : Nat} (h : i < l.length) : l.getD i default = l[i] := by simp [List.getD, List.getElem?_eq_getElem h]
theorem listS_sum (f : THolder → Int) (b : Int) (l : List THolder) : ∀ i, i ≤ l.length → (listS f b l i).sum = b + ((l.take i).map f).sum
  | 0, _ => by simp [listS]
  | i + 1, h => by
    have ih := listS_sum f b l i (by omega)
    rw [listS, List.sum_append_int, ih, List.take_add_one, List.getElem?_eq_getElem (by omega), getD_at (by omega), List.map_append, List.sum_append_int]
    simp only [Option.toList_some, List.map_cons, List.map_nil, List.sum_cons, List.sum_nil]
    omega
theorem sum_neg (f : THolder → Int) : ∀ l : List THolder, (l.map fun h => -f h).sum = -(l.map f).sum
  | [] => rfl
  | h :: r => by
    simp only [List.map_cons, List.sum_cons, sum_neg f r]
    omega
theorem listS_ups (a : TAccount) : (listS (fun h => h.fUp) a.fBase a.fHolders a.fHolders.length).sum = upsS a := by
  rw [listS_sum _ _ _ _ (Nat.le_refl _), List.take_length]
  rfl
theorem listS_downs (a : TAccount) : (listS (fun h => -h.fDown) a.fBase a.fHolders a.fHolders.length).sum = downsS a := by
  rw [listS_sum _ _ _ _ (Nat.le_refl _), List.take_length, sum_neg]
  show a.fBase + -(a.fHolders.map fun h => h.fDown).sum = a.fBase - (a.fHolders.map fun h => h.fDown).sum
  omega
theorem hold_at {l : List THolder} (hh : holdersP l = true) {i : Nat} (hi : i < l.length) : prevI (fun k => (l.getD k default).fNode) i < (l.getD i default).fNode ∧ (l.getD i default).fNode ≤ 5 ∧ 1 ≤ (l.getD i default).fLease ∧ 0 ≤ (l.getD i default).fUp ∧ 0 ≤ (l.getD i default).fDown := by
  have h := allI_iff.1 hh i hi
  simp only [holdP, Bool.not_eq_true', Bool.or_eq_false_iff, decide_eq_false_iff_not] at h
  omega
theorem hold_node {l : List THolder} (hh : holdersP l = true) : ∀ i, i < l.length → (i : Int) + 1 ≤ (l.getD i default).fNode
  | 0, hi => by
    have := (hold_at hh hi).1
    simp only [prevI] at this
    omega
  | i + 1, hi => by
    have := (hold_at hh hi).1
    have ih := hold_node hh i (by omega)
    simp only [prevI] at this
    omega
theorem hold_len {l : List THolder} (hh : holdersP l = true) : l.length ≤ 5 := by
  rcases Nat.eq_zero_or_pos l.length with h | h
  · omega
  · have h1 := hold_node hh (l.length - 1) (by omega)
    have h2 := (hold_at hh (i := l.length - 1) (by omega)).2.1
    omega
end Go.YtmpoffijcfaalaaGreat
