/- Part 38 of the proof of dutyQuiet_holds: DutW20, Eng25. Every text below begins with what it shows. -/
import Derived.Test.YtmpoffijcfaalaaGreatQu37

/- Walks, written by specs9.py. -/

namespace Go.Proofs.YtmpoffijcfaalaaGreat
open Go.Eng Go.YtmpoffijcfaalaaGreat
set_option maxHeartbeats 1000000

theorem shards_c (g : Int) (h_g : InI g) : FnV Tryz.prog 44 [.int .i64 g] [] (.bool (okGroup g)) := by
 refine Fnc.proof Tryz.func44 G 9 G G fun X w => ?_
 obtain ⟨h_g1, h_g2⟩ := id h_g
 refine sq<|rg<|asg G G<|nl<|nx<|sq<|rg<|mv G G<|geI G G G<|mv G G ?_
 apply jo [] trivial
 ·
  intro K8
  refine spA (i := 5) G (fun h5 => ?_) (fun h5 => ?_)
  ·
   have p5 := of_decide_eq_true h5
   exact gY G G G<|mv G G<|gY G G G<|ltI G G G<|pkT G G G<|jA K8 h5 trivial Sr
  ·
   exact gS (g := [_, _]) G<|pkF G G G<|jA0 K8 h5 trivial Sr
 refine asg G G<|nl<|nx<|rt ?_
 exact fR1 () G G (by rfl) G Sn

theorem state_c (v : TScene) (v_0 v_1 v_2 v_3 v_4 : Value) (n : Int) (S : TState) (h_v : v.wf) (hn1 : 1 ≤ n) (hn2 : n ≤ v.fStates.length) (hn3 : n ≤ 100) (hS : v.fStates.getD (n - 1).toNat default = S) : Fnc Tryz.prog 45 [.agg (cScene v v_0 v_1 v_2 v_3 v_4).toArray, .int .i64 n] [] [⟨v_0, v.fChart.fPlaces⟩, ⟨v_1, v.fChart.fMarks⟩, ⟨v_2, v.fStates⟩, ⟨v_3, v.fRights⟩, ⟨v_4, v.fAges⟩] (fun (y : sState.H) u => u = .agg (cState S (y.1) (y.2.1) (y.2.2.1) (y.2.2.2.1) (y.2.2.2.2.1) (y.2.2.2.2.2)).toArray ∧ S.wf) (fun _ _ => []) (fun y _ => [⟨y.1, S.fAccounts⟩, ⟨y.2.1, S.fMarks⟩, ⟨y.2.2.1, S.fWaits⟩, ⟨y.2.2.2.1, S.fDeals⟩, ⟨y.2.2.2.2.1, S.fEnds⟩, ⟨y.2.2.2.2.2, S.fImage⟩]) := by
 refine Fnc.proof Tryz.func45 G 11 G G fun X w => ?_
 subst hS
 refine sq<|rg<|bx G G G fun b2 => al zero_55 G fun b4 => nl<|nx<|sq<|rg<|fa G fld_32_3 G<|ldB 1 G G one_28 G G<|mv G G<|sbI G G (inI (by omega) (by omega)) G<|ixP 2 G G G slt_28 (by omega) (getDE (d := default) (by omega)) G fun v9 => ldS 0 G G row_55 G fun q10 w10 => ?_
 obtain ⟨q10_0, q10_1, q10_2, q10_3, q10_4, q10_5⟩ := q10
 exact gtL (q := q10_0.oneCell' = true) (fun S w h => oneCell_of_list (h _ (List.mem_of_getElem? (i := 1) G))) fun o_q10_0 => gtL (q := q10_1.oneCell' = true) (fun S w h => oneCell_of_list (h _ (List.mem_of_getElem? (i := 2) G))) fun o_q10_1 => gtL (q := q10_2.oneCell' = true) (fun S w h => oneCell_of_list (h _ (List.mem_of_getElem? (i := 3) G))) fun o_q10_2 => gtL (q := q10_3.oneCell' = true) (fun S w h => oneCell_of_list (h _ (List.mem_of_getElem? (i := 4) G))) fun o_q10_3 => gtL (q := q10_4.oneCell' = true) (fun S w h => oneCell_of_list (h _ (List.mem_of_getElem? (i := 5) G))) fun o_q10_4 => gtL (q := q10_5.oneCell' = true) (fun S w h => oneCell_of_list (h _ (List.mem_of_getElem? (i := 6) G))) fun o_q10_5 => stW 0 (us := (cState ((v.fStates.getD ((n - 1)).toNat default)) q10_0 q10_1 q10_2 q10_3 q10_4 q10_5)) G G G row_55 (by simp only [List.all_cons, List.all_nil, Bool.and_true, o_q10_0, o_q10_1, o_q10_2, o_q10_3, o_q10_4, o_q10_5]; rfl) G<|nl<|nx<|rt<|fRG ⟨q10_0, q10_1, q10_2, q10_3, q10_4, q10_5⟩ [_, _] (rC 0 G G G row_55) (by exact ⟨rfl, w10⟩) G (Sc 1 G (Sc 2 G (Sc 3 G (Sc 4 G (Sc 5 G (Sc 6 G Sn))))))

theorem report0_c (v_l : Value) (l : List TRight) (g : Int) (a : TAccount) (a_0 : Value) (n : Int) (h_g : InI g) (h_a : a.wf) (h_n : InI n) (h0 : a.fRound = 0) : FnV Tryz.prog 46 [v_l, .int .i64 g, .agg (cAccount a a_0).toArray, .int .i64 n] [⟨v_l, l⟩, ⟨a_0, a.fHolders⟩] (.tuple #[.agg (cCommand zcmd (.slice none 0 0)).toArray, .bool false]) := by
 refine Fnc.proof Tryz.func46 G 55 G G fun X w => ?_
 obtain ⟨h_g1, h_g2⟩ := id h_g
 obtain ⟨h_n1, h_n2⟩ := id h_n
 refine sq<|rg<|bx G G G fun b6 => al zero_37 G fun b8 => asg G G<|nl<|nx<|sq<|sq<|rg<|mv G G<|cfv (lcheck_c _ _) ok_59 G (Sc 0 G Sn) G<|neI G G G<|mv G G ?_
 apply jo [(0, _), (1, _), (3, _), (6, _), (8, _)] ⟨rfl, rfl, rfl, rfl, rfl, trivial⟩
 ·
  intro K19
  refine spO (i := 15) G (fun h15 => ?_) (fun h15 => ?_)
  ·
   have p15 := h15
   simp only [Bool.not_eq_true', Bool.not_eq_false', decide_eq_true_eq, decide_eq_false_iff_not] at p15
   exact gY G G G<|ldM 1 (cAccount a a_0) G G row_70 G G<|gY G G G<|cfv (acheck_c _ _ h_a) ok_97 G (Sc 1 G Sn) G<|gY G G G<|neI G G G<|pkF G G G<|jR K19 h15 ⟨G, G, G, G, G, trivial⟩ Sr
  ·
   exact gS (g := [_, _, _]) G<|pkT G G G<|jR0 K19 h15 ⟨G, G, G, G, G, trivial⟩ Sr
 refine mv G G ?_
 apply jo [(0, _), (1, _), (3, _), (6, _), (8, _)] ⟨rfl, rfl, rfl, rfl, rfl, trivial⟩
 ·
  intro K24
  refine spO (i := 20) G (fun h20 => ?_) (fun h20 => ?_)
  ·
   exact gY G G G<|fa G fld_70_3 G<|gY G G G<|ldB 1 G G one_3 G G<|gY G G G<|eqI G G G<|pkF G G G<|jR K24 h20 ⟨G, G, G, G, G, trivial⟩ Sr
  ·
   exact gS (g := [_, _, _]) G<|pkT G G G<|jR0 K24 h20 ⟨G, G, G, G, G, trivial⟩ Sr
 refine mv G G ?_
 apply jo [(0, _), (1, _), (3, _), (6, _), (8, _)] ⟨rfl, rfl, rfl, rfl, rfl, trivial⟩
 ·
  intro K29
  refine spO (i := 25) G (fun h25 => ?_) (fun h25 => ?_)
  ·
   exact gY G G G<|mv G G<|gY G G G<|cfv (lgroup_c _ h_g) ok_98 G Sn G<|gY G G G<|nt G G<|pkF G G G<|jR K29 h25 ⟨G, G, G, G, G, trivial⟩ Sr
  ·
   exact gS (g := [_, _, _]) G<|pkT G G G<|jR0 K29 h25 ⟨G, G, G, G, G, trivial⟩ Sr
 refine nl<|nx<|cdB G (fun h29 => ?_) (fun h29 => ?_)
 ·
  exact sq<|rg<|bd (ps := []) (cs := (cCommand ((⟨0, 0, 0, 0, 0, 0, ByteArray.empty, 0, 0, 0, false, (⟨0, ByteArray.empty, ByteArray.empty, 0, 0, 0⟩ : TOp), (⟨0, 0, 0, ByteArray.empty, ByteArray.empty, 0, 0⟩ : TPlan), []⟩ : TCommand)) (.slice none 0 0))) (by rfl) (by kernel_rfl) G<|stW 0 (us := (cCommand ((⟨0, 0, 0, 0, 0, 0, ByteArray.empty, 0, 0, 0, false, (⟨0, ByteArray.empty, ByteArray.empty, 0, 0, 0⟩ : TOp), (⟨0, 0, 0, ByteArray.empty, ByteArray.empty, 0, 0⟩ : TPlan), []⟩ : TCommand)) (.slice none 0 0))) G G G row_37 G G<|asg G G<|nl<|nx<|rt<|tR<|fRG () [_, _] (rCT 0 G G G G row_37) (by rfl) G Sn
 ·
  have q := h29
  simp [h0] at q --#done

theorem charted0_c (v : TScene) (v_0 v_1 v_2 v_3 v_4 : Value) (h_v : v.wf) (hp : v.fChart.fPlan = ⟨0, 0, 0, ByteArray.empty, ByteArray.empty, 0, 0⟩) : FnV Tryz.prog 48 [.agg (cScene v v_0 v_1 v_2 v_3 v_4).toArray] [⟨v_0, v.fChart.fPlaces⟩, ⟨v_1, v.fChart.fMarks⟩, ⟨v_2, v.fStates⟩, ⟨v_3, v.fRights⟩, ⟨v_4, v.fAges⟩] (.slice none 0 0) := by
 refine Fnc.proof Tryz.func48 G 41 G G fun X w => sq<|rg<|bx G G G fun b1 => asg G G<|nl<|nx<|sq<|rg<|fa G fld_32_2 G<|fa G fld_27_4 G<|ldM 0 (cPlan v.fChart.fPlan) G G row_24 G G<|al zero_24 G fun b3 => stW 0 (us := (cPlan v.fChart.fPlan)) G G G row_24 G G ?_
 refine nl<|nx<|sq<|sq<|rg<|ldM 0 (cPlan v.fChart.fPlan) G G row_24 G G<|bd (ps := []) (cs := (cPlan ((⟨0, 0, 0, ByteArray.empty, ByteArray.empty, 0, 0⟩ : TPlan)))) (by rfl) (by kernel_rfl) G<|eqT eq_Plan (v.fChart.fPlan) ((⟨0, 0, 0, ByteArray.empty, ByteArray.empty, 0, 0⟩ : TPlan)) G G G<|nl<|nx<|cdP G (fun h10 => ?_) (fun h10 => ?_)
 ·
  refine sq<|rg<|asg G G<|nl<|nx<|rt<|tR<|dpQ<|dpQ ?_
  exact fR1 () G G (by rfl) G Sn
 ·
  exact absurd hp h10 --#done

theorem reports0_c (v : TScene) (v_0 v_1 v_2 v_3 v_4 : Value) (n : Int) (h_v : v.wf) (h_n : InI n) (hq : 1 ≤ n → n < 8 → ∀ j, j < (v.fStates.getD (n - 1).toNat default).fAccounts.length → ((v.fStates.getD (n - 1).toNat default).fAccounts.getD j default).fRound = 0) : FnV Tryz.prog 13 [.agg (cScene v v_0 v_1 v_2 v_3 v_4).toArray, .int .i64 n] [⟨v_0, v.fChart.fPlaces⟩, ⟨v_1, v.fChart.fMarks⟩, ⟨v_2, v.fStates⟩, ⟨v_3, v.fRights⟩, ⟨v_4, v.fAges⟩] (.slice none 0 0) := by
 refine Fnc.proof Tryz.func13 G 44 G G fun X w => ?_
 obtain ⟨h_n1, h_n2⟩ := id h_n
 refine sq<|rg<|bx G G G fun b2 => asg G G<|nl<|nx<|sq<|sq<|rg<|mv G G<|cfv (shards_c _ h_n) ok_44 G Sn G<|nt G G<|mv G G ?_
 apply jo [(1, _), (2, _)] ⟨rfl, rfl, trivial⟩
 ·
  intro K17
  refine spO (i := 13) G (fun h13 => ?_) (fun h13 => ?_)
  ·
   exact gY G G G<|ldM 0 (cScene v v_0 v_1 v_2 v_3 v_4) G G row_32 G G<|gY G G G<|cfv (dright_c _ _ _ _ _ _ h_v) ok_17 G (Sc 0 G (Sc 1 G (Sc 2 G (Sc 3 G (Sc 4 G Sn))))) G<|gY G G G<|nt G G<|pkF G G G<|jR K17 h13 ⟨G, G, trivial⟩ Sr
  ·
   exact gS (g := [_, _, _]) G<|pkT G G G<|jR0 K17 h13 ⟨G, G, trivial⟩ Sr
 refine nl<|nx<|cdB G (fun h17 => ?_) (fun h17 => ?_)
 ·
  refine sq<|rg<|asg G G<|nl<|nx<|rt<|tR<|dpQ ?_
  exact fR1 () G G (by rfl) G Sn
 ·
  have q := h17
  simp only [Bool.or_eq_false_iff, Bool.not_eq_false'] at q
  have hl := dright_len q.2
  have hg : 1 ≤ n ∧ n < 8 := by
   have q1 := q.1
   simpa only [okGroup, Bool.and_eq_true, decide_eq_true_eq] using q1
  obtain ⟨S, hS⟩ : ∃ S, v.fStates.getD (n - 1).toNat default = S := ⟨_, rfl⟩
  have hq := hq hg.1 hg.2
  rw [hS] at hq
  refine sk<|nx<|sq<|rg<|asg G G<|nl<|nx<|sq<|sq<|rg<|ldM 0 (cScene v v_0 v_1 v_2 v_3 v_4) G G row_32 G G<|mv G G<|cf (state_c v v_0 v_1 v_2 v_3 v_4 n S h_v hg.1 (by omega) (by omega) hS) ok_45 G (Sc 0 G (Sc 1 G (Sc 2 G (Sc 3 G (Sc 4 G Sn))))) G fun y20 v20 h20 => ?_
  obtain ⟨e20, w20⟩ := h20
  subst e20
  obtain ⟨s_0, s_1, s_2, s_3, s_4, s_5⟩ := y20
  refine fd G fdv_55_6 G G<|lnP 0 G G Tryz.underlying50 G fun l22 => mv G G<|nl<|nx<|bk<|lpC (σ := Nat) [(1, _), (2, _), (21, _), (22, _)] _ (fun i C => (23, .int .i64 (i : Int)) :: (5, .slice none 0 0) :: C) (fun i => i ≤ S.fAccounts.length) (fun i => S.fAccounts.length - i) 0 ⟨G, G, G, G, trivial⟩ (Sc 0 G (Sc 6 G (Sc 7 G (Sc 8 G (Sc 9 G (Sc 10 G Sn)))))) (Nat.zero_le _) ⟨G, G, G, G, G, G, trivial⟩ ?_
  intro i hi
  refine sq<|rg<|ltI G G G<|nl<|nx<|sq<|cdP G (fun h24 => ?_) (fun h24 => ?_)
  ·
   refine sk<|nx<|sq<|bk<|sq<|rg<|ixP 0 G G G slt_50 (by omega) (getDE (d := default) (by omega)) G fun v25 => ldS 0 G G row_70 G fun q26 w26 => ?_
   refine al zero_70 G fun b7 => gtL (q := q26.oneCell' = true) (fun S w h => oneCell_of_list (h _ (List.mem_of_getElem? (i := 1) G))) fun o_q26 => stW 0 (us := (cAccount ((S.fAccounts.getD i default)) q26)) G G G row_70 (by simp only [List.all_cons, List.all_nil, Bool.and_true, o_q26]; rfl) G<|nl<|nx<|sq<|rg<|fa G fld_32_4 G<|ldB 1 G G one_29 G G<|mv G G<|ldM 0 (cAccount ((S.fAccounts.getD i default)) q26) G G row_70 G G<|fa G fld_32_0 G<|ldB 1 G G one_3 G G<|cfv (report0_c _ _ n _ _ v.fNode h_n w26 h_v.1 (hq i (by omega))) ok_46 G (Sc 7 G (Sc 1 G Sn)) G ?_
   refine mv G G<|xt G G G<|xt G G G<|al zero_37 G fun b8 => stW 0 (us := (cCommand zcmd (.slice none 0 0))) G G G row_37 G G<|asg G G<|nl<|nx<|sq<|rg<|mv G G<|nl<|nx<|cdF G ?_
   refine sk<|bN<|nx<|rg<|adI G G (inI (by omega) (by omega)) G<|mv G G<|nl<|dpQ<|dpQ ?_
   exact ag (i + 1) (by omega) (by omega) ⟨G, G, G, G, G, G, trivial⟩ G (Sc 3 G (Sc 4 G (Sc 5 G (Sc 6 G (Sc 7 G (Sc 8 G Sn))))))
  ·
   refine ex<|tE<|tE<|bE<|nx<|sq<|rg<|mv G G<|asg G G<|nl<|nx<|rt<|dpQ ?_
   exact fR1 () G G (by rfl) G Sn

theorem out0_c (v : TScene) (v_0 v_1 v_2 v_3 v_4 : Value) (S : TState) (s_0 s_1 s_2 s_3 s_4 s_5 : Value) (h_v : v.wf) (h_S : S.wf) (ho : S.fOut = ⟨0, 0, 0, ByteArray.empty, ByteArray.empty, 0, 0⟩) : FnV Tryz.prog 108 [.agg (cScene v v_0 v_1 v_2 v_3 v_4).toArray, .agg (cState S s_0 s_1 s_2 s_3 s_4 s_5).toArray] [⟨v_0, v.fChart.fPlaces⟩, ⟨v_1, v.fChart.fMarks⟩, ⟨v_2, v.fStates⟩, ⟨v_3, v.fRights⟩, ⟨v_4, v.fAges⟩, ⟨s_0, S.fAccounts⟩, ⟨s_1, S.fMarks⟩, ⟨s_2, S.fWaits⟩, ⟨s_3, S.fDeals⟩, ⟨s_4, S.fEnds⟩, ⟨s_5, S.fImage⟩] (.tuple #[.agg (cCommand zcmd (.slice none 0 0)).toArray, .bool false]) := by
 refine Fnc.proof Tryz.func108 G 75 G G fun X w => sq<|rg<|bx G G G fun b2 => bx G G G fun b3 => al zero_37 G fun b4 => asg G G<|nl<|nx<|sq<|rg<|fa G fld_55_12 G<|ldM 1 (cPlan S.fOut) G G row_24 G G<|al zero_24 G fun b6 => ?_
 refine stW 0 (us := (cPlan S.fOut)) G G G row_24 G G<|nl<|nx<|sq<|sq<|rg<|ldM 0 (cPlan S.fOut) G G row_24 G G<|bd (ps := []) (cs := (cPlan ((⟨0, 0, 0, ByteArray.empty, ByteArray.empty, 0, 0⟩ : TPlan)))) (by rfl) (by kernel_rfl) G<|eqT eq_Plan (S.fOut) ((⟨0, 0, 0, ByteArray.empty, ByteArray.empty, 0, 0⟩ : TPlan)) G G G<|nl<|nx<|cdP G (fun h15 => ?_) (fun h15 => ?_)
 ·
  exact sq<|rg<|bd (ps := []) (cs := (cCommand ((⟨0, 0, 0, 0, 0, 0, ByteArray.empty, 0, 0, 0, false, (⟨0, ByteArray.empty, ByteArray.empty, 0, 0, 0⟩ : TOp), (⟨0, 0, 0, ByteArray.empty, ByteArray.empty, 0, 0⟩ : TPlan), []⟩ : TCommand)) (.slice none 0 0))) (by rfl) (by kernel_rfl) G<|stW 1 (us := (cCommand ((⟨0, 0, 0, 0, 0, 0, ByteArray.empty, 0, 0, 0, false, (⟨0, ByteArray.empty, ByteArray.empty, 0, 0, 0⟩ : TOp), (⟨0, 0, 0, ByteArray.empty, ByteArray.empty, 0, 0⟩ : TPlan), []⟩ : TCommand)) (.slice none 0 0))) G G G row_37 G G<|asg G G<|nl<|nx<|rt<|tR<|fRG () [_, _, _, _] (rCT 1 G G G G row_37) (by rfl) G Sn
 ·
  exact absurd ho h15 --#done

theorem moves0_c (v : TScene) (v_0 v_1 v_2 v_3 v_4 : Value) (S : TState) (s_0 s_1 s_2 s_3 s_4 s_5 : Value) (yv : Value) (b1 b2 : Nat) (h_v : v.wf) (h_S : S.wf) (hp : v.fChart.fPlan = ⟨0, 0, 0, ByteArray.empty, ByteArray.empty, 0, 0⟩) (hs : S.fSeal = ⟨0, 0, 0, ByteArray.empty, ByteArray.empty, 0, 0⟩) (ho : S.fOut = ⟨0, 0, 0, ByteArray.empty, ByteArray.empty, 0, 0⟩) : Fnc Tryz.prog 104 [yv, .pointer (some ⟨b1, 0, none⟩), .pointer (some ⟨b2, 0, none⟩)] [bl b1 32 (cScene v v_0 v_1 v_2 v_3 v_4), bl b2 55 (cState S s_0 s_1 s_2 s_3 s_4 s_5)] [⟨v_0, v.fChart.fPlaces⟩, ⟨v_1, v.fChart.fMarks⟩, ⟨v_2, v.fStates⟩, ⟨v_3, v.fRights⟩, ⟨v_4, v.fAges⟩, ⟨s_0, S.fAccounts⟩, ⟨s_1, S.fMarks⟩, ⟨s_2, S.fWaits⟩, ⟨s_3, S.fDeals⟩, ⟨s_4, S.fEnds⟩, ⟨s_5, S.fImage⟩] (fun (_ : Unit) u => u = .tuple #[]) (fun _ _ => [bl b1 32 (cScene v v_0 v_1 v_2 v_3 v_4), bl b2 55 (cState S s_0 s_1 s_2 s_3 s_4 s_5)]) (fun _ _ => []) := by
 refine Fnc.proof Tryz.func104 G 118 G G fun X w => sq<|rg<|fa G fld_32_2 G<|fa G fld_27_4 G<|ldM 0 (cPlan v.fChart.fPlan) G G row_24 G G<|al zero_24 G fun b4 => stW 0 (us := (cPlan v.fChart.fPlan)) G G G row_24 G G<|nl<|nx<|sq<|rg<|ldM 0 (cPlan v.fChart.fPlan) G G row_24 G G<|bd (ps := []) (cs := (cPlan ((⟨0, 0, 0, ByteArray.empty, ByteArray.empty, 0, 0⟩ : TPlan)))) (by rfl) (by kernel_rfl) G ?_
 refine neT eq_Plan (v.fChart.fPlan) ((⟨0, 0, 0, ByteArray.empty, ByteArray.empty, 0, 0⟩ : TPlan)) G G G ?_
 rw [show (!decide (v.fChart.fPlan = (⟨0, 0, 0, ByteArray.empty, ByteArray.empty, 0, 0⟩ : TPlan))) = false from by rw [hp]; rfl]
 refine asg G G<|nl<|nx<|sq<|sq<|rg<|mv G G<|mv G G<|gN G G G G G<|gN G G G G G<|gN G G G G G<|gN G G G G G<|gN G G G G G<|pkF G G G ?_
 refine mv G G<|gN G G G G G<|gN G G G G G<|gN G G G G G<|gN G G G G G<|gN G G G G G<|gN G G G G G<|pkF G G G<|mv G G<|gN G G G G G<|gN G G G G G<|gN G G G G G<|gN G G G G G<|gN G G G G G ?_
 refine gN G G G G G<|pkF G G G<|mv G G<|gN G G G G G<|gN G G G G G<|gN G G G G G<|gN G G G G G<|gN G G G G G<|pkF G G G<|nl<|nx<|cdF G<|sk<|nx ?_
 refine sq<|sq<|rg<|fa G fld_55_11 G<|ldM 2 (cPlan S.fSeal) G G row_24 G G<|bd (ps := []) (cs := (cPlan ((⟨0, 0, 0, ByteArray.empty, ByteArray.empty, 0, 0⟩ : TPlan)))) (by rfl) (by kernel_rfl) G<|neT eq_Plan (S.fSeal) ((⟨0, 0, 0, ByteArray.empty, ByteArray.empty, 0, 0⟩ : TPlan)) G G G ?_
 rw [show (!decide (S.fSeal = (⟨0, 0, 0, ByteArray.empty, ByteArray.empty, 0, 0⟩ : TPlan))) = false from by rw [hs]; rfl]
 refine mv G G<|gN G G G G G<|gN G G G G G<|gN G G G G G<|pkF G G G<|mv G G<|gN G G G G G<|gN G G G G G<|gN G G G G G<|gN G G G G G<|gN G G G G G<|gN G G G G G<|pkF G G G<|nl ?_
 refine nx<|cdF G<|sk<|nx<|sq<|sq<|rg<|mv G G<|mv G G<|gN G G G G G<|gN G G G G G<|gN G G G G G<|gN G G G G G<|gN G G G G G ?_
 refine pkF G G G<|mv G G<|gN G G G G G<|gN G G G G G<|gN G G G G G<|gN G G G G G<|gN G G G G G<|pkF G G G<|nl<|nx<|cdF G<|sk<|nx<|sq ?_
 refine rg<|ldM 1 (cScene v v_0 v_1 v_2 v_3 v_4) G G row_32 G G<|ldM 2 (cState S s_0 s_1 s_2 s_3 s_4 s_5) G G row_55 G G<|cfv (out0_c _ _ _ _ _ _ _ _ _ _ _ _ _ h_v h_S ho) ok_108 G (Sc 0 G (Sc 1 G (Sc 2 G (Sc 3 G (Sc 4 G (Sc 5 G (Sc 6 G (Sc 7 G (Sc 8 G (Sc 9 G (Sc 10 G Sn))))))))))) G<|mv G G<|xt G G G<|xt G G G<|al zero_37 G fun b7 => stW 0 (us := (cCommand zcmd (.slice none 0 0))) G G G row_37 G G<|asg G G<|nl<|nx<|sq<|rg ?_
 exact mv G G<|nl<|nx<|cdF G<|sk<|dpQ<|dpQ<|fR0N () G G G Sn

theorem deals0_c (v : TScene) (v_0 v_1 v_2 v_3 v_4 : Value) (S : TState) (s_0 s_1 s_2 s_3 s_4 s_5 : Value) (yv : Value) (b1 b2 : Nat) (h_v : v.wf) (h_S : S.wf) (hd : S.fDeals.length = 0) : Fnc Tryz.prog 109 [yv, .pointer (some ⟨b1, 0, none⟩), .pointer (some ⟨b2, 0, none⟩)] [bl b1 55 (cState S s_0 s_1 s_2 s_3 s_4 s_5), bl b2 32 (cScene v v_0 v_1 v_2 v_3 v_4)] [⟨v_0, v.fChart.fPlaces⟩, ⟨v_1, v.fChart.fMarks⟩, ⟨v_2, v.fStates⟩, ⟨v_3, v.fRights⟩, ⟨v_4, v.fAges⟩, ⟨s_0, S.fAccounts⟩, ⟨s_1, S.fMarks⟩, ⟨s_2, S.fWaits⟩, ⟨s_3, S.fDeals⟩, ⟨s_4, S.fEnds⟩, ⟨s_5, S.fImage⟩] (fun (_ : Unit) u => u = .tuple #[]) (fun _ _ => [bl b1 55 (cState S s_0 s_1 s_2 s_3 s_4 s_5), bl b2 32 (cScene v v_0 v_1 v_2 v_3 v_4)]) (fun _ _ => []) := by
 refine Fnc.proof Tryz.func109 G 29 G G fun X w => sq<|rg<|fa G fld_55_9 G<|ldB 0 G G one_52 G G<|lnP 8 G G Tryz.underlying52 G fun l10 => mv G G<|nl<|nx<|bk<|lpC (σ := Nat) [(0, _), (2, _), (9, _), (10, _)] _ (fun i C => (11, .int .i64 (i : Int)) :: C) (fun i => i ≤ S.fDeals.length) (fun i => S.fDeals.length - i) 0 ⟨G, G, G, G, trivial⟩ (Sc 0 G (Sc 1 G (Sc 2 G (Sc 3 G (Sc 4 G (Sc 5 G (Sc 6 G (Sc 7 G (Sc 8 G (Sc 9 G (Sc 10 G Sn))))))))))) (Nat.zero_le _) ⟨G, G, G, G, G, trivial⟩ ?_
 intro i hi
 refine sq<|rg<|ltI G G G<|nl<|nx<|sq<|cdP G (fun h12 => ?_) (fun h12 => ?_)
 ·
  exact absurd h12 (by omega) --#done
 ·
  exact ex<|tE<|tE<|bE<|fR0N () G G G Sn

theorem late0_c (v : TScene) (v_0 v_1 v_2 v_3 v_4 : Value) (S : TState) (s_0 s_1 s_2 s_3 s_4 s_5 : Value) (yv : Value) (b1 b2 : Nat) (h_v : v.wf) (h_S : S.wf) (hd : S.fWaits.length = 0) : Fnc Tryz.prog 114 [yv, .pointer (some ⟨b1, 0, none⟩), .pointer (some ⟨b2, 0, none⟩)] [bl b1 55 (cState S s_0 s_1 s_2 s_3 s_4 s_5), bl b2 32 (cScene v v_0 v_1 v_2 v_3 v_4)] [⟨v_0, v.fChart.fPlaces⟩, ⟨v_1, v.fChart.fMarks⟩, ⟨v_2, v.fStates⟩, ⟨v_3, v.fRights⟩, ⟨v_4, v.fAges⟩, ⟨s_0, S.fAccounts⟩, ⟨s_1, S.fMarks⟩, ⟨s_2, S.fWaits⟩, ⟨s_3, S.fDeals⟩, ⟨s_4, S.fEnds⟩, ⟨s_5, S.fImage⟩] (fun (_ : Unit) u => u = .tuple #[]) (fun _ _ => [bl b1 55 (cState S s_0 s_1 s_2 s_3 s_4 s_5), bl b2 32 (cScene v v_0 v_1 v_2 v_3 v_4)]) (fun _ _ => []) := by
 refine Fnc.proof Tryz.func114 G 34 G G fun X w => sq<|rg<|fa G fld_55_8 G<|ldB 0 G G one_51 G G<|lnP 7 G G Tryz.underlying51 G fun l8 => mv G G<|nl<|nx<|bk<|lpC (σ := Nat) [(0, _), (2, _), (7, _), (8, _)] _ (fun i C => (9, .int .i64 (i : Int)) :: C) (fun i => i ≤ S.fWaits.length) (fun i => S.fWaits.length - i) 0 ⟨G, G, G, G, trivial⟩ (Sc 0 G (Sc 1 G (Sc 2 G (Sc 3 G (Sc 4 G (Sc 5 G (Sc 6 G (Sc 7 G (Sc 8 G (Sc 9 G (Sc 10 G Sn))))))))))) (Nat.zero_le _) ⟨G, G, G, G, G, trivial⟩ ?_
 intro i hi
 refine sq<|rg<|ltI G G G<|nl<|nx<|sq<|cdP G (fun h10 => ?_) (fun h10 => ?_)
 ·
  exact absurd h10 (by omega) --#done
 ·
  exact ex<|tE<|tE<|bE<|fR0N () G G G Sn

theorem sides0_c (v : TScene) (v_0 v_1 v_2 v_3 v_4 : Value) (S : TState) (s_0 s_1 s_2 s_3 s_4 s_5 : Value) (yv : Value) (b1 b2 : Nat) (h_v : v.wf) (h_S : S.wf) (hd : ∀ j, j < v.fStates.length → (v.fStates.getD j default).fDeals.length = 0) : Fnc Tryz.prog 111 [yv, .pointer (some ⟨b1, 0, none⟩), .pointer (some ⟨b2, 0, none⟩)] [bl b1 32 (cScene v v_0 v_1 v_2 v_3 v_4), bl b2 55 (cState S s_0 s_1 s_2 s_3 s_4 s_5)] [⟨v_0, v.fChart.fPlaces⟩, ⟨v_1, v.fChart.fMarks⟩, ⟨v_2, v.fStates⟩, ⟨v_3, v.fRights⟩, ⟨v_4, v.fAges⟩, ⟨s_0, S.fAccounts⟩, ⟨s_1, S.fMarks⟩, ⟨s_2, S.fWaits⟩, ⟨s_3, S.fDeals⟩, ⟨s_4, S.fEnds⟩, ⟨s_5, S.fImage⟩] (fun (_ : Unit) u => u = .tuple #[]) (fun _ _ => [bl b1 32 (cScene v v_0 v_1 v_2 v_3 v_4), bl b2 55 (cState S s_0 s_1 s_2 s_3 s_4 s_5)]) (fun _ _ => []) := by
 refine Fnc.proof Tryz.func111 G 48 G G fun X w => sq<|rg<|fa G fld_32_3 G<|ldB 0 G G one_28 G G<|lnP 2 G G Tryz.underlying28 G fun l12 => mv G G<|nl<|nx<|bk<|lpC (σ := Nat) [(0, _), (1, _), (2, _), (11, _), (12, _)] _ (fun i C => (13, .int .i64 (i : Int)) :: C) (fun i => i ≤ v.fStates.length) (fun i => v.fStates.length - i) 0 ⟨G, G, G, G, G, trivial⟩ (Sc 0 G (Sc 1 G (Sc 2 G (Sc 3 G (Sc 4 G (Sc 5 G (Sc 6 G (Sc 7 G (Sc 8 G (Sc 9 G (Sc 10 G Sn))))))))))) (Nat.zero_le _) ⟨G, G, G, G, G, G, trivial⟩ ?_
 intro i hi
 refine sq<|rg<|ltI G G G<|nl<|nx<|sq<|cdP G (fun h14 => ?_) (fun h14 => ?_)
 ·
  have hd0 := hd i (by omega)
  refine sk<|nx<|sq<|bk<|sq<|rg<|ixP 2 G G G slt_28 (by omega) (getDE (d := default) (by omega)) G fun v15 => ldS 0 G G row_55 G fun q16 w16 => ?_
  obtain ⟨q16_0, q16_1, q16_2, q16_3, q16_4, q16_5⟩ := q16
  refine al zero_55 G fun b5 => gtL (q := q16_0.oneCell' = true) (fun S w h => oneCell_of_list (h _ (List.mem_of_getElem? (i := 1) G))) fun o_q16_0 => gtL (q := q16_1.oneCell' = true) (fun S w h => oneCell_of_list (h _ (List.mem_of_getElem? (i := 2) G))) fun o_q16_1 => gtL (q := q16_2.oneCell' = true) (fun S w h => oneCell_of_list (h _ (List.mem_of_getElem? (i := 3) G))) fun o_q16_2 => gtL (q := q16_3.oneCell' = true) (fun S w h => oneCell_of_list (h _ (List.mem_of_getElem? (i := 4) G))) fun o_q16_3 => gtL (q := q16_4.oneCell' = true) (fun S w h => oneCell_of_list (h _ (List.mem_of_getElem? (i := 5) G))) fun o_q16_4 => gtL (q := q16_5.oneCell' = true) (fun S w h => oneCell_of_list (h _ (List.mem_of_getElem? (i := 6) G))) fun o_q16_5 => stW 0 (us := (cState ((v.fStates.getD i default)) q16_0 q16_1 q16_2 q16_3 q16_4 q16_5)) G G G row_55 (by simp only [List.all_cons, List.all_nil, Bool.and_true, o_q16_0, o_q16_1, o_q16_2, o_q16_3, o_q16_4, o_q16_5]; rfl) G<|nl<|nx<|sq<|rg<|fa G fld_55_9 G<|ldB 0 G G one_52 G G ?_
  refine lnP 4 G G Tryz.underlying52 G fun l19 => mv G G<|nl<|nx<|bk<|lpC (σ := Nat) [(0, _), (1, _), (2, _), (5, _), (11, _), (12, _), (13, _), (18, _), (19, _)] _ (fun k C => (20, .int .i64 (k : Int)) :: C) (fun k => k ≤ (v.fStates.getD i default).fDeals.length) (fun k => (v.fStates.getD i default).fDeals.length - k) 0 ⟨G, G, G, G, G, G, G, G, G, trivial⟩ (Sc 1 G (Sc 2 G (Sc 3 G (Sc 4 G (Sc 5 G (Sc 6 G (Sc 8 G (Sc 9 G (Sc 10 G (Sc 11 G (Sc 12 G (Sc 13 G (Sc 14 G (Sc 15 G (Sc 16 G (Sc 17 G (Sc 18 G Sn))))))))))))))))) (Nat.zero_le _) ⟨G, G, G, G, G, G, G, G, G, G, trivial⟩ ?_
  intro k hi_k
  refine sq<|rg<|ltI G G G<|nl<|nx<|sq<|cdP G (fun h21 => ?_) (fun h21 => ?_)
  ·
   have q : (k : Int) < ((v.fStates.getD i default).fDeals.length : Int) := h21
   exact absurd q (by omega) --#done
  ·
   refine ex<|tE<|tE<|bE<|bN<|nx<|rg<|adI G G (inI (by omega) (by omega)) G<|mv G G<|nl<|dpQ ?_
   exact ag (i + 1) (by omega) (by omega) ⟨G, G, G, G, G, G, trivial⟩ G (Sc 6 G (Sc 7 G (Sc 8 G (Sc 9 G (Sc 10 G (Sc 11 G (Sc 12 G (Sc 13 G (Sc 14 G (Sc 15 G (Sc 16 G Sn)))))))))))
 ·
  exact ex<|tE<|tE<|bE<|fR0N () G G G Sn

theorem mkmoves_c (v : TScene) (v_0 v_1 v_2 v_3 v_4 : Value) (S : TState) (s_0 s_1 s_2 s_3 s_4 s_5 : Value) : Fnc Tryz.prog 49 [.agg (cScene v v_0 v_1 v_2 v_3 v_4).toArray, .agg (cState S s_0 s_1 s_2 s_3 s_4 s_5).toArray] [] [⟨v_0, v.fChart.fPlaces⟩, ⟨v_1, v.fChart.fMarks⟩, ⟨v_2, v.fStates⟩, ⟨v_3, v.fRights⟩, ⟨v_4, v.fAges⟩, ⟨s_0, S.fAccounts⟩, ⟨s_1, S.fMarks⟩, ⟨s_2, S.fWaits⟩, ⟨s_3, S.fDeals⟩, ⟨s_4, S.fEnds⟩, ⟨s_5, S.fImage⟩] (fun (_ : Unit) u => isCl 104 u) (fun _ u => [bl (fb1 u) 32 (cScene v v_0 v_1 v_2 v_3 v_4), bl (fb2 u) 55 (cState S s_0 s_1 s_2 s_3 s_4 s_5)]) (fun _ _ => []) := by
 refine Fnc.proof Tryz.func49 G 6 G G fun X w => sq<|rg<|bx G G G fun b2 => bx G G G fun b3 => asg G G<|nl<|nx<|sq<|rg<|mf (xs := [.tmp 2, .tmp 3]) G G<|asg G G<|nl<|nx ?_
 exact rt<|mtQ 1 G<|fR1 () G G G G Sn

theorem mkdeals_c (v : TScene) (v_0 v_1 v_2 v_3 v_4 : Value) (S : TState) (s_0 s_1 s_2 s_3 s_4 s_5 : Value) : Fnc Tryz.prog 50 [.agg (cScene v v_0 v_1 v_2 v_3 v_4).toArray, .agg (cState S s_0 s_1 s_2 s_3 s_4 s_5).toArray] [] [⟨v_0, v.fChart.fPlaces⟩, ⟨v_1, v.fChart.fMarks⟩, ⟨v_2, v.fStates⟩, ⟨v_3, v.fRights⟩, ⟨v_4, v.fAges⟩, ⟨s_0, S.fAccounts⟩, ⟨s_1, S.fMarks⟩, ⟨s_2, S.fWaits⟩, ⟨s_3, S.fDeals⟩, ⟨s_4, S.fEnds⟩, ⟨s_5, S.fImage⟩] (fun (_ : Unit) u => isCl 109 u) (fun _ u => [bl (fb1 u) 55 (cState S s_0 s_1 s_2 s_3 s_4 s_5), bl (fb2 u) 32 (cScene v v_0 v_1 v_2 v_3 v_4)]) (fun _ _ => []) := by
 refine Fnc.proof Tryz.func50 G 6 G G fun X w => sq<|rg<|bx G G G fun b2 => bx G G G fun b3 => asg G G<|nl<|nx<|sq<|rg<|mf (xs := [.tmp 3, .tmp 2]) G G<|asg G G<|nl<|nx ?_
 exact rt<|fR1 () G G G G Sn

theorem mksides_c (v : TScene) (v_0 v_1 v_2 v_3 v_4 : Value) (S : TState) (s_0 s_1 s_2 s_3 s_4 s_5 : Value) : Fnc Tryz.prog 51 [.agg (cScene v v_0 v_1 v_2 v_3 v_4).toArray, .agg (cState S s_0 s_1 s_2 s_3 s_4 s_5).toArray] [] [⟨v_0, v.fChart.fPlaces⟩, ⟨v_1, v.fChart.fMarks⟩, ⟨v_2, v.fStates⟩, ⟨v_3, v.fRights⟩, ⟨v_4, v.fAges⟩, ⟨s_0, S.fAccounts⟩, ⟨s_1, S.fMarks⟩, ⟨s_2, S.fWaits⟩, ⟨s_3, S.fDeals⟩, ⟨s_4, S.fEnds⟩, ⟨s_5, S.fImage⟩] (fun (_ : Unit) u => isCl 111 u) (fun _ u => [bl (fb1 u) 32 (cScene v v_0 v_1 v_2 v_3 v_4), bl (fb2 u) 55 (cState S s_0 s_1 s_2 s_3 s_4 s_5)]) (fun _ _ => []) := by
 refine Fnc.proof Tryz.func51 G 6 G G fun X w => sq<|rg<|bx G G G fun b2 => bx G G G fun b3 => asg G G<|nl<|nx<|sq<|rg<|mf (xs := [.tmp 2, .tmp 3]) G G<|asg G G<|nl<|nx ?_
 exact rt<|mtQ 1 G<|fR1 () G G G G Sn

theorem mklate_c (v : TScene) (v_0 v_1 v_2 v_3 v_4 : Value) (S : TState) (s_0 s_1 s_2 s_3 s_4 s_5 : Value) : Fnc Tryz.prog 52 [.agg (cScene v v_0 v_1 v_2 v_3 v_4).toArray, .agg (cState S s_0 s_1 s_2 s_3 s_4 s_5).toArray] [] [⟨v_0, v.fChart.fPlaces⟩, ⟨v_1, v.fChart.fMarks⟩, ⟨v_2, v.fStates⟩, ⟨v_3, v.fRights⟩, ⟨v_4, v.fAges⟩, ⟨s_0, S.fAccounts⟩, ⟨s_1, S.fMarks⟩, ⟨s_2, S.fWaits⟩, ⟨s_3, S.fDeals⟩, ⟨s_4, S.fEnds⟩, ⟨s_5, S.fImage⟩] (fun (_ : Unit) u => isCl 114 u) (fun _ u => [bl (fb1 u) 55 (cState S s_0 s_1 s_2 s_3 s_4 s_5), bl (fb2 u) 32 (cScene v v_0 v_1 v_2 v_3 v_4)]) (fun _ _ => []) := by
 refine Fnc.proof Tryz.func52 G 6 G G fun X w => sq<|rg<|bx G G G fun b2 => bx G G G fun b3 => asg G G<|nl<|nx<|sq<|rg<|mf (xs := [.tmp 3, .tmp 2]) G G<|asg G G<|nl<|nx ?_
 exact rt<|fR1 () G G G G Sn
end Go.Proofs.YtmpoffijcfaalaaGreat

/- Walks in a frame that has marks to take when it leaves; a range over a function that calls nothing. Generic: no program. -/

namespace Go.Eng
open Go.RowKit
def mk (k : Nat) : Deferred := { target := .collected k, args := #[] }
/-- A mark's block. -/
@[reducible] def dk (b : Nat) : OwnE where
  bs := [b]
  holds _ w := w.heap[b]? = some (.deferred (some []))
  valid h b' hb := by simp at hb; subst hb; exact (Array.getElem?_eq_some_iff.1 h).1
  keep h _ hw := (hw b (.inr (by simp))).trans h
def WCD (ds : List Deferred) (c : Cx) (x : Code) (Q : Exit → Act → World → Prop) (env : Env) (L : Own) (D : List Atom) : Prop :=
  ∀ a w, Fr c.n a env → St c.w0 c.M w L → DH D w L → Code.wp c.P x Q { a with defers := ds } w
def WQD (ds : List Deferred) (c : Cx) (Q : Exit → Act → World → Prop) (e : Exit) (env : Env) (L : Own) (D : List Atom) : Prop :=
  ∀ a w, Fr c.n a env → St c.w0 c.M w L → DH D w L → Q e { a with defers := ds } w
def WLoD (ds : List Deferred) (c : Cx) (x : Code) (Q : Exit → Act → World → Prop) (env : Env) (L : Own) (D : List Atom) : Prop :=
  ∀ a w, Fr c.n a env → St c.w0 c.M w L → DH D w L → LW c.P x Q { a with defers := ds } w
/-- The frame with marks below what it has. -/
def _root_.Go.Act.dd (a : Act) (ds : List Deferred) : Act := { a with defers := a.defers ++ ds }
theorem put_dd (a : Act) (ds : List Deferred) (d : Option Tmp) (v : Value) : (a.dd ds).put d v = (a.put d v).dd ds := by cases d <;> rfl
theorem Fr.dd {n : Nat} {a : Act} {env : Env} (f : Fr n a env) (ds : List Deferred) : a.dd ds = { a with defers := ds } := by
  unfold Act.dd
  rw [f.dn]
  rfl
theorem wpList_wd {P : Program} {ops : Array Oper} {Q : Exit → Act → World → Prop} (ds : List Deferred) : ∀ (rest : List Oper) a w, wpList P ops (fun e a w => Q e (a.dd ds) w) rest a w → wpList P ops Q rest (a.dd ds) w
  | [], _, _, h => h
  | o :: rest, a, w, h => by
    have ih := wpList_wd (P := P) (ops := ops) (Q := Q) ds rest
    have hlo : LetsOut (fun e (a : Act) w => Q e (a.dd ds) w) → LetsOut Q := fun ⟨a', w', h⟩ => ⟨_, w', h⟩
    unfold wpList at h ⊢
    have ey : yielded ops (a.dd ds).tmps = yielded ops a.tmps := rfl
    rw [ey]
    by_cases hw : Region.wanted o (yielded ops a.tmps) = true
    · rw [if_pos hw] at h ⊢
      rcases h with h | ⟨h1, h2⟩
      · left
        unfold Oper.wp at h ⊢
        have ee : (execOp (a.dd ds).eval o).run P w = (execOp a.eval o).run P w := rfl
        rw [ee]
        generalize (execOp a.eval o).run P w = r at *
        cases r with
        | ok nx w' =>
          cases nx <;> simp only [Oper.upon] at h ⊢ <;> try exact h
          · rw [put_dd]; exact ih _ _ h
          · rw [put_dd]; exact ih _ _ h
          · refine Calls.mono h fun e w'' he => ?_
            cases e with
            | returned v =>
              show wpList P ops Q rest ((a.dd ds).put o.dst v) w''
              rw [put_dd]; exact ih _ _ he
            | panicked ch => exact he
            | outgrown => exact hlo he
          · have := ih _ _ h
            rw [← put_dd] at this
            exact this
          · exact Rows.mono h fun _ _ he => by rw [put_dd]; exact ih _ _ he
        | halt x w' => cases x <;> simp only [Oper.upon] at h ⊢ <;> exact h
      · exact .inr ⟨h1, hlo h2⟩
    · rw [if_neg hw] at h ⊢
      rw [put_dd]
      exact ih _ _ h
section
variable {ds : List Deferred} {c : Cx} {x y : Code} {Q Q' : Exit → Act → World → Prop} {env : Env} {L : Own} {D : List Atom} {ops : Array Oper}
theorem wcD (h : WCD [] c x Q env L D) : WC c x Q env L D := fun a w f s d => by
  have := h a w f s d
  have e : ({ a with defers := [] } : Act) = a := by cases a; simp only [Act.mk.injEq, true_and]; exact f.dn.symm
  rwa [e] at this
theorem sqD (h : WCD ds c x (Exit.then (Code.wp c.P y Q) Q) env L D) : WCD ds c (.seq x y) Q env L D := fun a w f s d => wp_seq (h a w f s d)
theorem nxD (h : WCD ds c y Q env L D) : WQD ds c (Exit.then (Code.wp c.P y Q) Q') .normal env L D := h
theorem rgM {id : Nat} {l : List Oper} (h : WL (fun e a w => Q e (a.dd ds) w) c l.toArray l env L D) : WCD ds c (.region id l.toArray false) Q env L D := fun a w f s d => by
  rw [← f.dd]
  exact wp_region_lit (wpList_wd ds l a w (h a w f s d))
theorem nlD (h : WQD ds c Q .normal env L D) : WL (fun e a w => Q e (a.dd ds) w) c ops [] env L D := fun a w f s d => wpList_nil (by rw [f.dd]; exact h a w f s d)
theorem cdTD {o : Operand} (hc : ev env o = some (.bool true)) (h1 : WCD ds c x Q env L D) : WCD ds c (.cond o x y) Q env L D :=
  fun a w f s d => wp_cond_true (show Act.eval { a with defers := ds } o = _ from f.ev hc) (h1 a w f s d)
theorem cdFD {o : Operand} (hc : ev env o = some (.bool false)) (h1 : WCD ds c y Q env L D) : WCD ds c (.cond o x y) Q env L D :=
  fun a w f s d => wp_cond_false (show Act.eval { a with defers := ds } o = _ from f.ev hc) (h1 a w f s d)
theorem skD (h : WQD ds c Q .normal env L D) : WCD ds c .skip Q env L D := fun a w f s d => wp_skip (h a w f s d)
theorem exD {id : Nat} (h : WQD ds c Q (.exit id) env L D) : WCD ds c (.exit id) Q env L D := fun a w f s d => wp_exit (h a w f s d)
theorem rtD (h : WQD ds c Q .ret env L D) : WCD ds c .ret Q env L D := fun a w f s d => wp_ret (h a w f s d)
theorem bkD {id : Nat} (h : WCD ds c x (Exit.inBlock id Q) env L D) : WCD ds c (.block id x) Q env L D := fun a w f s d => wp_block (h a w f s d)
theorem tED {K : Act → World → Prop} {id : Nat} (h : WQD ds c Q (.exit id) env L D) : WQD ds c (Exit.then K Q) (.exit id) env L D := h
theorem bND {id : Nat} (h : WQD ds c Q .normal env L D) : WQD ds c (Exit.inBlock id Q) .normal env L D := h
theorem bED {id : Nat} (h : WQD ds c Q .normal env L D) : WQD ds c (Exit.inBlock id Q) (.exit id) env L D := fun a w f s d => by
  simp only [Exit.inBlock, if_true]; exact h a w f s d
theorem lu0D (h : WLoD ds c x Q env L D) : WCD ds c (.loop x) Q env L D := fun a w f s d => by
  intro b k cs
  obtain ⟨e, a', w', hq, harr⟩ := h a w f s d b k cs
  exact ⟨e, a', w', hq, .of_steps (.one step_loop) harr⟩
theorem lu1D (h : WCD ds c x (Exit.then (LW c.P x Q) Q) env L D) : WLoD ds c x Q env L D := fun a w f s d => by
  intro b k cs
  obtain ⟨e, a₁, w₁, hq, harr⟩ := h a w f s d b (.inLoop x :: k) cs
  cases e with
  | normal =>
    obtain ⟨e₂, a₂, w₂, hq₂, harr₂⟩ := hq b k cs
    exact ⟨e₂, a₂, w₂, hq₂, .of_steps (Steps.trans harr (.one step_inLoop)) harr₂⟩
  | exit id => exact ⟨_, a₁, w₁, hq, .pass (x := .inLoop x) rfl (fun _ _ => .inl (by simp)) harr⟩
  | goto l => exact ⟨_, a₁, w₁, hq, .pass (x := .inLoop x) rfl (fun _ _ => .inl (by simp)) harr⟩
  | ret => exact ⟨_, a₁, w₁, hq, .pass (x := .inLoop x) rfl (fun _ _ => .inl (by simp)) harr⟩
  | panic ch => exact ⟨_, a₁, w₁, hq, .pass (x := .inLoop x) rfl (fun _ _ => .inl (by simp)) harr⟩
  | outgrown => exact ⟨_, a₁, w₁, hq, .pass (x := .inLoop x) rfl (fun _ _ => .inl (by simp)) harr⟩
theorem lunD (h : WLoD ds c x Q env L D) : WQD ds c (Exit.then (LW c.P x Q) Q) .normal env L D := h
end
/-! ### The loop that calls nothing -/
theorem nd_ne : ∀ {L : Own} {i j : Nat} {p q : OwnE} {a b : Nat}, L.bs.Nodup → L[i]? = some p → L[j]? = some q → i < j → a ∈ p.bs → b ∈ q.bs → a ≠ b
  | [], _, _, _, _, _, _, _, hi, _, _, _, _ => by simp at hi
  | r :: L, 0, j + 1, p, q, a, b, hn, hi, hj, _, ha, hb => by
    simp only [List.getElem?_cons_zero, Option.some.injEq] at hi
    subst hi
    simp only [Own.bs, bsOf, List.nodup_append] at hn
    simp only [List.getElem?_cons_succ] at hj
    exact hn.2.2 a ha b (mem_bsOf.2 ⟨q, List.mem_of_getElem? hj, hb⟩)
  | r :: L, i + 1, j + 1, p, q, a, b, hn, hi, hj, hij, ha, hb => by
    simp only [Own.bs, bsOf, List.nodup_append] at hn
    simp only [List.getElem?_cons_succ] at hi hj
    exact nd_ne (L := L) hn.2.1 hi hj (by omega) ha hb
theorem quiet_seq {P : Program} {gf n : Nat} {b1 b2 T1 T2 : Nat} {c1 c2 : List Value} {As : List Atom} {w : World}
    (h : ∀ yv : Value, Fnc P gf [yv, .pointer (some ⟨b1, 0, none⟩), .pointer (some ⟨b2, 0, none⟩)] [bl b1 T1 c1, bl b2 T2 c2] As (fun (_ : Unit) u => u = .tuple #[]) (fun _ _ => [bl b1 T1 c1, bl b2 T2 c2]) (fun _ _ => []))
    (hne : b1 ≠ b2) (h1 : w.heap[b1]? = some (.cells c1.toArray T1 (0, 0))) (h2 : w.heap[b2]? = some (.cells c2.toArray T2 (0, 0))) (hA : ∀ t ∈ As, t.holds (fun b => b < w.heap.size ∧ b ≠ b1 ∧ b ≠ b2) w) :
    SeqStopsK Fence.wide n P gf #[.pointer (some ⟨b1, 0, none⟩), .pointer (some ⟨b2, 0, none⟩)] (fun (x : Empty) => nomatch x) (fun _ _ => True) (fun _ => True) (fun _ => True) 0 w := by
  intro ll J Jx W hB hJ _ _ h0
  have k1 : W.heap[b1]? = some (.cells c1.toArray T1 (0, 0)) := (hB.block b1 (lt_of_heap h1)).trans h1
  have k2 : W.heap[b2]? = some (.cells c2.toArray T2 (0, 0)) := (hB.block b2 (lt_of_heap h2)).trans h2
  refine callsIn_wide.2 (Calls.mono (h (.func (.yield ll) #[] #[]) [] W (by simpa [Own.bs, bsOf] using hne) (by simp) ?_ ?_) ?_)
  · intro p hp
    have : p = bl b1 T1 c1 ∨ p = bl b2 T2 c2 := by simpa using hp
    rcases this with rfl | rfl
    · exact k1
    · exact k2
  · intro t ht
    refine Atom.keep (hA t ht) (fun b hb => ⟨Nat.lt_of_lt_of_le hb.1 hB.size, ?_⟩) (fun b hb => hB.block b hb.1)
    simp only [Own.bs, bsOf, List.append_nil, List.mem_append, List.mem_singleton, not_or]
    exact hb.2
  · rintro e W' ⟨v, rfl, hs, _, _, hL, _⟩
    refine ⟨⟨v, rfl⟩, .inl ⟨[], trivial, hJ [] W W' none h0 ?_ (fun r h => by cases h)⟩⟩
    refine ⟨hs.os, hs.tape, hs.output, hs.size, fun k hk _ => ?_⟩
    by_cases e1 : k = b1
    · subst e1
      exact (hL (bl k T1 c1) (by simp)).trans k1.symm
    · by_cases e2 : k = b2
      · subst e2
        exact (hL (bl k T2 c2) (by simp)).trans k2.symm
      · exact hs.block k hk (by simp [Own.bs, bsOf, e1, e2])
theorem stp_from (B : Nat) {w : World} (hB : w.heap.size ≤ B) {β : Type} : OwnFrom B (fun (_ : β) W => Stp [] w W) := fun _ W W' row hs hg hr =>
  ⟨hg.os.trans hs.os, hg.tape.trans hs.tape, hg.output.trans hs.output, Nat.le_trans hs.size hg.size, fun k hk hx => (hg.block k (Nat.lt_of_lt_of_le hk hs.size) (fun e => by
    have := (hr k e.symm).1
    omega)).trans (hs.block k hk hx)⟩
section
variable {ds : List Deferred} {c : Cx} {Q : Exit → Act → World → Prop} {env : Env} {L : Own} {D : List Atom}
theorem rfD {g : Operand} {p : Tmp} {assign body : Code} {gf b1 b2 T1 T2 : Nat} {c1 c2 : List Value} {As : List Atom} (i j : Nat) (hij : Nat.blt i j = true ∨ Nat.blt j i = true)
    (h : ∀ yv : Value, Fnc c.P gf [yv, .pointer (some ⟨b1, 0, none⟩), .pointer (some ⟨b2, 0, none⟩)] [bl b1 T1 c1, bl b2 T2 c2] As (fun (_ : Unit) u => u = .tuple #[]) (fun _ _ => [bl b1 T1 c1, bl b2 T2 c2]) (fun _ _ => [])) (hok : FnOk c.P gf)
    (hg : ev env g = some (.func (.func gf) #[] #[.pointer (some ⟨b1, 0, none⟩), .pointer (some ⟨b2, 0, none⟩)])) (hi : L[i]? = some (bl b1 T1 c1)) (hj : L[j]? = some (bl b2 T2 c2)) (hA : SubD As D)
    (k : ∀ B, WQD (mk B :: ds) c Q .normal env (dk B :: L) D) : WCD ds c (.rangeFunc g #[p] assign body) Q env L D := by
  intro a w f st dh
  have h1 : w.heap[b1]? = some (.cells c1.toArray T1 (0, 0)) := st.own _ (List.mem_of_getElem? hi)
  have h2 : w.heap[b2]? = some (.cells c2.toArray T2 (0, 0)) := st.own _ (List.mem_of_getElem? hj)
  have hne : b1 ≠ b2 := by
    rcases hij with hh | hh
    · exact nd_ne st.nd hi hj (lt_blt hh) (by simp) (by simp)
    · exact Ne.symm (nd_ne st.nd hj hi (lt_blt hh) (by simp) (by simp))
  have m1 : b1 ∈ L.bs := mem_bsOf.2 ⟨_, List.mem_of_getElem? hi, by simp⟩
  have m2 : b2 ∈ L.bs := mem_bsOf.2 ⟨_, List.mem_of_getElem? hj, by simp⟩
  refine (wpIn_wide (n := 2)).1 (wpIn_rangeFunc_ownH (gf := gf) (lb := #[.pointer (some ⟨b1, 0, none⟩), .pointer (some ⟨b2, 0, none⟩)]) (Kp := fun _ _ => True) (S := fun _ => True) (Sp := fun _ => True) (N := 0) (w0 := w) rfl (by decide) (show Act.eval { a with defers := ds } g = _ from f.ev hg) trivial (run_callFunc hok)
    (quiet_seq h hne h1 h2 fun t ht => Atom.keep (dh t (hA t ht)) (fun b hb => ⟨hb.1, fun e => hb.2 (e ▸ m1), fun e => hb.2 (e ▸ m2)⟩) (fun _ _ => rfl)) (fun _ _ => trivial) (fun _ _ _ _ _ _ _ _ => trivial) (Below.refl _ _) (fun x => nomatch x)
    (fun _ W => Stp [] w W) (fun _ _ _ => False) (stp_from _ (Nat.le_refl _)) (fun _ _ _ _ _ h => h.elim) (Stp.refl _ _) (fun x => nomatch x) (fun x => nomatch x) ?_ ?_ ?_ ?_)
  · intro _ _ x
    exact nomatch x
  · intro _ _ x
    exact nomatch x
  · intro B xs W hB _ hs hK
    have hDk := k B a W f
    have := hDk (st.push (p := dk B) hs hK (by simp) (by simpa using hB)) (dh.push hs (by simpa using hB))
    exact this
  · intro _ _ _ _ _ _ h
    exact h.elim
end
/-! ### The way out -/
theorem leavesM {P : Program} {fn : Func} {tmps : Array Value} {R : Ending → World → Prop} {n : Nat} : ∀ (ks : List Nat) (W : World), (∀ k ∈ ks, W.heap[k]? = some (.deferred (some []))) → ks.Nodup → (∀ W', Stp ks W W' → ∃ v, (results fn tmps).run P W' = .ok v W' ∧ R (.returned v) W') → LeavesInM Fence.wide n P fn tmps R (ks.map mk) .returning W
  | [], W, _, _, h => h W (Stp.refl _ _)
  | b :: ks, W, hk, hn, h => by
    have hb := hk b (by simp)
    have hs : Stp [b] W (W.putObj b (.deferred none)) := ⟨rfl, rfl, rfl, by simp [World.putObj], fun i hi hx => World.putObj_heap_other (by simpa using hx)⟩
    refine ⟨by simp, .inl ⟨_, _, rfl, run_takeDeferred hb, leavesM ks _ (fun k hk' => ?_) (List.nodup_cons.1 hn).2 fun W' hs' => h W' ?_⟩⟩
    · refine (World.putObj_heap_other fun e => ?_).trans (hk k (List.mem_cons_of_mem _ hk'))
      subst e
      exact (List.nodup_cons.1 hn).1 hk'
    · exact (hs.mono fun k hk => by simp at hk; simp [hk]).trans (hs'.mono fun k hk => List.mem_cons_of_mem _ hk)
section
variable {P : Program} {fn : Func} {x : Code} {f : FuncId} {args : List Value} {As : List Atom} {u : Value} {n m : Nat} {env : Env} {L : Own} {D : List Atom} {X : List Nat} {w0 : World}
abbrev PostM (m : Nat) (P : Program) (fn : Func) (X : List Nat) (w : World) (u : Value) : Exit → Act → World → Prop :=
  bodyPostM Fence.wide m P fn fun e w' => ∃ v, e = .returned v ∧ FnPost X w [] (fun (_ : Unit) v => v = u) (fun _ _ => []) (fun _ _ => []) v w'
theorem FnV.proofZ (m : Nat) (hf : P.funcs[f]? = some fn) (hb : fn.body = some x) (n : Nat) (hn : n = fn.ntmps) (hargs : Nat.ble args.length n = true)
    (h : ∀ X w, WC ⟨P, n, w, [] ++ X⟩ x (PostM m P fn X w u) (ent 0 args) ([] ++ [fz X w]) As) : FnV P f args As u := by
  intro X w hnd hx h0 hA
  have hbs : Own.bs ([] ++ [fz X w]) = X := by simp [Own.bs, bsOf]
  refine enterM m ([] ++ X) ([] ++ [fz X w]) As hf hb n hn (Nat.le_of_ble_eq_true hargs) ⟨Stp.refl _ _, ?_, ?_, ?_⟩ ?_ (h X w)
  · intro p hp
    have : p = fz X w := by simpa using hp
    subst this
    exact ⟨fun _ _ => rfl, hx⟩
  · rw [hbs]; exact hnd
  · rw [hbs]; exact fun b hb => .inl hb
  · intro t ht
    rw [hbs]
    exact hA t ht
theorem postZ {A : Own} {w : World} (st : St w0 ([] ++ X) w (A ++ [fz X w0])) (d : DH D w (A ++ [fz X w0])) {w' : World} {ks : List Nat} (hs : Stp ks w w') (hks : ∀ k ∈ ks, k ∈ A.bs) :
    FnPost X w0 [] (fun (_ : Unit) v => v = u) (fun _ _ => []) (fun _ _ => []) u w' := by
  have hp : FnPost X w0 [] (fun (_ : Unit) v => v = u) (fun _ _ => []) (fun _ _ => []) u w := Fnc.post (L0 := []) (D := D) () rfl (L := [fz X w0]) rfl SubD.nil st.dropA d.dropA (by simp [Own.bs, bsOf])
  have hn := new_of (L0 := []) (A := A) (X := X) st
  obtain ⟨h1, y, hy, _⟩ := hp
  refine ⟨⟨hs.os.trans h1.os, hs.tape.trans h1.tape, hs.output.trans h1.output, Nat.le_trans h1.size hs.size, fun k hk hx => (hs.block k (Nat.lt_of_lt_of_le hk h1.size) fun hm => ?_).trans (h1.block k hk hx)⟩, y, hy, by simp, by simp [Own.bs, bsOf], by simp [Own.bs, bsOf], by simp⟩
  rcases hn k (hks k hm) with h | h
  · simp [Own.bs, bsOf] at h
  · omega
/-- A return with no mark. -/
theorem fRZ (A : Own) {t : Nat} (hr : fn.results = #[.tmp t]) (hv : lk env t = some u) (hL : L = A ++ [fz X w0]) : WQ ⟨P, n, w0, [] ++ X⟩ (PostM m P fn X w0 u) .ret env L D := by
  intro a w f st d
  subst hL
  refine (show LeavesInM Fence.wide m P fn _ _ a.defers .returning w from ?_)
  rw [f.dn]
  refine ⟨_, results_tmp hr _ _ _, _, rfl, ?_⟩
  have := f.at_ t u hv
  rw [show a.tmps.getD t undef = u by simp [this]]
  exact postZ st d (Stp.refl [] w) (by simp)
/-- A return with marks. -/
theorem fRZD (ks : List Nat) (A : Own) {t : Nat} (hr : fn.results = #[.tmp t]) (hv : lk env t = some u) (hL : L = ks.map dk ++ (A ++ [fz X w0])) : WQD (ks.map mk) ⟨P, n, w0, [] ++ X⟩ (PostM m P fn X w0 u) .ret env L D := by
  intro a w f st d
  subst hL
  have hbs : Own.bs (ks.map dk) = ks := by
    have : ∀ l : List Nat, bsOf (l.map dk) = l := fun l => by
      induction l with
      | nil => rfl
      | cons k l ih => simp [bsOf, ih]
    exact this ks
  refine (show LeavesInM Fence.wide m P fn _ _ (ks.map mk) .returning w from ?_)
  refine leavesM ks w (fun k hk => st.own (dk k) (List.mem_append.2 (.inl (List.mem_map.2 ⟨k, hk, rfl⟩)))) ?_ fun W' hs => ⟨_, results_tmp hr _ _ _, _, rfl, ?_⟩
  · have := st.nd
    rw [Own.bs, bsOf_append] at this
    have := (List.nodup_append.1 this).1
    rwa [← Own.bs, hbs] at this
  · have := f.at_ t u hv
    rw [show a.tmps.getD t undef = u by simp [this]]
    rw [← List.append_assoc] at st d
    refine postZ st d hs fun k hk => ?_
    rw [Own.bs, bsOf_append]
    exact List.mem_append.2 (.inl (by rw [← Own.bs, hbs]; exact hk))
end
end Go.Eng
