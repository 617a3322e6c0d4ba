/- Part 39 of the proof of dutyQuiet_holds: DutW21, DutL1, DutL2. Every text below begins with what it shows. -/
import Derived.Test.YtmpoffijcfaalaaGreatQu38

/- What whoever leads a group brings in, where all is calm: written by specs9.py. -/

namespace Go.Proofs.YtmpoffijcfaalaaGreat
open Go.Eng Go.YtmpoffijcfaalaaGreat
set_option maxHeartbeats 1000000

theorem wkW {ds : List Deferred} {c : Cx} {x : Code} {Q : Exit → Act → World → Prop} {env : Env} {L : Go.Eng.Own} {D : List Atom} (env' : Env) (hE : Go.Eng.Sub env' env) (h : WLoD ds c x Q env' L D) : WLoD ds c x Q env L D := fun a w f st d => h a w (f.sub hE) st d

theorem duties0_c (v : TScene) (v_0 v_1 v_2 v_3 v_4 : Value) (n : Int) (h_v : v.wf) (h_n : InI n) (hp : v.fChart.fPlan = ⟨0, 0, 0, ByteArray.empty, ByteArray.empty, 0, 0⟩) (hsd : ∀ j, j < v.fStates.length → (v.fStates.getD j default).fDeals.length = 0) (hsw : ∀ j, j < v.fStates.length → (v.fStates.getD j default).fWaits.length = 0) (hss : ∀ j, j < v.fStates.length → (v.fStates.getD j default).fSeal = ⟨0, 0, 0, ByteArray.empty, ByteArray.empty, 0, 0⟩) (hso : ∀ j, j < v.fStates.length → (v.fStates.getD j default).fOut = ⟨0, 0, 0, ByteArray.empty, ByteArray.empty, 0, 0⟩) : FnV Tryz.prog 15 [.agg (cScene v v_0 v_1 v_2 v_3 v_4).toArray, .int .i64 n] [⟨v_0, v.fChart.fPlaces⟩, ⟨v_1, v.fChart.fMarks⟩, ⟨v_2, v.fStates⟩, ⟨v_3, v.fRights⟩, ⟨v_4, v.fAges⟩] (.slice none 0 0) := by
 refine FnV.proofZ 2 Tryz.func15 G 55 G G fun X w => ?_
 obtain ⟨h_n1, h_n2⟩ := id h_n
 refine sq<|rg<|bx G G G fun b2 => asg G G<|nl<|nx<|sq<|sq<|rg<|mv G G<|neI G G G<|mv G G ?_
 apply jo [(1, _), (2, _)] ⟨rfl, rfl, trivial⟩
 ·
  intro K16
  refine spA (i := 12) G (fun h12 => ?_) (fun h12 => ?_)
  ·
   have p12 := h12
   simp only [Bool.not_eq_true', Bool.not_eq_false', decide_eq_true_eq, decide_eq_false_iff_not] at p12
   exact gY G G G<|mv G G<|gY G G G<|cfv (shards_c _ h_n) ok_44 G Sn G<|gY G G G<|nt G G<|pkT G G G<|jA K16 h12 ⟨G, G, trivial⟩ Sr
  ·
   exact gS (g := [_, _, _]) G<|pkF G G G<|jA0 K16 h12 ⟨G, G, trivial⟩ Sr
 refine mv G G ?_
 apply jo [(1, _), (2, _)] ⟨rfl, rfl, trivial⟩
 ·
  intro K21
  refine spO (i := 17) G (fun h17 => ?_) (fun h17 => ?_)
  ·
   exact gY G G G<|ldM 0 (cScene v v_0 v_1 v_2 v_3 v_4) G G row_32 G G<|gY G G G<|cfv (dright_c _ _ _ _ _ _ h_v) ok_17 G (Sc 0 G (Sc 1 G (Sc 2 G (Sc 3 G (Sc 4 G Sn))))) G<|gY G G G<|nt G G<|pkF G G G<|jR K21 h17 ⟨G, G, trivial⟩ Sr
  ·
   exact gS (g := [_, _, _]) G<|pkT G G G<|jR0 K21 h17 ⟨G, G, trivial⟩ Sr
 refine nl<|nx<|cdB G (fun h21 => ?_) (fun h21 => ?_)
 ·
  exact sq<|rg<|asg G G<|nl<|nx<|rt<|tR<|dpQ<|fRZ [] G G G
 ·
  have q := h21
  simp only [Bool.or_eq_false_iff, Bool.not_eq_false'] at q
  have hl := dright_len q.2
  refine sk<|nx<|sq<|sq<|rg<|mv G G<|eqI G G G<|nl<|nx<|cdP G (fun h23 => ?_) (fun h23 => ?_)
  ·
   exact sq<|rg<|ldM 0 (cScene v v_0 v_1 v_2 v_3 v_4) G G row_32 G G<|cfv (charted0_c v v_0 v_1 v_2 v_3 v_4 h_v hp) ok_48 G (Sc 0 G (Sc 1 G (Sc 2 G (Sc 3 G (Sc 4 G Sn))))) G<|asg G G<|nl<|nx<|rt<|tR<|dpQ<|fRZ [] G G G
  ·
   have hg : 1 ≤ n ∧ n < 8 := by
    have q1 := q.1
    simp only [Bool.and_eq_false_iff, Bool.not_eq_false', decide_eq_true_eq, okGroup, Bool.and_eq_true] at q1
    rcases q1 with q1 | q1
    ·
     exact absurd q1 h23
    ·
     exact q1
   obtain ⟨S, hS⟩ : ∃ S, v.fStates.getD (n - 1).toNat default = S := ⟨_, rfl⟩
   have hj : (n - 1).toNat < v.fStates.length := by omega
   have hs0 := hss _ hj
   have ho0 := hso _ hj
   have hd0 := hsd _ hj
   have hw0 := hsw _ hj
   rw [hS] at hs0 ho0 hd0 hw0
   refine sk<|nx<|sq<|rg<|ldM 0 (cScene v v_0 v_1 v_2 v_3 v_4) G G row_32 G G<|mv G G<|cf (state_c v v_0 v_1 v_2 v_3 v_4 n S h_v hg.1 (by omega) (by omega) hS) ok_45 G (Sc 0 G (Sc 1 G (Sc 2 G (Sc 3 G (Sc 4 G Sn))))) G fun y28 v28 h28 => ?_
   obtain ⟨e28, w28⟩ := h28
   subst e28
   obtain ⟨s_0, s_1, s_2, s_3, s_4, s_5⟩ := y28
   refine al zero_55 G fun b5 => gtL (q := s_0.oneCell' = true) (fun S w h => oneCell_of_list (h _ (List.mem_of_getElem? (i := 0) G))) fun o_s_0 => gtL (q := s_1.oneCell' = true) (fun S w h => oneCell_of_list (h _ (List.mem_of_getElem? (i := 1) G))) fun o_s_1 => gtL (q := s_2.oneCell' = true) (fun S w h => oneCell_of_list (h _ (List.mem_of_getElem? (i := 2) G))) fun o_s_2 => gtL (q := s_3.oneCell' = true) (fun S w h => oneCell_of_list (h _ (List.mem_of_getElem? (i := 3) G))) fun o_s_3 => gtL (q := s_4.oneCell' = true) (fun S w h => oneCell_of_list (h _ (List.mem_of_getElem? (i := 4) G))) fun o_s_4 => gtL (q := s_5.oneCell' = true) (fun S w h => oneCell_of_list (h _ (List.mem_of_getElem? (i := 5) G))) fun o_s_5 => stW 0 (us := (cState S s_0 s_1 s_2 s_3 s_4 s_5)) G G G row_55 (by simp only [List.all_cons, List.all_nil, Bool.and_true, o_s_0, o_s_1, o_s_2, o_s_3, o_s_4, o_s_5]; rfl) G<|nl<|nx<|sq<|rg<|al zero_45 G fun b6 => nl ?_
   refine nx<|sq<|sq ?_

   refine rgH ⟨fun q_ => ([[], [], [0, 1], [], [], [3, 4], [], [], [6, 7], [], [], [9, 10], [2, 5, 8, 11], [12], []] : List (List Nat)).getD q_ [], fun q_ => ([fun _ => True, fun _ => True, isCl 104, fun _ => True, fun _ => True, isCl 109, fun _ => True, fun _ => True, isCl 111, fun _ => True, fun _ => True, isCl 114, fun u => u = .slice (some ⟨ptrS u, 0, none⟩) 4 4, fun _ => True, fun _ => True] : List (Value → Prop)).getD q_ (fun _ => True), fun _ _ => [], fun q_ => ([some (.agg (cScene v v_0 v_1 v_2 v_3 v_4).toArray), some (.agg (cState S s_0 s_1 s_2 s_3 s_4 s_5).toArray), none, some (.agg (cScene v v_0 v_1 v_2 v_3 v_4).toArray), some (.agg (cState S s_0 s_1 s_2 s_3 s_4 s_5).toArray), none, some (.agg (cScene v v_0 v_1 v_2 v_3 v_4).toArray), some (.agg (cState S s_0 s_1 s_2 s_3 s_4 s_5).toArray), none, some (.agg (cScene v v_0 v_1 v_2 v_3 v_4).toArray), some (.agg (cState S s_0 s_1 s_2 s_3 s_4 s_5).toArray), none, none, some (.int .i64 4), some (.int .i64 0)] : List (Option Value)).getD q_ none, fun h_ => match h_ with
     | [] => fun vs_ => [bl b6 45 [.slice none 0 0], bl b5 55 (cState S s_0 s_1 s_2 s_3 s_4 s_5), bl b2 32 (cScene v v_0 v_1 v_2 v_3 v_4), fz X w]
     | [2] => fun vs_ => [bl (fb1 (vs_.getD 0 undef)) 32 (cScene v v_0 v_1 v_2 v_3 v_4), bl (fb2 (vs_.getD 0 undef)) 55 (cState S s_0 s_1 s_2 s_3 s_4 s_5), bl b6 45 [.slice none 0 0], bl b5 55 (cState S s_0 s_1 s_2 s_3 s_4 s_5), bl b2 32 (cScene v v_0 v_1 v_2 v_3 v_4), fz X w]
     | [2, 5] => fun vs_ => [bl (fb1 (vs_.getD 1 undef)) 55 (cState S s_0 s_1 s_2 s_3 s_4 s_5), bl (fb2 (vs_.getD 1 undef)) 32 (cScene v v_0 v_1 v_2 v_3 v_4), bl (fb1 (vs_.getD 0 undef)) 32 (cScene v v_0 v_1 v_2 v_3 v_4), bl (fb2 (vs_.getD 0 undef)) 55 (cState S s_0 s_1 s_2 s_3 s_4 s_5), bl b6 45 [.slice none 0 0], bl b5 55 (cState S s_0 s_1 s_2 s_3 s_4 s_5), bl b2 32 (cScene v v_0 v_1 v_2 v_3 v_4), fz X w]
     | [2, 5, 8] => fun vs_ => [bl (fb1 (vs_.getD 2 undef)) 32 (cScene v v_0 v_1 v_2 v_3 v_4), bl (fb2 (vs_.getD 2 undef)) 55 (cState S s_0 s_1 s_2 s_3 s_4 s_5), bl (fb1 (vs_.getD 1 undef)) 55 (cState S s_0 s_1 s_2 s_3 s_4 s_5), bl (fb2 (vs_.getD 1 undef)) 32 (cScene v v_0 v_1 v_2 v_3 v_4), bl (fb1 (vs_.getD 0 undef)) 32 (cScene v v_0 v_1 v_2 v_3 v_4), bl (fb2 (vs_.getD 0 undef)) 55 (cState S s_0 s_1 s_2 s_3 s_4 s_5), bl b6 45 [.slice none 0 0], bl b5 55 (cState S s_0 s_1 s_2 s_3 s_4 s_5), bl b2 32 (cScene v v_0 v_1 v_2 v_3 v_4), fz X w]
     | [2, 5, 8, 11] => fun vs_ => [bl (fb1 (vs_.getD 3 undef)) 55 (cState S s_0 s_1 s_2 s_3 s_4 s_5), bl (fb2 (vs_.getD 3 undef)) 32 (cScene v v_0 v_1 v_2 v_3 v_4), bl (fb1 (vs_.getD 2 undef)) 32 (cScene v v_0 v_1 v_2 v_3 v_4), bl (fb2 (vs_.getD 2 undef)) 55 (cState S s_0 s_1 s_2 s_3 s_4 s_5), bl (fb1 (vs_.getD 1 undef)) 55 (cState S s_0 s_1 s_2 s_3 s_4 s_5), bl (fb2 (vs_.getD 1 undef)) 32 (cScene v v_0 v_1 v_2 v_3 v_4), bl (fb1 (vs_.getD 0 undef)) 32 (cScene v v_0 v_1 v_2 v_3 v_4), bl (fb2 (vs_.getD 0 undef)) 55 (cState S s_0 s_1 s_2 s_3 s_4 s_5), bl b6 45 [.slice none 0 0], bl b5 55 (cState S s_0 s_1 s_2 s_3 s_4 s_5), bl b2 32 (cScene v v_0 v_1 v_2 v_3 v_4), fz X w]
     | [2, 5, 8, 11, 12] => fun vs_ => [bl (ptrS (vs_.getD 4 undef)) 103 [(vs_.getD 0 undef), (vs_.getD 1 undef), (vs_.getD 2 undef), (vs_.getD 3 undef)], bl (fb1 (vs_.getD 3 undef)) 55 (cState S s_0 s_1 s_2 s_3 s_4 s_5), bl (fb2 (vs_.getD 3 undef)) 32 (cScene v v_0 v_1 v_2 v_3 v_4), bl (fb1 (vs_.getD 2 undef)) 32 (cScene v v_0 v_1 v_2 v_3 v_4), bl (fb2 (vs_.getD 2 undef)) 55 (cState S s_0 s_1 s_2 s_3 s_4 s_5), bl (fb1 (vs_.getD 1 undef)) 55 (cState S s_0 s_1 s_2 s_3 s_4 s_5), bl (fb2 (vs_.getD 1 undef)) 32 (cScene v v_0 v_1 v_2 v_3 v_4), bl (fb1 (vs_.getD 0 undef)) 32 (cScene v v_0 v_1 v_2 v_3 v_4), bl (fb2 (vs_.getD 0 undef)) 55 (cState S s_0 s_1 s_2 s_3 s_4 s_5), bl b6 45 [.slice none 0 0], bl b5 55 (cState S s_0 s_1 s_2 s_3 s_4 s_5), bl b2 32 (cScene v v_0 v_1 v_2 v_3 v_4), fz X w]
     | _ => fun _ => [], [2, 5, 8, 11, 12], [[], [2], [2, 5], [2, 5, 8], [2, 5, 8, 11], [2, 5, 8, 11, 12]]⟩ (fun V => [bl (ptrS (V 12)) 103 [(V 2), (V 5), (V 8), (V 11)], bl (fb1 (V 11)) 55 (cState S s_0 s_1 s_2 s_3 s_4 s_5), bl (fb2 (V 11)) 32 (cScene v v_0 v_1 v_2 v_3 v_4), bl (fb1 (V 8)) 32 (cScene v v_0 v_1 v_2 v_3 v_4), bl (fb2 (V 8)) 55 (cState S s_0 s_1 s_2 s_3 s_4 s_5), bl (fb1 (V 5)) 55 (cState S s_0 s_1 s_2 s_3 s_4 s_5), bl (fb2 (V 5)) 32 (cScene v v_0 v_1 v_2 v_3 v_4), bl (fb1 (V 2)) 32 (cScene v v_0 v_1 v_2 v_3 v_4), bl (fb2 (V 2)) 55 (cState S s_0 s_1 s_2 s_3 s_4 s_5), bl b6 45 [.slice none 0 0], bl b5 55 (cState S s_0 s_1 s_2 s_3 s_4 s_5), bl b2 32 (cScene v v_0 v_1 v_2 v_3 v_4), fz X w]) mixed rfl rfl (show AllP _ [[2, 5, 8, 11, 12]] from ⟨fun _ => rfl, trivial⟩) ?_ ?_
   ·
    refine ⟨fun V De _=>aP1 (ldM 2 (cScene v v_0 v_1 v_2 v_3 v_4) G G row_32 G G<|oh G G G G),fun V De _=>aP1 (ldM 1 (cState S s_0 s_1 s_2 s_3 s_4 s_5) G G row_55 G G<|oh G G G G),fun V De _=>aP1 (cf (mkmoves_c _ _ _ _ _ _ _ _ _ _ _ _ _) ok_49 G (Sc 6 G (Sc 7 G (Sc 8 G (Sc 9 G (Sc 10 G (Sc 0 G (Sc 1 G (Sc 2 G (Sc 3 G (Sc 4 G (Sc 5 G Sn))))))))))) G fun y31 v31 h31 => nl (odH G G G h31 Sn Sr)),fun V De _=>aP2 (ldM 2 (cScene v v_0 v_1 v_2 v_3 v_4) G G row_32 G G<|oh G G G G) (ldM 4 (cScene v v_0 v_1 v_2 v_3 v_4) G G row_32 G G<|oh G G G G),fun V De _=>aP2 (ldM 1 (cState S s_0 s_1 s_2 s_3 s_4 s_5) G G row_55 G G<|oh G G G G) (ldM 3 (cState S s_0 s_1 s_2 s_3 s_4 s_5) G G row_55 G G<|oh G G G G),fun V De _=>aP1 (cf (mkdeals_c _ _ _ _ _ _ _ _ _ _ _ _ _) ok_50 G (Sc 6 G (Sc 7 G (Sc 8 G (Sc 9 G (Sc 10 G (Sc 0 G (Sc 1 G (Sc 2 G (Sc 3 G (Sc 4 G (Sc 5 G Sn))))))))))) G fun y34 v34 h34 => nl (odH G G G h34 Sn Sr)),fun V De _=>aP3 (ldM 2 (cScene v v_0 v_1 v_2 v_3 v_4) G G row_32 G G<|oh G G G G) (ldM 4 (cScene v v_0 v_1 v_2 v_3 v_4) G G row_32 G G<|oh G G G G) (ldM 6 (cScene v v_0 v_1 v_2 v_3 v_4) G G row_32 G G<|oh G G G G),fun V De _=>aP3 (ldM 1 (cState S s_0 s_1 s_2 s_3 s_4 s_5) G G row_55 G G<|oh G G G G) (ldM 3 (cState S s_0 s_1 s_2 s_3 s_4 s_5) G G row_55 G G<|oh G G G G) (ldM 5 (cState S s_0 s_1 s_2 s_3 s_4 s_5) G G row_55 G G<|oh G G G G),?_⟩
    refine ⟨fun V De _=>aP1 (cf (mksides_c _ _ _ _ _ _ _ _ _ _ _ _ _) ok_51 G (Sc 6 G (Sc 7 G (Sc 8 G (Sc 9 G (Sc 10 G (Sc 0 G (Sc 1 G (Sc 2 G (Sc 3 G (Sc 4 G (Sc 5 G Sn))))))))))) G fun y37 v37 h37 => nl (odH G G G h37 Sn Sr)),fun V De _=>aP4 (ldM 2 (cScene v v_0 v_1 v_2 v_3 v_4) G G row_32 G G<|oh G G G G) (ldM 4 (cScene v v_0 v_1 v_2 v_3 v_4) G G row_32 G G<|oh G G G G) (ldM 6 (cScene v v_0 v_1 v_2 v_3 v_4) G G row_32 G G<|oh G G G G) (ldM 8 (cScene v v_0 v_1 v_2 v_3 v_4) G G row_32 G G<|oh G G G G),fun V De _=>aP4 (ldM 1 (cState S s_0 s_1 s_2 s_3 s_4 s_5) G G row_55 G G<|oh G G G G) (ldM 3 (cState S s_0 s_1 s_2 s_3 s_4 s_5) G G row_55 G G<|oh G G G G) (ldM 5 (cState S s_0 s_1 s_2 s_3 s_4 s_5) G G row_55 G G<|oh G G G G) (ldM 7 (cState S s_0 s_1 s_2 s_3 s_4 s_5) G G row_55 G G<|oh G G G G),fun V De _=>aP1 (cf (mklate_c _ _ _ _ _ _ _ _ _ _ _ _ _) ok_52 G (Sc 6 G (Sc 7 G (Sc 8 G (Sc 9 G (Sc 10 G (Sc 0 G (Sc 1 G (Sc 2 G (Sc 3 G (Sc 4 G (Sc 5 G Sn))))))))))) G fun y40 v40 h40 => nl (odH G G G h40 Sn Sr)),?_⟩
    refine ⟨fun V De hV => (show AllP _ [[2, 5, 8, 11]] from ⟨?_, trivial⟩), ?_⟩
    ·
     exact bs1 (E := 103) (bytes := 8) (n := 4) (xs := [.tmp 31, .tmp 34, .tmp 37, .tmp 40]) (us := [V 2, V 5, V 8, V 11]) G (by exact app_105) (by simp only [List.all_cons, List.all_nil, Bool.and_true, isCl_one (hV.mem 2 (show 2 ∈ [2, 5, 8, 11] from by decide) rfl), isCl_one (hV.mem 5 (show 5 ∈ [2, 5, 8, 11] from by decide) rfl), isCl_one (hV.mem 8 (show 8 ∈ [2, 5, 8, 11] from by decide) rfl), isCl_one (hV.mem 11 (show 11 ∈ [2, 5, 8, 11] from by decide) rfl)]) G G G G G fun b41 => oh G G G G
    refine ⟨fun V De hV => (show AllP _ [[2, 5, 8, 11, 12]] from ⟨?_, trivial⟩), ?_⟩
    ·
     exact lnV (congrArg some (hV.mem 12 (show 12 ∈ [12] from by decide) G)) Tryz.underlying105 G<|oh G G G G
    exact ⟨fun V De _=>aP6 (mv G G<|oh G G G G) (mv G G<|oh G G G G) (mv G G<|oh G G G G) (mv G G<|oh G G G G) (mv G G<|oh G G G G) (mv G G<|oh G G G G),trivial⟩
   ·
    intro V hV
    have e2 : isCl 104 (V 2) := hV.mem 2 (by decide) rfl rfl
    have e5 : isCl 109 (V 5) := hV.mem 5 (by decide) rfl rfl
    have e8 : isCl 111 (V 8) := hV.mem 8 (by decide) rfl rfl
    have e11 : isCl 114 (V 11) := hV.mem 11 (by decide) rfl rfl
    have e12 : V 12 = .slice (some ⟨ptrS (V 12), 0, none⟩) 4 4 := hV.mem 12 (by decide) rfl rfl
    refine wkQ (L := [bl (ptrS (V 12)) 103 [(V 2), (V 5), (V 8), (V 11)], bl (fb1 (V 11)) 55 (cState S s_0 s_1 s_2 s_3 s_4 s_5), bl (fb2 (V 11)) 32 (cScene v v_0 v_1 v_2 v_3 v_4), bl (fb1 (V 8)) 32 (cScene v v_0 v_1 v_2 v_3 v_4), bl (fb2 (V 8)) 55 (cState S s_0 s_1 s_2 s_3 s_4 s_5), bl (fb1 (V 5)) 55 (cState S s_0 s_1 s_2 s_3 s_4 s_5), bl (fb2 (V 5)) 32 (cScene v v_0 v_1 v_2 v_3 v_4), bl (fb1 (V 2)) 32 (cScene v v_0 v_1 v_2 v_3 v_4), bl (fb2 (V 2)) 55 (cState S s_0 s_1 s_2 s_3 s_4 s_5), bl b6 45 [.slice none 0 0], bl b5 55 (cState S s_0 s_1 s_2 s_3 s_4 s_5), bl b2 32 (cScene v v_0 v_1 v_2 v_3 v_4), fz X w]) [(6, _), (41, V 12), (42, .int .i64 4), (43, .int .i64 0)] [_, _, _, _, _, _, _, _, _, _, _] ⟨G, G, G, G, trivial⟩ (Sc 0 G (Sc 1 G (Sc 2 G (Sc 3 G (Sc 4 G (Sc 5 G (Sc 6 G (Sc 7 G (Sc 8 G (Sc 9 G (Sc 10 G Sn))))))))))) ?_
    generalize V 2 = u2 at e2 ⊢
    generalize V 5 = u5 at e5 ⊢
    generalize V 8 = u8 at e8 ⊢
    generalize V 11 = u11 at e11 ⊢
    generalize hb : ptrS (V 12) = b41 at e12 ⊢
    rw [e12]
    refine nx<|wcD<|bkD<|lu0D<|lu1D<|sqD<|rgM<|ltI G G G<|nlD<|nxD<|sqD<|cdTD G<|skD<|nxD ?_
    refine sqD<|bkD<|sqD<|rgM<|ixV (m := 0) G G slt_105 (by decide) (by decide) G<|ldB 0 G G one_103 G G<|asg G G<|nlD<|nxD<|sqD<|rgM<|mv G G<|nlD<|nxD ?_
    refine bkD<|rfD 7 8 (.inl G) (fun yv => moves0_c v v_0 v_1 v_2 v_3 v_4 S s_0 s_1 s_2 s_3 s_4 s_5 yv (fb1 u2) (fb2 u2) h_v w28 hp hs0 ho0) ok_104 (congrArg some e2) G G (Sc 6 G (Sc 7 G (Sc 8 G (Sc 9 G (Sc 10 G (Sc 0 G (Sc 1 G (Sc 2 G (Sc 3 G (Sc 4 G (Sc 5 G Sn))))))))))) fun m0 => bND<|bND<|nxD<|rgM<|adI G G (inI (by omega) (by omega)) G<|mv G G<|nlD<|lunD<|wkW [(6, _), (41, _), (42, _), (43, .int .i64 1)] ⟨G, G, G, G, trivial⟩<|lu1D<|sqD<|rgM ?_
    refine ltI G G G<|nlD<|nxD<|sqD<|cdTD G<|skD<|nxD<|sqD<|bkD<|sqD<|rgM<|ixV (m := 1) G G slt_105 (by decide) (by decide) G<|ldB 1 G G one_103 G G<|asg G G ?_
    refine nlD<|nxD<|sqD<|rgM<|mv G G<|nlD<|nxD<|bkD<|rfD 6 7 (.inl G) (fun yv => deals0_c v v_0 v_1 v_2 v_3 v_4 S s_0 s_1 s_2 s_3 s_4 s_5 yv (fb1 u5) (fb2 u5) h_v w28 hd0) ok_109 (congrArg some e5) G G (Sc 6 G (Sc 7 G (Sc 8 G (Sc 9 G (Sc 10 G (Sc 0 G (Sc 1 G (Sc 2 G (Sc 3 G (Sc 4 G (Sc 5 G Sn))))))))))) fun m1 => bND<|bND<|nxD<|rgM<|adI G G (inI (by omega) (by omega)) G ?_
    refine mv G G<|nlD<|lunD<|wkW [(6, _), (41, _), (42, _), (43, .int .i64 2)] ⟨G, G, G, G, trivial⟩<|lu1D<|sqD<|rgM<|ltI G G G<|nlD<|nxD<|sqD<|cdTD G<|skD<|nxD ?_
    refine sqD<|bkD<|sqD<|rgM<|ixV (m := 2) G G slt_105 (by decide) (by decide) G<|ldB 2 G G one_103 G G<|asg G G<|nlD<|nxD<|sqD<|rgM<|mv G G<|nlD<|nxD ?_
    refine bkD<|rfD 5 6 (.inl G) (fun yv => sides0_c v v_0 v_1 v_2 v_3 v_4 S s_0 s_1 s_2 s_3 s_4 s_5 yv (fb1 u8) (fb2 u8) h_v w28 hsd) ok_111 (congrArg some e8) G G (Sc 6 G (Sc 7 G (Sc 8 G (Sc 9 G (Sc 10 G (Sc 0 G (Sc 1 G (Sc 2 G (Sc 3 G (Sc 4 G (Sc 5 G Sn))))))))))) fun m2 => bND<|bND<|nxD<|rgM<|adI G G (inI (by omega) (by omega)) G<|mv G G<|nlD<|lunD<|wkW [(6, _), (41, _), (42, _), (43, .int .i64 3)] ⟨G, G, G, G, trivial⟩<|lu1D<|sqD<|rgM ?_
    refine ltI G G G<|nlD<|nxD<|sqD<|cdTD G<|skD<|nxD<|sqD<|bkD<|sqD<|rgM<|ixV (m := 3) G G slt_105 (by decide) (by decide) G<|ldB 3 G G one_103 G G<|asg G G ?_
    refine nlD<|nxD<|sqD<|rgM<|mv G G<|nlD<|nxD<|bkD<|rfD 4 5 (.inl G) (fun yv => late0_c v v_0 v_1 v_2 v_3 v_4 S s_0 s_1 s_2 s_3 s_4 s_5 yv (fb1 u11) (fb2 u11) h_v w28 hw0) ok_114 (congrArg some e11) G G (Sc 6 G (Sc 7 G (Sc 8 G (Sc 9 G (Sc 10 G (Sc 0 G (Sc 1 G (Sc 2 G (Sc 3 G (Sc 4 G (Sc 5 G Sn))))))))))) fun m3 => bND<|bND<|nxD<|rgM<|adI G G (inI (by omega) (by omega)) G ?_
    refine mv G G<|nlD<|lunD<|wkW [(6, _), (41, _), (42, _), (43, .int .i64 4)] ⟨G, G, G, G, trivial⟩<|lu1D<|sqD<|rgM<|ltI G G G<|nlD<|nxD<|sqD<|cdFD G<|exD<|tED ?_
    exact tED<|bED<|nxD<|sqD<|rgM<|ldB 13 G G one_45 G G<|asg G G<|nlD<|nxD<|rtD<|fRZD [m3, m2, m1, m0] [_, _, _, _, _, _, _, _, _, _, _, _] G G G
end Go.Proofs.YtmpoffijcfaalaaGreat

/- What the program's checks tell is what the reference's tell: marks, ends, deals, waits, rights. No program. -/

namespace Go.YtmpoffijcfaalaaGreat
open Go.Eng

theorem allI_ind {n : Nat} {p q : Nat → Bool} (h : ∀ j, j < n → (∀ k, k < j → q k = true) → p j = q j) : allI n p = allI n q := by
  rw [Bool.eq_iff_iff, allI_iff, allI_iff]
  constructor
  · intro hp j
    induction j using Nat.strongRecOn with
    | _ j ih =>
      intro hj
      rw [← h j hj fun k hk => ih k hk (by omega)]
      exact hp j hj
  · intro hq j hj
    rw [h j hj fun k hk => hq k (by omega)]
    exact hq j hj
theorem allI_and {n : Nat} {p q : Nat → Bool} : (allI n p && allI n q) = allI n (fun j => p j && q j) := by
  rw [Bool.eq_iff_iff, Bool.and_eq_true, allI_iff, allI_iff, allI_iff]
  constructor
  · rintro ⟨h1, h2⟩ j hj; rw [h1 j hj, h2 j hj]; rfl
  · intro h
    exact ⟨fun j hj => (Bool.and_eq_true .. ▸ h j hj).1, fun j hj => (Bool.and_eq_true .. ▸ h j hj).2⟩
theorem mark_eq (p : Int) (m : TMark) : markP p m = mark14 p m := by
  unfold markP mark14
  by_cases h : m.fSeq < 0
  · simp [h]
  · rw [show decide (m.fSeq = 0) = decide (m.fSeq < 1) from decide_eq_decide.2 (by omega)]
theorem marks_eq (l : List TMark) : marksP l = marks14 l := allI_congr fun j _ => by rw [mark_eq]
theorem prev_nn {f : Nat → Int} : ∀ {j : Nat}, (∀ k, k < j → prevI f k < f k) → 0 ≤ prevI f j
  | 0, _ => by simp [prevI]
  | j + 1, h => by
    have ih := prev_nn (f := f) (j := j) fun k hk => h k (by omega)
    have := h j (by omega)
    simp only [prevI]
    omega
theorem ends_eq (l : List TEnd) : endsP l = ends18 l := allI_ind fun j hj hk => by
  have hp : 0 ≤ prevI (fun k => (l.getD k default).fClient) j := prev_nn fun k hkj => by
    have := hk k hkj
    simp only [Bool.not_eq_true', Bool.or_eq_false_iff, decide_eq_false_iff_not] at this
    omega
  rw [Bool.eq_iff_iff]
  simp only [okWhose, okSeq, Bool.not_eq_true', Bool.or_eq_false_iff, decide_eq_false_iff_not, Bool.not_eq_false', Bool.and_eq_true, decide_eq_true_eq]
  omega
theorem fate_eq (m t : Int) : fateP m t = fate18 m t := by
  unfold fateP fate18
  by_cases h1 : m = 1 <;> by_cases h2 : t = 1 <;> by_cases h3 : m = 2 <;> by_cases h4 : t = 2 <;> simp_all
theorem dmay_eq (d : TDeal) : dmayP d = may18 d := by
  unfold dmayP may18
  rw [fate_eq]
  have key : (dmay1 d || dmay2 d) = may18a d := by
    rw [Bool.eq_iff_iff]
    by_cases hk : d.fKey = d.fOther
    · simp [dmay1, may18a, hk]
    · simp only [dmay1, dmay2, may18a, okKey, okWhose, okClient, okSeq, hk, decide_false, Bool.or_false, Bool.or_eq_true, Bool.not_eq_true', Bool.and_eq_false_iff, decide_eq_true_eq, decide_eq_false_iff_not]
      omega
  rw [← key]
  cases dmay1 d <;> cases dmay2 d <;> rfl
theorem deals_eq (l : List TDeal) : dealsP l = books18 l := by
  unfold dealsP books18 books18a
  by_cases h : (l.length : Int) > 4
  · rw [if_pos (decide_eq_true h), decide_eq_false (show ¬ (l.length : Int) ≤ 4 by omega), Bool.and_false]
  · rw [if_neg (by simpa using h), decide_eq_true (show (l.length : Int) ≤ 4 by omega), Bool.and_true]
    exact allI_congr fun j _ => by unfold dealsj; rw [dmay_eq]
theorem waitP0_eq (s : TState) (w : TWait) : waitP0 s w = wait19a s w := by
  unfold waitP0 wait19a
  rw [show okWhose w.fClient w.fSeq = (okClient w.fClient && okSeq w.fSeq) by simp only [okWhose, okClient, okSeq, Bool.and_assoc], Bool.not_and]
theorem wait_eq (s : TState) (w : TWait) : waitP s w = wait19 s w := by
  unfold waitP wait19
  rw [waitP0_eq, show waitPrep w = wait19p w by unfold waitPrep wait19p; rw [Bool.and_assoc (decide _ && _), Bool.and_assoc (decide _ && _), Bool.and_comm (!decide _)]]
  rfl
theorem planned_eq (p : TPlan) : plannedP p = plan19 p := by
  unfold plannedP plan19 okNum
  rw [show (decide (p.fNumber ≥ 1) && decide (p.fNumber ≤ far)) = (decide (p.fNumber ≥ 0) && decide (p.fNumber ≤ far) && decide (p.fNumber > 0)) by
    rw [Bool.eq_iff_iff]
    simp only [Bool.and_eq_true, decide_eq_true_eq]
    omega]
theorem lmay_eq (r : TRight) : lmayP r = lmay16 r := by
  unfold lmayP lmay16 okKey
  simp only [Bool.and_assoc]
theorem order_eq (x y : TRight) : decide (orderP x y ≥ 0) = !belowP x y := by
  unfold orderP belowP
  by_cases h : x.fGroup = y.fGroup
  · have h1 : ¬ x.fGroup < y.fGroup := by omega
    rw [← cmp_lt]
    simp only [h, decide_true, Bool.not_true, Bool.false_eq_true, if_false, Bool.true_and, Int.lt_irrefl, decide_false, Bool.false_or]
    rw [← decide_not]
    exact decide_eq_decide.2 (by omega)
  · by_cases h1 : x.fGroup < y.fGroup
    · simp [h, h1]
    · simp [h, h1]
theorem ledger_eq (l : List TRight) : ledgerP l = rights16 l := allI_congr fun j _ => by
  unfold ledgerj right16j
  rw [lmay_eq, order_eq]
theorem isNil_size (k : ByteArray) : isNil k = decide ((k.size : Int) < 1) := by
  unfold isNil
  refine decide_eq_decide.2 ⟨fun h => by rw [h]; decide, fun h => ?_⟩
  have h0 : k.size = 0 := by omega
  rcases k with ⟨a⟩
  have : a.size = 0 := h0
  rw [Array.size_eq_zero_iff] at this
  rw [this]
  rfl
theorem owned_eq (s : TState) : ownedP s = !q19b s := by
  unfold ownedP q19b isNil
  cases s.fOwns with
  | false =>
    rw [show decide ((s.fAccounts.length : Int) = 0) = !decide ((s.fAccounts.length : Int) > 0) by rw [← decide_not]; exact decide_eq_decide.2 (by omega),
      show decide ((s.fWaits.length : Int) = 0) = !decide ((s.fWaits.length : Int) > 0) by rw [← decide_not]; exact decide_eq_decide.2 (by omega)]
    simp [Bool.and_assoc]
  | true =>
    rw [show decide (s.fEpoch ≥ 1) = !decide (s.fEpoch < 1) by rw [← decide_not]; exact decide_eq_decide.2 (by omega)]
    simp
theorem counts_eq (a b c d e : Int) : countsP [a, b, c, d, e] = (okNum a && okNum b && okNum c && okNum d && okNum e) := by
  rw [Bool.eq_iff_iff]
  unfold countsP
  rw [allI_iff]
  simp only [okNum, Bool.and_eq_true, decide_eq_true_eq, List.length_cons, List.length_nil, Bool.not_eq_true', Bool.or_eq_false_iff, decide_eq_false_iff_not]
  constructor
  · intro h
    have h0 := h 0 (by omega)
    have h1 := h 1 (by omega)
    have h2 := h 2 (by omega)
    have h3 := h 3 (by omega)
    have h4 := h 4 (by omega)
    simp only [List.getD_cons_zero, List.getD_cons_succ] at h0 h1 h2 h3 h4
    omega
  · intro h j hj
    match j, hj with
    | 0, _ => simp only [List.getD_cons_zero]; omega
    | 1, _ => simp only [List.getD_cons_zero, List.getD_cons_succ]; omega
    | 2, _ => simp only [List.getD_cons_zero, List.getD_cons_succ]; omega
    | 3, _ => simp only [List.getD_cons_zero, List.getD_cons_succ]; omega
    | 4, _ => simp only [List.getD_cons_zero, List.getD_cons_succ]; omega
theorem awake_true : awakeB = true := by kernel_rfl
end Go.YtmpoffijcfaalaaGreat

/- What the program's checks tell is what the reference's tell: accounts, states. No program. -/

namespace Go.YtmpoffijcfaalaaGreat
open Go.Eng

theorem sum_nn : ∀ {l : List Int}, (∀ x ∈ l, 0 ≤ x) → 0 ≤ l.sum
  | [], _ => by simp
  | x :: r, h => by
    have ih := sum_nn (l := r) fun y hy => h y (List.mem_cons_of_mem _ hy)
    have := h x (List.mem_cons_self ..)
    simp only [List.sum_cons]
    omega
theorem hold_mem {l : List THolder} (hh : holdersP l = true) {x : THolder} (hx : x ∈ l) : 0 ≤ x.fUp ∧ 0 ≤ x.fDown := by
  obtain ⟨i, hi, rfl⟩ := List.getElem_of_mem hx
  have := hold_at hh hi
  rw [getD_at hi] at this
  exact ⟨this.2.2.2.1, this.2.2.2.2⟩
theorem ups_ge {a : TAccount} (hh : holdersP a.fHolders = true) : a.fBase ≤ upsS a := by
  unfold upsS
  have := sum_nn (l := a.fHolders.map (·.fUp)) fun x hx => by
    obtain ⟨y, hy, rfl⟩ := List.mem_map.1 hx
    exact (hold_mem hh hy).1
  omega
theorem downs_le {a : TAccount} (hh : holdersP a.fHolders = true) : downsS a ≤ a.fBase := by
  unfold downsS
  have := sum_nn (l := a.fHolders.map (·.fDown)) fun x hx => by
    obtain ⟨y, hy, rfl⟩ := List.mem_map.1 hx
    exact (hold_mem hh hy).2
  omega
theorem sum_ok {x : Int} (h : sumOk x = true) : sumI x = x ∧ sumE x = 0 := by unfold sumI sumE; rw [if_pos h, if_pos h]; exact ⟨rfl, rfl⟩
theorem sum_no {x : Int} (h : sumOk x = false) : sumI x = 0 ∧ sumE x = 10 := by unfold sumI sumE; rw [h]; exact ⟨rfl, rfl⟩
theorem acc2_eq {a : TAccount} (hw : a.wf) (hh : holdersP a.fHolders = true) : acc2 a = r15b a := by
  have h1 := ups_ge hh
  have h2 := downs_le hh
  obtain ⟨hs1, hs2⟩ := hw.2.1
  obtain ⟨l1, l2⟩ := hs1
  obtain ⟨u1, u2⟩ := hs2
  obtain ⟨b1, b2⟩ := hw.2.2.1
  have hd : decide ((wide (downsS a - a.fSpan.fLo)).fHi < 0) = decide (downsS a < a.fSpan.fLo) := decide_eq_decide.2 (by
    show (downsS a - a.fSpan.fLo) / 18446744073709551616 < 0 ↔ _
    omega)
  have hu : aboveP (upsS a) a.fSpan.fHi = decide (upsS a > a.fSpan.fHi) := decide_eq_decide.2 (by omega)
  unfold acc2 r15b
  rw [hd, hu]
  cases e1 : sumOk (upsS a) with
  | true =>
    rw [(sum_ok e1).1, (sum_ok e1).2]
    cases e2 : sumOk (downsS a) with
    | true => rw [(sum_ok e2).1, (sum_ok e2).2]; simp
    | false =>
      rw [(sum_no e2).1, (sum_no e2).2]
      have : downsS a < a.fSpan.fLo := by
        simp only [sumOk, Bool.and_eq_false_iff, decide_eq_false_iff_not] at e2
        omega
      simp [this]
  | false =>
    rw [(sum_no e1).1, (sum_no e1).2]
    have : upsS a > a.fSpan.fHi := by
      simp only [sumOk, Bool.and_eq_false_iff, decide_eq_false_iff_not] at e1
      omega
    simp [this]
theorem fits_eq {a : TAccount} : (sumOk (a.fBase + a.fLock.fN) && fits15 a) = fitsP a a.fLock := by
  unfold fitsP fits15
  cases e : sumOk (a.fBase + a.fLock.fN) with
  | true =>
    rw [(sum_ok e).1, (sum_ok e).2]
    have : IntKind.i64.wrap ((a.fBase + a.fLock.fN) % 18446744073709551616) = a.fBase + a.fLock.fN := by
      rw [wrapi]
      simp only [sumOk, Bool.and_eq_true, decide_eq_true_eq] at e
      omega
    rw [this]
    simp
  | false => rw [(sum_no e).1, (sum_no e).2]; simp
theorem acc1_eq (a : TAccount) : acc1 a = (r15a a || !holdersP a.fHolders) := by
  unfold acc1 r15a okKey
  rw [show (decide ((a.fKey.size : Int) < 1) || decide ((a.fKey.size : Int) > 16)) = !(decide ((a.fKey.size : Int) ≥ 1) && decide ((a.fKey.size : Int) ≤ 16)) by
    rw [Bool.eq_iff_iff]
    simp only [Bool.or_eq_true, Bool.not_eq_true', Bool.and_eq_false_iff, decide_eq_true_eq, decide_eq_false_iff_not]
    omega]
theorem acc_eq {a : TAccount} (hw : a.wf) : accP a = right15 a := by
  unfold accP right15
  rw [acc1_eq]
  cases r15a a with
  | true => rfl
  | false =>
    cases hh : holdersP a.fHolders with
    | false => rfl
    | true =>
      simp only [Bool.not_true, Bool.or_false, Bool.false_eq_true, if_false, if_true]
      rw [acc2_eq hw hh, Bool.and_assoc _ (sumOk _), fits_eq]
theorem acc_key {a : TAccount} (h : accP a = true) : okKey a.fKey = true ∧ (a.fLock.fClient = 0 → a.fLock = ⟨0, 0, 0, 0⟩) := by
  unfold accP at h
  split at h
  · cases h
  · rename_i h1
    rw [acc1_eq] at h1
    simp only [Bool.or_eq_true, not_or, r15a, Bool.not_eq_true', Bool.not_eq_false] at h1
    refine ⟨h1.1.1.1, fun hc => ?_⟩
    split at h
    · cases h
    · rw [if_pos (decide_eq_true hc)] at h
      exact of_decide_eq_true h
theorem plain_eq {a : TAccount} (h : accP a = true) : aplainP a = plain15 a := by
  obtain ⟨hk, hl⟩ := acc_key h
  unfold aplainP plain15 sameAcc new15 newE lockedP
  rw [h, hk]
  simp only [if_true, decide_true, Bool.true_and, Bool.not_not]
  rw [show decide (a.fHolders = []) = decide ((a.fHolders.length : Int) = 0) from decide_eq_decide.2 (by
    rw [← List.length_eq_zero_iff]
    omega)]
  rw [show decide (a.fLock = ⟨0, 0, 0, 0⟩) = decide (a.fLock.fClient = 0) from decide_eq_decide.2 ⟨fun e => by rw [e], hl⟩]
  cases decide (a.fSpan = ⟨0, 0⟩) <;> cases decide (a.fBase = 0) <;> cases decide ((a.fHolders.length : Int) = 0) <;> cases decide (a.fRound = 0) <;> cases decide (a.fLock.fClient = 0) <;> rfl
theorem accs_eq {s : TState} (hw : ∀ a ∈ s.fAccounts, a.wf) : accsP s = (rising19 s.fAccounts && accs19 s) := by
  unfold accsP rising19 accs19
  by_cases h : (s.fAccounts.length : Int) > 12
  · rw [if_pos (decide_eq_true h), decide_eq_false (show ¬ (s.fAccounts.length : Int) ≤ 12 by omega)]
    split <;> rfl
  · rw [if_neg (by simpa using h), decide_eq_true (show (s.fAccounts.length : Int) ≤ 12 by omega)]
    have e : ∀ b : Bool, (if b = true then true else false) = b := fun b => by cases b <;> rfl
    rw [e, allI_and]
    refine allI_congr fun j hj => ?_
    have hm := hw _ (getD_mem (l := s.fAccounts) hj)
    unfold accsj risj
    rw [errF_ok, ← acc_eq hm]
    cases ha : accP (s.fAccounts.getD j default) with
    | false => rfl
    | true =>
      rw [plain_eq ha]
      cases plain15 (s.fAccounts.getD j default) <;> cases ownsP s (s.fAccounts.getD j default).fKey <;> simp
theorem state_eq {s : TState} (hw : ∀ a ∈ s.fAccounts, a.wf) : srightP s = sright19 s := by
  unfold srightP sright19
  have h1 : sright1 s = (q19a s || q19b s || !(rising19 s.fAccounts && accs19 s)) := by
    unfold sright1 q19a
    rw [counts_eq, owned_eq, accs_eq hw]
    simp only [Bool.not_and, Bool.not_not, Bool.or_assoc]
  have h2 : (sright2 s || !rising19 s.fAccounts) = q19c s := by
    unfold sright2 q19c
    rw [errF_ok, errF_ok, errF_ok, marks_eq, deals_eq, ends_eq]
    cases rising19 s.fAccounts <;> simp
  have h3 : sright3 s = q19d s := by unfold sright3 q19d; rw [planned_eq]
  have h4 : srightW s = waits19 s := by unfold srightW waits19; exact allI_congr fun j _ => wait_eq _ _
  have h5 : sright5 s = q19e s := by
    unfold sright5 q19e
    rw [planned_eq]
    cases plan19 s.fOut <;> cases decide (s.fOut.fFrom = s.fGroup) <;> cases decide ((rdState s.fImage).2 = 0) <;> rfl
  rw [h1, h3, h4, h5, ← h2]
  cases q19a s <;> cases q19b s <;> cases rising19 s.fAccounts <;> cases accs19 s <;> cases sright2 s <;> cases waits19 s <;> rfl
end Go.YtmpoffijcfaalaaGreat
