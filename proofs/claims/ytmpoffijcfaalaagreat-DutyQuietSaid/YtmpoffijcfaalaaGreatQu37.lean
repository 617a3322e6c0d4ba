/- Part 37 of the proof of dutyQuiet_holds: DutW18, DutW19, DutF6, DutS6. Every text below begins with what it shows. -/
import Derived.Test.YtmpoffijcfaalaaGreatQu36

/- Walks, written by specs6.py. -/

namespace Go.Proofs.YtmpoffijcfaalaaGreat
open Go.Eng Go.YtmpoffijcfaalaaGreat
set_option maxHeartbeats 1000000

theorem route_c (v : TScene) (v_0 v_1 v_2 v_3 v_4 : Value) (c : Int) (q : Int) (o : TOp) (h_v : v.wf) (h_c : InI c) (h_q : InI q) (h_o : o.wf) : FnV Tryz.prog 8 [.agg (cScene v v_0 v_1 v_2 v_3 v_4).toArray, .int .i64 c, .int .i64 q, .agg (cOp o).toArray] [⟨v_0, v.fChart.fPlaces⟩, ⟨v_1, v.fChart.fMarks⟩, ⟨v_2, v.fStates⟩, ⟨v_3, v.fRights⟩, ⟨v_4, v.fAges⟩] (.tuple #[.int .i64 (routeG v c q o), .agg (cCommand (routeC v c q o) (.slice none 0 0)).toArray, .int .i64 (routeE v c q o)]) := by
 refine Fnc.proof Tryz.func8 G 77 G G fun X w => ?_
 obtain ⟨h_c1, h_c2⟩ := id h_c
 obtain ⟨h_q1, h_q2⟩ := id h_q
 refine sq<|rg<|bx G G G fun b4 => bx G G G fun b7 => asg G G<|al zero_37 G fun b9 => asg G G<|nl<|nx<|sq<|sq<|rg<|ldM 2 (cScene v v_0 v_1 v_2 v_3 v_4) G G row_32 G G<|cfv (dright_c _ _ _ _ _ _ h_v) ok_17 G (Sc 0 G (Sc 1 G (Sc 2 G (Sc 3 G (Sc 4 G Sn))))) G ?_
 refine nt G G<|nl<|nx<|cdB G (fun h17 => ?_) (fun h17 => ?_)
 ·
  have hR : drightP v = false := (by simpa using h17)
  exact sq<|rg<|bd (ps := []) (cs := (cCommand ((⟨0, 0, 0, 0, 0, 0, ByteArray.empty, 0, 0, 0, false, (⟨0, ByteArray.empty, ByteArray.empty, 0, 0, 0⟩ : TOp), (⟨0, 0, 0, ByteArray.empty, ByteArray.empty, 0, 0⟩ : TPlan), []⟩ : TCommand)) (.slice none 0 0))) (by rfl) (by kernel_rfl) G<|asg G G<|stW 0 (us := (cCommand ((⟨0, 0, 0, 0, 0, 0, ByteArray.empty, 0, 0, 0, false, (⟨0, ByteArray.empty, ByteArray.empty, 0, 0, 0⟩ : TOp), (⟨0, 0, 0, ByteArray.empty, ByteArray.empty, 0, 0⟩ : TPlan), []⟩ : TCommand)) (.slice none 0 0))) G G G row_37 G G<|asg G G<|nl<|nx<|rt<|tR<|fRG () [_, _, _] (rTCT 0 G G G G G row_37) (by rw [routeG, routeC, routeE, hR]; try rfl) G Sn
 ·
  have hR : drightP v = true := (by simpa using h17)
  have hpl := dright_places hR
  obtain ⟨N, hN⟩ : ∃ N, N = findP v.fChart.fPlaces (plainO o).fKey := ⟨_, rfl⟩
  have hlt : N < v.fChart.fPlaces.length := by rw [hN]; exact findP_lt hpl
  have hfc : FnV Tryz.prog 35 [v_0, .string (plainO o).fKey] [⟨v_0, v.fChart.fPlaces⟩] (.int .i64 (N : Int)) := by rw [hN]; exact find_c v_0 v.fChart.fPlaces (plainO o).fKey
  refine sk<|nx<|sq<|rg<|ldM 1 (cOp o) G G row_34 G G<|cfv (plain_c _ h_o) ok_34 G Sn G<|mv G G<|xt G G G<|xt G G G<|al zero_34 G fun b11 => stW 0 (us := (cOp ((plainO o)))) G G G row_34 G G<|asg G G<|nl<|nx ?_
  refine sq<|sq<|rg<|mv G G<|nt G G<|mv G G ?_
  apply jo [(1, _), (2, _), (4, _), (9, _), (11, _)] ⟨rfl, rfl, rfl, rfl, rfl, trivial⟩
  ·
   intro K29
   refine spO (i := 26) G (fun h26 => ?_) (fun h26 => ?_)
   ·
    exact gY G G G<|mv G G<|gY G G G<|ltI G G G<|pkF G G G<|jR K29 h26 ⟨G, G, G, G, G, trivial⟩ Sr
   ·
    exact gS (g := [_, _]) G<|pkT G G G<|jR0 K29 h26 ⟨G, G, G, G, G, trivial⟩ Sr
  refine mv G G ?_
  apply jo [(1, _), (2, _), (4, _), (9, _), (11, _)] ⟨rfl, rfl, rfl, rfl, rfl, trivial⟩
  ·
   intro K33
   refine spO (i := 30) G (fun h30 => ?_) (fun h30 => ?_)
   ·
    exact gY G G G<|mv G G<|gY G G G<|gtI G G G<|pkF G G G<|jR K33 h30 ⟨G, G, G, G, G, trivial⟩ Sr
   ·
    exact gS (g := [_, _]) G<|pkT G G G<|jR0 K33 h30 ⟨G, G, G, G, G, trivial⟩ Sr
  refine mv G G ?_
  apply jo [(1, _), (2, _), (4, _), (9, _), (11, _)] ⟨rfl, rfl, rfl, rfl, rfl, trivial⟩
  ·
   intro K37
   refine spO (i := 34) G (fun h34 => ?_) (fun h34 => ?_)
   ·
    exact gY G G G<|mv G G<|gY G G G<|ltI G G G<|pkF G G G<|jR K37 h34 ⟨G, G, G, G, G, trivial⟩ Sr
   ·
    exact gS (g := [_, _]) G<|pkT G G G<|jR0 K37 h34 ⟨G, G, G, G, G, trivial⟩ Sr
  refine mv G G ?_
  apply jo [(1, _), (2, _), (4, _), (9, _), (11, _)] ⟨rfl, rfl, rfl, rfl, rfl, trivial⟩
  ·
   intro K41
   refine spO (i := 38) G (fun h38 => ?_) (fun h38 => ?_)
   ·
    exact gY G G G<|mv G G<|gY G G G<|gtI G G G<|pkF G G G<|jR K41 h38 ⟨G, G, G, G, G, trivial⟩ Sr
   ·
    exact gS (g := [_, _]) G<|pkT G G G<|jR0 K41 h38 ⟨G, G, G, G, G, trivial⟩ Sr
  refine nl<|nx<|cdB G (fun h41 => ?_) (fun h41 => ?_)
  ·
   have e41 : (dr1 c q o) = true := h41
   exact sq<|rg<|bd (ps := []) (cs := (cCommand ((⟨0, 0, 0, 0, 0, 0, ByteArray.empty, 0, 0, 0, false, (⟨0, ByteArray.empty, ByteArray.empty, 0, 0, 0⟩ : TOp), (⟨0, 0, 0, ByteArray.empty, ByteArray.empty, 0, 0⟩ : TPlan), []⟩ : TCommand)) (.slice none 0 0))) (by rfl) (by kernel_rfl) G<|asg G G<|stW 1 (us := (cCommand ((⟨0, 0, 0, 0, 0, 0, ByteArray.empty, 0, 0, 0, false, (⟨0, ByteArray.empty, ByteArray.empty, 0, 0, 0⟩ : TOp), (⟨0, 0, 0, ByteArray.empty, ByteArray.empty, 0, 0⟩ : TPlan), []⟩ : TCommand)) (.slice none 0 0))) G G G row_37 G G<|asg G G<|nl<|nx<|rt<|tR<|fRG () [_, _, _, _] (rTCT 1 G G G G G row_37) (by rw [routeG, routeC, routeE, hR, e41]; try rfl) G Sn
  ·
   have e41 : (dr1 c q o) = false := h41
   refine sk<|nx<|sq<|rg<|mv G G<|mv G G<|ldM 0 (cOp ((plainO o))) G G row_34 G G<|bd (ps := [(0, .const (.int .i64 12)), (1, .tmp 43), (2, .tmp 44), (11, .tmp 45)]) (cs := (cCommand ((⟨12, c, q, 0, 0, 0, ByteArray.empty, 0, 0, 0, false, (plainO o), (⟨0, 0, 0, ByteArray.empty, ByteArray.empty, 0, 0⟩ : TPlan), []⟩ : TCommand)) (.slice none 0 0))) (by rfl) (by kernel_rfl) G<|al zero_37 G fun b13 => stW 0 (us := (cCommand ((⟨12, c, q, 0, 0, 0, ByteArray.empty, 0, 0, 0, false, (plainO o), (⟨0, 0, 0, ByteArray.empty, ByteArray.empty, 0, 0⟩ : TPlan), []⟩ : TCommand)) (.slice none 0 0))) G G G row_37 G G<|nl<|nx<|sq<|sq ?_
   refine rg<|fa G fld_34_0 G<|ldB 1 G G one_3 G G<|eqI G G G<|mv G G ?_
   apply jo [(4, _), (9, _), (11, _), (13, _)] ⟨rfl, rfl, rfl, rfl, trivial⟩
   ·
    intro K54
    refine spO (i := 50) G (fun h50 => ?_) (fun h50 => ?_)
    ·
     have p50 := of_decide_eq_false h50
     exact gY G G G<|fa G fld_34_0 G<|gY G G G<|ldB 1 G G one_3 G G<|gY G G G<|eqI G G G<|pkF G G G<|jR K54 h50 ⟨G, G, G, G, trivial⟩ Sr
    ·
     exact gS (g := [_, _, _]) G<|pkT G G G<|jR0 K54 h50 ⟨G, G, G, G, trivial⟩ Sr
   refine nl<|nx<|cdB G (fun h54 => ?_) (fun h54 => ?_)
   ·
    have e54 : (isPlan (plainO o)) = true := h54
    refine sq ?_
    refine rgH ⟨fun q_ => ([[], [], [0], []] : List (List Nat)).getD q_ [], fun _ _ => True, fun _ _ => [], fun q_ => ([some (.agg (cCommand ((⟨12, c, q, 0, 0, 0, ByteArray.empty, 0, 0, 0, false, (plainO o), (⟨0, 0, 0, ByteArray.empty, ByteArray.empty, 0, 0⟩ : TPlan), []⟩ : TCommand)) (.slice none 0 0)).toArray), some (.int .i64 0), none, some (.int .i64 0)] : List (Option Value)).getD q_ none, fun h_ => match h_ with
      | [] => fun vs_ => [bl b13 37 (cCommand ((⟨12, c, q, 0, 0, 0, ByteArray.empty, 0, 0, 0, false, (plainO o), (⟨0, 0, 0, ByteArray.empty, ByteArray.empty, 0, 0⟩ : TPlan), []⟩ : TCommand)) (.slice none 0 0)), bl b11 34 (cOp ((plainO o))), bl b9 37 zv9, bl b7 34 (cOp o), bl b4 32 (cScene v v_0 v_1 v_2 v_3 v_4), fz X w]
      | [2] => fun vs_ => [bl b13 37 (cCommand ((⟨12, c, q, 0, 0, 0, ByteArray.empty, 0, 0, 0, false, (plainO o), (⟨0, 0, 0, ByteArray.empty, ByteArray.empty, 0, 0⟩ : TPlan), []⟩ : TCommand)) (.slice none 0 0)), bl b11 34 (cOp ((plainO o))), bl b9 37 (cCommand ((⟨12, c, q, 0, 0, 0, ByteArray.empty, 0, 0, 0, false, (plainO o), (⟨0, 0, 0, ByteArray.empty, ByteArray.empty, 0, 0⟩ : TPlan), []⟩ : TCommand)) (.slice none 0 0)), bl b7 34 (cOp o), bl b4 32 (cScene v v_0 v_1 v_2 v_3 v_4), fz X w]
      | _ => fun _ => [], [2], [[], [2]]⟩ (fun V => [bl b13 37 (cCommand ((⟨12, c, q, 0, 0, 0, ByteArray.empty, 0, 0, 0, false, (plainO o), (⟨0, 0, 0, ByteArray.empty, ByteArray.empty, 0, 0⟩ : TPlan), []⟩ : TCommand)) (.slice none 0 0)), bl b11 34 (cOp ((plainO o))), bl b9 37 (cCommand ((⟨12, c, q, 0, 0, 0, ByteArray.empty, 0, 0, 0, false, (plainO o), (⟨0, 0, 0, ByteArray.empty, ByteArray.empty, 0, 0⟩ : TPlan), []⟩ : TCommand)) (.slice none 0 0)), bl b7 34 (cOp o), bl b4 32 (cScene v v_0 v_1 v_2 v_3 v_4), fz X w]) mixed rfl rfl (show AllP _ [[2]] from ⟨fun _ => rfl, trivial⟩) ?_ ?_
    ·
     exact ⟨fun V De _=>aP1 (ldM 0 (cCommand ((⟨12, c, q, 0, 0, 0, ByteArray.empty, 0, 0, 0, false, (plainO o), (⟨0, 0, 0, ByteArray.empty, ByteArray.empty, 0, 0⟩ : TPlan), []⟩ : TCommand)) (.slice none 0 0)) G G row_37 G G<|oh G G G G),fun V De _=>aP1 (asg G G<|oh G G G G),fun V De _=>aP1 (stW 2 (us := (cCommand ((⟨12, c, q, 0, 0, 0, ByteArray.empty, 0, 0, 0, false, (plainO o), (⟨0, 0, 0, ByteArray.empty, ByteArray.empty, 0, 0⟩ : TPlan), []⟩ : TCommand)) (.slice none 0 0))) G G G row_37 G G<|oh0 G G),fun V De _=>aP1 (asg G G<|oh G G G G),trivial⟩
    ·
     intro V _
     exact wkQ (L := [bl b13 37 (cCommand ((⟨12, c, q, 0, 0, 0, ByteArray.empty, 0, 0, 0, false, (plainO o), (⟨0, 0, 0, ByteArray.empty, ByteArray.empty, 0, 0⟩ : TPlan), []⟩ : TCommand)) (.slice none 0 0)), bl b11 34 (cOp ((plainO o))), bl b9 37 (cCommand ((⟨12, c, q, 0, 0, 0, ByteArray.empty, 0, 0, 0, false, (plainO o), (⟨0, 0, 0, ByteArray.empty, ByteArray.empty, 0, 0⟩ : TPlan), []⟩ : TCommand)) (.slice none 0 0)), bl b7 34 (cOp o), bl b4 32 (cScene v v_0 v_1 v_2 v_3 v_4), fz X w]) [(9, _), (8, .int .i64 0), (10, .int .i64 0)] [_, _, _, _, _] ⟨G, G, G, trivial⟩ (Sc 0 G (Sc 1 G (Sc 2 G (Sc 3 G (Sc 4 G Sn)))))<|nx<|rt<|tR<|fRG () [_, _, _, _, _] (rTCT 2 G G G G G row_37) (by rw [routeG, routeC, routeE, hR, e41, e54]; try rfl) G Sn
   ·
    have e54 : (isPlan (plainO o)) = false := h54
    refine sk<|nx<|sq ?_
    refine rgH ⟨fun q_ => ([[], [0], [1], [], [3], [4], [], [6], [5, 7], [2, 8], [9], [], [11, 10]] : List (List Nat)).getD q_ [], fun q_ => ([fun _ => True, fun _ => True, fun _ => True, fun _ => True, fun _ => True, fun _ => True, fun _ => True, fun _ => True, fun _ => True, fun _ => True, fun _ => True, fun u => u = .pointer (some ⟨ptrB u, 0, none⟩), fun _ => True] : List (Value → Prop)).getD q_ (fun _ => True), fun q_ => ([fun _ => [], fun _ => [], fun _ => [], fun _ => [], fun _ => [], fun _ => [], fun _ => [], fun _ => [], fun _ => [], fun u => [⟨u, (⟨(v.fChart.fPlaces.getD N default)⟩ : Pt TPlace)⟩], fun _ => [], fun _ => [], fun _ => []] : List (Value → List Atom)).getD q_ (fun _ => []), fun q_ => ([some (.pointer (some ⟨b4, 2, none⟩)), some (.pointer (some ⟨b4, 3, none⟩)), some (v_0), some (.pointer (some ⟨b4, 2, none⟩)), some (.pointer (some ⟨b4, 3, none⟩)), some (v_0), some (.pointer (some ⟨b11, 1, none⟩)), some (.string (plainO o).fKey), some (.int .i64 ((N : Int))), none, some (.agg (cPlace ((v.fChart.fPlaces.getD N default))).toArray), none, none] : List (Option Value)).getD q_ none, fun h_ => match h_ with
      | [] => fun vs_ => [bl b13 37 (cCommand ((⟨12, c, q, 0, 0, 0, ByteArray.empty, 0, 0, 0, false, (plainO o), (⟨0, 0, 0, ByteArray.empty, ByteArray.empty, 0, 0⟩ : TPlan), []⟩ : TCommand)) (.slice none 0 0)), bl b11 34 (cOp ((plainO o))), bl b9 37 zv9, bl b7 34 (cOp o), bl b4 32 (cScene v v_0 v_1 v_2 v_3 v_4), fz X w]
      | [11] => fun vs_ => [bl (ptrB (vs_.getD 0 undef)) 90 zv10, bl b13 37 (cCommand ((⟨12, c, q, 0, 0, 0, ByteArray.empty, 0, 0, 0, false, (plainO o), (⟨0, 0, 0, ByteArray.empty, ByteArray.empty, 0, 0⟩ : TPlan), []⟩ : TCommand)) (.slice none 0 0)), bl b11 34 (cOp ((plainO o))), bl b9 37 zv9, bl b7 34 (cOp o), bl b4 32 (cScene v v_0 v_1 v_2 v_3 v_4), fz X w]
      | [11, 12] => fun vs_ => [bl (ptrB (vs_.getD 0 undef)) 90 (cPlace ((v.fChart.fPlaces.getD N default))), bl b13 37 (cCommand ((⟨12, c, q, 0, 0, 0, ByteArray.empty, 0, 0, 0, false, (plainO o), (⟨0, 0, 0, ByteArray.empty, ByteArray.empty, 0, 0⟩ : TPlan), []⟩ : TCommand)) (.slice none 0 0)), bl b11 34 (cOp ((plainO o))), bl b9 37 zv9, bl b7 34 (cOp o), bl b4 32 (cScene v v_0 v_1 v_2 v_3 v_4), fz X w]
      | _ => fun _ => [], [11, 12], [[], [11], [11, 12]]⟩ (fun V => [bl (ptrB (V 11)) 90 (cPlace ((v.fChart.fPlaces.getD N default))), bl b13 37 (cCommand ((⟨12, c, q, 0, 0, 0, ByteArray.empty, 0, 0, 0, false, (plainO o), (⟨0, 0, 0, ByteArray.empty, ByteArray.empty, 0, 0⟩ : TPlan), []⟩ : TCommand)) (.slice none 0 0)), bl b11 34 (cOp ((plainO o))), bl b9 37 zv9, bl b7 34 (cOp o), bl b4 32 (cScene v v_0 v_1 v_2 v_3 v_4), fz X w]) mixed rfl rfl (show AllP _ [[11, 12]] from ⟨fun _ => rfl, trivial⟩) ?_ ?_
    ·
     refine ⟨fun V De _=>aP2 (fa G fld_32_2 G<|oh G G G G) (fa G fld_32_2 G<|oh G G G G),fun V De _=>aP2 (fa G fld_27_1 G<|oh G G G G) (fa G fld_27_1 G<|oh G G G G),fun V De _=>aP2 (ldB 4 G G one_22 G G<|oh G G G G) (ldB 5 G G one_22 G G<|oh G G G G),fun V De _=>aP2 (fa G fld_32_2 G<|oh G G G G) (fa G fld_32_2 G<|oh G G G G),fun V De _=>aP2 (fa G fld_27_1 G<|oh G G G G) (fa G fld_27_1 G<|oh G G G G),fun V De _=>aP2 (ldB 4 G G one_22 G G<|oh G G G G) (ldB 5 G G one_22 G G<|oh G G G G),fun V De _=>aP2 (fa G fld_34_1 G<|oh G G G G) (fa G fld_34_1 G<|oh G G G G),fun V De _=>aP2 (ldB 1 G G one_9 G G<|oh G G G G) (ldB 2 G G one_9 G G<|oh G G G G),?_⟩
     refine ⟨fun V De _=>aP2 (cfv (hfc) ok_35 G (Sc 0 G Sn) G<|oh G G G G) (cfv (hfc) ok_35 G (Sc 0 G Sn) G<|oh G G G G),fun V De _=>aP2 (ixP 0 G G G slt_22 (by omega) (getDE (d := default) (by omega)) G fun v65 => nl (odH G G G trivial (Sc 0 G Sn) (SubD.tail Sr))) (ixP 0 G G G slt_22 (by omega) (getDE (d := default) (by omega)) G fun v65 => nl (odH G G G trivial (Sc 0 G Sn) (SubD.tail Sr))),?_⟩
     refine ⟨fun V De _ => (show AllP _ [[], [11]] from ⟨?_, ?_, trivial⟩), ?_⟩
     ·
      refine ldS 0 G G row_90 G fun q66 w66 => ?_
      exact nl (odH G G G G Sn (SubD.tail (SubD.tail Sr)))
     ·
      refine ldS 0 G G row_90 G fun q66 w66 => ?_
      exact nl (odH G G G G Sn (SubD.tail (SubD.tail Sr)))
     refine ⟨fun V De _=>aP1 (al zero_90 G fun b14 => oh G G G G),?_⟩
     refine ⟨fun V De hV => (show AllP _ [[11]] from ⟨?_, trivial⟩), ?_⟩
     ·
      exact stW 0 (us := (cPlace ((v.fChart.fPlaces.getD N default)))) (congrArg some (hV.mem 11 (show 11 ∈ [11, 10] from by decide) G)) G G row_90 G G<|oh0 G G
     trivial
    ·
     intro V hV
     refine wkQ (L := [bl (ptrB (V 11)) 90 (cPlace ((v.fChart.fPlaces.getD N default))), bl b13 37 (cCommand ((⟨12, c, q, 0, 0, 0, ByteArray.empty, 0, 0, 0, false, (plainO o), (⟨0, 0, 0, ByteArray.empty, ByteArray.empty, 0, 0⟩ : TPlan), []⟩ : TCommand)) (.slice none 0 0)), bl b11 34 (cOp ((plainO o))), bl b9 37 zv9, bl b7 34 (cOp o), bl b4 32 (cScene v v_0 v_1 v_2 v_3 v_4), fz X w]) [(4, _), (9, _), (13, _), (14, V 11)] [_, _, _, _, _] ⟨G, G, G, G, trivial⟩ (Sc 1 G (Sc 2 G (Sc 3 G (Sc 4 G (Sc 5 G Sn))))) ?_
     obtain ⟨b14, hb14⟩ : ∃ b, V 11 = .pointer (some ⟨b, 0, none⟩) := ⟨_, hV.mem 11 (by decide) rfl rfl⟩
     simp only [hb14, ptrB_mk]
     refine nx<|sq ?_
     refine rgH ⟨fun q_ => ([[], [0], [], [2], [], [4], [], [6, 1], [], [8, 3]] : List (List Nat)).getD q_ [], fun _ _ => True, fun _ _ => [], fun q_ => ([some (.pointer (some ⟨b14, 2, none⟩)), some (.int .i64 ((v.fChart.fPlaces.getD N default).fEpoch)), some (.pointer (some ⟨b4, 0, none⟩)), some (.int .i64 v.fNode), some (.pointer (some ⟨b13, 0, none⟩)), none, some (.pointer (some ⟨b13, 3, none⟩)), none, some (.pointer (some ⟨b13, 4, none⟩)), none] : List (Option Value)).getD q_ none, fun h_ => match h_ with
       | [] => fun vs_ => [bl b14 90 (cPlace ((v.fChart.fPlaces.getD N default))), bl b13 37 (cCommand ((⟨12, c, q, 0, 0, 0, ByteArray.empty, 0, 0, 0, false, (plainO o), (⟨0, 0, 0, ByteArray.empty, ByteArray.empty, 0, 0⟩ : TPlan), []⟩ : TCommand)) (.slice none 0 0)), bl b11 34 (cOp ((plainO o))), bl b9 37 zv9, bl b7 34 (cOp o), bl b4 32 (cScene v v_0 v_1 v_2 v_3 v_4), fz X w]
       | [5] => fun vs_ => [bl b14 90 (cPlace ((v.fChart.fPlaces.getD N default))), bl b13 37 [.int .i64 1, .int .i64 (c), .int .i64 (q), .int .i64 (0), .int .i64 (0), .int .i64 (0), .string ByteArray.empty, .int .i64 (0), .int .i64 (0), .int .i64 (0), .bool (false), .int .i64 ((plainO o).fKind), .string (plainO o).fKey, .string (plainO o).fOther, .int .i64 ((plainO o).fN), .int .i64 ((plainO o).fLo), .int .i64 ((plainO o).fHi), .int .i64 (0), .int .i64 (0), .int .i64 (0), .string ByteArray.empty, .string ByteArray.empty, .int .i64 (0), .int .i64 (0), (.slice none 0 0)], bl b11 34 (cOp ((plainO o))), bl b9 37 zv9, bl b7 34 (cOp o), bl b4 32 (cScene v v_0 v_1 v_2 v_3 v_4), fz X w]
       | [5, 7] => fun vs_ => [bl b14 90 (cPlace ((v.fChart.fPlaces.getD N default))), bl b13 37 [.int .i64 1, .int .i64 (c), .int .i64 (q), .int .i64 ((v.fChart.fPlaces.getD N default).fEpoch), .int .i64 (0), .int .i64 (0), .string ByteArray.empty, .int .i64 (0), .int .i64 (0), .int .i64 (0), .bool (false), .int .i64 ((plainO o).fKind), .string (plainO o).fKey, .string (plainO o).fOther, .int .i64 ((plainO o).fN), .int .i64 ((plainO o).fLo), .int .i64 ((plainO o).fHi), .int .i64 (0), .int .i64 (0), .int .i64 (0), .string ByteArray.empty, .string ByteArray.empty, .int .i64 (0), .int .i64 (0), (.slice none 0 0)], bl b11 34 (cOp ((plainO o))), bl b9 37 zv9, bl b7 34 (cOp o), bl b4 32 (cScene v v_0 v_1 v_2 v_3 v_4), fz X w]
       | [5, 7, 9] => fun vs_ => [bl b14 90 (cPlace ((v.fChart.fPlaces.getD N default))), bl b13 37 [.int .i64 1, .int .i64 (c), .int .i64 (q), .int .i64 ((v.fChart.fPlaces.getD N default).fEpoch), .int .i64 v.fNode, .int .i64 (0), .string ByteArray.empty, .int .i64 (0), .int .i64 (0), .int .i64 (0), .bool (false), .int .i64 ((plainO o).fKind), .string (plainO o).fKey, .string (plainO o).fOther, .int .i64 ((plainO o).fN), .int .i64 ((plainO o).fLo), .int .i64 ((plainO o).fHi), .int .i64 (0), .int .i64 (0), .int .i64 (0), .string ByteArray.empty, .string ByteArray.empty, .int .i64 (0), .int .i64 (0), (.slice none 0 0)], bl b11 34 (cOp ((plainO o))), bl b9 37 zv9, bl b7 34 (cOp o), bl b4 32 (cScene v v_0 v_1 v_2 v_3 v_4), fz X w]
       | _ => fun _ => [], [5, 7, 9], [[], [5], [5, 7], [5, 7, 9]]⟩ (fun V => [bl b14 90 (cPlace ((v.fChart.fPlaces.getD N default))), bl b13 37 [.int .i64 1, .int .i64 (c), .int .i64 (q), .int .i64 ((v.fChart.fPlaces.getD N default).fEpoch), .int .i64 v.fNode, .int .i64 (0), .string ByteArray.empty, .int .i64 (0), .int .i64 (0), .int .i64 (0), .bool (false), .int .i64 ((plainO o).fKind), .string (plainO o).fKey, .string (plainO o).fOther, .int .i64 ((plainO o).fN), .int .i64 ((plainO o).fLo), .int .i64 ((plainO o).fHi), .int .i64 (0), .int .i64 (0), .int .i64 (0), .string ByteArray.empty, .string ByteArray.empty, .int .i64 (0), .int .i64 (0), (.slice none 0 0)], bl b11 34 (cOp ((plainO o))), bl b9 37 zv9, bl b7 34 (cOp o), bl b4 32 (cScene v v_0 v_1 v_2 v_3 v_4), fz X w]) mixed rfl rfl (show AllP _ [[5, 7, 9]] from ⟨fun _ => rfl, trivial⟩) ?_ ?_
     ·
      refine ⟨fun V De _=>aP2 (fa G fld_90_2 G<|oh G G G G) (fa G fld_90_2 G<|oh G G G G),fun V De _=>aP2 (ldB 0 G G one_3 G G<|oh G G G G) (ldB 0 G G one_3 G G<|oh G G G G),fun V De _=>aP3 (fa G fld_32_0 G<|oh G G G G) (fa G fld_32_0 G<|oh G G G G) (fa G fld_32_0 G<|oh G G G G),fun V De _=>aP3 (ldB 5 G G one_3 G G<|oh G G G G) (ldB 5 G G one_3 G G<|oh G G G G) (ldB 5 G G one_3 G G<|oh G G G G),fun V De _=>aP1 (fa G fld_37_0 G<|oh G G G G),fun V De _=>aP1 (stB 1 G G G one_3 G (Nat.lt_of_lt_of_le (Nat.lt_succ_self _) (Nat.le_of_ble_eq_true G))<|oh0 G G),fun V De _=>aP1 (fa G fld_37_3 G<|oh G G G G),fun V De _=>aP1 (stB 1 G G G one_3 G (Nat.lt_of_lt_of_le (Nat.lt_succ_self _) (Nat.le_of_ble_eq_true G))<|oh0 G G),?_⟩
      exact ⟨fun V De _=>aP1 (fa G fld_37_4 G<|oh G G G G),fun V De _=>aP1 (stB 1 G G G one_3 G (Nat.lt_of_lt_of_le (Nat.lt_succ_self _) (Nat.le_of_ble_eq_true G))<|oh0 G G),trivial⟩
     ·
      intro V _
      refine wkQ (L := [bl b14 90 (cPlace ((v.fChart.fPlaces.getD N default))), bl b13 37 [.int .i64 1, .int .i64 (c), .int .i64 (q), .int .i64 ((v.fChart.fPlaces.getD N default).fEpoch), .int .i64 v.fNode, .int .i64 (0), .string ByteArray.empty, .int .i64 (0), .int .i64 (0), .int .i64 (0), .bool (false), .int .i64 ((plainO o).fKind), .string (plainO o).fKey, .string (plainO o).fOther, .int .i64 ((plainO o).fN), .int .i64 ((plainO o).fLo), .int .i64 ((plainO o).fHi), .int .i64 (0), .int .i64 (0), .int .i64 (0), .string ByteArray.empty, .string ByteArray.empty, .int .i64 (0), .int .i64 (0), (.slice none 0 0)], bl b11 34 (cOp ((plainO o))), bl b9 37 zv9, bl b7 34 (cOp o), bl b4 32 (cScene v v_0 v_1 v_2 v_3 v_4), fz X w]) [(9, _), (13, _), (14, _)] [_, _, _, _, _] ⟨G, G, G, trivial⟩ (Sc 0 G (Sc 1 G (Sc 2 G (Sc 3 G (Sc 4 G Sn)))))<|nx<|sq ?_
      refine rgH ⟨fun q_ => ([[], [0], [], [1], [2], []] : List (List Nat)).getD q_ [], fun _ _ => True, fun _ _ => [], fun q_ => ([some (.pointer (some ⟨b14, 0, none⟩)), some (.int .i64 ((v.fChart.fPlaces.getD N default).fGroup)), some (.agg (cCommand ((⟨1, c, q, (v.fChart.fPlaces.getD N default).fEpoch, v.fNode, 0, ByteArray.empty, 0, 0, 0, false, (⟨(plainO o).fKind, (plainO o).fKey, (plainO o).fOther, (plainO o).fN, (plainO o).fLo, (plainO o).fHi⟩ : TOp), (⟨0, 0, 0, ByteArray.empty, ByteArray.empty, 0, 0⟩ : TPlan), ([])⟩ : TCommand)) (.slice none 0 0)).toArray), some (.int .i64 ((v.fChart.fPlaces.getD N default).fGroup)), none, some (.int .i64 0)] : List (Option Value)).getD q_ none, fun h_ => match h_ with
        | [] => fun vs_ => [bl b14 90 (cPlace ((v.fChart.fPlaces.getD N default))), bl b13 37 [.int .i64 1, .int .i64 (c), .int .i64 (q), .int .i64 ((v.fChart.fPlaces.getD N default).fEpoch), .int .i64 v.fNode, .int .i64 (0), .string ByteArray.empty, .int .i64 (0), .int .i64 (0), .int .i64 (0), .bool (false), .int .i64 ((plainO o).fKind), .string (plainO o).fKey, .string (plainO o).fOther, .int .i64 ((plainO o).fN), .int .i64 ((plainO o).fLo), .int .i64 ((plainO o).fHi), .int .i64 (0), .int .i64 (0), .int .i64 (0), .string ByteArray.empty, .string ByteArray.empty, .int .i64 (0), .int .i64 (0), (.slice none 0 0)], bl b11 34 (cOp ((plainO o))), bl b9 37 zv9, bl b7 34 (cOp o), bl b4 32 (cScene v v_0 v_1 v_2 v_3 v_4), fz X w]
        | [4] => fun vs_ => [bl b14 90 (cPlace ((v.fChart.fPlaces.getD N default))), bl b13 37 [.int .i64 1, .int .i64 (c), .int .i64 (q), .int .i64 ((v.fChart.fPlaces.getD N default).fEpoch), .int .i64 v.fNode, .int .i64 (0), .string ByteArray.empty, .int .i64 (0), .int .i64 (0), .int .i64 (0), .bool (false), .int .i64 ((plainO o).fKind), .string (plainO o).fKey, .string (plainO o).fOther, .int .i64 ((plainO o).fN), .int .i64 ((plainO o).fLo), .int .i64 ((plainO o).fHi), .int .i64 (0), .int .i64 (0), .int .i64 (0), .string ByteArray.empty, .string ByteArray.empty, .int .i64 (0), .int .i64 (0), (.slice none 0 0)], bl b11 34 (cOp ((plainO o))), bl b9 37 (cCommand ((⟨1, c, q, (v.fChart.fPlaces.getD N default).fEpoch, v.fNode, 0, ByteArray.empty, 0, 0, 0, false, (⟨(plainO o).fKind, (plainO o).fKey, (plainO o).fOther, (plainO o).fN, (plainO o).fLo, (plainO o).fHi⟩ : TOp), (⟨0, 0, 0, ByteArray.empty, ByteArray.empty, 0, 0⟩ : TPlan), ([])⟩ : TCommand)) (.slice none 0 0)), bl b7 34 (cOp o), bl b4 32 (cScene v v_0 v_1 v_2 v_3 v_4), fz X w]
        | _ => fun _ => [], [4], [[], [4]]⟩ (fun V => [bl b14 90 (cPlace ((v.fChart.fPlaces.getD N default))), bl b13 37 [.int .i64 1, .int .i64 (c), .int .i64 (q), .int .i64 ((v.fChart.fPlaces.getD N default).fEpoch), .int .i64 v.fNode, .int .i64 (0), .string ByteArray.empty, .int .i64 (0), .int .i64 (0), .int .i64 (0), .bool (false), .int .i64 ((plainO o).fKind), .string (plainO o).fKey, .string (plainO o).fOther, .int .i64 ((plainO o).fN), .int .i64 ((plainO o).fLo), .int .i64 ((plainO o).fHi), .int .i64 (0), .int .i64 (0), .int .i64 (0), .string ByteArray.empty, .string ByteArray.empty, .int .i64 (0), .int .i64 (0), (.slice none 0 0)], bl b11 34 (cOp ((plainO o))), bl b9 37 (cCommand ((⟨1, c, q, (v.fChart.fPlaces.getD N default).fEpoch, v.fNode, 0, ByteArray.empty, 0, 0, 0, false, (⟨(plainO o).fKind, (plainO o).fKey, (plainO o).fOther, (plainO o).fN, (plainO o).fLo, (plainO o).fHi⟩ : TOp), (⟨0, 0, 0, ByteArray.empty, ByteArray.empty, 0, 0⟩ : TPlan), ([])⟩ : TCommand)) (.slice none 0 0)), bl b7 34 (cOp o), bl b4 32 (cScene v v_0 v_1 v_2 v_3 v_4), fz X w]) mixed rfl rfl (show AllP _ [[4]] from ⟨fun _ => rfl, trivial⟩) ?_ ?_
      ·
       exact ⟨fun V De _=>aP1 (fa G fld_90_0 G<|oh G G G G),fun V De _=>aP1 (ldB 0 G G one_3 G G<|oh G G G G),fun V De _=>aP1 (ldM 1 (cCommand ((⟨1, c, q, (v.fChart.fPlaces.getD N default).fEpoch, v.fNode, 0, ByteArray.empty, 0, 0, 0, false, (⟨(plainO o).fKind, (plainO o).fKey, (plainO o).fOther, (plainO o).fN, (plainO o).fLo, (plainO o).fHi⟩ : TOp), (⟨0, 0, 0, ByteArray.empty, ByteArray.empty, 0, 0⟩ : TPlan), ([])⟩ : TCommand)) (.slice none 0 0)) G G row_37 G G<|oh G G G G),fun V De _=>aP1 (asg G G<|oh G G G G),fun V De _=>aP1 (stW 3 (us := (cCommand ((⟨1, c, q, (v.fChart.fPlaces.getD N default).fEpoch, v.fNode, 0, ByteArray.empty, 0, 0, 0, false, (⟨(plainO o).fKind, (plainO o).fKey, (plainO o).fOther, (plainO o).fN, (plainO o).fLo, (plainO o).fHi⟩ : TOp), (⟨0, 0, 0, ByteArray.empty, ByteArray.empty, 0, 0⟩ : TPlan), ([])⟩ : TCommand)) (.slice none 0 0))) G G G row_37 G G<|oh0 G G),fun V De _=>aP1 (asg G G<|oh G G G G),trivial⟩
      ·
       intro V _
       exact wkQ (L := [bl b14 90 (cPlace ((v.fChart.fPlaces.getD N default))), bl b13 37 [.int .i64 1, .int .i64 (c), .int .i64 (q), .int .i64 ((v.fChart.fPlaces.getD N default).fEpoch), .int .i64 v.fNode, .int .i64 (0), .string ByteArray.empty, .int .i64 (0), .int .i64 (0), .int .i64 (0), .bool (false), .int .i64 ((plainO o).fKind), .string (plainO o).fKey, .string (plainO o).fOther, .int .i64 ((plainO o).fN), .int .i64 ((plainO o).fLo), .int .i64 ((plainO o).fHi), .int .i64 (0), .int .i64 (0), .int .i64 (0), .string ByteArray.empty, .string ByteArray.empty, .int .i64 (0), .int .i64 (0), (.slice none 0 0)], bl b11 34 (cOp ((plainO o))), bl b9 37 (cCommand ((⟨1, c, q, (v.fChart.fPlaces.getD N default).fEpoch, v.fNode, 0, ByteArray.empty, 0, 0, 0, false, (⟨(plainO o).fKind, (plainO o).fKey, (plainO o).fOther, (plainO o).fN, (plainO o).fLo, (plainO o).fHi⟩ : TOp), (⟨0, 0, 0, ByteArray.empty, ByteArray.empty, 0, 0⟩ : TPlan), ([])⟩ : TCommand)) (.slice none 0 0)), bl b7 34 (cOp o), bl b4 32 (cScene v v_0 v_1 v_2 v_3 v_4), fz X w]) [(9, _), (8, .int .i64 ((v.fChart.fPlaces.getD N default).fGroup)), (10, .int .i64 0)] [_, _, _, _, _] ⟨G, G, G, trivial⟩ (Sc 0 G (Sc 1 G (Sc 2 G (Sc 3 G (Sc 4 G Sn)))))<|nx<|rt<|fRG () [_, _, _, _, _, _] (rTCT 3 G G G G G row_37) (by rw [routeG, routeC, routeE, hR, e41, e54, ← hN]; try rfl) G Sn

end Go.Proofs.YtmpoffijcfaalaaGreat

/- Walks, written by specs6.py. -/

namespace Go.Proofs.YtmpoffijcfaalaaGreat
open Go.Eng Go.YtmpoffijcfaalaaGreat
set_option maxHeartbeats 1000000

theorem pnew_c : Fnc Tryz.prog 93 [] [] [] (fun (y : Value) v => v = .agg (cChart chart1 y (.slice none 0 0)).toArray) (fun _ _ => []) (fun y _ => [⟨y, chart1.fPlaces⟩]) := by
 refine Fnc.proof Tryz.func93 G 4 G G fun X w => sq<|rg<|al zero_27 G fun b0 => nl<|nx<|sq<|rg<|bd (ps := [(0, .const (.int .i64 1)), (2, .const (.int .i64 1))]) (cs := (cPlace ((⟨1, ByteArray.empty, 1⟩ : TPlace)))) (by rfl) (by kernel_rfl) G<|bsM G app_22 G G G G fun b2 => frS1 (α := TPlace) place1 (fun S w h => ⟨(), G, by simp, place1_wf⟩)<|bd (ps := [(1, .tmp 2), (2, .const (.int .i64 2))]) (cs := (cChart ((⟨0, [place1], 2, 0, (⟨0, 0, 0, ByteArray.empty, ByteArray.empty, 0, 0⟩ : TPlan), []⟩ : TChart)) (.slice (some ⟨b2, 0, none⟩) 1 1) (.slice none 0 0))) (by rfl) (by kernel_rfl) G<|stW 0 (us := (cChart ((⟨0, [place1], 2, 0, (⟨0, 0, 0, ByteArray.empty, ByteArray.empty, 0, 0⟩ : TPlan), []⟩ : TChart)) (.slice (some ⟨b2, 0, none⟩) 1 1) (.slice none 0 0))) G G G row_27 G G<|nl ?_
 exact nx<|rt<|fRG (.slice (some ⟨b2, 0, none⟩) 1 1) [_] (rC 0 G G G row_27) (by rfl) G (Sc 0 G Sn)

theorem snew_c (n : Int) (h_n : InI n) : FnV Tryz.prog 94 [.int .i64 n] [] (.tuple #[.agg (cState (newS n) (.slice none 0 0) (.slice none 0 0) (.slice none 0 0) (.slice none 0 0) (.slice none 0 0) (.slice none 0 0)).toArray, .int .i64 (if okGroup n = true then 0 else 1)]) := by
 refine Fnc.proof Tryz.func94 G 16 G G fun X w => ?_
 obtain ⟨h_n1, h_n2⟩ := id h_n
 refine sq<|rg<|al zero_55 G fun b2 => asg G G<|nl<|nx<|sq<|sq<|rg<|mv G G<|cfv (sgroup_c _ h_n) ok_169 G Sn G<|nt G G<|nl<|nx ?_
 refine cdB G (fun h7 => ?_) (fun h7 => ?_)
 ·
  have q : okGroup n = false := (by simpa using h7)
  exact sq<|rg<|bd (ps := []) (cs := (cState ((⟨0, 0, false, ByteArray.empty, ByteArray.empty, 0, [], [], [], [], [], (⟨0, 0, 0, ByteArray.empty, ByteArray.empty, 0, 0⟩ : TPlan), (⟨0, 0, 0, ByteArray.empty, ByteArray.empty, 0, 0⟩ : TPlan), [], 0, 0, 0⟩ : TState)) (.slice none 0 0) (.slice none 0 0) (.slice none 0 0) (.slice none 0 0) (.slice none 0 0) (.slice none 0 0))) (by rfl) (by kernel_rfl) G<|stW 0 (us := (cState ((⟨0, 0, false, ByteArray.empty, ByteArray.empty, 0, [], [], [], [], [], (⟨0, 0, 0, ByteArray.empty, ByteArray.empty, 0, 0⟩ : TPlan), (⟨0, 0, 0, ByteArray.empty, ByteArray.empty, 0, 0⟩ : TPlan), [], 0, 0, 0⟩ : TState)) (.slice none 0 0) (.slice none 0 0) (.slice none 0 0) (.slice none 0 0) (.slice none 0 0) (.slice none 0 0))) G G G row_55 G G<|asg G G<|nl<|nx<|rt<|tR<|fRG () [_] (rCT 0 G G G G row_55) (by rw [newS, q]; rfl) G Sn
 ·
  have q : okGroup n = true := (by simpa using h7)
  refine sk<|nx<|sq<|rg<|mv G G<|bd (ps := [(0, .tmp 9)]) (cs := (cState ((⟨n, 0, false, ByteArray.empty, ByteArray.empty, 0, [], [], [], [], [], (⟨0, 0, 0, ByteArray.empty, ByteArray.empty, 0, 0⟩ : TPlan), (⟨0, 0, 0, ByteArray.empty, ByteArray.empty, 0, 0⟩ : TPlan), [], 0, 0, 0⟩ : TState)) (.slice none 0 0) (.slice none 0 0) (.slice none 0 0) (.slice none 0 0) (.slice none 0 0) (.slice none 0 0))) (by rfl) (by kernel_rfl) G<|al zero_55 G fun b4 => stW 0 (us := (cState ((⟨n, 0, false, ByteArray.empty, ByteArray.empty, 0, [], [], [], [], [], (⟨0, 0, 0, ByteArray.empty, ByteArray.empty, 0, 0⟩ : TPlan), (⟨0, 0, 0, ByteArray.empty, ByteArray.empty, 0, 0⟩ : TPlan), [], 0, 0, 0⟩ : TState)) (.slice none 0 0) (.slice none 0 0) (.slice none 0 0) (.slice none 0 0) (.slice none 0 0) (.slice none 0 0))) G G G row_55 G G<|nl<|nx<|sq<|sq<|rg<|mv G G ?_
  refine eqI G G G<|nl<|nx<|cdP G (fun h12 => ?_) (fun h12 => ?_)
  ·
   refine sq<|rg<|fa G fld_55_2 G<|stB 0 G G G one_4 G (Nat.lt_of_lt_of_le (Nat.lt_succ_self _) (Nat.le_of_ble_eq_true G))<|nl<|nx<|rg<|fa G fld_55_5 G<|stB 0 G G G one_3 G (Nat.lt_of_lt_of_le (Nat.lt_succ_self _) (Nat.le_of_ble_eq_true G))<|nl<|nx<|sq<|rg<|ldM 0 (cState ((⟨n, 0, true, ByteArray.empty, ByteArray.empty, 1, ([]), ([]), ([]), ([]), ([]), (⟨0, 0, 0, ByteArray.empty, ByteArray.empty, 0, 0⟩ : TPlan), (⟨0, 0, 0, ByteArray.empty, ByteArray.empty, 0, 0⟩ : TPlan), ([]), 0, 0, 0⟩ : TState)) (.slice none 0 0) (.slice none 0 0) (.slice none 0 0) (.slice none 0 0) (.slice none 0 0) (.slice none 0 0)) G G row_55 G G ?_
   exact stW 1 (us := (cState ((⟨n, 0, true, ByteArray.empty, ByteArray.empty, 1, ([]), ([]), ([]), ([]), ([]), (⟨0, 0, 0, ByteArray.empty, ByteArray.empty, 0, 0⟩ : TPlan), (⟨0, 0, 0, ByteArray.empty, ByteArray.empty, 0, 0⟩ : TPlan), ([]), 0, 0, 0⟩ : TState)) (.slice none 0 0) (.slice none 0 0) (.slice none 0 0) (.slice none 0 0) (.slice none 0 0) (.slice none 0 0))) G G G row_55 G G<|asg G G<|nl<|nx<|rt<|fRG () [_, _] (rCT 1 G G G G row_55) (by rw [newS, q, if_pos rfl, if_pos rfl, if_pos rfl]; simp [h12]) G Sn
  ·
   exact sk<|nx<|sq<|rg<|ldM 0 (cState ((⟨n, 0, false, ByteArray.empty, ByteArray.empty, 0, [], [], [], [], [], (⟨0, 0, 0, ByteArray.empty, ByteArray.empty, 0, 0⟩ : TPlan), (⟨0, 0, 0, ByteArray.empty, ByteArray.empty, 0, 0⟩ : TPlan), [], 0, 0, 0⟩ : TState)) (.slice none 0 0) (.slice none 0 0) (.slice none 0 0) (.slice none 0 0) (.slice none 0 0) (.slice none 0 0)) G G row_55 G G<|stW 1 (us := (cState ((⟨n, 0, false, ByteArray.empty, ByteArray.empty, 0, [], [], [], [], [], (⟨0, 0, 0, ByteArray.empty, ByteArray.empty, 0, 0⟩ : TPlan), (⟨0, 0, 0, ByteArray.empty, ByteArray.empty, 0, 0⟩ : TPlan), [], 0, 0, 0⟩ : TState)) (.slice none 0 0) (.slice none 0 0) (.slice none 0 0) (.slice none 0 0) (.slice none 0 0) (.slice none 0 0))) G G G row_55 G G<|asg G G<|nl<|nx<|rt<|fRG () [_, _] (rCT 1 G G G G row_55) (by rw [newS, q]; simp [h12]) G Sn

theorem scene_c (a b : Int) (h_a : InI a) (h_b : InI b) : Fnc Tryz.prog 40 [.int .i64 a, .int .i64 b] [] [] (fun (y : Value × Value) v => v = .tuple #[.agg (cScene (scene1 a b) y.1 (.slice none 0 0) y.2 (.slice none 0 0) (.slice none 0 0)).toArray, .bool true]) (fun _ _ => []) (fun y _ => [⟨y.1, chart1.fPlaces⟩, ⟨y.2, stsN 7⟩]) := by
 refine Fnc.proof Tryz.func40 G 33 G G fun X w => ?_
 obtain ⟨h_a1, h_a2⟩ := id h_a
 obtain ⟨h_b1, h_b2⟩ := id h_b
 refine sq<|rg<|al zero_32 G fun b4 => asg G G<|nl<|nx<|sq<|rg<|mv G G<|mv G G<|cf (pnew_c) ok_93 G Sn G fun y12 v12 h12 => ?_
 have h12 : v12 = .agg (cChart chart1 y12 (.slice none 0 0)).toArray := h12
 subst h12
 refine bd (ps := [(0, .tmp 10), (1, .tmp 11), (2, .tmp 12)]) (cs := (cScene ((⟨a, b, chart1, [], [], []⟩ : TScene)) y12 (.slice none 0 0) (.slice none 0 0) (.slice none 0 0) (.slice none 0 0))) (by rfl) (by kernel_rfl) G<|al zero_32 G fun b6 => gtL (q := y12.oneCell' = true) (fun S w h => oneCell_of_list (h _ (List.mem_of_getElem? (i := 0) G))) fun o_y12 => stW 0 (us := (cScene ((⟨a, b, chart1, [], [], []⟩ : TScene)) y12 (.slice none 0 0) (.slice none 0 0) (.slice none 0 0) (.slice none 0 0))) G G G row_32 (by simp only [List.all_cons, List.all_nil, Bool.and_true, o_y12]; rfl) G<|nl<|nx<|sq<|sq<|rg<|asg G G<|nl<|nx<|bk<|rwC TState 55 ?_
 refine lpE (σ := Nat × Value) [(4, _), (6, _)] _ (fun i C => (7, .int .i64 ((i.1 : Int) + 1)) :: C) (fun i => [row 55 i.2 (stsN i.1), bl b6 32 (cScene (scene1 a b) y12 (.slice none 0 0) i.2 (.slice none 0 0) (.slice none 0 0)), bl b4 32 (cScene zscene (.slice none 0 0) (.slice none 0 0) (.slice none 0 0) (.slice none 0 0) (.slice none 0 0)), fz X w]) (fun _ Dc => Dc) (fun i => i.1 ≤ 7) (fun i => 7 - i.1) (0, (.slice none 0 0)) ⟨G, G, trivial⟩ (Sc 0 G Sn) (by decide) ⟨G, G, G, trivial⟩ G (Sc 0 G Sn) ?_
 rintro ⟨i, rv⟩ hi
 simp only at hi
 refine sq<|sq<|rg<|mv G G<|ltI G G G<|nl<|nx<|cdP G (fun h15 => ?_) (fun h15 => ?_)
 ·
  have hg : okGroup ((i : Int) + 1) = true := (by simp only [okGroup, Bool.and_eq_true, decide_eq_true_eq]; omega)
  refine sk<|nx<|sq<|bk<|sq<|rg<|mv G G<|cfv (snew_c _ (inI (by omega) (by omega))) ok_94 G Sn G<|mv G G<|xt G G G<|xt G G G<|al zero_55 G fun b8 => stW 0 (us := (cState ((newS ((i : Int) + 1))) (.slice none 0 0) (.slice none 0 0) (.slice none 0 0) (.slice none 0 0) (.slice none 0 0) (.slice none 0 0))) G G G row_55 G G<|asg G G ?_
  refine nl<|nx<|sq<|sq<|rg<|mv G G<|neI G G G<|nl<|nx<|cdN G (fun h24 => ?_) (fun h24 => ?_)
  ·
   exact absurd (if_pos hg) h24 --#done
  ·
   refine sk<|nx<|rg<|fa G fld_32_3 G<|ldB 2 G G one_28 G G<|ldM 0 (cState ((newS ((i : Int) + 1))) (.slice none 0 0) (.slice none 0 0) (.slice none 0 0) (.slice none 0 0) (.slice none 0 0) (.slice none 0 0)) G G row_55 G G<|emL (α := TAccount)<|emL (α := TMark)<|emL (α := TWait)<|emL (α := TDeal)<|emL (α := TEnd)<|emL (α := UInt8)<|bsM G app_28 G G G G fun b29 => ?_
   refine frS1 (α := TState) (newS ((i : Int) + 1)) (fun S w h => ⟨((.slice none 0 0), (.slice none 0 0), (.slice none 0 0), (.slice none 0 0), (.slice none 0 0), (.slice none 0 0)), G, fun t ht => by
     simp only [List.mem_cons, List.not_mem_nil, or_false] at ht
     rcases ht with rfl | rfl | rfl | rfl | rfl | rfl
     ·
      exact h _ (List.mem_of_getElem? (i := 5) G)
     ·
      exact h _ (List.mem_of_getElem? (i := 4) G)
     ·
      exact h _ (List.mem_of_getElem? (i := 3) G)
     ·
      exact h _ (List.mem_of_getElem? (i := 2) G)
     ·
      exact h _ (List.mem_of_getElem? (i := 1) G)
     ·
      exact h _ (List.mem_of_getElem? (i := 0) G), newS_wf (inI (by omega) (by omega))⟩) ?_
   refine ap 1 0 G G G G app_28 (by simp only [stsN_len, List.length_cons, List.length_nil]; omega) (by simp only [stsN_len, List.length_cons, List.length_nil]; omega) G fun v30 => fa G fld_32_3 G<|stR 2 1 G G G G one_28 (Nat.lt_of_lt_of_le (Nat.lt_succ_self _) (Nat.le_of_ble_eq_true G))<|nl<|bN<|nx<|rg<|mv G G<|adI G G (inI (by omega) (by omega)) G<|asg G G<|nl<|dpQ ?_
   exact ag ((i + 1, v30) : Nat × Value) (by show i + 1 ≤ 7; omega) (by show 7 - (i + 1) < 7 - i; omega) ⟨G, G, G, trivial⟩ G (Sc 7 G Sn)
 ·
  have e : i = 7 := (by omega)
  subst e
  refine ex<|tE<|tE<|bE<|nx<|sq<|frR<|rg<|ldM 0 (cScene (scene1 a b) y12 (.slice none 0 0) rv (.slice none 0 0) (.slice none 0 0)) G G row_32 G G<|gtL (q := y12.oneCell' = true) (fun S w h => oneCell_of_list (h _ (List.mem_of_getElem? (i := 1) G))) fun o_y12 => gtL (q := rv.oneCell' = true) (fun S w h => oneCell_of_list (h _ (List.mem_of_getElem? (i := 0) G))) fun o_rv => stW 1 (us := (cScene ((scene1 a b)) y12 (.slice none 0 0) rv (.slice none 0 0) (.slice none 0 0))) G G G row_32 (by simp only [List.all_cons, List.all_nil, Bool.and_true, o_y12, o_rv]; rfl) G<|asg G G<|nl ?_
  exact nx<|rt<|fRG (y12, rv) [_, _] (rCT 1 G G G G row_32) (by rfl) G (Sc 1 G (Sc 0 G Sn))

theorem awake_c  : FnV Tryz.prog 10 [] [] (.bool awakeB) := by
 refine Fnc.proof Tryz.func10 G 40 G G fun X w => sq<|rg<|asg G G<|nl<|nx<|sq<|rg<|cf (scene_c 1 3 ⟨by decide, by decide⟩ ⟨by decide, by decide⟩) ok_40 G Sn G fun y7 v7 h7 => ?_
 obtain ⟨y0, y1⟩ := y7
 have h7 : v7 = .tuple #[.agg (cScene (scene1 1 3) y0 (.slice none 0 0) y1 (.slice none 0 0) (.slice none 0 0)).toArray, .bool true] := h7
 subst h7
 refine mv G G<|xt G G G<|xt G G G<|al zero_32 G fun b1 => gtL (q := y0.oneCell' = true) (fun S w h => oneCell_of_list (h _ (List.mem_of_getElem? (i := 0) G))) fun o_y0 => gtL (q := y1.oneCell' = true) (fun S w h => oneCell_of_list (h _ (List.mem_of_getElem? (i := 1) G))) fun o_y1 => stW 0 (us := (cScene ((scene1 1 3)) y0 (.slice none 0 0) y1 (.slice none 0 0) (.slice none 0 0))) G G G row_32 (by simp only [List.all_cons, List.all_nil, Bool.and_true, o_y0, o_y1]; rfl) G<|asg G G<|nl<|nx<|sq<|rg<|ldM 0 (cScene ((scene1 1 3)) y0 (.slice none 0 0) y1 (.slice none 0 0) (.slice none 0 0)) G G row_32 G G<|bd (ps := [(0, .const (.int .i64 4)), (1, .const _)]) (cs := cOp opA) (by rfl) (by kernel_rfl) G ?_
 refine emL (α := TMark)<|emL (α := TRight)<|emL (α := TAge)<|cfv (route_c _ _ _ _ _ _ _ _ _ (scene1_wf ⟨by decide, by decide⟩ ⟨by decide, by decide⟩) (inI (by omega) (by omega)) (inI (by omega) (by omega)) opA_wf) ok_8 G (Sc 3 G (Sc 2 G (Sc 4 G (Sc 1 G (Sc 0 G Sn))))) G<|mv G G<|xt G G G<|xt G G G<|xt G G G<|al zero_37 G fun b4 => asg G G<|stW 0 (us := (cCommand ((routeC (scene1 1 3) 1 1 opA)) (.slice none 0 0))) G G G row_37 G G<|asg G G<|nl<|nx ?_
 refine sq<|rg<|mv G G<|mv G G<|gY G G G<|ldM 1 (cScene ((scene1 1 3)) y0 (.slice none 0 0) y1 (.slice none 0 0) (.slice none 0 0)) G G row_32 G G<|gY G G G<|emL (α := TMark)<|emL (α := TRight)<|emL (α := TAge)<|cfv (dright_c _ _ _ _ _ _ (scene1_wf ⟨by decide, by decide⟩ ⟨by decide, by decide⟩)) ok_17 G (Sc 6 G (Sc 2 G (Sc 7 G (Sc 1 G (Sc 0 G Sn))))) G<|pkT G G G<|mv G G ?_
 apply jo [(3, _), (4, _), (5, _)] ⟨rfl, rfl, rfl, trivial⟩
 ·
  intro K26
  refine spA (i := 22) G (fun h22 => ?_) (fun h22 => ?_)
  ·
   exact gY G G G<|bd (ps := []) (cs := cScene zscene (.slice none 0 0) (.slice none 0 0) (.slice none 0 0) (.slice none 0 0) (.slice none 0 0)) (by rfl) (by kernel_rfl) G<|gY G G G<|emL (α := TPlace)<|emL (α := TMark)<|emL (α := TState)<|emL (α := TRight)<|emL (α := TAge)<|cfv (dright_c _ _ _ _ _ _ zscene_wf) ok_17 G (Sc 4 G (Sc 3 G (Sc 2 G (Sc 1 G (Sc 0 G Sn))))) G<|gY G G G<|nt G G<|pkT G G G<|jA K26 h22 ⟨G, G, G, trivial⟩ (SubD.tail (SubD.tail (SubD.tail (SubD.tail (SubD.tail Sr)))))
  ·
   exact gS (g := [_, _, _]) G<|pkF G G G<|jA0 K26 h22 ⟨G, G, G, trivial⟩ Sr
 refine mv G G ?_
 apply jo [(4, _), (5, _)] ⟨rfl, rfl, trivial⟩
 ·
  intro K30
  refine spA (i := 27) G (fun h27 => ?_) (fun h27 => ?_)
  ·
   exact gY G G G<|mv G G<|gY G G G<|eqI G G G<|pkT G G G<|jA K30 h27 ⟨G, G, trivial⟩ Sr
  ·
   exact gS (g := [_, _]) G<|pkF G G G<|jA0 K30 h27 ⟨G, G, trivial⟩ Sr
 refine mv G G ?_
 apply jo [(5, _)] ⟨rfl, trivial⟩
 ·
  intro K35
  refine spA (i := 31) G (fun h31 => ?_) (fun h31 => ?_)
  ·
   exact gY G G G<|fa G fld_37_0 G<|gY G G G<|ldB 0 G G one_3 G G<|gY G G G<|eqI G G G<|pkT G G G<|jA K35 h31 ⟨G, trivial⟩ Sr
  ·
   exact gS (g := [_, _, _]) G<|pkF G G G<|jA0 K35 h31 ⟨G, trivial⟩ Sr
 refine mv G G ?_
 apply jo [] trivial
 ·
  intro K39
  refine spA (i := 36) G (fun h36 => ?_) (fun h36 => ?_)
  ·
   exact gY G G G<|mv G G<|gY G G G<|eqI G G G<|pkT G G G<|jA K39 h36 trivial Sr
  ·
   exact gS (g := [_, _]) G<|pkF G G G<|jA0 K39 h36 trivial Sr
 refine asg G G<|nl<|nx<|rt<|dpQ<|dpQ ?_
 exact fR1 () G G (by rfl) G Sn

end Go.Proofs.YtmpoffijcfaalaaGreat

/- Closed facts on the program, written by specs9.py. -/

namespace Go.Proofs.YtmpoffijcfaalaaGreat
open Go.Eng

theorem app_105 : AppTy Tryz.prog 105 103 1 8 := AppTy.mk Tryz.underlying105 (by kernel_rfl) (by decide)
theorem fdv_55_6 : FieldV Tryz.prog 55 6 6 := ⟨_, _, _, Tryz.underlying55, rfl, rfl, Tryz.underlying50, rfl⟩
theorem ok_104 : FnOk Tryz.prog 104 := ⟨⟨_, Tryz.func104, by kernel_rfl, rfl⟩⟩
theorem ok_108 : FnOk Tryz.prog 108 := ⟨⟨_, Tryz.func108, by kernel_rfl, rfl⟩⟩
theorem ok_109 : FnOk Tryz.prog 109 := ⟨⟨_, Tryz.func109, by kernel_rfl, rfl⟩⟩
theorem ok_111 : FnOk Tryz.prog 111 := ⟨⟨_, Tryz.func111, by kernel_rfl, rfl⟩⟩
theorem ok_114 : FnOk Tryz.prog 114 := ⟨⟨_, Tryz.func114, by kernel_rfl, rfl⟩⟩
theorem ok_13 : FnOk Tryz.prog 13 := ⟨⟨_, Tryz.func13, by kernel_rfl, rfl⟩⟩
theorem ok_15 : FnOk Tryz.prog 15 := ⟨⟨_, Tryz.func15, by kernel_rfl, rfl⟩⟩
theorem ok_44 : FnOk Tryz.prog 44 := ⟨⟨_, Tryz.func44, by kernel_rfl, rfl⟩⟩
theorem ok_45 : FnOk Tryz.prog 45 := ⟨⟨_, Tryz.func45, by kernel_rfl, rfl⟩⟩
theorem ok_46 : FnOk Tryz.prog 46 := ⟨⟨_, Tryz.func46, by kernel_rfl, rfl⟩⟩
theorem ok_48 : FnOk Tryz.prog 48 := ⟨⟨_, Tryz.func48, by kernel_rfl, rfl⟩⟩
theorem ok_49 : FnOk Tryz.prog 49 := ⟨⟨_, Tryz.func49, by kernel_rfl, rfl⟩⟩
theorem ok_50 : FnOk Tryz.prog 50 := ⟨⟨_, Tryz.func50, by kernel_rfl, rfl⟩⟩
theorem ok_51 : FnOk Tryz.prog 51 := ⟨⟨_, Tryz.func51, by kernel_rfl, rfl⟩⟩
theorem ok_52 : FnOk Tryz.prog 52 := ⟨⟨_, Tryz.func52, by kernel_rfl, rfl⟩⟩
theorem one_103 : OneTy Tryz.prog 103 := ⟨⟨_, Tryz.underlying103, rfl⟩, by kernel_rfl⟩
theorem one_45 : OneTy Tryz.prog 45 := ⟨⟨_, Tryz.underlying45, rfl⟩, by kernel_rfl⟩
theorem slt_105 : SliceTy Tryz.prog 105 103 1 := ⟨Tryz.underlying105, by kernel_rfl⟩
theorem zero_45 : ZeroOf Tryz.prog 45 [.slice none 0 0] := ZeroOf.mk (by kernel_rfl)
end Go.Proofs.YtmpoffijcfaalaaGreat

/- What is quiet. No program. -/

namespace Go.YtmpoffijcfaalaaGreat
open Go.Eng

def ptrS : Value → Nat
  | .slice (some a) _ _ => a.block
  | _ => 0
theorem dright_len {v : TScene} (h : drightP v = true) : v.fStates.length = 7 := by
  unfold drightP at h
  split at h
  · cases h
  · rename_i hn
    simp only [dright1, Bool.or_eq_true, not_or, Bool.not_eq_true', Bool.not_eq_false, decide_eq_true_eq] at hn
    omega
def fb1 : Value → Nat
  | .func _ _ b => ptrB (b.getD 0 undef)
  | _ => 0
def fb2 : Value → Nat
  | .func _ _ b => ptrB (b.getD 1 undef)
  | _ => 0
def isCl (k : Nat) (u : Value) : Prop := u = .func (.func k) #[] #[.pointer (some ⟨fb1 u, 0, none⟩), .pointer (some ⟨fb2 u, 0, none⟩)]
theorem isCl_one {k : Nat} {u : Value} (h : isCl k u) : u.oneCell' = true := by
  unfold isCl at h
  rw [h]
  rfl

end Go.YtmpoffijcfaalaaGreat
