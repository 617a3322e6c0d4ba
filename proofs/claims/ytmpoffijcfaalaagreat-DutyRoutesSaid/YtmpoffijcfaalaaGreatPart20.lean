/- Part 20 of the proof of dutyRoutes_holds: DutW17. Every text below begins with what it shows. -/
import Derived.Test.YtmpoffijcfaalaaGreatPart19

/- Walks, written by specs6.py. -/

namespace Go.Proofs.YtmpoffijcfaalaaGreat
open Go.Eng Go.YtmpoffijcfaalaaGreat
set_option maxHeartbeats 1000000

theorem op22_c (o : TOp) (h_o : o.wf) : FnV Tryz.prog 36 [.agg (cOp o).toArray] [] (.tuple #[.agg (cOp (op22 o)).toArray, .bool (may19 (opm o))]) := by
 refine Fnc.proof Tryz.func36 G 41 G G fun X w => ?_
 obtain ⟨ho0, ho1, ho2, ho3, ho4, ho5⟩ := id h_o
 refine sq<|rg<|bx G G G fun b1 => al zero_34 G fun b2 => asg G G<|nl<|nx<|sq<|rg<|fa G fld_34_0 G<|ldB 1 G G one_3 G G<|fa G fld_34_1 G<|ldB 1 G G one_9 G G<|bd (ps := [(0, .tmp 6), (1, .tmp 8)]) (cs := (cOp ((⟨o.fKind, o.fKey, ByteArray.empty, 0, 0, 0⟩ : TOp)))) (by rfl) (by kernel_rfl) G ?_
 refine al zero_34 G fun b4 => stW 0 (us := (cOp ((⟨o.fKind, o.fKey, ByteArray.empty, 0, 0, 0⟩ : TOp)))) G G G row_34 G G<|nl<|nx<|sq<|sq<|rg<|fa G fld_34_0 G<|ldB 2 G G one_3 G G<|nl<|nx<|bk<|sq<|sq ?_
 refine rg<|eqI G G G<|asg G G<|nl<|nx<|cdP G (fun h12 => ?_) (fun h12 => ?_)
 ·
  refine sk<|nx<|cdP G (fun h12 => ?_) (fun h12 => ?_)
  ·
   refine rg<|fa G fld_34_3 G<|ldB 2 G G one_3 G G<|fa G fld_34_3 G<|stB 0 G G G one_3 G (Nat.lt_of_lt_of_le (Nat.lt_succ_self _) (Nat.le_of_ble_eq_true G))<|nl<|bN<|nx<|sq<|wkC [(1, _), (2, _), (4, _)] _ ⟨G, G, G, trivial⟩ Sr ?_
   refine rgH ⟨fun q_ => ([[], [], [1], [0], [2]] : List (List Nat)).getD q_ [], fun _ _ => True, fun _ _ => [], fun q_ => ([some (.agg (cOp ((⟨o.fKind, o.fKey, ByteArray.empty, o.fN, 0, 0⟩ : TOp))).toArray), some (.agg (cOp o).toArray), some (.bool (may19 o)), none, some (.bool (may19 o))] : List (Option Value)).getD q_ none, fun h_ => match h_ with
     | [] => fun vs_ => [bl b4 34 [.int .i64 (o.fKind), .string o.fKey, .string ByteArray.empty, .int .i64 o.fN, .int .i64 (0), .int .i64 (0)], bl b2 34 zv8, bl b1 34 (cOp o), fz X w]
     | [3] => fun vs_ => [bl b4 34 [.int .i64 (o.fKind), .string o.fKey, .string ByteArray.empty, .int .i64 o.fN, .int .i64 (0), .int .i64 (0)], bl b2 34 (cOp ((⟨o.fKind, o.fKey, ByteArray.empty, o.fN, 0, 0⟩ : TOp))), bl b1 34 (cOp o), fz X w]
     | _ => fun _ => [], [3], [[], [3]]⟩ (fun V => [bl b4 34 [.int .i64 (o.fKind), .string o.fKey, .string ByteArray.empty, .int .i64 o.fN, .int .i64 (0), .int .i64 (0)], bl b2 34 (cOp ((⟨o.fKind, o.fKey, ByteArray.empty, o.fN, 0, 0⟩ : TOp))), bl b1 34 (cOp o), fz X w]) mixed rfl rfl (show AllP _ [[3]] from ⟨fun _ => rfl, trivial⟩) ?_ ?_
   ·
    exact ⟨fun V De _=>aP1 (ldM 0 (cOp ((⟨o.fKind, o.fKey, ByteArray.empty, o.fN, 0, 0⟩ : TOp))) G G row_34 G G<|oh G G G G),fun V De _=>aP2 (ldM 2 (cOp o) G G row_34 G G<|oh G G G G) (ldM 2 (cOp o) G G row_34 G G<|oh G G G G),fun V De _=>aP1 (cfv (may19_c _ h_o) ok_91 G Sn G<|oh G G G G),fun V De _=>aP1 (stW 1 (us := (cOp ((⟨o.fKind, o.fKey, ByteArray.empty, o.fN, 0, 0⟩ : TOp)))) G G G row_34 G G<|oh0 G G),fun V De _=>aP1 (asg G G<|oh G G G G),trivial⟩
   ·
    intro V _
    exact wkQ (L := [bl b4 34 [.int .i64 (o.fKind), .string o.fKey, .string ByteArray.empty, .int .i64 o.fN, .int .i64 (0), .int .i64 (0)], bl b2 34 (cOp ((⟨o.fKind, o.fKey, ByteArray.empty, o.fN, 0, 0⟩ : TOp))), bl b1 34 (cOp o), fz X w]) [(2, _), (3, .bool (may19 o))] [] ⟨G, G, trivial⟩ Sn<|nx<|rt<|fRG () [_, _, _] (rCT 1 G G G G row_34) (by first | (exfalso; omega) | (unfold op22 opm; (repeat' split) <;> first | rfl | (exfalso; omega))) G Sn
  ·
   refine sq<|rg<|eqI G G G<|asg G G<|nl<|nx<|cdP G (fun h18 => ?_) (fun h18 => ?_)
   ·
    refine rgH ⟨fun q_ => ([[], [0], [], [2], [], [4, 1], [], [6, 3]] : List (List Nat)).getD q_ [], fun _ _ => True, fun _ _ => [], fun q_ => ([some (.pointer (some ⟨b1, 4, none⟩)), some (.int .i64 o.fLo), some (.pointer (some ⟨b1, 5, none⟩)), some (.int .i64 o.fHi), some (.pointer (some ⟨b4, 4, none⟩)), none, some (.pointer (some ⟨b4, 5, none⟩)), none] : List (Option Value)).getD q_ none, fun h_ => match h_ with
      | [] => fun vs_ => [bl b4 34 (cOp ((⟨o.fKind, o.fKey, ByteArray.empty, 0, 0, 0⟩ : TOp))), bl b2 34 zv8, bl b1 34 (cOp o), fz X w]
      | [5] => fun vs_ => [bl b4 34 [.int .i64 (o.fKind), .string o.fKey, .string ByteArray.empty, .int .i64 (0), .int .i64 o.fLo, .int .i64 (0)], bl b2 34 zv8, bl b1 34 (cOp o), fz X w]
      | [5, 7] => fun vs_ => [bl b4 34 [.int .i64 (o.fKind), .string o.fKey, .string ByteArray.empty, .int .i64 (0), .int .i64 o.fLo, .int .i64 o.fHi], bl b2 34 zv8, bl b1 34 (cOp o), fz X w]
      | _ => fun _ => [], [5, 7], [[], [5], [5, 7]]⟩ (fun V => [bl b4 34 [.int .i64 (o.fKind), .string o.fKey, .string ByteArray.empty, .int .i64 (0), .int .i64 o.fLo, .int .i64 o.fHi], bl b2 34 zv8, bl b1 34 (cOp o), fz X w]) mixed rfl rfl (show AllP _ [[5, 7]] from ⟨fun _ => rfl, trivial⟩) ?_ ?_
    ·
     exact ⟨fun V De _=>aP1 (fa G fld_34_4 G<|oh G G G G),fun V De _=>aP1 (ldB 2 G G one_3 G G<|oh G G G G),fun V De _=>aP2 (fa G fld_34_5 G<|oh G G G G) (fa G fld_34_5 G<|oh G G G G),fun V De _=>aP2 (ldB 2 G G one_3 G G<|oh G G G G) (ldB 2 G G one_3 G G<|oh G G G G),fun V De _=>aP1 (fa G fld_34_4 G<|oh G G G G),fun V De _=>aP1 (stB 0 G G G one_3 G (Nat.lt_of_lt_of_le (Nat.lt_succ_self _) (Nat.le_of_ble_eq_true G))<|oh0 G G),fun V De _=>aP1 (fa G fld_34_5 G<|oh G G G G),fun V De _=>aP1 (stB 0 G G G one_3 G (Nat.lt_of_lt_of_le (Nat.lt_succ_self _) (Nat.le_of_ble_eq_true G))<|oh0 G G),trivial⟩
    ·
     intro V _
     refine wkQ (L := [bl b4 34 [.int .i64 (o.fKind), .string o.fKey, .string ByteArray.empty, .int .i64 (0), .int .i64 o.fLo, .int .i64 o.fHi], bl b2 34 zv8, bl b1 34 (cOp o), fz X w]) [(1, _), (2, _), (4, _)] [] ⟨G, G, G, trivial⟩ Sn<|bN<|nx<|sq ?_
     refine rgH ⟨fun q_ => ([[], [], [1], [0], [2]] : List (List Nat)).getD q_ [], fun _ _ => True, fun _ _ => [], fun q_ => ([some (.agg (cOp ((⟨o.fKind, o.fKey, ByteArray.empty, 0, o.fLo, o.fHi⟩ : TOp))).toArray), some (.agg (cOp o).toArray), some (.bool (may19 o)), none, some (.bool (may19 o))] : List (Option Value)).getD q_ none, fun h_ => match h_ with
       | [] => fun vs_ => [bl b4 34 [.int .i64 (o.fKind), .string o.fKey, .string ByteArray.empty, .int .i64 (0), .int .i64 o.fLo, .int .i64 o.fHi], bl b2 34 zv8, bl b1 34 (cOp o), fz X w]
       | [3] => fun vs_ => [bl b4 34 [.int .i64 (o.fKind), .string o.fKey, .string ByteArray.empty, .int .i64 (0), .int .i64 o.fLo, .int .i64 o.fHi], bl b2 34 (cOp ((⟨o.fKind, o.fKey, ByteArray.empty, 0, o.fLo, o.fHi⟩ : TOp))), bl b1 34 (cOp o), fz X w]
       | _ => fun _ => [], [3], [[], [3]]⟩ (fun V => [bl b4 34 [.int .i64 (o.fKind), .string o.fKey, .string ByteArray.empty, .int .i64 (0), .int .i64 o.fLo, .int .i64 o.fHi], bl b2 34 (cOp ((⟨o.fKind, o.fKey, ByteArray.empty, 0, o.fLo, o.fHi⟩ : TOp))), bl b1 34 (cOp o), fz X w]) mixed rfl rfl (show AllP _ [[3]] from ⟨fun _ => rfl, trivial⟩) ?_ ?_
     ·
      exact ⟨fun V De _=>aP1 (ldM 0 (cOp ((⟨o.fKind, o.fKey, ByteArray.empty, 0, o.fLo, o.fHi⟩ : TOp))) G G row_34 G G<|oh G G G G),fun V De _=>aP2 (ldM 2 (cOp o) G G row_34 G G<|oh G G G G) (ldM 2 (cOp o) G G row_34 G G<|oh G G G G),fun V De _=>aP1 (cfv (may19_c _ h_o) ok_91 G Sn G<|oh G G G G),fun V De _=>aP1 (stW 1 (us := (cOp ((⟨o.fKind, o.fKey, ByteArray.empty, 0, o.fLo, o.fHi⟩ : TOp)))) G G G row_34 G G<|oh0 G G),fun V De _=>aP1 (asg G G<|oh G G G G),trivial⟩
     ·
      intro V _
      exact wkQ (L := [bl b4 34 [.int .i64 (o.fKind), .string o.fKey, .string ByteArray.empty, .int .i64 (0), .int .i64 o.fLo, .int .i64 o.fHi], bl b2 34 (cOp ((⟨o.fKind, o.fKey, ByteArray.empty, 0, o.fLo, o.fHi⟩ : TOp))), bl b1 34 (cOp o), fz X w]) [(2, _), (3, .bool (may19 o))] [] ⟨G, G, trivial⟩ Sn<|nx<|rt<|fRG () [_, _, _] (rCT 1 G G G G row_34) (by first | (exfalso; omega) | (unfold op22 opm; (repeat' split) <;> first | rfl | (exfalso; omega))) G Sn
   ·
    refine sq<|rg<|eqI G G G<|asg G G<|nl<|nx<|cdP G (fun h26 => ?_) (fun h26 => ?_)
    ·
     refine rgH ⟨fun q_ => ([[], [0], [], [2], [], [4, 1], [], [6, 3]] : List (List Nat)).getD q_ [], fun _ _ => True, fun _ _ => [], fun q_ => ([some (.pointer (some ⟨b1, 2, none⟩)), some (.string o.fOther), some (.pointer (some ⟨b1, 3, none⟩)), some (.int .i64 o.fN), some (.pointer (some ⟨b4, 2, none⟩)), none, some (.pointer (some ⟨b4, 3, none⟩)), none] : List (Option Value)).getD q_ none, fun h_ => match h_ with
       | [] => fun vs_ => [bl b4 34 (cOp ((⟨o.fKind, o.fKey, ByteArray.empty, 0, 0, 0⟩ : TOp))), bl b2 34 zv8, bl b1 34 (cOp o), fz X w]
       | [5] => fun vs_ => [bl b4 34 [.int .i64 (o.fKind), .string o.fKey, .string o.fOther, .int .i64 (0), .int .i64 (0), .int .i64 (0)], bl b2 34 zv8, bl b1 34 (cOp o), fz X w]
       | [5, 7] => fun vs_ => [bl b4 34 [.int .i64 (o.fKind), .string o.fKey, .string o.fOther, .int .i64 o.fN, .int .i64 (0), .int .i64 (0)], bl b2 34 zv8, bl b1 34 (cOp o), fz X w]
       | _ => fun _ => [], [5, 7], [[], [5], [5, 7]]⟩ (fun V => [bl b4 34 [.int .i64 (o.fKind), .string o.fKey, .string o.fOther, .int .i64 o.fN, .int .i64 (0), .int .i64 (0)], bl b2 34 zv8, bl b1 34 (cOp o), fz X w]) mixed rfl rfl (show AllP _ [[5, 7]] from ⟨fun _ => rfl, trivial⟩) ?_ ?_
     ·
      exact ⟨fun V De _=>aP1 (fa G fld_34_2 G<|oh G G G G),fun V De _=>aP1 (ldB 2 G G one_9 G G<|oh G G G G),fun V De _=>aP2 (fa G fld_34_3 G<|oh G G G G) (fa G fld_34_3 G<|oh G G G G),fun V De _=>aP2 (ldB 2 G G one_3 G G<|oh G G G G) (ldB 2 G G one_3 G G<|oh G G G G),fun V De _=>aP1 (fa G fld_34_2 G<|oh G G G G),fun V De _=>aP1 (stB 0 G G G one_9 G (Nat.lt_of_lt_of_le (Nat.lt_succ_self _) (Nat.le_of_ble_eq_true G))<|oh0 G G),fun V De _=>aP1 (fa G fld_34_3 G<|oh G G G G),fun V De _=>aP1 (stB 0 G G G one_3 G (Nat.lt_of_lt_of_le (Nat.lt_succ_self _) (Nat.le_of_ble_eq_true G))<|oh0 G G),trivial⟩
     ·
      intro V _
      refine wkQ (L := [bl b4 34 [.int .i64 (o.fKind), .string o.fKey, .string o.fOther, .int .i64 o.fN, .int .i64 (0), .int .i64 (0)], bl b2 34 zv8, bl b1 34 (cOp o), fz X w]) [(1, _), (2, _), (4, _)] [] ⟨G, G, G, trivial⟩ Sn<|bN<|nx<|sq ?_
      refine rgH ⟨fun q_ => ([[], [], [1], [0], [2]] : List (List Nat)).getD q_ [], fun _ _ => True, fun _ _ => [], fun q_ => ([some (.agg (cOp ((⟨o.fKind, o.fKey, o.fOther, o.fN, 0, 0⟩ : TOp))).toArray), some (.agg (cOp o).toArray), some (.bool (may19 o)), none, some (.bool (may19 o))] : List (Option Value)).getD q_ none, fun h_ => match h_ with
        | [] => fun vs_ => [bl b4 34 [.int .i64 (o.fKind), .string o.fKey, .string o.fOther, .int .i64 o.fN, .int .i64 (0), .int .i64 (0)], bl b2 34 zv8, bl b1 34 (cOp o), fz X w]
        | [3] => fun vs_ => [bl b4 34 [.int .i64 (o.fKind), .string o.fKey, .string o.fOther, .int .i64 o.fN, .int .i64 (0), .int .i64 (0)], bl b2 34 (cOp ((⟨o.fKind, o.fKey, o.fOther, o.fN, 0, 0⟩ : TOp))), bl b1 34 (cOp o), fz X w]
        | _ => fun _ => [], [3], [[], [3]]⟩ (fun V => [bl b4 34 [.int .i64 (o.fKind), .string o.fKey, .string o.fOther, .int .i64 o.fN, .int .i64 (0), .int .i64 (0)], bl b2 34 (cOp ((⟨o.fKind, o.fKey, o.fOther, o.fN, 0, 0⟩ : TOp))), bl b1 34 (cOp o), fz X w]) mixed rfl rfl (show AllP _ [[3]] from ⟨fun _ => rfl, trivial⟩) ?_ ?_
      ·
       exact ⟨fun V De _=>aP1 (ldM 0 (cOp ((⟨o.fKind, o.fKey, o.fOther, o.fN, 0, 0⟩ : TOp))) G G row_34 G G<|oh G G G G),fun V De _=>aP2 (ldM 2 (cOp o) G G row_34 G G<|oh G G G G) (ldM 2 (cOp o) G G row_34 G G<|oh G G G G),fun V De _=>aP1 (cfv (may19_c _ h_o) ok_91 G Sn G<|oh G G G G),fun V De _=>aP1 (stW 1 (us := (cOp ((⟨o.fKind, o.fKey, o.fOther, o.fN, 0, 0⟩ : TOp)))) G G G row_34 G G<|oh0 G G),fun V De _=>aP1 (asg G G<|oh G G G G),trivial⟩
      ·
       intro V _
       exact wkQ (L := [bl b4 34 [.int .i64 (o.fKind), .string o.fKey, .string o.fOther, .int .i64 o.fN, .int .i64 (0), .int .i64 (0)], bl b2 34 (cOp ((⟨o.fKind, o.fKey, o.fOther, o.fN, 0, 0⟩ : TOp))), bl b1 34 (cOp o), fz X w]) [(2, _), (3, .bool (may19 o))] [] ⟨G, G, trivial⟩ Sn<|nx<|rt<|fRG () [_, _, _] (rCT 1 G G G G row_34) (by first | (exfalso; omega) | (unfold op22 opm; (repeat' split) <;> first | rfl | (exfalso; omega))) G Sn
    ·
     refine sq<|sq<|rg<|eqI G G G<|asg G G<|nl<|nx<|cdP G (fun h34 => ?_) (fun h34 => ?_)
     ·
      refine sk<|nx<|cdP G (fun h34 => ?_) (fun h34 => ?_)
      ·
       refine rg<|fa G fld_34_0 G<|stB 2 G G G one_3 G (Nat.lt_of_lt_of_le (Nat.lt_succ_self _) (Nat.le_of_ble_eq_true G))<|nl<|bN<|nx<|sq<|wkC [(1, _), (2, _), (4, _)] _ ⟨G, G, G, trivial⟩ Sr ?_
       refine rgH ⟨fun q_ => ([[], [], [1], [0], [2]] : List (List Nat)).getD q_ [], fun _ _ => True, fun _ _ => [], fun q_ => ([some (.agg (cOp ((⟨o.fKind, o.fKey, ByteArray.empty, 0, 0, 0⟩ : TOp))).toArray), some (.agg (cOp ((⟨4, o.fKey, o.fOther, o.fN, o.fLo, o.fHi⟩ : TOp))).toArray), some (.bool (may19 (⟨4, o.fKey, o.fOther, o.fN, o.fLo, o.fHi⟩ : TOp))), none, some (.bool (may19 (⟨4, o.fKey, o.fOther, o.fN, o.fLo, o.fHi⟩ : TOp)))] : List (Option Value)).getD q_ none, fun h_ => match h_ with
         | [] => fun vs_ => [bl b4 34 (cOp ((⟨o.fKind, o.fKey, ByteArray.empty, 0, 0, 0⟩ : TOp))), bl b2 34 zv8, bl b1 34 [.int .i64 4, .string o.fKey, .string o.fOther, .int .i64 o.fN, .int .i64 o.fLo, .int .i64 o.fHi], fz X w]
         | [3] => fun vs_ => [bl b4 34 (cOp ((⟨o.fKind, o.fKey, ByteArray.empty, 0, 0, 0⟩ : TOp))), bl b2 34 (cOp ((⟨o.fKind, o.fKey, ByteArray.empty, 0, 0, 0⟩ : TOp))), bl b1 34 [.int .i64 4, .string o.fKey, .string o.fOther, .int .i64 o.fN, .int .i64 o.fLo, .int .i64 o.fHi], fz X w]
         | _ => fun _ => [], [3], [[], [3]]⟩ (fun V => [bl b4 34 (cOp ((⟨o.fKind, o.fKey, ByteArray.empty, 0, 0, 0⟩ : TOp))), bl b2 34 (cOp ((⟨o.fKind, o.fKey, ByteArray.empty, 0, 0, 0⟩ : TOp))), bl b1 34 [.int .i64 4, .string o.fKey, .string o.fOther, .int .i64 o.fN, .int .i64 o.fLo, .int .i64 o.fHi], fz X w]) mixed rfl rfl (show AllP _ [[3]] from ⟨fun _ => rfl, trivial⟩) ?_ ?_
       ·
        exact ⟨fun V De _=>aP1 (ldM 0 (cOp ((⟨o.fKind, o.fKey, ByteArray.empty, 0, 0, 0⟩ : TOp))) G G row_34 G G<|oh G G G G),fun V De _=>aP2 (ldM 2 (cOp ((⟨4, o.fKey, o.fOther, o.fN, o.fLo, o.fHi⟩ : TOp))) G G row_34 G G<|oh G G G G) (ldM 2 (cOp ((⟨4, o.fKey, o.fOther, o.fN, o.fLo, o.fHi⟩ : TOp))) G G row_34 G G<|oh G G G G),fun V De _=>aP1 (cfv (may19_c ((⟨4, o.fKey, o.fOther, o.fN, o.fLo, o.fHi⟩ : TOp)) (⟨(show InI 4 from ⟨by decide, by decide⟩), (by first | assumption | decide | omega), (by first | assumption | decide | omega), h_o.2.2.2.1, h_o.2.2.2.2.1, h_o.2.2.2.2.2⟩)) ok_91 G Sn G<|oh G G G G),fun V De _=>aP1 (stW 1 (us := (cOp ((⟨o.fKind, o.fKey, ByteArray.empty, 0, 0, 0⟩ : TOp)))) G G G row_34 G G<|oh0 G G),fun V De _=>aP1 (asg G G<|oh G G G G),trivial⟩
       ·
        intro V _
        exact wkQ (L := [bl b4 34 (cOp ((⟨o.fKind, o.fKey, ByteArray.empty, 0, 0, 0⟩ : TOp))), bl b2 34 (cOp ((⟨o.fKind, o.fKey, ByteArray.empty, 0, 0, 0⟩ : TOp))), bl b1 34 [.int .i64 4, .string o.fKey, .string o.fOther, .int .i64 o.fN, .int .i64 o.fLo, .int .i64 o.fHi], fz X w]) [(2, _), (3, .bool (may19 (⟨4, o.fKey, o.fOther, o.fN, o.fLo, o.fHi⟩ : TOp)))] [] ⟨G, G, trivial⟩ Sn<|nx<|rt<|fRG () [_, _, _] (rCT 1 G G G G row_34) (by first | (exfalso; omega) | (unfold op22 opm; (repeat' split) <;> first | rfl | (exfalso; omega))) G Sn
      ·
       refine sk<|bN<|nx<|sq<|wkC [(1, _), (2, _), (4, _)] _ ⟨G, G, G, trivial⟩ Sr ?_
       refine rgH ⟨fun q_ => ([[], [], [1], [0], [2]] : List (List Nat)).getD q_ [], fun _ _ => True, fun _ _ => [], fun q_ => ([some (.agg (cOp ((⟨o.fKind, o.fKey, ByteArray.empty, 0, 0, 0⟩ : TOp))).toArray), some (.agg (cOp o).toArray), some (.bool (may19 o)), none, some (.bool (may19 o))] : List (Option Value)).getD q_ none, fun h_ => match h_ with
         | [] => fun vs_ => [bl b4 34 (cOp ((⟨o.fKind, o.fKey, ByteArray.empty, 0, 0, 0⟩ : TOp))), bl b2 34 zv8, bl b1 34 (cOp o), fz X w]
         | [3] => fun vs_ => [bl b4 34 (cOp ((⟨o.fKind, o.fKey, ByteArray.empty, 0, 0, 0⟩ : TOp))), bl b2 34 (cOp ((⟨o.fKind, o.fKey, ByteArray.empty, 0, 0, 0⟩ : TOp))), bl b1 34 (cOp o), fz X w]
         | _ => fun _ => [], [3], [[], [3]]⟩ (fun V => [bl b4 34 (cOp ((⟨o.fKind, o.fKey, ByteArray.empty, 0, 0, 0⟩ : TOp))), bl b2 34 (cOp ((⟨o.fKind, o.fKey, ByteArray.empty, 0, 0, 0⟩ : TOp))), bl b1 34 (cOp o), fz X w]) mixed rfl rfl (show AllP _ [[3]] from ⟨fun _ => rfl, trivial⟩) ?_ ?_
       ·
        exact ⟨fun V De _=>aP1 (ldM 0 (cOp ((⟨o.fKind, o.fKey, ByteArray.empty, 0, 0, 0⟩ : TOp))) G G row_34 G G<|oh G G G G),fun V De _=>aP2 (ldM 2 (cOp o) G G row_34 G G<|oh G G G G) (ldM 2 (cOp o) G G row_34 G G<|oh G G G G),fun V De _=>aP1 (cfv (may19_c _ h_o) ok_91 G Sn G<|oh G G G G),fun V De _=>aP1 (stW 1 (us := (cOp ((⟨o.fKind, o.fKey, ByteArray.empty, 0, 0, 0⟩ : TOp)))) G G G row_34 G G<|oh0 G G),fun V De _=>aP1 (asg G G<|oh G G G G),trivial⟩
       ·
        intro V _
        exact wkQ (L := [bl b4 34 (cOp ((⟨o.fKind, o.fKey, ByteArray.empty, 0, 0, 0⟩ : TOp))), bl b2 34 (cOp ((⟨o.fKind, o.fKey, ByteArray.empty, 0, 0, 0⟩ : TOp))), bl b1 34 (cOp o), fz X w]) [(2, _), (3, .bool (may19 o))] [] ⟨G, G, trivial⟩ Sn<|nx<|rt<|fRG () [_, _, _] (rCT 1 G G G G row_34) (by first | (exfalso; omega) | (unfold op22 opm; (repeat' split) <;> first | rfl | (exfalso; omega))) G Sn
     ·
      refine rg<|eqI G G G<|asg G G<|nl<|nx<|cdP G (fun h34 => ?_) (fun h34 => ?_)
      ·
       refine rg<|fa G fld_34_0 G<|stB 2 G G G one_3 G (Nat.lt_of_lt_of_le (Nat.lt_succ_self _) (Nat.le_of_ble_eq_true G))<|nl<|bN<|nx<|sq<|wkC [(1, _), (2, _), (4, _)] _ ⟨G, G, G, trivial⟩ Sr ?_
       refine rgH ⟨fun q_ => ([[], [], [1], [0], [2]] : List (List Nat)).getD q_ [], fun _ _ => True, fun _ _ => [], fun q_ => ([some (.agg (cOp ((⟨o.fKind, o.fKey, ByteArray.empty, 0, 0, 0⟩ : TOp))).toArray), some (.agg (cOp ((⟨4, o.fKey, o.fOther, o.fN, o.fLo, o.fHi⟩ : TOp))).toArray), some (.bool (may19 (⟨4, o.fKey, o.fOther, o.fN, o.fLo, o.fHi⟩ : TOp))), none, some (.bool (may19 (⟨4, o.fKey, o.fOther, o.fN, o.fLo, o.fHi⟩ : TOp)))] : List (Option Value)).getD q_ none, fun h_ => match h_ with
         | [] => fun vs_ => [bl b4 34 (cOp ((⟨o.fKind, o.fKey, ByteArray.empty, 0, 0, 0⟩ : TOp))), bl b2 34 zv8, bl b1 34 [.int .i64 4, .string o.fKey, .string o.fOther, .int .i64 o.fN, .int .i64 o.fLo, .int .i64 o.fHi], fz X w]
         | [3] => fun vs_ => [bl b4 34 (cOp ((⟨o.fKind, o.fKey, ByteArray.empty, 0, 0, 0⟩ : TOp))), bl b2 34 (cOp ((⟨o.fKind, o.fKey, ByteArray.empty, 0, 0, 0⟩ : TOp))), bl b1 34 [.int .i64 4, .string o.fKey, .string o.fOther, .int .i64 o.fN, .int .i64 o.fLo, .int .i64 o.fHi], fz X w]
         | _ => fun _ => [], [3], [[], [3]]⟩ (fun V => [bl b4 34 (cOp ((⟨o.fKind, o.fKey, ByteArray.empty, 0, 0, 0⟩ : TOp))), bl b2 34 (cOp ((⟨o.fKind, o.fKey, ByteArray.empty, 0, 0, 0⟩ : TOp))), bl b1 34 [.int .i64 4, .string o.fKey, .string o.fOther, .int .i64 o.fN, .int .i64 o.fLo, .int .i64 o.fHi], fz X w]) mixed rfl rfl (show AllP _ [[3]] from ⟨fun _ => rfl, trivial⟩) ?_ ?_
       ·
        exact ⟨fun V De _=>aP1 (ldM 0 (cOp ((⟨o.fKind, o.fKey, ByteArray.empty, 0, 0, 0⟩ : TOp))) G G row_34 G G<|oh G G G G),fun V De _=>aP2 (ldM 2 (cOp ((⟨4, o.fKey, o.fOther, o.fN, o.fLo, o.fHi⟩ : TOp))) G G row_34 G G<|oh G G G G) (ldM 2 (cOp ((⟨4, o.fKey, o.fOther, o.fN, o.fLo, o.fHi⟩ : TOp))) G G row_34 G G<|oh G G G G),fun V De _=>aP1 (cfv (may19_c ((⟨4, o.fKey, o.fOther, o.fN, o.fLo, o.fHi⟩ : TOp)) (⟨(show InI 4 from ⟨by decide, by decide⟩), (by first | assumption | decide | omega), (by first | assumption | decide | omega), h_o.2.2.2.1, h_o.2.2.2.2.1, h_o.2.2.2.2.2⟩)) ok_91 G Sn G<|oh G G G G),fun V De _=>aP1 (stW 1 (us := (cOp ((⟨o.fKind, o.fKey, ByteArray.empty, 0, 0, 0⟩ : TOp)))) G G G row_34 G G<|oh0 G G),fun V De _=>aP1 (asg G G<|oh G G G G),trivial⟩
       ·
        intro V _
        exact wkQ (L := [bl b4 34 (cOp ((⟨o.fKind, o.fKey, ByteArray.empty, 0, 0, 0⟩ : TOp))), bl b2 34 (cOp ((⟨o.fKind, o.fKey, ByteArray.empty, 0, 0, 0⟩ : TOp))), bl b1 34 [.int .i64 4, .string o.fKey, .string o.fOther, .int .i64 o.fN, .int .i64 o.fLo, .int .i64 o.fHi], fz X w]) [(2, _), (3, .bool (may19 (⟨4, o.fKey, o.fOther, o.fN, o.fLo, o.fHi⟩ : TOp)))] [] ⟨G, G, trivial⟩ Sn<|nx<|rt<|fRG () [_, _, _] (rCT 1 G G G G row_34) (by first | (exfalso; omega) | (unfold op22 opm; (repeat' split) <;> first | rfl | (exfalso; omega))) G Sn
      ·
       refine sk<|bN<|nx<|sq<|wkC [(1, _), (2, _), (4, _)] _ ⟨G, G, G, trivial⟩ Sr ?_
       refine rgH ⟨fun q_ => ([[], [], [1], [0], [2]] : List (List Nat)).getD q_ [], fun _ _ => True, fun _ _ => [], fun q_ => ([some (.agg (cOp ((⟨o.fKind, o.fKey, ByteArray.empty, 0, 0, 0⟩ : TOp))).toArray), some (.agg (cOp o).toArray), some (.bool (may19 o)), none, some (.bool (may19 o))] : List (Option Value)).getD q_ none, fun h_ => match h_ with
         | [] => fun vs_ => [bl b4 34 (cOp ((⟨o.fKind, o.fKey, ByteArray.empty, 0, 0, 0⟩ : TOp))), bl b2 34 zv8, bl b1 34 (cOp o), fz X w]
         | [3] => fun vs_ => [bl b4 34 (cOp ((⟨o.fKind, o.fKey, ByteArray.empty, 0, 0, 0⟩ : TOp))), bl b2 34 (cOp ((⟨o.fKind, o.fKey, ByteArray.empty, 0, 0, 0⟩ : TOp))), bl b1 34 (cOp o), fz X w]
         | _ => fun _ => [], [3], [[], [3]]⟩ (fun V => [bl b4 34 (cOp ((⟨o.fKind, o.fKey, ByteArray.empty, 0, 0, 0⟩ : TOp))), bl b2 34 (cOp ((⟨o.fKind, o.fKey, ByteArray.empty, 0, 0, 0⟩ : TOp))), bl b1 34 (cOp o), fz X w]) mixed rfl rfl (show AllP _ [[3]] from ⟨fun _ => rfl, trivial⟩) ?_ ?_
       ·
        exact ⟨fun V De _=>aP1 (ldM 0 (cOp ((⟨o.fKind, o.fKey, ByteArray.empty, 0, 0, 0⟩ : TOp))) G G row_34 G G<|oh G G G G),fun V De _=>aP2 (ldM 2 (cOp o) G G row_34 G G<|oh G G G G) (ldM 2 (cOp o) G G row_34 G G<|oh G G G G),fun V De _=>aP1 (cfv (may19_c _ h_o) ok_91 G Sn G<|oh G G G G),fun V De _=>aP1 (stW 1 (us := (cOp ((⟨o.fKind, o.fKey, ByteArray.empty, 0, 0, 0⟩ : TOp)))) G G G row_34 G G<|oh0 G G),fun V De _=>aP1 (asg G G<|oh G G G G),trivial⟩
       ·
        intro V _
        exact wkQ (L := [bl b4 34 (cOp ((⟨o.fKind, o.fKey, ByteArray.empty, 0, 0, 0⟩ : TOp))), bl b2 34 (cOp ((⟨o.fKind, o.fKey, ByteArray.empty, 0, 0, 0⟩ : TOp))), bl b1 34 (cOp o), fz X w]) [(2, _), (3, .bool (may19 o))] [] ⟨G, G, trivial⟩ Sn<|nx<|rt<|fRG () [_, _, _] (rCT 1 G G G G row_34) (by first | (exfalso; omega) | (unfold op22 opm; (repeat' split) <;> first | rfl | (exfalso; omega))) G Sn
 ·
  refine rg<|eqI G G G<|asg G G<|nl<|nx<|cdP G (fun h12 => ?_) (fun h12 => ?_)
  ·
   refine rg<|fa G fld_34_3 G<|ldB 2 G G one_3 G G<|fa G fld_34_3 G<|stB 0 G G G one_3 G (Nat.lt_of_lt_of_le (Nat.lt_succ_self _) (Nat.le_of_ble_eq_true G))<|nl<|bN<|nx<|sq<|wkC [(1, _), (2, _), (4, _)] _ ⟨G, G, G, trivial⟩ Sr ?_
   refine rgH ⟨fun q_ => ([[], [], [1], [0], [2]] : List (List Nat)).getD q_ [], fun _ _ => True, fun _ _ => [], fun q_ => ([some (.agg (cOp ((⟨o.fKind, o.fKey, ByteArray.empty, o.fN, 0, 0⟩ : TOp))).toArray), some (.agg (cOp o).toArray), some (.bool (may19 o)), none, some (.bool (may19 o))] : List (Option Value)).getD q_ none, fun h_ => match h_ with
     | [] => fun vs_ => [bl b4 34 [.int .i64 (o.fKind), .string o.fKey, .string ByteArray.empty, .int .i64 o.fN, .int .i64 (0), .int .i64 (0)], bl b2 34 zv8, bl b1 34 (cOp o), fz X w]
     | [3] => fun vs_ => [bl b4 34 [.int .i64 (o.fKind), .string o.fKey, .string ByteArray.empty, .int .i64 o.fN, .int .i64 (0), .int .i64 (0)], bl b2 34 (cOp ((⟨o.fKind, o.fKey, ByteArray.empty, o.fN, 0, 0⟩ : TOp))), bl b1 34 (cOp o), fz X w]
     | _ => fun _ => [], [3], [[], [3]]⟩ (fun V => [bl b4 34 [.int .i64 (o.fKind), .string o.fKey, .string ByteArray.empty, .int .i64 o.fN, .int .i64 (0), .int .i64 (0)], bl b2 34 (cOp ((⟨o.fKind, o.fKey, ByteArray.empty, o.fN, 0, 0⟩ : TOp))), bl b1 34 (cOp o), fz X w]) mixed rfl rfl (show AllP _ [[3]] from ⟨fun _ => rfl, trivial⟩) ?_ ?_
   ·
    exact ⟨fun V De _=>aP1 (ldM 0 (cOp ((⟨o.fKind, o.fKey, ByteArray.empty, o.fN, 0, 0⟩ : TOp))) G G row_34 G G<|oh G G G G),fun V De _=>aP2 (ldM 2 (cOp o) G G row_34 G G<|oh G G G G) (ldM 2 (cOp o) G G row_34 G G<|oh G G G G),fun V De _=>aP1 (cfv (may19_c _ h_o) ok_91 G Sn G<|oh G G G G),fun V De _=>aP1 (stW 1 (us := (cOp ((⟨o.fKind, o.fKey, ByteArray.empty, o.fN, 0, 0⟩ : TOp)))) G G G row_34 G G<|oh0 G G),fun V De _=>aP1 (asg G G<|oh G G G G),trivial⟩
   ·
    intro V _
    exact wkQ (L := [bl b4 34 [.int .i64 (o.fKind), .string o.fKey, .string ByteArray.empty, .int .i64 o.fN, .int .i64 (0), .int .i64 (0)], bl b2 34 (cOp ((⟨o.fKind, o.fKey, ByteArray.empty, o.fN, 0, 0⟩ : TOp))), bl b1 34 (cOp o), fz X w]) [(2, _), (3, .bool (may19 o))] [] ⟨G, G, trivial⟩ Sn<|nx<|rt<|fRG () [_, _, _] (rCT 1 G G G G row_34) (by first | (exfalso; omega) | (unfold op22 opm; (repeat' split) <;> first | rfl | (exfalso; omega))) G Sn
  ·
   refine sq<|rg<|eqI G G G<|asg G G<|nl<|nx<|cdP G (fun h18 => ?_) (fun h18 => ?_)
   ·
    refine rgH ⟨fun q_ => ([[], [0], [], [2], [], [4, 1], [], [6, 3]] : List (List Nat)).getD q_ [], fun _ _ => True, fun _ _ => [], fun q_ => ([some (.pointer (some ⟨b1, 4, none⟩)), some (.int .i64 o.fLo), some (.pointer (some ⟨b1, 5, none⟩)), some (.int .i64 o.fHi), some (.pointer (some ⟨b4, 4, none⟩)), none, some (.pointer (some ⟨b4, 5, none⟩)), none] : List (Option Value)).getD q_ none, fun h_ => match h_ with
      | [] => fun vs_ => [bl b4 34 (cOp ((⟨o.fKind, o.fKey, ByteArray.empty, 0, 0, 0⟩ : TOp))), bl b2 34 zv8, bl b1 34 (cOp o), fz X w]
      | [5] => fun vs_ => [bl b4 34 [.int .i64 (o.fKind), .string o.fKey, .string ByteArray.empty, .int .i64 (0), .int .i64 o.fLo, .int .i64 (0)], bl b2 34 zv8, bl b1 34 (cOp o), fz X w]
      | [5, 7] => fun vs_ => [bl b4 34 [.int .i64 (o.fKind), .string o.fKey, .string ByteArray.empty, .int .i64 (0), .int .i64 o.fLo, .int .i64 o.fHi], bl b2 34 zv8, bl b1 34 (cOp o), fz X w]
      | _ => fun _ => [], [5, 7], [[], [5], [5, 7]]⟩ (fun V => [bl b4 34 [.int .i64 (o.fKind), .string o.fKey, .string ByteArray.empty, .int .i64 (0), .int .i64 o.fLo, .int .i64 o.fHi], bl b2 34 zv8, bl b1 34 (cOp o), fz X w]) mixed rfl rfl (show AllP _ [[5, 7]] from ⟨fun _ => rfl, trivial⟩) ?_ ?_
    ·
     exact ⟨fun V De _=>aP1 (fa G fld_34_4 G<|oh G G G G),fun V De _=>aP1 (ldB 2 G G one_3 G G<|oh G G G G),fun V De _=>aP2 (fa G fld_34_5 G<|oh G G G G) (fa G fld_34_5 G<|oh G G G G),fun V De _=>aP2 (ldB 2 G G one_3 G G<|oh G G G G) (ldB 2 G G one_3 G G<|oh G G G G),fun V De _=>aP1 (fa G fld_34_4 G<|oh G G G G),fun V De _=>aP1 (stB 0 G G G one_3 G (Nat.lt_of_lt_of_le (Nat.lt_succ_self _) (Nat.le_of_ble_eq_true G))<|oh0 G G),fun V De _=>aP1 (fa G fld_34_5 G<|oh G G G G),fun V De _=>aP1 (stB 0 G G G one_3 G (Nat.lt_of_lt_of_le (Nat.lt_succ_self _) (Nat.le_of_ble_eq_true G))<|oh0 G G),trivial⟩
    ·
     intro V _
     refine wkQ (L := [bl b4 34 [.int .i64 (o.fKind), .string o.fKey, .string ByteArray.empty, .int .i64 (0), .int .i64 o.fLo, .int .i64 o.fHi], bl b2 34 zv8, bl b1 34 (cOp o), fz X w]) [(1, _), (2, _), (4, _)] [] ⟨G, G, G, trivial⟩ Sn<|bN<|nx<|sq ?_
     refine rgH ⟨fun q_ => ([[], [], [1], [0], [2]] : List (List Nat)).getD q_ [], fun _ _ => True, fun _ _ => [], fun q_ => ([some (.agg (cOp ((⟨o.fKind, o.fKey, ByteArray.empty, 0, o.fLo, o.fHi⟩ : TOp))).toArray), some (.agg (cOp o).toArray), some (.bool (may19 o)), none, some (.bool (may19 o))] : List (Option Value)).getD q_ none, fun h_ => match h_ with
       | [] => fun vs_ => [bl b4 34 [.int .i64 (o.fKind), .string o.fKey, .string ByteArray.empty, .int .i64 (0), .int .i64 o.fLo, .int .i64 o.fHi], bl b2 34 zv8, bl b1 34 (cOp o), fz X w]
       | [3] => fun vs_ => [bl b4 34 [.int .i64 (o.fKind), .string o.fKey, .string ByteArray.empty, .int .i64 (0), .int .i64 o.fLo, .int .i64 o.fHi], bl b2 34 (cOp ((⟨o.fKind, o.fKey, ByteArray.empty, 0, o.fLo, o.fHi⟩ : TOp))), bl b1 34 (cOp o), fz X w]
       | _ => fun _ => [], [3], [[], [3]]⟩ (fun V => [bl b4 34 [.int .i64 (o.fKind), .string o.fKey, .string ByteArray.empty, .int .i64 (0), .int .i64 o.fLo, .int .i64 o.fHi], bl b2 34 (cOp ((⟨o.fKind, o.fKey, ByteArray.empty, 0, o.fLo, o.fHi⟩ : TOp))), bl b1 34 (cOp o), fz X w]) mixed rfl rfl (show AllP _ [[3]] from ⟨fun _ => rfl, trivial⟩) ?_ ?_
     ·
      exact ⟨fun V De _=>aP1 (ldM 0 (cOp ((⟨o.fKind, o.fKey, ByteArray.empty, 0, o.fLo, o.fHi⟩ : TOp))) G G row_34 G G<|oh G G G G),fun V De _=>aP2 (ldM 2 (cOp o) G G row_34 G G<|oh G G G G) (ldM 2 (cOp o) G G row_34 G G<|oh G G G G),fun V De _=>aP1 (cfv (may19_c _ h_o) ok_91 G Sn G<|oh G G G G),fun V De _=>aP1 (stW 1 (us := (cOp ((⟨o.fKind, o.fKey, ByteArray.empty, 0, o.fLo, o.fHi⟩ : TOp)))) G G G row_34 G G<|oh0 G G),fun V De _=>aP1 (asg G G<|oh G G G G),trivial⟩
     ·
      intro V _
      exact wkQ (L := [bl b4 34 [.int .i64 (o.fKind), .string o.fKey, .string ByteArray.empty, .int .i64 (0), .int .i64 o.fLo, .int .i64 o.fHi], bl b2 34 (cOp ((⟨o.fKind, o.fKey, ByteArray.empty, 0, o.fLo, o.fHi⟩ : TOp))), bl b1 34 (cOp o), fz X w]) [(2, _), (3, .bool (may19 o))] [] ⟨G, G, trivial⟩ Sn<|nx<|rt<|fRG () [_, _, _] (rCT 1 G G G G row_34) (by first | (exfalso; omega) | (unfold op22 opm; (repeat' split) <;> first | rfl | (exfalso; omega))) G Sn
   ·
    refine sq<|rg<|eqI G G G<|asg G G<|nl<|nx<|cdP G (fun h26 => ?_) (fun h26 => ?_)
    ·
     refine rgH ⟨fun q_ => ([[], [0], [], [2], [], [4, 1], [], [6, 3]] : List (List Nat)).getD q_ [], fun _ _ => True, fun _ _ => [], fun q_ => ([some (.pointer (some ⟨b1, 2, none⟩)), some (.string o.fOther), some (.pointer (some ⟨b1, 3, none⟩)), some (.int .i64 o.fN), some (.pointer (some ⟨b4, 2, none⟩)), none, some (.pointer (some ⟨b4, 3, none⟩)), none] : List (Option Value)).getD q_ none, fun h_ => match h_ with
       | [] => fun vs_ => [bl b4 34 (cOp ((⟨o.fKind, o.fKey, ByteArray.empty, 0, 0, 0⟩ : TOp))), bl b2 34 zv8, bl b1 34 (cOp o), fz X w]
       | [5] => fun vs_ => [bl b4 34 [.int .i64 (o.fKind), .string o.fKey, .string o.fOther, .int .i64 (0), .int .i64 (0), .int .i64 (0)], bl b2 34 zv8, bl b1 34 (cOp o), fz X w]
       | [5, 7] => fun vs_ => [bl b4 34 [.int .i64 (o.fKind), .string o.fKey, .string o.fOther, .int .i64 o.fN, .int .i64 (0), .int .i64 (0)], bl b2 34 zv8, bl b1 34 (cOp o), fz X w]
       | _ => fun _ => [], [5, 7], [[], [5], [5, 7]]⟩ (fun V => [bl b4 34 [.int .i64 (o.fKind), .string o.fKey, .string o.fOther, .int .i64 o.fN, .int .i64 (0), .int .i64 (0)], bl b2 34 zv8, bl b1 34 (cOp o), fz X w]) mixed rfl rfl (show AllP _ [[5, 7]] from ⟨fun _ => rfl, trivial⟩) ?_ ?_
     ·
      exact ⟨fun V De _=>aP1 (fa G fld_34_2 G<|oh G G G G),fun V De _=>aP1 (ldB 2 G G one_9 G G<|oh G G G G),fun V De _=>aP2 (fa G fld_34_3 G<|oh G G G G) (fa G fld_34_3 G<|oh G G G G),fun V De _=>aP2 (ldB 2 G G one_3 G G<|oh G G G G) (ldB 2 G G one_3 G G<|oh G G G G),fun V De _=>aP1 (fa G fld_34_2 G<|oh G G G G),fun V De _=>aP1 (stB 0 G G G one_9 G (Nat.lt_of_lt_of_le (Nat.lt_succ_self _) (Nat.le_of_ble_eq_true G))<|oh0 G G),fun V De _=>aP1 (fa G fld_34_3 G<|oh G G G G),fun V De _=>aP1 (stB 0 G G G one_3 G (Nat.lt_of_lt_of_le (Nat.lt_succ_self _) (Nat.le_of_ble_eq_true G))<|oh0 G G),trivial⟩
     ·
      intro V _
      refine wkQ (L := [bl b4 34 [.int .i64 (o.fKind), .string o.fKey, .string o.fOther, .int .i64 o.fN, .int .i64 (0), .int .i64 (0)], bl b2 34 zv8, bl b1 34 (cOp o), fz X w]) [(1, _), (2, _), (4, _)] [] ⟨G, G, G, trivial⟩ Sn<|bN<|nx<|sq ?_
      refine rgH ⟨fun q_ => ([[], [], [1], [0], [2]] : List (List Nat)).getD q_ [], fun _ _ => True, fun _ _ => [], fun q_ => ([some (.agg (cOp ((⟨o.fKind, o.fKey, o.fOther, o.fN, 0, 0⟩ : TOp))).toArray), some (.agg (cOp o).toArray), some (.bool (may19 o)), none, some (.bool (may19 o))] : List (Option Value)).getD q_ none, fun h_ => match h_ with
        | [] => fun vs_ => [bl b4 34 [.int .i64 (o.fKind), .string o.fKey, .string o.fOther, .int .i64 o.fN, .int .i64 (0), .int .i64 (0)], bl b2 34 zv8, bl b1 34 (cOp o), fz X w]
        | [3] => fun vs_ => [bl b4 34 [.int .i64 (o.fKind), .string o.fKey, .string o.fOther, .int .i64 o.fN, .int .i64 (0), .int .i64 (0)], bl b2 34 (cOp ((⟨o.fKind, o.fKey, o.fOther, o.fN, 0, 0⟩ : TOp))), bl b1 34 (cOp o), fz X w]
        | _ => fun _ => [], [3], [[], [3]]⟩ (fun V => [bl b4 34 [.int .i64 (o.fKind), .string o.fKey, .string o.fOther, .int .i64 o.fN, .int .i64 (0), .int .i64 (0)], bl b2 34 (cOp ((⟨o.fKind, o.fKey, o.fOther, o.fN, 0, 0⟩ : TOp))), bl b1 34 (cOp o), fz X w]) mixed rfl rfl (show AllP _ [[3]] from ⟨fun _ => rfl, trivial⟩) ?_ ?_
      ·
       exact ⟨fun V De _=>aP1 (ldM 0 (cOp ((⟨o.fKind, o.fKey, o.fOther, o.fN, 0, 0⟩ : TOp))) G G row_34 G G<|oh G G G G),fun V De _=>aP2 (ldM 2 (cOp o) G G row_34 G G<|oh G G G G) (ldM 2 (cOp o) G G row_34 G G<|oh G G G G),fun V De _=>aP1 (cfv (may19_c _ h_o) ok_91 G Sn G<|oh G G G G),fun V De _=>aP1 (stW 1 (us := (cOp ((⟨o.fKind, o.fKey, o.fOther, o.fN, 0, 0⟩ : TOp)))) G G G row_34 G G<|oh0 G G),fun V De _=>aP1 (asg G G<|oh G G G G),trivial⟩
      ·
       intro V _
       exact wkQ (L := [bl b4 34 [.int .i64 (o.fKind), .string o.fKey, .string o.fOther, .int .i64 o.fN, .int .i64 (0), .int .i64 (0)], bl b2 34 (cOp ((⟨o.fKind, o.fKey, o.fOther, o.fN, 0, 0⟩ : TOp))), bl b1 34 (cOp o), fz X w]) [(2, _), (3, .bool (may19 o))] [] ⟨G, G, trivial⟩ Sn<|nx<|rt<|fRG () [_, _, _] (rCT 1 G G G G row_34) (by first | (exfalso; omega) | (unfold op22 opm; (repeat' split) <;> first | rfl | (exfalso; omega))) G Sn
    ·
     refine sq<|sq<|rg<|eqI G G G<|asg G G<|nl<|nx<|cdP G (fun h34 => ?_) (fun h34 => ?_)
     ·
      refine sk<|nx<|cdP G (fun h34 => ?_) (fun h34 => ?_)
      ·
       refine rg<|fa G fld_34_0 G<|stB 2 G G G one_3 G (Nat.lt_of_lt_of_le (Nat.lt_succ_self _) (Nat.le_of_ble_eq_true G))<|nl<|bN<|nx<|sq<|wkC [(1, _), (2, _), (4, _)] _ ⟨G, G, G, trivial⟩ Sr ?_
       refine rgH ⟨fun q_ => ([[], [], [1], [0], [2]] : List (List Nat)).getD q_ [], fun _ _ => True, fun _ _ => [], fun q_ => ([some (.agg (cOp ((⟨o.fKind, o.fKey, ByteArray.empty, 0, 0, 0⟩ : TOp))).toArray), some (.agg (cOp ((⟨4, o.fKey, o.fOther, o.fN, o.fLo, o.fHi⟩ : TOp))).toArray), some (.bool (may19 (⟨4, o.fKey, o.fOther, o.fN, o.fLo, o.fHi⟩ : TOp))), none, some (.bool (may19 (⟨4, o.fKey, o.fOther, o.fN, o.fLo, o.fHi⟩ : TOp)))] : List (Option Value)).getD q_ none, fun h_ => match h_ with
         | [] => fun vs_ => [bl b4 34 (cOp ((⟨o.fKind, o.fKey, ByteArray.empty, 0, 0, 0⟩ : TOp))), bl b2 34 zv8, bl b1 34 [.int .i64 4, .string o.fKey, .string o.fOther, .int .i64 o.fN, .int .i64 o.fLo, .int .i64 o.fHi], fz X w]
         | [3] => fun vs_ => [bl b4 34 (cOp ((⟨o.fKind, o.fKey, ByteArray.empty, 0, 0, 0⟩ : TOp))), bl b2 34 (cOp ((⟨o.fKind, o.fKey, ByteArray.empty, 0, 0, 0⟩ : TOp))), bl b1 34 [.int .i64 4, .string o.fKey, .string o.fOther, .int .i64 o.fN, .int .i64 o.fLo, .int .i64 o.fHi], fz X w]
         | _ => fun _ => [], [3], [[], [3]]⟩ (fun V => [bl b4 34 (cOp ((⟨o.fKind, o.fKey, ByteArray.empty, 0, 0, 0⟩ : TOp))), bl b2 34 (cOp ((⟨o.fKind, o.fKey, ByteArray.empty, 0, 0, 0⟩ : TOp))), bl b1 34 [.int .i64 4, .string o.fKey, .string o.fOther, .int .i64 o.fN, .int .i64 o.fLo, .int .i64 o.fHi], fz X w]) mixed rfl rfl (show AllP _ [[3]] from ⟨fun _ => rfl, trivial⟩) ?_ ?_
       ·
        exact ⟨fun V De _=>aP1 (ldM 0 (cOp ((⟨o.fKind, o.fKey, ByteArray.empty, 0, 0, 0⟩ : TOp))) G G row_34 G G<|oh G G G G),fun V De _=>aP2 (ldM 2 (cOp ((⟨4, o.fKey, o.fOther, o.fN, o.fLo, o.fHi⟩ : TOp))) G G row_34 G G<|oh G G G G) (ldM 2 (cOp ((⟨4, o.fKey, o.fOther, o.fN, o.fLo, o.fHi⟩ : TOp))) G G row_34 G G<|oh G G G G),fun V De _=>aP1 (cfv (may19_c ((⟨4, o.fKey, o.fOther, o.fN, o.fLo, o.fHi⟩ : TOp)) (⟨(show InI 4 from ⟨by decide, by decide⟩), (by first | assumption | decide | omega), (by first | assumption | decide | omega), h_o.2.2.2.1, h_o.2.2.2.2.1, h_o.2.2.2.2.2⟩)) ok_91 G Sn G<|oh G G G G),fun V De _=>aP1 (stW 1 (us := (cOp ((⟨o.fKind, o.fKey, ByteArray.empty, 0, 0, 0⟩ : TOp)))) G G G row_34 G G<|oh0 G G),fun V De _=>aP1 (asg G G<|oh G G G G),trivial⟩
       ·
        intro V _
        exact wkQ (L := [bl b4 34 (cOp ((⟨o.fKind, o.fKey, ByteArray.empty, 0, 0, 0⟩ : TOp))), bl b2 34 (cOp ((⟨o.fKind, o.fKey, ByteArray.empty, 0, 0, 0⟩ : TOp))), bl b1 34 [.int .i64 4, .string o.fKey, .string o.fOther, .int .i64 o.fN, .int .i64 o.fLo, .int .i64 o.fHi], fz X w]) [(2, _), (3, .bool (may19 (⟨4, o.fKey, o.fOther, o.fN, o.fLo, o.fHi⟩ : TOp)))] [] ⟨G, G, trivial⟩ Sn<|nx<|rt<|fRG () [_, _, _] (rCT 1 G G G G row_34) (by first | (exfalso; omega) | (unfold op22 opm; (repeat' split) <;> first | rfl | (exfalso; omega))) G Sn
      ·
       refine sk<|bN<|nx<|sq<|wkC [(1, _), (2, _), (4, _)] _ ⟨G, G, G, trivial⟩ Sr ?_
       refine rgH ⟨fun q_ => ([[], [], [1], [0], [2]] : List (List Nat)).getD q_ [], fun _ _ => True, fun _ _ => [], fun q_ => ([some (.agg (cOp ((⟨o.fKind, o.fKey, ByteArray.empty, 0, 0, 0⟩ : TOp))).toArray), some (.agg (cOp o).toArray), some (.bool (may19 o)), none, some (.bool (may19 o))] : List (Option Value)).getD q_ none, fun h_ => match h_ with
         | [] => fun vs_ => [bl b4 34 (cOp ((⟨o.fKind, o.fKey, ByteArray.empty, 0, 0, 0⟩ : TOp))), bl b2 34 zv8, bl b1 34 (cOp o), fz X w]
         | [3] => fun vs_ => [bl b4 34 (cOp ((⟨o.fKind, o.fKey, ByteArray.empty, 0, 0, 0⟩ : TOp))), bl b2 34 (cOp ((⟨o.fKind, o.fKey, ByteArray.empty, 0, 0, 0⟩ : TOp))), bl b1 34 (cOp o), fz X w]
         | _ => fun _ => [], [3], [[], [3]]⟩ (fun V => [bl b4 34 (cOp ((⟨o.fKind, o.fKey, ByteArray.empty, 0, 0, 0⟩ : TOp))), bl b2 34 (cOp ((⟨o.fKind, o.fKey, ByteArray.empty, 0, 0, 0⟩ : TOp))), bl b1 34 (cOp o), fz X w]) mixed rfl rfl (show AllP _ [[3]] from ⟨fun _ => rfl, trivial⟩) ?_ ?_
       ·
        exact ⟨fun V De _=>aP1 (ldM 0 (cOp ((⟨o.fKind, o.fKey, ByteArray.empty, 0, 0, 0⟩ : TOp))) G G row_34 G G<|oh G G G G),fun V De _=>aP2 (ldM 2 (cOp o) G G row_34 G G<|oh G G G G) (ldM 2 (cOp o) G G row_34 G G<|oh G G G G),fun V De _=>aP1 (cfv (may19_c _ h_o) ok_91 G Sn G<|oh G G G G),fun V De _=>aP1 (stW 1 (us := (cOp ((⟨o.fKind, o.fKey, ByteArray.empty, 0, 0, 0⟩ : TOp)))) G G G row_34 G G<|oh0 G G),fun V De _=>aP1 (asg G G<|oh G G G G),trivial⟩
       ·
        intro V _
        exact wkQ (L := [bl b4 34 (cOp ((⟨o.fKind, o.fKey, ByteArray.empty, 0, 0, 0⟩ : TOp))), bl b2 34 (cOp ((⟨o.fKind, o.fKey, ByteArray.empty, 0, 0, 0⟩ : TOp))), bl b1 34 (cOp o), fz X w]) [(2, _), (3, .bool (may19 o))] [] ⟨G, G, trivial⟩ Sn<|nx<|rt<|fRG () [_, _, _] (rCT 1 G G G G row_34) (by first | (exfalso; omega) | (unfold op22 opm; (repeat' split) <;> first | rfl | (exfalso; omega))) G Sn
     ·
      refine rg<|eqI G G G<|asg G G<|nl<|nx<|cdP G (fun h34 => ?_) (fun h34 => ?_)
      ·
       refine rg<|fa G fld_34_0 G<|stB 2 G G G one_3 G (Nat.lt_of_lt_of_le (Nat.lt_succ_self _) (Nat.le_of_ble_eq_true G))<|nl<|bN<|nx<|sq<|wkC [(1, _), (2, _), (4, _)] _ ⟨G, G, G, trivial⟩ Sr ?_
       refine rgH ⟨fun q_ => ([[], [], [1], [0], [2]] : List (List Nat)).getD q_ [], fun _ _ => True, fun _ _ => [], fun q_ => ([some (.agg (cOp ((⟨o.fKind, o.fKey, ByteArray.empty, 0, 0, 0⟩ : TOp))).toArray), some (.agg (cOp ((⟨4, o.fKey, o.fOther, o.fN, o.fLo, o.fHi⟩ : TOp))).toArray), some (.bool (may19 (⟨4, o.fKey, o.fOther, o.fN, o.fLo, o.fHi⟩ : TOp))), none, some (.bool (may19 (⟨4, o.fKey, o.fOther, o.fN, o.fLo, o.fHi⟩ : TOp)))] : List (Option Value)).getD q_ none, fun h_ => match h_ with
         | [] => fun vs_ => [bl b4 34 (cOp ((⟨o.fKind, o.fKey, ByteArray.empty, 0, 0, 0⟩ : TOp))), bl b2 34 zv8, bl b1 34 [.int .i64 4, .string o.fKey, .string o.fOther, .int .i64 o.fN, .int .i64 o.fLo, .int .i64 o.fHi], fz X w]
         | [3] => fun vs_ => [bl b4 34 (cOp ((⟨o.fKind, o.fKey, ByteArray.empty, 0, 0, 0⟩ : TOp))), bl b2 34 (cOp ((⟨o.fKind, o.fKey, ByteArray.empty, 0, 0, 0⟩ : TOp))), bl b1 34 [.int .i64 4, .string o.fKey, .string o.fOther, .int .i64 o.fN, .int .i64 o.fLo, .int .i64 o.fHi], fz X w]
         | _ => fun _ => [], [3], [[], [3]]⟩ (fun V => [bl b4 34 (cOp ((⟨o.fKind, o.fKey, ByteArray.empty, 0, 0, 0⟩ : TOp))), bl b2 34 (cOp ((⟨o.fKind, o.fKey, ByteArray.empty, 0, 0, 0⟩ : TOp))), bl b1 34 [.int .i64 4, .string o.fKey, .string o.fOther, .int .i64 o.fN, .int .i64 o.fLo, .int .i64 o.fHi], fz X w]) mixed rfl rfl (show AllP _ [[3]] from ⟨fun _ => rfl, trivial⟩) ?_ ?_
       ·
        exact ⟨fun V De _=>aP1 (ldM 0 (cOp ((⟨o.fKind, o.fKey, ByteArray.empty, 0, 0, 0⟩ : TOp))) G G row_34 G G<|oh G G G G),fun V De _=>aP2 (ldM 2 (cOp ((⟨4, o.fKey, o.fOther, o.fN, o.fLo, o.fHi⟩ : TOp))) G G row_34 G G<|oh G G G G) (ldM 2 (cOp ((⟨4, o.fKey, o.fOther, o.fN, o.fLo, o.fHi⟩ : TOp))) G G row_34 G G<|oh G G G G),fun V De _=>aP1 (cfv (may19_c ((⟨4, o.fKey, o.fOther, o.fN, o.fLo, o.fHi⟩ : TOp)) (⟨(show InI 4 from ⟨by decide, by decide⟩), (by first | assumption | decide | omega), (by first | assumption | decide | omega), h_o.2.2.2.1, h_o.2.2.2.2.1, h_o.2.2.2.2.2⟩)) ok_91 G Sn G<|oh G G G G),fun V De _=>aP1 (stW 1 (us := (cOp ((⟨o.fKind, o.fKey, ByteArray.empty, 0, 0, 0⟩ : TOp)))) G G G row_34 G G<|oh0 G G),fun V De _=>aP1 (asg G G<|oh G G G G),trivial⟩
       ·
        intro V _
        exact wkQ (L := [bl b4 34 (cOp ((⟨o.fKind, o.fKey, ByteArray.empty, 0, 0, 0⟩ : TOp))), bl b2 34 (cOp ((⟨o.fKind, o.fKey, ByteArray.empty, 0, 0, 0⟩ : TOp))), bl b1 34 [.int .i64 4, .string o.fKey, .string o.fOther, .int .i64 o.fN, .int .i64 o.fLo, .int .i64 o.fHi], fz X w]) [(2, _), (3, .bool (may19 (⟨4, o.fKey, o.fOther, o.fN, o.fLo, o.fHi⟩ : TOp)))] [] ⟨G, G, trivial⟩ Sn<|nx<|rt<|fRG () [_, _, _] (rCT 1 G G G G row_34) (by first | (exfalso; omega) | (unfold op22 opm; (repeat' split) <;> first | rfl | (exfalso; omega))) G Sn
      ·
       refine sk<|bN<|nx<|sq<|wkC [(1, _), (2, _), (4, _)] _ ⟨G, G, G, trivial⟩ Sr ?_
       refine rgH ⟨fun q_ => ([[], [], [1], [0], [2]] : List (List Nat)).getD q_ [], fun _ _ => True, fun _ _ => [], fun q_ => ([some (.agg (cOp ((⟨o.fKind, o.fKey, ByteArray.empty, 0, 0, 0⟩ : TOp))).toArray), some (.agg (cOp o).toArray), some (.bool (may19 o)), none, some (.bool (may19 o))] : List (Option Value)).getD q_ none, fun h_ => match h_ with
         | [] => fun vs_ => [bl b4 34 (cOp ((⟨o.fKind, o.fKey, ByteArray.empty, 0, 0, 0⟩ : TOp))), bl b2 34 zv8, bl b1 34 (cOp o), fz X w]
         | [3] => fun vs_ => [bl b4 34 (cOp ((⟨o.fKind, o.fKey, ByteArray.empty, 0, 0, 0⟩ : TOp))), bl b2 34 (cOp ((⟨o.fKind, o.fKey, ByteArray.empty, 0, 0, 0⟩ : TOp))), bl b1 34 (cOp o), fz X w]
         | _ => fun _ => [], [3], [[], [3]]⟩ (fun V => [bl b4 34 (cOp ((⟨o.fKind, o.fKey, ByteArray.empty, 0, 0, 0⟩ : TOp))), bl b2 34 (cOp ((⟨o.fKind, o.fKey, ByteArray.empty, 0, 0, 0⟩ : TOp))), bl b1 34 (cOp o), fz X w]) mixed rfl rfl (show AllP _ [[3]] from ⟨fun _ => rfl, trivial⟩) ?_ ?_
       ·
        exact ⟨fun V De _=>aP1 (ldM 0 (cOp ((⟨o.fKind, o.fKey, ByteArray.empty, 0, 0, 0⟩ : TOp))) G G row_34 G G<|oh G G G G),fun V De _=>aP2 (ldM 2 (cOp o) G G row_34 G G<|oh G G G G) (ldM 2 (cOp o) G G row_34 G G<|oh G G G G),fun V De _=>aP1 (cfv (may19_c _ h_o) ok_91 G Sn G<|oh G G G G),fun V De _=>aP1 (stW 1 (us := (cOp ((⟨o.fKind, o.fKey, ByteArray.empty, 0, 0, 0⟩ : TOp)))) G G G row_34 G G<|oh0 G G),fun V De _=>aP1 (asg G G<|oh G G G G),trivial⟩
       ·
        intro V _
        exact wkQ (L := [bl b4 34 (cOp ((⟨o.fKind, o.fKey, ByteArray.empty, 0, 0, 0⟩ : TOp))), bl b2 34 (cOp ((⟨o.fKind, o.fKey, ByteArray.empty, 0, 0, 0⟩ : TOp))), bl b1 34 (cOp o), fz X w]) [(2, _), (3, .bool (may19 o))] [] ⟨G, G, trivial⟩ Sn<|nx<|rt<|fRG () [_, _, _] (rCT 1 G G G G row_34) (by first | (exfalso; omega) | (unfold op22 opm; (repeat' split) <;> first | rfl | (exfalso; omega))) G Sn

theorem plain_c (o : TOp) (h_o : o.wf) : FnV Tryz.prog 34 [.agg (cOp o).toArray] [] (.tuple #[.agg (cOp (plainO o)).toArray, .bool (plainB o)]) := by
 refine Fnc.proof Tryz.func34 G 67 G G fun X w => ?_
 obtain ⟨ho0, ho1, ho2, ho3, ho4, ho5⟩ := id h_o
 refine sq<|rg<|bx G G G fun b1 => al zero_34 G fun b2 => asg G G<|nl<|nx<|sq<|sq<|rg<|fa G fld_34_1 G<|ldB 1 G G one_9 G G<|cfv (dkeyed_c _) ok_90 G Sn G<|nt G G ?_
 refine nl<|nx<|cdB G (fun h8 => ?_) (fun h8 => ?_)
 ·
  exact sq<|rg<|bd (ps := []) (cs := (cOp ((⟨0, ByteArray.empty, ByteArray.empty, 0, 0, 0⟩ : TOp)))) (by rfl) (by kernel_rfl) G<|stW 0 (us := (cOp ((⟨0, ByteArray.empty, ByteArray.empty, 0, 0, 0⟩ : TOp)))) G G G row_34 G G<|asg G G<|nl<|nx<|rt<|tR<|fRG () [_, _] (rCT 0 G G G G row_34) (by simp only [Bool.not_eq_true', Bool.not_eq_false'] at h8; rw [plainO, plainB, h8]; (repeat' split) <;> first | rfl | (exfalso; omega) | contradiction | (simp [hN, hK]; done) | (simp [hN]; done)) G Sn
 ·
  refine sk<|nx<|sq<|rg<|fa G fld_34_0 G<|ldB 1 G G one_3 G G<|fa G fld_34_1 G<|ldB 1 G G one_9 G G<|bd (ps := [(0, .tmp 11), (1, .tmp 13)]) (cs := (cOp ((⟨o.fKind, o.fKey, ByteArray.empty, 0, 0, 0⟩ : TOp)))) (by rfl) (by kernel_rfl) G<|al zero_34 G fun b4 => stW 0 (us := (cOp ((⟨o.fKind, o.fKey, ByteArray.empty, 0, 0, 0⟩ : TOp)))) G G G row_34 G G<|nl<|nx<|sq ?_
  refine sq<|rg<|fa G fld_34_0 G<|ldB 2 G G one_3 G G<|nl<|nx<|bk<|sq<|sq<|rg<|eqI G G G<|asg G G<|nl<|nx ?_
  refine cdP G (fun h17 => ?_) (fun h17 => ?_)
  ·
   refine sk<|nx<|cdP G (fun h17 => ?_) (fun h17 => ?_)
   ·
    refine sq<|rg<|fa G fld_34_3 G<|ldB 2 G G one_3 G G<|fa G fld_34_3 G<|stB 0 G G G one_3 G (Nat.lt_of_lt_of_le (Nat.lt_succ_self _) (Nat.le_of_ble_eq_true G))<|nl<|nx<|sq<|wkC [(1, _), (2, _), (4, _)] _ ⟨G, G, G, trivial⟩ Sr ?_
    refine rgH ⟨fun q_ => ([[], [], [1], [2], [0], [3]] : List (List Nat)).getD q_ [], fun _ _ => True, fun _ _ => [], fun q_ => ([some (.agg (cOp ((⟨o.fKind, o.fKey, ByteArray.empty, o.fN, 0, 0⟩ : TOp))).toArray), some (.pointer (some ⟨b1, 3, none⟩)), some (.int .i64 o.fN), some (.bool (decide (o.fN ≥ 1))), none, some (.bool (decide (o.fN ≥ 1)))] : List (Option Value)).getD q_ none, fun h_ => match h_ with
      | [] => fun vs_ => [bl b4 34 [.int .i64 (o.fKind), .string o.fKey, .string ByteArray.empty, .int .i64 o.fN, .int .i64 (0), .int .i64 (0)], bl b2 34 zv8, bl b1 34 (cOp o), fz X w]
      | [4] => fun vs_ => [bl b4 34 [.int .i64 (o.fKind), .string o.fKey, .string ByteArray.empty, .int .i64 o.fN, .int .i64 (0), .int .i64 (0)], bl b2 34 (cOp ((⟨o.fKind, o.fKey, ByteArray.empty, o.fN, 0, 0⟩ : TOp))), bl b1 34 (cOp o), fz X w]
      | _ => fun _ => [], [4], [[], [4]]⟩ (fun V => [bl b4 34 [.int .i64 (o.fKind), .string o.fKey, .string ByteArray.empty, .int .i64 o.fN, .int .i64 (0), .int .i64 (0)], bl b2 34 (cOp ((⟨o.fKind, o.fKey, ByteArray.empty, o.fN, 0, 0⟩ : TOp))), bl b1 34 (cOp o), fz X w]) mixed rfl rfl (show AllP _ [[4]] from ⟨fun _ => rfl, trivial⟩) ?_ ?_
    ·
     exact ⟨fun V De _=>aP1 (ldM 0 (cOp ((⟨o.fKind, o.fKey, ByteArray.empty, o.fN, 0, 0⟩ : TOp))) G G row_34 G G<|oh G G G G),fun V De _=>aP2 (fa G fld_34_3 G<|oh G G G G) (fa G fld_34_3 G<|oh G G G G),fun V De _=>aP2 (ldB 2 G G one_3 G G<|oh G G G G) (ldB 2 G G one_3 G G<|oh G G G G),fun V De _=>aP2 (geI G G G<|oh G G G G) (geI G G G<|oh G G G G),fun V De _=>aP1 (stW 1 (us := (cOp ((⟨o.fKind, o.fKey, ByteArray.empty, o.fN, 0, 0⟩ : TOp)))) G G G row_34 G G<|oh0 G G),fun V De _=>aP1 (asg G G<|oh G G G G),trivial⟩
    ·
     intro V _
     exact wkQ (L := [bl b4 34 [.int .i64 (o.fKind), .string o.fKey, .string ByteArray.empty, .int .i64 o.fN, .int .i64 (0), .int .i64 (0)], bl b2 34 (cOp ((⟨o.fKind, o.fKey, ByteArray.empty, o.fN, 0, 0⟩ : TOp))), bl b1 34 (cOp o), fz X w]) [(2, _), (3, .bool (decide (o.fN ≥ 1)))] [] ⟨G, G, trivial⟩ Sn<|nx<|rt<|bR<|tR<|fRG () [_, _, _] (rCT 1 G G G G row_34) (by simp only [Bool.not_eq_true', Bool.not_eq_false'] at h8; rw [plainO, plainB, h8]; (repeat' split) <;> first | rfl | (exfalso; omega) | contradiction | (simp [hN, hK]; done) | (simp [hN]; done)) G Sn
   ·
    refine sq<|rg<|eqI G G G<|asg G G<|nl<|nx<|cdP G (fun h27 => ?_) (fun h27 => ?_)
    ·
     refine sq ?_
     refine rgH ⟨fun q_ => ([[], [0], [], [2], [], [4, 1], [], [6, 3]] : List (List Nat)).getD q_ [], fun _ _ => True, fun _ _ => [], fun q_ => ([some (.pointer (some ⟨b1, 3, none⟩)), some (.int .i64 o.fN), some (.pointer (some ⟨b1, 2, none⟩)), some (.string o.fOther), some (.pointer (some ⟨b4, 3, none⟩)), none, some (.pointer (some ⟨b4, 2, none⟩)), none] : List (Option Value)).getD q_ none, fun h_ => match h_ with
       | [] => fun vs_ => [bl b4 34 (cOp ((⟨o.fKind, o.fKey, ByteArray.empty, 0, 0, 0⟩ : TOp))), bl b2 34 zv8, bl b1 34 (cOp o), fz X w]
       | [5] => fun vs_ => [bl b4 34 [.int .i64 (o.fKind), .string o.fKey, .string ByteArray.empty, .int .i64 o.fN, .int .i64 (0), .int .i64 (0)], bl b2 34 zv8, bl b1 34 (cOp o), fz X w]
       | [5, 7] => fun vs_ => [bl b4 34 [.int .i64 (o.fKind), .string o.fKey, .string o.fOther, .int .i64 o.fN, .int .i64 (0), .int .i64 (0)], bl b2 34 zv8, bl b1 34 (cOp o), fz X w]
       | _ => fun _ => [], [5, 7], [[], [5], [5, 7]]⟩ (fun V => [bl b4 34 [.int .i64 (o.fKind), .string o.fKey, .string o.fOther, .int .i64 o.fN, .int .i64 (0), .int .i64 (0)], bl b2 34 zv8, bl b1 34 (cOp o), fz X w]) mixed rfl rfl (show AllP _ [[5, 7]] from ⟨fun _ => rfl, trivial⟩) ?_ ?_
     ·
      exact ⟨fun V De _=>aP1 (fa G fld_34_3 G<|oh G G G G),fun V De _=>aP1 (ldB 2 G G one_3 G G<|oh G G G G),fun V De _=>aP2 (fa G fld_34_2 G<|oh G G G G) (fa G fld_34_2 G<|oh G G G G),fun V De _=>aP2 (ldB 2 G G one_9 G G<|oh G G G G) (ldB 2 G G one_9 G G<|oh G G G G),fun V De _=>aP1 (fa G fld_34_3 G<|oh G G G G),fun V De _=>aP1 (stB 0 G G G one_3 G (Nat.lt_of_lt_of_le (Nat.lt_succ_self _) (Nat.le_of_ble_eq_true G))<|oh0 G G),fun V De _=>aP1 (fa G fld_34_2 G<|oh G G G G),fun V De _=>aP1 (stB 0 G G G one_9 G (Nat.lt_of_lt_of_le (Nat.lt_succ_self _) (Nat.le_of_ble_eq_true G))<|oh0 G G),trivial⟩
     ·
      intro V _
      refine wkQ (L := [bl b4 34 [.int .i64 (o.fKind), .string o.fKey, .string o.fOther, .int .i64 o.fN, .int .i64 (0), .int .i64 (0)], bl b2 34 zv8, bl b1 34 (cOp o), fz X w]) [(1, _), (2, _), (4, _)] [] ⟨G, G, G, trivial⟩ Sn<|nx<|sq ?_
      by_cases hN : o.fN ≥ 1
      ·
       rcases Bool.eq_false_or_eq_true (okKey o.fOther) with hK | hK
       ·
        refine rgH ⟨fun q_ => ([[], [], [1], [2], [3], [4], [5, 4], [6, 4], [4, 7], [8], [9], [10, 9], [9], [12, 9], [11, 13, 9], [9, 14], [0], [15]] : List (List Nat)).getD q_ [], fun _ _ => True, fun _ _ => [], fun q_ => ([some (.agg (cOp ((⟨o.fKind, o.fKey, o.fOther, o.fN, 0, 0⟩ : TOp))).toArray), some (.pointer (some ⟨b1, 3, none⟩)), some (.int .i64 o.fN), some (.bool true), some (.bool true), some (.pointer (some ⟨b1, 2, none⟩)), some (.string o.fOther), some (.bool true), some (.bool true), some (.bool true), some (.pointer (some ⟨b1, 2, none⟩)), some (.string o.fOther), some (.pointer (some ⟨b1, 1, none⟩)), some (.string o.fKey), some (.bool (!decide (o.fOther = o.fKey))), some (.bool (!decide (o.fOther = o.fKey))), none, some (.bool (!decide (o.fOther = o.fKey)))] : List (Option Value)).getD q_ none, fun h_ => match h_ with
          | [] => fun vs_ => [bl b4 34 [.int .i64 (o.fKind), .string o.fKey, .string o.fOther, .int .i64 o.fN, .int .i64 (0), .int .i64 (0)], bl b2 34 zv8, bl b1 34 (cOp o), fz X w]
          | [16] => fun vs_ => [bl b4 34 [.int .i64 (o.fKind), .string o.fKey, .string o.fOther, .int .i64 o.fN, .int .i64 (0), .int .i64 (0)], bl b2 34 (cOp ((⟨o.fKind, o.fKey, o.fOther, o.fN, 0, 0⟩ : TOp))), bl b1 34 (cOp o), fz X w]
          | _ => fun _ => [], [16], [[], [16]]⟩ (fun V => [bl b4 34 [.int .i64 (o.fKind), .string o.fKey, .string o.fOther, .int .i64 o.fN, .int .i64 (0), .int .i64 (0)], bl b2 34 (cOp ((⟨o.fKind, o.fKey, o.fOther, o.fN, 0, 0⟩ : TOp))), bl b1 34 (cOp o), fz X w]) mixed rfl rfl (show AllP _ [[16]] from ⟨fun _ => rfl, trivial⟩) ?_ ?_
        ·
         refine ⟨fun V De _=>aP1 (ldM 0 (cOp ((⟨o.fKind, o.fKey, o.fOther, o.fN, 0, 0⟩ : TOp))) G G row_34 G G<|oh G G G G),fun V De _=>aP2 (fa G fld_34_3 G<|oh G G G G) (fa G fld_34_3 G<|oh G G G G),fun V De _=>aP2 (ldB 2 G G one_3 G G<|oh G G G G) (ldB 2 G G one_3 G G<|oh G G G G),fun V De _=>aP2 (geI G G G<|nl (odH G G G (congrArg Value.bool (decide_eq_true hN)) Sn Sr)) (geI G G G<|nl (odH G G G (congrArg Value.bool (decide_eq_true hN)) Sn Sr)),fun V De _=>aP2 (mv G G<|oh G G G G) (mv G G<|oh G G G G),fun V De _=>aP2 (gY G G G<|fa G fld_34_2 G<|oh G G G G) (gY G G G<|fa G fld_34_2 G<|oh G G G G),fun V De _=>aP2 (gY G G G<|ldB 2 G G one_9 G G<|oh G G G G) (gY G G G<|ldB 2 G G one_9 G G<|oh G G G G),fun V De _=>aP2 (gY G G G<|cfv (dkeyed_c _) ok_90 G Sn G<|nl (odH G G G (congrArg Value.bool hK) Sn Sr)) (gY G G G<|cfv (dkeyed_c _) ok_90 G Sn G<|nl (odH G G G (congrArg Value.bool hK) Sn Sr)),?_⟩
         refine ⟨fun V De _=>aP2 (pkT G G G<|oh G G G G) (pkT G G G<|oh G G G G),fun V De _=>aP1 (mv G G<|oh G G G G),fun V De _=>aP2 (gY G G G<|fa G fld_34_2 G<|oh G G G G) (gY G G G<|fa G fld_34_2 G<|oh G G G G),fun V De _=>aP2 (gY G G G<|ldB 2 G G one_9 G G<|oh G G G G) (gY G G G<|ldB 2 G G one_9 G G<|oh G G G G),fun V De _=>aP2 (gY G G G<|fa G fld_34_1 G<|oh G G G G) (gY G G G<|fa G fld_34_1 G<|oh G G G G),fun V De _=>aP2 (gY G G G<|ldB 2 G G one_9 G G<|oh G G G G) (gY G G G<|ldB 2 G G one_9 G G<|oh G G G G),fun V De _=>aP2 (gY G G G<|neS G G G<|oh G G G G) (gY G G G<|neS G G G<|oh G G G G),fun V De _=>aP2 (pkT G G G<|oh G G G G) (pkT G G G<|oh G G G G),?_⟩
         exact ⟨fun V De _=>aP1 (stW 1 (us := (cOp ((⟨o.fKind, o.fKey, o.fOther, o.fN, 0, 0⟩ : TOp)))) G G G row_34 G G<|oh0 G G),fun V De _=>aP1 (asg G G<|oh G G G G),trivial⟩
        ·
         intro V _
         exact wkQ (L := [bl b4 34 [.int .i64 (o.fKind), .string o.fKey, .string o.fOther, .int .i64 o.fN, .int .i64 (0), .int .i64 (0)], bl b2 34 (cOp ((⟨o.fKind, o.fKey, o.fOther, o.fN, 0, 0⟩ : TOp))), bl b1 34 (cOp o), fz X w]) [(2, _), (3, .bool (!decide (o.fOther = o.fKey)))] [] ⟨G, G, trivial⟩ Sn<|nx<|rt<|bR<|tR<|fRG () [_, _, _] (rCT 1 G G G G row_34) (by simp only [Bool.not_eq_true', Bool.not_eq_false'] at h8; rw [plainO, plainB, h8]; (repeat' split) <;> first | rfl | (exfalso; omega) | contradiction | (simp [hN, hK]; done) | (simp [hN]; done)) G Sn
       ·
        refine rgH ⟨fun q_ => ([[], [], [1], [2], [3], [4], [5, 4], [6, 4], [4, 7], [8], [9], [10, 9], [9], [12, 9], [11, 13, 9], [9, 14], [0], [15]] : List (List Nat)).getD q_ [], fun _ _ => True, fun _ _ => [], fun q_ => ([some (.agg (cOp ((⟨o.fKind, o.fKey, o.fOther, o.fN, 0, 0⟩ : TOp))).toArray), some (.pointer (some ⟨b1, 3, none⟩)), some (.int .i64 o.fN), some (.bool true), some (.bool true), some (.pointer (some ⟨b1, 2, none⟩)), some (.string o.fOther), some (.bool false), some (.bool false), some (.bool false), some (undef), some (undef), some (undef), some (undef), some (undef), some (.bool false), none, some (.bool false)] : List (Option Value)).getD q_ none, fun h_ => match h_ with
          | [] => fun vs_ => [bl b4 34 [.int .i64 (o.fKind), .string o.fKey, .string o.fOther, .int .i64 o.fN, .int .i64 (0), .int .i64 (0)], bl b2 34 zv8, bl b1 34 (cOp o), fz X w]
          | [16] => fun vs_ => [bl b4 34 [.int .i64 (o.fKind), .string o.fKey, .string o.fOther, .int .i64 o.fN, .int .i64 (0), .int .i64 (0)], bl b2 34 (cOp ((⟨o.fKind, o.fKey, o.fOther, o.fN, 0, 0⟩ : TOp))), bl b1 34 (cOp o), fz X w]
          | _ => fun _ => [], [16], [[], [16]]⟩ (fun V => [bl b4 34 [.int .i64 (o.fKind), .string o.fKey, .string o.fOther, .int .i64 o.fN, .int .i64 (0), .int .i64 (0)], bl b2 34 (cOp ((⟨o.fKind, o.fKey, o.fOther, o.fN, 0, 0⟩ : TOp))), bl b1 34 (cOp o), fz X w]) mixed rfl rfl (show AllP _ [[16]] from ⟨fun _ => rfl, trivial⟩) ?_ ?_
        ·
         refine ⟨fun V De _=>aP1 (ldM 0 (cOp ((⟨o.fKind, o.fKey, o.fOther, o.fN, 0, 0⟩ : TOp))) G G row_34 G G<|oh G G G G),fun V De _=>aP2 (fa G fld_34_3 G<|oh G G G G) (fa G fld_34_3 G<|oh G G G G),fun V De _=>aP2 (ldB 2 G G one_3 G G<|oh G G G G) (ldB 2 G G one_3 G G<|oh G G G G),fun V De _=>aP2 (geI G G G<|nl (odH G G G (congrArg Value.bool (decide_eq_true hN)) Sn Sr)) (geI G G G<|nl (odH G G G (congrArg Value.bool (decide_eq_true hN)) Sn Sr)),fun V De _=>aP2 (mv G G<|oh G G G G) (mv G G<|oh G G G G),fun V De _=>aP2 (gY G G G<|fa G fld_34_2 G<|oh G G G G) (gY G G G<|fa G fld_34_2 G<|oh G G G G),fun V De _=>aP2 (gY G G G<|ldB 2 G G one_9 G G<|oh G G G G) (gY G G G<|ldB 2 G G one_9 G G<|oh G G G G),fun V De _=>aP2 (gY G G G<|cfv (dkeyed_c _) ok_90 G Sn G<|nl (odH G G G (congrArg Value.bool hK) Sn Sr)) (gY G G G<|cfv (dkeyed_c _) ok_90 G Sn G<|nl (odH G G G (congrArg Value.bool hK) Sn Sr)),?_⟩
         refine ⟨fun V De _=>aP2 (pkT G G G<|oh G G G G) (pkT G G G<|oh G G G G),fun V De _=>aP1 (mv G G<|oh G G G G),fun V De _=>aP2 (gN G G G G G<|oh G G G G) (gN G G G G G<|oh G G G G),fun V De _=>aP2 (gN G G G G G<|oh G G G G) (gN G G G G G<|oh G G G G),fun V De _=>aP2 (gN G G G G G<|oh G G G G) (gN G G G G G<|oh G G G G),fun V De _=>aP2 (gN G G G G G<|oh G G G G) (gN G G G G G<|oh G G G G),fun V De _=>aP2 (gN G G G G G<|oh G G G G) (gN G G G G G<|oh G G G G),fun V De _=>aP2 (pkF G G G<|oh G G G G) (pkF G G G<|oh G G G G),?_⟩
         exact ⟨fun V De _=>aP1 (stW 1 (us := (cOp ((⟨o.fKind, o.fKey, o.fOther, o.fN, 0, 0⟩ : TOp)))) G G G row_34 G G<|oh0 G G),fun V De _=>aP1 (asg G G<|oh G G G G),trivial⟩
        ·
         intro V _
         exact wkQ (L := [bl b4 34 [.int .i64 (o.fKind), .string o.fKey, .string o.fOther, .int .i64 o.fN, .int .i64 (0), .int .i64 (0)], bl b2 34 (cOp ((⟨o.fKind, o.fKey, o.fOther, o.fN, 0, 0⟩ : TOp))), bl b1 34 (cOp o), fz X w]) [(2, _), (3, .bool false)] [] ⟨G, G, trivial⟩ Sn<|nx<|rt<|bR<|tR<|fRG () [_, _, _] (rCT 1 G G G G row_34) (by simp only [Bool.not_eq_true', Bool.not_eq_false'] at h8; rw [plainO, plainB, h8]; (repeat' split) <;> first | rfl | (exfalso; omega) | contradiction | (simp [hN, hK]; done) | (simp [hN]; done)) G Sn
      ·
       refine rgH ⟨fun q_ => ([[], [], [1], [2], [3], [4], [5, 4], [6, 4], [4, 7], [8], [9], [10, 9], [9], [12, 9], [11, 13, 9], [9, 14], [0], [15]] : List (List Nat)).getD q_ [], fun _ _ => True, fun _ _ => [], fun q_ => ([some (.agg (cOp ((⟨o.fKind, o.fKey, o.fOther, o.fN, 0, 0⟩ : TOp))).toArray), some (.pointer (some ⟨b1, 3, none⟩)), some (.int .i64 o.fN), some (.bool false), some (.bool false), some (undef), some (undef), some (undef), some (.bool false), some (.bool false), some (undef), some (undef), some (undef), some (undef), some (undef), some (.bool false), none, some (.bool false)] : List (Option Value)).getD q_ none, fun h_ => match h_ with
         | [] => fun vs_ => [bl b4 34 [.int .i64 (o.fKind), .string o.fKey, .string o.fOther, .int .i64 o.fN, .int .i64 (0), .int .i64 (0)], bl b2 34 zv8, bl b1 34 (cOp o), fz X w]
         | [16] => fun vs_ => [bl b4 34 [.int .i64 (o.fKind), .string o.fKey, .string o.fOther, .int .i64 o.fN, .int .i64 (0), .int .i64 (0)], bl b2 34 (cOp ((⟨o.fKind, o.fKey, o.fOther, o.fN, 0, 0⟩ : TOp))), bl b1 34 (cOp o), fz X w]
         | _ => fun _ => [], [16], [[], [16]]⟩ (fun V => [bl b4 34 [.int .i64 (o.fKind), .string o.fKey, .string o.fOther, .int .i64 o.fN, .int .i64 (0), .int .i64 (0)], bl b2 34 (cOp ((⟨o.fKind, o.fKey, o.fOther, o.fN, 0, 0⟩ : TOp))), bl b1 34 (cOp o), fz X w]) mixed rfl rfl (show AllP _ [[16]] from ⟨fun _ => rfl, trivial⟩) ?_ ?_
       ·
        refine ⟨fun V De _=>aP1 (ldM 0 (cOp ((⟨o.fKind, o.fKey, o.fOther, o.fN, 0, 0⟩ : TOp))) G G row_34 G G<|oh G G G G),fun V De _=>aP2 (fa G fld_34_3 G<|oh G G G G) (fa G fld_34_3 G<|oh G G G G),fun V De _=>aP2 (ldB 2 G G one_3 G G<|oh G G G G) (ldB 2 G G one_3 G G<|oh G G G G),fun V De _=>aP2 (geI G G G<|nl (odH G G G (congrArg Value.bool (decide_eq_false hN)) Sn Sr)) (geI G G G<|nl (odH G G G (congrArg Value.bool (decide_eq_false hN)) Sn Sr)),fun V De _=>aP2 (mv G G<|oh G G G G) (mv G G<|oh G G G G),fun V De _=>aP2 (gN G G G G G<|oh G G G G) (gN G G G G G<|oh G G G G),fun V De _=>aP2 (gN G G G G G<|oh G G G G) (gN G G G G G<|oh G G G G),fun V De _=>aP2 (gN G G G G G<|oh G G G G) (gN G G G G G<|oh G G G G),?_⟩
        refine ⟨fun V De _=>aP2 (pkF G G G<|oh G G G G) (pkF G G G<|oh G G G G),fun V De _=>aP1 (mv G G<|oh G G G G),fun V De _=>aP2 (gN G G G G G<|oh G G G G) (gN G G G G G<|oh G G G G),fun V De _=>aP2 (gN G G G G G<|oh G G G G) (gN G G G G G<|oh G G G G),fun V De _=>aP2 (gN G G G G G<|oh G G G G) (gN G G G G G<|oh G G G G),fun V De _=>aP2 (gN G G G G G<|oh G G G G) (gN G G G G G<|oh G G G G),fun V De _=>aP2 (gN G G G G G<|oh G G G G) (gN G G G G G<|oh G G G G),fun V De _=>aP2 (pkF G G G<|oh G G G G) (pkF G G G<|oh G G G G),?_⟩
        exact ⟨fun V De _=>aP1 (stW 1 (us := (cOp ((⟨o.fKind, o.fKey, o.fOther, o.fN, 0, 0⟩ : TOp)))) G G G row_34 G G<|oh0 G G),fun V De _=>aP1 (asg G G<|oh G G G G),trivial⟩
       ·
        intro V _
        exact wkQ (L := [bl b4 34 [.int .i64 (o.fKind), .string o.fKey, .string o.fOther, .int .i64 o.fN, .int .i64 (0), .int .i64 (0)], bl b2 34 (cOp ((⟨o.fKind, o.fKey, o.fOther, o.fN, 0, 0⟩ : TOp))), bl b1 34 (cOp o), fz X w]) [(2, _), (3, .bool false)] [] ⟨G, G, trivial⟩ Sn<|nx<|rt<|bR<|tR<|fRG () [_, _, _] (rCT 1 G G G G row_34) (by simp only [Bool.not_eq_true', Bool.not_eq_false'] at h8; rw [plainO, plainB, h8]; (repeat' split) <;> first | rfl | (exfalso; omega) | contradiction | (simp [hN, hK]; done) | (simp [hN]; done)) G Sn
    ·
     refine sq<|rg<|eqI G G G<|asg G G<|nl<|nx<|cdP G (fun h51 => ?_) (fun h51 => ?_)
     ·
      refine sq ?_
      refine rgH ⟨fun q_ => ([[], [0], [], [2], [], [4, 1], [], [6, 3]] : List (List Nat)).getD q_ [], fun _ _ => True, fun _ _ => [], fun q_ => ([some (.pointer (some ⟨b1, 4, none⟩)), some (.int .i64 o.fLo), some (.pointer (some ⟨b1, 5, none⟩)), some (.int .i64 o.fHi), some (.pointer (some ⟨b4, 4, none⟩)), none, some (.pointer (some ⟨b4, 5, none⟩)), none] : List (Option Value)).getD q_ none, fun h_ => match h_ with
        | [] => fun vs_ => [bl b4 34 (cOp ((⟨o.fKind, o.fKey, ByteArray.empty, 0, 0, 0⟩ : TOp))), bl b2 34 zv8, bl b1 34 (cOp o), fz X w]
        | [5] => fun vs_ => [bl b4 34 [.int .i64 (o.fKind), .string o.fKey, .string ByteArray.empty, .int .i64 (0), .int .i64 o.fLo, .int .i64 (0)], bl b2 34 zv8, bl b1 34 (cOp o), fz X w]
        | [5, 7] => fun vs_ => [bl b4 34 [.int .i64 (o.fKind), .string o.fKey, .string ByteArray.empty, .int .i64 (0), .int .i64 o.fLo, .int .i64 o.fHi], bl b2 34 zv8, bl b1 34 (cOp o), fz X w]
        | _ => fun _ => [], [5, 7], [[], [5], [5, 7]]⟩ (fun V => [bl b4 34 [.int .i64 (o.fKind), .string o.fKey, .string ByteArray.empty, .int .i64 (0), .int .i64 o.fLo, .int .i64 o.fHi], bl b2 34 zv8, bl b1 34 (cOp o), fz X w]) mixed rfl rfl (show AllP _ [[5, 7]] from ⟨fun _ => rfl, trivial⟩) ?_ ?_
      ·
       exact ⟨fun V De _=>aP1 (fa G fld_34_4 G<|oh G G G G),fun V De _=>aP1 (ldB 2 G G one_3 G G<|oh G G G G),fun V De _=>aP2 (fa G fld_34_5 G<|oh G G G G) (fa G fld_34_5 G<|oh G G G G),fun V De _=>aP2 (ldB 2 G G one_3 G G<|oh G G G G) (ldB 2 G G one_3 G G<|oh G G G G),fun V De _=>aP1 (fa G fld_34_4 G<|oh G G G G),fun V De _=>aP1 (stB 0 G G G one_3 G (Nat.lt_of_lt_of_le (Nat.lt_succ_self _) (Nat.le_of_ble_eq_true G))<|oh0 G G),fun V De _=>aP1 (fa G fld_34_5 G<|oh G G G G),fun V De _=>aP1 (stB 0 G G G one_3 G (Nat.lt_of_lt_of_le (Nat.lt_succ_self _) (Nat.le_of_ble_eq_true G))<|oh0 G G),trivial⟩
      ·
       intro V _
       exact wkQ (L := [bl b4 34 [.int .i64 (o.fKind), .string o.fKey, .string ByteArray.empty, .int .i64 (0), .int .i64 o.fLo, .int .i64 o.fHi], bl b2 34 zv8, bl b1 34 (cOp o), fz X w]) [(2, _), (4, _)] [] ⟨G, G, trivial⟩ Sn<|nx<|sq<|rg<|ldM 0 (cOp ((⟨o.fKind, o.fKey, ByteArray.empty, 0, o.fLo, o.fHi⟩ : TOp))) G G row_34 G G<|stW 1 (us := (cOp ((⟨o.fKind, o.fKey, ByteArray.empty, 0, o.fLo, o.fHi⟩ : TOp)))) G G G row_34 G G<|asg G G<|nl<|nx<|rt<|bR<|tR<|fRG () [_, _, _] (rCT 1 G G G G row_34) (by simp only [Bool.not_eq_true', Bool.not_eq_false'] at h8; rw [plainO, plainB, h8]; (repeat' split) <;> first | rfl | (exfalso; omega) | contradiction | (simp [hN, hK]; done) | (simp [hN]; done)) G Sn
     ·
      refine sq<|sq<|rg<|eqI G G G<|asg G G<|nl<|nx<|cdP G (fun h60 => ?_) (fun h60 => ?_)
      ·
       refine sk<|nx<|cdP G (fun h60 => ?_) (fun h60 => ?_)
       ·
        exact sq<|rg<|ldM 0 (cOp ((⟨o.fKind, o.fKey, ByteArray.empty, 0, 0, 0⟩ : TOp))) G G row_34 G G<|stW 1 (us := (cOp ((⟨o.fKind, o.fKey, ByteArray.empty, 0, 0, 0⟩ : TOp)))) G G G row_34 G G<|asg G G<|nl<|nx<|rt<|bR<|tR<|fRG () [_, _, _] (rCT 1 G G G G row_34) (by simp only [Bool.not_eq_true', Bool.not_eq_false'] at h8; rw [plainO, plainB, h8]; (repeat' split) <;> first | rfl | (exfalso; omega) | contradiction | (simp [hN, hK]; done) | (simp [hN]; done)) G Sn
       ·
        exact sk<|bN<|nx<|sq<|rg<|bd (ps := []) (cs := (cOp ((⟨0, ByteArray.empty, ByteArray.empty, 0, 0, 0⟩ : TOp)))) (by rfl) (by kernel_rfl) G<|stW 1 (us := (cOp ((⟨0, ByteArray.empty, ByteArray.empty, 0, 0, 0⟩ : TOp)))) G G G row_34 G G<|asg G G<|nl<|nx<|rt<|fRG () [_, _, _] (rCT 1 G G G G row_34) (by simp only [Bool.not_eq_true', Bool.not_eq_false'] at h8; rw [plainO, plainB, h8]; (repeat' split) <;> first | rfl | (exfalso; omega) | contradiction | (simp [hN, hK]; done) | (simp [hN]; done)) G Sn
      ·
       refine sq<|rg<|eqI G G G<|asg G G<|nl<|nx<|cdP G (fun h60 => ?_) (fun h60 => ?_)
       ·
        refine sk<|nx<|cdP G (fun h60 => ?_) (fun h60 => ?_)
        ·
         exact sq<|rg<|ldM 0 (cOp ((⟨o.fKind, o.fKey, ByteArray.empty, 0, 0, 0⟩ : TOp))) G G row_34 G G<|stW 1 (us := (cOp ((⟨o.fKind, o.fKey, ByteArray.empty, 0, 0, 0⟩ : TOp)))) G G G row_34 G G<|asg G G<|nl<|nx<|rt<|bR<|tR<|fRG () [_, _, _] (rCT 1 G G G G row_34) (by simp only [Bool.not_eq_true', Bool.not_eq_false'] at h8; rw [plainO, plainB, h8]; (repeat' split) <;> first | rfl | (exfalso; omega) | contradiction | (simp [hN, hK]; done) | (simp [hN]; done)) G Sn
        ·
         exact sk<|bN<|nx<|sq<|rg<|bd (ps := []) (cs := (cOp ((⟨0, ByteArray.empty, ByteArray.empty, 0, 0, 0⟩ : TOp)))) (by rfl) (by kernel_rfl) G<|stW 1 (us := (cOp ((⟨0, ByteArray.empty, ByteArray.empty, 0, 0, 0⟩ : TOp)))) G G G row_34 G G<|asg G G<|nl<|nx<|rt<|fRG () [_, _, _] (rCT 1 G G G G row_34) (by simp only [Bool.not_eq_true', Bool.not_eq_false'] at h8; rw [plainO, plainB, h8]; (repeat' split) <;> first | rfl | (exfalso; omega) | contradiction | (simp [hN, hK]; done) | (simp [hN]; done)) G Sn
       ·
        refine sq<|rg<|eqI G G G<|asg G G<|nl<|nx<|cdP G (fun h60 => ?_) (fun h60 => ?_)
        ·
         refine sk<|nx<|cdP G (fun h60 => ?_) (fun h60 => ?_)
         ·
          exact sq<|rg<|ldM 0 (cOp ((⟨o.fKind, o.fKey, ByteArray.empty, 0, 0, 0⟩ : TOp))) G G row_34 G G<|stW 1 (us := (cOp ((⟨o.fKind, o.fKey, ByteArray.empty, 0, 0, 0⟩ : TOp)))) G G G row_34 G G<|asg G G<|nl<|nx<|rt<|bR<|tR<|fRG () [_, _, _] (rCT 1 G G G G row_34) (by simp only [Bool.not_eq_true', Bool.not_eq_false'] at h8; rw [plainO, plainB, h8]; (repeat' split) <;> first | rfl | (exfalso; omega) | contradiction | (simp [hN, hK]; done) | (simp [hN]; done)) G Sn
         ·
          exact sk<|bN<|nx<|sq<|rg<|bd (ps := []) (cs := (cOp ((⟨0, ByteArray.empty, ByteArray.empty, 0, 0, 0⟩ : TOp)))) (by rfl) (by kernel_rfl) G<|stW 1 (us := (cOp ((⟨0, ByteArray.empty, ByteArray.empty, 0, 0, 0⟩ : TOp)))) G G G row_34 G G<|asg G G<|nl<|nx<|rt<|fRG () [_, _, _] (rCT 1 G G G G row_34) (by simp only [Bool.not_eq_true', Bool.not_eq_false'] at h8; rw [plainO, plainB, h8]; (repeat' split) <;> first | rfl | (exfalso; omega) | contradiction | (simp [hN, hK]; done) | (simp [hN]; done)) G Sn
        ·
         refine rg<|eqI G G G<|asg G G<|nl<|nx<|cdP G (fun h60 => ?_) (fun h60 => ?_)
         ·
          exact sq<|rg<|ldM 0 (cOp ((⟨o.fKind, o.fKey, ByteArray.empty, 0, 0, 0⟩ : TOp))) G G row_34 G G<|stW 1 (us := (cOp ((⟨o.fKind, o.fKey, ByteArray.empty, 0, 0, 0⟩ : TOp)))) G G G row_34 G G<|asg G G<|nl<|nx<|rt<|bR<|tR<|fRG () [_, _, _] (rCT 1 G G G G row_34) (by simp only [Bool.not_eq_true', Bool.not_eq_false'] at h8; rw [plainO, plainB, h8]; (repeat' split) <;> first | rfl | (exfalso; omega) | contradiction | (simp [hN, hK]; done) | (simp [hN]; done)) G Sn
         ·
          exact sk<|bN<|nx<|sq<|rg<|bd (ps := []) (cs := (cOp ((⟨0, ByteArray.empty, ByteArray.empty, 0, 0, 0⟩ : TOp)))) (by rfl) (by kernel_rfl) G<|stW 1 (us := (cOp ((⟨0, ByteArray.empty, ByteArray.empty, 0, 0, 0⟩ : TOp)))) G G G row_34 G G<|asg G G<|nl<|nx<|rt<|fRG () [_, _, _] (rCT 1 G G G G row_34) (by simp only [Bool.not_eq_true', Bool.not_eq_false'] at h8; rw [plainO, plainB, h8]; (repeat' split) <;> first | rfl | (exfalso; omega) | contradiction | (simp [hN, hK]; done) | (simp [hN]; done)) G Sn
  ·
   refine rg<|eqI G G G<|asg G G<|nl<|nx<|cdP G (fun h17 => ?_) (fun h17 => ?_)
   ·
    refine sq<|rg<|fa G fld_34_3 G<|ldB 2 G G one_3 G G<|fa G fld_34_3 G<|stB 0 G G G one_3 G (Nat.lt_of_lt_of_le (Nat.lt_succ_self _) (Nat.le_of_ble_eq_true G))<|nl<|nx<|sq<|wkC [(1, _), (2, _), (4, _)] _ ⟨G, G, G, trivial⟩ Sr ?_
    refine rgH ⟨fun q_ => ([[], [], [1], [2], [0], [3]] : List (List Nat)).getD q_ [], fun _ _ => True, fun _ _ => [], fun q_ => ([some (.agg (cOp ((⟨o.fKind, o.fKey, ByteArray.empty, o.fN, 0, 0⟩ : TOp))).toArray), some (.pointer (some ⟨b1, 3, none⟩)), some (.int .i64 o.fN), some (.bool (decide (o.fN ≥ 1))), none, some (.bool (decide (o.fN ≥ 1)))] : List (Option Value)).getD q_ none, fun h_ => match h_ with
      | [] => fun vs_ => [bl b4 34 [.int .i64 (o.fKind), .string o.fKey, .string ByteArray.empty, .int .i64 o.fN, .int .i64 (0), .int .i64 (0)], bl b2 34 zv8, bl b1 34 (cOp o), fz X w]
      | [4] => fun vs_ => [bl b4 34 [.int .i64 (o.fKind), .string o.fKey, .string ByteArray.empty, .int .i64 o.fN, .int .i64 (0), .int .i64 (0)], bl b2 34 (cOp ((⟨o.fKind, o.fKey, ByteArray.empty, o.fN, 0, 0⟩ : TOp))), bl b1 34 (cOp o), fz X w]
      | _ => fun _ => [], [4], [[], [4]]⟩ (fun V => [bl b4 34 [.int .i64 (o.fKind), .string o.fKey, .string ByteArray.empty, .int .i64 o.fN, .int .i64 (0), .int .i64 (0)], bl b2 34 (cOp ((⟨o.fKind, o.fKey, ByteArray.empty, o.fN, 0, 0⟩ : TOp))), bl b1 34 (cOp o), fz X w]) mixed rfl rfl (show AllP _ [[4]] from ⟨fun _ => rfl, trivial⟩) ?_ ?_
    ·
     exact ⟨fun V De _=>aP1 (ldM 0 (cOp ((⟨o.fKind, o.fKey, ByteArray.empty, o.fN, 0, 0⟩ : TOp))) G G row_34 G G<|oh G G G G),fun V De _=>aP2 (fa G fld_34_3 G<|oh G G G G) (fa G fld_34_3 G<|oh G G G G),fun V De _=>aP2 (ldB 2 G G one_3 G G<|oh G G G G) (ldB 2 G G one_3 G G<|oh G G G G),fun V De _=>aP2 (geI G G G<|oh G G G G) (geI G G G<|oh G G G G),fun V De _=>aP1 (stW 1 (us := (cOp ((⟨o.fKind, o.fKey, ByteArray.empty, o.fN, 0, 0⟩ : TOp)))) G G G row_34 G G<|oh0 G G),fun V De _=>aP1 (asg G G<|oh G G G G),trivial⟩
    ·
     intro V _
     exact wkQ (L := [bl b4 34 [.int .i64 (o.fKind), .string o.fKey, .string ByteArray.empty, .int .i64 o.fN, .int .i64 (0), .int .i64 (0)], bl b2 34 (cOp ((⟨o.fKind, o.fKey, ByteArray.empty, o.fN, 0, 0⟩ : TOp))), bl b1 34 (cOp o), fz X w]) [(2, _), (3, .bool (decide (o.fN ≥ 1)))] [] ⟨G, G, trivial⟩ Sn<|nx<|rt<|bR<|tR<|fRG () [_, _, _] (rCT 1 G G G G row_34) (by simp only [Bool.not_eq_true', Bool.not_eq_false'] at h8; rw [plainO, plainB, h8]; (repeat' split) <;> first | rfl | (exfalso; omega) | contradiction | (simp [hN, hK]; done) | (simp [hN]; done)) G Sn
   ·
    refine sq<|rg<|eqI G G G<|asg G G<|nl<|nx<|cdP G (fun h27 => ?_) (fun h27 => ?_)
    ·
     refine sq ?_
     refine rgH ⟨fun q_ => ([[], [0], [], [2], [], [4, 1], [], [6, 3]] : List (List Nat)).getD q_ [], fun _ _ => True, fun _ _ => [], fun q_ => ([some (.pointer (some ⟨b1, 3, none⟩)), some (.int .i64 o.fN), some (.pointer (some ⟨b1, 2, none⟩)), some (.string o.fOther), some (.pointer (some ⟨b4, 3, none⟩)), none, some (.pointer (some ⟨b4, 2, none⟩)), none] : List (Option Value)).getD q_ none, fun h_ => match h_ with
       | [] => fun vs_ => [bl b4 34 (cOp ((⟨o.fKind, o.fKey, ByteArray.empty, 0, 0, 0⟩ : TOp))), bl b2 34 zv8, bl b1 34 (cOp o), fz X w]
       | [5] => fun vs_ => [bl b4 34 [.int .i64 (o.fKind), .string o.fKey, .string ByteArray.empty, .int .i64 o.fN, .int .i64 (0), .int .i64 (0)], bl b2 34 zv8, bl b1 34 (cOp o), fz X w]
       | [5, 7] => fun vs_ => [bl b4 34 [.int .i64 (o.fKind), .string o.fKey, .string o.fOther, .int .i64 o.fN, .int .i64 (0), .int .i64 (0)], bl b2 34 zv8, bl b1 34 (cOp o), fz X w]
       | _ => fun _ => [], [5, 7], [[], [5], [5, 7]]⟩ (fun V => [bl b4 34 [.int .i64 (o.fKind), .string o.fKey, .string o.fOther, .int .i64 o.fN, .int .i64 (0), .int .i64 (0)], bl b2 34 zv8, bl b1 34 (cOp o), fz X w]) mixed rfl rfl (show AllP _ [[5, 7]] from ⟨fun _ => rfl, trivial⟩) ?_ ?_
     ·
      exact ⟨fun V De _=>aP1 (fa G fld_34_3 G<|oh G G G G),fun V De _=>aP1 (ldB 2 G G one_3 G G<|oh G G G G),fun V De _=>aP2 (fa G fld_34_2 G<|oh G G G G) (fa G fld_34_2 G<|oh G G G G),fun V De _=>aP2 (ldB 2 G G one_9 G G<|oh G G G G) (ldB 2 G G one_9 G G<|oh G G G G),fun V De _=>aP1 (fa G fld_34_3 G<|oh G G G G),fun V De _=>aP1 (stB 0 G G G one_3 G (Nat.lt_of_lt_of_le (Nat.lt_succ_self _) (Nat.le_of_ble_eq_true G))<|oh0 G G),fun V De _=>aP1 (fa G fld_34_2 G<|oh G G G G),fun V De _=>aP1 (stB 0 G G G one_9 G (Nat.lt_of_lt_of_le (Nat.lt_succ_self _) (Nat.le_of_ble_eq_true G))<|oh0 G G),trivial⟩
     ·
      intro V _
      refine wkQ (L := [bl b4 34 [.int .i64 (o.fKind), .string o.fKey, .string o.fOther, .int .i64 o.fN, .int .i64 (0), .int .i64 (0)], bl b2 34 zv8, bl b1 34 (cOp o), fz X w]) [(1, _), (2, _), (4, _)] [] ⟨G, G, G, trivial⟩ Sn<|nx<|sq ?_
      by_cases hN : o.fN ≥ 1
      ·
       rcases Bool.eq_false_or_eq_true (okKey o.fOther) with hK | hK
       ·
        refine rgH ⟨fun q_ => ([[], [], [1], [2], [3], [4], [5, 4], [6, 4], [4, 7], [8], [9], [10, 9], [9], [12, 9], [11, 13, 9], [9, 14], [0], [15]] : List (List Nat)).getD q_ [], fun _ _ => True, fun _ _ => [], fun q_ => ([some (.agg (cOp ((⟨o.fKind, o.fKey, o.fOther, o.fN, 0, 0⟩ : TOp))).toArray), some (.pointer (some ⟨b1, 3, none⟩)), some (.int .i64 o.fN), some (.bool true), some (.bool true), some (.pointer (some ⟨b1, 2, none⟩)), some (.string o.fOther), some (.bool true), some (.bool true), some (.bool true), some (.pointer (some ⟨b1, 2, none⟩)), some (.string o.fOther), some (.pointer (some ⟨b1, 1, none⟩)), some (.string o.fKey), some (.bool (!decide (o.fOther = o.fKey))), some (.bool (!decide (o.fOther = o.fKey))), none, some (.bool (!decide (o.fOther = o.fKey)))] : List (Option Value)).getD q_ none, fun h_ => match h_ with
          | [] => fun vs_ => [bl b4 34 [.int .i64 (o.fKind), .string o.fKey, .string o.fOther, .int .i64 o.fN, .int .i64 (0), .int .i64 (0)], bl b2 34 zv8, bl b1 34 (cOp o), fz X w]
          | [16] => fun vs_ => [bl b4 34 [.int .i64 (o.fKind), .string o.fKey, .string o.fOther, .int .i64 o.fN, .int .i64 (0), .int .i64 (0)], bl b2 34 (cOp ((⟨o.fKind, o.fKey, o.fOther, o.fN, 0, 0⟩ : TOp))), bl b1 34 (cOp o), fz X w]
          | _ => fun _ => [], [16], [[], [16]]⟩ (fun V => [bl b4 34 [.int .i64 (o.fKind), .string o.fKey, .string o.fOther, .int .i64 o.fN, .int .i64 (0), .int .i64 (0)], bl b2 34 (cOp ((⟨o.fKind, o.fKey, o.fOther, o.fN, 0, 0⟩ : TOp))), bl b1 34 (cOp o), fz X w]) mixed rfl rfl (show AllP _ [[16]] from ⟨fun _ => rfl, trivial⟩) ?_ ?_
        ·
         refine ⟨fun V De _=>aP1 (ldM 0 (cOp ((⟨o.fKind, o.fKey, o.fOther, o.fN, 0, 0⟩ : TOp))) G G row_34 G G<|oh G G G G),fun V De _=>aP2 (fa G fld_34_3 G<|oh G G G G) (fa G fld_34_3 G<|oh G G G G),fun V De _=>aP2 (ldB 2 G G one_3 G G<|oh G G G G) (ldB 2 G G one_3 G G<|oh G G G G),fun V De _=>aP2 (geI G G G<|nl (odH G G G (congrArg Value.bool (decide_eq_true hN)) Sn Sr)) (geI G G G<|nl (odH G G G (congrArg Value.bool (decide_eq_true hN)) Sn Sr)),fun V De _=>aP2 (mv G G<|oh G G G G) (mv G G<|oh G G G G),fun V De _=>aP2 (gY G G G<|fa G fld_34_2 G<|oh G G G G) (gY G G G<|fa G fld_34_2 G<|oh G G G G),fun V De _=>aP2 (gY G G G<|ldB 2 G G one_9 G G<|oh G G G G) (gY G G G<|ldB 2 G G one_9 G G<|oh G G G G),fun V De _=>aP2 (gY G G G<|cfv (dkeyed_c _) ok_90 G Sn G<|nl (odH G G G (congrArg Value.bool hK) Sn Sr)) (gY G G G<|cfv (dkeyed_c _) ok_90 G Sn G<|nl (odH G G G (congrArg Value.bool hK) Sn Sr)),?_⟩
         refine ⟨fun V De _=>aP2 (pkT G G G<|oh G G G G) (pkT G G G<|oh G G G G),fun V De _=>aP1 (mv G G<|oh G G G G),fun V De _=>aP2 (gY G G G<|fa G fld_34_2 G<|oh G G G G) (gY G G G<|fa G fld_34_2 G<|oh G G G G),fun V De _=>aP2 (gY G G G<|ldB 2 G G one_9 G G<|oh G G G G) (gY G G G<|ldB 2 G G one_9 G G<|oh G G G G),fun V De _=>aP2 (gY G G G<|fa G fld_34_1 G<|oh G G G G) (gY G G G<|fa G fld_34_1 G<|oh G G G G),fun V De _=>aP2 (gY G G G<|ldB 2 G G one_9 G G<|oh G G G G) (gY G G G<|ldB 2 G G one_9 G G<|oh G G G G),fun V De _=>aP2 (gY G G G<|neS G G G<|oh G G G G) (gY G G G<|neS G G G<|oh G G G G),fun V De _=>aP2 (pkT G G G<|oh G G G G) (pkT G G G<|oh G G G G),?_⟩
         exact ⟨fun V De _=>aP1 (stW 1 (us := (cOp ((⟨o.fKind, o.fKey, o.fOther, o.fN, 0, 0⟩ : TOp)))) G G G row_34 G G<|oh0 G G),fun V De _=>aP1 (asg G G<|oh G G G G),trivial⟩
        ·
         intro V _
         exact wkQ (L := [bl b4 34 [.int .i64 (o.fKind), .string o.fKey, .string o.fOther, .int .i64 o.fN, .int .i64 (0), .int .i64 (0)], bl b2 34 (cOp ((⟨o.fKind, o.fKey, o.fOther, o.fN, 0, 0⟩ : TOp))), bl b1 34 (cOp o), fz X w]) [(2, _), (3, .bool (!decide (o.fOther = o.fKey)))] [] ⟨G, G, trivial⟩ Sn<|nx<|rt<|bR<|tR<|fRG () [_, _, _] (rCT 1 G G G G row_34) (by simp only [Bool.not_eq_true', Bool.not_eq_false'] at h8; rw [plainO, plainB, h8]; (repeat' split) <;> first | rfl | (exfalso; omega) | contradiction | (simp [hN, hK]; done) | (simp [hN]; done)) G Sn
       ·
        refine rgH ⟨fun q_ => ([[], [], [1], [2], [3], [4], [5, 4], [6, 4], [4, 7], [8], [9], [10, 9], [9], [12, 9], [11, 13, 9], [9, 14], [0], [15]] : List (List Nat)).getD q_ [], fun _ _ => True, fun _ _ => [], fun q_ => ([some (.agg (cOp ((⟨o.fKind, o.fKey, o.fOther, o.fN, 0, 0⟩ : TOp))).toArray), some (.pointer (some ⟨b1, 3, none⟩)), some (.int .i64 o.fN), some (.bool true), some (.bool true), some (.pointer (some ⟨b1, 2, none⟩)), some (.string o.fOther), some (.bool false), some (.bool false), some (.bool false), some (undef), some (undef), some (undef), some (undef), some (undef), some (.bool false), none, some (.bool false)] : List (Option Value)).getD q_ none, fun h_ => match h_ with
          | [] => fun vs_ => [bl b4 34 [.int .i64 (o.fKind), .string o.fKey, .string o.fOther, .int .i64 o.fN, .int .i64 (0), .int .i64 (0)], bl b2 34 zv8, bl b1 34 (cOp o), fz X w]
          | [16] => fun vs_ => [bl b4 34 [.int .i64 (o.fKind), .string o.fKey, .string o.fOther, .int .i64 o.fN, .int .i64 (0), .int .i64 (0)], bl b2 34 (cOp ((⟨o.fKind, o.fKey, o.fOther, o.fN, 0, 0⟩ : TOp))), bl b1 34 (cOp o), fz X w]
          | _ => fun _ => [], [16], [[], [16]]⟩ (fun V => [bl b4 34 [.int .i64 (o.fKind), .string o.fKey, .string o.fOther, .int .i64 o.fN, .int .i64 (0), .int .i64 (0)], bl b2 34 (cOp ((⟨o.fKind, o.fKey, o.fOther, o.fN, 0, 0⟩ : TOp))), bl b1 34 (cOp o), fz X w]) mixed rfl rfl (show AllP _ [[16]] from ⟨fun _ => rfl, trivial⟩) ?_ ?_
        ·
         refine ⟨fun V De _=>aP1 (ldM 0 (cOp ((⟨o.fKind, o.fKey, o.fOther, o.fN, 0, 0⟩ : TOp))) G G row_34 G G<|oh G G G G),fun V De _=>aP2 (fa G fld_34_3 G<|oh G G G G) (fa G fld_34_3 G<|oh G G G G),fun V De _=>aP2 (ldB 2 G G one_3 G G<|oh G G G G) (ldB 2 G G one_3 G G<|oh G G G G),fun V De _=>aP2 (geI G G G<|nl (odH G G G (congrArg Value.bool (decide_eq_true hN)) Sn Sr)) (geI G G G<|nl (odH G G G (congrArg Value.bool (decide_eq_true hN)) Sn Sr)),fun V De _=>aP2 (mv G G<|oh G G G G) (mv G G<|oh G G G G),fun V De _=>aP2 (gY G G G<|fa G fld_34_2 G<|oh G G G G) (gY G G G<|fa G fld_34_2 G<|oh G G G G),fun V De _=>aP2 (gY G G G<|ldB 2 G G one_9 G G<|oh G G G G) (gY G G G<|ldB 2 G G one_9 G G<|oh G G G G),fun V De _=>aP2 (gY G G G<|cfv (dkeyed_c _) ok_90 G Sn G<|nl (odH G G G (congrArg Value.bool hK) Sn Sr)) (gY G G G<|cfv (dkeyed_c _) ok_90 G Sn G<|nl (odH G G G (congrArg Value.bool hK) Sn Sr)),?_⟩
         refine ⟨fun V De _=>aP2 (pkT G G G<|oh G G G G) (pkT G G G<|oh G G G G),fun V De _=>aP1 (mv G G<|oh G G G G),fun V De _=>aP2 (gN G G G G G<|oh G G G G) (gN G G G G G<|oh G G G G),fun V De _=>aP2 (gN G G G G G<|oh G G G G) (gN G G G G G<|oh G G G G),fun V De _=>aP2 (gN G G G G G<|oh G G G G) (gN G G G G G<|oh G G G G),fun V De _=>aP2 (gN G G G G G<|oh G G G G) (gN G G G G G<|oh G G G G),fun V De _=>aP2 (gN G G G G G<|oh G G G G) (gN G G G G G<|oh G G G G),fun V De _=>aP2 (pkF G G G<|oh G G G G) (pkF G G G<|oh G G G G),?_⟩
         exact ⟨fun V De _=>aP1 (stW 1 (us := (cOp ((⟨o.fKind, o.fKey, o.fOther, o.fN, 0, 0⟩ : TOp)))) G G G row_34 G G<|oh0 G G),fun V De _=>aP1 (asg G G<|oh G G G G),trivial⟩
        ·
         intro V _
         exact wkQ (L := [bl b4 34 [.int .i64 (o.fKind), .string o.fKey, .string o.fOther, .int .i64 o.fN, .int .i64 (0), .int .i64 (0)], bl b2 34 (cOp ((⟨o.fKind, o.fKey, o.fOther, o.fN, 0, 0⟩ : TOp))), bl b1 34 (cOp o), fz X w]) [(2, _), (3, .bool false)] [] ⟨G, G, trivial⟩ Sn<|nx<|rt<|bR<|tR<|fRG () [_, _, _] (rCT 1 G G G G row_34) (by simp only [Bool.not_eq_true', Bool.not_eq_false'] at h8; rw [plainO, plainB, h8]; (repeat' split) <;> first | rfl | (exfalso; omega) | contradiction | (simp [hN, hK]; done) | (simp [hN]; done)) G Sn
      ·
       refine rgH ⟨fun q_ => ([[], [], [1], [2], [3], [4], [5, 4], [6, 4], [4, 7], [8], [9], [10, 9], [9], [12, 9], [11, 13, 9], [9, 14], [0], [15]] : List (List Nat)).getD q_ [], fun _ _ => True, fun _ _ => [], fun q_ => ([some (.agg (cOp ((⟨o.fKind, o.fKey, o.fOther, o.fN, 0, 0⟩ : TOp))).toArray), some (.pointer (some ⟨b1, 3, none⟩)), some (.int .i64 o.fN), some (.bool false), some (.bool false), some (undef), some (undef), some (undef), some (.bool false), some (.bool false), some (undef), some (undef), some (undef), some (undef), some (undef), some (.bool false), none, some (.bool false)] : List (Option Value)).getD q_ none, fun h_ => match h_ with
         | [] => fun vs_ => [bl b4 34 [.int .i64 (o.fKind), .string o.fKey, .string o.fOther, .int .i64 o.fN, .int .i64 (0), .int .i64 (0)], bl b2 34 zv8, bl b1 34 (cOp o), fz X w]
         | [16] => fun vs_ => [bl b4 34 [.int .i64 (o.fKind), .string o.fKey, .string o.fOther, .int .i64 o.fN, .int .i64 (0), .int .i64 (0)], bl b2 34 (cOp ((⟨o.fKind, o.fKey, o.fOther, o.fN, 0, 0⟩ : TOp))), bl b1 34 (cOp o), fz X w]
         | _ => fun _ => [], [16], [[], [16]]⟩ (fun V => [bl b4 34 [.int .i64 (o.fKind), .string o.fKey, .string o.fOther, .int .i64 o.fN, .int .i64 (0), .int .i64 (0)], bl b2 34 (cOp ((⟨o.fKind, o.fKey, o.fOther, o.fN, 0, 0⟩ : TOp))), bl b1 34 (cOp o), fz X w]) mixed rfl rfl (show AllP _ [[16]] from ⟨fun _ => rfl, trivial⟩) ?_ ?_
       ·
        refine ⟨fun V De _=>aP1 (ldM 0 (cOp ((⟨o.fKind, o.fKey, o.fOther, o.fN, 0, 0⟩ : TOp))) G G row_34 G G<|oh G G G G),fun V De _=>aP2 (fa G fld_34_3 G<|oh G G G G) (fa G fld_34_3 G<|oh G G G G),fun V De _=>aP2 (ldB 2 G G one_3 G G<|oh G G G G) (ldB 2 G G one_3 G G<|oh G G G G),fun V De _=>aP2 (geI G G G<|nl (odH G G G (congrArg Value.bool (decide_eq_false hN)) Sn Sr)) (geI G G G<|nl (odH G G G (congrArg Value.bool (decide_eq_false hN)) Sn Sr)),fun V De _=>aP2 (mv G G<|oh G G G G) (mv G G<|oh G G G G),fun V De _=>aP2 (gN G G G G G<|oh G G G G) (gN G G G G G<|oh G G G G),fun V De _=>aP2 (gN G G G G G<|oh G G G G) (gN G G G G G<|oh G G G G),fun V De _=>aP2 (gN G G G G G<|oh G G G G) (gN G G G G G<|oh G G G G),?_⟩
        refine ⟨fun V De _=>aP2 (pkF G G G<|oh G G G G) (pkF G G G<|oh G G G G),fun V De _=>aP1 (mv G G<|oh G G G G),fun V De _=>aP2 (gN G G G G G<|oh G G G G) (gN G G G G G<|oh G G G G),fun V De _=>aP2 (gN G G G G G<|oh G G G G) (gN G G G G G<|oh G G G G),fun V De _=>aP2 (gN G G G G G<|oh G G G G) (gN G G G G G<|oh G G G G),fun V De _=>aP2 (gN G G G G G<|oh G G G G) (gN G G G G G<|oh G G G G),fun V De _=>aP2 (gN G G G G G<|oh G G G G) (gN G G G G G<|oh G G G G),fun V De _=>aP2 (pkF G G G<|oh G G G G) (pkF G G G<|oh G G G G),?_⟩
        exact ⟨fun V De _=>aP1 (stW 1 (us := (cOp ((⟨o.fKind, o.fKey, o.fOther, o.fN, 0, 0⟩ : TOp)))) G G G row_34 G G<|oh0 G G),fun V De _=>aP1 (asg G G<|oh G G G G),trivial⟩
       ·
        intro V _
        exact wkQ (L := [bl b4 34 [.int .i64 (o.fKind), .string o.fKey, .string o.fOther, .int .i64 o.fN, .int .i64 (0), .int .i64 (0)], bl b2 34 (cOp ((⟨o.fKind, o.fKey, o.fOther, o.fN, 0, 0⟩ : TOp))), bl b1 34 (cOp o), fz X w]) [(2, _), (3, .bool false)] [] ⟨G, G, trivial⟩ Sn<|nx<|rt<|bR<|tR<|fRG () [_, _, _] (rCT 1 G G G G row_34) (by simp only [Bool.not_eq_true', Bool.not_eq_false'] at h8; rw [plainO, plainB, h8]; (repeat' split) <;> first | rfl | (exfalso; omega) | contradiction | (simp [hN, hK]; done) | (simp [hN]; done)) G Sn
    ·
     refine sq<|rg<|eqI G G G<|asg G G<|nl<|nx<|cdP G (fun h51 => ?_) (fun h51 => ?_)
     ·
      refine sq ?_
      refine rgH ⟨fun q_ => ([[], [0], [], [2], [], [4, 1], [], [6, 3]] : List (List Nat)).getD q_ [], fun _ _ => True, fun _ _ => [], fun q_ => ([some (.pointer (some ⟨b1, 4, none⟩)), some (.int .i64 o.fLo), some (.pointer (some ⟨b1, 5, none⟩)), some (.int .i64 o.fHi), some (.pointer (some ⟨b4, 4, none⟩)), none, some (.pointer (some ⟨b4, 5, none⟩)), none] : List (Option Value)).getD q_ none, fun h_ => match h_ with
        | [] => fun vs_ => [bl b4 34 (cOp ((⟨o.fKind, o.fKey, ByteArray.empty, 0, 0, 0⟩ : TOp))), bl b2 34 zv8, bl b1 34 (cOp o), fz X w]
        | [5] => fun vs_ => [bl b4 34 [.int .i64 (o.fKind), .string o.fKey, .string ByteArray.empty, .int .i64 (0), .int .i64 o.fLo, .int .i64 (0)], bl b2 34 zv8, bl b1 34 (cOp o), fz X w]
        | [5, 7] => fun vs_ => [bl b4 34 [.int .i64 (o.fKind), .string o.fKey, .string ByteArray.empty, .int .i64 (0), .int .i64 o.fLo, .int .i64 o.fHi], bl b2 34 zv8, bl b1 34 (cOp o), fz X w]
        | _ => fun _ => [], [5, 7], [[], [5], [5, 7]]⟩ (fun V => [bl b4 34 [.int .i64 (o.fKind), .string o.fKey, .string ByteArray.empty, .int .i64 (0), .int .i64 o.fLo, .int .i64 o.fHi], bl b2 34 zv8, bl b1 34 (cOp o), fz X w]) mixed rfl rfl (show AllP _ [[5, 7]] from ⟨fun _ => rfl, trivial⟩) ?_ ?_
      ·
       exact ⟨fun V De _=>aP1 (fa G fld_34_4 G<|oh G G G G),fun V De _=>aP1 (ldB 2 G G one_3 G G<|oh G G G G),fun V De _=>aP2 (fa G fld_34_5 G<|oh G G G G) (fa G fld_34_5 G<|oh G G G G),fun V De _=>aP2 (ldB 2 G G one_3 G G<|oh G G G G) (ldB 2 G G one_3 G G<|oh G G G G),fun V De _=>aP1 (fa G fld_34_4 G<|oh G G G G),fun V De _=>aP1 (stB 0 G G G one_3 G (Nat.lt_of_lt_of_le (Nat.lt_succ_self _) (Nat.le_of_ble_eq_true G))<|oh0 G G),fun V De _=>aP1 (fa G fld_34_5 G<|oh G G G G),fun V De _=>aP1 (stB 0 G G G one_3 G (Nat.lt_of_lt_of_le (Nat.lt_succ_self _) (Nat.le_of_ble_eq_true G))<|oh0 G G),trivial⟩
      ·
       intro V _
       exact wkQ (L := [bl b4 34 [.int .i64 (o.fKind), .string o.fKey, .string ByteArray.empty, .int .i64 (0), .int .i64 o.fLo, .int .i64 o.fHi], bl b2 34 zv8, bl b1 34 (cOp o), fz X w]) [(2, _), (4, _)] [] ⟨G, G, trivial⟩ Sn<|nx<|sq<|rg<|ldM 0 (cOp ((⟨o.fKind, o.fKey, ByteArray.empty, 0, o.fLo, o.fHi⟩ : TOp))) G G row_34 G G<|stW 1 (us := (cOp ((⟨o.fKind, o.fKey, ByteArray.empty, 0, o.fLo, o.fHi⟩ : TOp)))) G G G row_34 G G<|asg G G<|nl<|nx<|rt<|bR<|tR<|fRG () [_, _, _] (rCT 1 G G G G row_34) (by simp only [Bool.not_eq_true', Bool.not_eq_false'] at h8; rw [plainO, plainB, h8]; (repeat' split) <;> first | rfl | (exfalso; omega) | contradiction | (simp [hN, hK]; done) | (simp [hN]; done)) G Sn
     ·
      refine sq<|sq<|rg<|eqI G G G<|asg G G<|nl<|nx<|cdP G (fun h60 => ?_) (fun h60 => ?_)
      ·
       refine sk<|nx<|cdP G (fun h60 => ?_) (fun h60 => ?_)
       ·
        exact sq<|rg<|ldM 0 (cOp ((⟨o.fKind, o.fKey, ByteArray.empty, 0, 0, 0⟩ : TOp))) G G row_34 G G<|stW 1 (us := (cOp ((⟨o.fKind, o.fKey, ByteArray.empty, 0, 0, 0⟩ : TOp)))) G G G row_34 G G<|asg G G<|nl<|nx<|rt<|bR<|tR<|fRG () [_, _, _] (rCT 1 G G G G row_34) (by simp only [Bool.not_eq_true', Bool.not_eq_false'] at h8; rw [plainO, plainB, h8]; (repeat' split) <;> first | rfl | (exfalso; omega) | contradiction | (simp [hN, hK]; done) | (simp [hN]; done)) G Sn
       ·
        exact sk<|bN<|nx<|sq<|rg<|bd (ps := []) (cs := (cOp ((⟨0, ByteArray.empty, ByteArray.empty, 0, 0, 0⟩ : TOp)))) (by rfl) (by kernel_rfl) G<|stW 1 (us := (cOp ((⟨0, ByteArray.empty, ByteArray.empty, 0, 0, 0⟩ : TOp)))) G G G row_34 G G<|asg G G<|nl<|nx<|rt<|fRG () [_, _, _] (rCT 1 G G G G row_34) (by simp only [Bool.not_eq_true', Bool.not_eq_false'] at h8; rw [plainO, plainB, h8]; (repeat' split) <;> first | rfl | (exfalso; omega) | contradiction | (simp [hN, hK]; done) | (simp [hN]; done)) G Sn
      ·
       refine sq<|rg<|eqI G G G<|asg G G<|nl<|nx<|cdP G (fun h60 => ?_) (fun h60 => ?_)
       ·
        refine sk<|nx<|cdP G (fun h60 => ?_) (fun h60 => ?_)
        ·
         exact sq<|rg<|ldM 0 (cOp ((⟨o.fKind, o.fKey, ByteArray.empty, 0, 0, 0⟩ : TOp))) G G row_34 G G<|stW 1 (us := (cOp ((⟨o.fKind, o.fKey, ByteArray.empty, 0, 0, 0⟩ : TOp)))) G G G row_34 G G<|asg G G<|nl<|nx<|rt<|bR<|tR<|fRG () [_, _, _] (rCT 1 G G G G row_34) (by simp only [Bool.not_eq_true', Bool.not_eq_false'] at h8; rw [plainO, plainB, h8]; (repeat' split) <;> first | rfl | (exfalso; omega) | contradiction | (simp [hN, hK]; done) | (simp [hN]; done)) G Sn
        ·
         exact sk<|bN<|nx<|sq<|rg<|bd (ps := []) (cs := (cOp ((⟨0, ByteArray.empty, ByteArray.empty, 0, 0, 0⟩ : TOp)))) (by rfl) (by kernel_rfl) G<|stW 1 (us := (cOp ((⟨0, ByteArray.empty, ByteArray.empty, 0, 0, 0⟩ : TOp)))) G G G row_34 G G<|asg G G<|nl<|nx<|rt<|fRG () [_, _, _] (rCT 1 G G G G row_34) (by simp only [Bool.not_eq_true', Bool.not_eq_false'] at h8; rw [plainO, plainB, h8]; (repeat' split) <;> first | rfl | (exfalso; omega) | contradiction | (simp [hN, hK]; done) | (simp [hN]; done)) G Sn
       ·
        refine sq<|rg<|eqI G G G<|asg G G<|nl<|nx<|cdP G (fun h60 => ?_) (fun h60 => ?_)
        ·
         refine sk<|nx<|cdP G (fun h60 => ?_) (fun h60 => ?_)
         ·
          exact sq<|rg<|ldM 0 (cOp ((⟨o.fKind, o.fKey, ByteArray.empty, 0, 0, 0⟩ : TOp))) G G row_34 G G<|stW 1 (us := (cOp ((⟨o.fKind, o.fKey, ByteArray.empty, 0, 0, 0⟩ : TOp)))) G G G row_34 G G<|asg G G<|nl<|nx<|rt<|bR<|tR<|fRG () [_, _, _] (rCT 1 G G G G row_34) (by simp only [Bool.not_eq_true', Bool.not_eq_false'] at h8; rw [plainO, plainB, h8]; (repeat' split) <;> first | rfl | (exfalso; omega) | contradiction | (simp [hN, hK]; done) | (simp [hN]; done)) G Sn
         ·
          exact sk<|bN<|nx<|sq<|rg<|bd (ps := []) (cs := (cOp ((⟨0, ByteArray.empty, ByteArray.empty, 0, 0, 0⟩ : TOp)))) (by rfl) (by kernel_rfl) G<|stW 1 (us := (cOp ((⟨0, ByteArray.empty, ByteArray.empty, 0, 0, 0⟩ : TOp)))) G G G row_34 G G<|asg G G<|nl<|nx<|rt<|fRG () [_, _, _] (rCT 1 G G G G row_34) (by simp only [Bool.not_eq_true', Bool.not_eq_false'] at h8; rw [plainO, plainB, h8]; (repeat' split) <;> first | rfl | (exfalso; omega) | contradiction | (simp [hN, hK]; done) | (simp [hN]; done)) G Sn
        ·
         refine rg<|eqI G G G<|asg G G<|nl<|nx<|cdP G (fun h60 => ?_) (fun h60 => ?_)
         ·
          exact sq<|rg<|ldM 0 (cOp ((⟨o.fKind, o.fKey, ByteArray.empty, 0, 0, 0⟩ : TOp))) G G row_34 G G<|stW 1 (us := (cOp ((⟨o.fKind, o.fKey, ByteArray.empty, 0, 0, 0⟩ : TOp)))) G G G row_34 G G<|asg G G<|nl<|nx<|rt<|bR<|tR<|fRG () [_, _, _] (rCT 1 G G G G row_34) (by simp only [Bool.not_eq_true', Bool.not_eq_false'] at h8; rw [plainO, plainB, h8]; (repeat' split) <;> first | rfl | (exfalso; omega) | contradiction | (simp [hN, hK]; done) | (simp [hN]; done)) G Sn
         ·
          exact sk<|bN<|nx<|sq<|rg<|bd (ps := []) (cs := (cOp ((⟨0, ByteArray.empty, ByteArray.empty, 0, 0, 0⟩ : TOp)))) (by rfl) (by kernel_rfl) G<|stW 1 (us := (cOp ((⟨0, ByteArray.empty, ByteArray.empty, 0, 0, 0⟩ : TOp)))) G G G row_34 G G<|asg G G<|nl<|nx<|rt<|fRG () [_, _, _] (rCT 1 G G G G row_34) (by simp only [Bool.not_eq_true', Bool.not_eq_false'] at h8; rw [plainO, plainB, h8]; (repeat' split) <;> first | rfl | (exfalso; omega) | contradiction | (simp [hN, hK]; done) | (simp [hN]; done)) G Sn
end Go.Proofs.YtmpoffijcfaalaaGreat
