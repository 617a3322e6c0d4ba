/- Part 12 of the proof of dutyQuiet_holds: DutW2, DutWA, Eng21. Every text below begins with what it shows. -/
import Derived.OrdersIn
import Derived.RangeFuncNested
import Derived.RangeFuncLeaves
import Derived.Test.YtmpoffijcfaalaaGreatQu11

/- Walks, written by specs2.py. -/

namespace Go.Proofs.YtmpoffijcfaalaaGreat
open Go.Eng Go.YtmpoffijcfaalaaGreat
set_option maxHeartbeats 1000000

theorem has_c (s : TSpan) (v : Int) (h_s : s.wf) (h_v : InI v) : FnV Tryz.prog 165 [.agg (cSpan s).toArray, .int .i64 v] [] (.bool (hasP s v)) := by
 refine Fnc.proof Tryz.func165 G 15 G G fun X w => ?_
 obtain ⟨h_v1, h_v2⟩ := id h_v
 refine sq<|rg<|bx G G G fun b2 => asg G G<|nl<|nx<|sq<|rg<|fa G fld_65_0 G<|ldB 0 G G one_3 G G<|mv G G<|leI G G G<|mv G G ?_
 apply jo [] trivial
 ·
  intro K14
  refine spA (i := 9) G (fun h9 => ?_) (fun h9 => ?_)
  ·
   have p9 := of_decide_eq_true h9
   exact gY G G G<|mv G G<|gY G G G<|fa G fld_65_1 G<|gY G G G<|ldB 0 G G one_3 G G<|gY G G G<|leI G G G<|pkT G G G<|jA K14 h9 trivial Sr
  ·
   exact gS (g := [_, _, _, _]) G<|pkF G G G<|jA0 K14 h9 trivial Sr
 refine asg G G<|nl<|nx<|rt<|dpQ ?_
 exact fR1 () G G (by rfl) G Sn

theorem has01_c (s : TSpan) (v : Int) (h_s : s.wf) (h_v : InI v) : FnV Tryz.prog 153 [.agg (cSpan s).toArray, .int .i64 v] [] (.bool (hasP s v)) := by
 refine Fnc.proof Tryz.func153 G 15 G G fun X w => ?_
 obtain ⟨h_v1, h_v2⟩ := id h_v
 refine sq<|rg<|bx G G G fun b2 => asg G G<|nl<|nx<|sq<|rg<|fa G fld_65_0 G<|ldB 0 G G one_3 G G<|mv G G<|leI G G G<|mv G G ?_
 apply jo [] trivial
 ·
  intro K14
  refine spA (i := 9) G (fun h9 => ?_) (fun h9 => ?_)
  ·
   have p9 := of_decide_eq_true h9
   exact gY G G G<|mv G G<|gY G G G<|fa G fld_65_1 G<|gY G G G<|ldB 0 G G one_3 G G<|gY G G G<|leI G G G<|pkT G G G<|jA K14 h9 trivial Sr
  ·
   exact gS (g := [_, _, _, _]) G<|pkF G G G<|jA0 K14 h9 trivial Sr
 refine asg G G<|nl<|nx<|rt<|dpQ ?_
 exact fR1 () G G (by rfl) G Sn

theorem owns_c (s : TState) (s_0 s_1 s_2 s_3 s_4 s_5 : Value) (key : ByteArray) (h_s : s.wf) : FnV Tryz.prog 78 [.agg (cState s s_0 s_1 s_2 s_3 s_4 s_5).toArray, .string key] [⟨s_0, s.fAccounts⟩, ⟨s_1, s.fMarks⟩, ⟨s_2, s.fWaits⟩, ⟨s_3, s.fDeals⟩, ⟨s_4, s.fEnds⟩, ⟨s_5, s.fImage⟩] (.bool (ownsP s key)) := by
 refine Fnc.proof Tryz.func78 G 15 G G fun X w => sq<|rg<|bx G G G fun b2 => asg G G<|nl<|nx<|sq<|rg<|fa G fld_55_2 G<|ldB 0 G G one_4 G G<|mv G G ?_
 apply jo [] trivial
 ·
  intro K14
  refine spA (i := 7) G (fun h7 => ?_) (fun h7 => ?_)
  ·
   exact gY G G G<|fa G fld_55_3 G<|gY G G G<|ldB 0 G G one_9 G G<|gY G G G<|fa G fld_55_4 G<|gY G G G<|ldB 0 G G one_9 G G<|gY G G G<|mv G G<|gY G G G<|cfv (within_c _ _ _) ok_80 G Sn G<|pkT G G G<|jA K14 h7 trivial Sr
  ·
   exact gS (g := [_, _, _, _, _, _]) G<|pkF G G G<|jA0 K14 h7 trivial Sr
 refine asg G G<|nl<|nx<|rt<|dpQ ?_
 exact fR1 () G G (by rfl) G Sn

theorem owns19_c (s : TState) (s_0 s_1 s_2 s_3 s_4 s_5 : Value) (key : ByteArray) (h_s : s.wf) : FnV Tryz.prog 81 [.agg (cState s s_0 s_1 s_2 s_3 s_4 s_5).toArray, .string key] [⟨s_0, s.fAccounts⟩, ⟨s_1, s.fMarks⟩, ⟨s_2, s.fWaits⟩, ⟨s_3, s.fDeals⟩, ⟨s_4, s.fEnds⟩, ⟨s_5, s.fImage⟩] (.bool (ownsP s key)) := by
 refine Fnc.proof Tryz.func81 G 15 G G fun X w => sq<|rg<|bx G G G fun b2 => asg G G<|nl<|nx<|sq<|rg<|fa G fld_55_2 G<|ldB 0 G G one_4 G G<|mv G G ?_
 apply jo [] trivial
 ·
  intro K14
  refine spA (i := 7) G (fun h7 => ?_) (fun h7 => ?_)
  ·
   exact gY G G G<|fa G fld_55_3 G<|gY G G G<|ldB 0 G G one_9 G G<|gY G G G<|fa G fld_55_4 G<|gY G G G<|ldB 0 G G one_9 G G<|gY G G G<|mv G G<|gY G G G<|cfv (within17_c _ _ _) ok_82 G Sn G<|pkT G G G<|jA K14 h7 trivial Sr
  ·
   exact gS (g := [_, _, _, _, _, _]) G<|pkF G G G<|jA0 K14 h7 trivial Sr
 refine asg G G<|nl<|nx<|rt<|dpQ ?_
 exact fR1 () G G (by rfl) G Sn

theorem sealed_c (s : TState) (s_0 s_1 s_2 s_3 s_4 s_5 : Value) (key : ByteArray) (h_s : s.wf) : FnV Tryz.prog 242 [.agg (cState s s_0 s_1 s_2 s_3 s_4 s_5).toArray, .string key] [⟨s_0, s.fAccounts⟩, ⟨s_1, s.fMarks⟩, ⟨s_2, s.fWaits⟩, ⟨s_3, s.fDeals⟩, ⟨s_4, s.fEnds⟩, ⟨s_5, s.fImage⟩] (.bool (sealedP s key)) := by
 refine Fnc.proof Tryz.func242 G 19 G G fun X w => sq<|rg<|bx G G G fun b2 => asg G G<|nl<|nx<|sq<|rg<|fa G fld_55_11 G<|fa G fld_24_0 G<|ldB 0 G G one_3 G G<|neI G G G<|mv G G ?_
 apply jo [] trivial
 ·
  intro K18
  refine spA (i := 9) G (fun h9 => ?_) (fun h9 => ?_)
  ·
   have p9 := h9
   simp only [Bool.not_eq_true', Bool.not_eq_false', decide_eq_true_eq, decide_eq_false_iff_not] at p9
   refine gY G G G<|fa G fld_55_11 G<|gY G G G<|fa G fld_24_3 G<|gY G G G<|ldB 0 G G one_9 G G<|gY G G G<|fa G fld_55_11 G<|gY G G G<|fa G fld_24_4 G<|gY G G G<|ldB 0 G G one_9 G G<|gY G G G<|mv G G ?_
   exact gY G G G<|cfv (within_c _ _ _) ok_80 G Sn G<|pkT G G G<|jA K18 h9 trivial Sr
  ·
   exact gS (g := [_, _, _, _, _, _, _, _]) G<|pkF G G G<|jA0 K18 h9 trivial Sr
 refine asg G G<|nl<|nx<|rt<|dpQ ?_
 exact fR1 () G G (by rfl) G Sn

theorem sealed19_c (s : TState) (s_0 s_1 s_2 s_3 s_4 s_5 : Value) (key : ByteArray) (h_s : s.wf) : FnV Tryz.prog 196 [.agg (cState s s_0 s_1 s_2 s_3 s_4 s_5).toArray, .string key] [⟨s_0, s.fAccounts⟩, ⟨s_1, s.fMarks⟩, ⟨s_2, s.fWaits⟩, ⟨s_3, s.fDeals⟩, ⟨s_4, s.fEnds⟩, ⟨s_5, s.fImage⟩] (.bool (sealedP s key)) := by
 refine Fnc.proof Tryz.func196 G 19 G G fun X w => sq<|rg<|bx G G G fun b2 => asg G G<|nl<|nx<|sq<|rg<|fa G fld_55_11 G<|fa G fld_24_0 G<|ldB 0 G G one_3 G G<|neI G G G<|mv G G ?_
 apply jo [] trivial
 ·
  intro K18
  refine spA (i := 9) G (fun h9 => ?_) (fun h9 => ?_)
  ·
   have p9 := h9
   simp only [Bool.not_eq_true', Bool.not_eq_false', decide_eq_true_eq, decide_eq_false_iff_not] at p9
   refine gY G G G<|fa G fld_55_11 G<|gY G G G<|fa G fld_24_3 G<|gY G G G<|ldB 0 G G one_9 G G<|gY G G G<|fa G fld_55_11 G<|gY G G G<|fa G fld_24_4 G<|gY G G G<|ldB 0 G G one_9 G G<|gY G G G<|mv G G ?_
   exact gY G G G<|cfv (within17_c _ _ _) ok_82 G Sn G<|pkT G G G<|jA K18 h9 trivial Sr
  ·
   exact gS (g := [_, _, _, _, _, _, _, _]) G<|pkF G G G<|jA0 K18 h9 trivial Sr
 refine asg G G<|nl<|nx<|rt<|dpQ ?_
 exact fR1 () G G (by rfl) G Sn

theorem planned_c (p : TPlan) (h_p : p.wf) : FnV Tryz.prog 186 [.agg (cPlan p).toArray] [] (.bool (plannedP p)) := by
 refine Fnc.proof Tryz.func186 G 35 G G fun X w => sq<|rg<|bx G G G fun b1 => asg G G<|nl<|nx<|sq<|rg<|fa G fld_24_0 G<|ldB 0 G G one_3 G G<|geI G G G<|mv G G ?_
 apply jo [(1, _)] ⟨rfl, trivial⟩
 ·
  intro K10
  refine spA (i := 6) G (fun h6 => ?_) (fun h6 => ?_)
  ·
   have p6 := of_decide_eq_true h6
   exact gY G G G<|fa G fld_24_0 G<|gY G G G<|ldB 0 G G one_3 G G<|gY G G G<|leI G G G<|pkT G G G<|jA K10 h6 ⟨G, trivial⟩ Sr
  ·
   exact gS (g := [_, _, _]) G<|pkF G G G<|jA0 K10 h6 ⟨G, trivial⟩ Sr
 refine mv G G ?_
 apply jo [(1, _)] ⟨rfl, trivial⟩
 ·
  intro K15
  refine spA (i := 11) G (fun h11 => ?_) (fun h11 => ?_)
  ·
   exact gY G G G<|fa G fld_24_1 G<|gY G G G<|ldB 0 G G one_3 G G<|gY G G G<|cfv (sgroup_c _ h_p.2.1) ok_169 G Sn G<|pkT G G G<|jA K15 h11 ⟨G, trivial⟩ Sr
  ·
   exact gS (g := [_, _, _]) G<|pkF G G G<|jA0 K15 h11 ⟨G, trivial⟩ Sr
 refine mv G G ?_
 apply jo [(1, _)] ⟨rfl, trivial⟩
 ·
  intro K20
  refine spA (i := 16) G (fun h16 => ?_) (fun h16 => ?_)
  ·
   exact gY G G G<|fa G fld_24_2 G<|gY G G G<|ldB 0 G G one_3 G G<|gY G G G<|cfv (sgroup_c _ h_p.2.2.1) ok_169 G Sn G<|pkT G G G<|jA K20 h16 ⟨G, trivial⟩ Sr
  ·
   exact gS (g := [_, _, _]) G<|pkF G G G<|jA0 K20 h16 ⟨G, trivial⟩ Sr
 refine mv G G ?_
 apply jo [(1, _)] ⟨rfl, trivial⟩
 ·
  intro K27
  refine spA (i := 21) G (fun h21 => ?_) (fun h21 => ?_)
  ·
   exact gY G G G<|fa G fld_24_1 G<|gY G G G<|ldB 0 G G one_3 G G<|gY G G G<|fa G fld_24_2 G<|gY G G G<|ldB 0 G G one_3 G G<|gY G G G<|neI G G G<|pkT G G G<|jA K27 h21 ⟨G, trivial⟩ Sr
  ·
   exact gS (g := [_, _, _, _, _]) G<|pkF G G G<|jA0 K27 h21 ⟨G, trivial⟩ Sr
 refine mv G G ?_
 apply jo [] trivial
 ·
  intro K34
  refine spA (i := 28) G (fun h28 => ?_) (fun h28 => ?_)
  ·
   exact gY G G G<|fa G fld_24_3 G<|gY G G G<|ldB 0 G G one_9 G G<|gY G G G<|fa G fld_24_4 G<|gY G G G<|ldB 0 G G one_9 G G<|gY G G G<|cfv (spans_c _ _) ok_237 G Sn G<|pkT G G G<|jA K34 h28 trivial Sr
  ·
   exact gS (g := [_, _, _, _, _]) G<|pkF G G G<|jA0 K34 h28 trivial Sr
 refine asg G G<|nl<|nx<|rt<|dpQ ?_
 exact fR1 () G G (by rfl) G Sn

theorem plan19_c (p : TPlan) (h_p : p.wf) : FnV Tryz.prog 139 [.agg (cPlan p).toArray] [] (.bool (plan19 p)) := by
 refine Fnc.proof Tryz.func139 G 35 G G fun X w => sq<|rg<|bx G G G fun b1 => asg G G<|nl<|nx<|sq<|rg<|fa G fld_24_0 G<|ldB 0 G G one_3 G G<|cfv (number19_c _ h_p.1) ok_133 G Sn G<|mv G G ?_
 apply jo [(1, _)] ⟨rfl, trivial⟩
 ·
  intro K10
  refine spA (i := 6) G (fun h6 => ?_) (fun h6 => ?_)
  ·
   exact gY G G G<|fa G fld_24_0 G<|gY G G G<|ldB 0 G G one_3 G G<|gY G G G<|gtI G G G<|pkT G G G<|jA K10 h6 ⟨G, trivial⟩ Sr
  ·
   exact gS (g := [_, _, _]) G<|pkF G G G<|jA0 K10 h6 ⟨G, trivial⟩ Sr
 refine mv G G ?_
 apply jo [(1, _)] ⟨rfl, trivial⟩
 ·
  intro K15
  refine spA (i := 11) G (fun h11 => ?_) (fun h11 => ?_)
  ·
   exact gY G G G<|fa G fld_24_1 G<|gY G G G<|ldB 0 G G one_3 G G<|gY G G G<|cfv (group19_c _ h_p.2.1) ok_132 G Sn G<|pkT G G G<|jA K15 h11 ⟨G, trivial⟩ Sr
  ·
   exact gS (g := [_, _, _]) G<|pkF G G G<|jA0 K15 h11 ⟨G, trivial⟩ Sr
 refine mv G G ?_
 apply jo [(1, _)] ⟨rfl, trivial⟩
 ·
  intro K20
  refine spA (i := 16) G (fun h16 => ?_) (fun h16 => ?_)
  ·
   exact gY G G G<|fa G fld_24_2 G<|gY G G G<|ldB 0 G G one_3 G G<|gY G G G<|cfv (group19_c _ h_p.2.2.1) ok_132 G Sn G<|pkT G G G<|jA K20 h16 ⟨G, trivial⟩ Sr
  ·
   exact gS (g := [_, _, _]) G<|pkF G G G<|jA0 K20 h16 ⟨G, trivial⟩ Sr
 refine mv G G ?_
 apply jo [(1, _)] ⟨rfl, trivial⟩
 ·
  intro K27
  refine spA (i := 21) G (fun h21 => ?_) (fun h21 => ?_)
  ·
   exact gY G G G<|fa G fld_24_1 G<|gY G G G<|ldB 0 G G one_3 G G<|gY G G G<|fa G fld_24_2 G<|gY G G G<|ldB 0 G G one_3 G G<|gY G G G<|neI G G G<|pkT G G G<|jA K27 h21 ⟨G, trivial⟩ Sr
  ·
   exact gS (g := [_, _, _, _, _]) G<|pkF G G G<|jA0 K27 h21 ⟨G, trivial⟩ Sr
 refine mv G G ?_
 apply jo [] trivial
 ·
  intro K34
  refine spA (i := 28) G (fun h28 => ?_) (fun h28 => ?_)
  ·
   exact gY G G G<|fa G fld_24_3 G<|gY G G G<|ldB 0 G G one_9 G G<|gY G G G<|fa G fld_24_4 G<|gY G G G<|ldB 0 G G one_9 G G<|gY G G G<|cfv (span19_c _ _) ok_134 G Sn G<|pkT G G G<|jA K34 h28 trivial Sr
  ·
   exact gS (g := [_, _, _, _, _]) G<|pkF G G G<|jA0 K34 h28 trivial Sr
 refine asg G G<|nl<|nx<|rt<|dpQ ?_
 exact fR1 () G G (by rfl) G Sn

theorem keeper_c (l : TLock) (h_l : l.wf) : FnV Tryz.prog 225 [.agg (cLock l).toArray] [] (.bool (keeperP l)) := by
 refine Fnc.proof Tryz.func225 G 21 G G fun X w => sq<|rg<|bx G G G fun b1 => asg G G<|nl<|nx<|sq<|rg<|fa G fld_68_0 G<|ldB 0 G G one_3 G G<|geI G G G<|mv G G ?_
 apply jo [(1, _)] ⟨rfl, trivial⟩
 ·
  intro K10
  refine spA (i := 6) G (fun h6 => ?_) (fun h6 => ?_)
  ·
   have p6 := of_decide_eq_true h6
   exact gY G G G<|fa G fld_68_1 G<|gY G G G<|ldB 0 G G one_3 G G<|gY G G G<|geI G G G<|pkT G G G<|jA K10 h6 ⟨G, trivial⟩ Sr
  ·
   exact gS (g := [_, _, _]) G<|pkF G G G<|jA0 K10 h6 ⟨G, trivial⟩ Sr
 refine mv G G ?_
 apply jo [(1, _)] ⟨rfl, trivial⟩
 ·
  intro K15
  refine spA (i := 11) G (fun h11 => ?_) (fun h11 => ?_)
  ·
   exact gY G G G<|fa G fld_68_2 G<|gY G G G<|ldB 0 G G one_3 G G<|gY G G G<|geI G G G<|pkT G G G<|jA K15 h11 ⟨G, trivial⟩ Sr
  ·
   exact gS (g := [_, _, _]) G<|pkF G G G<|jA0 K15 h11 ⟨G, trivial⟩ Sr
 refine mv G G ?_
 apply jo [] trivial
 ·
  intro K20
  refine spA (i := 16) G (fun h16 => ?_) (fun h16 => ?_)
  ·
   exact gY G G G<|fa G fld_68_2 G<|gY G G G<|ldB 0 G G one_3 G G<|gY G G G<|ltI G G G<|pkT G G G<|jA K20 h16 trivial Sr
  ·
   exact gS (g := [_, _, _]) G<|pkF G G G<|jA0 K20 h16 trivial Sr
 refine asg G G<|nl<|nx<|rt<|dpQ ?_
 exact fR1 () G G (by rfl) G Sn

theorem locked_c (a : TAccount) (a_0 : Value) (h_a : a.wf) : FnV Tryz.prog 167 [.agg (cAccount a a_0).toArray] [⟨a_0, a.fHolders⟩] (.bool (lockedP a)) := by
 refine Fnc.proof Tryz.func167 G 7 G G fun X w => sq<|rg<|bx G G G fun b1 => asg G G<|nl<|nx<|sq<|rg<|fa G fld_70_5 G<|fa G fld_68_0 G<|ldB 0 G G one_3 G G<|neI G G G<|asg G G ?_
 refine nl<|nx<|rt<|dpQ ?_
 exact fR1 () G G (by rfl) G Sn

theorem fate_c (m : Int) (t : Int) (h_m : InI m) (h_t : InI t) : FnV Tryz.prog 284 [.int .i64 m, .int .i64 t] [] (.int .i64 (fateP m t)) := by
 refine Fnc.proof Tryz.func284 G 19 G G fun X w => ?_
 obtain ⟨h_m1, h_m2⟩ := id h_m
 obtain ⟨h_t1, h_t2⟩ := id h_t
 refine sq<|rg<|asg G G<|nl<|nx<|sq<|bk<|sq<|rg<|mv G G<|eqI G G G<|mv G G ?_
 apply jo [(0, _), (1, _)] ⟨rfl, rfl, trivial⟩
 ·
  intro K11
  refine spO (i := 8) G (fun h8 => ?_) (fun h8 => ?_)
  ·
   have p8 := of_decide_eq_false h8
   exact gY G G G<|mv G G<|gY G G G<|eqI G G G<|pkF G G G<|jR K11 h8 ⟨G, G, trivial⟩ Sr
  ·
   exact gS (g := [_, _]) G<|pkT G G G<|jR0 K11 h8 ⟨G, G, trivial⟩ Sr
 refine asg G G<|nl<|nx<|cdB G (fun h5 => ?_) (fun h5 => ?_)
 ·
  refine sq<|rg<|asg G G<|nl<|nx<|rt<|bR<|tR ?_
  exact fR1 () G G (by simp_all [fateP]) G Sn
 ·
  refine sq<|rg<|mv G G<|eqI G G G<|mv G G ?_
  apply jo [] trivial
  ·
   intro K18
   refine spA (i := 15) G (fun h15 => ?_) (fun h15 => ?_)
   ·
    have p15 := of_decide_eq_true h15
    exact gY G G G<|mv G G<|gY G G G<|eqI G G G<|pkT G G G<|jA K18 h15 trivial Sr
   ·
    exact gS (g := [_, _]) G<|pkF G G G<|jA0 K18 h15 trivial Sr
  refine asg G G<|nl<|nx<|cdB G (fun h12 => ?_) (fun h12 => ?_)
  ·
   refine sq<|rg<|asg G G<|nl<|nx<|rt<|bR<|tR ?_
   exact fR1 () G G (by simp_all [fateP]) G Sn
  ·
   refine sk<|bN<|nx<|sq<|rg<|asg G G<|nl<|nx<|rt ?_
   exact fR1 () G G (by simp_all [fateP]) G Sn

theorem fate18_c (m : Int) (t : Int) (h_m : InI m) (h_t : InI t) : FnV Tryz.prog 246 [.int .i64 m, .int .i64 t] [] (.int .i64 (fate18 m t)) := by
 refine Fnc.proof Tryz.func246 G 19 G G fun X w => ?_
 obtain ⟨h_m1, h_m2⟩ := id h_m
 obtain ⟨h_t1, h_t2⟩ := id h_t
 refine sq<|rg<|asg G G<|nl<|nx<|sq<|bk<|sq<|rg<|mv G G<|eqI G G G<|mv G G ?_
 apply jo [(0, _), (1, _)] ⟨rfl, rfl, trivial⟩
 ·
  intro K11
  refine spA (i := 8) G (fun h8 => ?_) (fun h8 => ?_)
  ·
   have p8 := of_decide_eq_true h8
   exact gY G G G<|mv G G<|gY G G G<|eqI G G G<|pkT G G G<|jA K11 h8 ⟨G, G, trivial⟩ Sr
  ·
   exact gS (g := [_, _]) G<|pkF G G G<|jA0 K11 h8 ⟨G, G, trivial⟩ Sr
 refine asg G G<|nl<|nx<|cdB G (fun h5 => ?_) (fun h5 => ?_)
 ·
  refine sq<|rg<|asg G G<|nl<|nx<|rt<|bR<|tR ?_
  exact fR1 () G G (by simp_all [fate18]) G Sn
 ·
  refine sq<|rg<|mv G G<|eqI G G G<|mv G G ?_
  apply jo [] trivial
  ·
   intro K18
   refine spO (i := 15) G (fun h15 => ?_) (fun h15 => ?_)
   ·
    have p15 := of_decide_eq_false h15
    exact gY G G G<|mv G G<|gY G G G<|eqI G G G<|pkF G G G<|jR K18 h15 trivial Sr
   ·
    exact gS (g := [_, _]) G<|pkT G G G<|jR0 K18 h15 trivial Sr
  refine asg G G<|nl<|nx<|cdB G (fun h12 => ?_) (fun h12 => ?_)
  ·
   refine sq<|rg<|asg G G<|nl<|nx<|rt<|bR<|tR ?_
   exact fR1 () G G (by simp_all [fate18]) G Sn
  ·
   refine sk<|bN<|nx<|sq<|rg<|asg G G<|nl<|nx<|rt ?_
   exact fR1 () G G (by simp_all [fate18]) G Sn

theorem lmay_c (r : TRight) (h_r : r.wf) : FnV Tryz.prog 124 [.agg (cRight r).toArray] [] (.bool (lmayP r)) := by
 refine Fnc.proof Tryz.func124 G 23 G G fun X w => sq<|rg<|bx G G G fun b1 => asg G G<|nl<|nx<|sq<|rg<|fa G fld_59_0 G<|ldB 0 G G one_3 G G<|cfv (lgroup_c _ h_r.1) ok_98 G Sn G<|mv G G ?_
 apply jo [(1, _)] ⟨rfl, trivial⟩
 ·
  intro K11
  refine spA (i := 6) G (fun h6 => ?_) (fun h6 => ?_)
  ·
   exact gY G G G<|fa G fld_59_1 G<|gY G G G<|ldB 0 G G one_9 G G<|gY G G G<|lnS G Tryz.underlying9 G<|gY G G G<|geI G G G<|pkT G G G<|jA K11 h6 ⟨G, trivial⟩ Sr
  ·
   exact gS (g := [_, _, _, _]) G<|pkF G G G<|jA0 K11 h6 ⟨G, trivial⟩ Sr
 refine mv G G ?_
 apply jo [(1, _)] ⟨rfl, trivial⟩
 ·
  intro K17
  refine spA (i := 12) G (fun h12 => ?_) (fun h12 => ?_)
  ·
   exact gY G G G<|fa G fld_59_1 G<|gY G G G<|ldB 0 G G one_9 G G<|gY G G G<|lnS G Tryz.underlying9 G<|gY G G G<|leI G G G<|pkT G G G<|jA K17 h12 ⟨G, trivial⟩ Sr
  ·
   exact gS (g := [_, _, _, _]) G<|pkF G G G<|jA0 K17 h12 ⟨G, trivial⟩ Sr
 refine mv G G ?_
 apply jo [] trivial
 ·
  intro K22
  refine spA (i := 18) G (fun h18 => ?_) (fun h18 => ?_)
  ·
   exact gY G G G<|fa G fld_59_2 G<|gY G G G<|ldB 0 G G one_3 G G<|gY G G G<|geI G G G<|pkT G G G<|jA K22 h18 trivial Sr
  ·
   exact gS (g := [_, _, _]) G<|pkF G G G<|jA0 K22 h18 trivial Sr
 refine asg G G<|nl<|nx<|rt<|dpQ ?_
 exact fR1 () G G (by rfl) G Sn

theorem lmay16_c (r : TRight) (h_r : r.wf) : FnV Tryz.prog 130 [.agg (cRight r).toArray] [] (.bool (lmay16 r)) := by
 refine Fnc.proof Tryz.func130 G 16 G G fun X w => sq<|rg<|bx G G G fun b1 => asg G G<|nl<|nx<|sq<|rg<|fa G fld_59_0 G<|ldB 0 G G one_3 G G<|cfv (group16_c _ h_r.1) ok_102 G Sn G<|mv G G ?_
 apply jo [(1, _)] ⟨rfl, trivial⟩
 ·
  intro K10
  refine spA (i := 6) G (fun h6 => ?_) (fun h6 => ?_)
  ·
   exact gY G G G<|fa G fld_59_1 G<|gY G G G<|ldB 0 G G one_9 G G<|gY G G G<|cfv (key15_c _) ok_168 G Sn G<|pkT G G G<|jA K10 h6 ⟨G, trivial⟩ Sr
  ·
   exact gS (g := [_, _, _]) G<|pkF G G G<|jA0 K10 h6 ⟨G, trivial⟩ Sr
 refine mv G G ?_
 apply jo [] trivial
 ·
  intro K15
  refine spA (i := 11) G (fun h11 => ?_) (fun h11 => ?_)
  ·
   exact gY G G G<|fa G fld_59_2 G<|gY G G G<|ldB 0 G G one_3 G G<|gY G G G<|geI G G G<|pkT G G G<|jA K15 h11 trivial Sr
  ·
   exact gS (g := [_, _, _]) G<|pkF G G G<|jA0 K15 h11 trivial Sr
 refine asg G G<|nl<|nx<|rt<|dpQ ?_
 exact fR1 () G G (by rfl) G Sn

theorem end_c (v_l : Value) (l : List TPlace) (i : Int) (h_i : InI i) : FnV Tryz.prog 245 [v_l, .int .i64 i] [⟨v_l, l⟩] (.string (endP l i)) := by
 refine Fnc.proof Tryz.func245 G 20 G G fun X w => ?_
 obtain ⟨h_i1, h_i2⟩ := id h_i
 refine gtC (q := l.length ≤ 9223372036854775807) (fun S w h => list_len (h _ (List.mem_of_getElem? (i := 0) G))) fun hlen => sq<|rg<|asg G G<|nl<|nx<|sq<|sq<|rg<|mv G G<|ltI G G G<|mv G G ?_
 apply jo [(0, _), (1, _)] ⟨rfl, rfl, trivial⟩
 ·
  intro K13
  refine spO (i := 7) G (fun h7 => ?_) (fun h7 => ?_)
  ·
   have p7 := of_decide_eq_false h7
   exact gY G G G<|mv G G<|gY G G G<|mv G G<|gY G G G<|lnP 0 G G Tryz.underlying22 G fun l10 => gY G G G<|sbI G G (inI (by omega) (by omega)) G<|gY G G G<|geI G G G<|pkF G G G<|jR K13 h7 ⟨G, G, trivial⟩ Sr
  ·
   exact gS (g := [_, _, _, _, _]) G<|pkT G G G<|jR0 K13 h7 ⟨G, G, trivial⟩ Sr
 refine nl<|nx<|cdB G (fun h13 => ?_) (fun h13 => ?_)
 ·
  refine sq<|rg<|asg G G<|nl<|nx<|rt<|tR ?_
  exact fR1 () G G (by rw [endP, if_pos h13]; try rfl) G Sn
 ·
  have q13 := h13
  simp at q13
  refine sk<|nx<|sq<|rg<|mv G G<|mv G G<|adI G G (inI (by omega) (by omega)) G<|ixP 0 G G G slt_22 (by omega) (getDE (d := default) (by omega)) G fun v17 => faP (α := TPlace) (β := ByteArray) 0 (fun x : TPlace => x.fFrom) G G fld_90_1 pPlace_1 G fun v18 => ldV 0 G G one_9 G fun w19 => ?_
  refine asg G G<|nl<|nx<|rt ?_
  exact fR1 () G G (by rw [endP, if_neg (by rw [h13]; decide)]; try rfl) G Sn

theorem end17_c (v_l : Value) (l : List TPlace) (i : Int) (h_i : InI i) : FnV Tryz.prog 92 [v_l, .int .i64 i] [⟨v_l, l⟩] (.string (endP l i)) := by
 refine Fnc.proof Tryz.func92 G 20 G G fun X w => ?_
 obtain ⟨h_i1, h_i2⟩ := id h_i
 refine gtC (q := l.length ≤ 9223372036854775807) (fun S w h => list_len (h _ (List.mem_of_getElem? (i := 0) G))) fun hlen => sq<|rg<|asg G G<|nl<|nx<|sq<|sq<|rg<|mv G G<|ltI G G G<|mv G G ?_
 apply jo [(0, _), (1, _)] ⟨rfl, rfl, trivial⟩
 ·
  intro K13
  refine spO (i := 7) G (fun h7 => ?_) (fun h7 => ?_)
  ·
   have p7 := of_decide_eq_false h7
   exact gY G G G<|mv G G<|gY G G G<|mv G G<|gY G G G<|lnP 0 G G Tryz.underlying22 G fun l10 => gY G G G<|sbI G G (inI (by omega) (by omega)) G<|gY G G G<|geI G G G<|pkF G G G<|jR K13 h7 ⟨G, G, trivial⟩ Sr
  ·
   exact gS (g := [_, _, _, _, _]) G<|pkT G G G<|jR0 K13 h7 ⟨G, G, trivial⟩ Sr
 refine nl<|nx<|cdB G (fun h13 => ?_) (fun h13 => ?_)
 ·
  refine sq<|rg<|asg G G<|nl<|nx<|rt<|tR ?_
  exact fR1 () G G (by rw [endP, if_pos h13]; try rfl) G Sn
 ·
  have q13 := h13
  simp at q13
  refine sk<|nx<|sq<|rg<|mv G G<|mv G G<|adI G G (inI (by omega) (by omega)) G<|ixP 0 G G G slt_22 (by omega) (getDE (d := default) (by omega)) G fun v17 => faP (α := TPlace) (β := ByteArray) 0 (fun x : TPlace => x.fFrom) G G fld_90_1 pPlace_1 G fun v18 => ldV 0 G G one_9 G fun w19 => ?_
  refine asg G G<|nl<|nx<|rt ?_
  exact fR1 () G G (by rw [endP, if_neg (by rw [h13]; decide)]; try rfl) G Sn
end Go.Proofs.YtmpoffijcfaalaaGreat

/- A copy of places, and what ranges over them: written by specs8.py. -/

namespace Go.Proofs.YtmpoffijcfaalaaGreat.Ep
open Go.Eng Go.YtmpoffijcfaalaaGreat
set_option maxHeartbeats 1000000

theorem clonePl_c (sv : Value) (l : List TPlace) (hlen : l.length ≤ 7) : Fnc Tryz.prog 71 [sv] [] [⟨sv, l⟩] (fun (_ : Unit) _ => True) (fun _ _ => []) (fun _ v => [⟨v, l⟩]) := by
 refine Fnc.proof Tryz.func71 G 8 G G fun X w => sq<|rg<|asg G G<|nl<|nx<|sq<|sq<|rg<|mv G G<|eqN 0 Tryz.underlying22 G G G G fun q4 n4 => nl<|nx<|cdB G (fun h4 => ?_) (fun h4 => ?_)
 ·
  have hx : l = [] := n4 h4
  subst hx
  exact emC (α := TPlace)<|sq<|rg<|asg G G<|nl<|nx<|rt<|tR<|fR1 () G G trivial G (Sc 0 G Sn)
 ·
  exact sk<|nx<|sq<|rg<|bs0 app_22 G fun b5 => rwB (α := TPlace) [] [] G G (fun _ _ _ => trivial) G<|mv G G<|ap 0 0 G G G G app_22 (by simp only [List.length_nil]; omega) (by simp only [List.length_nil]; omega) G fun v7 => asg G G<|nl<|nx<|rt<|frRQ<|fR1 () G G trivial G (Sc 0 G Sn)

theorem all_c (sv : Value) (l : List TPlace) (hlen : l.length ≤ 7) : Fnc Tryz.prog 231 [sv] [] [⟨sv, l⟩] (fun (y : Nat × Value) v => v = .func (.func 280) #[] #[.pointer (some ⟨y.1, 0, none⟩)]) (fun y _ => [bl y.1 22 [y.2]]) (fun y _ => [⟨y.2, l⟩]) := by
 refine Fnc.proof Tryz.func231 G 7 G G fun X w => sq<|rg<|asg G G<|nl<|nx<|sq<|rg<|mv G G<|cf (clonePl_c sv l hlen) ok_71 G (Sc 0 G Sn) G fun _ v5 _ => al zero_22 G fun b3 => stL 0 0 G G G G one_22 (Nat.lt_of_lt_of_le (Nat.lt_succ_self _) (Nat.le_of_ble_eq_true G))<|nl<|nx ?_
 exact sq<|rg<|mf (xs := [.tmp 3]) G G<|asg G G<|nl<|nx<|rt<|fR1 (b3, v5) G G G G (Sc 0 G Sn)
end Go.Proofs.YtmpoffijcfaalaaGreat.Ep

/- An open order whose head only reads and whose tail is walked by hand: a round of a range over a function may stand in it. Generic: no program. -/

namespace Go.Eng
theorem wpOpIn_of_wpOp {P : Program} {ops : Array Oper} {Q : Exit → Act → World → Prop} {i n : Nat} {K : Act → World → Prop} {a : Act} {w : World} (h : wpOp P ops (fun _ _ _ => False) i K a w) : wpOpIn Fence.wide n P ops Q i K a w := by
  unfold wpOp at h
  unfold wpOpIn
  split
  · rename_i hn
    rw [hn] at h
    exact h
  · rename_i o ho
    rw [ho] at h
    simp only at h
    by_cases hw : Region.wanted o (yielded ops a.tmps) = true
    · rw [if_pos hw] at h ⊢
      have h := h.elim id fun h => by obtain ⟨_, _, h⟩ := h.2; exact h.elim
      refine ⟨fun _ _ => trivial, ?_⟩
      unfold Oper.wp at h
      have hs : Oper.semAt Fence.wide.round a.eval o = execOp a.eval o := rfl
      rw [hs]
      generalize (execOp a.eval o).run P w = r at *
      cases r with
      | ok nx w' =>
        cases nx <;> simp only [Oper.upon, Oper.uponIn] at h ⊢ <;> try exact h
        · refine ⟨(fun hd => by cases hd), callsIn_wide.2 (Calls.mono h fun e w'' he => ?_)⟩
          cases e with
          | returned v => exact he
          | panicked ch => exact he.elim
          | outgrown => obtain ⟨_, _, he⟩ := he; exact he.elim
        · exact ⟨(fun hd => by cases hd), fun c cs _ => by obtain ⟨v, w', hR, hs⟩ := h c cs; exact ⟨v, w', hR, stepsIn_wide.2 hs⟩⟩
      | halt x w' => cases x <;> simp only [Oper.upon, Oper.uponIn] at h ⊢ <;> exact h.elim
    · rw [if_neg hw] at h ⊢
      exact ⟨fun _ _ => trivial, h⟩
theorem cnt_one : ∀ (n : Nat) (f g : Nat → Bool) (i : Nat), i < n → f i = true → g i = false → (∀ j, j ≠ i → g j = f j) → (List.range n).countP g + 1 = (List.range n).countP f
  | 0, _, _, _, h, _, _, _ => by omega
  | n + 1, f, g, i, hi, hf, hg, he => by
    rw [List.range_succ, List.countP_append, List.countP_append]
    by_cases h : i = n
    · subst h
      have : (List.range i).countP g = (List.range i).countP f := List.countP_congr fun j hj => by rw [he j (by have := List.mem_range.1 hj; omega)]
      rw [this]
      simp [hf, hg]
    · have ih := cnt_one n f g i (by omega) hf hg he
      have e : [n].countP g = [n].countP f := by simp only [List.countP_cons, List.countP_nil, he n (Ne.symm h)]
      rw [e]
      omega
section
variable {c : Cx} {l : List Oper} {s : RH} {env : Env} {D : List Atom} {Q : Exit → Act → World → Prop}
/-- One operation comes up. -/
theorem MidH.step1 (h1 : ckDeps l s.deps = true) (h2 : ckDst l env = true) (h4 : ckH l s = true) (hsz : ckSize l c.n = true)
    {listed : Array Bool} {a : Act} {w : World} {hh : List Nat} {i : Nat} (m : MidH c l s env D listed a w hh) (hr : i ∈ Region.ready .any l.toArray listed)
    (hO : ∀ o, l[i]? = some o → ∀ (V : Nat → Value) (De : List Atom), AllP (fun k => s.vals k = none → s.ok k (V k)) (s.deps i) → AllP (fun h => WL (opPostH c l s (D ++ De) i h (h.map V)) c l.toArray [o] (envOf l (VV s.vals V) (s.deps i) ++ env) (s.L h (h.map V)) (atsOf s.rs (VV s.vals V) (s.deps i) ++ (D ++ De))) (phH l s i)) {K : Act → World → Prop}
    (hK : ∀ a' w' h', MidH c l s env D (listed.setIfInBounds i true) a' w' h' → K a' w') : wpOp c.P l.toArray Q i K a w := by
  obtain ⟨hun, o, ho, hall⟩ := mem_ready.1 hr
  have ho : l[i]? = some o := by simpa using ho
  have hil : i < l.length := (List.getElem?_eq_some_iff.1 ho).1
  have his : i < listed.size := by rw [m.size]; exact hil
  have hun' : listed.getD i false = false := by rw [← getD_true_false his]; exact hun
  have hed : ∀ k, edge l k i = true → listed.getD k false = true := by
    intro k hk
    obtain ⟨e, he, hb, rfl⟩ := (edge_mem ho).1 hk
    exact hall e he hb
  have hnot : i ∉ hh := fun hi => by
    have := m.hin i hi
    rw [this] at hun'; cases hun'
  have hpre : ∀ x ∈ s.effs, edge l x i = true → x ∈ hh := fun x hx he => (m.done x hx).1 (hed x he)
  have hphase : hh ∈ phH l s i := by
    refine List.mem_filter.2 ⟨m.mem, ?_⟩
    simp only [Bool.and_eq_true, Bool.or_eq_true, Bool.not_eq_true', List.all_eq_true, List.contains_eq_mem, decide_eq_true_eq, decide_eq_false_iff_not]
    refine ⟨.inr hnot, fun x hx => ⟨?_, ?_⟩⟩
    · by_cases h : edge l x i = true
      · exact .inr (hpre x hx h)
      · left; simpa using h
    · by_cases h : edge l i x = true
      · right
        intro hxh
        have := m.closed x i (m.hin x hxh) h
        rw [this] at hun'; cases hun'
      · left; simpa using h
  have hdep : ∀ k ∈ s.deps i, edge l k i = true ∧ (dstOf l k).isSome = true := by
    intro k hk
    have := List.all_eq_true.1 (List.all_eq_true.1 h1 i (List.mem_range.2 hil)) k hk
    simpa using this
  have hdlt : ∀ k, (dstOf l k).isSome = true → k < l.length := by
    intro k hk
    rcases Nat.lt_or_ge k l.length with h | h
    · exact h
    · simp [dstOf, List.getElem?_eq_none h] at hk
  have hok2 : ∀ k ∈ s.deps i, s.ok2 k (valOf l a k) := fun k hk => by
    obtain ⟨d, hd⟩ := Option.isSome_iff_exists.1 (hdep k hk).2
    have := (m.slot k d (hed k (hdep k hk).1) hd).1
    simpa [valOf, slotV, hd] using this
  let J := (List.range l.length).filter fun k => listed.getD k false && (dstOf l k).isSome
  have hJ : ∀ k, k ∈ J ↔ listed.getD k false = true ∧ (dstOf l k).isSome = true := by
    intro k
    simp only [J, List.mem_filter, List.mem_range, Bool.and_eq_true]
    exact ⟨fun h => h.2, fun h => ⟨hdlt k h.2, h⟩⟩
  have hatJ : ∀ k, k ∈ J → DH (s.at_ k (valOf l a k)) w (s.L hh (hh.map (valOf l a))) := by
    intro k hk
    obtain ⟨hk1, hk2⟩ := (hJ k).1 hk
    obtain ⟨d, hd⟩ := Option.isSome_iff_exists.1 hk2
    have := (m.slot k d hk1 hd).2
    simpa [valOf, slotV, hd] using this
  have e0 : ∀ k ∈ s.deps i, valOf l a k = VV s.vals (valOf l a) k := fun k hk => ok2_VV (hok2 k hk)
  have e1 : envOf l (valOf l a) (s.deps i) = envOf l (VV s.vals (valOf l a)) (s.deps i) := envOf_congr fun k hk _ => e0 k hk
  have e2 : atsOf s.rs (valOf l a) (s.deps i) = atsOf s.rs (VV s.vals (valOf l a)) (s.deps i) := atsOf_congr e0
  have hwl := (hO o ho (valOf l a) (atsOf s.rs (valOf l a) J) (AllP.intro fun k hk hn => ok2_of (hok2 k hk) hn))
  rw [← e1, ← e2] at hwl
  have hwl := hwl.mem hh hphase a w (m.frame hsz fun k hk => hdlt k (hdep k hk).2) m.st (DH.app (fun t ht => by
    obtain ⟨k, hk, ht⟩ := mem_atsOf ht
    exact hatJ k ((hJ k).2 ⟨hed k (hdep k hk).1, (hdep k hk).2⟩) t ht) (DH.app m.dh (fun t ht => by
    obtain ⟨k, hk, ht⟩ := mem_atsOf ht
    exact hatJ k hk t ht)))
  have hno : ¬ LetsOut (opPostH c l s (D ++ atsOf s.rs (valOf l a) J) i hh (hh.map (valOf l a))) := by
    rintro ⟨a', w', h⟩; cases h.1
  -- what is left once it is done
  have hfin : ∀ a' w', (∃ u, a' = a.put o.dst u) → opPostH c l s (D ++ atsOf s.rs (valOf l a) J) i hh (hh.map (valOf l a)) .normal a' w' → K a' w' := by
    rintro a' w' ⟨u, rfl⟩ ⟨_, _, hst', hdh', hslot'⟩
    have hdsts : ∀ d, o.dst = some d → keyIn env d = false ∧ ∀ k, k ≠ i → dstOf l k ≠ some d := by
      intro d hd
      have hdi : dstOf l i = some d := by simp [dstOf, ho, hd]
      have := List.all_eq_true.1 h2 i (List.mem_range.2 hil)
      rw [hdi] at this
      simp only [Bool.and_eq_true, Bool.not_eq_true'] at this
      refine ⟨this.1, fun k hk e => ?_⟩
      have hkl := hdlt k (by rw [e]; rfl)
      have := List.all_eq_true.1 this.2 k (List.mem_range.2 hkl)
      simp [e, Ne.symm hk] at this
    have hvk : ∀ k, k ≠ i → valOf l (a.put o.dst u) k = valOf l a k := by
      intro k hk
      simp only [valOf, slotV]
      cases hdk : dstOf l k with
      | none => rfl
      | some d =>
        cases hd : o.dst with
        | none => rfl
        | some d0 =>
          have hne : d0 ≠ d := by
            rintro rfl
            exact (hdsts d0 hd).2 k hk hdk
          simp [Act.put, Array.getElem?_setIfInBounds_ne hne]
    have hmap : hh.map (valOf l (a.put o.dst u)) = hh.map (valOf l a) := List.map_congr_left fun x hx => hvk x (fun e => hnot (e ▸ hx))
    let h' := if s.effs.contains i = true then hh ++ [i] else hh
    have hLn : s.L h' (h'.map (valOf l (a.put o.dst u))) = nextH s hh (hh.map (valOf l a)) i (slotV l (a.put o.dst u) i) := by
      unfold nextH
      simp only [h']
      by_cases hc : s.effs.contains i = true
      · rw [if_pos hc, if_pos hc, List.map_append, hmap]; rfl
      · rw [if_neg hc, if_neg hc, hmap]
    rw [← hLn] at hst' hdh' hslot'
    have hmem' : ∀ x, x ∈ h' ↔ x ∈ hh ∨ (x = i ∧ s.effs.contains i = true) := by
      intro x
      simp only [h']
      by_cases hc : s.effs.contains i = true
      · rw [if_pos hc]; simp only [List.mem_append, List.mem_singleton, hc, and_true]
      · rw [if_neg hc]; simp only [hc, and_false, or_false]; simp
    refine hK _ _ h' ⟨?_, hst', fun t ht => hdh' t (List.mem_append.2 (.inl ht)), by simp [m.size], ?_, ?_, ?_, ?_, ?_⟩
    · cases hd : o.dst with
      | none => exact m.fr
      | some d =>
        have hdn : d < c.n := by
          have := List.all_eq_true.1 hsz o (List.mem_of_getElem? ho)
          rw [hd] at this
          exact lt_blt this
        have f := m.fr.put u hdn
        refine ⟨f.size, f.dn, fun k v hk => f.at_ k v ?_⟩
        have hne : d ≠ k := by
          rintro rfl
          have := keyIn_of_lk hk
          rw [(hdsts d hd).1] at this; cases this
        have : (d == k) = false := by simpa using hne
        simp only [lk, this, cond_false]
        exact hk
    · intro i' k hi' hk
      rw [getD_set his] at hi' ⊢
      simp only [Bool.or_eq_true, beq_iff_eq] at hi' ⊢
      rcases hi' with rfl | hi'
      · exact .inr (hed k hk)
      · exact .inr (m.closed i' k hi' hk)
    · intro i' d hi' hd'
      rw [getD_set his] at hi'
      simp only [Bool.or_eq_true, beq_iff_eq] at hi'
      by_cases hii : i = i'
      · subst hii
        exact hslot' d hd'
      · have hi' : listed.getD i' false = true := by
          rcases hi' with h | h
          · exact absurd h hii
          · exact h
        have hval : (a.put o.dst u).tmps.getD d undef = a.tmps.getD d undef := by
          cases hd : o.dst with
          | none => rfl
          | some d0 =>
            have hne : d0 ≠ d := by
              rintro rfl
              exact (hdsts d0 hd).2 i' (Ne.symm hii) hd'
            simp [Act.put, Array.getElem?_setIfInBounds_ne hne]
        rw [hval]
        refine ⟨(m.slot i' d hi' hd').1, fun t ht => hdh' t (List.mem_append.2 (.inr (of_at (s := s.rs) (k := i') ((hJ i').2 ⟨hi', by rw [hd']; rfl⟩) ?_)))⟩
        simpa [valOf, slotV, hd'] using ht
    · intro x hx
      rw [getD_set his, hmem' x]
      simp only [Bool.or_eq_true, beq_iff_eq]
      rw [m.done x hx]
      constructor
      · rintro (rfl | h)
        · right; exact ⟨rfl, by simpa using hx⟩
        · exact .inl h
      · rintro (h | ⟨rfl, _⟩)
        · exact .inr h
        · exact .inl rfl
    · intro x hx
      rw [getD_set his]
      simp only [Bool.or_eq_true, beq_iff_eq]
      rcases (hmem' x).1 hx with h | ⟨rfl, _⟩
      · exact .inr (m.hin x h)
      · exact .inl rfl
    · simp only [h']
      by_cases hc : s.effs.contains i = true
      · rw [if_pos hc]
        simp only [ckH, Bool.and_eq_true] at h4
        have hie : i ∈ s.effs := by simpa using hc
        have := List.all_eq_true.1 (List.all_eq_true.1 h4.2 hh m.mem) i hie
        simp only [Bool.or_eq_true, Bool.not_eq_true'] at this
        rcases this with (h | h) | h
        · exact absurd (by simpa using h) hnot
        · exfalso
          rw [← Bool.not_eq_true, List.all_eq_true] at h
          refine h fun x hx => ?_
          simp only [Bool.or_eq_true, Bool.not_eq_true']
          by_cases he : edge l x i = true
          · right; simpa using hpre x hx he
          · left; simpa using he
        · simpa using h
      · rw [if_neg hc]; exact m.mem
  unfold wpOp
  have ho' : l.toArray[i]? = some o := by simpa using ho
  simp only [ho']
  unfold wpList at hwl
  by_cases hw : Region.wanted o (yielded l.toArray a.tmps) = true
  · rw [if_pos hw] at hwl ⊢
    refine .inl (upon_up (Q := opPostH c l s (D ++ atsOf s.rs (valOf l a) J) i hh (hh.map (valOf l a))) (fun _ _ _ h => by cases h.1) hno ?_)
    rcases hwl with h | h
    · -- the frame behind it is the one before, with a value put
      have key : ∀ {r : Result Next}, o.upon c.P a (opPostH c l s (D ++ atsOf s.rs (valOf l a) J) i hh (hh.map (valOf l a)) .normal) (opPostH c l s (D ++ atsOf s.rs (valOf l a) J) i hh (hh.map (valOf l a))) r → o.upon c.P a K (opPostH c l s (D ++ atsOf s.rs (valOf l a) J) i hh (hh.map (valOf l a))) r := by
        intro r h
        cases r with
        | ok n w' =>
          cases n <;> simp only [Oper.upon] at h ⊢ <;> try exact h
          · exact hfin _ _ ⟨_, rfl⟩ h
          · exact hfin _ _ ⟨_, rfl⟩ h
          · exact Calls.mono h fun e w'' he => by
              cases e with
              | returned v => exact hfin _ _ ⟨_, rfl⟩ he
              | panicked ch => exact he
              | outgrown => exact he
          · have hd := h.2.1
            cases hdst : o.dst <;> simp [hdst, Act.put] at hd
          · exact Rows.mono h fun _ _ he => hfin _ _ ⟨_, rfl⟩ he
        | halt x w' => cases x <;> simp only [Oper.upon] at h ⊢ <;> exact h
      exact key h
    · exact absurd h.2 hno
  · rw [if_neg hw] at hwl ⊢
    exact hfin _ _ ⟨undef, rfl⟩ hwl

def headL (hd n : Nat) : Array Bool := ((List.range n).map fun i => decide (i < hd)).toArray
theorem OblH.take_at {r : List Oper} {hd : Nat} (h : OblH c l s env D (r.take hd) 0) {i : Nat} (hi : i < hd) {o : Oper} (ho : r[i]? = some o) (V : Nat → Value) (De : List Atom) (hV : AllP (fun k => s.vals k = none → s.ok k (V k)) (s.deps i)) :
    AllP (fun h => WL (opPostH c l s (D ++ De) i h (h.map V)) c l.toArray [o] (envOf l (VV s.vals V) (s.deps i) ++ env) (s.L h (h.map V)) (atsOf s.rs (VV s.vals V) (s.deps i) ++ (D ++ De))) (phH l s i) := by
  have := h.at_ i o (by rw [List.getElem?_take, if_pos hi]; exact ho) V De (by rw [Nat.zero_add]; exact hV)
  rwa [Nat.zero_add] at this
/-- **An open order, its tail behind all of its head.** -/
theorem rgTail {id n hd : Nat} (s : RH) (hhs : s.hs = [[]]) (hm : c.P.follows .mixedOrders = true) (hok : rhOk l env s c.n = true) (hhd : hd ≤ l.length) {L : Own} (hL : s.L [] [] = L) (hO : OblH c l s env D (l.take hd) 0)
    (hT : ∀ listed : Array Bool, (∀ i k, listed.getD i false = true → edge l k i = true → listed.getD k false = true) → ∀ i, hd ≤ i → i < l.length → (∀ k, edge l k i = true → listed.getD k false = true) → ∀ k, k < hd → listed.getD k false = true)
    (k : ∀ V : Nat → Value, AllP (fun i => (dstOf l i).isSome = true → s.vals i = none → s.ok i (V i)) (List.range hd) → ∀ a w, Fr c.n a (envOf l (VV s.vals V) (List.range hd) ++ env) → St c.w0 c.M w L →
      DH (atsOf s.rs (VV s.vals V) ((List.range hd).filter fun i => (dstOf l i).isSome) ++ D) w L → wpAnyIn Fence.wide n c.P .any l.toArray Q (l.length - hd) (headL hd l.length) a w) : WC c (.region id l.toArray true) Q env L D := by
  intro a w f st dh
  simp only [rhOk, Bool.and_eq_true] at hok
  obtain ⟨⟨⟨⟨h1, h2⟩, h5⟩, hsz⟩, h4⟩ := hok
  subst hL
  refine (wpIn_wide (n := n)).1 (wpIn_region_any hm ?_)
  have hs := Stp.drew [] w
  have m0 : MidH c l s env D (Array.replicate l.length false) a w.drew [] := by
    refine ⟨f, st.step hs, dh.step hs.nil, by simp, fun i k h _ => ?_, fun i d h _ => ?_, fun x _ => ?_, fun x hx => (by cases hx), ?_⟩
    · rw [getD_rep] at h; cases h
    · rw [getD_rep] at h; cases h
    · rw [getD_rep]; simp
    · simp only [ckH, Bool.and_eq_true] at h4
      simpa using h4.1.1
  have key : ∀ (m : Nat) (listed : Array Bool) (a : Act) (w : World), MidH c l s env D listed a w [] → (∀ i, hd ≤ i → listed.getD i false = false) → (List.range hd).countP (fun i => !listed.getD i false) = m →
      wpAnyIn Fence.wide n c.P .any l.toArray Q (m + (l.length - hd)) listed a w := by
    intro m
    induction m with
    | zero =>
      intro listed a w mm ht hc
      have hall : ∀ i, i < hd → listed.getD i false = true := fun i hi => by
        have := List.countP_eq_zero.1 hc i (List.mem_range.2 hi)
        simpa using this
      have heq : listed = headL hd l.length := by
        apply Array.ext
        · simp [mm.size, headL]
        · intro i g1 g2
          have e : listed[i] = listed.getD i false := by simp [g1]
          rw [e]
          simp only [headL, List.getElem_toArray, List.getElem_map, List.getElem_range]
          by_cases hi : i < hd
          · rw [hall i hi]; simp [hi]
          · rw [ht i (by omega)]; simp [hi]
      subst heq
      rw [Nat.zero_add]
      have hok2 : ∀ k, k < hd → (dstOf l k).isSome = true → s.ok2 k (valOf l a k) := fun k hk hd' => by
        obtain ⟨d, hd'⟩ := Option.isSome_iff_exists.1 hd'
        have := (mm.slot k d (hall k hk) hd').1
        simpa [valOf, slotV, hd'] using this
      have e1 : envOf l (valOf l a) (List.range hd) = envOf l (VV s.vals (valOf l a)) (List.range hd) := envOf_congr fun k hk hd' => ok2_VV (hok2 k (List.mem_range.1 hk) hd')
      have e2 : atsOf s.rs (valOf l a) ((List.range hd).filter fun i => (dstOf l i).isSome) = atsOf s.rs (VV s.vals (valOf l a)) ((List.range hd).filter fun i => (dstOf l i).isSome) := atsOf_congr fun k hk => ok2_VV (hok2 k (List.mem_range.1 (List.mem_filter.1 hk).1) (by simpa using (List.mem_filter.1 hk).2))
      have hk := k (valOf l a) (AllP.intro fun i hi hd' hn => ok2_of (hok2 i (List.mem_range.1 hi) hd') hn)
      rw [← e1, ← e2] at hk
      refine hk a w (mm.frame hsz fun k hk => Nat.lt_of_lt_of_le (List.mem_range.1 hk) hhd) mm.st (DH.app (fun t ht => ?_) mm.dh)
      obtain ⟨i, hi, ht⟩ := mem_atsOf ht
      obtain ⟨hi1, hd'⟩ := List.mem_filter.1 hi
      obtain ⟨d, hd'⟩ := Option.isSome_iff_exists.1 hd'
      have := (mm.slot i d (hall i (List.mem_range.1 hi1)) hd').2
      simp only [valOf, slotV, hd'] at ht
      exact this t ht
    | succ m ih =>
      intro listed a w mm ht hc
      rw [show m + 1 + (l.length - hd) = (m + (l.length - hd)) + 1 by omega]
      have hex : ∃ i, i < hd ∧ listed.getD i false = false := by
        refine Classical.byContradiction fun hn => ?_
        have : (List.range hd).countP (fun i => !listed.getD i false) = 0 := List.countP_eq_zero.2 fun i hi => by
          simp only [Bool.not_eq_true', Bool.not_eq_false]
          refine Classical.byContradiction fun h => hn ⟨i, List.mem_range.1 hi, by simpa using h⟩
        omega
      refine ⟨fun hr => ?_, fun i hi => ?_⟩
      · exfalso
        obtain ⟨i0, hi0, hu0⟩ := hex
        have hall : ∀ i, i < l.length → listed.getD i false = true := by
          intro i
          induction i using Nat.strongRecOn with
          | _ i ih2 =>
            intro hil
            cases hli : listed.getD i false with
            | true => rfl
            | false =>
              exfalso
              have : i ∈ Region.ready .any l.toArray listed := by
                refine mem_ready.2 ⟨by rw [getD_true_false (by rw [mm.size]; exact hil)]; exact hli, l[i], by simp [List.getElem?_eq_getElem hil], fun e he hb => ?_⟩
                have hbk := List.all_eq_true.1 h5 i (List.mem_range.2 hil)
                rw [List.getElem?_eq_getElem hil] at hbk
                have := List.all_eq_true.1 hbk e (Array.mem_toList_iff.2 he)
                rw [hb] at this
                have hlt := lt_blt (by simpa using this)
                exact ih2 e.on hlt (by omega)
              rw [hr] at this
              cases this
        rw [hall i0 (by omega)] at hu0
        cases hu0
      · obtain ⟨hun, o, ho1, hpre⟩ := mem_ready.1 hi
        have ho : l[i]? = some o := by simpa using ho1
        have hil : i < l.length := (List.getElem?_eq_some_iff.1 ho).1
        have his : i < listed.size := by rw [mm.size]; exact hil
        have hun' : listed.getD i false = false := by rw [← getD_true_false his]; exact hun
        have hid : i < hd := by
          rcases Nat.lt_or_ge i hd with h | h
          · exact h
          · obtain ⟨i0, hi0, hu0⟩ := hex
            have := hT listed mm.closed i h hil (fun k hk => by
              obtain ⟨e, he, hb, rfl⟩ := (edge_mem ho).1 hk
              exact hpre e he hb) i0 hi0
            rw [this] at hu0; cases hu0
        refine wpOpIn_of_wpOp (mm.step1 (Q := fun _ _ _ => False) h1 h2 h4 hsz hi (fun o' ho' V De hV => hO.take_at hid ho' V De hV) fun a' w' h' m' => ?_)
        have hh : h' = [] := by
          have := m'.mem
          rw [hhs] at this
          simpa using this
        subst hh
        refine ih _ a' w' m' (fun j hj => ?_) ?_
        · rw [getD_set his, ht j hj]
          have : (i == j) = false := by simpa using (by omega : i ≠ j)
          rw [this]; rfl
        · have hlt : (List.range hd).countP (fun k => !(listed.setIfInBounds i true).getD k false) + 1 = (List.range hd).countP (fun k => !listed.getD k false) := by
            refine cnt_one hd _ _ i hid (by rw [hun']; rfl) (by rw [getD_set his]; simp) fun j hj => ?_
            rw [getD_set his]
            have : (i == j) = false := by simpa using Ne.symm hj
            rw [this]; rfl
          omega
  have hn0 : (List.range hd).countP (fun i => !(Array.replicate l.length false).getD i false) = hd := by
    rw [List.countP_eq_length_filter, List.filter_eq_self.2 fun i _ => by rw [getD_rep]; rfl, List.length_range]
  have := key hd _ a w.drew m0 (fun i _ => getD_rep _ _) hn0
  rwa [show hd + (l.length - hd) = l.length by omega] at this
end
end Go.Eng
