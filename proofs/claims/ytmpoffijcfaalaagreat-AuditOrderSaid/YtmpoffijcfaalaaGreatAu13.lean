/- Part 13 of the proof of auditOrder_holds: DutWL, DutW7, DutF2, DutF3, DutF4, DutF5, DutF6, AudT, AudF, DutS2. Every text below begins with what it shows. -/
import Derived.Test.YtmpoffijcfaalaaGreatAu12

/- What is lent. -/

namespace Go.Proofs.YtmpoffijcfaalaaGreat
open Go.Eng Go.YtmpoffijcfaalaaGreat
set_option maxHeartbeats 1000000

theorem lent_c (a : TAccount) (a_0 : Value) (h_a : a.wf) (hh : holdersP a.fHolders = true) : FnV Tryz.prog 224 [.agg (cAccount a a_0).toArray] [⟨a_0, a.fHolders⟩] (lentV a) := by
 refine Fnc.proof Tryz.func224 G 54 G G fun X w => gtC (q := ∀ x ∈ a.fHolders, x.wf) (fun S w h => list_wf (s := sHolder) (h _ (List.mem_of_getElem? (i := 0) G))) fun hW => ?_
 have hl5 := hold_len hh
 refine sq<|rg<|bx G G G fun b1 => asg G G<|asg G G<|asg G G<|nl<|nx<|sq ?_
 refine rgH ⟨fun q_ => ([[], [0], [1], [], [3], [4], [2], [5]] : List (List Nat)).getD q_ [], fun _ _ => True, fun _ _ => [], fun q_ => ([some (.pointer (some ⟨b1, 3, none⟩)), some (.int .i64 a.fBase), none, some (.pointer (some ⟨b1, 3, none⟩)), some (.int .i64 a.fBase), none, none, none] : List (Option Value)).getD q_ none, fun h_ => match h_ with
   | [] => fun vs_ => [bl b1 70 (cAccount a a_0), fz X w]
   | [2] => fun vs_ => [row 3 (vs_.getD 0 undef) [a.fBase], bl b1 70 (cAccount a a_0), fz X w]
   | [5] => fun vs_ => [row 3 (vs_.getD 0 undef) [a.fBase], bl b1 70 (cAccount a a_0), fz X w]
   | [2, 5] => fun vs_ => [row 3 (vs_.getD 1 undef) [a.fBase], row 3 (vs_.getD 0 undef) [a.fBase], bl b1 70 (cAccount a a_0), fz X w]
   | [2, 6] => fun vs_ => [row 3 (vs_.getD 1 undef) [a.fBase], bl b1 70 (cAccount a a_0), fz X w]
   | [5, 2] => fun vs_ => [row 3 (vs_.getD 0 undef) [a.fBase], row 3 (vs_.getD 1 undef) [a.fBase], bl b1 70 (cAccount a a_0), fz X w]
   | [2, 5, 6] => fun vs_ => [row 3 (vs_.getD 1 undef) [a.fBase], row 3 (vs_.getD 2 undef) [a.fBase], bl b1 70 (cAccount a a_0), fz X w]
   | [2, 6, 5] => fun vs_ => [row 3 (vs_.getD 2 undef) [a.fBase], row 3 (vs_.getD 1 undef) [a.fBase], bl b1 70 (cAccount a a_0), fz X w]
   | [5, 2, 6] => fun vs_ => [row 3 (vs_.getD 0 undef) [a.fBase], row 3 (vs_.getD 2 undef) [a.fBase], bl b1 70 (cAccount a a_0), fz X w]
   | [2, 5, 6, 7] => fun vs_ => [row 3 (vs_.getD 3 undef) [a.fBase], row 3 (vs_.getD 2 undef) [a.fBase], bl b1 70 (cAccount a a_0), fz X w]
   | [2, 6, 5, 7] => fun vs_ => [row 3 (vs_.getD 3 undef) [a.fBase], row 3 (vs_.getD 1 undef) [a.fBase], bl b1 70 (cAccount a a_0), fz X w]
   | [5, 2, 6, 7] => fun vs_ => [row 3 (vs_.getD 3 undef) [a.fBase], row 3 (vs_.getD 2 undef) [a.fBase], bl b1 70 (cAccount a a_0), fz X w]
   | _ => fun _ => [], [2, 5, 6, 7], [[], [2], [5], [2, 5], [2, 6], [5, 2], [2, 5, 6], [2, 6, 5], [5, 2, 6], [2, 5, 6, 7], [2, 6, 5, 7], [5, 2, 6, 7]]⟩ (fun V => [row 3 (V 7) [a.fBase], row 3 (V 6) [a.fBase], bl b1 70 (cAccount a a_0), fz X w]) mixed rfl rfl (show AllP _ [[2, 5, 6, 7], [2, 6, 5, 7], [5, 2, 6, 7]] from ⟨fun _ => rfl, fun _ => rfl, fun _ => rfl, trivial⟩) ?_ ?_
 ·
  refine ⟨fun V De _=>aP5 (fa G fld_70_2 G<|oh G G G G) (fa G fld_70_2 G<|oh G G G G) (fa G fld_70_2 G<|oh G G G G) (fa G fld_70_2 G<|oh G G G G) (fa G fld_70_2 G<|oh G G G G),fun V De _=>aP2 (ldB 0 G G one_3 G G<|oh G G G G) (ldB 1 G G one_3 G G<|oh G G G G),fun V De _=>aP2 (bs1 (xs := [.tmp 12]) (us := [.int .i64 a.fBase]) (E := 3) (bytes := 8) (n := 1) G (by exact app_220) G G G G G G fun b13 => rwB (α := Int) [a.fBase] [[.int .i64 (a.fBase)]] G G (fun S w h => ⟨⟨G, h_a.2.2.1⟩, trivial⟩) G<|nl (odH G G G trivial Sn Sr)) (bs1 (xs := [.tmp 12]) (us := [.int .i64 a.fBase]) (E := 3) (bytes := 8) (n := 1) G (by exact app_220) G G G G G G fun b13 => rwB (α := Int) [a.fBase] [[.int .i64 (a.fBase)]] G G (fun S w h => ⟨⟨G, h_a.2.2.1⟩, trivial⟩) G<|mtL 2 G<|mtL 1 G<|mtL 2 G<|nl (odH G G G trivial Sn Sr)),?_⟩
  refine ⟨fun V De _ => (show AllP _ [[], [2], [5], [2, 5], [2, 6], [5, 2], [2, 5, 6], [2, 6, 5], [5, 2, 6]] from ⟨?_, ?_, ?_, ?_, ?_, ?_, ?_, ?_, ?_, trivial⟩), ?_⟩
  ·
   exact fa G fld_70_2 G<|oh G G G G
  ·
   exact fa G fld_70_2 G<|oh G G G G
  ·
   exact fa G fld_70_2 G<|oh G G G G
  ·
   exact fa G fld_70_2 G<|oh G G G G
  ·
   exact fa G fld_70_2 G<|oh G G G G
  ·
   exact fa G fld_70_2 G<|oh G G G G
  ·
   exact fa G fld_70_2 G<|oh G G G G
  ·
   exact fa G fld_70_2 G<|oh G G G G
  ·
   exact fa G fld_70_2 G<|oh G G G G
  exact ⟨fun V De _=>aP3 (ldB 0 G G one_3 G G<|oh G G G G) (ldB 1 G G one_3 G G<|oh G G G G) (ldB 1 G G one_3 G G<|oh G G G G),fun V De _=>aP3 (bs1 (xs := [.tmp 15]) (us := [.int .i64 a.fBase]) (E := 3) (bytes := 8) (n := 1) G (by exact app_220) G G G G G G fun b16 => rwB (α := Int) [a.fBase] [[.int .i64 (a.fBase)]] G G (fun S w h => ⟨⟨G, h_a.2.2.1⟩, trivial⟩) G<|nl (odH G G G trivial Sn Sr)) (bs1 (xs := [.tmp 15]) (us := [.int .i64 a.fBase]) (E := 3) (bytes := 8) (n := 1) G (by exact app_220) G G G G G G fun b16 => rwB (α := Int) [a.fBase] [[.int .i64 (a.fBase)]] G G (fun S w h => ⟨⟨G, h_a.2.2.1⟩, trivial⟩) G<|nl (odH G G G trivial Sn Sr)) (bs1 (xs := [.tmp 15]) (us := [.int .i64 a.fBase]) (E := 3) (bytes := 8) (n := 1) G (by exact app_220) G G G G G G fun b16 => rwB (α := Int) [a.fBase] [[.int .i64 (a.fBase)]] G G (fun S w h => ⟨⟨G, h_a.2.2.1⟩, trivial⟩) G<|nl (odH G G G trivial Sn Sr)),fun V De _=>aP3 (asg G G<|nl (odH G G G trivial Sn Sr)) (asg G G<|nl (odH G G G trivial Sn Sr)) (asg G G<|nl (odH G G G trivial Sn Sr)),fun V De _=>aP3 (asg G G<|nl (odH G G G trivial Sn Sr)) (asg G G<|nl (odH G G G trivial Sn Sr)) (asg G G<|nl (odH G G G trivial Sn Sr)),trivial⟩
 ·
  intro V _
  refine wkQ (L := [row 3 (V 7) [a.fBase], row 3 (V 6) [a.fBase], bl b1 70 (cAccount a a_0), fz X w]) [(1, _), (5, V 6), (6, V 7)] [_] ⟨G, G, G, trivial⟩ (Sc 0 G Sn) ?_
  generalize V 6 = v6
  generalize V 7 = v7
  refine nx<|sq<|sq<|rg<|fa G fld_70_4 G<|ldB 2 G G one_66 G G<|lnP 0 G G Tryz.underlying66 G fun l19 => mv G G<|nl<|nx<|bk<|lpE (σ := Nat × Value × Value) [(18, _), (19, _)] _ (fun i C => (20, .int .i64 (i.1 : Int)) :: (5, i.2.1) :: (6, i.2.2) :: C) (fun i => [row 3 i.2.2 (listS (fun h => -h.fDown) a.fBase a.fHolders i.1), row 3 i.2.1 (listS (fun h => h.fUp) a.fBase a.fHolders i.1), bl b1 70 (cAccount a a_0), fz X w]) (fun _ Dc => Dc) (fun i => i.1 ≤ a.fHolders.length) (fun i => a.fHolders.length - i.1) (0, v6, v7) ⟨G, G, trivial⟩ (Sc 0 G Sn) (Nat.zero_le _) ⟨G, G, G, G, G, trivial⟩ G (Sc 0 G Sn) ?_
  rintro ⟨i, v5, v6⟩ hi
  simp only at hi
  refine sq<|rg<|ltI G G G<|nl<|nx<|sq<|cdP G (fun h21 => ?_) (fun h21 => ?_)
  ·
   have hd := hold_at hh (i := i) (by omega)
   obtain ⟨hdi1, hdi2⟩ := (hW _ (getD_mem (l := a.fHolders) (i := i) (by omega))).2.2.2
   refine sk<|nx<|sq<|bk<|sq<|rg<|ixP 0 G G G slt_66 (by omega) (getDE (d := default) (by omega)) G fun v22 => ldS 0 G G row_165 G fun q23 w23 => ?_
   refine al zero_165 G fun b8 => stW 0 (us := (cHolder ((a.fHolders.getD i default)))) G G G row_165 G G<|nl<|nx<|sq<|rg<|mv G G<|fa G fld_165_2 G<|ldB 0 G G one_3 G G<|bs1 (xs := [.tmp 26]) (us := [.int .i64 ((a.fHolders.getD i default).fUp)]) (E := 3) (bytes := 8) (n := 1) G (by exact app_220) G G G G G G fun b27 => frS (α := Int) [(a.fHolders.getD i default).fUp] [[.int .i64 ((a.fHolders.getD i default).fUp)]] G (fun S w h => ⟨⟨G, (hW _ (getD_mem (l := a.fHolders) (i := i) (by omega))).2.2.1⟩, trivial⟩) (Nat.le_of_ble_eq_true G)<|ap 2 0 G G G G app_220 (by simp only [listS_len, List.length_cons, List.length_nil]; omega) (by simp only [listS_len, List.length_cons, List.length_nil]; omega) G fun v28 => asg G G<|nl ?_
   refine nx<|rg<|mv G G<|fa G fld_165_3 G<|ldB 0 G G one_3 G G<|ngI G (inI (by omega) (by omega)) G<|bs1 (xs := [.tmp 32]) (us := [.int .i64 ((-(a.fHolders.getD i default).fDown))]) (E := 3) (bytes := 8) (n := 1) G (by exact app_220) G G G G G G fun b33 => frS (α := Int) [-(a.fHolders.getD i default).fDown] [[.int .i64 (-(a.fHolders.getD i default).fDown)]] G (fun S w h => ⟨⟨G, (inI (by omega) (by omega))⟩, trivial⟩) (Nat.le_of_ble_eq_true G)<|ap 1 0 G G G G app_220 (by simp only [listS_len, List.length_cons, List.length_nil]; omega) (by simp only [listS_len, List.length_cons, List.length_nil]; omega) G fun v34 => asg G G<|nl<|bN<|nx<|rg ?_
   refine adI G G (inI (by omega) (by omega)) G<|mv G G<|nl<|dpQ ?_
   exact ag ((i + 1, v28, v34) : Nat × Value × Value) (by show i + 1 ≤ _; omega) (by show _ - _ < _ - _; omega) ⟨G, G, G, G, G, trivial⟩ G (Sc 4 G Sn)
  ·
   refine ex<|tE<|tE<|bE<|nx<|sq<|rg<|mv G G<|mtL 1 G<|frRL<|cfv (sum_c _ _) ok_164 G (Sc 0 G Sn) G<|mv G G<|xt G G G<|xt G G G ?_
   refine asg G G<|asg G G<|nl<|nx<|sq<|rg<|mv G G<|frRL<|cfv (sum_c _ _) ok_164 G (Sc 0 G Sn) G<|mv G G<|xt G G G<|xt G G G<|asg G G<|asg G G ?_
   refine nl<|nx<|sq<|rg<|mv G G<|mv G G<|mv G G<|eqI G G G<|mv G G ?_
   apply jo [(46, _), (47, _)] ⟨rfl, rfl, trivial⟩
   ·
    intro K53
    refine spA (i := 50) G (fun h50 => ?_) (fun h50 => ?_)
    ·
     have p50 := of_decide_eq_true h50
     exact gY G G G<|mv G G<|gY G G G<|eqI G G G<|pkT G G G<|jA K53 h50 ⟨G, G, trivial⟩ Sr
    ·
     exact gS (g := [_, _]) G<|pkF G G G<|jA0 K53 h50 ⟨G, G, trivial⟩ Sr
   exact asg G G<|asg G G<|asg G G<|nl<|nx<|rt<|dpQ<|fR3 () G G G G (by have e : i = a.fHolders.length := (by omega); subst e; simp only [listS_ups a, listS_downs a]; try rfl) G Sn
end Go.Proofs.YtmpoffijcfaalaaGreat

/- Walks, written by specs2.py. -/

namespace Go.Proofs.YtmpoffijcfaalaaGreat
open Go.Eng Go.YtmpoffijcfaalaaGreat
set_option maxHeartbeats 1000000

theorem add_c (x : Int) (y : Int) (h_x : InI x) (h_y : InI y) : FnV Tryz.prog 279 [.int .i64 x, .int .i64 y] [] (sumV (x + y)) := by
 refine Fnc.proof Tryz.func279 G 33 G G fun X w => ?_
 obtain ⟨h_x1, h_x2⟩ := id h_x
 obtain ⟨h_y1, h_y2⟩ := id h_y
 refine sq<|rg<|asg G G<|asg G G<|nl<|nx<|sq<|rg<|mv G G<|mv G G<|adW G G G<|asg G G<|nl<|nx ?_
 refine sq<|sq<|rg<|mv G G<|geI G G G<|mv G G ?_
 apply jo [(0, _), (1, _), (6, _)] ⟨rfl, rfl, rfl, trivial⟩
 ·
  intro K15
  refine spA (i := 12) G (fun h12 => ?_) (fun h12 => ?_)
  ·
   have p12 := of_decide_eq_true h12
   exact gY G G G<|mv G G<|gY G G G<|geI G G G<|pkT G G G<|jA K15 h12 ⟨G, G, G, trivial⟩ Sr
  ·
   exact gS (g := [_, _]) G<|pkF G G G<|jA0 K15 h12 ⟨G, G, G, trivial⟩ Sr
 refine mv G G ?_
 apply jo [(0, _), (1, _), (6, _)] ⟨rfl, rfl, rfl, trivial⟩
 ·
  intro K19
  refine spA (i := 16) G (fun h16 => ?_) (fun h16 => ?_)
  ·
   exact gY G G G<|mv G G<|gY G G G<|ltI G G G<|pkT G G G<|jA K19 h16 ⟨G, G, G, trivial⟩ Sr
  ·
   exact gS (g := [_, _]) G<|pkF G G G<|jA0 K19 h16 ⟨G, G, G, trivial⟩ Sr
 refine mv G G ?_
 apply jo [(6, _)] ⟨rfl, trivial⟩
 ·
  intro K31
  refine spO (i := 20) G (fun h20 => ?_) (fun h20 => ?_)
  ·
   refine gY G G G<|mv G G<|gY G G G<|ltI G G G<|gY G G G<|mv G G ?_
   apply jo [(6, _), (20, _)] ⟨rfl, rfl, trivial⟩
   ·
    intro K26
    refine spA (i := 23) G (fun h23 => ?_) (fun h23 => ?_)
    ·
     have p23 := of_decide_eq_true h23
     exact gY G G G<|mv G G<|gY G G G<|ltI G G G<|gY G G G<|pkT G G G<|jA K26 h23 ⟨G, G, trivial⟩ Sr
    ·
     exact gS (g := [_, _]) G<|gY G G G<|pkF G G G<|jA0 K26 h23 ⟨G, G, trivial⟩ Sr
   refine gY G G G<|mv G G ?_
   apply jo [(6, _), (20, _)] ⟨rfl, rfl, trivial⟩
   ·
    intro K30
    refine spA (i := 27) G (fun h27 => ?_) (fun h27 => ?_)
    ·
     exact gY G G G<|mv G G<|gY G G G<|geI G G G<|gY G G G<|pkT G G G<|jA K30 h27 ⟨G, G, trivial⟩ Sr
    ·
     exact gS (g := [_, _]) G<|gY G G G<|pkF G G G<|jA0 K30 h27 ⟨G, G, trivial⟩ Sr
   exact pkF G G G<|jR K31 h20 ⟨G, trivial⟩ Sr
  ·
   exact gS (g := [_, _, _, _, _, _, _, _, _, _]) G<|pkT G G G<|jR0 K31 h20 ⟨G, trivial⟩ Sr
 refine nl<|nx<|cdB G (fun h31 => ?_) (fun h31 => ?_)
 ·
  exact sq<|rg<|asg G G<|asg G G<|nl<|nx<|rt<|tR<|fR2 () G G G (by show _ = sumV (x + y); have e := (add_ov h_x h_y).1.symm.trans h31; rw [Bool.not_eq_true'] at e; rw [sumV, sumI, sumE, if_neg (by rw [e]; decide), if_neg (by rw [e]; decide)]) G Sn
 ·
  exact sk<|nx<|sq<|rg<|mv G G<|asg G G<|asg G G<|nl<|nx<|rt<|fR2 () G G G (by show _ = sumV (x + y); have e := (add_ov h_x h_y).1.symm.trans h31; rw [Bool.not_eq_false'] at e; rw [sumV, sumI, sumE, if_pos e, if_pos e, (add_ov h_x h_y).2 e]) G Sn

theorem fits_c (a : TAccount) (a_0 : Value) (k : TLock) (h_a : a.wf) (h_k : k.wf) : FnV Tryz.prog 226 [.agg (cAccount a a_0).toArray, .agg (cLock k).toArray] [⟨a_0, a.fHolders⟩] (.bool (fitsP a k)) := by
 refine Fnc.proof Tryz.func226 G 23 G G fun X w => sq<|rg<|bx G G G fun b2 => bx G G G fun b3 => asg G G<|nl<|nx<|sq<|rg<|fa G fld_70_2 G<|ldB 1 G G one_3 G G<|fa G fld_68_3 G<|ldB 0 G G one_3 G G ?_
 refine cfv (add_c _ _ h_a.2.2.1 h_k.2.2.2) ok_279 G Sn G<|mv G G<|xt G G G<|xt G G G<|asg G G<|asg G G<|nl<|nx<|sq<|rg<|mv G G<|eqI G G G<|mv G G ?_
 apply jo [] trivial
 ·
  intro K22
  refine spA (i := 17) G (fun h17 => ?_) (fun h17 => ?_)
  ·
   have p17 := of_decide_eq_true h17
   exact gY G G G<|fa G fld_70_1 G<|gY G G G<|ldM 1 (cSpan a.fSpan) G G row_65 G G<|gY G G G<|mv G G<|gY G G G<|cfv (has_c _ _ h_a.2.1 (sumI_in (a.fBase + k.fN))) ok_165 G Sn G<|pkT G G G<|jA K22 h17 trivial Sr
  ·
   exact gS (g := [_, _, _, _]) G<|pkF G G G<|jA0 K22 h17 trivial Sr
 refine asg G G<|nl<|nx<|rt<|dpQ<|dpQ ?_
 exact fR1 () G G (by rfl) G Sn

theorem aright_c (a : TAccount) (a_0 : Value) (h_a : a.wf) : FnV Tryz.prog 166 [.agg (cAccount a a_0).toArray] [⟨a_0, a.fHolders⟩] (.bool (accP a)) := by
 refine Fnc.proof Tryz.func166 G 80 G G fun X w => sq<|rg<|bx G G G fun b1 => asg G G<|nl<|nx<|sq<|sq<|rg<|fa G fld_70_0 G<|ldB 0 G G one_9 G G<|lnS G Tryz.underlying9 G<|ltI G G G ?_
 refine mv G G ?_
 apply jo [(1, _)] ⟨rfl, trivial⟩
 ·
  intro K15
  refine spO (i := 10) G (fun h10 => ?_) (fun h10 => ?_)
  ·
   have p10 := of_decide_eq_false h10
   exact gY G G G<|fa G fld_70_0 G<|gY G G G<|ldB 0 G G one_9 G G<|gY G G G<|lnS G Tryz.underlying9 G<|gY G G G<|gtI G G G<|pkF G G G<|jR K15 h10 ⟨G, trivial⟩ Sr
  ·
   exact gS (g := [_, _, _, _]) G<|pkT G G G<|jR0 K15 h10 ⟨G, trivial⟩ Sr
 refine mv G G ?_
 apply jo [(1, _)] ⟨rfl, trivial⟩
 ·
  intro K23
  refine spO (i := 16) G (fun h16 => ?_) (fun h16 => ?_)
  ·
   exact gY G G G<|fa G fld_70_1 G<|gY G G G<|ldM 0 (cSpan a.fSpan) G G row_65 G G<|gY G G G<|fa G fld_70_2 G<|gY G G G<|ldB 0 G G one_3 G G<|gY G G G<|cfv (has_c _ _ h_a.2.1 h_a.2.2.1) ok_165 G Sn G<|gY G G G<|nt G G<|pkF G G G<|jR K23 h16 ⟨G, trivial⟩ Sr
  ·
   exact gS (g := [_, _, _, _, _, _]) G<|pkT G G G<|jR0 K23 h16 ⟨G, trivial⟩ Sr
 refine mv G G ?_
 apply jo [(1, _)] ⟨rfl, trivial⟩
 ·
  intro K28
  refine spO (i := 24) G (fun h24 => ?_) (fun h24 => ?_)
  ·
   exact gY G G G<|fa G fld_70_3 G<|gY G G G<|ldB 0 G G one_3 G G<|gY G G G<|ltI G G G<|pkF G G G<|jR K28 h24 ⟨G, trivial⟩ Sr
  ·
   exact gS (g := [_, _, _]) G<|pkT G G G<|jR0 K28 h24 ⟨G, trivial⟩ Sr
 refine mv G G ?_
 apply jo [(1, _)] ⟨rfl, trivial⟩
 ·
  intro K34
  refine spO (i := 29) G (fun h29 => ?_) (fun h29 => ?_)
  ·
   exact gY G G G<|fa G fld_70_4 G<|gY G G G<|ldB 0 G G one_66 G G<|gY G G G<|cfv (holders_c _ _) ok_223 G (Sc 0 G Sn) G<|gY G G G<|nt G G<|pkF G G G<|jR K34 h29 ⟨G, trivial⟩ Sr
  ·
   exact gS (g := [_, _, _, _]) G<|pkT G G G<|jR0 K34 h29 ⟨G, trivial⟩ Sr
 refine nl<|nx<|cdB G (fun h34 => ?_) (fun h34 => ?_)
 ·
  have e34 : (acc1 a) = true := h34
  refine sq<|rg<|asg G G<|nl<|nx<|rt<|tR<|dpQ ?_
  exact fR1 () G G (by rw [accP, e34]; try rfl) G Sn
 ·
  have hh : holdersP a.fHolders = true := by have q := h34; simp only [Bool.or_eq_false_iff, Bool.not_eq_false'] at q; exact q.2
  have e34 : (acc1 a) = false := h34
  refine sk<|nx<|sq<|rg<|ldM 0 (cAccount a a_0) G G row_70 G G<|cfv (lent_c _ _ h_a (by assumption)) ok_224 G (Sc 0 G Sn) G<|mv G G<|xt G G G<|xt G G G<|xt G G G<|asg G G<|asg G G<|asg G G<|nl ?_
  refine nx<|sq<|sq<|rg<|mv G G<|nt G G<|mv G G ?_
  apply jo [(1, _), (4, _)] ⟨rfl, rfl, trivial⟩
  ·
   intro K49
   refine spO (i := 43) G (fun h43 => ?_) (fun h43 => ?_)
   ·
    exact gY G G G<|mv G G<|gY G G G<|fa G fld_70_1 G<|gY G G G<|fa G fld_65_1 G<|gY G G G<|ldB 0 G G one_3 G G<|gY G G G<|gtI G G G<|pkF G G G<|jR K49 h43 ⟨G, G, trivial⟩ Sr
   ·
    exact gS (g := [_, _, _, _, _]) G<|pkT G G G<|jR0 K49 h43 ⟨G, G, trivial⟩ Sr
  refine mv G G ?_
  apply jo [(1, _)] ⟨rfl, trivial⟩
  ·
   intro K56
   refine spO (i := 50) G (fun h50 => ?_) (fun h50 => ?_)
   ·
    exact gY G G G<|mv G G<|gY G G G<|fa G fld_70_1 G<|gY G G G<|fa G fld_65_0 G<|gY G G G<|ldB 0 G G one_3 G G<|gY G G G<|ltI G G G<|pkF G G G<|jR K56 h50 ⟨G, trivial⟩ Sr
   ·
    exact gS (g := [_, _, _, _, _]) G<|pkT G G G<|jR0 K56 h50 ⟨G, trivial⟩ Sr
  refine nl<|nx<|cdB G (fun h56 => ?_) (fun h56 => ?_)
  ·
   have e56 : (acc2 a) = true := h56
   refine sq<|rg<|asg G G<|nl<|nx<|rt<|tR<|dpQ ?_
   exact fR1 () G G (by rw [accP, e34, e56]; try rfl) G Sn
  ·
   have e56 : (acc2 a) = false := h56
   refine sk<|nx<|sq<|sq<|rg<|fa G fld_70_5 G<|fa G fld_68_0 G<|ldB 0 G G one_3 G G<|eqI G G G<|nl<|nx<|cdP G (fun h60 => ?_) (fun h60 => ?_)
   ·
    have e60 : (decide (a.fLock.fClient = 0)) = true := (decide_eq_true h60)
    refine sq<|rg<|fa G fld_70_5 G<|ldM 0 (cLock a.fLock) G G row_68 G G<|bd (ps := []) (cs := (cLock ((⟨0, 0, 0, 0⟩ : TLock)))) (by rfl) (by kernel_rfl) G<|eqT eq_Lock (a.fLock) ((⟨0, 0, 0, 0⟩ : TLock)) G G G<|asg G G<|nl<|nx<|rt<|tR<|dpQ ?_
    exact fR1 () G G (by rw [accP, e34, e56, e60]; try rfl) G Sn
   ·
    have e60 : (decide (a.fLock.fClient = 0)) = false := (decide_eq_false h60)
    refine sk<|nx<|sq<|rg<|fa G fld_70_5 G<|ldM 0 (cLock a.fLock) G G row_68 G G<|cfv (keeper_c _ h_a.2.2.2.2.2) ok_225 G Sn G<|mv G G ?_
    apply jo [(1, _)] ⟨rfl, trivial⟩
    ·
     intro K73
     refine spA (i := 68) G (fun h68 => ?_) (fun h68 => ?_)
     ·
      exact gY G G G<|fa G fld_70_4 G<|gY G G G<|ldB 0 G G one_66 G G<|gY G G G<|lnP 0 G G Tryz.underlying66 G fun l71 => gY G G G<|eqI G G G<|pkT G G G<|jA K73 h68 ⟨G, trivial⟩ Sr
     ·
      exact gS (g := [_, _, _, _]) G<|pkF G G G<|jA0 K73 h68 ⟨G, trivial⟩ Sr
    refine mv G G ?_
    apply jo [] trivial
    ·
     intro K79
     refine spA (i := 74) G (fun h74 => ?_) (fun h74 => ?_)
     ·
      exact gY G G G<|ldM 0 (cAccount a a_0) G G row_70 G G<|gY G G G<|fa G fld_70_5 G<|gY G G G<|ldM 0 (cLock a.fLock) G G row_68 G G<|gY G G G<|cfv (fits_c _ _ _ h_a h_a.2.2.2.2.2) ok_226 G (Sc 0 G Sn) G<|pkT G G G<|jA K79 h74 trivial Sr
     ·
      exact gS (g := [_, _, _, _]) G<|pkF G G G<|jA0 K79 h74 trivial Sr
    refine asg G G<|nl<|nx<|rt<|dpQ ?_
    exact fR1 () G G (by rw [accP, e34, e56, e60]; try rfl) G Sn

theorem acheck_c (a : TAccount) (a_0 : Value) (h_a : a.wf) : FnV Tryz.prog 97 [.agg (cAccount a a_0).toArray] [⟨a_0, a.fHolders⟩] (.int .i64 (errF (accP a))) := by
 refine Fnc.proof Tryz.func97 G 6 G G fun X w => sq<|rg<|bx G G G fun b1 => asg G G<|nl<|nx<|sq<|sq<|rg<|ldM 0 (cAccount a a_0) G G row_70 G G<|cfv (aright_c _ _ h_a) ok_166 G (Sc 0 G Sn) G<|nt G G<|nl ?_
 refine nx<|cdB G (fun h5 => ?_) (fun h5 => ?_)
 ·
  refine sq<|rg<|asg G G<|nl<|nx<|rt<|tR<|dpQ ?_
  exact fR1 () G G (by rw [errF, if_neg (by have q := h5; rw [Bool.not_eq_true'] at q; rw [q]; decide)]) G Sn
 ·
  refine sk<|nx<|sq<|rg<|asg G G<|nl<|nx<|rt<|dpQ ?_
  exact fR1 () G G (by rw [errF, if_pos (by have q := h5; rw [Bool.not_eq_false'] at q; exact q)]) G Sn

theorem aplain_c (a : TAccount) (a_0 : Value) (h_a : a.wf) : FnV Tryz.prog 89 [.agg (cAccount a a_0).toArray] [⟨a_0, a.fHolders⟩] (.bool (aplainP a)) := by
 refine Fnc.proof Tryz.func89 G 32 G G fun X w => sq<|rg<|bx G G G fun b1 => asg G G<|nl<|nx<|sq<|rg<|ldM 0 (cAccount a a_0) G G row_70 G G<|cfv (aright_c _ _ h_a) ok_166 G (Sc 0 G Sn) G<|mv G G ?_
 apply jo [(1, _)] ⟨rfl, trivial⟩
 ·
  intro K10
  refine spA (i := 5) G (fun h5 => ?_) (fun h5 => ?_)
  ·
   exact gY G G G<|fa G fld_70_1 G<|gY G G G<|ldM 0 (cSpan a.fSpan) G G row_65 G G<|gY G G G<|bd (ps := []) (cs := (cSpan ((⟨0, 0⟩ : TSpan)))) (by rfl) (by kernel_rfl) G<|gY G G G<|eqT eq_Span (a.fSpan) ((⟨0, 0⟩ : TSpan)) G G G<|pkT G G G<|jA K10 h5 ⟨G, trivial⟩ Sr
  ·
   exact gS (g := [_, _, _, _]) G<|pkF G G G<|jA0 K10 h5 ⟨G, trivial⟩ Sr
 refine mv G G ?_
 apply jo [(1, _)] ⟨rfl, trivial⟩
 ·
  intro K15
  refine spA (i := 11) G (fun h11 => ?_) (fun h11 => ?_)
  ·
   exact gY G G G<|fa G fld_70_2 G<|gY G G G<|ldB 0 G G one_3 G G<|gY G G G<|eqI G G G<|pkT G G G<|jA K15 h11 ⟨G, trivial⟩ Sr
  ·
   exact gS (g := [_, _, _]) G<|pkF G G G<|jA0 K15 h11 ⟨G, trivial⟩ Sr
 refine mv G G ?_
 apply jo [(1, _)] ⟨rfl, trivial⟩
 ·
  intro K21
  refine spA (i := 16) G (fun h16 => ?_) (fun h16 => ?_)
  ·
   exact gY G G G<|fa G fld_70_4 G<|gY G G G<|ldB 0 G G one_66 G G<|gY G G G<|lnP 0 G G Tryz.underlying66 G fun l19 => gY G G G<|eqI G G G<|pkT G G G<|jA K21 h16 ⟨G, trivial⟩ Sr
  ·
   exact gS (g := [_, _, _, _]) G<|pkF G G G<|jA0 K21 h16 ⟨G, trivial⟩ Sr
 refine mv G G ?_
 apply jo [(1, _)] ⟨rfl, trivial⟩
 ·
  intro K26
  refine spA (i := 22) G (fun h22 => ?_) (fun h22 => ?_)
  ·
   exact gY G G G<|fa G fld_70_3 G<|gY G G G<|ldB 0 G G one_3 G G<|gY G G G<|eqI G G G<|pkT G G G<|jA K26 h22 ⟨G, trivial⟩ Sr
  ·
   exact gS (g := [_, _, _]) G<|pkF G G G<|jA0 K26 h22 ⟨G, trivial⟩ Sr
 refine mv G G ?_
 apply jo [] trivial
 ·
  intro K31
  refine spA (i := 27) G (fun h27 => ?_) (fun h27 => ?_)
  ·
   exact gY G G G<|ldM 0 (cAccount a a_0) G G row_70 G G<|gY G G G<|cfv (locked_c _ _ h_a) ok_167 G (Sc 0 G Sn) G<|gY G G G<|nt G G<|pkT G G G<|jA K31 h27 trivial Sr
  ·
   exact gS (g := [_, _, _]) G<|pkF G G G<|jA0 K31 h27 trivial Sr
 refine asg G G<|nl<|nx<|rt<|dpQ ?_
 exact fR1 () G G (by rfl) G Sn

theorem cmpstr_c (x : ByteArray) (y : ByteArray) : FnV Tryz.prog 162 [.string x, .string y] [] (.int .i64 (cmpB x y)) := by
 refine Fnc.proof Tryz.func162 G 8 G G fun X w => sq<|rg<|asg G G<|nl<|nx<|sq<|rg<|mv G G<|mv G G<|cx ext_220 (fun w => cmp_ok (P := Tryz.prog) x y w) G G<|asg G G<|nl<|nx ?_
 refine rt ?_
 exact fR1 () G G (by rfl) G Sn

theorem compare_c (x : ByteArray) (y : ByteArray) : FnV Tryz.prog 87 [.string x, .string y] [] (.int .i64 (cmpB x y)) := by
 refine Fnc.proof Tryz.func87 G 8 G G fun X w => sq<|rg<|asg G G<|nl<|nx<|sq<|rg<|mv G G<|mv G G<|cfv (cmpstr_c _ _) ok_162 G Sn G<|asg G G<|nl<|nx ?_
 refine rt ?_
 exact fR1 () G G (by rfl) G Sn

theorem order_c (x : TRight) (y : TRight) (h_x : x.wf) (h_y : y.wf) : FnV Tryz.prog 125 [.agg (cRight x).toArray, .agg (cRight y).toArray] [] (.int .i64 (orderP x y)) := by
 refine Fnc.proof Tryz.func125 G 20 G G fun X w => sq<|rg<|bx G G G fun b2 => bx G G G fun b3 => asg G G<|nl<|nx<|sq<|sq<|rg<|fa G fld_59_0 G<|ldB 1 G G one_3 G G<|fa G fld_59_0 G ?_
 refine ldB 0 G G one_3 G G<|neI G G G<|nl<|nx<|cdN G (fun h9 => ?_) (fun h9 => ?_)
 ·
  have e9 : (!decide (x.fGroup = y.fGroup)) = true := (not_dectrue h9)
  refine sq<|sq<|rg<|fa G fld_59_0 G<|ldB 1 G G one_3 G G<|fa G fld_59_0 G<|ldB 0 G G one_3 G G<|ltI G G G<|nl<|nx<|cdP G (fun h14 => ?_) (fun h14 => ?_)
  ·
   have e14 : (decide (x.fGroup < y.fGroup)) = true := (decide_eq_true h14)
   refine sq<|rg<|asg G G<|nl<|nx<|rt<|tR<|tR<|dpQ<|dpQ ?_
   exact fR1 () G G (by rw [orderP, e9, e14]; try rfl) G Sn
  ·
   have e14 : (decide (x.fGroup < y.fGroup)) = false := (decide_eq_false h14)
   refine sk<|nx<|sq<|rg<|asg G G<|nl<|nx<|rt<|tR<|dpQ<|dpQ ?_
   exact fR1 () G G (by rw [orderP, e9, e14]; try rfl) G Sn
 ·
  have e9 : (!decide (x.fGroup = y.fGroup)) = false := (not_decfalse h9)
  refine sk<|nx<|sq<|rg<|fa G fld_59_1 G<|ldB 1 G G one_9 G G<|fa G fld_59_1 G<|ldB 0 G G one_9 G G<|cfv (compare_c _ _) ok_87 G Sn G<|asg G G<|nl<|nx<|rt<|dpQ ?_
  refine dpQ ?_
  exact fR1 () G G (by rw [orderP, e9]; try rfl) G Sn

theorem lcheck_c (v_l : Value) (l : List TRight) : FnV Tryz.prog 59 [v_l] [⟨v_l, l⟩] (.int .i64 (errF (ledgerP l))) := by
 refine Fnc.proof Tryz.func59 G 30 G G fun X w => sq<|rg<|asg G G<|nl<|nx<|sq<|sq<|rg<|mv G G<|lnP 0 G G Tryz.underlying29 G fun l6 => mv G G<|nl<|nx ?_
 refine bk<|lpC (σ := Nat) [(0, _), (5, _), (6, _)] _ (fun i C => (7, .int .i64 (i : Int)) :: C) (fun i => i ≤ l.length ∧ (∀ j, j < i → (!ledgerj l j) = true)) (fun i => l.length - i) 0 ⟨G, G, G, trivial⟩ (Sc 0 G Sn) ⟨Nat.zero_le _, fun j hj => absurd hj (Nat.not_lt_zero j)⟩ ⟨G, G, G, G, trivial⟩ ?_
 rintro i ⟨hi, hall⟩
 refine sq<|rg<|ltI G G G<|nl<|nx<|sq<|cdP G (fun h8 => ?_) (fun h8 => ?_)
 ·
  refine sk<|nx<|sq<|bk<|sq<|rg<|mv G G<|ixP 0 G G G slt_29 (by omega) (getDE (d := default) (by omega)) G fun v10 => ldS 0 G G row_59 G fun q11 w11 => ?_
  refine al zero_59 G fun b4 => asg G G<|stW 0 (us := (cRight ((l.getD i default)))) G G G row_59 G G<|nl<|nx<|sq<|rgQ mixed (by kernel_rfl)<|ldM 0 (cRight ((l.getD i default))) G G row_59 G G<|cfq (lmay_c _ w11) ok_124 G Sn G<|nt G G<|mv G G ?_
  apply jo [(0, _), (5, _), (6, _), (7, _)] ⟨rfl, rfl, rfl, rfl, trivial⟩
  ·
   intro K28
   refine spO (i := 15) G (fun h15 => ?_) (fun h15 => ?_)
   ·
    have p15 := h15
    try simp only [Bool.or_eq_false_iff, Bool.and_eq_true, decide_eq_true_eq, decide_eq_false_iff_not, Bool.not_eq_true', Bool.not_eq_false'] at p15
    refine gY G G G<|mv G G<|gY G G G<|gtI G G G<|gY G G G<|mv G G ?_
    apply jo [(0, _), (5, _), (6, _), (7, _), (15, _)] ⟨rfl, rfl, rfl, rfl, rfl, trivial⟩
    ·
     intro K27
     refine spA (i := 18) G (fun h18 => ?_) (fun h18 => ?_)
     ·
      have p18 := of_decide_eq_true h18
      refine gY G G G<|mv G G<|gY G G G<|mv G G<|gY G G G<|sbI G G (inI (by omega) (by omega)) G<|gY G G G<|ixP 2 G G G slt_29 (by omega) (getDE (d := default) (by omega)) G fun v22 => gY G G G<|ldS 0 G G row_59 G fun q23 w23 => ?_
      exact gY G G G<|ldM 0 (cRight ((l.getD i default))) G G row_59 G G<|gY G G G<|cfq (order_c _ _ w23 w11) ok_125 G Sn G<|gY G G G<|geI G G G<|gY G G G<|pkT G G G<|jA K27 h18 ⟨G, G, G, G, G, trivial⟩ (SubD.tail (SubD.tail Sr))
     ·
      exact gS (g := [_, _, _, _, _, _, _, _]) G<|gY G G G<|pkF G G G<|jA0 K27 h18 ⟨G, G, G, G, G, trivial⟩ Sr
    exact pkF G G G<|jR K28 h15 ⟨G, G, G, G, trivial⟩ Sr
   ·
    exact gS (g := [_, _, _, _, _, _, _, _, _, _, _, _]) G<|pkT G G G<|jR0 K28 h15 ⟨G, G, G, G, trivial⟩ Sr
  refine nlQ<|nx<|cdB G (fun h28 => ?_) (fun h28 => ?_)
  ·
   refine sq<|rg<|asg G G<|nl<|nx<|rt<|bR<|tR<|tR<|bR<|tR<|dpQ ?_
   exact fR1 () G G (by rw [ledgerP, allI_false i (by omega) (not_t h28)]; try rfl) G Sn
  ·
   refine sk<|bN<|nx<|rg<|adI G G (inI (by omega) (by omega)) G<|mv G G<|nl<|dpQ ?_
   exact ag (i + 1) ⟨(by omega), (all_snoc hall (not_f h28))⟩ (by omega) ⟨G, G, G, G, trivial⟩ G (Sc 2 G Sn)
 ·
  refine ex<|tE<|tE<|bE<|nx<|sq<|rg<|asg G G<|nl<|nx<|rt ?_
  exact fR1 () G G (by rw [ledgerP, allI_true (fun j hj => hall j (by omega))]; try rfl) G Sn
end Go.Proofs.YtmpoffijcfaalaaGreat

/- Closed facts on the program, written by specs2.py. -/

namespace Go.Proofs.YtmpoffijcfaalaaGreat
open Go.Eng

theorem fld_24_5 : FieldAt Tryz.prog 24 5 5 := FieldAt.mk Tryz.underlying24 rfl (by kernel_rfl) rfl
theorem fld_24_6 : FieldAt Tryz.prog 24 6 6 := FieldAt.mk Tryz.underlying24 rfl (by kernel_rfl) rfl
theorem fld_27_0 : FieldAt Tryz.prog 27 0 0 := FieldAt.mk Tryz.underlying27 rfl (by kernel_rfl) rfl
theorem fld_27_1 : FieldAt Tryz.prog 27 1 1 := FieldAt.mk Tryz.underlying27 rfl (by kernel_rfl) rfl
theorem fld_27_2 : FieldAt Tryz.prog 27 2 2 := FieldAt.mk Tryz.underlying27 rfl (by kernel_rfl) rfl
theorem fld_27_3 : FieldAt Tryz.prog 27 3 3 := FieldAt.mk Tryz.underlying27 rfl (by kernel_rfl) rfl
theorem fld_27_4 : FieldAt Tryz.prog 27 4 4 := FieldAt.mk Tryz.underlying27 rfl (by kernel_rfl) rfl
theorem fld_27_5 : FieldAt Tryz.prog 27 5 11 := FieldAt.mk Tryz.underlying27 rfl (by kernel_rfl) rfl
theorem ok_123 : FnOk Tryz.prog 123 := ⟨⟨_, Tryz.func123, by kernel_rfl, rfl⟩⟩
theorem ok_172 : FnOk Tryz.prog 172 := ⟨⟨_, Tryz.func172, by kernel_rfl, rfl⟩⟩
theorem ok_173 : FnOk Tryz.prog 173 := ⟨⟨_, Tryz.func173, by kernel_rfl, rfl⟩⟩
theorem ok_182 : FnOk Tryz.prog 182 := ⟨⟨_, Tryz.func182, by kernel_rfl, rfl⟩⟩
theorem ok_187 : FnOk Tryz.prog 187 := ⟨⟨_, Tryz.func187, by kernel_rfl, rfl⟩⟩
theorem ok_188 : FnOk Tryz.prog 188 := ⟨⟨_, Tryz.func188, by kernel_rfl, rfl⟩⟩
theorem ok_189 : FnOk Tryz.prog 189 := ⟨⟨_, Tryz.func189, by kernel_rfl, rfl⟩⟩
theorem ok_190 : FnOk Tryz.prog 190 := ⟨⟨_, Tryz.func190, by kernel_rfl, rfl⟩⟩
theorem ok_191 : FnOk Tryz.prog 191 := ⟨⟨_, Tryz.func191, by kernel_rfl, rfl⟩⟩
theorem ok_192 : FnOk Tryz.prog 192 := ⟨⟨_, Tryz.func192, by kernel_rfl, rfl⟩⟩
theorem ok_244 : FnOk Tryz.prog 244 := ⟨⟨_, Tryz.func244, by kernel_rfl, rfl⟩⟩
theorem ok_245 : FnOk Tryz.prog 245 := ⟨⟨_, Tryz.func245, by kernel_rfl, rfl⟩⟩
theorem ok_35 : FnOk Tryz.prog 35 := ⟨⟨_, Tryz.func35, by kernel_rfl, rfl⟩⟩
theorem one_22 : OneTy Tryz.prog 22 := ⟨⟨_, Tryz.underlying22, rfl⟩, by kernel_rfl⟩
theorem one_25 : OneTy Tryz.prog 25 := ⟨⟨_, Tryz.underlying25, rfl⟩, by kernel_rfl⟩
theorem row_27 : RowTy Tryz.prog 27 12 := ⟨⟨_, Tryz.underlying27, rfl⟩, by kernel_rfl⟩
theorem zero_24 : ZeroOf Tryz.prog 24 [.int .i64 0, .int .i64 0, .int .i64 0, .string ByteArray.empty, .string ByteArray.empty, .int .i64 0, .int .i64 0] := ZeroOf.mk (by kernel_rfl)
end Go.Proofs.YtmpoffijcfaalaaGreat

/- Closed facts on the program, written by specs2.py. -/

namespace Go.Proofs.YtmpoffijcfaalaaGreat
open Go.Eng

theorem fld_32_0 : FieldAt Tryz.prog 32 0 0 := FieldAt.mk Tryz.underlying32 rfl (by kernel_rfl) rfl
theorem fld_32_1 : FieldAt Tryz.prog 32 1 1 := FieldAt.mk Tryz.underlying32 rfl (by kernel_rfl) rfl
theorem fld_32_2 : FieldAt Tryz.prog 32 2 2 := FieldAt.mk Tryz.underlying32 rfl (by kernel_rfl) rfl
theorem fld_32_3 : FieldAt Tryz.prog 32 3 14 := FieldAt.mk Tryz.underlying32 rfl (by kernel_rfl) rfl
theorem fld_32_4 : FieldAt Tryz.prog 32 4 15 := FieldAt.mk Tryz.underlying32 rfl (by kernel_rfl) rfl
theorem fld_55_0 : FieldAt Tryz.prog 55 0 0 := FieldAt.mk Tryz.underlying55 rfl (by kernel_rfl) rfl
theorem fld_55_1 : FieldAt Tryz.prog 55 1 1 := FieldAt.mk Tryz.underlying55 rfl (by kernel_rfl) rfl
theorem fld_55_10 : FieldAt Tryz.prog 55 10 10 := FieldAt.mk Tryz.underlying55 rfl (by kernel_rfl) rfl
theorem fld_55_12 : FieldAt Tryz.prog 55 12 18 := FieldAt.mk Tryz.underlying55 rfl (by kernel_rfl) rfl
theorem fld_55_13 : FieldAt Tryz.prog 55 13 25 := FieldAt.mk Tryz.underlying55 rfl (by kernel_rfl) rfl
theorem fld_55_14 : FieldAt Tryz.prog 55 14 26 := FieldAt.mk Tryz.underlying55 rfl (by kernel_rfl) rfl
theorem fld_55_15 : FieldAt Tryz.prog 55 15 27 := FieldAt.mk Tryz.underlying55 rfl (by kernel_rfl) rfl
theorem fld_55_16 : FieldAt Tryz.prog 55 16 28 := FieldAt.mk Tryz.underlying55 rfl (by kernel_rfl) rfl
theorem fld_55_7 : FieldAt Tryz.prog 55 7 7 := FieldAt.mk Tryz.underlying55 rfl (by kernel_rfl) rfl
theorem fld_55_9 : FieldAt Tryz.prog 55 9 9 := FieldAt.mk Tryz.underlying55 rfl (by kernel_rfl) rfl
theorem ok_122 : FnOk Tryz.prog 122 := ⟨⟨_, Tryz.func122, by kernel_rfl, rfl⟩⟩
theorem ok_159 : FnOk Tryz.prog 159 := ⟨⟨_, Tryz.func159, by kernel_rfl, rfl⟩⟩
theorem ok_179 : FnOk Tryz.prog 179 := ⟨⟨_, Tryz.func179, by kernel_rfl, rfl⟩⟩
theorem ok_180 : FnOk Tryz.prog 180 := ⟨⟨_, Tryz.func180, by kernel_rfl, rfl⟩⟩
theorem ok_181 : FnOk Tryz.prog 181 := ⟨⟨_, Tryz.func181, by kernel_rfl, rfl⟩⟩
theorem ok_183 : FnOk Tryz.prog 183 := ⟨⟨_, Tryz.func183, by kernel_rfl, rfl⟩⟩
theorem ok_184 : FnOk Tryz.prog 184 := ⟨⟨_, Tryz.func184, by kernel_rfl, rfl⟩⟩
theorem ok_185 : FnOk Tryz.prog 185 := ⟨⟨_, Tryz.func185, by kernel_rfl, rfl⟩⟩
theorem ok_186 : FnOk Tryz.prog 186 := ⟨⟨_, Tryz.func186, by kernel_rfl, rfl⟩⟩
theorem ok_57 : FnOk Tryz.prog 57 := ⟨⟨_, Tryz.func57, by kernel_rfl, rfl⟩⟩
theorem ok_58 : FnOk Tryz.prog 58 := ⟨⟨_, Tryz.func58, by kernel_rfl, rfl⟩⟩
theorem ok_59 : FnOk Tryz.prog 59 := ⟨⟨_, Tryz.func59, by kernel_rfl, rfl⟩⟩
theorem one_28 : OneTy Tryz.prog 28 := ⟨⟨_, Tryz.underlying28, rfl⟩, by kernel_rfl⟩
theorem one_29 : OneTy Tryz.prog 29 := ⟨⟨_, Tryz.underlying29, rfl⟩, by kernel_rfl⟩
theorem one_35 : OneTy Tryz.prog 35 := ⟨⟨_, Tryz.underlying35, rfl⟩, by kernel_rfl⟩
theorem one_52 : OneTy Tryz.prog 52 := ⟨⟨_, Tryz.underlying52, rfl⟩, by kernel_rfl⟩
theorem one_53 : OneTy Tryz.prog 53 := ⟨⟨_, Tryz.underlying53, rfl⟩, by kernel_rfl⟩
theorem row_108 : RowTy Tryz.prog 108 11 := ⟨⟨_, Tryz.underlying108, rfl⟩, by kernel_rfl⟩
theorem slt_28 : SliceTy Tryz.prog 28 55 29 := ⟨Tryz.underlying28, by kernel_rfl⟩
theorem slt_51 : SliceTy Tryz.prog 51 108 11 := ⟨Tryz.underlying51, by kernel_rfl⟩
theorem zero_108 : ZeroOf Tryz.prog 108 [.int .i64 0, .int .i64 0, .int .i64 0, .int .i64 0, .int .i64 0, .int .i64 0, .string ByteArray.empty, .string ByteArray.empty, .int .i64 0, .int .i64 0, .int .i64 0] := ZeroOf.mk (by kernel_rfl)
theorem zero_55 : ZeroOf Tryz.prog 55 [.int .i64 0, .int .i64 0, .bool false, .string ByteArray.empty, .string ByteArray.empty, .int .i64 0, .slice none 0 0, .slice none 0 0, .slice none 0 0, .slice none 0 0, .slice none 0 0, .int .i64 0, .int .i64 0, .int .i64 0, .string ByteArray.empty, .string ByteArray.empty, .int .i64 0, .int .i64 0, .int .i64 0, .int .i64 0, .int .i64 0, .string ByteArray.empty, .string ByteArray.empty, .int .i64 0, .int .i64 0, .slice none 0 0, .int .i64 0, .int .i64 0, .int .i64 0] := ZeroOf.mk (by kernel_rfl)
end Go.Proofs.YtmpoffijcfaalaaGreat

/- Closed facts on the program, written by specs2.py. -/

namespace Go.Proofs.YtmpoffijcfaalaaGreat
open Go.Eng

end Go.Proofs.YtmpoffijcfaalaaGreat

/- Closed facts on the program, written by specs6.py. -/

namespace Go.Proofs.YtmpoffijcfaalaaGreat
open Go.Eng

theorem app_22 : AppTy Tryz.prog 22 90 3 32 := AppTy.mk Tryz.underlying22 (by kernel_rfl) (by decide)
theorem app_28 : AppTy Tryz.prog 28 55 29 376 := AppTy.mk Tryz.underlying28 (by kernel_rfl) (by decide)
theorem ok_17 : FnOk Tryz.prog 17 := ⟨⟨_, Tryz.func17, by kernel_rfl, rfl⟩⟩
theorem ok_40 : FnOk Tryz.prog 40 := ⟨⟨_, Tryz.func40, by kernel_rfl, rfl⟩⟩
theorem ok_93 : FnOk Tryz.prog 93 := ⟨⟨_, Tryz.func93, by kernel_rfl, rfl⟩⟩
theorem ok_94 : FnOk Tryz.prog 94 := ⟨⟨_, Tryz.func94, by kernel_rfl, rfl⟩⟩
theorem row_32 : RowTy Tryz.prog 32 17 := ⟨⟨_, Tryz.underlying32, rfl⟩, by kernel_rfl⟩
theorem zero_27 : ZeroOf Tryz.prog 27 [.int .i64 0, .slice none 0 0, .int .i64 0, .int .i64 0, .int .i64 0, .int .i64 0, .int .i64 0, .string ByteArray.empty, .string ByteArray.empty, .int .i64 0, .int .i64 0, .slice none 0 0] := ZeroOf.mk (by kernel_rfl)
theorem zero_32 : ZeroOf Tryz.prog 32 [.int .i64 0, .int .i64 0, .int .i64 0, .slice none 0 0, .int .i64 0, .int .i64 0, .int .i64 0, .int .i64 0, .int .i64 0, .string ByteArray.empty, .string ByteArray.empty, .int .i64 0, .int .i64 0, .slice none 0 0, .slice none 0 0, .slice none 0 0, .slice none 0 0] := ZeroOf.mk (by kernel_rfl)
end Go.Proofs.YtmpoffijcfaalaaGreat

/- Closed facts on the program, written by specs9.py. -/

namespace Go.Proofs.YtmpoffijcfaalaaGreat
open Go.Eng

end Go.Proofs.YtmpoffijcfaalaaGreat

/- The data of the audit, as plain structures. No program. -/

namespace Go.YtmpoffijcfaalaaGreat
open Go.Eng

structure Tcounted where
  fAccount : TAccount
  fGroup : Int
  deriving DecidableEq, Inhabited
@[reducible] def ccounted (x : Tcounted) (k0 : Value) : List Value := [.string x.fAccount.fKey, .int .i64 x.fAccount.fSpan.fLo, .int .i64 x.fAccount.fSpan.fHi, .int .i64 x.fAccount.fBase, .int .i64 x.fAccount.fRound, k0, .int .i64 x.fAccount.fLock.fClient, .int .i64 x.fAccount.fLock.fSeq, .int .i64 x.fAccount.fLock.fHome, .int .i64 x.fAccount.fLock.fN, .int .i64 x.fGroup]
def Tcounted.wf (x : Tcounted) : Prop := x.fAccount.wf ∧ InI x.fGroup
@[reducible] def scounted : Shape Tcounted where
  H := Value
  size := 11
  cells x h := ccounted x h
  sub x h := [⟨h, x.fAccount.fHolders⟩]
  wf := Tcounted.wf
  len _ _ := rfl
  one := by
    intro S w x h ht u hu
    have o0 := oneCell_of_list (ht _ (List.mem_cons_self ..))
    simp only [ccounted, List.mem_cons, List.not_mem_nil, or_false] at hu
    rcases hu with rfl | rfl | rfl | rfl | rfl | rfl | rfl | rfl | rfl | rfl | rfl <;> first | rfl | exact o0
@[reducible] instance rcounted : Rep Tcounted := Rep.ofShape scounted
end Go.YtmpoffijcfaalaaGreat

/- Closed facts on the program, written by specs10.py. -/

namespace Go.Proofs.YtmpoffijcfaalaaGreat
open Go.Eng

theorem app_145 : AppTy Tryz.prog 145 150 11 112 := AppTy.mk Tryz.underlying145 (by kernel_rfl) (by decide)
theorem app_25 : AppTy Tryz.prog 25 122 7 56 := AppTy.mk Tryz.underlying25 (by kernel_rfl) (by decide)
theorem app_272 : AppTy Tryz.prog 272 50 1 24 := AppTy.mk Tryz.underlying272 (by kernel_rfl) (by decide)
theorem app_50 : AppTy Tryz.prog 50 70 10 104 := AppTy.mk Tryz.underlying50 (by kernel_rfl) (by decide)
theorem app_51 : AppTy Tryz.prog 51 108 11 104 := AppTy.mk Tryz.underlying51 (by kernel_rfl) (by decide)
theorem app_52 : AppTy Tryz.prog 52 126 8 80 := AppTy.mk Tryz.underlying52 (by kernel_rfl) (by decide)
theorem app_53 : AppTy Tryz.prog 53 129 2 16 := AppTy.mk Tryz.underlying53 (by kernel_rfl) (by decide)
theorem app_66 : AppTy Tryz.prog 66 165 4 32 := AppTy.mk Tryz.underlying66 (by kernel_rfl) (by decide)
theorem app_72 : AppTy Tryz.prog 72 78 4 40 := AppTy.mk Tryz.underlying72 (by kernel_rfl) (by decide)
theorem app_75 : AppTy Tryz.prog 75 32 17 232 := AppTy.mk Tryz.underlying75 (by kernel_rfl) (by decide)
theorem fld_150_0 : FieldAt Tryz.prog 150 0 0 := FieldAt.mk Tryz.underlying150 rfl (by kernel_rfl) rfl
theorem fld_150_1 : FieldAt Tryz.prog 150 1 10 := FieldAt.mk Tryz.underlying150 rfl (by kernel_rfl) rfl
theorem fld_59_3 : FieldAt Tryz.prog 59 3 3 := FieldAt.mk Tryz.underlying59 rfl (by kernel_rfl) rfl
theorem ok_100 : FnOk Tryz.prog 100 := ⟨⟨_, Tryz.func100, by kernel_rfl, rfl⟩⟩
theorem ok_107 : FnOk Tryz.prog 107 := ⟨⟨_, Tryz.func107, by kernel_rfl, rfl⟩⟩
theorem ok_143 : FnOk Tryz.prog 143 := ⟨⟨_, Tryz.func143, by kernel_rfl, rfl⟩⟩
theorem ok_144 : FnOk Tryz.prog 144 := ⟨⟨_, Tryz.func144, by kernel_rfl, rfl⟩⟩
theorem ok_145 : FnOk Tryz.prog 145 := ⟨⟨_, Tryz.func145, by kernel_rfl, rfl⟩⟩
theorem ok_146 : FnOk Tryz.prog 146 := ⟨⟨_, Tryz.func146, by kernel_rfl, rfl⟩⟩
theorem ok_147 : FnOk Tryz.prog 147 := ⟨⟨_, Tryz.func147, by kernel_rfl, rfl⟩⟩
theorem ok_154 : FnOk Tryz.prog 154 := ⟨⟨_, Tryz.func154, by kernel_rfl, rfl⟩⟩
theorem ok_155 : FnOk Tryz.prog 155 := ⟨⟨_, Tryz.func155, by kernel_rfl, rfl⟩⟩
theorem ok_156 : FnOk Tryz.prog 156 := ⟨⟨_, Tryz.func156, by kernel_rfl, rfl⟩⟩
theorem ok_157 : FnOk Tryz.prog 157 := ⟨⟨_, Tryz.func157, by kernel_rfl, rfl⟩⟩
theorem ok_158 : FnOk Tryz.prog 158 := ⟨⟨_, Tryz.func158, by kernel_rfl, rfl⟩⟩
theorem ok_160 : FnOk Tryz.prog 160 := ⟨⟨_, Tryz.func160, by kernel_rfl, rfl⟩⟩
theorem ok_161 : FnOk Tryz.prog 161 := ⟨⟨_, Tryz.func161, by kernel_rfl, rfl⟩⟩
theorem ok_163 : FnOk Tryz.prog 163 := ⟨⟨_, Tryz.func163, by kernel_rfl, rfl⟩⟩
theorem ok_213 : FnOk Tryz.prog 213 := ⟨⟨_, Tryz.func213, by kernel_rfl, rfl⟩⟩
theorem ok_217 : FnOk Tryz.prog 217 := ⟨⟨_, Tryz.func217, by kernel_rfl, rfl⟩⟩
theorem ok_218 : FnOk Tryz.prog 218 := ⟨⟨_, Tryz.func218, by kernel_rfl, rfl⟩⟩
theorem ok_219 : FnOk Tryz.prog 219 := ⟨⟨_, Tryz.func219, by kernel_rfl, rfl⟩⟩
theorem ok_24 : FnOk Tryz.prog 24 := ⟨⟨_, Tryz.func24, by kernel_rfl, rfl⟩⟩
theorem ok_25 : FnOk Tryz.prog 25 := ⟨⟨_, Tryz.func25, by kernel_rfl, rfl⟩⟩
theorem ok_26 : FnOk Tryz.prog 26 := ⟨⟨_, Tryz.func26, by kernel_rfl, rfl⟩⟩
theorem ok_27 : FnOk Tryz.prog 27 := ⟨⟨_, Tryz.func27, by kernel_rfl, rfl⟩⟩
theorem ok_276 : FnOk Tryz.prog 276 := ⟨⟨_, Tryz.func276, by kernel_rfl, rfl⟩⟩
theorem ok_308 : FnOk Tryz.prog 308 := ⟨⟨_, Tryz.func308, by kernel_rfl, rfl⟩⟩
theorem ok_33 : FnOk Tryz.prog 33 := ⟨⟨_, Tryz.func33, by kernel_rfl, rfl⟩⟩
theorem ok_70 : FnOk Tryz.prog 70 := ⟨⟨_, Tryz.func70, by kernel_rfl, rfl⟩⟩
theorem ok_71 : FnOk Tryz.prog 71 := ⟨⟨_, Tryz.func71, by kernel_rfl, rfl⟩⟩
theorem ok_72 : FnOk Tryz.prog 72 := ⟨⟨_, Tryz.func72, by kernel_rfl, rfl⟩⟩
theorem ok_73 : FnOk Tryz.prog 73 := ⟨⟨_, Tryz.func73, by kernel_rfl, rfl⟩⟩
theorem ok_79 : FnOk Tryz.prog 79 := ⟨⟨_, Tryz.func79, by kernel_rfl, rfl⟩⟩
theorem ok_83 : FnOk Tryz.prog 83 := ⟨⟨_, Tryz.func83, by kernel_rfl, rfl⟩⟩
theorem ok_84 : FnOk Tryz.prog 84 := ⟨⟨_, Tryz.func84, by kernel_rfl, rfl⟩⟩
theorem ok_85 : FnOk Tryz.prog 85 := ⟨⟨_, Tryz.func85, by kernel_rfl, rfl⟩⟩
theorem ok_86 : FnOk Tryz.prog 86 := ⟨⟨_, Tryz.func86, by kernel_rfl, rfl⟩⟩
theorem ok_88 : FnOk Tryz.prog 88 := ⟨⟨_, Tryz.func88, by kernel_rfl, rfl⟩⟩
theorem one_145 : OneTy Tryz.prog 145 := ⟨⟨_, Tryz.underlying145, rfl⟩, by kernel_rfl⟩
theorem row_150 : RowTy Tryz.prog 150 11 := ⟨⟨_, Tryz.underlying150, rfl⟩, by kernel_rfl⟩
theorem row_78 : RowTy Tryz.prog 78 4 := ⟨⟨_, Tryz.underlying78, rfl⟩, by kernel_rfl⟩
theorem slt_145 : SliceTy Tryz.prog 145 150 11 := ⟨Tryz.underlying145, by kernel_rfl⟩
theorem slt_272 : SliceTy Tryz.prog 272 50 1 := ⟨Tryz.underlying272, by kernel_rfl⟩
theorem slt_71 : SliceTy Tryz.prog 71 29 1 := ⟨Tryz.underlying71, by kernel_rfl⟩
theorem slt_72 : SliceTy Tryz.prog 72 78 4 := ⟨Tryz.underlying72, by kernel_rfl⟩
theorem slt_75 : SliceTy Tryz.prog 75 32 17 := ⟨Tryz.underlying75, by kernel_rfl⟩
theorem zero_145 : ZeroOf Tryz.prog 145 [.slice none 0 0] := ZeroOf.mk (by kernel_rfl)
theorem zero_150 : ZeroOf Tryz.prog 150 [.string ByteArray.empty, .int .i64 0, .int .i64 0, .int .i64 0, .int .i64 0, .slice none 0 0, .int .i64 0, .int .i64 0, .int .i64 0, .int .i64 0, .int .i64 0] := ZeroOf.mk (by kernel_rfl)
end Go.Proofs.YtmpoffijcfaalaaGreat

/- What the checks tell, more. No program. -/

namespace Go.YtmpoffijcfaalaaGreat
open Go.Eng

end Go.YtmpoffijcfaalaaGreat
