/- Part 21 of the proof of auditOrder_holds: DutR3, DutR5, DutR6, DutR7. Every text below begins with what it shows. -/
import Derived.Test.YtmpoffijcfaalaaGreatAu20

/- Walks: written by specs1r.py. -/

namespace Go.Proofs.YtmpoffijcfaalaaGreat.Rdr
open Go.Eng Go.YtmpoffijcfaalaaGreat

theorem clone_c (sv : Value) (bs : List UInt8) (hlen : bs.length ≤ 140737488355328) : Fnc Tryz.prog 107 [sv] [] [⟨sv, bs⟩] (fun (_ : Unit) _ => True) (fun _ _ => []) (fun _ v => [⟨v, bs⟩]) := by
 refine Fnc.proof Tryz.func107 G 8 G G fun X w => sq<|rg<|asg G G<|nl<|nx<|sq<|sq<|rg<|mv G G<|eqN 0 Tryz.underlying35 G G G G fun q4 n4 => nl<|nx<|cdB G (fun h4 => ?_) (fun h4 => ?_)
 ·
  have hx : bs = [] := n4 h4
  subst hx
  exact emC (α := UInt8)<|sq<|rg<|asg G G<|nl<|nx<|rt<|tR<|fR1 () G G trivial G (Sc 0 G Sn)
 ·
  exact sk<|nx<|sq<|rg<|bs0 app_35 G fun b5 => rwB (α := UInt8) [] [] G G (fun _ _ _ => trivial) G<|mv G G<|ap 0 0 G G G G app_35 (by simpa using hlen) (by simpa using hlen) G fun v7 => asg G G<|nl<|nx<|rt<|frRQ<|fR1 () G G trivial G (Sc 0 G Sn)

theorem text1_c (a b : Nat) (sv : Value) (bs : List UInt8) (most : Int) (hm : InI most) (hms : most ≤ 1000000) : Fnc Tryz.prog 317 [sv, .pointer (some ⟨a, 0, none⟩), .pointer (some ⟨b, 0, none⟩)] [vr b 35 ([] : List UInt8), bl a 3 [.int .i64 most]] [⟨sv, bs⟩] (fun (_ : Unit) v => v = stepTup (textD bs most).2.1 (textD bs most).2.2) (fun _ _ => [vr b 35 (textD bs most).1, bl a 3 [.int .i64 most]]) (fun _ _ => []) := by
 refine Fnc.proof Tryz.func317 G 38 G G fun X w => ?_
 have hb := countD_bd bs most
 have hN0 := counted_c sv bs most hm
 rcases hN : countD bs most with ⟨v, n, e⟩
 rw [hN] at hN0 hb
 have hN0 : FnV Tryz.prog 316 [sv, .int .i64 most] [⟨sv, bs⟩] (.tuple #[.int .i64 (v : Int), .int .i64 (n : Int), .int .i64 (e : Int)]) := hN0
 simp only at hb
 have hmx := max_in hm
 have hT := textD_of hN
 refine sq<|rg<|asg G G<|asg G G<|nl<|nx<|sq<|rg<|mv G G<|ldB 1 G G one_3 G G<|cfv (hN0) ok_316 G (Sc 0 G Sn) G<|mv G G<|xt G G G<|xt G G G ?_
 refine xt G G G<|asg G G<|asg G G<|asg G G<|nl<|nx<|sq<|sq<|rg<|mv G G<|neI G G G<|nl<|nx<|cdN G (fun h17 => ?_) (fun h17 => ?_)
 ·
  refine sq<|rg<|mv G G<|asg G G<|asg G G<|nl<|nx<|rt<|tR ?_
  rw [show textD bs most = ([], 0, e) from by rw [hT, if_pos (by omega)]]
  exact fR2 () G G G G G Sn
 ·
  refine sk<|nx<|sq<|sq<|rg<|mv G G<|lnP 0 G G Tryz.underlying35 G fun l20 => mv G G<|sbI G G (inI (by omega) (by omega)) G<|mv G G<|ltI G G G<|nl<|nx<|cdP G (fun h24 => ?_) (fun h24 => ?_)
  ·
   refine sq<|rg<|asg G G<|asg G G<|nl<|nx<|rt<|tR ?_
   rw [show textD bs most = ([], 0, 20) from by rw [hT, if_neg (by omega), if_pos (by omega)]]
   exact fR2 () G G G G G Sn
  ·
   refine sk<|nx<|sq<|rg<|mv G G<|mv G G<|mv G G<|mv G G<|adI G G (inI (by omega) (by omega)) G<|mv G G<|mv G G<|adI G G (inI (by omega) (by omega)) G<|slP3 0 G G slt_35 G G G (by omega) (by omega) (by omega) (by omega) G fun v33 => cf (clone_c _ _ (by first | assumption | (simp only [List.length_drop, List.length_take]; omega))) ok_107 G (Sc 0 G Sn) G fun y34 v34 h34 => ?_
   refine opL 0 G fun u => stL 0 1 G G G G one_35 (Nat.lt_of_lt_of_le (Nat.lt_succ_self _) (Nat.le_of_ble_eq_true G))<|nl<|nx<|sq<|rg<|mv G G<|mv G G<|adI G G (inI (by omega) (by omega)) G<|asg G G<|asg G G<|nl<|nx<|rt ?_
   rw [show textD bs most = ((bs.drop n).take v, n + v, 0) from by rw [hT, if_neg (by omega), if_neg (by omega)]]
   refine adQ ⟨v34, (bs.drop n).take v⟩ (fun S w h => ?_) (clQ 0 0 G G (fR2 () G G G G G Sn))
   have q := h ⟨v34, _⟩ (List.mem_of_getElem? (i := 1) rfl)
   rw [List.drop_take, show ((n : Int) + (v : Int)).toNat - (n : Int).toNat = v from by omega] at q
   exact q

theorem thing1_c (p f : Nat) (bv : Value) (bs : List UInt8) (s : Rd) (caps : Array Value) (q q' : OwnE) (n e : Nat) (hok : FnOk Tryz.prog f) (h0 : s.fault = 0) (hp : s.pos ≤ bs.length) (hn : n ≤ (bs.drop s.pos).length)
  (hcl : ∀ sv, Fnc Tryz.prog f (sv :: caps.toList) [q] [⟨sv, bs.drop s.pos⟩] (fun (_ : Unit) v => v = stepTup n e) (fun _ _ => [q']) (fun _ _ => [])) :
  Fnc Tryz.prog 313 [.pointer (some ⟨p, 0, none⟩), .func (.func f) #[] caps] [q, rdr p bv s] [⟨bv, bs⟩] (fun (_ : Unit) v => v = .bool (decide (e = 0))) (fun _ _ => [q', rdr p bv (s.step n e)]) (fun _ _ => []) := by
 refine Fnc.proof Tryz.func313 G 54 G G fun X w => ?_
 rw [← List.take_length (l := bs)] at hcl
 have hcl' : ∀ sv, Fnc Tryz.prog f (sv :: caps.toList) [q] [⟨sv, (bs.take bs.length).drop s.pos⟩] (fun (_ : Unit) v => v = stepTup n e) (fun _ _ => [q']) (fun _ _ => []) := fun sv => by have := hcl sv; simpa using this
 rw [List.length_drop] at hn
 refine gtC (q := bs.length ≤ 9223372036854775807) (fun S w h => list_len (h _ (List.mem_cons_self ..))) fun hlen => sq<|rg<|asg G G<|nl<|nx<|sq<|sq<|rg<|mv G G<|eqP Tryz.underlying311 G G G<|mv G G<|gY G G G<|mv G G ?_
 refine gY G G G<|nc G G<|gY G G G<|fa G fld_346_2 G<|gY G G G<|ldB 1 G G one_38 G G<|gY G G G<|neI G G G<|pkF G G G<|nl<|nx<|cdN G (fun h15 => ?_) (fun h15 => ?_)
 ·
  exact absurd (by omega) h15 --#done
 ·
  refine sk<|nx<|sq ?_
  refine rgV ⟨fun i => ([[], [], [1], [2], [3], [], [5], [6], [7], [], [9], [10], [11], [12], [], [14], [15], [16], [17], [4, 8, 13, 18], [0, 19], [20], [21], [21], [22], [23]] : List (List Nat)).getD i [], fun _ _ => True, fun i => ([fun _ => [], fun _ => [], fun _ => [], fun _ => [], fun _ => [], fun _ => [], fun _ => [], fun _ => [], fun _ => [], fun _ => [], fun _ => [], fun _ => [], fun _ => [], fun _ => [], fun _ => [], fun _ => [], fun _ => [], fun _ => [], fun _ => [], fun u => [⟨u, (bs.take bs.length).drop s.pos⟩], fun _ => [], fun _ => [], fun _ => [], fun _ => [], fun _ => [], fun _ => []] : List (Value → List Atom)).getD i (fun _ => []), fun vs => match vs with
    | [] => [q, rdr p bv s, fz X w]
    | [v0] => [q', rdr p bv s, fz X w]
    | _ => [], [20]⟩ (fun i => ([some (.func (.func f) #[] caps), some (.pointer (some ⟨p, 0, none⟩)), some (.pointer (some ⟨p, 0, none⟩)), some (.pointer (some ⟨p, 0, none⟩)), some (bv), some (.pointer (some ⟨p, 0, none⟩)), some (.pointer (some ⟨p, 0, none⟩)), some (.pointer (some ⟨p, 1, none⟩)), some (.int .i64 (s.pos : Int)), some (.pointer (some ⟨p, 0, none⟩)), some (.pointer (some ⟨p, 0, none⟩)), some (.pointer (some ⟨p, 0, none⟩)), some (bv), some (.int .i64 (bs.length : Int)), some (.pointer (some ⟨p, 0, none⟩)), some (.pointer (some ⟨p, 0, none⟩)), some (.pointer (some ⟨p, 0, none⟩)), some (bv), some (.int .i64 (bs.length : Int)), none, some (stepTup n e), some (stepTup n e), some (.int .i64 (n : Int)), some (.int .i64 (e : Int)), some (.int .i64 (n : Int)), some (.int .i64 (e : Int))] : List (Option Value)).getD i none) mixed rfl rfl ?_ ?_
  ·
   refine ⟨fun V De _=>aP1 (mv G G<|oa G G G G),fun V De _=>aP2 (mv G G<|oa G G G G) (mv G G<|oa G G G G),fun V De _=>aP2 (nc G G<|oa G G G G) (nc G G<|oa G G G G),fun V De _=>aP2 (fa G fld_346_0 G<|oa G G G G) (fa G fld_346_0 G<|oa G G G G),fun V De _=>aP2 (ldB 1 G G one_35 G G<|oa G G G G) (ldB 1 G G one_35 G G<|oa G G G G),fun V De _=>aP2 (mv G G<|oa G G G G) (mv G G<|oa G G G G),fun V De _=>aP2 (nc G G<|oa G G G G) (nc G G<|oa G G G G),fun V De _=>aP2 (fa G fld_346_1 G<|oa G G G G) (fa G fld_346_1 G<|oa G G G G),?_⟩
   refine ⟨fun V De _=>aP2 (ldB 1 G G one_3 G G<|oa G G G G) (ldB 1 G G one_3 G G<|oa G G G G),fun V De _=>aP2 (mv G G<|oa G G G G) (mv G G<|oa G G G G),fun V De _=>aP2 (nc G G<|oa G G G G) (nc G G<|oa G G G G),fun V De _=>aP2 (fa G fld_346_0 G<|oa G G G G) (fa G fld_346_0 G<|oa G G G G),fun V De _=>aP2 (ldB 1 G G one_35 G G<|oa G G G G) (ldB 1 G G one_35 G G<|oa G G G G),fun V De _=>aP2 (lnP 0 G G Tryz.underlying35 G fun l30 => oa G G G G) (lnP 0 G G Tryz.underlying35 G fun l30 => oa G G G G),fun V De _=>aP2 (mv G G<|oa G G G G) (mv G G<|oa G G G G),fun V De _=>aP2 (nc G G<|oa G G G G) (nc G G<|oa G G G G),?_⟩
   refine ⟨fun V De _=>aP2 (fa G fld_346_0 G<|oa G G G G) (fa G fld_346_0 G<|oa G G G G),fun V De _=>aP2 (ldB 1 G G one_35 G G<|oa G G G G) (ldB 1 G G one_35 G G<|oa G G G G),fun V De _=>aP2 (lnP 0 G G Tryz.underlying35 G fun l35 => oa G G G G) (lnP 0 G G Tryz.underlying35 G fun l35 => oa G G G G),fun V De _=>aP1 (slP3 0 G G slt_35 G G G (by omega) (by omega) (by omega) (by omega) G fun v36 => nl (od G G G trivial (Sc 0 G Sn) (SubD.tail Sr))),?_⟩
   refine ⟨fun V De _ => (show AllP _ [0] from ⟨?_, trivial⟩), ?_⟩
   ·
    refine cfPc (L0 := [q]) (Lr := [rdr p bv s, fz X w]) (hcl' _) hok G (by rfl) (by rfl) (by rfl) (Sc 0 G Sn) (by rfl) fun y v h => ?_
    obtain rfl : v = stepTup n e := h
    exact nl (od G G G G Sn (SubD.tail Sr))
   exact ⟨fun V De _=>aP1 (mv G G<|oa G G G G),fun V De _=>aP2 (xt G G G<|oa G G G G) (xt G G G<|oa G G G G),fun V De _=>aP2 (xt G G G<|oa G G G G) (xt G G G<|oa G G G G),fun V De _=>aP1 (asg G G<|oa G G G G),fun V De _=>aP1 (asg G G<|oa G G G G),trivial⟩
  ·
   intro V _
   refine wkQ (L := [q', rdr p bv s, fz X w]) [(0, .pointer (some ⟨p, 0, none⟩)), (5, .int .i64 (n : Int)), (6, .int .i64 (e : Int))] [⟨bv, bs⟩] ⟨G, G, G, trivial⟩ (Sc 1 G Sn)<|nx<|sq<|sq<|rg<|mv G G<|neI G G G<|nl<|nx<|cdN G (fun h41 => ?_) (fun h41 => ?_)
   ·
    refine sq<|rg<|mv G G<|mv G G<|nc G G<|fa G fld_346_2 G<|stB 1 G G G one_38 G (Nat.lt_of_lt_of_le (Nat.lt_succ_self _) (Nat.le_of_ble_eq_true G))<|nl<|nx<|sq<|rg<|asg G G<|nl<|nx ?_
    refine rt<|tR ?_
    have hs : s.step n e = ⟨s.pos, e⟩ := by unfold Rd.step; rw [if_neg (by omega), if_pos (by omega)]
    rw [hs]
    exact fR1 () G G (by rw [decide_eq_false (by omega)]) G Sn
   ·
    refine sk<|nx<|sq<|rg<|mv G G<|nc G G<|fa G fld_346_1 G<|ldB 1 G G one_3 G G<|mv G G<|adI G G (inI (by omega) (by omega)) G<|nc G G<|fa G fld_346_1 G<|stB 1 G G G one_3 G (Nat.lt_of_lt_of_le (Nat.lt_succ_self _) (Nat.le_of_ble_eq_true G))<|nl ?_
    refine nx<|sq<|rg<|asg G G<|nl<|nx<|rt ?_
    obtain rfl : e = 0 := by omega
    have hs : s.step n 0 = ⟨s.pos + n, s.fault⟩ := by unfold Rd.step; rw [if_neg (by omega), if_neg (by omega)]
    rw [hs]
    exact fR1 () G G G G Sn

theorem thing2_c (p f : Nat) (bv : Value) (bs : List UInt8) (s : Rd) (caps : Array Value) (q1 q2 q1' q2' : OwnE) (n e : Nat) (hok : FnOk Tryz.prog f) (h0 : s.fault = 0) (hp : s.pos ≤ bs.length) (hn : n ≤ (bs.drop s.pos).length)
  (hcl : ∀ sv, Fnc Tryz.prog f (sv :: caps.toList) [q1, q2] [⟨sv, bs.drop s.pos⟩] (fun (_ : Unit) v => v = stepTup n e) (fun _ _ => [q1', q2']) (fun _ _ => [])) :
  Fnc Tryz.prog 313 [.pointer (some ⟨p, 0, none⟩), .func (.func f) #[] caps] [q1, q2, rdr p bv s] [⟨bv, bs⟩] (fun (_ : Unit) v => v = .bool (decide (e = 0))) (fun _ _ => [q1', q2', rdr p bv (s.step n e)]) (fun _ _ => []) := by
 refine Fnc.proof Tryz.func313 G 54 G G fun X w => ?_
 rw [← List.take_length (l := bs)] at hcl
 have hcl' : ∀ sv, Fnc Tryz.prog f (sv :: caps.toList) [q1, q2] [⟨sv, (bs.take bs.length).drop s.pos⟩] (fun (_ : Unit) v => v = stepTup n e) (fun _ _ => [q1', q2']) (fun _ _ => []) := fun sv => by have := hcl sv; simpa using this
 rw [List.length_drop] at hn
 refine gtC (q := bs.length ≤ 9223372036854775807) (fun S w h => list_len (h _ (List.mem_cons_self ..))) fun hlen => sq<|rg<|asg G G<|nl<|nx<|sq<|sq<|rg<|mv G G<|eqP Tryz.underlying311 G G G<|mv G G<|gY G G G<|mv G G ?_
 refine gY G G G<|nc G G<|gY G G G<|fa G fld_346_2 G<|gY G G G<|ldB 2 G G one_38 G G<|gY G G G<|neI G G G<|pkF G G G<|nl<|nx<|cdN G (fun h15 => ?_) (fun h15 => ?_)
 ·
  exact absurd (by omega) h15 --#done
 ·
  refine sk<|nx<|sq ?_
  refine rgV ⟨fun i => ([[], [], [1], [2], [3], [], [5], [6], [7], [], [9], [10], [11], [12], [], [14], [15], [16], [17], [4, 8, 13, 18], [0, 19], [20], [21], [21], [22], [23]] : List (List Nat)).getD i [], fun _ _ => True, fun i => ([fun _ => [], fun _ => [], fun _ => [], fun _ => [], fun _ => [], fun _ => [], fun _ => [], fun _ => [], fun _ => [], fun _ => [], fun _ => [], fun _ => [], fun _ => [], fun _ => [], fun _ => [], fun _ => [], fun _ => [], fun _ => [], fun _ => [], fun u => [⟨u, (bs.take bs.length).drop s.pos⟩], fun _ => [], fun _ => [], fun _ => [], fun _ => [], fun _ => [], fun _ => []] : List (Value → List Atom)).getD i (fun _ => []), fun vs => match vs with
    | [] => [q1, q2, rdr p bv s, fz X w]
    | [v0] => [q1', q2', rdr p bv s, fz X w]
    | _ => [], [20]⟩ (fun i => ([some (.func (.func f) #[] caps), some (.pointer (some ⟨p, 0, none⟩)), some (.pointer (some ⟨p, 0, none⟩)), some (.pointer (some ⟨p, 0, none⟩)), some (bv), some (.pointer (some ⟨p, 0, none⟩)), some (.pointer (some ⟨p, 0, none⟩)), some (.pointer (some ⟨p, 1, none⟩)), some (.int .i64 (s.pos : Int)), some (.pointer (some ⟨p, 0, none⟩)), some (.pointer (some ⟨p, 0, none⟩)), some (.pointer (some ⟨p, 0, none⟩)), some (bv), some (.int .i64 (bs.length : Int)), some (.pointer (some ⟨p, 0, none⟩)), some (.pointer (some ⟨p, 0, none⟩)), some (.pointer (some ⟨p, 0, none⟩)), some (bv), some (.int .i64 (bs.length : Int)), none, some (stepTup n e), some (stepTup n e), some (.int .i64 (n : Int)), some (.int .i64 (e : Int)), some (.int .i64 (n : Int)), some (.int .i64 (e : Int))] : List (Option Value)).getD i none) mixed rfl rfl ?_ ?_
  ·
   refine ⟨fun V De _=>aP1 (mv G G<|oa G G G G),fun V De _=>aP2 (mv G G<|oa G G G G) (mv G G<|oa G G G G),fun V De _=>aP2 (nc G G<|oa G G G G) (nc G G<|oa G G G G),fun V De _=>aP2 (fa G fld_346_0 G<|oa G G G G) (fa G fld_346_0 G<|oa G G G G),fun V De _=>aP2 (ldB 2 G G one_35 G G<|oa G G G G) (ldB 2 G G one_35 G G<|oa G G G G),fun V De _=>aP2 (mv G G<|oa G G G G) (mv G G<|oa G G G G),fun V De _=>aP2 (nc G G<|oa G G G G) (nc G G<|oa G G G G),fun V De _=>aP2 (fa G fld_346_1 G<|oa G G G G) (fa G fld_346_1 G<|oa G G G G),?_⟩
   refine ⟨fun V De _=>aP2 (ldB 2 G G one_3 G G<|oa G G G G) (ldB 2 G G one_3 G G<|oa G G G G),fun V De _=>aP2 (mv G G<|oa G G G G) (mv G G<|oa G G G G),fun V De _=>aP2 (nc G G<|oa G G G G) (nc G G<|oa G G G G),fun V De _=>aP2 (fa G fld_346_0 G<|oa G G G G) (fa G fld_346_0 G<|oa G G G G),fun V De _=>aP2 (ldB 2 G G one_35 G G<|oa G G G G) (ldB 2 G G one_35 G G<|oa G G G G),fun V De _=>aP2 (lnP 0 G G Tryz.underlying35 G fun l30 => oa G G G G) (lnP 0 G G Tryz.underlying35 G fun l30 => oa G G G G),fun V De _=>aP2 (mv G G<|oa G G G G) (mv G G<|oa G G G G),fun V De _=>aP2 (nc G G<|oa G G G G) (nc G G<|oa G G G G),?_⟩
   refine ⟨fun V De _=>aP2 (fa G fld_346_0 G<|oa G G G G) (fa G fld_346_0 G<|oa G G G G),fun V De _=>aP2 (ldB 2 G G one_35 G G<|oa G G G G) (ldB 2 G G one_35 G G<|oa G G G G),fun V De _=>aP2 (lnP 0 G G Tryz.underlying35 G fun l35 => oa G G G G) (lnP 0 G G Tryz.underlying35 G fun l35 => oa G G G G),fun V De _=>aP1 (slP3 0 G G slt_35 G G G (by omega) (by omega) (by omega) (by omega) G fun v36 => nl (od G G G trivial (Sc 0 G Sn) (SubD.tail Sr))),?_⟩
   refine ⟨fun V De _ => (show AllP _ [0] from ⟨?_, trivial⟩), ?_⟩
   ·
    refine cfPc (L0 := [q1, q2]) (Lr := [rdr p bv s, fz X w]) (hcl' _) hok G (by rfl) (by rfl) (by rfl) (Sc 0 G Sn) (by rfl) fun y v h => ?_
    obtain rfl : v = stepTup n e := h
    exact nl (od G G G G Sn (SubD.tail Sr))
   exact ⟨fun V De _=>aP1 (mv G G<|oa G G G G),fun V De _=>aP2 (xt G G G<|oa G G G G) (xt G G G<|oa G G G G),fun V De _=>aP2 (xt G G G<|oa G G G G) (xt G G G<|oa G G G G),fun V De _=>aP1 (asg G G<|oa G G G G),fun V De _=>aP1 (asg G G<|oa G G G G),trivial⟩
  ·
   intro V _
   refine wkQ (L := [q1', q2', rdr p bv s, fz X w]) [(0, .pointer (some ⟨p, 0, none⟩)), (5, .int .i64 (n : Int)), (6, .int .i64 (e : Int))] [⟨bv, bs⟩] ⟨G, G, G, trivial⟩ (Sc 1 G Sn)<|nx<|sq<|sq<|rg<|mv G G<|neI G G G<|nl<|nx<|cdN G (fun h41 => ?_) (fun h41 => ?_)
   ·
    refine sq<|rg<|mv G G<|mv G G<|nc G G<|fa G fld_346_2 G<|stB 2 G G G one_38 G (Nat.lt_of_lt_of_le (Nat.lt_succ_self _) (Nat.le_of_ble_eq_true G))<|nl<|nx<|sq<|rg<|asg G G<|nl<|nx ?_
    refine rt<|tR ?_
    have hs : s.step n e = ⟨s.pos, e⟩ := by unfold Rd.step; rw [if_neg (by omega), if_pos (by omega)]
    rw [hs]
    exact fR1 () G G (by rw [decide_eq_false (by omega)]) G Sn
   ·
    refine sk<|nx<|sq<|rg<|mv G G<|nc G G<|fa G fld_346_1 G<|ldB 2 G G one_3 G G<|mv G G<|adI G G (inI (by omega) (by omega)) G<|nc G G<|fa G fld_346_1 G<|stB 2 G G G one_3 G (Nat.lt_of_lt_of_le (Nat.lt_succ_self _) (Nat.le_of_ble_eq_true G))<|nl ?_
    refine nx<|sq<|rg<|asg G G<|nl<|nx<|rt ?_
    obtain rfl : e = 0 := by omega
    have hs : s.step n 0 = ⟨s.pos + n, s.fault⟩ := by unfold Rd.step; rw [if_neg (by omega), if_neg (by omega)]
    rw [hs]
    exact fR1 () G G G G Sn

theorem thing1_b (p f : Nat) (bv : Value) (bs : List UInt8) (s : Rd) (caps : Array Value) (q : OwnE) (n e : Nat) (h0 : s.fault ≠ 0) :
  Fnc Tryz.prog 313 [.pointer (some ⟨p, 0, none⟩), .func (.func f) #[] caps] [q, rdr p bv s] [⟨bv, bs⟩] (fun (_ : Unit) v => v = .bool false) (fun _ _ => [q, rdr p bv s]) (fun _ _ => []) := by
 refine Fnc.proof Tryz.func313 G 54 G G fun X w => sq<|rg<|asg G G<|nl<|nx<|sq<|sq<|rg<|mv G G<|eqP Tryz.underlying311 G G G<|mv G G<|gY G G G<|mv G G ?_
 refine gY G G G<|nc G G<|gY G G G<|fa G fld_346_2 G<|gY G G G<|ldB 1 G G one_38 G G<|gY G G G<|neI G G G<|pkF G G G<|nl<|nx<|cdN G (fun h15 => ?_) (fun h15 => ?_)
 ·
  exact sq<|rg<|asg G G<|nl<|nx<|rt<|tR<|fR1 () G G G G Sn
 ·
  exact absurd (by omega) h0 --#done

theorem thing1 (p f : Nat) (bv : Value) (bs : List UInt8) (s : Rd) (caps : Array Value) (q q' : OwnE) (n e : Nat) (hok : FnOk Tryz.prog f) (hp : s.pos ≤ bs.length) (hn : n ≤ (bs.drop s.pos).length)
  (hcl : s.fault = 0 → ∀ sv, Fnc Tryz.prog f (sv :: caps.toList) [q] [⟨sv, bs.drop s.pos⟩] (fun (_ : Unit) v => v = stepTup n e) (fun _ _ => [q']) (fun _ _ => []))
  (hbad : s.fault ≠ 0 → [q'] = [q]) :
  Fnc Tryz.prog 313 [.pointer (some ⟨p, 0, none⟩), .func (.func f) #[] caps] [q, rdr p bv s] [⟨bv, bs⟩] (fun (_ : Unit) v => v = .bool (decide (s.fault = 0 ∧ e = 0))) (fun _ _ => [q', rdr p bv (s.step n e)]) (fun _ _ => []) := by
 by_cases h0 : s.fault = 0
 ·
  have h := thing1_c p f bv bs s caps q q' n e hok h0 hp hn (hcl h0)
  simpa only [h0, true_and] using h
 ·
  have h := thing1_b p f bv bs s caps q n e h0
  have hs : s.step n e = s := by unfold Rd.step; rw [if_pos h0]
  have hb := hbad h0
  simp only [List.cons.injEq, and_true] at hb
  rw [hs, decide_eq_false (fun hh => h0 hh.1)]
  first | (obtain ⟨e1, e2⟩ := hb; rw [e1, e2]; exact h) | (rw [hb]; exact h)

theorem thing2_b (p f : Nat) (bv : Value) (bs : List UInt8) (s : Rd) (caps : Array Value) (q1 q2 : OwnE) (n e : Nat) (h0 : s.fault ≠ 0) :
  Fnc Tryz.prog 313 [.pointer (some ⟨p, 0, none⟩), .func (.func f) #[] caps] [q1, q2, rdr p bv s] [⟨bv, bs⟩] (fun (_ : Unit) v => v = .bool false) (fun _ _ => [q1, q2, rdr p bv s]) (fun _ _ => []) := by
 refine Fnc.proof Tryz.func313 G 54 G G fun X w => sq<|rg<|asg G G<|nl<|nx<|sq<|sq<|rg<|mv G G<|eqP Tryz.underlying311 G G G<|mv G G<|gY G G G<|mv G G ?_
 refine gY G G G<|nc G G<|gY G G G<|fa G fld_346_2 G<|gY G G G<|ldB 2 G G one_38 G G<|gY G G G<|neI G G G<|pkF G G G<|nl<|nx<|cdN G (fun h15 => ?_) (fun h15 => ?_)
 ·
  exact sq<|rg<|asg G G<|nl<|nx<|rt<|tR<|fR1 () G G G G Sn
 ·
  exact absurd (by omega) h0 --#done

theorem thing2 (p f : Nat) (bv : Value) (bs : List UInt8) (s : Rd) (caps : Array Value) (q1 q2 q1' q2' : OwnE) (n e : Nat) (hok : FnOk Tryz.prog f) (hp : s.pos ≤ bs.length) (hn : n ≤ (bs.drop s.pos).length)
  (hcl : s.fault = 0 → ∀ sv, Fnc Tryz.prog f (sv :: caps.toList) [q1, q2] [⟨sv, bs.drop s.pos⟩] (fun (_ : Unit) v => v = stepTup n e) (fun _ _ => [q1', q2']) (fun _ _ => []))
  (hbad : s.fault ≠ 0 → [q1', q2'] = [q1, q2]) :
  Fnc Tryz.prog 313 [.pointer (some ⟨p, 0, none⟩), .func (.func f) #[] caps] [q1, q2, rdr p bv s] [⟨bv, bs⟩] (fun (_ : Unit) v => v = .bool (decide (s.fault = 0 ∧ e = 0))) (fun _ _ => [q1', q2', rdr p bv (s.step n e)]) (fun _ _ => []) := by
 by_cases h0 : s.fault = 0
 ·
  have h := thing2_c p f bv bs s caps q1 q2 q1' q2' n e hok h0 hp hn (hcl h0)
  simpa only [h0, true_and] using h
 ·
  have h := thing2_b p f bv bs s caps q1 q2 n e h0
  have hs : s.step n e = s := by unfold Rd.step; rw [if_pos h0]
  have hb := hbad h0
  simp only [List.cons.injEq, and_true] at hb
  rw [hs, decide_eq_false (fun hh => h0 hh.1)]
  first | (obtain ⟨e1, e2⟩ := hb; rw [e1, e2]; exact h) | (rw [hb]; exact h)
end Go.Proofs.YtmpoffijcfaalaaGreat.Rdr

/- Walks: written by specs1r.py. -/

namespace Go.Proofs.YtmpoffijcfaalaaGreat.Rdr
open Go.Eng Go.YtmpoffijcfaalaaGreat

theorem num_r (p : Nat) (bv : Value) (bs : List UInt8) (s : Rd) (hp : s.pos ≤ bs.length) : Fnc Tryz.prog 312 [.pointer (some ⟨p, 0, none⟩)] [rdr p bv s] [⟨bv, bs⟩] (fun (_ : Unit) v => v = .int .u64 ((rdNum bs s).1 : Int)) (fun _ _ => [rdr p bv (rdNum bs s).2]) (fun _ _ => []) := by
 refine Fnc.proof Tryz.func312 G 9 G G fun X w => ?_
 have hN0 := fun b sv => num1_c b sv (bs.drop s.pos)
 have hb := numD_bd (bs.drop s.pos) 0 0 (by decide) (by decide)
 rcases hN : numD 0 0 (bs.drop s.pos) with ⟨x, n, e⟩
 rw [hN] at hb
 simp only [hN] at hN0
 simp only at hb
 have hr : rdNum bs s = (s.val 0 x e, s.step n e) := by simp only [rdNum, rdByte, rdCount, rdText, rdOf, hN]
 rw [hr]
 refine sq<|rg<|asg G G<|nl<|nx<|sq<|rg<|al zero_209 G fun b3 => stB 0 G G G one_209 G (Nat.lt_of_lt_of_le (Nat.lt_succ_self _) (Nat.le_of_ble_eq_true G))<|nl<|nx<|sq<|sq<|rg ?_
 refine mv G G<|mf (xs := [.tmp 3]) G G<|cfP (L0 := [bl b3 209 [.int .u64 0], rdr p bv s]) (Lr := [fz X w]) (thing1 p 318 bv bs s #[.pointer (some ⟨b3, 0, none⟩)] _ (bl b3 209 [.int .u64 ((s.val 0 x e : Nat) : Int)]) n e ok_318 hp (by omega) (fun h sv => ?_) (fun h => ?_)) ok_313 G (by rfl) (Sc 0 G Sn) (by rfl) fun y v h => ?_
 ·
  have q := hN0 b3 sv
  have e1 : s.val 0 x e = x := by unfold Rd.val; rw [if_neg (by omega)]; split <;> omega
  rw [e1]
  exact q
 ·
  have e1 : s.val 0 x e = 0 := by unfold Rd.val; rw [if_pos h]
  rw [e1]; rfl
 obtain rfl : v = .bool (decide (s.fault = 0 ∧ e = 0)) := h
 refine nt G G<|nl<|nx<|cdN G (fun h7 => ?_) (fun h7 => ?_)
 ·
  refine sq<|rg<|asg G G<|nl<|nx<|rt<|tR ?_
  have e1 : s.val 0 x e = 0 := by unfold Rd.val; split; rfl; split; rfl; omega
  refine dpQ ?_
  exact fR1 () G G (by rw [e1]; rfl) G Sn
 ·
  exact sk<|nx<|sq<|rg<|ldB 0 G G one_209 G G<|asg G G<|nl<|nx<|rt<|dpQ<|fR1 () G G G G Sn

theorem count_r (p : Nat) (bv : Value) (bs : List UInt8) (s : Rd) (most : Int) (hm : InI most) (hp : s.pos ≤ bs.length) : Fnc Tryz.prog 301 [.pointer (some ⟨p, 0, none⟩), .int .i64 most] [rdr p bv s] [⟨bv, bs⟩] (fun (_ : Unit) v => v = .int .i64 ((rdCount bs most s).1 : Int)) (fun _ _ => [rdr p bv (rdCount bs most s).2]) (fun _ _ => []) := by
 refine Fnc.proof Tryz.func301 G 11 G G fun X w => ?_
 have hN0 := fun a b sv => count1_c a b sv (bs.drop s.pos) most hm
 have hb := countD_bd (bs.drop s.pos) most
 rcases hN : countD (bs.drop s.pos) most with ⟨x, n, e⟩
 rw [hN] at hb
 simp only [hN] at hN0
 simp only at hb
 have hr : rdCount bs most s = (s.val 0 x e, s.step n e) := by simp only [rdNum, rdByte, rdCount, rdText, rdOf, hN]
 rw [hr]
 refine sq<|rg<|bx G G G fun b3 => asg G G<|nl<|nx<|sq<|rg<|al zero_3 G fun b5 => stB 0 G G G one_3 G (Nat.lt_of_lt_of_le (Nat.lt_succ_self _) (Nat.le_of_ble_eq_true G))<|nl<|nx<|sq<|sq ?_
 refine rg<|mv G G<|mf (xs := [.tmp 3, .tmp 5]) G G<|cfP (L0 := [bl b5 3 [.int .i64 0], bl b3 3 [.int .i64 most], rdr p bv s]) (Lr := [fz X w]) (thing2 p 315 bv bs s #[.pointer (some ⟨b3, 0, none⟩), .pointer (some ⟨b5, 0, none⟩)] _ _ (bl b5 3 [.int .i64 ((s.val 0 x e : Nat) : Int)]) (bl b3 3 [.int .i64 most]) n e ok_315 hp (by omega) (fun h sv => ?_) (fun h => ?_)) ok_313 G (by rfl) (Sc 0 G Sn) (by rfl) fun y v h => ?_
 ·
  have q := hN0 b3 b5 sv
  have e1 : s.val 0 x e = x := by unfold Rd.val; rw [if_neg (by omega)]; split; exact (by simp [hb.2.2, *]); rfl
  rw [e1]
  exact q
 ·
  have e1 : s.val 0 x e = 0 := by unfold Rd.val; rw [if_pos h]
  rw [e1]; try rfl
 obtain rfl : v = .bool (decide (s.fault = 0 ∧ e = 0)) := h
 refine nt G G<|nl<|nx<|cdN G (fun h9 => ?_) (fun h9 => ?_)
 ·
  refine sq<|rg<|asg G G<|nl<|nx<|rt<|tR ?_
  have e1 : s.val 0 x e = 0 := by unfold Rd.val; split; rfl; split; rfl; omega
  refine dpQ (dpQ ?_)
  exact fR1 () G G (by rw [e1]; rfl) G Sn
 ·
  refine sk<|nx<|sq<|rg<|ldB 0 G G one_3 G G<|asg G G<|nl<|nx<|rt<|dpQ (dpQ ?_)
  exact fR1 () G G G G Sn

theorem text_r (p : Nat) (bv : Value) (bs : List UInt8) (s : Rd) (most : Int) (hm : InI most) (hms : most ≤ 1000000) (hp : s.pos ≤ bs.length) : Fnc Tryz.prog 306 [.pointer (some ⟨p, 0, none⟩), .int .i64 most] [rdr p bv s] [⟨bv, bs⟩] (fun (_ : Unit) _ => True) (fun _ _ => [rdr p bv (rdText bs most s).2]) (fun _ v => [⟨v, (rdText bs most s).1⟩]) := by
 refine Fnc.proof Tryz.func306 G 10 G G fun X w => ?_
 have hN0 := fun a b sv => text1_c a b sv (bs.drop s.pos) most hm hms
 have hb := textD_bd (bs.drop s.pos) most
 rcases hN : textD (bs.drop s.pos) most with ⟨x, n, e⟩
 rw [hN] at hb
 simp only [hN] at hN0
 simp only at hb
 have hr : rdText bs most s = (s.val [] x e, s.step n e) := by simp only [rdNum, rdByte, rdCount, rdText, rdOf, hN]
 rw [hr]
 have hb : True ∧ n ≤ (bs.drop s.pos).length ∧ (e ≠ 0 → x = [] ∧ n = 0) := ⟨trivial, hb.1, hb.2.1⟩
 refine sq<|rg<|bx G G G fun b3 => asg G G<|nl<|nx<|sq<|rg<|al zero_35 G fun b5 => nl<|nx<|sq<|rg<|mv G G ?_
 refine emL (α := UInt8)<|clL (α := List UInt8) 0 0 G G<|mf (xs := [.tmp 3, .tmp 5]) G G<|cfP (L0 := [vr b5 35 ([] : List UInt8), bl b3 3 [.int .i64 most], rdr p bv s]) (Lr := [fz X w]) (thing2 p 317 bv bs s #[.pointer (some ⟨b3, 0, none⟩), .pointer (some ⟨b5, 0, none⟩)] _ _ (vr b5 35 (s.val [] x e : List UInt8)) (bl b3 3 [.int .i64 most]) n e ok_317 hp (by omega) (fun h sv => ?_) (fun h => ?_)) ok_313 G (by rfl) (Sc 1 G Sn) (by rfl) fun y v h => ?_
 ·
  have q := hN0 b3 b5 sv
  have e1 : s.val [] x e = x := by unfold Rd.val; rw [if_neg (by omega)]; split; exact (by simp [hb.2.2, *]); rfl
  rw [e1]
  exact q
 ·
  have e1 : s.val [] x e = [] := by unfold Rd.val; rw [if_pos h]
  rw [e1]; try rfl
 obtain rfl : v = .bool (decide (s.fault = 0 ∧ e = 0)) := h
 refine nl<|nx<|sq<|rg<|opL 0 G fun u9 => ldB 0 G G one_35 G G<|asg G G<|nl<|nx<|rt<|dpQ (dpQ ?_)
 exact fR1 () G G trivial G (Sc 0 G Sn)
end Go.Proofs.YtmpoffijcfaalaaGreat.Rdr

/- Walks: written by specs1r.py. -/

namespace Go.Proofs.YtmpoffijcfaalaaGreat.Rdr
open Go.Eng Go.YtmpoffijcfaalaaGreat

theorem int_r (p : Nat) (bv : Value) (bs : List UInt8) (s s' : Rd) (x : Int) (hp : s.pos ≤ bs.length) (hx : rdInt bs s = (x, s')) : Fnc Tryz.prog 298 [.pointer (some ⟨p, 0, none⟩)] [rdr p bv s] [⟨bv, bs⟩] (fun (_ : Unit) v => v = .int .i64 x) (fun _ _ => [rdr p bv s']) (fun _ _ => []) := by
 refine Fnc.proof Tryz.func298 G 16 G G fun X w => ?_
 obtain ⟨rfl, rfl⟩ : x = zag (rdNum bs s).1 ∧ s' = (rdNum bs s).2 := by simp only [rdInt, Prod.mk.injEq] at hx; exact ⟨hx.1.symm, hx.2.symm⟩
 have hl := rdNum_lt bs s
 refine sq<|rg<|asg G G<|nl<|nx<|sq<|rg<|mv G G<|cf1 0 (num_r _ _ _ _ hp) ok_312 G G (Sc 0 G Sn) G fun y5 v5 h5 => ?_
 have h5 : v5 = .int .u64 ((rdNum bs s).1 : Int) := h5
 subst h5
 refine asg G G<|nl<|nx<|sq<|sq<|rg<|mv G G<|btA G G (and_1 hl) G<|eqI G G G<|nl<|nx<|cdP G (fun h8 => ?_) (fun h8 => ?_)
 ·
  refine sq<|rg<|mv G G<|shR G G (by omega) (shr1 _) G<|cv Tryz.underlying209 Tryz.underlying3 G (i64_of_nat (by omega)) G<|cpW G (cpl (inI (by omega) (by omega))) G<|asg G G<|nl<|nx<|rt<|tR ?_
  exact fR1 () G G (by unfold zag; rw [if_pos (by omega)]) G Sn
 ·
  refine sk<|nx<|sq<|rg<|mv G G<|shR G G (by omega) (shr1 _) G<|cv Tryz.underlying209 Tryz.underlying3 G (i64_of_nat (by omega)) G<|asg G G<|nl<|nx<|rt ?_
  exact fR1 () G G (by unfold zag; rw [if_neg (by omega)]) G Sn

theorem fault_r (p : Nat) (bv : Value) (bs : List UInt8) (s : Rd) : Fnc Tryz.prog 311 [.pointer (some ⟨p, 0, none⟩)] [rdr p bv s] [] (fun (_ : Unit) v => v = .tuple #[.int .i64 (s.fault : Int), .int .i64 ((if s.fault = 0 then 0 else s.pos : Nat) : Int)]) (fun _ _ => [rdr p bv s]) (fun _ _ => []) := by
 refine Fnc.proof Tryz.func311 G 19 G G fun X w => sq<|rg<|asg G G<|asg G G<|nl<|nx<|sq<|sq<|rg<|mv G G<|eqP Tryz.underlying311 G G G<|nl<|nx ?_
 refine cdF G<|sk<|nx<|sq<|sq<|rg<|mv G G<|nc G G<|fa G fld_346_2 G<|ldB 0 G G one_38 G G<|eqI G G G<|nl<|nx<|cdP G (fun h10 => ?_) (fun h10 => ?_)
 ·
  refine sq<|rg<|asg G G<|asg G G<|nl<|nx<|rt<|tR ?_
  have e : s.fault = 0 := by omega
  rw [if_pos e]
  exact fR2 () G G G (by rw [e]; rfl) G Sn
 ·
  refine sk<|nx<|sq<|rgQ mixed (by kernel_rfl)<|mv G G<|nc G G<|fa G fld_346_2 G<|ldB 0 G G one_38 G G<|mv G G<|nc G G<|fa G fld_346_1 G<|ldB 0 G G one_3 G G<|asg G G<|asg G G ?_
  refine nlQ<|nx<|rt ?_
  rw [if_neg (by omega)]
  exact fR2 () G G G G G Sn

theorem new_r (sv : Value) (bs : List UInt8) (hlen : bs.length ≤ 140737488355328) : Fnc Tryz.prog 259 [sv] [] [⟨sv, bs⟩] (fun (y : Nat × Value) v => v = .pointer (some ⟨y.1, 0, none⟩)) (fun y _ => [rdr y.1 y.2 ⟨0, 0⟩]) (fun y _ => [⟨y.2, bs⟩]) := by
 refine Fnc.proof Tryz.func259 G 7 G G fun X w => sq<|rg<|asg G G<|nl<|nx<|sq<|rg<|mv G G<|cf (clone_c _ _ (by first | assumption | (simp only [List.length_drop, List.length_take]; omega))) ok_107 G (Sc 0 G Sn) G fun y4 v4 h4 => asSl 0 G ?_
 rintro ⟨A, cc, rfl⟩
 exact bd (ps := [(0, .tmp 4)]) (cs := [.slice A bs.length cc, .int .i64 0, .int .i64 0]) (by rfl) (by kernel_rfl) G<|bx G G G fun b6 => asg G G<|nl<|nx<|rt<|fR1 (b6, .slice A bs.length cc) G G G G (Sc 0 G Sn)
end Go.Proofs.YtmpoffijcfaalaaGreat.Rdr

/- Walks: written by specs1r.py. -/

namespace Go.Proofs.YtmpoffijcfaalaaGreat.Rdr
open Go.Eng Go.YtmpoffijcfaalaaGreat

theorem flag1_c (b : Nat) (sv : Value) (bs : List UInt8) : Fnc Tryz.prog 314 [sv, .pointer (some ⟨b, 0, none⟩)] [bl b 4 [.bool false]] [⟨sv, bs⟩] (fun (_ : Unit) v => v = stepTup (flagD bs).2.1 (flagD bs).2.2) (fun _ _ => [bl b 4 [.bool (flagD bs).1]]) (fun _ _ => []) := by
 refine Fnc.proof Tryz.func314 G 16 G G fun X w => sq<|rg<|asg G G<|asg G G<|nl<|nx<|sq<|sq<|rg<|mv G G<|lnP 0 G G Tryz.underlying35 G fun l6 => eqI G G G<|nl ?_
 refine nx<|cdP G (fun h7 => ?_) (fun h7 => ?_)
 ·
  have hx : bs = [] := List.eq_nil_of_length_eq_zero (by omega)
  subst hx
  exact sq<|rg<|asg G G<|asg G G<|nl<|nx<|rt<|tR<|fR2 () G G G G G Sn
 ·
  obtain ⟨c, r, rfl⟩ : ∃ c r, bs = c :: r := by
   cases bs with
   | nil => exact absurd rfl h7
   | cons c r => exact ⟨c, r, rfl⟩
  refine sk<|nx<|sq<|sq<|rg<|mv G G<|ixP 0 G G G slt_35 (by omega) (show (c :: r)[0]? = some c from G) G fun v9 => ldV 0 G G one_5 G fun w10 => ?_
  refine gtI G G G<|nl<|nx<|cdP G (fun h11 => ?_) (fun h11 => ?_)
  ·
   have hF : flagD (c :: r) = (false, 0, 21) := by simp only [flagD]; rw [if_pos (by omega)]
   rw [hF]
   exact sq<|rg<|asg G G<|asg G G<|nl<|nx<|rt<|tR<|fR2 () G G G G G Sn
  ·
   have hF : flagD (c :: r) = (decide ((c.toNat : Int) = 1), 1, 0) := by
    simp only [flagD]
    rw [if_neg (by omega)]
    congr 1
    rw [Bool.eq_iff_iff]
    simp only [decide_eq_true_eq]
    rw [← UInt8.toNat_inj]
    show c.toNat = 1 ↔ _
    omega
   rw [hF]
   refine sk<|nx<|sq<|rg<|mv G G<|ixP 1 G G G slt_35 (by omega) (show (c :: r)[0]? = some c from G) G fun v13 => ldV 0 G G one_5 G fun w14 => ?_
   exact eqI G G G<|stB 0 G G G one_4 G (Nat.lt_of_lt_of_le (Nat.lt_succ_self _) (Nat.le_of_ble_eq_true G))<|nl<|nx<|sq<|rg<|asg G G<|asg G G<|nl<|nx<|rt<|fR2 () G G G G G Sn

theorem flag_r (p : Nat) (bv : Value) (bs : List UInt8) (s : Rd) (hp : s.pos ≤ bs.length) : Fnc Tryz.prog 299 [.pointer (some ⟨p, 0, none⟩)] [rdr p bv s] [⟨bv, bs⟩] (fun (_ : Unit) v => v = .bool (rdFlag bs s).1) (fun _ _ => [rdr p bv (rdFlag bs s).2]) (fun _ _ => []) := by
 refine Fnc.proof Tryz.func299 G 8 G G fun X w => ?_
 have hN0 := fun b sv => flag1_c b sv (bs.drop s.pos)
 have hb := flagD_bd (bs.drop s.pos)
 rcases hN : flagD (bs.drop s.pos) with ⟨x, n, e⟩
 rw [hN] at hb
 simp only [hN] at hN0
 simp only at hb
 have hr : rdFlag bs s = (s.val false x e, s.step n e) := by simp only [rdFlag, rdOf, hN]
 rw [hr]
 have hb : True ∧ n ≤ (bs.drop s.pos).length ∧ (e ≠ 0 → x = false ∧ n = 0) := ⟨trivial, hb⟩
 refine sq<|rg<|asg G G<|nl<|nx<|sq<|rg<|al zero_4 G fun b3 => stB 0 G G G one_4 G (Nat.lt_of_lt_of_le (Nat.lt_succ_self _) (Nat.le_of_ble_eq_true G))<|nl<|nx<|sq<|rg<|mv G G ?_
 refine mf (xs := [.tmp 3]) G G<|cfP (L0 := [bl b3 4 [.bool false], rdr p bv s]) (Lr := [fz X w]) (thing1 p 314 bv bs s #[.pointer (some ⟨b3, 0, none⟩)] _ (bl b3 4 [.bool (s.val false x e : Bool)]) n e ok_314 hp (by omega) (fun h sv => ?_) (fun h => ?_)) ok_313 G (by rfl) (Sc 0 G Sn) (by rfl) fun y v h => ?_
 ·
  have q := hN0 b3 sv
  have e1 : s.val false x e = x := by unfold Rd.val; rw [if_neg (by omega)]; split; exact (by simp [hb.2.2, *]); rfl
  rw [e1]
  exact q
 ·
  have e1 : s.val false x e = false := by unfold Rd.val; rw [if_pos h]
  rw [e1]; try rfl
 obtain rfl : v = .bool (decide (s.fault = 0 ∧ e = 0)) := h
 exact nl<|nx<|sq<|rg<|ldB 0 G G one_4 G G<|asg G G<|nl<|nx<|rt<|dpQ<|fR1 () G G G G Sn

theorem end_r (p : Nat) (bv : Value) (bs : List UInt8) (s : Rd) : Fnc Tryz.prog 260 [.pointer (some ⟨p, 0, none⟩)] [rdr p bv s] [⟨bv, bs⟩] (fun (_ : Unit) v => v = .int .i64 (endE bs s)) (fun _ _ => [rdr p bv s]) (fun _ _ => []) := by
 refine Fnc.proof Tryz.func260 G 26 G G fun X w => sq<|rg<|asg G G<|nl<|nx<|sq<|sq<|rg<|mv G G<|eqP Tryz.underlying311 G G G<|nl<|nx<|cdF G ?_
 refine sk<|nx<|sq<|sq<|rgQ mixed (by kernel_rfl)<|mv G G<|nc G G<|fa G fld_346_2 G<|ldB 0 G G one_38 G G<|eqI G G G<|mv G G<|spP (i := 10) G (fun h10 => ?_) (fun h10 => ?_)
 ·
  refine gY G G G<|mv G G<|gY G G G<|nc G G<|gY G G G<|fa G fld_346_1 G<|gY G G G<|ldB 0 G G one_3 G G<|gY G G G<|mv G G<|gY G G G<|nc G G<|gY G G G<|fa G fld_346_0 G ?_
  refine gY G G G<|ldB 0 G G one_35 G G<|gY G G G<|lnP 0 G G Tryz.underlying35 G fun l19 => gY G G G<|ltI G G G<|pkT G G G<|nlQ<|nx<|cdP G (fun h21 => ?_) (fun h21 => ?_)
  ·
   refine sq<|rg<|asg G G<|nl<|nx<|rt<|tR ?_
   exact fR1 () G G (by unfold endE; first | rw [if_pos (by omega)] | rw [if_neg (by omega)]) G Sn
  ·
   refine sk<|nx<|sq<|rg<|mv G G<|nc G G<|fa G fld_346_2 G<|ldB 0 G G one_38 G G<|asg G G<|nl<|nx<|rt ?_
   exact fR1 () G G (by unfold endE; first | rw [if_pos (by omega)] | rw [if_neg (by omega)]) G Sn
 ·
  refine gN G G G G G<|gN G G G G G<|gN G G G G G<|gN G G G G G<|gN G G G G G<|gN G G G G G<|gN G G G G G<|gN G G G G G<|gN G G G G G<|gN G G G G G<|pkF G G G<|nlQ<|nx<|cdF G ?_
  refine sk<|nx<|sq<|rg<|mv G G<|nc G G<|fa G fld_346_2 G<|ldB 0 G G one_38 G G<|asg G G<|nl<|nx<|rt ?_
  exact fR1 () G G (by unfold endE; first | rw [if_pos (by omega)] | rw [if_neg (by omega)]) G Sn
end Go.Proofs.YtmpoffijcfaalaaGreat.Rdr
