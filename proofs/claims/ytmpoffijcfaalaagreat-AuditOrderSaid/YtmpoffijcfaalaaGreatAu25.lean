/- Part 25 of the proof of auditOrder_holds: DutN4, DutN5, DutGF, DutHF, DutG, DutG1, DutGP2, DutG2, DutH, DutH1, DutH2, DutH3, DutH4, DutH5, DutH6, DutH7, DutWR. Every text below begins with what it shows. -/
import Derived.Test.YtmpoffijcfaalaaGreatAu24

/- Walks of the pens that read: written by specs3.py. -/

namespace Go.Proofs.YtmpoffijcfaalaaGreat.Pen
open Go.Eng Go.YtmpoffijcfaalaaGreat

theorem state_e (pv bv : Value) (p : Nat) (bs : List UInt8) (s : Rd) (b : Nat) (hp : s.pos ≤ bs.length) : Fnc Tryz.prog 216 [pv, .pointer (some ⟨b, 0, none⟩)] [bl b 55 zv6, rdr p bv s] [⟨pv, (⟨⟨p⟩⟩ : Pt Tpen)⟩, ⟨bv, bs⟩] (fun (_ : Value × Value × Value × Value × Value × Value) _ => True) (fun y _ => [bl b 55 (cState (gdState bs s).1 y.1 y.2.1 y.2.2.1 y.2.2.2.1 y.2.2.2.2.1 y.2.2.2.2.2), rdr p bv (gdState bs s).2]) (fun y _ => [⟨y.1, (gdState bs s).1.fAccounts⟩, ⟨y.2.1, (gdState bs s).1.fMarks⟩, ⟨y.2.2.1, (gdState bs s).1.fWaits⟩, ⟨y.2.2.2.1, (gdState bs s).1.fDeals⟩, ⟨y.2.2.2.2.1, (gdState bs s).1.fEnds⟩, ⟨y.2.2.2.2.2, (gdState bs s).1.fImage⟩]) := by
 refine Fnc.proof Tryz.func216 G 95 G G fun X w => sq ?_
 refine rgV ⟨fun i => ([[], [], [1], [2], [], [4], [5], [3, 6], [0, 7]] : List (List Nat)).getD i [], fun _ _ => True, fun i => ([fun _ => [], fun _ => [], fun _ => [], fun _ => [], fun _ => [], fun _ => [], fun _ => [], fun u => [⟨u, (ptrs b [0, 1])⟩], fun _ => []] : List (Value → List Atom)).getD i (fun _ => []), fun vs => match vs with
   | [] => [bl b 55 (zv6, s).1, rdr p bv (zv6, s).2, fz X w]
   | [v0] => [bl b 55 (intsP bs [0, 1] (zv6, s)).1, rdr p bv (intsP bs [0, 1] (zv6, s)).2, fz X w]
   | _ => [], [8]⟩ (fun i => ([some (pv), some (.pointer (some ⟨b, 0, none⟩)), some (.pointer (some ⟨b, 0, none⟩)), some (.pointer (some ⟨b, 0, none⟩)), some (.pointer (some ⟨b, 0, none⟩)), some (.pointer (some ⟨b, 0, none⟩)), some (.pointer (some ⟨b, 1, none⟩)), none, none] : List (Option Value)).getD i none) mixed rfl rfl ?_ ?_
 ·
  refine ⟨fun V De _=>aP1 (mv G G<|oa G G G G),fun V De _=>aP2 (mv G G<|oa G G G G) (mv G G<|oa G G G G),fun V De _=>aP2 (nc G G<|oa G G G G) (nc G G<|oa G G G G),fun V De _=>aP2 (fa G fld_55_0 G<|oa G G G G) (fa G fld_55_0 G<|oa G G G G),fun V De _=>aP2 (mv G G<|oa G G G G) (mv G G<|oa G G G G),fun V De _=>aP2 (nc G G<|oa G G G G) (nc G G<|oa G G G G),fun V De _=>aP2 (fa G fld_55_1 G<|oa G G G G) (fa G fld_55_1 G<|oa G G G G),fun V De _=>aP1 (bs1 (xs := [.tmp 7, .tmp 10]) (us := [.pointer (some ⟨b, 0, none⟩), .pointer (some ⟨b, 1, none⟩)]) (E := 243) (bytes := 8) (n := 2) G (by exact app_297) G G G G G G fun b11 => frS (ptrs b [0, 1]) ([0, 1].map fun o => [.pointer (some ⟨b, o, none⟩)]) G (fun S w h => ptrs_rd S w _) (Nat.le_of_ble_eq_true G)<|nl (od G G G trivial (Sc 0 G Sn) (SubD.tail Sr))),?_⟩
  exact ⟨fun V De _=>aP1 (cfP (L0 := [bl b 55 (zv6, s).1, rdr p bv (zv6, s).2]) (Lr := [fz X w]) (int_q pv bv _ p bs b 55 (zv6, s) [0, 1] hp (by intro x hx; simp only [List.mem_cons, List.not_mem_nil, or_false] at hx; rcases hx with rfl | rfl <;> rfl) (by decide)) ok_261 G G (Sc 1 G (Sc 2 G (Sc 0 G Sn))) G fun _ _ _ => nl (od G G G trivial Sn (SubD.tail Sr))),trivial⟩
 ·
  intro V _
  refine wkQ (L := [bl b 55 (intsP bs [0, 1] (zv6, s)).1, rdr p bv (intsP bs [0, 1] (zv6, s)).2, fz X w]) [(0, _), (1, _)] [_, _] ⟨G, G, trivial⟩ (Sc 1 G (Sc 2 G Sn))<|nx<|sq<|rg<|mv G G<|mv G G<|nc G G<|fa G fld_55_2 G<|cfP (L0 := [bl b 55 (intsP bs [0, 1] (zv6, s)).1, rdr p bv (intsP bs [0, 1] (zv6, s)).2]) (Lr := [fz X w]) (flag_q pv bv p bs b 55 (intsP bs [0, 1] (zv6, s)) 2 (intsP_pos hp) G) ok_262 G G (Sc 0 G (Sc 1 G Sn)) G fun _ _ _ => nl<|nx<|sq ?_
  refine rgV ⟨fun i => ([[], [], [1], [2], [], [4], [5], [3, 6], [0, 7]] : List (List Nat)).getD i [], fun _ _ => True, fun i => ([fun _ => [], fun _ => [], fun _ => [], fun _ => [], fun _ => [], fun _ => [], fun _ => [], fun u => [⟨u, (ptrs b [3, 4])⟩], fun _ => []] : List (Value → List Atom)).getD i (fun _ => []), fun vs => match vs with
    | [] => [bl b 55 (flagP bs 2 (intsP bs [0, 1] (zv6, s))).1, rdr p bv (flagP bs 2 (intsP bs [0, 1] (zv6, s))).2, fz X w]
    | [v0] => [bl b 55 (textsP bs [3, 4] (flagP bs 2 (intsP bs [0, 1] (zv6, s)))).1, rdr p bv (textsP bs [3, 4] (flagP bs 2 (intsP bs [0, 1] (zv6, s)))).2, fz X w]
    | _ => [], [8]⟩ (fun i => ([some (pv), some (.pointer (some ⟨b, 0, none⟩)), some (.pointer (some ⟨b, 0, none⟩)), some (.pointer (some ⟨b, 3, none⟩)), some (.pointer (some ⟨b, 0, none⟩)), some (.pointer (some ⟨b, 0, none⟩)), some (.pointer (some ⟨b, 4, none⟩)), none, none] : List (Option Value)).getD i none) mixed rfl rfl ?_ ?_
  ·
   refine ⟨fun V De _=>aP1 (mv G G<|oa G G G G),fun V De _=>aP2 (mv G G<|oa G G G G) (mv G G<|oa G G G G),fun V De _=>aP2 (nc G G<|oa G G G G) (nc G G<|oa G G G G),fun V De _=>aP2 (fa G fld_55_3 G<|oa G G G G) (fa G fld_55_3 G<|oa G G G G),fun V De _=>aP2 (mv G G<|oa G G G G) (mv G G<|oa G G G G),fun V De _=>aP2 (nc G G<|oa G G G G) (nc G G<|oa G G G G),fun V De _=>aP2 (fa G fld_55_4 G<|oa G G G G) (fa G fld_55_4 G<|oa G G G G),fun V De _=>aP1 (bs1 (xs := [.tmp 21, .tmp 24]) (us := [.pointer (some ⟨b, 3, none⟩), .pointer (some ⟨b, 4, none⟩)]) (E := 247) (bytes := 8) (n := 2) G (by exact app_348) G G G G G G fun b25 => frS (ptrs b [3, 4]) ([3, 4].map fun o => [.pointer (some ⟨b, o, none⟩)]) G (fun S w h => ptrs_rd S w _) (Nat.le_of_ble_eq_true G)<|nl (od G G G trivial (Sc 0 G Sn) (SubD.tail Sr))),?_⟩
   exact ⟨fun V De _=>aP1 (cfP (L0 := [bl b 55 (flagP bs 2 (intsP bs [0, 1] (zv6, s))).1, rdr p bv (flagP bs 2 (intsP bs [0, 1] (zv6, s))).2]) (Lr := [fz X w]) (text_q pv bv _ p bs b 55 (flagP bs 2 (intsP bs [0, 1] (zv6, s))) [3, 4] (flagP_pos (intsP_pos hp)) (by intro x hx; simp only [List.mem_cons, List.not_mem_nil, or_false] at hx; rcases hx with rfl | rfl <;> rfl) (by decide)) ok_263 G G (Sc 1 G (Sc 2 G (Sc 0 G Sn))) G fun _ _ _ => nl (od G G G trivial Sn (SubD.tail Sr))),trivial⟩
  ·
   intro V _
   refine wkQ (L := [bl b 55 (textsP bs [3, 4] (flagP bs 2 (intsP bs [0, 1] (zv6, s)))).1, rdr p bv (textsP bs [3, 4] (flagP bs 2 (intsP bs [0, 1] (zv6, s)))).2, fz X w]) [(0, _), (1, _)] [_, _] ⟨G, G, trivial⟩ (Sc 1 G (Sc 2 G Sn))<|nx<|sq<|rg<|mv G G<|mv G G<|nc G G<|fa G fld_55_5 G<|bs1 (xs := [.tmp 30]) (us := [.pointer (some ⟨b, 5, none⟩)]) (E := 243) (bytes := 8) (n := 1) G (by exact app_297) G G G G G G fun b31 => frS (ptrs b [5]) ([5].map fun o => [.pointer (some ⟨b, o, none⟩)]) G (fun S w h => ptrs_rd S w _) (Nat.le_of_ble_eq_true G)<|cfP (L0 := [bl b 55 (textsP bs [3, 4] (flagP bs 2 (intsP bs [0, 1] (zv6, s)))).1, rdr p bv (textsP bs [3, 4] (flagP bs 2 (intsP bs [0, 1] (zv6, s)))).2]) (Lr := [fz X w]) (int_q pv bv _ p bs b 55 (textsP bs [3, 4] (flagP bs 2 (intsP bs [0, 1] (zv6, s)))) [5] (textsP_pos (flagP_pos (intsP_pos hp))) (by intro x hx; simp only [List.mem_cons, List.not_mem_nil, or_false] at hx; rcases hx with rfl <;> rfl) (by decide)) ok_261 G G (Sc 1 G (Sc 2 G (Sc 0 G Sn))) G fun _ _ _ => nl<|nx<|sq ?_
   refine rg<|mv G G<|mv G G<|nc G G<|fa G fld_55_6 G<|mv G G<|mf1 (ys := [.tmp 37]) (xs := []) G G G<|cfP (L0 := [bl b 55 (intsP bs [5] (textsP bs [3, 4] (flagP bs 2 (intsP bs [0, 1] (zv6, s))))).1, rdr p bv (intsP bs [5] (textsP bs [3, 4] (flagP bs 2 (intsP bs [0, 1] (zv6, s))))).2]) (Lr := [fz X w]) (listAccount_q pv bv p bs b 55 (intsP bs [5] (textsP bs [3, 4] (flagP bs 2 (intsP bs [0, 1] (zv6, s))))) 6 (intsP_pos (textsP_pos (flagP_pos (intsP_pos hp)))) G) ok_264 G G (Sc 1 G (Sc 2 G Sn)) G fun y39 _ _ => nl<|nx<|sq<|rg<|mv G G<|mv G G ?_
   refine nc G G<|fa G fld_55_7 G<|mv G G<|mf1 (ys := [.tmp 44]) (xs := []) G G G<|cfP (L0 := [bl b 55 (setL 6 y39 (rdLs bs (gdAccount bs)) (intsP bs [5] (textsP bs [3, 4] (flagP bs 2 (intsP bs [0, 1] (zv6, s)))))).1, rdr p bv (setL 6 y39 (rdLs bs (gdAccount bs)) (intsP bs [5] (textsP bs [3, 4] (flagP bs 2 (intsP bs [0, 1] (zv6, s)))))).2]) (Lr := [fz X w]) (listMark_q pv bv p bs b 55 (setL 6 y39 (rdLs bs (gdAccount bs)) (intsP bs [5] (textsP bs [3, 4] (flagP bs 2 (intsP bs [0, 1] (zv6, s)))))) 7 (setL_pos (rdLs_pos (fun _ hh => gdAccount_pos hh) (intsP_pos (textsP_pos (flagP_pos (intsP_pos hp)))))) G) ok_266 G G (Sc 2 G (Sc 3 G Sn)) G fun y46 _ _ => nl<|nx<|sq<|rg<|mv G G<|mv G G<|nc G G<|fa G fld_55_8 G<|mv G G ?_
   refine mf1 (ys := [.tmp 51]) (xs := []) G G G<|cfP (L0 := [bl b 55 (setL 7 y46 (rdLs bs (gdMark bs)) (setL 6 y39 (rdLs bs (gdAccount bs)) (intsP bs [5] (textsP bs [3, 4] (flagP bs 2 (intsP bs [0, 1] (zv6, s))))))).1, rdr p bv (setL 7 y46 (rdLs bs (gdMark bs)) (setL 6 y39 (rdLs bs (gdAccount bs)) (intsP bs [5] (textsP bs [3, 4] (flagP bs 2 (intsP bs [0, 1] (zv6, s))))))).2]) (Lr := [fz X w]) (listWait_q pv bv p bs b 55 (setL 7 y46 (rdLs bs (gdMark bs)) (setL 6 y39 (rdLs bs (gdAccount bs)) (intsP bs [5] (textsP bs [3, 4] (flagP bs 2 (intsP bs [0, 1] (zv6, s))))))) 8 (setL_pos (rdLs_pos (fun _ hh => gdMark_pos hh) (setL_pos (rdLs_pos (fun _ hh => gdAccount_pos hh) (intsP_pos (textsP_pos (flagP_pos (intsP_pos hp)))))))) G) ok_268 G G (Sc 3 G (Sc 4 G Sn)) G fun y53 _ _ => nl<|nx<|sq<|rg<|mv G G<|mv G G<|nc G G<|fa G fld_55_9 G<|mv G G<|mf1 (ys := [.tmp 58]) (xs := []) G G G<|cfP (L0 := [bl b 55 (setL 8 y53 (rdLs bs (gdWait bs)) (setL 7 y46 (rdLs bs (gdMark bs)) (setL 6 y39 (rdLs bs (gdAccount bs)) (intsP bs [5] (textsP bs [3, 4] (flagP bs 2 (intsP bs [0, 1] (zv6, s)))))))).1, rdr p bv (setL 8 y53 (rdLs bs (gdWait bs)) (setL 7 y46 (rdLs bs (gdMark bs)) (setL 6 y39 (rdLs bs (gdAccount bs)) (intsP bs [5] (textsP bs [3, 4] (flagP bs 2 (intsP bs [0, 1] (zv6, s)))))))).2]) (Lr := [fz X w]) (listDeal_q pv bv p bs b 55 (setL 8 y53 (rdLs bs (gdWait bs)) (setL 7 y46 (rdLs bs (gdMark bs)) (setL 6 y39 (rdLs bs (gdAccount bs)) (intsP bs [5] (textsP bs [3, 4] (flagP bs 2 (intsP bs [0, 1] (zv6, s)))))))) 9 (setL_pos (rdLs_pos (fun _ hh => gdWait_pos hh) (setL_pos (rdLs_pos (fun _ hh => gdMark_pos hh) (setL_pos (rdLs_pos (fun _ hh => gdAccount_pos hh) (intsP_pos (textsP_pos (flagP_pos (intsP_pos hp)))))))))) G) ok_270 G G (Sc 4 G (Sc 5 G Sn)) G fun y60 _ _ => nl ?_
   refine nx<|sq<|rg<|mv G G<|mv G G<|nc G G<|fa G fld_55_10 G<|mv G G<|mf1 (ys := [.tmp 65]) (xs := []) G G G<|cfP (L0 := [bl b 55 (setL 9 y60 (rdLs bs (gdDeal bs)) (setL 8 y53 (rdLs bs (gdWait bs)) (setL 7 y46 (rdLs bs (gdMark bs)) (setL 6 y39 (rdLs bs (gdAccount bs)) (intsP bs [5] (textsP bs [3, 4] (flagP bs 2 (intsP bs [0, 1] (zv6, s))))))))).1, rdr p bv (setL 9 y60 (rdLs bs (gdDeal bs)) (setL 8 y53 (rdLs bs (gdWait bs)) (setL 7 y46 (rdLs bs (gdMark bs)) (setL 6 y39 (rdLs bs (gdAccount bs)) (intsP bs [5] (textsP bs [3, 4] (flagP bs 2 (intsP bs [0, 1] (zv6, s))))))))).2]) (Lr := [fz X w]) (listEnd_q pv bv p bs b 55 (setL 9 y60 (rdLs bs (gdDeal bs)) (setL 8 y53 (rdLs bs (gdWait bs)) (setL 7 y46 (rdLs bs (gdMark bs)) (setL 6 y39 (rdLs bs (gdAccount bs)) (intsP bs [5] (textsP bs [3, 4] (flagP bs 2 (intsP bs [0, 1] (zv6, s))))))))) 10 (setL_pos (rdLs_pos (fun _ hh => gdDeal_pos hh) (setL_pos (rdLs_pos (fun _ hh => gdWait_pos hh) (setL_pos (rdLs_pos (fun _ hh => gdMark_pos hh) (setL_pos (rdLs_pos (fun _ hh => gdAccount_pos hh) (intsP_pos (textsP_pos (flagP_pos (intsP_pos hp)))))))))))) (by simp only [intsP, textsP, flagP, setL, opPr, planPr, List.set_cons_zero, List.set_cons_succ, Nat.reduceAdd, List.getElem?_cons_succ, List.getElem?_cons_zero])) ok_272 G G (Sc 5 G (Sc 6 G Sn)) G fun y67 _ _ => ?_
   refine nl<|nx<|sq<|rg<|mv G G<|mv G G<|nc G G<|fa G fld_55_11 G<|cfP (L0 := [bl b 55 (setL 10 y67 (rdLs bs (gdEnd bs)) (setL 9 y60 (rdLs bs (gdDeal bs)) (setL 8 y53 (rdLs bs (gdWait bs)) (setL 7 y46 (rdLs bs (gdMark bs)) (setL 6 y39 (rdLs bs (gdAccount bs)) (intsP bs [5] (textsP bs [3, 4] (flagP bs 2 (intsP bs [0, 1] (zv6, s)))))))))).1, rdr p bv (setL 10 y67 (rdLs bs (gdEnd bs)) (setL 9 y60 (rdLs bs (gdDeal bs)) (setL 8 y53 (rdLs bs (gdWait bs)) (setL 7 y46 (rdLs bs (gdMark bs)) (setL 6 y39 (rdLs bs (gdAccount bs)) (intsP bs [5] (textsP bs [3, 4] (flagP bs 2 (intsP bs [0, 1] (zv6, s)))))))))).2]) (Lr := [fz X w]) (plan_q pv bv p bs b 55 (setL 10 y67 (rdLs bs (gdEnd bs)) (setL 9 y60 (rdLs bs (gdDeal bs)) (setL 8 y53 (rdLs bs (gdWait bs)) (setL 7 y46 (rdLs bs (gdMark bs)) (setL 6 y39 (rdLs bs (gdAccount bs)) (intsP bs [5] (textsP bs [3, 4] (flagP bs 2 (intsP bs [0, 1] (zv6, s)))))))))) 11 (setL_pos (rdLs_pos (fun _ hh => gdEnd_pos hh) (setL_pos (rdLs_pos (fun _ hh => gdDeal_pos hh) (setL_pos (rdLs_pos (fun _ hh => gdWait_pos hh) (setL_pos (rdLs_pos (fun _ hh => gdMark_pos hh) (setL_pos (rdLs_pos (fun _ hh => gdAccount_pos hh) (intsP_pos (textsP_pos (flagP_pos (intsP_pos hp)))))))))))))) (by simp only [intsP, textsP, flagP, setL, opPr, planPr, List.set_cons_zero, List.set_cons_succ, Nat.reduceAdd, List.getElem?_cons_succ, List.getElem?_cons_zero]) (by simp only [intsP, textsP, flagP, setL, opPr, planPr, List.set_cons_zero, List.set_cons_succ, Nat.reduceAdd, List.getElem?_cons_succ, List.getElem?_cons_zero]) (by simp only [intsP, textsP, flagP, setL, opPr, planPr, List.set_cons_zero, List.set_cons_succ, Nat.reduceAdd, List.getElem?_cons_succ, List.getElem?_cons_zero]) (by simp only [intsP, textsP, flagP, setL, opPr, planPr, List.set_cons_zero, List.set_cons_succ, Nat.reduceAdd, List.getElem?_cons_succ, List.getElem?_cons_zero]) (by simp only [intsP, textsP, flagP, setL, opPr, planPr, List.set_cons_zero, List.set_cons_succ, Nat.reduceAdd, List.getElem?_cons_succ, List.getElem?_cons_zero]) (by simp only [intsP, textsP, flagP, setL, opPr, planPr, List.set_cons_zero, List.set_cons_succ, Nat.reduceAdd, List.getElem?_cons_succ, List.getElem?_cons_zero]) (by simp only [intsP, textsP, flagP, setL, opPr, planPr, List.set_cons_zero, List.set_cons_succ, Nat.reduceAdd, List.getElem?_cons_succ, List.getElem?_cons_zero])) ok_274 G G (Sc 6 G (Sc 7 G Sn)) G fun _ _ _ => ?_
   refine nl<|nx<|sq<|rg<|mv G G<|mv G G<|nc G G<|fa G fld_55_12 G<|cfP (L0 := [bl b 55 (planPr bs 11 (setL 10 y67 (rdLs bs (gdEnd bs)) (setL 9 y60 (rdLs bs (gdDeal bs)) (setL 8 y53 (rdLs bs (gdWait bs)) (setL 7 y46 (rdLs bs (gdMark bs)) (setL 6 y39 (rdLs bs (gdAccount bs)) (intsP bs [5] (textsP bs [3, 4] (flagP bs 2 (intsP bs [0, 1] (zv6, s))))))))))).1, rdr p bv (planPr bs 11 (setL 10 y67 (rdLs bs (gdEnd bs)) (setL 9 y60 (rdLs bs (gdDeal bs)) (setL 8 y53 (rdLs bs (gdWait bs)) (setL 7 y46 (rdLs bs (gdMark bs)) (setL 6 y39 (rdLs bs (gdAccount bs)) (intsP bs [5] (textsP bs [3, 4] (flagP bs 2 (intsP bs [0, 1] (zv6, s))))))))))).2]) (Lr := [fz X w]) (plan_q pv bv p bs b 55 (planPr bs 11 (setL 10 y67 (rdLs bs (gdEnd bs)) (setL 9 y60 (rdLs bs (gdDeal bs)) (setL 8 y53 (rdLs bs (gdWait bs)) (setL 7 y46 (rdLs bs (gdMark bs)) (setL 6 y39 (rdLs bs (gdAccount bs)) (intsP bs [5] (textsP bs [3, 4] (flagP bs 2 (intsP bs [0, 1] (zv6, s))))))))))) 18 (planPr_pos (setL_pos (rdLs_pos (fun _ hh => gdEnd_pos hh) (setL_pos (rdLs_pos (fun _ hh => gdDeal_pos hh) (setL_pos (rdLs_pos (fun _ hh => gdWait_pos hh) (setL_pos (rdLs_pos (fun _ hh => gdMark_pos hh) (setL_pos (rdLs_pos (fun _ hh => gdAccount_pos hh) (intsP_pos (textsP_pos (flagP_pos (intsP_pos hp))))))))))))))) (by simp only [intsP, textsP, flagP, setL, opPr, planPr, List.set_cons_zero, List.set_cons_succ, Nat.reduceAdd, List.getElem?_cons_succ, List.getElem?_cons_zero]) (by simp only [intsP, textsP, flagP, setL, opPr, planPr, List.set_cons_zero, List.set_cons_succ, Nat.reduceAdd, List.getElem?_cons_succ, List.getElem?_cons_zero]) (by simp only [intsP, textsP, flagP, setL, opPr, planPr, List.set_cons_zero, List.set_cons_succ, Nat.reduceAdd, List.getElem?_cons_succ, List.getElem?_cons_zero]) (by simp only [intsP, textsP, flagP, setL, opPr, planPr, List.set_cons_zero, List.set_cons_succ, Nat.reduceAdd, List.getElem?_cons_succ, List.getElem?_cons_zero]) (by simp only [intsP, textsP, flagP, setL, opPr, planPr, List.set_cons_zero, List.set_cons_succ, Nat.reduceAdd, List.getElem?_cons_succ, List.getElem?_cons_zero]) (by simp only [intsP, textsP, flagP, setL, opPr, planPr, List.set_cons_zero, List.set_cons_succ, Nat.reduceAdd, List.getElem?_cons_succ, List.getElem?_cons_zero]) (by simp only [intsP, textsP, flagP, setL, opPr, planPr, List.set_cons_zero, List.set_cons_succ, Nat.reduceAdd, List.getElem?_cons_succ, List.getElem?_cons_zero])) ok_274 G G (Sc 6 G (Sc 7 G Sn)) G fun _ _ _ => ?_
   refine nl<|nx<|sq<|rg<|mv G G<|mv G G<|nc G G<|fa G fld_55_13 G<|emL (α := UInt8)<|cfP (L0 := [bl b 55 (planPr bs 18 (planPr bs 11 (setL 10 y67 (rdLs bs (gdEnd bs)) (setL 9 y60 (rdLs bs (gdDeal bs)) (setL 8 y53 (rdLs bs (gdWait bs)) (setL 7 y46 (rdLs bs (gdMark bs)) (setL 6 y39 (rdLs bs (gdAccount bs)) (intsP bs [5] (textsP bs [3, 4] (flagP bs 2 (intsP bs [0, 1] (zv6, s)))))))))))).1, rdr p bv (planPr bs 18 (planPr bs 11 (setL 10 y67 (rdLs bs (gdEnd bs)) (setL 9 y60 (rdLs bs (gdDeal bs)) (setL 8 y53 (rdLs bs (gdWait bs)) (setL 7 y46 (rdLs bs (gdMark bs)) (setL 6 y39 (rdLs bs (gdAccount bs)) (intsP bs [5] (textsP bs [3, 4] (flagP bs 2 (intsP bs [0, 1] (zv6, s)))))))))))).2]) (Lr := [fz X w]) (bytes_q pv bv p bs b 55 (planPr bs 18 (planPr bs 11 (setL 10 y67 (rdLs bs (gdEnd bs)) (setL 9 y60 (rdLs bs (gdDeal bs)) (setL 8 y53 (rdLs bs (gdWait bs)) (setL 7 y46 (rdLs bs (gdMark bs)) (setL 6 y39 (rdLs bs (gdAccount bs)) (intsP bs [5] (textsP bs [3, 4] (flagP bs 2 (intsP bs [0, 1] (zv6, s)))))))))))) 25 (.slice none 0 0) (planPr_pos (planPr_pos (setL_pos (rdLs_pos (fun _ hh => gdEnd_pos hh) (setL_pos (rdLs_pos (fun _ hh => gdDeal_pos hh) (setL_pos (rdLs_pos (fun _ hh => gdWait_pos hh) (setL_pos (rdLs_pos (fun _ hh => gdMark_pos hh) (setL_pos (rdLs_pos (fun _ hh => gdAccount_pos hh) (intsP_pos (textsP_pos (flagP_pos (intsP_pos hp)))))))))))))))) (by simp only [intsP, textsP, flagP, setL, opPr, planPr, List.set_cons_zero, List.set_cons_succ, Nat.reduceAdd, List.getElem?_cons_succ, List.getElem?_cons_zero])) ok_275 G G (Sc 7 G (Sc 8 G (Sc 0 G Sn))) G fun y82 _ _ => ?_
   refine nl<|nx ?_
   refine rgV ⟨fun i => ([[], [], [1], [2], [], [4], [5], [], [7], [8], [3, 6, 9], [0, 10]] : List (List Nat)).getD i [], fun _ _ => True, fun i => ([fun _ => [], fun _ => [], fun _ => [], fun _ => [], fun _ => [], fun _ => [], fun _ => [], fun _ => [], fun _ => [], fun _ => [], fun u => [⟨u, (ptrs b [26, 27, 28])⟩], fun _ => []] : List (Value → List Atom)).getD i (fun _ => []), fun vs => match vs with
     | [] => [bl b 55 (setL 25 y82 (rdText bs 65535) (planPr bs 18 (planPr bs 11 (setL 10 y67 (rdLs bs (gdEnd bs)) (setL 9 y60 (rdLs bs (gdDeal bs)) (setL 8 y53 (rdLs bs (gdWait bs)) (setL 7 y46 (rdLs bs (gdMark bs)) (setL 6 y39 (rdLs bs (gdAccount bs)) (intsP bs [5] (textsP bs [3, 4] (flagP bs 2 (intsP bs [0, 1] (zv6, s))))))))))))).1, rdr p bv (setL 25 y82 (rdText bs 65535) (planPr bs 18 (planPr bs 11 (setL 10 y67 (rdLs bs (gdEnd bs)) (setL 9 y60 (rdLs bs (gdDeal bs)) (setL 8 y53 (rdLs bs (gdWait bs)) (setL 7 y46 (rdLs bs (gdMark bs)) (setL 6 y39 (rdLs bs (gdAccount bs)) (intsP bs [5] (textsP bs [3, 4] (flagP bs 2 (intsP bs [0, 1] (zv6, s))))))))))))).2, fz X w]
     | [v0] => [bl b 55 (intsP bs [26, 27, 28] (setL 25 y82 (rdText bs 65535) (planPr bs 18 (planPr bs 11 (setL 10 y67 (rdLs bs (gdEnd bs)) (setL 9 y60 (rdLs bs (gdDeal bs)) (setL 8 y53 (rdLs bs (gdWait bs)) (setL 7 y46 (rdLs bs (gdMark bs)) (setL 6 y39 (rdLs bs (gdAccount bs)) (intsP bs [5] (textsP bs [3, 4] (flagP bs 2 (intsP bs [0, 1] (zv6, s)))))))))))))).1, rdr p bv (intsP bs [26, 27, 28] (setL 25 y82 (rdText bs 65535) (planPr bs 18 (planPr bs 11 (setL 10 y67 (rdLs bs (gdEnd bs)) (setL 9 y60 (rdLs bs (gdDeal bs)) (setL 8 y53 (rdLs bs (gdWait bs)) (setL 7 y46 (rdLs bs (gdMark bs)) (setL 6 y39 (rdLs bs (gdAccount bs)) (intsP bs [5] (textsP bs [3, 4] (flagP bs 2 (intsP bs [0, 1] (zv6, s)))))))))))))).2, fz X w]
     | _ => [], [11]⟩ (fun i => ([some (pv), some (.pointer (some ⟨b, 0, none⟩)), some (.pointer (some ⟨b, 0, none⟩)), some (.pointer (some ⟨b, 26, none⟩)), some (.pointer (some ⟨b, 0, none⟩)), some (.pointer (some ⟨b, 0, none⟩)), some (.pointer (some ⟨b, 27, none⟩)), some (.pointer (some ⟨b, 0, none⟩)), some (.pointer (some ⟨b, 0, none⟩)), some (.pointer (some ⟨b, 28, none⟩)), none, none] : List (Option Value)).getD i none) mixed rfl rfl ?_ ?_
   ·
    refine ⟨fun V De _=>aP1 (mv G G<|oa G G G G),fun V De _=>aP2 (mv G G<|oa G G G G) (mv G G<|oa G G G G),fun V De _=>aP2 (nc G G<|oa G G G G) (nc G G<|oa G G G G),fun V De _=>aP2 (fa G fld_55_14 G<|oa G G G G) (fa G fld_55_14 G<|oa G G G G),fun V De _=>aP2 (mv G G<|oa G G G G) (mv G G<|oa G G G G),fun V De _=>aP2 (nc G G<|oa G G G G) (nc G G<|oa G G G G),fun V De _=>aP2 (fa G fld_55_15 G<|oa G G G G) (fa G fld_55_15 G<|oa G G G G),fun V De _=>aP2 (mv G G<|oa G G G G) (mv G G<|oa G G G G),?_⟩
    refine ⟨fun V De _=>aP2 (nc G G<|oa G G G G) (nc G G<|oa G G G G),fun V De _=>aP2 (fa G fld_55_16 G<|oa G G G G) (fa G fld_55_16 G<|oa G G G G),fun V De _=>aP1 (bs1 (xs := [.tmp 86, .tmp 89, .tmp 92]) (us := [.pointer (some ⟨b, 26, none⟩), .pointer (some ⟨b, 27, none⟩), .pointer (some ⟨b, 28, none⟩)]) (E := 243) (bytes := 8) (n := 3) G (by exact app_297) G G G G G G fun b93 => frS (ptrs b [26, 27, 28]) ([26, 27, 28].map fun o => [.pointer (some ⟨b, o, none⟩)]) G (fun S w h => ptrs_rd S w _) (Nat.le_of_ble_eq_true G)<|nl (od G G G trivial (Sc 0 G Sn) (SubD.tail Sr))),?_⟩
    refine ⟨fun V De _ => (show AllP _ [0] from ⟨?_, trivial⟩), ?_⟩
    ·
     refine cfP (L0 := [bl b 55 (setL 25 y82 (rdText bs 65535) (planPr bs 18 (planPr bs 11 (setL 10 y67 (rdLs bs (gdEnd bs)) (setL 9 y60 (rdLs bs (gdDeal bs)) (setL 8 y53 (rdLs bs (gdWait bs)) (setL 7 y46 (rdLs bs (gdMark bs)) (setL 6 y39 (rdLs bs (gdAccount bs)) (intsP bs [5] (textsP bs [3, 4] (flagP bs 2 (intsP bs [0, 1] (zv6, s))))))))))))).1, rdr p bv (setL 25 y82 (rdText bs 65535) (planPr bs 18 (planPr bs 11 (setL 10 y67 (rdLs bs (gdEnd bs)) (setL 9 y60 (rdLs bs (gdDeal bs)) (setL 8 y53 (rdLs bs (gdWait bs)) (setL 7 y46 (rdLs bs (gdMark bs)) (setL 6 y39 (rdLs bs (gdAccount bs)) (intsP bs [5] (textsP bs [3, 4] (flagP bs 2 (intsP bs [0, 1] (zv6, s))))))))))))).2]) (Lr := [fz X w]) (int_q pv bv _ p bs b 55 (setL 25 y82 (rdText bs 65535) (planPr bs 18 (planPr bs 11 (setL 10 y67 (rdLs bs (gdEnd bs)) (setL 9 y60 (rdLs bs (gdDeal bs)) (setL 8 y53 (rdLs bs (gdWait bs)) (setL 7 y46 (rdLs bs (gdMark bs)) (setL 6 y39 (rdLs bs (gdAccount bs)) (intsP bs [5] (textsP bs [3, 4] (flagP bs 2 (intsP bs [0, 1] (zv6, s))))))))))))) [26, 27, 28] (setL_pos (rdText_pos (planPr_pos (planPr_pos (setL_pos (rdLs_pos (fun _ hh => gdEnd_pos hh) (setL_pos (rdLs_pos (fun _ hh => gdDeal_pos hh) (setL_pos (rdLs_pos (fun _ hh => gdWait_pos hh) (setL_pos (rdLs_pos (fun _ hh => gdMark_pos hh) (setL_pos (rdLs_pos (fun _ hh => gdAccount_pos hh) (intsP_pos (textsP_pos (flagP_pos (intsP_pos hp)))))))))))))))))) (by intro x hx; simp only [List.mem_cons, List.not_mem_nil, or_false] at hx; rcases hx with rfl | rfl | rfl <;> simp only [intsP, textsP, flagP, setL, opPr, planPr, List.set_cons_zero, List.set_cons_succ, Nat.reduceAdd, List.getElem?_cons_succ, List.getElem?_cons_zero]) (by decide)) ok_261 G G (Sc 9 G (Sc 10 G (Sc 0 G Sn))) G fun _ _ _ => ?_
     exact nl (od G G G trivial Sn (SubD.tail Sr))
    trivial
   ·
    intro V _
    exact wkQ (L := [bl b 55 (intsP bs [26, 27, 28] (setL 25 y82 (rdText bs 65535) (planPr bs 18 (planPr bs 11 (setL 10 y67 (rdLs bs (gdEnd bs)) (setL 9 y60 (rdLs bs (gdDeal bs)) (setL 8 y53 (rdLs bs (gdWait bs)) (setL 7 y46 (rdLs bs (gdMark bs)) (setL 6 y39 (rdLs bs (gdAccount bs)) (intsP bs [5] (textsP bs [3, 4] (flagP bs 2 (intsP bs [0, 1] (zv6, s)))))))))))))).1, rdr p bv (intsP bs [26, 27, 28] (setL 25 y82 (rdText bs 65535) (planPr bs 18 (planPr bs 11 (setL 10 y67 (rdLs bs (gdEnd bs)) (setL 9 y60 (rdLs bs (gdDeal bs)) (setL 8 y53 (rdLs bs (gdWait bs)) (setL 7 y46 (rdLs bs (gdMark bs)) (setL 6 y39 (rdLs bs (gdAccount bs)) (intsP bs [5] (textsP bs [3, 4] (flagP bs 2 (intsP bs [0, 1] (zv6, s)))))))))))))).2, fz X w]) [] [_, _, _, _, _, _, _, _, _, _] trivial (Sc 1 G (Sc 2 G (Sc 3 G (Sc 4 G (Sc 5 G (Sc 6 G (Sc 7 G (Sc 8 G (Sc 9 G (Sc 10 G Sn))))))))))<|fR0N ⟨y39, y46, y53, y60, y67, y82⟩ G trivial (by simp only [gdState_eq, List.cons_append, List.nil_append]) (by rw [← gdState_l0 bs s y39 y46 y53 y60 y67 y82, ← gdState_l1 bs s y39 y46 y53 y60 y67 y82, ← gdState_l2 bs s y39 y46 y53 y60 y67 y82, ← gdState_l3 bs s y39 y46 y53 y60 y67 y82, ← gdState_l4 bs s y39 y46 y53 y60 y67 y82, ← gdState_l5 bs s y39 y46 y53 y60 y67 y82]; exact (SubD.cons 6 rfl (SubD.cons 5 rfl (SubD.cons 4 rfl (SubD.cons 3 rfl (SubD.cons 2 rfl (SubD.cons 0 rfl SubD.nil)))))))

attribute [local irreducible] gdState rdInt rdText rdFlag rdCount endE errO stO

theorem readState1_c (pv bv : Value) (p : Nat) (bs : List UInt8) (s : Rd) (b : Nat) (hp : s.pos ≤ bs.length) : Fnc Tryz.prog 215 [pv, .pointer (some ⟨b, 0, none⟩)] [bl b 55 zv6, rdr p bv s] [⟨pv, (⟨⟨p⟩⟩ : Pt Tpen)⟩, ⟨bv, bs⟩] (fun (_ : Value × Value × Value × Value × Value × Value) _ => True) (fun y _ => [bl b 55 (cState (gdState bs s).1 y.1 y.2.1 y.2.2.1 y.2.2.2.1 y.2.2.2.2.1 y.2.2.2.2.2), rdr p bv (gdState bs s).2]) (fun y _ => [⟨y.1, (gdState bs s).1.fAccounts⟩, ⟨y.2.1, (gdState bs s).1.fMarks⟩, ⟨y.2.2.1, (gdState bs s).1.fWaits⟩, ⟨y.2.2.2.1, (gdState bs s).1.fDeals⟩, ⟨y.2.2.2.2.1, (gdState bs s).1.fEnds⟩, ⟨y.2.2.2.2.2, (gdState bs s).1.fImage⟩]) := by
 exact Fnc.proof Tryz.func215 G 5 G G fun X w => rg<|mv G G<|cfP (L0 := [bl b 55 zv6, rdr p bv s]) (Lr := [fz X w]) (state_e pv bv p bs s b hp) ok_216 G G (Sc 0 G (Sc 1 G Sn)) G fun y _ _ => nl<|fR0N y G trivial G (Sc 0 G (Sc 1 G (Sc 2 G (Sc 3 G (Sc 4 G (Sc 5 G Sn))))))

theorem read_c (sv : Value) (bs : List UInt8) (b : Nat) : Fnc Tryz.prog 214 [sv, .func (.func 215) #[] #[.pointer (some ⟨b, 0, none⟩)]] [bl b 55 zv6] [⟨sv, bs⟩] (fun (_ : Value × Value × Value × Value × Value × Value) v => v = .int .i64 (errO bs)) (fun y _ => [bl b 55 (cState (stO bs) y.1 y.2.1 y.2.2.1 y.2.2.2.1 y.2.2.2.2.1 y.2.2.2.2.2)]) (fun y _ => [⟨y.1, (stO bs).fAccounts⟩, ⟨y.2.1, (stO bs).fMarks⟩, ⟨y.2.2.1, (stO bs).fWaits⟩, ⟨y.2.2.2.1, (stO bs).fDeals⟩, ⟨y.2.2.2.2.1, (stO bs).fEnds⟩, ⟨y.2.2.2.2.2, (stO bs).fImage⟩]) := by
 refine Fnc.proof Tryz.func214 G 30 G G fun X w => sq<|rg<|asg G G<|nl<|nx<|sq<|sq<|rg<|mv G G<|lnP 0 G G Tryz.underlying35 G fun l7 => gtI G G G<|nl<|nx ?_
 refine cdP G (fun h8 => ?_) (fun h8 => ?_)
 ·
  have hl : 65536 < bs.length := by omega
  rw [stO_long hl, errO_long hl]
  exact emC (α := TAccount)<|emC (α := TMark)<|emC (α := TWait)<|emC (α := TDeal)<|emC (α := TEnd)<|emC (α := UInt8)<|sq<|rg<|asg G G<|nl<|nx<|rt<|tR<|fR1 ((.slice none 0 0), (.slice none 0 0), (.slice none 0 0), (.slice none 0 0), (.slice none 0 0), (.slice none 0 0)) G G G G (Sc 5 G (Sc 4 G (Sc 3 G (Sc 2 G (Sc 1 G (Sc 0 G Sn))))))
 ·
  have hl : ¬ 65536 < bs.length := by omega
  rw [stO_read hl, errO_read hl]
  refine sk<|nx<|sq<|rg<|mv G G<|cf (Rdr.new_r sv bs (by omega)) ok_259 G (Sc 0 G Sn) G fun y10 v10 h10 => ?_
  obtain ⟨p, bv⟩ := y10
  have h10 : v10 = .pointer (some ⟨p, 0, none⟩) := h10
  subst h10
  refine bd (ps := [(0, .tmp 10)]) (cs := [.pointer (some ⟨p, 0, none⟩), .slice none 0 0, .bool false, .int .i64 0]) (by rfl) (by kernel_rfl) G<|bx G G G fun b12 => asg G G<|nl<|nx<|sq<|rg<|frP (α := Tpen) ⟨p⟩ (fun S w h => ⟨(), G, by simp, trivial⟩)<|mv G G<|mv G G<|mtL 1 G<|cfPc (L0 := [bl b 55 zv6, rdr p bv ⟨0, 0⟩]) (Lr := [fz X w]) (readState1_c (.pointer (some ⟨b12, 0, none⟩)) bv p bs ⟨0, 0⟩ b (Nat.zero_le _)) ok_215 G G G G (Sc 0 G (Sc 1 G Sn)) G fun y _ _ => nl<|nx ?_
  refine sq<|sq<|rg<|mv G G<|ncP 6 G G G<|faP (α := Tpen) (β := Int) 6 (fun x : Tpen => x.fBad) G G fld_314_3 ppen_3 G fun v18 => ldV 0 G G one_38 G fun w19 => ?_
  refine neI G G G<|nl<|nx<|cdN G (fun h20 => ?_) (fun h20 => ?_)
  ·
   exact absurd G h20 --#done
  ·
   refine sk<|nx<|sq<|rg<|mv G G<|ncP 7 G G G<|faP (α := Tpen) (β := RawP) 7 (fun x : Tpen => x.fIn) G G fld_314_0 ppen_0 G fun v27 => ldV 0 G G one_311 G fun w28 => ?_
   refine cf1 1 (Rdr.end_r p bv bs (gdState bs ⟨0, 0⟩).2) ok_260 G G (Sc 9 G Sn) G fun _ v29 h29 => ?_
   have h29 : v29 = .int .i64 (endE bs (gdState bs ⟨0, 0⟩).2) := h29
   subst h29
   exact asg G G<|nl<|nx<|rt<|mtQ 1 G<|dpQ<|fR1 y G G G G (Sc 2 G (Sc 3 G (Sc 4 G (Sc 5 G (Sc 6 G (Sc 7 G Sn))))))
end Go.Proofs.YtmpoffijcfaalaaGreat.Pen

/- Walks of the pens that read: written by specs3.py. -/

namespace Go.Proofs.YtmpoffijcfaalaaGreat.Pen
open Go.Eng Go.YtmpoffijcfaalaaGreat

attribute [local irreducible] gdState rdInt rdText rdFlag rdCount endE errO stO

theorem readState_c (sv : Value) (bs : List UInt8) : Fnc Tryz.prog 159 [sv] [] [⟨sv, bs⟩] (fun (y : Value × Value × Value × Value × Value × Value) r => r = .tuple #[.agg (cState (rdState bs).1 y.1 y.2.1 y.2.2.1 y.2.2.2.1 y.2.2.2.2.1 y.2.2.2.2.2).toArray, .int .i64 (rdState bs).2]) (fun _ _ => []) (fun y _ => [⟨y.1, (rdState bs).1.fAccounts⟩, ⟨y.2.1, (rdState bs).1.fMarks⟩, ⟨y.2.2.1, (rdState bs).1.fWaits⟩, ⟨y.2.2.2.1, (rdState bs).1.fDeals⟩, ⟨y.2.2.2.2.1, (rdState bs).1.fEnds⟩, ⟨y.2.2.2.2.2, (rdState bs).1.fImage⟩]) := by
 refine Fnc.proof Tryz.func159 G 14 G G fun X w => sq<|rg<|al zero_55 G fun b2 => asg G G<|nl<|nx<|sq<|rg<|al zero_55 G fun b4 => nl<|nx<|sq<|sq ?_
 refine rg<|mv G G<|mf (xs := [.tmp 4]) G G<|cfP (L0 := [bl b4 55 zv6]) (Lr := [bl b2 55 zv6, fz X w]) (read_c sv bs b4) ok_214 G G (Sc 0 G Sn) G fun y v8 h8 => ?_
 have h8 : v8 = .int .i64 (errO bs) := h8
 subst h8
 obtain ⟨y0, y1, y2, y3, y4, y5⟩ := y
 refine asg G G<|nl<|nx<|sq<|rg<|mv G G<|neI G G G<|nl<|nx<|cdN G (fun h10 => ?_) (fun h10 => ?_)
 ·
  rw [rdState_bad h10]
  refine emC (α := TAccount)<|emC (α := TMark)<|emC (α := TWait)<|emC (α := TDeal)<|emC (α := TEnd)<|emC (α := UInt8)<|sq<|rg<|bd (ps := []) (cs := (cState ((⟨0, 0, false, ByteArray.empty, ByteArray.empty, 0, [], [], [], [], [], (⟨0, 0, 0, ByteArray.empty, ByteArray.empty, 0, 0⟩ : TPlan), (⟨0, 0, 0, ByteArray.empty, ByteArray.empty, 0, 0⟩ : TPlan), [], 0, 0, 0⟩ : TState)) (.slice none 0 0) (.slice none 0 0) (.slice none 0 0) (.slice none 0 0) (.slice none 0 0) (.slice none 0 0))) (by rfl) (by kernel_rfl) G<|mv G G<|stW 1 (us := (cState ((⟨0, 0, false, ByteArray.empty, ByteArray.empty, 0, [], [], [], [], [], (⟨0, 0, 0, ByteArray.empty, ByteArray.empty, 0, 0⟩ : TPlan), (⟨0, 0, 0, ByteArray.empty, ByteArray.empty, 0, 0⟩ : TPlan), [], 0, 0, 0⟩ : TState)) (.slice none 0 0) (.slice none 0 0) (.slice none 0 0) (.slice none 0 0) (.slice none 0 0) (.slice none 0 0))) G G G row_55 G G<|asg G G<|nl<|nx ?_
  exact rt<|tR<|fRG ((.slice none 0 0), (.slice none 0 0), (.slice none 0 0), (.slice none 0 0), (.slice none 0 0), (.slice none 0 0)) [_, _] (rCT 1 G G G G row_55) (by rfl) G (Sc 5 G (Sc 4 G (Sc 3 G (Sc 2 G (Sc 1 G (Sc 0 G Sn))))))
 ·
  rw [rdState_ok h10]
  refine sk<|nx<|sq<|rg<|ldM 0 (cState ((stO bs)) y0 y1 y2 y3 y4 y5) G G row_55 G G<|gtL (q := y0.oneCell' = true) (fun S w h => oneCell_of_list (h _ (List.mem_of_getElem? (i := 0) G))) fun o_y0 => gtL (q := y1.oneCell' = true) (fun S w h => oneCell_of_list (h _ (List.mem_of_getElem? (i := 1) G))) fun o_y1 => gtL (q := y2.oneCell' = true) (fun S w h => oneCell_of_list (h _ (List.mem_of_getElem? (i := 2) G))) fun o_y2 => gtL (q := y3.oneCell' = true) (fun S w h => oneCell_of_list (h _ (List.mem_of_getElem? (i := 3) G))) fun o_y3 => gtL (q := y4.oneCell' = true) (fun S w h => oneCell_of_list (h _ (List.mem_of_getElem? (i := 4) G))) fun o_y4 => gtL (q := y5.oneCell' = true) (fun S w h => oneCell_of_list (h _ (List.mem_of_getElem? (i := 5) G))) fun o_y5 => stW 1 (us := (cState ((stO bs)) y0 y1 y2 y3 y4 y5)) G G G row_55 (by simp only [List.all_cons, List.all_nil, Bool.and_true, o_y0, o_y1, o_y2, o_y3, o_y4, o_y5]; rfl) G<|asg G G<|nl ?_
  exact nx<|rt<|fRG (y0, y1, y2, y3, y4, y5) [_, _] (rCT 1 G G G G row_55) (by rfl) G (Sc 0 G (Sc 1 G (Sc 2 G (Sc 3 G (Sc 4 G (Sc 5 G Sn))))))
end Go.Proofs.YtmpoffijcfaalaaGreat.Pen

/- Closed facts on the program: written by specs4.py. -/

namespace Go.Proofs.YtmpoffijcfaalaaGreat.Ref
open Go.Eng

end Go.Proofs.YtmpoffijcfaalaaGreat.Ref

/- Closed facts on the program: written by specs5.py. -/

namespace Go.Proofs.YtmpoffijcfaalaaGreat.Ref
open Go.Eng

end Go.Proofs.YtmpoffijcfaalaaGreat.Ref

/- What the reference reads with. No program. -/

namespace Go.YtmpoffijcfaalaaGreat
open Go.Eng

end Go.YtmpoffijcfaalaaGreat

/- Walks of the readers of the reference: written by specs4.py. -/

namespace Go.Proofs.YtmpoffijcfaalaaGreat.Ref
open Go.Eng Go.YtmpoffijcfaalaaGreat

end Go.Proofs.YtmpoffijcfaalaaGreat.Ref

/- How flags, counts and texts are read in steps. No program. -/

namespace Go.YtmpoffijcfaalaaGreat
open Go.Eng

end Go.YtmpoffijcfaalaaGreat

/- Walks of the readers of the reference: written by specs4.py. -/

namespace Go.Proofs.YtmpoffijcfaalaaGreat.Ref
open Go.Eng Go.YtmpoffijcfaalaaGreat

end Go.Proofs.YtmpoffijcfaalaaGreat.Ref

/- A walk over fields that reads. No program. -/

namespace Go.YtmpoffijcfaalaaGreat
open Go.Eng

/-- A walk over fields that reads by the reader in block r. -/
structure TWalk where
 r : Nat
end Go.YtmpoffijcfaalaaGreat

/- Walks of the walk over fields, reading: written by specs5.py. -/

namespace Go.Proofs.YtmpoffijcfaalaaGreat.Ref
open Go.Eng Go.YtmpoffijcfaalaaGreat

end Go.Proofs.YtmpoffijcfaalaaGreat.Ref

/- Walks of the walk over fields, reading: written by specs5.py. -/

namespace Go.Proofs.YtmpoffijcfaalaaGreat.Ref
open Go.Eng Go.YtmpoffijcfaalaaGreat

end Go.Proofs.YtmpoffijcfaalaaGreat.Ref

/- What the walk leaves is what is read: written by specs5.py. No program. -/

namespace Go.YtmpoffijcfaalaaGreat
open Go.Eng

end Go.YtmpoffijcfaalaaGreat

/- Walks of the walk over fields, reading: written by specs5.py. -/

namespace Go.Proofs.YtmpoffijcfaalaaGreat.Ref
open Go.Eng Go.YtmpoffijcfaalaaGreat

end Go.Proofs.YtmpoffijcfaalaaGreat.Ref

/- Walks of the walk over fields, reading: written by specs5.py. -/

namespace Go.Proofs.YtmpoffijcfaalaaGreat.Ref
open Go.Eng Go.YtmpoffijcfaalaaGreat

attribute [local irreducible] gdSpan gdLock gdHolder gdAnswer gdOp gdPlan gdEnd gdMark gdDeal gdWait gdAccount gdState rdInt rdText rdFlag rdCount

end Go.Proofs.YtmpoffijcfaalaaGreat.Ref

/- Walks of the walk over fields, reading: written by specs5.py. -/

namespace Go.Proofs.YtmpoffijcfaalaaGreat.Ref
open Go.Eng Go.YtmpoffijcfaalaaGreat

attribute [local irreducible] gdState rdInt rdText rdFlag rdCount

end Go.Proofs.YtmpoffijcfaalaaGreat.Ref

/- Walks of the walk over fields, reading: written by specs5.py. -/

namespace Go.Proofs.YtmpoffijcfaalaaGreat.Ref
open Go.Eng Go.YtmpoffijcfaalaaGreat

attribute [local irreducible] gdState rdInt rdText rdFlag rdCount endE errO stO

end Go.Proofs.YtmpoffijcfaalaaGreat.Ref

/- Images read. -/

namespace Go.Proofs.YtmpoffijcfaalaaGreat
open Go.Eng Go.YtmpoffijcfaalaaGreat
set_option maxHeartbeats 1000000

theorem rs_c (v_b : Value) (b : List UInt8) : Fnc Tryz.prog 159 [v_b] [] [⟨v_b, b⟩] (fun (y : Value × Value × Value × Value × Value × Value) r => r = .tuple #[.agg (cState (rdState b).1 y.1 y.2.1 y.2.2.1 y.2.2.2.1 y.2.2.2.2.1 y.2.2.2.2.2).toArray, .int .i64 (rdState b).2]) (fun _ _ => []) (fun y _ => [⟨y.1, (rdState b).1.fAccounts⟩, ⟨y.2.1, (rdState b).1.fMarks⟩, ⟨y.2.2.1, (rdState b).1.fWaits⟩, ⟨y.2.2.2.1, (rdState b).1.fDeals⟩, ⟨y.2.2.2.2.1, (rdState b).1.fEnds⟩, ⟨y.2.2.2.2.2, (rdState b).1.fImage⟩]) := Pen.readState_c v_b b

end Go.Proofs.YtmpoffijcfaalaaGreat
