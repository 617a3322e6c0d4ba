/- Part 17 of the proof of dutyRoutes_holds: DutH6, DutH7, DutWR, DutF3, DutW11, DutS4, DutF4, DutW12. Every text below begins with what it shows. -/
import Derived.Test.YtmpoffijcfaalaaGreatPart16

/- Walks of the walk over fields, reading: written by specs5.py. -/

namespace Go.Proofs.YtmpoffijcfaalaaGreat.Ref
open Go.Eng Go.YtmpoffijcfaalaaGreat

attribute [local irreducible] gdState rdInt rdText rdFlag rdCount

theorem State_e (pv bv : Value) (p : Nat) (bs : List UInt8) (s : Rd) (b : Nat) (hp : s.pos ≤ bs.length) : Fnc Tryz.prog 149 [pv, .pointer (some ⟨b, 0, none⟩)] [bl b 55 zv6, rd2 p bv s] [⟨pv, (⟨⟨p⟩⟩ : Pt TWalk)⟩, ⟨bv, bs⟩] (fun (_ : Value × Value × Value × Value × Value × Value) _ => True) (fun y _ => [bl b 55 (cState (gdState bs s).1 y.1 y.2.1 y.2.2.1 y.2.2.2.1 y.2.2.2.2.1 y.2.2.2.2.2), rd2 p bv (gdState bs s).2]) (fun y _ => [⟨y.1, (gdState bs s).1.fAccounts⟩, ⟨y.2.1, (gdState bs s).1.fMarks⟩, ⟨y.2.2.1, (gdState bs s).1.fWaits⟩, ⟨y.2.2.2.1, (gdState bs s).1.fDeals⟩, ⟨y.2.2.2.2.1, (gdState bs s).1.fEnds⟩, ⟨y.2.2.2.2.2, (gdState bs s).1.fImage⟩]) := by
 refine Fnc.proof Tryz.func149 G 85 G G fun X w => sq ?_
 refine rgV ⟨fun i => ([[], [], [1], [2], [], [4], [5], [3, 6], [0, 7]] : List (List Nat)).getD i [], fun _ _ => True, fun i => ([fun _ => [], fun _ => [], fun _ => [], fun _ => [], fun _ => [], fun _ => [], fun _ => [], fun u => [⟨u, (ptrs b [0, 1])⟩], fun _ => []] : List (Value → List Atom)).getD i (fun _ => []), fun vs => match vs with
   | [] => [bl b 55 (zv6, s).1, rd2 p bv (zv6, s).2, fz X w]
   | [v0] => [bl b 55 (intsP bs [0, 1] (zv6, s)).1, rd2 p bv (intsP bs [0, 1] (zv6, s)).2, fz X w]
   | _ => [], [8]⟩ (fun i => ([some (pv), some (.pointer (some ⟨b, 0, none⟩)), some (.pointer (some ⟨b, 0, none⟩)), some (.pointer (some ⟨b, 0, none⟩)), some (.pointer (some ⟨b, 0, none⟩)), some (.pointer (some ⟨b, 0, none⟩)), some (.pointer (some ⟨b, 1, none⟩)), none, none] : List (Option Value)).getD i none) mixed rfl rfl ?_ ?_
 ·
  refine ⟨fun V De _=>aP1 (mv G G<|oa G G G G),fun V De _=>aP2 (mv G G<|oa G G G G) (mv G G<|oa G G G G),fun V De _=>aP2 (nc G G<|oa G G G G) (nc G G<|oa G G G G),fun V De _=>aP2 (fa G fld_55_0 G<|oa G G G G) (fa G fld_55_0 G<|oa G G G G),fun V De _=>aP2 (mv G G<|oa G G G G) (mv G G<|oa G G G G),fun V De _=>aP2 (nc G G<|oa G G G G) (nc G G<|oa G G G G),fun V De _=>aP2 (fa G fld_55_1 G<|oa G G G G) (fa G fld_55_1 G<|oa G G G G),fun V De _=>aP1 (bs1 (xs := [.tmp 7, .tmp 10]) (us := [.pointer (some ⟨b, 0, none⟩), .pointer (some ⟨b, 1, none⟩)]) (E := 243) (bytes := 8) (n := 2) G (by exact app_297) G G G G G G fun b11 => frS (ptrs b [0, 1]) ([0, 1].map fun o => [.pointer (some ⟨b, o, none⟩)]) G (fun S w h => ptrs_rd S w _) (Nat.le_of_ble_eq_true G)<|nl (od G G G trivial (Sc 0 G Sn) (SubD.tail Sr))),?_⟩
  exact ⟨fun V De _=>aP1 (cfP (L0 := [bl b 55 (zv6, s).1, rd2 p bv (zv6, s).2]) (Lr := [fz X w]) (int_q pv bv _ p bs b 55 (zv6, s) [0, 1] hp (by intro x hx; simp only [List.mem_cons, List.not_mem_nil, or_false] at hx; rcases hx with rfl | rfl <;> rfl) (by decide)) ok_199 G G (Sc 1 G (Sc 2 G (Sc 0 G Sn))) G fun _ _ _ => nl (od G G G trivial Sn (SubD.tail Sr))),trivial⟩
 ·
  intro V _
  refine wkQ (L := [bl b 55 (intsP bs [0, 1] (zv6, s)).1, rd2 p bv (intsP bs [0, 1] (zv6, s)).2, fz X w]) [(0, _), (1, _)] [_, _] ⟨G, G, trivial⟩ (Sc 1 G (Sc 2 G Sn))<|nx<|sq<|rg<|mv G G<|mv G G<|nc G G<|fa G fld_55_2 G<|cfP (L0 := [bl b 55 (intsP bs [0, 1] (zv6, s)).1, rd2 p bv (intsP bs [0, 1] (zv6, s)).2]) (Lr := [fz X w]) (flag_q pv bv p bs b 55 (intsP bs [0, 1] (zv6, s)) 2 (intsP_pos hp) G) ok_200 G G (Sc 0 G (Sc 1 G Sn)) G fun _ _ _ => nl<|nx<|sq<|rg<|mv G G ?_
  refine mv G G<|nc G G<|fa G fld_55_3 G<|cfP (L0 := [bl b 55 (flagP bs 2 (intsP bs [0, 1] (zv6, s))).1, rd2 p bv (flagP bs 2 (intsP bs [0, 1] (zv6, s))).2]) (Lr := [fz X w]) (text1_q pv bv p bs b 55 (flagP bs 2 (intsP bs [0, 1] (zv6, s))) 3 (flagP_pos (intsP_pos hp)) G) ok_201 G G (Sc 0 G (Sc 1 G Sn)) G fun _ _ _ => nl<|nx<|sq<|rg<|mv G G<|mv G G<|nc G G<|fa G fld_55_4 G<|cfP (L0 := [bl b 55 (textsP bs [3] (flagP bs 2 (intsP bs [0, 1] (zv6, s)))).1, rd2 p bv (textsP bs [3] (flagP bs 2 (intsP bs [0, 1] (zv6, s)))).2]) (Lr := [fz X w]) (text1_q pv bv p bs b 55 (textsP bs [3] (flagP bs 2 (intsP bs [0, 1] (zv6, s)))) 4 (textsP_pos (flagP_pos (intsP_pos hp))) G) ok_201 G G (Sc 0 G (Sc 1 G Sn)) G fun _ _ _ => nl ?_
  refine nx<|sq<|rg<|mv G G<|mv G G<|nc G G<|fa G fld_55_5 G<|cfP (L0 := [bl b 55 (textsP bs [4] (textsP bs [3] (flagP bs 2 (intsP bs [0, 1] (zv6, s))))).1, rd2 p bv (textsP bs [4] (textsP bs [3] (flagP bs 2 (intsP bs [0, 1] (zv6, s))))).2]) (Lr := [fz X w]) (num1_q pv bv p bs b 55 (textsP bs [4] (textsP bs [3] (flagP bs 2 (intsP bs [0, 1] (zv6, s))))) 5 (textsP_pos (textsP_pos (flagP_pos (intsP_pos hp)))) G) ok_202 G G (Sc 0 G (Sc 1 G Sn)) G fun _ _ _ => nl<|nx<|sq<|rg<|mv G G<|mv G G ?_
  refine nc G G<|fa G fld_55_6 G<|cfP (L0 := [bl b 55 (intsP bs [5] (textsP bs [4] (textsP bs [3] (flagP bs 2 (intsP bs [0, 1] (zv6, s)))))).1, rd2 p bv (intsP bs [5] (textsP bs [4] (textsP bs [3] (flagP bs 2 (intsP bs [0, 1] (zv6, s)))))).2]) (Lr := [fz X w]) (listAccount_q pv bv p bs b 55 (intsP bs [5] (textsP bs [4] (textsP bs [3] (flagP bs 2 (intsP bs [0, 1] (zv6, s)))))) 6 (intsP_pos (textsP_pos (textsP_pos (flagP_pos (intsP_pos hp))))) G) ok_203 G G (Sc 0 G (Sc 1 G Sn)) G fun y37 _ _ => nl<|nx<|sq<|rg<|mv G G<|mv G G<|nc G G<|fa G fld_55_7 G<|cfP (L0 := [bl b 55 (setL 6 y37 (rdLs bs (gdAccount bs)) (intsP bs [5] (textsP bs [4] (textsP bs [3] (flagP bs 2 (intsP bs [0, 1] (zv6, s))))))).1, rd2 p bv (setL 6 y37 (rdLs bs (gdAccount bs)) (intsP bs [5] (textsP bs [4] (textsP bs [3] (flagP bs 2 (intsP bs [0, 1] (zv6, s))))))).2]) (Lr := [fz X w]) (listMark_q pv bv p bs b 55 (setL 6 y37 (rdLs bs (gdAccount bs)) (intsP bs [5] (textsP bs [4] (textsP bs [3] (flagP bs 2 (intsP bs [0, 1] (zv6, s))))))) 7 (setL_pos (rdLs_pos (fun _ hh => gdAccount_pos hh) (intsP_pos (textsP_pos (textsP_pos (flagP_pos (intsP_pos hp))))))) G) ok_204 G G (Sc 1 G (Sc 2 G Sn)) G fun y42 _ _ => nl<|nx ?_
  refine sq<|rg<|mv G G<|mv G G<|nc G G<|fa G fld_55_8 G<|cfP (L0 := [bl b 55 (setL 7 y42 (rdLs bs (gdMark bs)) (setL 6 y37 (rdLs bs (gdAccount bs)) (intsP bs [5] (textsP bs [4] (textsP bs [3] (flagP bs 2 (intsP bs [0, 1] (zv6, s)))))))).1, rd2 p bv (setL 7 y42 (rdLs bs (gdMark bs)) (setL 6 y37 (rdLs bs (gdAccount bs)) (intsP bs [5] (textsP bs [4] (textsP bs [3] (flagP bs 2 (intsP bs [0, 1] (zv6, s)))))))).2]) (Lr := [fz X w]) (listWait_q pv bv p bs b 55 (setL 7 y42 (rdLs bs (gdMark bs)) (setL 6 y37 (rdLs bs (gdAccount bs)) (intsP bs [5] (textsP bs [4] (textsP bs [3] (flagP bs 2 (intsP bs [0, 1] (zv6, s)))))))) 8 (setL_pos (rdLs_pos (fun _ hh => gdMark_pos hh) (setL_pos (rdLs_pos (fun _ hh => gdAccount_pos hh) (intsP_pos (textsP_pos (textsP_pos (flagP_pos (intsP_pos hp))))))))) G) ok_205 G G (Sc 2 G (Sc 3 G Sn)) G fun y47 _ _ => nl<|nx<|sq<|rg<|mv G G<|mv G G<|nc G G ?_
  refine fa G fld_55_9 G<|cfP (L0 := [bl b 55 (setL 8 y47 (rdLs bs (gdWait bs)) (setL 7 y42 (rdLs bs (gdMark bs)) (setL 6 y37 (rdLs bs (gdAccount bs)) (intsP bs [5] (textsP bs [4] (textsP bs [3] (flagP bs 2 (intsP bs [0, 1] (zv6, s))))))))).1, rd2 p bv (setL 8 y47 (rdLs bs (gdWait bs)) (setL 7 y42 (rdLs bs (gdMark bs)) (setL 6 y37 (rdLs bs (gdAccount bs)) (intsP bs [5] (textsP bs [4] (textsP bs [3] (flagP bs 2 (intsP bs [0, 1] (zv6, s))))))))).2]) (Lr := [fz X w]) (listDeal_q pv bv p bs b 55 (setL 8 y47 (rdLs bs (gdWait bs)) (setL 7 y42 (rdLs bs (gdMark bs)) (setL 6 y37 (rdLs bs (gdAccount bs)) (intsP bs [5] (textsP bs [4] (textsP bs [3] (flagP bs 2 (intsP bs [0, 1] (zv6, s))))))))) 9 (setL_pos (rdLs_pos (fun _ hh => gdWait_pos hh) (setL_pos (rdLs_pos (fun _ hh => gdMark_pos hh) (setL_pos (rdLs_pos (fun _ hh => gdAccount_pos hh) (intsP_pos (textsP_pos (textsP_pos (flagP_pos (intsP_pos hp))))))))))) G) ok_206 G G (Sc 3 G (Sc 4 G Sn)) G fun y52 _ _ => nl<|nx<|sq<|rg<|mv G G<|mv G G<|nc G G<|fa G fld_55_10 G<|cfP (L0 := [bl b 55 (setL 9 y52 (rdLs bs (gdDeal bs)) (setL 8 y47 (rdLs bs (gdWait bs)) (setL 7 y42 (rdLs bs (gdMark bs)) (setL 6 y37 (rdLs bs (gdAccount bs)) (intsP bs [5] (textsP bs [4] (textsP bs [3] (flagP bs 2 (intsP bs [0, 1] (zv6, s)))))))))).1, rd2 p bv (setL 9 y52 (rdLs bs (gdDeal bs)) (setL 8 y47 (rdLs bs (gdWait bs)) (setL 7 y42 (rdLs bs (gdMark bs)) (setL 6 y37 (rdLs bs (gdAccount bs)) (intsP bs [5] (textsP bs [4] (textsP bs [3] (flagP bs 2 (intsP bs [0, 1] (zv6, s)))))))))).2]) (Lr := [fz X w]) (listEnd_q pv bv p bs b 55 (setL 9 y52 (rdLs bs (gdDeal bs)) (setL 8 y47 (rdLs bs (gdWait bs)) (setL 7 y42 (rdLs bs (gdMark bs)) (setL 6 y37 (rdLs bs (gdAccount bs)) (intsP bs [5] (textsP bs [4] (textsP bs [3] (flagP bs 2 (intsP bs [0, 1] (zv6, s)))))))))) 10 (setL_pos (rdLs_pos (fun _ hh => gdDeal_pos hh) (setL_pos (rdLs_pos (fun _ hh => gdWait_pos hh) (setL_pos (rdLs_pos (fun _ hh => gdMark_pos hh) (setL_pos (rdLs_pos (fun _ hh => gdAccount_pos hh) (intsP_pos (textsP_pos (textsP_pos (flagP_pos (intsP_pos hp))))))))))))) (by simp only [intsP, textsP, flagP, setL, List.set_cons_zero, List.set_cons_succ, List.getElem?_cons_succ, List.getElem?_cons_zero])) ok_207 G G (Sc 4 G (Sc 5 G Sn)) G fun y57 _ _ => ?_
  refine nl<|nx<|sq<|rg<|mv G G<|mv G G<|nc G G<|fa G fld_55_11 G<|cfP (L0 := [bl b 55 (setL 10 y57 (rdLs bs (gdEnd bs)) (setL 9 y52 (rdLs bs (gdDeal bs)) (setL 8 y47 (rdLs bs (gdWait bs)) (setL 7 y42 (rdLs bs (gdMark bs)) (setL 6 y37 (rdLs bs (gdAccount bs)) (intsP bs [5] (textsP bs [4] (textsP bs [3] (flagP bs 2 (intsP bs [0, 1] (zv6, s))))))))))).1, rd2 p bv (setL 10 y57 (rdLs bs (gdEnd bs)) (setL 9 y52 (rdLs bs (gdDeal bs)) (setL 8 y47 (rdLs bs (gdWait bs)) (setL 7 y42 (rdLs bs (gdMark bs)) (setL 6 y37 (rdLs bs (gdAccount bs)) (intsP bs [5] (textsP bs [4] (textsP bs [3] (flagP bs 2 (intsP bs [0, 1] (zv6, s))))))))))).2]) (Lr := [fz X w]) (plan_q pv bv p bs b 55 (setL 10 y57 (rdLs bs (gdEnd bs)) (setL 9 y52 (rdLs bs (gdDeal bs)) (setL 8 y47 (rdLs bs (gdWait bs)) (setL 7 y42 (rdLs bs (gdMark bs)) (setL 6 y37 (rdLs bs (gdAccount bs)) (intsP bs [5] (textsP bs [4] (textsP bs [3] (flagP bs 2 (intsP bs [0, 1] (zv6, s))))))))))) 11 (setL_pos (rdLs_pos (fun _ hh => gdEnd_pos hh) (setL_pos (rdLs_pos (fun _ hh => gdDeal_pos hh) (setL_pos (rdLs_pos (fun _ hh => gdWait_pos hh) (setL_pos (rdLs_pos (fun _ hh => gdMark_pos hh) (setL_pos (rdLs_pos (fun _ hh => gdAccount_pos hh) (intsP_pos (textsP_pos (textsP_pos (flagP_pos (intsP_pos hp))))))))))))))) (by simp only [intsP, textsP, flagP, setL, List.set_cons_zero, List.set_cons_succ, List.getElem?_cons_succ, List.getElem?_cons_zero]) (by simp only [intsP, textsP, flagP, setL, List.set_cons_zero, List.set_cons_succ, Nat.reduceAdd, List.getElem?_cons_succ, List.getElem?_cons_zero]) (by simp only [intsP, textsP, flagP, setL, List.set_cons_zero, List.set_cons_succ, Nat.reduceAdd, List.getElem?_cons_succ, List.getElem?_cons_zero]) (by simp only [intsP, textsP, flagP, setL, List.set_cons_zero, List.set_cons_succ, Nat.reduceAdd, List.getElem?_cons_succ, List.getElem?_cons_zero]) (by simp only [intsP, textsP, flagP, setL, List.set_cons_zero, List.set_cons_succ, Nat.reduceAdd, List.getElem?_cons_succ, List.getElem?_cons_zero]) (by simp only [intsP, textsP, flagP, setL, List.set_cons_zero, List.set_cons_succ, Nat.reduceAdd, List.getElem?_cons_succ, List.getElem?_cons_zero]) (by simp only [intsP, textsP, flagP, setL, List.set_cons_zero, List.set_cons_succ, Nat.reduceAdd, List.getElem?_cons_succ, List.getElem?_cons_zero])) ok_208 G G (Sc 5 G (Sc 6 G Sn)) G fun _ _ _ => ?_
  refine nl<|nx<|sq<|rg<|mv G G<|mv G G<|nc G G<|fa G fld_55_12 G<|cfP (L0 := [bl b 55 (planPr bs 11 (setL 10 y57 (rdLs bs (gdEnd bs)) (setL 9 y52 (rdLs bs (gdDeal bs)) (setL 8 y47 (rdLs bs (gdWait bs)) (setL 7 y42 (rdLs bs (gdMark bs)) (setL 6 y37 (rdLs bs (gdAccount bs)) (intsP bs [5] (textsP bs [4] (textsP bs [3] (flagP bs 2 (intsP bs [0, 1] (zv6, s)))))))))))).1, rd2 p bv (planPr bs 11 (setL 10 y57 (rdLs bs (gdEnd bs)) (setL 9 y52 (rdLs bs (gdDeal bs)) (setL 8 y47 (rdLs bs (gdWait bs)) (setL 7 y42 (rdLs bs (gdMark bs)) (setL 6 y37 (rdLs bs (gdAccount bs)) (intsP bs [5] (textsP bs [4] (textsP bs [3] (flagP bs 2 (intsP bs [0, 1] (zv6, s)))))))))))).2]) (Lr := [fz X w]) (plan_q pv bv p bs b 55 (planPr bs 11 (setL 10 y57 (rdLs bs (gdEnd bs)) (setL 9 y52 (rdLs bs (gdDeal bs)) (setL 8 y47 (rdLs bs (gdWait bs)) (setL 7 y42 (rdLs bs (gdMark bs)) (setL 6 y37 (rdLs bs (gdAccount bs)) (intsP bs [5] (textsP bs [4] (textsP bs [3] (flagP bs 2 (intsP bs [0, 1] (zv6, s)))))))))))) 18 (planPr_pos (setL_pos (rdLs_pos (fun _ hh => gdEnd_pos hh) (setL_pos (rdLs_pos (fun _ hh => gdDeal_pos hh) (setL_pos (rdLs_pos (fun _ hh => gdWait_pos hh) (setL_pos (rdLs_pos (fun _ hh => gdMark_pos hh) (setL_pos (rdLs_pos (fun _ hh => gdAccount_pos hh) (intsP_pos (textsP_pos (textsP_pos (flagP_pos (intsP_pos hp)))))))))))))))) (by simp only [intsP, textsP, flagP, setL, planPr, List.set_cons_zero, List.set_cons_succ, Nat.reduceAdd, List.getElem?_cons_succ, List.getElem?_cons_zero]) (by simp only [intsP, textsP, flagP, setL, planPr, List.set_cons_zero, List.set_cons_succ, Nat.reduceAdd, List.getElem?_cons_succ, List.getElem?_cons_zero]) (by simp only [intsP, textsP, flagP, setL, planPr, List.set_cons_zero, List.set_cons_succ, Nat.reduceAdd, List.getElem?_cons_succ, List.getElem?_cons_zero]) (by simp only [intsP, textsP, flagP, setL, planPr, List.set_cons_zero, List.set_cons_succ, Nat.reduceAdd, List.getElem?_cons_succ, List.getElem?_cons_zero]) (by simp only [intsP, textsP, flagP, setL, planPr, List.set_cons_zero, List.set_cons_succ, Nat.reduceAdd, List.getElem?_cons_succ, List.getElem?_cons_zero]) (by simp only [intsP, textsP, flagP, setL, planPr, List.set_cons_zero, List.set_cons_succ, Nat.reduceAdd, List.getElem?_cons_succ, List.getElem?_cons_zero]) (by simp only [intsP, textsP, flagP, setL, planPr, List.set_cons_zero, List.set_cons_succ, Nat.reduceAdd, List.getElem?_cons_succ, List.getElem?_cons_zero])) ok_208 G G (Sc 5 G (Sc 6 G Sn)) G fun _ _ _ => ?_
  refine nl<|nx<|sq<|rg<|mv G G<|mv G G<|nc G G<|fa G fld_55_13 G<|emL (α := UInt8)<|cfP (L0 := [bl b 55 (planPr bs 18 (planPr bs 11 (setL 10 y57 (rdLs bs (gdEnd bs)) (setL 9 y52 (rdLs bs (gdDeal bs)) (setL 8 y47 (rdLs bs (gdWait bs)) (setL 7 y42 (rdLs bs (gdMark bs)) (setL 6 y37 (rdLs bs (gdAccount bs)) (intsP bs [5] (textsP bs [4] (textsP bs [3] (flagP bs 2 (intsP bs [0, 1] (zv6, s))))))))))))).1, rd2 p bv (planPr bs 18 (planPr bs 11 (setL 10 y57 (rdLs bs (gdEnd bs)) (setL 9 y52 (rdLs bs (gdDeal bs)) (setL 8 y47 (rdLs bs (gdWait bs)) (setL 7 y42 (rdLs bs (gdMark bs)) (setL 6 y37 (rdLs bs (gdAccount bs)) (intsP bs [5] (textsP bs [4] (textsP bs [3] (flagP bs 2 (intsP bs [0, 1] (zv6, s))))))))))))).2]) (Lr := [fz X w]) (bytes_q pv bv p bs b 55 (planPr bs 18 (planPr bs 11 (setL 10 y57 (rdLs bs (gdEnd bs)) (setL 9 y52 (rdLs bs (gdDeal bs)) (setL 8 y47 (rdLs bs (gdWait bs)) (setL 7 y42 (rdLs bs (gdMark bs)) (setL 6 y37 (rdLs bs (gdAccount bs)) (intsP bs [5] (textsP bs [4] (textsP bs [3] (flagP bs 2 (intsP bs [0, 1] (zv6, s))))))))))))) 25 (.slice none 0 0) (planPr_pos (planPr_pos (setL_pos (rdLs_pos (fun _ hh => gdEnd_pos hh) (setL_pos (rdLs_pos (fun _ hh => gdDeal_pos hh) (setL_pos (rdLs_pos (fun _ hh => gdWait_pos hh) (setL_pos (rdLs_pos (fun _ hh => gdMark_pos hh) (setL_pos (rdLs_pos (fun _ hh => gdAccount_pos hh) (intsP_pos (textsP_pos (textsP_pos (flagP_pos (intsP_pos hp))))))))))))))))) (by simp only [intsP, textsP, flagP, setL, planPr, List.set_cons_zero, List.set_cons_succ, Nat.reduceAdd, List.getElem?_cons_succ, List.getElem?_cons_zero])) ok_209 G G (Sc 6 G (Sc 7 G (Sc 0 G Sn))) G fun y72 _ _ => ?_
  refine nl<|nx ?_
  refine rgV ⟨fun i => ([[], [], [1], [2], [], [4], [5], [], [7], [8], [3, 6, 9], [0, 10]] : List (List Nat)).getD i [], fun _ _ => True, fun i => ([fun _ => [], fun _ => [], fun _ => [], fun _ => [], fun _ => [], fun _ => [], fun _ => [], fun _ => [], fun _ => [], fun _ => [], fun u => [⟨u, (ptrs b [26, 27, 28])⟩], fun _ => []] : List (Value → List Atom)).getD i (fun _ => []), fun vs => match vs with
    | [] => [bl b 55 (setL 25 y72 (rdText bs 65535) (planPr bs 18 (planPr bs 11 (setL 10 y57 (rdLs bs (gdEnd bs)) (setL 9 y52 (rdLs bs (gdDeal bs)) (setL 8 y47 (rdLs bs (gdWait bs)) (setL 7 y42 (rdLs bs (gdMark bs)) (setL 6 y37 (rdLs bs (gdAccount bs)) (intsP bs [5] (textsP bs [4] (textsP bs [3] (flagP bs 2 (intsP bs [0, 1] (zv6, s)))))))))))))).1, rd2 p bv (setL 25 y72 (rdText bs 65535) (planPr bs 18 (planPr bs 11 (setL 10 y57 (rdLs bs (gdEnd bs)) (setL 9 y52 (rdLs bs (gdDeal bs)) (setL 8 y47 (rdLs bs (gdWait bs)) (setL 7 y42 (rdLs bs (gdMark bs)) (setL 6 y37 (rdLs bs (gdAccount bs)) (intsP bs [5] (textsP bs [4] (textsP bs [3] (flagP bs 2 (intsP bs [0, 1] (zv6, s)))))))))))))).2, fz X w]
    | [v0] => [bl b 55 (intsP bs [26, 27, 28] (setL 25 y72 (rdText bs 65535) (planPr bs 18 (planPr bs 11 (setL 10 y57 (rdLs bs (gdEnd bs)) (setL 9 y52 (rdLs bs (gdDeal bs)) (setL 8 y47 (rdLs bs (gdWait bs)) (setL 7 y42 (rdLs bs (gdMark bs)) (setL 6 y37 (rdLs bs (gdAccount bs)) (intsP bs [5] (textsP bs [4] (textsP bs [3] (flagP bs 2 (intsP bs [0, 1] (zv6, s))))))))))))))).1, rd2 p bv (intsP bs [26, 27, 28] (setL 25 y72 (rdText bs 65535) (planPr bs 18 (planPr bs 11 (setL 10 y57 (rdLs bs (gdEnd bs)) (setL 9 y52 (rdLs bs (gdDeal bs)) (setL 8 y47 (rdLs bs (gdWait bs)) (setL 7 y42 (rdLs bs (gdMark bs)) (setL 6 y37 (rdLs bs (gdAccount bs)) (intsP bs [5] (textsP bs [4] (textsP bs [3] (flagP bs 2 (intsP bs [0, 1] (zv6, s))))))))))))))).2, fz X w]
    | _ => [], [11]⟩ (fun i => ([some (pv), some (.pointer (some ⟨b, 0, none⟩)), some (.pointer (some ⟨b, 0, none⟩)), some (.pointer (some ⟨b, 26, none⟩)), some (.pointer (some ⟨b, 0, none⟩)), some (.pointer (some ⟨b, 0, none⟩)), some (.pointer (some ⟨b, 27, none⟩)), some (.pointer (some ⟨b, 0, none⟩)), some (.pointer (some ⟨b, 0, none⟩)), some (.pointer (some ⟨b, 28, none⟩)), none, none] : List (Option Value)).getD i none) mixed rfl rfl ?_ ?_
  ·
   refine ⟨fun V De _=>aP1 (mv G G<|oa G G G G),fun V De _=>aP2 (mv G G<|oa G G G G) (mv G G<|oa G G G G),fun V De _=>aP2 (nc G G<|oa G G G G) (nc G G<|oa G G G G),fun V De _=>aP2 (fa G fld_55_14 G<|oa G G G G) (fa G fld_55_14 G<|oa G G G G),fun V De _=>aP2 (mv G G<|oa G G G G) (mv G G<|oa G G G G),fun V De _=>aP2 (nc G G<|oa G G G G) (nc G G<|oa G G G G),fun V De _=>aP2 (fa G fld_55_15 G<|oa G G G G) (fa G fld_55_15 G<|oa G G G G),fun V De _=>aP2 (mv G G<|oa G G G G) (mv G G<|oa G G G G),?_⟩
   refine ⟨fun V De _=>aP2 (nc G G<|oa G G G G) (nc G G<|oa G G G G),fun V De _=>aP2 (fa G fld_55_16 G<|oa G G G G) (fa G fld_55_16 G<|oa G G G G),fun V De _=>aP1 (bs1 (xs := [.tmp 76, .tmp 79, .tmp 82]) (us := [.pointer (some ⟨b, 26, none⟩), .pointer (some ⟨b, 27, none⟩), .pointer (some ⟨b, 28, none⟩)]) (E := 243) (bytes := 8) (n := 3) G (by exact app_297) G G G G G G fun b83 => frS (ptrs b [26, 27, 28]) ([26, 27, 28].map fun o => [.pointer (some ⟨b, o, none⟩)]) G (fun S w h => ptrs_rd S w _) (Nat.le_of_ble_eq_true G)<|nl (od G G G trivial (Sc 0 G Sn) (SubD.tail Sr))),?_⟩
   refine ⟨fun V De _ => (show AllP _ [0] from ⟨?_, trivial⟩), ?_⟩
   ·
    refine cfP (L0 := [bl b 55 (setL 25 y72 (rdText bs 65535) (planPr bs 18 (planPr bs 11 (setL 10 y57 (rdLs bs (gdEnd bs)) (setL 9 y52 (rdLs bs (gdDeal bs)) (setL 8 y47 (rdLs bs (gdWait bs)) (setL 7 y42 (rdLs bs (gdMark bs)) (setL 6 y37 (rdLs bs (gdAccount bs)) (intsP bs [5] (textsP bs [4] (textsP bs [3] (flagP bs 2 (intsP bs [0, 1] (zv6, s)))))))))))))).1, rd2 p bv (setL 25 y72 (rdText bs 65535) (planPr bs 18 (planPr bs 11 (setL 10 y57 (rdLs bs (gdEnd bs)) (setL 9 y52 (rdLs bs (gdDeal bs)) (setL 8 y47 (rdLs bs (gdWait bs)) (setL 7 y42 (rdLs bs (gdMark bs)) (setL 6 y37 (rdLs bs (gdAccount bs)) (intsP bs [5] (textsP bs [4] (textsP bs [3] (flagP bs 2 (intsP bs [0, 1] (zv6, s)))))))))))))).2]) (Lr := [fz X w]) (int_q pv bv _ p bs b 55 (setL 25 y72 (rdText bs 65535) (planPr bs 18 (planPr bs 11 (setL 10 y57 (rdLs bs (gdEnd bs)) (setL 9 y52 (rdLs bs (gdDeal bs)) (setL 8 y47 (rdLs bs (gdWait bs)) (setL 7 y42 (rdLs bs (gdMark bs)) (setL 6 y37 (rdLs bs (gdAccount bs)) (intsP bs [5] (textsP bs [4] (textsP bs [3] (flagP bs 2 (intsP bs [0, 1] (zv6, s)))))))))))))) [26, 27, 28] (setL_pos (rdText_pos (planPr_pos (planPr_pos (setL_pos (rdLs_pos (fun _ hh => gdEnd_pos hh) (setL_pos (rdLs_pos (fun _ hh => gdDeal_pos hh) (setL_pos (rdLs_pos (fun _ hh => gdWait_pos hh) (setL_pos (rdLs_pos (fun _ hh => gdMark_pos hh) (setL_pos (rdLs_pos (fun _ hh => gdAccount_pos hh) (intsP_pos (textsP_pos (textsP_pos (flagP_pos (intsP_pos hp))))))))))))))))))) (by intro x hx; simp only [List.mem_cons, List.not_mem_nil, or_false] at hx; rcases hx with rfl | rfl | rfl <;> simp only [intsP, textsP, flagP, setL, planPr, List.set_cons_zero, List.set_cons_succ, Nat.reduceAdd, List.getElem?_cons_succ, List.getElem?_cons_zero]) (by decide)) ok_199 G G (Sc 8 G (Sc 9 G (Sc 0 G Sn))) G fun _ _ _ => ?_
    exact nl (od G G G trivial Sn (SubD.tail Sr))
   trivial
  ·
   intro V _
   exact wkQ (L := [bl b 55 (intsP bs [26, 27, 28] (setL 25 y72 (rdText bs 65535) (planPr bs 18 (planPr bs 11 (setL 10 y57 (rdLs bs (gdEnd bs)) (setL 9 y52 (rdLs bs (gdDeal bs)) (setL 8 y47 (rdLs bs (gdWait bs)) (setL 7 y42 (rdLs bs (gdMark bs)) (setL 6 y37 (rdLs bs (gdAccount bs)) (intsP bs [5] (textsP bs [4] (textsP bs [3] (flagP bs 2 (intsP bs [0, 1] (zv6, s))))))))))))))).1, rd2 p bv (intsP bs [26, 27, 28] (setL 25 y72 (rdText bs 65535) (planPr bs 18 (planPr bs 11 (setL 10 y57 (rdLs bs (gdEnd bs)) (setL 9 y52 (rdLs bs (gdDeal bs)) (setL 8 y47 (rdLs bs (gdWait bs)) (setL 7 y42 (rdLs bs (gdMark bs)) (setL 6 y37 (rdLs bs (gdAccount bs)) (intsP bs [5] (textsP bs [4] (textsP bs [3] (flagP bs 2 (intsP bs [0, 1] (zv6, s))))))))))))))).2, fz X w]) [] [_, _, _, _, _, _, _, _, _] trivial (Sc 1 G (Sc 2 G (Sc 3 G (Sc 4 G (Sc 5 G (Sc 6 G (Sc 7 G (Sc 8 G (Sc 9 G Sn)))))))))<|fR0N ⟨y37, y42, y47, y52, y57, y72⟩ G trivial (by simp only [gwState_eq, List.cons_append, List.nil_append]) (by rw [← gwState_l0 bs s y37 y42 y47 y52 y57 y72, ← gwState_l1 bs s y37 y42 y47 y52 y57 y72, ← gwState_l2 bs s y37 y42 y47 y52 y57 y72, ← gwState_l3 bs s y37 y42 y47 y52 y57 y72, ← gwState_l4 bs s y37 y42 y47 y52 y57 y72, ← gwState_l5 bs s y37 y42 y47 y52 y57 y72]; exact (SubD.cons 6 rfl (SubD.cons 5 rfl (SubD.cons 4 rfl (SubD.cons 3 rfl (SubD.cons 2 rfl (SubD.cons 0 rfl SubD.nil)))))))
end Go.Proofs.YtmpoffijcfaalaaGreat.Ref

/- Walks of the walk over fields, reading: written by specs5.py. -/

namespace Go.Proofs.YtmpoffijcfaalaaGreat.Ref
open Go.Eng Go.YtmpoffijcfaalaaGreat

attribute [local irreducible] gdState rdInt rdText rdFlag rdCount endE errO stO

theorem in_c (sv : Value) (bs : List UInt8) : Fnc Tryz.prog 148 [sv] [] [⟨sv, bs⟩] (fun (y : Nat × Nat × Value) v => v = .tuple #[.pointer (some ⟨y.1, 0, none⟩), .int .i64 (if 65536 < bs.length then 22 else 0)]) (fun y _ => [bl y.1 207 [.slice none 0 0, .pointer (some ⟨y.2.1, 0, none⟩), .bool false], rd2 y.2.1 y.2.2 ⟨0, 0⟩]) (fun y _ => [⟨y.2.2, if 65536 < bs.length then [] else bs⟩]) := by
 refine Fnc.proof Tryz.func148 G 14 G G fun X w => sq<|rg<|asg G G<|asg G G<|nl<|nx<|sq<|sq<|rg<|mv G G<|lnP 0 G G Tryz.underlying35 G fun l5 => gtI G G G<|nl ?_
 refine nx<|cdP G (fun h6 => ?_) (fun h6 => ?_)
 ·
  have hl : 65536 < bs.length := by omega
  simp only [if_pos hl]
  refine emC (α := UInt8)<|sq<|rg<|cf (new_c (.slice none 0 0) [] (by decide)) ok_198 G (Sc 0 G Sn) G fun y7 v7 h7 => ?_
  obtain ⟨p, bv⟩ := y7
  have h7 : v7 = .pointer (some ⟨p, 0, none⟩) := h7
  subst h7
  exact bd (ps := [(1, .tmp 7)]) (cs := [.slice none 0 0, .pointer (some ⟨p, 0, none⟩), .bool false]) (by rfl) (by kernel_rfl) G<|bx G G G fun b9 => asg G G<|asg G G<|nl<|nx<|rt<|tR<|fR2 (b9, p, bv) G G G G G (Sc 0 G Sn)
 ·
  have hl : ¬ 65536 < bs.length := by omega
  simp only [if_neg hl]
  refine sk<|nx<|sq<|rg<|mv G G<|cf (new_c sv bs (by omega)) ok_198 G (Sc 0 G Sn) G fun y11 v11 h11 => ?_
  obtain ⟨p, bv⟩ := y11
  have h11 : v11 = .pointer (some ⟨p, 0, none⟩) := h11
  subst h11
  exact bd (ps := [(1, .tmp 11)]) (cs := [.slice none 0 0, .pointer (some ⟨p, 0, none⟩), .bool false]) (by rfl) (by kernel_rfl) G<|bx G G G fun b13 => asg G G<|asg G G<|nl<|nx<|rt<|fR2 (b13, p, bv) G G G G G (Sc 0 G Sn)

theorem readState_c (sv : Value) (bs : List UInt8) : Fnc Tryz.prog 74 [sv] [] [⟨sv, bs⟩] (fun (y : Value × Value × Value × Value × Value × Value) r => r = .tuple #[.agg (cState (rdState bs).1 y.1 y.2.1 y.2.2.1 y.2.2.2.1 y.2.2.2.2.1 y.2.2.2.2.2).toArray, .int .i64 (rdState bs).2]) (fun _ _ => []) (fun y _ => [⟨y.1, (rdState bs).1.fAccounts⟩, ⟨y.2.1, (rdState bs).1.fMarks⟩, ⟨y.2.2.1, (rdState bs).1.fWaits⟩, ⟨y.2.2.2.1, (rdState bs).1.fDeals⟩, ⟨y.2.2.2.2.1, (rdState bs).1.fEnds⟩, ⟨y.2.2.2.2.2, (rdState bs).1.fImage⟩]) := by
 refine Fnc.proof Tryz.func74 G 28 G G fun X w => sq<|rg<|al zero_55 G fun b2 => asg G G<|nl<|nx<|sq<|rg<|mv G G<|cf (in_c sv bs) ok_148 G (Sc 0 G Sn) G fun y9 v9 h9 => ?_
 obtain ⟨pw, p, bv⟩ := y9
 have h9 : v9 = .tuple #[.pointer (some ⟨pw, 0, none⟩), .int .i64 (if 65536 < bs.length then 22 else 0)] := h9
 subst h9
 refine mv G G<|xt G G G<|xt G G G<|asg G G<|asg G G<|nl<|nx<|sq<|sq<|rg<|mv G G<|neI G G G<|nl<|nx ?_
 refine cdN G (fun h13 => ?_) (fun h13 => ?_)
 ·
  have hl : 65536 < bs.length := by
   by_cases h : 65536 < bs.length
   ·
    exact h
   ·
    rw [if_neg h] at h13
    exact absurd G h13
  simp only [if_pos hl]
  rw [rdState_bad (by rw [errO_long hl]; decide), errO_long hl]
  refine emC (α := TAccount)<|emC (α := TMark)<|emC (α := TWait)<|emC (α := TDeal)<|emC (α := TEnd)<|emC (α := UInt8)<|sq<|rg<|bd (ps := []) (cs := (cState ((⟨0, 0, false, ByteArray.empty, ByteArray.empty, 0, [], [], [], [], [], (⟨0, 0, 0, ByteArray.empty, ByteArray.empty, 0, 0⟩ : TPlan), (⟨0, 0, 0, ByteArray.empty, ByteArray.empty, 0, 0⟩ : TPlan), [], 0, 0, 0⟩ : TState)) (.slice none 0 0) (.slice none 0 0) (.slice none 0 0) (.slice none 0 0) (.slice none 0 0) (.slice none 0 0))) (by rfl) (by kernel_rfl) G<|mv G G<|stW 2 (us := (cState ((⟨0, 0, false, ByteArray.empty, ByteArray.empty, 0, [], [], [], [], [], (⟨0, 0, 0, ByteArray.empty, ByteArray.empty, 0, 0⟩ : TPlan), (⟨0, 0, 0, ByteArray.empty, ByteArray.empty, 0, 0⟩ : TPlan), [], 0, 0, 0⟩ : TState)) (.slice none 0 0) (.slice none 0 0) (.slice none 0 0) (.slice none 0 0) (.slice none 0 0) (.slice none 0 0))) G G G row_55 G G<|asg G G<|nl<|nx ?_
  exact rt<|tR<|fRG ((.slice none 0 0), (.slice none 0 0), (.slice none 0 0), (.slice none 0 0), (.slice none 0 0), (.slice none 0 0)) [_, _, _] (rCT 2 G G G G row_55) (by rfl) G (Sc 5 G (Sc 4 G (Sc 3 G (Sc 2 G (Sc 1 G (Sc 0 G Sn))))))
 ·
  have hl : ¬ 65536 < bs.length := by
   intro h
   rw [if_pos h] at h13
   exact absurd h13 (by decide)
  simp only [if_neg hl]
  refine sk<|nx<|sq<|rg<|al zero_55 G fun b6 => nl<|nx<|sq<|rg<|mv G G<|mtL 1 G<|frP (α := TWalk) ⟨p⟩ (fun S w h => ⟨(), G, by simp, trivial⟩)<|cfP (L0 := [bl b6 55 zv6, rd2 p bv ⟨0, 0⟩]) (Lr := [bl b2 55 zv6, fz X w]) (State_e (.pointer (some ⟨pw, 0, none⟩)) bv p bs ⟨0, 0⟩ b6 (Nat.zero_le _)) ok_149 G G (Sc 0 G (Sc 1 G Sn)) G fun y _ _ => ?_
  obtain ⟨y0, y1, y2, y3, y4, y5⟩ := y
  refine nl<|nx<|sq<|rg<|mv G G<|ncP 6 G G G<|faP (α := TWalk) (β := RawP) 6 (fun x : TWalk => x.fR) G G fld_207_1 pWalk_1 G fun v20 => ldV 0 G G one_205 G fun w21 => ?_
  refine cf1 1 (end_c p bv bs (gdState bs ⟨0, 0⟩).2) ok_150 G G (Sc 8 G Sn) G fun _ v22 h22 => ?_
  have h22 : v22 = .int .i64 (endE bs (gdState bs ⟨0, 0⟩).2) := h22
  subst h22
  refine asg G G<|nl<|nx<|sq<|sq<|rg<|mv G G<|neI G G G<|nl<|nx<|cdN G (fun h24 => ?_) (fun h24 => ?_)
  ·
   rw [rdState_bad (by rw [errO_read hl]; exact h24), errO_read hl]
   refine emC (α := TAccount)<|emC (α := TMark)<|emC (α := TWait)<|emC (α := TDeal)<|emC (α := TEnd)<|emC (α := UInt8)<|sq<|rg<|bd (ps := []) (cs := (cState ((⟨0, 0, false, ByteArray.empty, ByteArray.empty, 0, [], [], [], [], [], (⟨0, 0, 0, ByteArray.empty, ByteArray.empty, 0, 0⟩ : TPlan), (⟨0, 0, 0, ByteArray.empty, ByteArray.empty, 0, 0⟩ : TPlan), [], 0, 0, 0⟩ : TState)) (.slice none 0 0) (.slice none 0 0) (.slice none 0 0) (.slice none 0 0) (.slice none 0 0) (.slice none 0 0))) (by rfl) (by kernel_rfl) G<|mv G G<|stW 2 (us := (cState ((⟨0, 0, false, ByteArray.empty, ByteArray.empty, 0, [], [], [], [], [], (⟨0, 0, 0, ByteArray.empty, ByteArray.empty, 0, 0⟩ : TPlan), (⟨0, 0, 0, ByteArray.empty, ByteArray.empty, 0, 0⟩ : TPlan), [], 0, 0, 0⟩ : TState)) (.slice none 0 0) (.slice none 0 0) (.slice none 0 0) (.slice none 0 0) (.slice none 0 0) (.slice none 0 0))) G G G row_55 G G<|asg G G<|nl<|nx ?_
   exact rt<|tR<|fRG ((.slice none 0 0), (.slice none 0 0), (.slice none 0 0), (.slice none 0 0), (.slice none 0 0), (.slice none 0 0)) [_, _, _] (rCT 2 G G G G row_55) (by rfl) G (Sc 5 G (Sc 4 G (Sc 3 G (Sc 2 G (Sc 1 G (Sc 0 G Sn))))))
  ·
   rw [rdState_ok (by rw [errO_read hl]; first | exact h24 | exact not_not.1 h24), stO_read hl]
   refine sk<|nx<|sq<|rg<|ldM 0 (cState ((gdState bs ⟨0, 0⟩).1) y0 y1 y2 y3 y4 y5) G G row_55 G G<|gtL (q := y0.oneCell' = true) (fun S w h => oneCell_of_list (h _ (List.mem_of_getElem? (i := 1) G))) fun o_y0 => gtL (q := y1.oneCell' = true) (fun S w h => oneCell_of_list (h _ (List.mem_of_getElem? (i := 2) G))) fun o_y1 => gtL (q := y2.oneCell' = true) (fun S w h => oneCell_of_list (h _ (List.mem_of_getElem? (i := 3) G))) fun o_y2 => gtL (q := y3.oneCell' = true) (fun S w h => oneCell_of_list (h _ (List.mem_of_getElem? (i := 4) G))) fun o_y3 => gtL (q := y4.oneCell' = true) (fun S w h => oneCell_of_list (h _ (List.mem_of_getElem? (i := 5) G))) fun o_y4 => gtL (q := y5.oneCell' = true) (fun S w h => oneCell_of_list (h _ (List.mem_of_getElem? (i := 6) G))) fun o_y5 => stW 2 (us := (cState ((gdState bs ⟨0, 0⟩).1) y0 y1 y2 y3 y4 y5)) G G G row_55 (by simp only [List.all_cons, List.all_nil, Bool.and_true, o_y0, o_y1, o_y2, o_y3, o_y4, o_y5]; rfl) G<|asg G G<|nl ?_
   exact nx<|rt<|fRG (y0, y1, y2, y3, y4, y5) [_, _, _] (rCT 2 G G G G row_55) (by rfl) G (Sc 1 G (Sc 2 G (Sc 3 G (Sc 4 G (Sc 5 G (Sc 6 G Sn))))))

theorem image19_c (sv : Value) (bs : List UInt8) : Fnc Tryz.prog 140 [sv] [] [⟨sv, bs⟩] (fun (y : Value × Value × Value × Value × Value × Value) r => r = .tuple #[.agg (cState (rdState bs).1 y.1 y.2.1 y.2.2.1 y.2.2.2.1 y.2.2.2.2.1 y.2.2.2.2.2).toArray, .bool (decide ((rdState bs).2 = 0))]) (fun _ _ => []) (fun y _ => [⟨y.1, (rdState bs).1.fAccounts⟩, ⟨y.2.1, (rdState bs).1.fMarks⟩, ⟨y.2.2.1, (rdState bs).1.fWaits⟩, ⟨y.2.2.2.1, (rdState bs).1.fDeals⟩, ⟨y.2.2.2.2.1, (rdState bs).1.fEnds⟩, ⟨y.2.2.2.2.2, (rdState bs).1.fImage⟩]) := by
 refine Fnc.proof Tryz.func140 G 14 G G fun X w => sq<|rg<|al zero_55 G fun b2 => asg G G<|nl<|nx<|sq<|rg<|mv G G<|cf (readState_c sv bs) ok_74 G (Sc 0 G Sn) G fun y8 v8 h8 => ?_
 obtain ⟨y0, y1, y2, y3, y4, y5⟩ := y8
 have h8 : v8 = .tuple #[.agg (cState (rdState bs).1 y0 y1 y2 y3 y4 y5).toArray, .int .i64 (rdState bs).2] := h8
 subst h8
 refine mv G G<|xt G G G<|xt G G G<|al zero_55 G fun b4 => gtL (q := y0.oneCell' = true) (fun S w h => oneCell_of_list (h _ (List.mem_of_getElem? (i := 0) G))) fun o_y0 => gtL (q := y1.oneCell' = true) (fun S w h => oneCell_of_list (h _ (List.mem_of_getElem? (i := 1) G))) fun o_y1 => gtL (q := y2.oneCell' = true) (fun S w h => oneCell_of_list (h _ (List.mem_of_getElem? (i := 2) G))) fun o_y2 => gtL (q := y3.oneCell' = true) (fun S w h => oneCell_of_list (h _ (List.mem_of_getElem? (i := 3) G))) fun o_y3 => gtL (q := y4.oneCell' = true) (fun S w h => oneCell_of_list (h _ (List.mem_of_getElem? (i := 4) G))) fun o_y4 => gtL (q := y5.oneCell' = true) (fun S w h => oneCell_of_list (h _ (List.mem_of_getElem? (i := 5) G))) fun o_y5 => stW 0 (us := (cState ((rdState bs).1) y0 y1 y2 y3 y4 y5)) G G G row_55 (by simp only [List.all_cons, List.all_nil, Bool.and_true, o_y0, o_y1, o_y2, o_y3, o_y4, o_y5]; rfl) G<|asg G G<|nl<|nx ?_
 refine sq<|rg<|ldM 0 (cState ((rdState bs).1) y0 y1 y2 y3 y4 y5) G G row_55 G G<|mv G G<|eqI G G G<|gtL (q := y0.oneCell' = true) (fun S w h => oneCell_of_list (h _ (List.mem_of_getElem? (i := 0) G))) fun o_y0 => gtL (q := y1.oneCell' = true) (fun S w h => oneCell_of_list (h _ (List.mem_of_getElem? (i := 1) G))) fun o_y1 => gtL (q := y2.oneCell' = true) (fun S w h => oneCell_of_list (h _ (List.mem_of_getElem? (i := 2) G))) fun o_y2 => gtL (q := y3.oneCell' = true) (fun S w h => oneCell_of_list (h _ (List.mem_of_getElem? (i := 3) G))) fun o_y3 => gtL (q := y4.oneCell' = true) (fun S w h => oneCell_of_list (h _ (List.mem_of_getElem? (i := 4) G))) fun o_y4 => gtL (q := y5.oneCell' = true) (fun S w h => oneCell_of_list (h _ (List.mem_of_getElem? (i := 5) G))) fun o_y5 => stW 1 (us := (cState ((rdState bs).1) y0 y1 y2 y3 y4 y5)) G G G row_55 (by simp only [List.all_cons, List.all_nil, Bool.and_true, o_y0, o_y1, o_y2, o_y3, o_y4, o_y5]; rfl) G<|asg G G<|nl ?_
 exact nx<|rt<|fRG (y0, y1, y2, y3, y4, y5) [_, _] (rCT 1 G G G G row_55) (by rfl) G (Sc 0 G (Sc 1 G (Sc 2 G (Sc 3 G (Sc 4 G (Sc 5 G Sn))))))
end Go.Proofs.YtmpoffijcfaalaaGreat.Ref

/- Images read. -/

namespace Go.Proofs.YtmpoffijcfaalaaGreat
open Go.Eng Go.YtmpoffijcfaalaaGreat
set_option maxHeartbeats 1000000

theorem rs_c (v_b : Value) (b : List UInt8) : Fnc Tryz.prog 159 [v_b] [] [⟨v_b, b⟩] (fun (y : Value × Value × Value × Value × Value × Value) r => r = .tuple #[.agg (cState (rdState b).1 y.1 y.2.1 y.2.2.1 y.2.2.2.1 y.2.2.2.2.1 y.2.2.2.2.2).toArray, .int .i64 (rdState b).2]) (fun _ _ => []) (fun y _ => [⟨y.1, (rdState b).1.fAccounts⟩, ⟨y.2.1, (rdState b).1.fMarks⟩, ⟨y.2.2.1, (rdState b).1.fWaits⟩, ⟨y.2.2.2.1, (rdState b).1.fDeals⟩, ⟨y.2.2.2.2.1, (rdState b).1.fEnds⟩, ⟨y.2.2.2.2.2, (rdState b).1.fImage⟩]) := Pen.readState_c v_b b

theorem image19_c (v_b : Value) (b : List UInt8) : Fnc Tryz.prog 140 [v_b] [] [⟨v_b, b⟩] (fun (y : Value × Value × Value × Value × Value × Value) r => r = .tuple #[.agg (cState (rdState b).1 y.1 y.2.1 y.2.2.1 y.2.2.2.1 y.2.2.2.2.1 y.2.2.2.2.2).toArray, .bool (decide ((rdState b).2 = 0))]) (fun _ _ => []) (fun y _ => [⟨y.1, (rdState b).1.fAccounts⟩, ⟨y.2.1, (rdState b).1.fMarks⟩, ⟨y.2.2.1, (rdState b).1.fWaits⟩, ⟨y.2.2.2.1, (rdState b).1.fDeals⟩, ⟨y.2.2.2.2.1, (rdState b).1.fEnds⟩, ⟨y.2.2.2.2.2, (rdState b).1.fImage⟩]) := Ref.image19_c v_b b
end Go.Proofs.YtmpoffijcfaalaaGreat

/- Closed facts on the program, written by specs2.py. -/

namespace Go.Proofs.YtmpoffijcfaalaaGreat
open Go.Eng

theorem fld_32_0 : FieldAt Tryz.prog 32 0 0 := FieldAt.mk Tryz.underlying32 rfl (by kernel_rfl) rfl
theorem fld_32_1 : FieldAt Tryz.prog 32 1 1 := FieldAt.mk Tryz.underlying32 rfl (by kernel_rfl) rfl
theorem fld_32_2 : FieldAt Tryz.prog 32 2 2 := FieldAt.mk Tryz.underlying32 rfl (by kernel_rfl) rfl
theorem fld_32_3 : FieldAt Tryz.prog 32 3 14 := FieldAt.mk Tryz.underlying32 rfl (by kernel_rfl) rfl
theorem fld_32_4 : FieldAt Tryz.prog 32 4 15 := FieldAt.mk Tryz.underlying32 rfl (by kernel_rfl) rfl
theorem fld_55_0 : FieldAt Tryz.prog 55 0 0 := FieldAt.mk Tryz.underlying55 rfl (by kernel_rfl) rfl
theorem fld_55_1 : FieldAt Tryz.prog 55 1 1 := FieldAt.mk Tryz.underlying55 rfl (by kernel_rfl) rfl
theorem fld_55_10 : FieldAt Tryz.prog 55 10 10 := FieldAt.mk Tryz.underlying55 rfl (by kernel_rfl) rfl
theorem fld_55_12 : FieldAt Tryz.prog 55 12 18 := FieldAt.mk Tryz.underlying55 rfl (by kernel_rfl) rfl
theorem fld_55_13 : FieldAt Tryz.prog 55 13 25 := FieldAt.mk Tryz.underlying55 rfl (by kernel_rfl) rfl
theorem fld_55_14 : FieldAt Tryz.prog 55 14 26 := FieldAt.mk Tryz.underlying55 rfl (by kernel_rfl) rfl
theorem fld_55_15 : FieldAt Tryz.prog 55 15 27 := FieldAt.mk Tryz.underlying55 rfl (by kernel_rfl) rfl
theorem fld_55_16 : FieldAt Tryz.prog 55 16 28 := FieldAt.mk Tryz.underlying55 rfl (by kernel_rfl) rfl
theorem fld_55_7 : FieldAt Tryz.prog 55 7 7 := FieldAt.mk Tryz.underlying55 rfl (by kernel_rfl) rfl
theorem fld_55_9 : FieldAt Tryz.prog 55 9 9 := FieldAt.mk Tryz.underlying55 rfl (by kernel_rfl) rfl
theorem ok_122 : FnOk Tryz.prog 122 := ⟨⟨_, Tryz.func122, by kernel_rfl, rfl⟩⟩
theorem ok_159 : FnOk Tryz.prog 159 := ⟨⟨_, Tryz.func159, by kernel_rfl, rfl⟩⟩
theorem ok_179 : FnOk Tryz.prog 179 := ⟨⟨_, Tryz.func179, by kernel_rfl, rfl⟩⟩
theorem ok_180 : FnOk Tryz.prog 180 := ⟨⟨_, Tryz.func180, by kernel_rfl, rfl⟩⟩
theorem ok_181 : FnOk Tryz.prog 181 := ⟨⟨_, Tryz.func181, by kernel_rfl, rfl⟩⟩
theorem ok_183 : FnOk Tryz.prog 183 := ⟨⟨_, Tryz.func183, by kernel_rfl, rfl⟩⟩
theorem ok_184 : FnOk Tryz.prog 184 := ⟨⟨_, Tryz.func184, by kernel_rfl, rfl⟩⟩
theorem ok_185 : FnOk Tryz.prog 185 := ⟨⟨_, Tryz.func185, by kernel_rfl, rfl⟩⟩
theorem ok_186 : FnOk Tryz.prog 186 := ⟨⟨_, Tryz.func186, by kernel_rfl, rfl⟩⟩
theorem ok_57 : FnOk Tryz.prog 57 := ⟨⟨_, Tryz.func57, by kernel_rfl, rfl⟩⟩
theorem ok_58 : FnOk Tryz.prog 58 := ⟨⟨_, Tryz.func58, by kernel_rfl, rfl⟩⟩
theorem ok_59 : FnOk Tryz.prog 59 := ⟨⟨_, Tryz.func59, by kernel_rfl, rfl⟩⟩
theorem one_28 : OneTy Tryz.prog 28 := ⟨⟨_, Tryz.underlying28, rfl⟩, by kernel_rfl⟩
theorem one_29 : OneTy Tryz.prog 29 := ⟨⟨_, Tryz.underlying29, rfl⟩, by kernel_rfl⟩
theorem one_35 : OneTy Tryz.prog 35 := ⟨⟨_, Tryz.underlying35, rfl⟩, by kernel_rfl⟩
theorem one_52 : OneTy Tryz.prog 52 := ⟨⟨_, Tryz.underlying52, rfl⟩, by kernel_rfl⟩
theorem one_53 : OneTy Tryz.prog 53 := ⟨⟨_, Tryz.underlying53, rfl⟩, by kernel_rfl⟩
theorem row_108 : RowTy Tryz.prog 108 11 := ⟨⟨_, Tryz.underlying108, rfl⟩, by kernel_rfl⟩
theorem slt_28 : SliceTy Tryz.prog 28 55 29 := ⟨Tryz.underlying28, by kernel_rfl⟩
theorem slt_51 : SliceTy Tryz.prog 51 108 11 := ⟨Tryz.underlying51, by kernel_rfl⟩
theorem zero_108 : ZeroOf Tryz.prog 108 [.int .i64 0, .int .i64 0, .int .i64 0, .int .i64 0, .int .i64 0, .int .i64 0, .string ByteArray.empty, .string ByteArray.empty, .int .i64 0, .int .i64 0, .int .i64 0] := ZeroOf.mk (by kernel_rfl)
theorem zero_55 : ZeroOf Tryz.prog 55 [.int .i64 0, .int .i64 0, .bool false, .string ByteArray.empty, .string ByteArray.empty, .int .i64 0, .slice none 0 0, .slice none 0 0, .slice none 0 0, .slice none 0 0, .slice none 0 0, .int .i64 0, .int .i64 0, .int .i64 0, .string ByteArray.empty, .string ByteArray.empty, .int .i64 0, .int .i64 0, .int .i64 0, .int .i64 0, .int .i64 0, .string ByteArray.empty, .string ByteArray.empty, .int .i64 0, .int .i64 0, .slice none 0 0, .int .i64 0, .int .i64 0, .int .i64 0] := ZeroOf.mk (by kernel_rfl)
end Go.Proofs.YtmpoffijcfaalaaGreat

/- Walks, written by specs2.py. -/

namespace Go.Proofs.YtmpoffijcfaalaaGreat
open Go.Eng Go.YtmpoffijcfaalaaGreat
set_option maxHeartbeats 1000000

theorem sright_c (s : TState) (s_0 s_1 s_2 s_3 s_4 s_5 : Value) (h_s : s.wf) : FnV Tryz.prog 122 [.agg (cState s s_0 s_1 s_2 s_3 s_4 s_5).toArray] [⟨s_0, s.fAccounts⟩, ⟨s_1, s.fMarks⟩, ⟨s_2, s.fWaits⟩, ⟨s_3, s.fDeals⟩, ⟨s_4, s.fEnds⟩, ⟨s_5, s.fImage⟩] (.bool (srightP s)) := by
 refine Fnc.proof Tryz.func122 G 133 G G fun X w => sq<|rg<|bx G G G fun b1 => asg G G<|nl<|nx<|sq<|sq<|rg<|fa G fld_55_0 G<|ldB 0 G G one_3 G G<|cfv (sgroup_c _ h_s.1) ok_169 G Sn G<|nt G G ?_
 refine mv G G ?_
 apply jo [(1, _)] ⟨rfl, trivial⟩
 ·
  intro K25
  refine spO (i := 11) G (fun h11 => ?_) (fun h11 => ?_)
  ·
   refine gY G G G<|fa G fld_55_1 G<|gY G G G<|ldB 0 G G one_3 G G<|gY G G G<|fa G fld_55_5 G<|gY G G G<|ldB 0 G G one_3 G G<|gY G G G<|fa G fld_55_14 G<|gY G G G<|ldB 0 G G one_3 G G<|gY G G G<|fa G fld_55_15 G ?_
   refine gY G G G<|ldB 0 G G one_3 G G<|gY G G G<|fa G fld_55_16 G<|gY G G G<|ldB 0 G G one_3 G G<|gY G G G<|bs1 (xs := [.tmp 13, .tmp 15, .tmp 17, .tmp 19, .tmp 21]) (us := [.int .i64 s.fIndex, .int .i64 s.fEpoch, .int .i64 s.fAbsorbed, .int .i64 s.fRefused, .int .i64 s.fUndone]) (E := 3) (bytes := 8) (n := 5) G (by exact app_220) G G G G G G fun b22 => frS (α := Int) [s.fIndex, s.fEpoch, s.fAbsorbed, s.fRefused, s.fUndone] [[.int .i64 s.fIndex], [.int .i64 s.fEpoch], [.int .i64 s.fAbsorbed], [.int .i64 s.fRefused], [.int .i64 s.fUndone]] G (fun S w h => ⟨⟨G, h_s.2.1⟩, ⟨G, h_s.2.2.2.2.2.1⟩, ⟨G, h_s.2.2.2.2.2.2.2.2.2.2.2.2.2.2.1⟩, ⟨G, h_s.2.2.2.2.2.2.2.2.2.2.2.2.2.2.2.1⟩, ⟨G, h_s.2.2.2.2.2.2.2.2.2.2.2.2.2.2.2.2⟩, trivial⟩) (Nat.le_of_ble_eq_true G)<|gY G G G<|cfv (counts_c _ _) ok_179 G (Sc 0 G Sn) G<|gY G G G<|nt G G<|pkF G G G ?_
   exact jR K25 h11 ⟨G, trivial⟩ (SubD.tail Sr)
  ·
   exact gS (g := [_, _, _, _, _, _, _, _, _, _, _, _, _]) G<|pkT G G G<|jR0 K25 h11 ⟨G, trivial⟩ Sr
 refine mv G G ?_
 apply jo [(1, _)] ⟨rfl, trivial⟩
 ·
  intro K30
  refine spO (i := 26) G (fun h26 => ?_) (fun h26 => ?_)
  ·
   exact gY G G G<|ldM 0 (cState s s_0 s_1 s_2 s_3 s_4 s_5) G G row_55 G G<|gY G G G<|cfv (owned_c _ _ _ _ _ _ _ h_s) ok_180 G (Sc 0 G (Sc 1 G (Sc 2 G (Sc 3 G (Sc 4 G (Sc 5 G Sn)))))) G<|gY G G G<|nt G G<|pkF G G G<|jR K30 h26 ⟨G, trivial⟩ Sr
  ·
   exact gS (g := [_, _, _]) G<|pkT G G G<|jR0 K30 h26 ⟨G, trivial⟩ Sr
 refine mv G G ?_
 apply jo [(1, _)] ⟨rfl, trivial⟩
 ·
  intro K35
  refine spO (i := 31) G (fun h31 => ?_) (fun h31 => ?_)
  ·
   exact gY G G G<|ldM 0 (cState s s_0 s_1 s_2 s_3 s_4 s_5) G G row_55 G G<|gY G G G<|cfv (saccs_c _ _ _ _ _ _ _ h_s) ok_181 G (Sc 0 G (Sc 1 G (Sc 2 G (Sc 3 G (Sc 4 G (Sc 5 G Sn)))))) G<|gY G G G<|nt G G<|pkF G G G<|jR K35 h31 ⟨G, trivial⟩ Sr
  ·
   exact gS (g := [_, _, _]) G<|pkT G G G<|jR0 K35 h31 ⟨G, trivial⟩ Sr
 refine nl<|nx<|cdB G (fun h35 => ?_) (fun h35 => ?_)
 ·
  have e35 : (sright1 s) = true := h35
  refine sq<|rg<|asg G G<|nl<|nx<|rt<|tR<|dpQ ?_
  exact fR1 () G G (by rw [srightP, if_pos e35]) G Sn
 ·
  have e35 : (sright1 s) = false := h35
  refine sk<|nx<|sq<|sq<|rg<|fa G fld_55_7 G<|ldB 0 G G one_25 G G<|cfv (scheck_c _ _) ok_182 G (Sc 1 G Sn) G<|neI G G G<|mv G G ?_
  apply jo [(1, _)] ⟨rfl, trivial⟩
  ·
   intro K45
   refine spO (i := 40) G (fun h40 => ?_) (fun h40 => ?_)
   ·
    have p40 := h40
    simp only [Bool.not_eq_false', decide_eq_true_eq] at p40
    exact gY G G G<|fa G fld_55_9 G<|gY G G G<|ldB 0 G G one_52 G G<|gY G G G<|cfv (deals_c _ _) ok_183 G (Sc 3 G Sn) G<|gY G G G<|neI G G G<|pkF G G G<|jR K45 h40 ⟨G, trivial⟩ Sr
   ·
    exact gS (g := [_, _, _, _]) G<|pkT G G G<|jR0 K45 h40 ⟨G, trivial⟩ Sr
  refine mv G G ?_
  apply jo [(1, _)] ⟨rfl, trivial⟩
  ·
   intro K51
   refine spO (i := 46) G (fun h46 => ?_) (fun h46 => ?_)
   ·
    exact gY G G G<|fa G fld_55_10 G<|gY G G G<|ldB 0 G G one_53 G G<|gY G G G<|cfv (dends_c _ _) ok_184 G (Sc 4 G Sn) G<|gY G G G<|neI G G G<|pkF G G G<|jR K51 h46 ⟨G, trivial⟩ Sr
   ·
    exact gS (g := [_, _, _, _]) G<|pkT G G G<|jR0 K51 h46 ⟨G, trivial⟩ Sr
  refine mv G G ?_
  apply jo [(1, _)] ⟨rfl, trivial⟩
  ·
   intro K57
   refine spO (i := 52) G (fun h52 => ?_) (fun h52 => ?_)
   ·
    exact gY G G G<|fa G fld_55_8 G<|gY G G G<|ldB 0 G G one_51 G G<|gY G G G<|lnP 2 G G Tryz.underlying51 G fun l55 => gY G G G<|gtI G G G<|pkF G G G<|jR K57 h52 ⟨G, trivial⟩ Sr
   ·
    exact gS (g := [_, _, _, _]) G<|pkT G G G<|jR0 K57 h52 ⟨G, trivial⟩ Sr
  refine nl<|nx<|cdB G (fun h57 => ?_) (fun h57 => ?_)
  ·
   have e57 : (sright2 s) = true := h57
   refine sq<|rg<|asg G G<|nl<|nx<|rt<|tR<|dpQ ?_
   exact fR1 () G G (by rw [srightP, if_neg (by rw [e35]; decide), if_pos e57]) G Sn
  ·
   have e57 : (sright2 s) = false := h57
   refine sk<|nx<|sq<|sq<|rg<|fa G fld_55_8 G<|ldB 0 G G one_51 G G<|lnP 2 G G Tryz.underlying51 G fun l60 => mv G G<|nl<|nx<|bk<|lpC (σ := Nat) [(1, _), (59, _), (60, _)] _ (fun i C => (61, .int .i64 (i : Int)) :: C) (fun i => i ≤ s.fWaits.length ∧ (∀ j, j < i → waitP s (s.fWaits.getD j default) = true)) (fun i => s.fWaits.length - i) 0 ⟨G, G, G, trivial⟩ (Sc 0 G (Sc 1 G (Sc 2 G (Sc 3 G (Sc 4 G (Sc 5 G Sn)))))) ⟨Nat.zero_le _, fun j hj => absurd hj (Nat.not_lt_zero j)⟩ ⟨G, G, G, G, trivial⟩ ?_
   rintro i ⟨hi, hall⟩
   refine sq<|rg<|ltI G G G<|nl<|nx<|sq<|cdP G (fun h62 => ?_) (fun h62 => ?_)
   ·
    refine sk<|nx<|sq<|bk<|sq<|rg<|ixP 2 G G G slt_51 (by omega) (getDE (d := default) (by omega)) G fun v63 => ldS 0 G G row_108 G fun q64 w64 => ?_
    refine al zero_108 G fun b4 => stW 0 (us := (cWait ((s.fWaits.getD i default)))) G G G row_108 G G<|nl<|nx<|sq<|rg<|ldM 1 (cState s s_0 s_1 s_2 s_3 s_4 s_5) G G row_55 G G<|ldM 0 (cWait ((s.fWaits.getD i default))) G G row_108 G G<|cfv (waiting_c _ _ _ _ _ _ _ _ h_s w64) ok_185 G (Sc 2 G (Sc 3 G (Sc 4 G (Sc 5 G (Sc 6 G (Sc 7 G Sn)))))) G<|nt G G<|nl<|nx<|cdB G (fun h68 => ?_) (fun h68 => ?_)
    ·
     refine sq<|rg<|asg G G<|nl<|nx<|rt<|bR<|tR<|tR<|bR<|tR<|dpQ<|dpQ ?_
     exact fR1 () G G (by rw [srightP, if_neg (by rw [e35]; decide), if_neg (by rw [e57]; decide), if_neg (by rw [srightW, allI_false i (by omega) (by simpa using h68)]; decide)]) G Sn
    ·
     refine sk<|bN<|nx<|rg<|adI G G (inI (by omega) (by omega)) G<|mv G G<|nl<|dpQ ?_
     exact ag (i + 1) ⟨(by omega), (all_snoc hall (by simpa using h68))⟩ (by omega) ⟨G, G, G, G, trivial⟩ G (Sc 2 G (Sc 3 G (Sc 4 G (Sc 5 G (Sc 6 G (Sc 7 G Sn))))))
   ·
    have eW : srightW s = true := allI_true (fun j hj => hall j (by omega))
    refine ex<|tE<|tE<|bE<|nx<|sq<|sq<|rg<|fa G fld_55_11 G<|ldM 0 (cPlan s.fSeal) G G row_24 G G<|bd (ps := []) (cs := (cPlan ((⟨0, 0, 0, ByteArray.empty, ByteArray.empty, 0, 0⟩ : TPlan)))) (by rfl) (by kernel_rfl) G<|neT eq_Plan (s.fSeal) ((⟨0, 0, 0, ByteArray.empty, ByteArray.empty, 0, 0⟩ : TPlan)) G G G<|mv G G ?_
    apply jo [(1, _)] ⟨rfl, trivial⟩
    ·
     intro K103
     refine spA (i := 74) G (fun h74 => ?_) (fun h74 => ?_)
     ·
      have p74 := h74
      simp only [Bool.not_eq_true', decide_eq_false_iff_not] at p74
      refine gY G G G<|fa G fld_55_11 G<|gY G G G<|ldM 0 (cPlan s.fSeal) G G row_24 G G<|gY G G G<|cfv (planned_c _ h_s.2.2.2.2.2.2.2.2.2.2.2.1) ok_186 G Sn G<|gY G G G<|nt G G<|gY G G G<|mv G G ?_
      apply jo [(1, _), (74, _)] ⟨rfl, rfl, trivial⟩
      ·
       intro K86
       refine spO (i := 79) G (fun h79 => ?_) (fun h79 => ?_)
       ·
        refine gY G G G<|fa G fld_55_11 G<|gY G G G<|fa G fld_24_1 G<|gY G G G<|ldB 0 G G one_3 G G<|gY G G G<|fa G fld_55_0 G<|gY G G G<|ldB 0 G G one_3 G G<|gY G G G<|neI G G G<|gY G G G<|pkF G G G ?_
        exact jR K86 h79 ⟨G, G, trivial⟩ Sr
       ·
        exact gS (g := [_, _, _, _, _, _]) G<|gY G G G<|pkT G G G<|jR0 K86 h79 ⟨G, G, trivial⟩ Sr
      refine gY G G G<|mv G G ?_
      apply jo [(1, _), (74, _)] ⟨rfl, rfl, trivial⟩
      ·
       intro K94
       refine spO (i := 87) G (fun h87 => ?_) (fun h87 => ?_)
       ·
        refine gY G G G<|fa G fld_55_11 G<|gY G G G<|fa G fld_24_4 G<|gY G G G<|ldB 0 G G one_9 G G<|gY G G G<|fa G fld_55_4 G<|gY G G G<|ldB 0 G G one_9 G G<|gY G G G<|neS G G G<|gY G G G<|pkF G G G ?_
        exact jR K94 h87 ⟨G, G, trivial⟩ Sr
       ·
        exact gS (g := [_, _, _, _, _, _]) G<|gY G G G<|pkT G G G<|jR0 K94 h87 ⟨G, G, trivial⟩ Sr
      refine gY G G G<|mv G G ?_
      apply jo [(1, _), (74, _)] ⟨rfl, rfl, trivial⟩
      ·
       intro K102
       refine spO (i := 95) G (fun h95 => ?_) (fun h95 => ?_)
       ·
        refine gY G G G<|ldM 0 (cState s s_0 s_1 s_2 s_3 s_4 s_5) G G row_55 G G<|gY G G G<|fa G fld_55_11 G<|gY G G G<|fa G fld_24_3 G<|gY G G G<|ldB 0 G G one_9 G G<|gY G G G<|cfv (owns_c _ _ _ _ _ _ _ _ h_s) ok_78 G (Sc 0 G (Sc 1 G (Sc 2 G (Sc 3 G (Sc 4 G (Sc 5 G Sn)))))) G<|gY G G G<|nt G G<|gY G G G<|pkF G G G ?_
        exact jR K102 h95 ⟨G, G, trivial⟩ Sr
       ·
        exact gS (g := [_, _, _, _, _, _]) G<|gY G G G<|pkT G G G<|jR0 K102 h95 ⟨G, G, trivial⟩ Sr
      exact pkT G G G<|jA K103 h74 ⟨G, trivial⟩ Sr
     ·
      exact gS (g := [_, _, _, _, _, _, _, _, _, _, _, _, _, _, _, _, _, _, _, _, _, _, _, _, _, _, _, _]) G<|pkF G G G<|jA0 K103 h74 ⟨G, trivial⟩ Sr
    refine nl<|nx<|cdB G (fun h103 => ?_) (fun h103 => ?_)
    ·
     have e103 : (sright3 s) = true := h103
     refine sq<|rg<|asg G G<|nl<|nx<|rt<|tR<|dpQ ?_
     exact fR1 () G G (by rw [srightP, if_neg (by rw [e35]; decide), if_neg (by rw [e57]; decide), if_pos eW, e103]; first | (rw [e107]; try rfl) | (try rfl)) G Sn
    ·
     have e103 : (sright3 s) = false := h103
     refine sk<|nx<|sq<|sq<|rg<|fa G fld_55_12 G<|ldM 0 (cPlan s.fOut) G G row_24 G G<|bd (ps := []) (cs := (cPlan ((⟨0, 0, 0, ByteArray.empty, ByteArray.empty, 0, 0⟩ : TPlan)))) (by rfl) (by kernel_rfl) G<|eqT eq_Plan (s.fOut) ((⟨0, 0, 0, ByteArray.empty, ByteArray.empty, 0, 0⟩ : TPlan)) G G G<|nl<|nx<|cdP G (fun h107 => ?_) (fun h107 => ?_)
     ·
      have e107 : (decide (s.fOut = ⟨0, 0, 0, ByteArray.empty, ByteArray.empty, 0, 0⟩)) = true := (decide_eq_true h107)
      refine sq<|rg<|fa G fld_55_13 G<|ldB 0 G G one_35 G G<|lnP 5 G G Tryz.underlying35 G fun l110 => eqI G G G<|asg G G<|nl<|nx<|rt<|tR<|dpQ ?_
      exact fR1 () G G (by rw [srightP, if_neg (by rw [e35]; decide), if_neg (by rw [e57]; decide), if_pos eW, e103]; first | (rw [e107]; try rfl) | (try rfl)) G Sn
     ·
      have e107 : (decide (s.fOut = ⟨0, 0, 0, ByteArray.empty, ByteArray.empty, 0, 0⟩)) = false := (decide_eq_false h107)
      refine sk<|nx<|sq<|rg<|fa G fld_55_13 G<|ldB 0 G G one_35 G G<|cf (rs_c _ _) ok_159 G (Sc 5 G Sn) G fun y115 v115 h115 => ?_
      obtain ⟨y115_0, y115_1, y115_2, y115_3, y115_4, y115_5⟩ := y115
      replace h115 : v115 = .tuple #[.agg (cState (rdState _).1 y115_0 y115_1 y115_2 y115_3 y115_4 y115_5).toArray, .int .i64 (rdState _).2] := h115
      subst h115
      refine mv G G<|xt G G G<|xt G G G<|al zero_55 G fun b5 => gtL (q := y115_0.oneCell' = true) (fun S w h => oneCell_of_list (h _ (List.mem_of_getElem? (i := 0) G))) fun o_y115_0 => gtL (q := y115_1.oneCell' = true) (fun S w h => oneCell_of_list (h _ (List.mem_of_getElem? (i := 1) G))) fun o_y115_1 => gtL (q := y115_2.oneCell' = true) (fun S w h => oneCell_of_list (h _ (List.mem_of_getElem? (i := 2) G))) fun o_y115_2 => gtL (q := y115_3.oneCell' = true) (fun S w h => oneCell_of_list (h _ (List.mem_of_getElem? (i := 3) G))) fun o_y115_3 => gtL (q := y115_4.oneCell' = true) (fun S w h => oneCell_of_list (h _ (List.mem_of_getElem? (i := 4) G))) fun o_y115_4 => gtL (q := y115_5.oneCell' = true) (fun S w h => oneCell_of_list (h _ (List.mem_of_getElem? (i := 5) G))) fun o_y115_5 => stW 0 (us := (cState ((rdState s.fImage).1) y115_0 y115_1 y115_2 y115_3 y115_4 y115_5)) G G G row_55 (by simp only [List.all_cons, List.all_nil, Bool.and_true, o_y115_0, o_y115_1, o_y115_2, o_y115_3, o_y115_4, o_y115_5]; rfl) G<|asg G G<|nl<|nx ?_
      refine sq<|rg<|fa G fld_55_12 G<|ldM 1 (cPlan s.fOut) G G row_24 G G<|cfv (planned_c _ h_s.2.2.2.2.2.2.2.2.2.2.2.2.1) ok_186 G Sn G<|mv G G ?_
      apply jo [(6, _)] ⟨rfl, trivial⟩
      ·
       intro K128
       refine spA (i := 121) G (fun h121 => ?_) (fun h121 => ?_)
       ·
        exact gY G G G<|fa G fld_55_12 G<|gY G G G<|fa G fld_24_1 G<|gY G G G<|ldB 1 G G one_3 G G<|gY G G G<|fa G fld_55_0 G<|gY G G G<|ldB 1 G G one_3 G G<|gY G G G<|eqI G G G<|pkT G G G<|jA K128 h121 ⟨G, trivial⟩ Sr
       ·
        exact gS (g := [_, _, _, _, _, _]) G<|pkF G G G<|jA0 K128 h121 ⟨G, trivial⟩ Sr
      refine mv G G ?_
      apply jo [] trivial
      ·
       intro K132
       refine spA (i := 129) G (fun h129 => ?_) (fun h129 => ?_)
       ·
        exact gY G G G<|mv G G<|gY G G G<|eqI G G G<|pkT G G G<|jA K132 h129 trivial Sr
       ·
        exact gS (g := [_, _]) G<|pkF G G G<|jA0 K132 h129 trivial Sr
      refine asg G G<|nl<|nx<|rt<|dpQ<|dpQ ?_
      exact fR1 () G G (by rw [srightP, if_neg (by rw [e35]; decide), if_neg (by rw [e57]; decide), if_pos eW, e103]; first | (rw [e107]; try rfl) | (try rfl)) G Sn

theorem shcheck_c (s : TState) (s_0 s_1 s_2 s_3 s_4 s_5 : Value) (h_s : s.wf) : FnV Tryz.prog 57 [.agg (cState s s_0 s_1 s_2 s_3 s_4 s_5).toArray] [⟨s_0, s.fAccounts⟩, ⟨s_1, s.fMarks⟩, ⟨s_2, s.fWaits⟩, ⟨s_3, s.fDeals⟩, ⟨s_4, s.fEnds⟩, ⟨s_5, s.fImage⟩] (.int .i64 (errF (srightP s))) := by
 refine Fnc.proof Tryz.func57 G 6 G G fun X w => sq<|rg<|bx G G G fun b1 => asg G G<|nl<|nx<|sq<|sq<|rg<|ldM 0 (cState s s_0 s_1 s_2 s_3 s_4 s_5) G G row_55 G G<|cfv (sright_c _ _ _ _ _ _ _ h_s) ok_122 G (Sc 0 G (Sc 1 G (Sc 2 G (Sc 3 G (Sc 4 G (Sc 5 G Sn)))))) G<|nt G G<|nl ?_
 refine nx<|cdB G (fun h5 => ?_) (fun h5 => ?_)
 ·
  refine sq<|rg<|asg G G<|nl<|nx<|rt<|tR<|dpQ ?_
  exact fR1 () G G (by rw [errF, if_neg (by have q := h5; rw [Bool.not_eq_true'] at q; rw [q]; decide)]) G Sn
 ·
  refine sk<|nx<|sq<|rg<|asg G G<|nl<|nx<|rt<|dpQ ?_
  exact fR1 () G G (by rw [errF, if_pos (by have q := h5; rw [Bool.not_eq_false'] at q; exact q)]) G Sn

theorem dright_c (v : TScene) (v_0 v_1 v_2 v_3 v_4 : Value) (h_v : v.wf) : FnV Tryz.prog 17 [.agg (cScene v v_0 v_1 v_2 v_3 v_4).toArray] [⟨v_0, v.fChart.fPlaces⟩, ⟨v_1, v.fChart.fMarks⟩, ⟨v_2, v.fStates⟩, ⟨v_3, v.fRights⟩, ⟨v_4, v.fAges⟩] (.bool (drightP v)) := by
 refine Fnc.proof Tryz.func17 G 65 G G fun X w => sq<|rg<|bx G G G fun b1 => asg G G<|nl<|nx<|sq<|sq<|rg<|fa G fld_32_1 G<|ldB 0 G G one_3 G G<|neI G G G<|mv G G ?_
 apply jo [(1, _)] ⟨rfl, trivial⟩
 ·
  intro K12
  refine spA (i := 8) G (fun h8 => ?_) (fun h8 => ?_)
  ·
   have p8 := h8
   simp only [Bool.not_eq_true', decide_eq_false_iff_not] at p8
   exact gY G G G<|fa G fld_32_1 G<|gY G G G<|ldB 0 G G one_3 G G<|gY G G G<|neI G G G<|pkT G G G<|jA K12 h8 ⟨G, trivial⟩ Sr
  ·
   exact gS (g := [_, _, _]) G<|pkF G G G<|jA0 K12 h8 ⟨G, trivial⟩ Sr
 refine mv G G ?_
 apply jo [(1, _)] ⟨rfl, trivial⟩
 ·
  intro K17
  refine spA (i := 13) G (fun h13 => ?_) (fun h13 => ?_)
  ·
   exact gY G G G<|fa G fld_32_1 G<|gY G G G<|ldB 0 G G one_3 G G<|gY G G G<|neI G G G<|pkT G G G<|jA K17 h13 ⟨G, trivial⟩ Sr
  ·
   exact gS (g := [_, _, _]) G<|pkF G G G<|jA0 K17 h13 ⟨G, trivial⟩ Sr
 refine mv G G ?_
 apply jo [(1, _)] ⟨rfl, trivial⟩
 ·
  intro K22
  refine spO (i := 18) G (fun h18 => ?_) (fun h18 => ?_)
  ·
   exact gY G G G<|fa G fld_32_0 G<|gY G G G<|ldB 0 G G one_3 G G<|gY G G G<|ltI G G G<|pkF G G G<|jR K22 h18 ⟨G, trivial⟩ Sr
  ·
   exact gS (g := [_, _, _]) G<|pkT G G G<|jR0 K22 h18 ⟨G, trivial⟩ Sr
 refine mv G G ?_
 apply jo [(1, _)] ⟨rfl, trivial⟩
 ·
  intro K29
  refine spO (i := 23) G (fun h23 => ?_) (fun h23 => ?_)
  ·
   exact gY G G G<|fa G fld_32_0 G<|gY G G G<|ldB 0 G G one_3 G G<|gY G G G<|fa G fld_32_1 G<|gY G G G<|ldB 0 G G one_3 G G<|gY G G G<|gtI G G G<|pkF G G G<|jR K29 h23 ⟨G, trivial⟩ Sr
  ·
   exact gS (g := [_, _, _, _, _]) G<|pkT G G G<|jR0 K29 h23 ⟨G, trivial⟩ Sr
 refine mv G G ?_
 apply jo [(1, _)] ⟨rfl, trivial⟩
 ·
  intro K35
  refine spO (i := 30) G (fun h30 => ?_) (fun h30 => ?_)
  ·
   exact gY G G G<|fa G fld_32_3 G<|gY G G G<|ldB 0 G G one_28 G G<|gY G G G<|lnP 2 G G Tryz.underlying28 G fun l33 => gY G G G<|neI G G G<|pkF G G G<|jR K35 h30 ⟨G, trivial⟩ Sr
  ·
   exact gS (g := [_, _, _, _]) G<|pkT G G G<|jR0 K35 h30 ⟨G, trivial⟩ Sr
 refine nl<|nx<|cdB G (fun h35 => ?_) (fun h35 => ?_)
 ·
  have e35 : (dright1 v) = true := h35
  refine sq<|rg<|asg G G<|nl<|nx<|rt<|tR<|dpQ ?_
  exact fR1 () G G (by rw [drightP, if_pos e35]) G Sn
 ·
  have e35 : (dright1 v) = false := h35
  refine sk<|nx<|sq<|sq<|rg<|fa G fld_32_3 G<|ldB 0 G G one_28 G G<|lnP 2 G G Tryz.underlying28 G fun l38 => mv G G<|nl<|nx<|bk<|lpC (σ := Nat) [(1, _), (37, _), (38, _)] _ (fun i C => (39, .int .i64 (i : Int)) :: C) (fun i => i ≤ v.fStates.length ∧ (∀ j, j < i → (!drightj v j) = true)) (fun i => v.fStates.length - i) 0 ⟨G, G, G, trivial⟩ (Sc 0 G (Sc 1 G (Sc 2 G (Sc 3 G (Sc 4 G Sn))))) ⟨Nat.zero_le _, fun j hj => absurd hj (Nat.not_lt_zero j)⟩ ⟨G, G, G, G, trivial⟩ ?_
  rintro i ⟨hi, hall⟩
  refine sq<|rg<|ltI G G G<|nl<|nx<|sq<|cdP G (fun h40 => ?_) (fun h40 => ?_)
  ·
   refine sk<|nx<|sq<|bk<|sq<|rg<|mv G G<|ixP 2 G G G slt_28 (by omega) (getDE (d := default) (by omega)) G fun v42 => ldS 0 G G row_55 G fun q43 w43 => ?_
   obtain ⟨q43_0, q43_1, q43_2, q43_3, q43_4, q43_5⟩ := q43
   refine al zero_55 G fun b4 => asg G G<|gtL (q := q43_0.oneCell' = true) (fun S w h => oneCell_of_list (h _ (List.mem_of_getElem? (i := 1) G))) fun o_q43_0 => gtL (q := q43_1.oneCell' = true) (fun S w h => oneCell_of_list (h _ (List.mem_of_getElem? (i := 2) G))) fun o_q43_1 => gtL (q := q43_2.oneCell' = true) (fun S w h => oneCell_of_list (h _ (List.mem_of_getElem? (i := 3) G))) fun o_q43_2 => gtL (q := q43_3.oneCell' = true) (fun S w h => oneCell_of_list (h _ (List.mem_of_getElem? (i := 4) G))) fun o_q43_3 => gtL (q := q43_4.oneCell' = true) (fun S w h => oneCell_of_list (h _ (List.mem_of_getElem? (i := 5) G))) fun o_q43_4 => gtL (q := q43_5.oneCell' = true) (fun S w h => oneCell_of_list (h _ (List.mem_of_getElem? (i := 6) G))) fun o_q43_5 => stW 0 (us := (cState ((v.fStates.getD i default)) q43_0 q43_1 q43_2 q43_3 q43_4 q43_5)) G G G row_55 (by simp only [List.all_cons, List.all_nil, Bool.and_true, o_q43_0, o_q43_1, o_q43_2, o_q43_3, o_q43_4, o_q43_5]; rfl) G<|nl<|nx<|sq<|rg<|fa G fld_55_0 G ?_
   refine ldB 0 G G one_3 G G<|mv G G<|adI G G (inI (by omega) (by omega)) G<|neI G G G<|mv G G ?_
   apply jo [(1, _), (37, _), (38, _), (39, _)] ⟨rfl, rfl, rfl, rfl, trivial⟩
   ·
    intro K53
    refine spO (i := 49) G (fun h49 => ?_) (fun h49 => ?_)
    ·
     have p49 := h49
     simp only [Bool.not_eq_false', decide_eq_true_eq] at p49
     exact gY G G G<|ldM 0 (cState ((v.fStates.getD i default)) q43_0 q43_1 q43_2 q43_3 q43_4 q43_5) G G row_55 G G<|gY G G G<|cfv (shcheck_c _ _ _ _ _ _ _ w43) ok_57 G (Sc 1 G (Sc 2 G (Sc 3 G (Sc 4 G (Sc 5 G (Sc 6 G Sn)))))) G<|gY G G G<|neI G G G<|pkF G G G<|jR K53 h49 ⟨G, G, G, G, trivial⟩ Sr
    ·
     exact gS (g := [_, _, _]) G<|pkT G G G<|jR0 K53 h49 ⟨G, G, G, G, trivial⟩ Sr
   refine nl<|nx<|cdB G (fun h53 => ?_) (fun h53 => ?_)
   ·
    refine sq<|rg<|asg G G<|nl<|nx<|rt<|bR<|tR<|tR<|bR<|tR<|dpQ<|dpQ ?_
    exact fR1 () G G (by rw [drightP, if_neg (by rw [e35]; decide), if_neg (by rw [allI_false i (by omega) (not_t h53)]; decide)]) G Sn
   ·
    refine sk<|bN<|nx<|rg<|adI G G (inI (by omega) (by omega)) G<|mv G G<|nl<|dpQ ?_
    exact ag (i + 1) ⟨(by omega), (all_snoc hall (not_f h53))⟩ (by omega) ⟨G, G, G, G, trivial⟩ G (Sc 8 G (Sc 9 G (Sc 10 G (Sc 11 G (Sc 12 G Sn)))))
  ·
   refine ex<|tE<|tE<|bE<|nx<|sq<|rg<|fa G fld_32_2 G<|ldM 0 (cChart v.fChart v_0 v_1) G G row_27 G G<|cfv (pcheck_c _ _ _ h_v.2.2.1) ok_58 G (Sc 0 G (Sc 1 G Sn)) G<|eqI G G G<|mv G G ?_
   apply jo [] trivial
   ·
    intro K64
    refine spA (i := 59) G (fun h59 => ?_) (fun h59 => ?_)
    ·
     have p59 := of_decide_eq_true h59
     exact gY G G G<|fa G fld_32_4 G<|gY G G G<|ldB 0 G G one_29 G G<|gY G G G<|cfv (lcheck_c _ _) ok_59 G (Sc 3 G Sn) G<|gY G G G<|eqI G G G<|pkT G G G<|jA K64 h59 trivial Sr
    ·
     exact gS (g := [_, _, _, _]) G<|pkF G G G<|jA0 K64 h59 trivial Sr
   refine asg G G<|nl<|nx<|rt<|dpQ ?_
   exact fR1 () G G (by rw [drightP, if_neg (by rw [e35]; decide), if_pos (allI_true (fun j hj => hall j (by omega)))]) G Sn
end Go.Proofs.YtmpoffijcfaalaaGreat

/- Whole numbers of 128 bits. No program. -/

namespace Go.YtmpoffijcfaalaaGreat
open Go.Eng

structure TWide where
  fHi : Int
  fLo : Int
  deriving DecidableEq, Inhabited
@[reducible] def cWide (x : TWide) : List Value := [.int .i64 x.fHi, .int .u64 x.fLo]
@[reducible] def wide (S : Int) : TWide := ⟨S / 18446744073709551616, S % 18446744073709551616⟩
def BW (S : Int) : Prop := -1329227995784915872903807060280344576 ≤ S ∧ S ≤ 1329227995784915872903807060280344576
def BV (S : Int) : Prop := -1298074214633706907132624082305024 ≤ S ∧ S ≤ 1298074214633706907132624082305024
theorem BV.w {S : Int} (h : BV S) : BW S := by unfold BV at h; unfold BW; omega
theorem wideN {S n : Int} (h : n < 0) (hn : InI n) : (⟨S / 18446744073709551616 + (S % 18446744073709551616 + n % 18446744073709551616 + 0) / 18446744073709551616 - 1, (S % 18446744073709551616 + n % 18446744073709551616 + 0) % 18446744073709551616⟩ : TWide) = wide (S + n) := by
  obtain ⟨h1, h2⟩ := hn
  simp only [wide, TWide.mk.injEq]
  omega
theorem wideP {S n : Int} (h : ¬ n < 0) (hn : InI n) : (⟨S / 18446744073709551616 + (S % 18446744073709551616 + n % 18446744073709551616 + 0) / 18446744073709551616, (S % 18446744073709551616 + n % 18446744073709551616 + 0) % 18446744073709551616⟩ : TWide) = wide (S + n) := by
  obtain ⟨h1, h2⟩ := hn
  simp only [wide, TWide.mk.injEq]
  omega
theorem wide_eq {x y : TWide} (h : x = y) : Value.agg (cWide x).toArray = Value.agg (cWide y).toArray := by rw [h]

theorem cplI {x : Int} (h : InI x) : bitV .xor .i64 (if IntKind.i64.signed then -1 else IntKind.i64.max) x = -x - 1 := by
  obtain ⟨h1, h2⟩ := h
  have e : (BitVec.ofInt 64 (-1) ^^^ BitVec.ofInt 64 x) = BitVec.ofInt 64 (-x - 1) := by
    have a : BitVec.ofInt 64 (-1) = BitVec.allOnes 64 := by decide
    rw [a, BitVec.allOnes_xor]
    have : BitVec.ofInt 64 (-x - 1) = ~~~ BitVec.ofInt 64 x := by
      apply BitVec.eq_of_toInt_eq
      rw [BitVec.toInt_not, BitVec.toInt_ofInt]
      have t : (BitVec.ofInt 64 x).toNat = (x % 2 ^ 64).toNat := by simp [BitVec.toNat_ofInt]
      rw [t]
      simp only [Int.bmod]
      omega
    rw [this]
  show IntKind.i64.wrap _ = _
  have : ∀ y : Int, InI y → IntKind.i64.wrap ((BitVec.ofInt 64 y).toNat : Int) = y := by
    intro y hy
    obtain ⟨h3, h4⟩ := hy
    have t : (BitVec.ofInt 64 y).toNat = (y % 2 ^ 64).toNat := by simp [BitVec.toNat_ofInt]
    rw [t, wrapi]
    omega
  rw [← this (-x - 1) ⟨by omega, by omega⟩, ← e]
  rfl
def aboveP (S n : Int) : Bool := decide (S - n > 0)
theorem above_w {S n : Int} (hS : BW S) (hn : InI n) : (decide ((S - n) / 18446744073709551616 > 0) || (decide ((S - n) / 18446744073709551616 = 0) && decide ((S - n) % 18446744073709551616 > 0))) = decide (S - n > 0) := by
  rw [Bool.eq_iff_iff]
  simp only [Bool.or_eq_true, Bool.and_eq_true, decide_eq_true_eq]
  omega
theorem int_w {S : Int} (hS : BW S) : ((decide (S / 18446744073709551616 = 0) && decide (S % 18446744073709551616 < 9223372036854775808)) || (decide (S / 18446744073709551616 = -1) && decide (S % 18446744073709551616 ≥ 9223372036854775808))) = sumOk S := by
  rw [Bool.eq_iff_iff]
  simp only [sumOk, Bool.or_eq_true, Bool.and_eq_true, decide_eq_true_eq]
  omega
theorem sum_BW {l : List Int} (h : allIn l) (hl : l.length ≤ 1000) : ∀ i, i ≤ l.length → -((i : Int) * 9223372036854775808) ≤ (l.take i).sum ∧ (l.take i).sum ≤ (i : Int) * 9223372036854775808 := by
  intro i
  induction i with
  | zero => simp
  | succ i ih =>
    intro hi
    have hs := sum_take (l := l) (i := i) (by omega)
    obtain ⟨a1, a2⟩ := ih (by omega)
    obtain ⟨x1, x2⟩ := getD_InI h (i := i) (by omega)
    rw [hs]
    omega
end Go.YtmpoffijcfaalaaGreat

/- Closed facts on the program, written by specs2.py. -/

namespace Go.Proofs.YtmpoffijcfaalaaGreat
open Go.Eng

theorem fld_211_0 : FieldAt Tryz.prog 211 0 0 := FieldAt.mk Tryz.underlying211 rfl (by kernel_rfl) rfl
theorem fld_211_1 : FieldAt Tryz.prog 211 1 1 := FieldAt.mk Tryz.underlying211 rfl (by kernel_rfl) rfl
theorem ok_211 : FnOk Tryz.prog 211 := ⟨⟨_, Tryz.func211, by kernel_rfl, rfl⟩⟩
theorem ok_229 : FnOk Tryz.prog 229 := ⟨⟨_, Tryz.func229, by kernel_rfl, rfl⟩⟩
theorem one_2 : OneTy Tryz.prog 2 := ⟨⟨_, Tryz.underlying2, rfl⟩, by kernel_rfl⟩
theorem one_209 : OneTy Tryz.prog 209 := ⟨⟨_, Tryz.underlying209, rfl⟩, by kernel_rfl⟩
theorem row_211 : RowTy Tryz.prog 211 2 := ⟨⟨_, Tryz.underlying211, rfl⟩, by kernel_rfl⟩
theorem zero_211 : ZeroOf Tryz.prog 211 [.int .i64 0, .int .u64 0] := ZeroOf.mk (by kernel_rfl)
end Go.Proofs.YtmpoffijcfaalaaGreat

/- Walks, written by specs2.py. -/

namespace Go.Proofs.YtmpoffijcfaalaaGreat
open Go.Eng Go.YtmpoffijcfaalaaGreat
set_option maxHeartbeats 1000000

theorem plus_c (S : Int) (n : Int) (hS : BW S) (h_n : InI n) : FnV Tryz.prog 211 [.agg (cWide (wide S)).toArray, .int .i64 n] [] (.agg (cWide (wide (S + n))).toArray) := by
 refine Fnc.proof Tryz.func211 G 28 G G fun X w => ?_
 obtain ⟨h_n1, h_n2⟩ := id h_n
 obtain ⟨hS1, hS2⟩ := id hS
 refine sq<|rg<|bx G G G fun b2 => al zero_211 G fun b4 => nl<|nx<|sq<|rg<|fa G fld_211_1 G<|ldB 1 G G one_209 G G<|mv G G<|cv Tryz.underlying3 Tryz.underlying209 G (wrapu _) G ?_
 have hx13 := fun w => add64_ok (P := Tryz.prog) (S % 18446744073709551616) (n % 18446744073709551616) 0 (by omega) (by omega) (by omega) (by omega) w
 refine cx ext_222 hx13 G G<|mv G G<|xt G G G<|xt G G G<|asg G G<|asg G G<|nl<|nx<|sq<|rg<|fa G fld_211_0 G<|ldB 1 G G one_2 G G<|mv G G<|cv Tryz.underlying209 Tryz.underlying2 G (wrap_i64_in (inI (by omega) (by omega))) G ?_
 refine adI G G (show InI (S / 18446744073709551616 + ((S % 18446744073709551616 + n % 18446744073709551616 + 0) / 18446744073709551616)) from inI (by omega) (by omega)) G<|asg G G<|nl<|nx<|sq<|sq<|rg<|mv G G<|ltI G G G<|nl<|nx<|cdP G (fun h22 => ?_) (fun h22 => ?_)
 ·
  refine rg<|mv G G<|sbI G G (show InI (S / 18446744073709551616 + ((S % 18446744073709551616 + n % 18446744073709551616 + 0) / 18446744073709551616) - 1) from inI (by omega) (by omega)) G<|asg G G<|nl<|nx<|sq<|rg<|mv G G<|mv G G<|bd (ps := [(0, .tmp 25), (1, .tmp 26)]) (cs := (cWide ((⟨(S / 18446744073709551616 + ((S % 18446744073709551616 + n % 18446744073709551616 + 0) / 18446744073709551616) - 1), ((S % 18446744073709551616 + n % 18446744073709551616 + 0) % 18446744073709551616)⟩ : TWide)))) (by rfl) (by kernel_rfl) G<|stW 0 (us := (cWide ((⟨(S / 18446744073709551616 + ((S % 18446744073709551616 + n % 18446744073709551616 + 0) / 18446744073709551616) - 1), ((S % 18446744073709551616 + n % 18446744073709551616 + 0) % 18446744073709551616)⟩ : TWide)))) G G G row_211 G G<|nl<|nx ?_
  exact rt<|fRG () [_, _] (rC 0 G G G row_211) (by exact wide_eq (wideN h22 h_n)) G Sn
 ·
  exact sk<|nx<|sq<|rg<|mv G G<|mv G G<|bd (ps := [(0, .tmp 25), (1, .tmp 26)]) (cs := (cWide ((⟨(S / 18446744073709551616 + ((S % 18446744073709551616 + n % 18446744073709551616 + 0) / 18446744073709551616)), ((S % 18446744073709551616 + n % 18446744073709551616 + 0) % 18446744073709551616)⟩ : TWide)))) (by rfl) (by kernel_rfl) G<|stW 0 (us := (cWide ((⟨(S / 18446744073709551616 + ((S % 18446744073709551616 + n % 18446744073709551616 + 0) / 18446744073709551616)), ((S % 18446744073709551616 + n % 18446744073709551616 + 0) % 18446744073709551616)⟩ : TWide)))) G G G row_211 G G<|nl<|nx<|rt<|fRG () [_, _] (rC 0 G G G row_211) (by exact wide_eq (wideP h22 h_n)) G Sn

theorem less_c (S : Int) (n : Int) (hS : BV S) (h_n : InI n) : FnV Tryz.prog 229 [.agg (cWide (wide S)).toArray, .int .i64 n] [] (.agg (cWide (wide (S - n))).toArray) := by
 refine Fnc.proof Tryz.func229 G 10 G G fun X w => ?_
 obtain ⟨h_n1, h_n2⟩ := id h_n
 obtain ⟨hS1, hS2⟩ := id hS
 refine sq<|rg<|bx G G G fun b2 => al zero_211 G fun b4 => nl<|nx<|sq<|rg<|ldM 1 (cWide ((wide S))) G G row_211 G G<|mv G G<|cpW G (cplI h_n) G<|cfv (plus_c S (-n - 1) hS.w (inI (by omega) (by omega))) ok_211 G Sn G<|cfv (plus_c (S + (-n - 1)) 1 (by unfold BW; omega) (inI (by omega) (by omega))) ok_211 G Sn G<|stW 0 (us := (cWide ((wide (S + (-n - 1) + 1))))) G G G row_211 G G ?_
 exact nl<|nx<|rt<|fRG () [_, _] (rC 0 G G G row_211) (by exact wide_eq (congrArg wide (by omega))) G Sn

theorem above_c (S : Int) (n : Int) (hS : BV S) (h_n : InI n) : FnV Tryz.prog 228 [.agg (cWide (wide S)).toArray, .int .i64 n] [] (.bool (aboveP S n)) := by
 refine Fnc.proof Tryz.func228 G 22 G G fun X w => ?_
 obtain ⟨h_n1, h_n2⟩ := id h_n
 obtain ⟨hS1, hS2⟩ := id hS
 refine sq<|rg<|bx G G G fun b2 => asg G G<|nl<|nx<|sq<|rg<|ldM 0 (cWide ((wide S))) G G row_211 G G<|mv G G<|cfv (less_c S n hS h_n) ok_229 G Sn G<|al zero_211 G fun b5 => stW 0 (us := (cWide ((wide (S - n))))) G G G row_211 G G<|nl ?_
 refine nx<|sq<|rg<|fa G fld_211_0 G<|ldB 0 G G one_2 G G<|gtI G G G<|mv G G ?_
 apply jo [] trivial
 ·
  intro K21
  refine spO (i := 12) G (fun h12 => ?_) (fun h12 => ?_)
  ·
   have p12 := of_decide_eq_false h12
   refine gY G G G<|fa G fld_211_0 G<|gY G G G<|ldB 0 G G one_2 G G<|gY G G G<|eqI G G G<|gY G G G<|mv G G ?_
   apply jo [(12, _)] ⟨rfl, trivial⟩
   ·
    intro K20
    refine spA (i := 16) G (fun h16 => ?_) (fun h16 => ?_)
    ·
     have p16 := of_decide_eq_true h16
     exact gY G G G<|fa G fld_211_1 G<|gY G G G<|ldB 0 G G one_209 G G<|gY G G G<|gtI G G G<|gY G G G<|pkT G G G<|jA K20 h16 ⟨G, trivial⟩ Sr
    ·
     exact gS (g := [_, _, _]) G<|gY G G G<|pkF G G G<|jA0 K20 h16 ⟨G, trivial⟩ Sr
   exact pkF G G G<|jR K21 h12 trivial Sr
  ·
   exact gS (g := [_, _, _, _, _, _, _, _]) G<|pkT G G G<|jR0 K21 h12 trivial Sr
 refine asg G G<|nl<|nx<|rt<|dpQ<|dpQ ?_
 exact fR1 () G G (by exact congrArg Value.bool (above_w hS.w h_n)) G Sn

theorem wint_c (S : Int) (hS : BW S) : FnV Tryz.prog 152 [.agg (cWide (wide S)).toArray] [] (.tuple #[.int .i64 (IntKind.i64.wrap (S % 18446744073709551616)), .bool (sumOk S)]) := by
 refine Fnc.proof Tryz.func152 G 25 G G fun X w => ?_
 obtain ⟨hS1, hS2⟩ := id hS
 refine sq<|rg<|bx G G G fun b1 => asg G G<|asg G G<|nl<|nx<|sq<|rgQ mixed (by kernel_rfl)<|fa G fld_211_1 G<|ldB 0 G G one_209 G G<|cv Tryz.underlying209 Tryz.underlying3 G G G<|fa G fld_211_0 G<|ldB 0 G G one_2 G G ?_
 refine eqI G G G<|mv G G ?_
 apply jo [(1, _), (6, _)] ⟨rfl, rfl, trivial⟩
 ·
  intro K14
  refine spA (i := 10) G (fun h10 => ?_) (fun h10 => ?_)
  ·
   have p10 := of_decide_eq_true h10
   exact gY G G G<|fa G fld_211_1 G<|gY G G G<|ldB 0 G G one_209 G G<|gY G G G<|ltI G G G<|pkT G G G<|jA K14 h10 ⟨G, G, trivial⟩ Sr
  ·
   exact gS (g := [_, _, _]) G<|pkF G G G<|jA0 K14 h10 ⟨G, G, trivial⟩ Sr
 refine mv G G ?_
 apply jo [(6, _)] ⟨rfl, trivial⟩
 ·
  intro K24
  refine spO (i := 15) G (fun h15 => ?_) (fun h15 => ?_)
  ·
   refine gY G G G<|fa G fld_211_0 G<|gY G G G<|ldB 0 G G one_2 G G<|gY G G G<|eqI G G G<|gY G G G<|mv G G ?_
   apply jo [(6, _), (15, _)] ⟨rfl, rfl, trivial⟩
   ·
    intro K23
    refine spA (i := 19) G (fun h19 => ?_) (fun h19 => ?_)
    ·
     have p19 := of_decide_eq_true h19
     exact gY G G G<|fa G fld_211_1 G<|gY G G G<|ldB 0 G G one_209 G G<|gY G G G<|geI G G G<|gY G G G<|pkT G G G<|jA K23 h19 ⟨G, G, trivial⟩ Sr
    ·
     exact gS (g := [_, _, _]) G<|gY G G G<|pkF G G G<|jA0 K23 h19 ⟨G, G, trivial⟩ Sr
   exact pkF G G G<|jR K24 h15 ⟨G, trivial⟩ Sr
  ·
   exact gS (g := [_, _, _, _, _, _, _, _]) G<|pkT G G G<|jR0 K24 h15 ⟨G, trivial⟩ Sr
 exact asg G G<|asg G G<|nlQ<|nx<|rt<|dpQ<|fR2 () G G G (by exact congrArg (fun b => Value.tuple #[.int .i64 (IntKind.i64.wrap (S % 18446744073709551616)), .bool b]) (int_w hS)) G Sn

theorem wof_c (v_l : Value) (l : List Int) (hl : l.length ≤ 1000) : FnV Tryz.prog 210 [v_l] [⟨v_l, l⟩] (.agg (cWide (wide l.sum)).toArray) := by
 refine Fnc.proof Tryz.func210 G 19 G G fun X w => gtC (q := allIn l) (fun S w h => ints_all (h _ (List.mem_cons_self ..))) fun hA => ?_
 have hB := sum_BW hA hl
 refine sq<|rg<|al zero_211 G fun b2 => nl<|nx<|sq<|rg<|bd (ps := []) (cs := cWide (wide 0)) (by rfl) (by kernel_rfl) G<|al zero_211 G fun b3 => stW 0 (us := (cWide ((wide 0)))) G G G row_211 G G<|nl<|nx<|sq<|sq ?_
 refine rg<|asg G G<|nl<|nx<|bk<|lpE (σ := Nat) [(0, _), (2, _), (3, _)] _ (fun i C => (4, .int .i64 (i : Int)) :: C) (fun i => [bl b3 211 (cWide (wide (l.take i).sum)), bl b2 211 zv7, fz X w]) (fun _ Dc => Dc) (fun i => i ≤ l.length) (fun i => l.length - i) 0 ⟨G, G, G, trivial⟩ (Sc 0 G Sn) (Nat.zero_le _) ⟨G, G, G, G, trivial⟩ G (Sc 0 G Sn) ?_
 intro i hi
 refine sq<|sq<|rg<|mv G G<|mv G G<|lnP 0 G G Tryz.underlying220 G fun l8 => ltI G G G<|nl<|nx<|cdP G (fun h9 => ?_) (fun h9 => ?_)
 ·
  have hb := hB i hi
  have hx := getD_InI hA (i := i) (by omega)
  refine sk<|nx<|sq<|bk<|rgT 6 mixed (by kernel_rfl)<|ldM 0 (cWide ((wide (l.take i).sum))) G G row_211 G G<|mv G G<|mv G G<|ixP 0 G G G slt_220 (by omega) (getDE (d := default) (by omega)) G fun v15 => ldV 0 G G one_3 G fun w16 => ?_
  refine cfq (plus_c (l.take i).sum (l.getD i default) (by unfold BW; omega) hx) ok_211 G Sn G<|nlT<|stW 0 (us := (cWide ((wide ((l.take i).sum + l.getD i default))))) G G G row_211 G G<|nl<|bN<|nx<|rg<|mv G G<|adI G G (inI (by omega) (by omega)) G<|asg G G<|nl ?_
  exact ag (i + 1) (by omega) (by omega) ⟨G, G, G, G, trivial⟩ (by rw [sum_take (l := l) (i := i) (by omega)]; rfl) (Sc 1 G Sn)
 ·
  exact ex<|tE<|tE<|bE<|nx<|sq<|rg<|ldM 0 (cWide ((wide (l.take i).sum))) G G row_211 G G<|stW 1 (us := (cWide ((wide (l.take i).sum)))) G G G row_211 G G<|nl<|nx<|rt<|fRG () [_, _] (rC 1 G G G row_211) (by have e : i = l.length := (by omega); rw [e, List.take_length]) G Sn
end Go.Proofs.YtmpoffijcfaalaaGreat
