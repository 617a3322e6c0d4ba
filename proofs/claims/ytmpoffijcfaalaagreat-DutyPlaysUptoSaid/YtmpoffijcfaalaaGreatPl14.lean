/- Part 14 of dutyPlays_holds. -/
import Derived.Test.YtmpoffijcfaalaaGreatPl13

set_option maxRecDepth 20000
set_option maxHeartbeats 1000000
namespace Go.Proofs.YtmpoffijcfaalaaGreat.Ref
open Go.Eng Go.YtmpoffijcfaalaaGreat
section
variable (pv bv : Value) (p : Nat) (bs : List UInt8) (s : Rd) (b T : Nat) (cells : List Value) (q : List Value × Rd) (o : Nat)
theorem int_q (sv : Value) (p : Nat) (bs : List UInt8) (b T : Nat) (q : List Value × Rd) (offs : List Nat) (hp : q.2.pos ≤ bs.length) (hz : zeroI q.1 offs) (hn : offs.Nodup) : Fnc Pg 199 [pv, sv] [bl b T q.1, rd2 p bv q.2] [⟨pv, (⟨⟨p⟩⟩ : Pt TWalk)⟩, ⟨bv, bs⟩, ⟨sv, ptrs b offs⟩] (fun (_ : Unit) _ => True) (fun _ _ => [bl b T (intsP bs offs q).1, rd2 p bv (intsP bs offs q).2]) (fun _ _ => []) :=
 int_p pv bv sv p bs q.2 b T q.1 offs hp hz hn
theorem num1_q (hp : q.2.pos ≤ bs.length) (hz : q.1[o]? = some (.int .i64 0)) : Fnc Pg 202 [pv, .pointer (some ⟨b, o, none⟩)] [bl b T q.1, rd2 p bv q.2] [⟨pv, (⟨⟨p⟩⟩ : Pt TWalk)⟩, ⟨bv, bs⟩] (fun (_ : Unit) _ => True) (fun _ _ => [bl b T (intsP bs [o] q).1, rd2 p bv (intsP bs [o] q).2]) (fun _ _ => []) :=
 num1_p pv bv p bs q.2 b T q.1 o hp hz
theorem text1_q (hp : q.2.pos ≤ bs.length) (hz : q.1[o]? = some (.string ByteArray.empty)) : Fnc Pg 201 [pv, .pointer (some ⟨b, o, none⟩)] [bl b T q.1, rd2 p bv q.2] [⟨pv, (⟨⟨p⟩⟩ : Pt TWalk)⟩, ⟨bv, bs⟩] (fun (_ : Unit) _ => True) (fun _ _ => [bl b T (textsP bs [o] q).1, rd2 p bv (textsP bs [o] q).2]) (fun _ _ => []) :=
 text1_p pv bv p bs q.2 b T q.1 o hp hz
theorem flag_q (hp : q.2.pos ≤ bs.length) (hz : q.1[o]? = some (.bool false)) : Fnc Pg 200 [pv, .pointer (some ⟨b, o, none⟩)] [bl b T q.1, rd2 p bv q.2] [⟨pv, (⟨⟨p⟩⟩ : Pt TWalk)⟩, ⟨bv, bs⟩] (fun (_ : Unit) _ => True) (fun _ _ => [bl b T (flagP bs o q).1, rd2 p bv (flagP bs o q).2]) (fun _ _ => []) :=
 flag_p pv bv p bs q.2 b T q.1 o hp hz
theorem bytes_q (u : Value) (hp : q.2.pos ≤ bs.length) (hz : q.1[o]? = some u) : Fnc Pg 209 [pv, .pointer (some ⟨b, o, none⟩)] [bl b T q.1, rd2 p bv q.2] [⟨pv, (⟨⟨p⟩⟩ : Pt TWalk)⟩, ⟨bv, bs⟩, ⟨u, ([] : List UInt8)⟩] (fun (_ : Value) _ => True) (fun y _ => [bl b T (setL o y (rdText bs 65535) q).1, rd2 p bv (setL o y (rdText bs 65535) q).2]) (fun y _ => [⟨y, (rdText bs 65535 q.2).1⟩]) :=
 bytes_p pv bv p bs q.2 b T q.1 o u hp hz
theorem op_p (hp : s.pos ≤ bs.length) (hz0 : cells[o]? = some (.int .i64 0)) (hz1 : cells[o + 1]? = some (.string ByteArray.empty)) (hz2 : cells[o + 2]? = some (.string ByteArray.empty)) (hz3 : cells[o + 3]? = some (.int .i64 0)) (hz4 : cells[o + 4]? = some (.int .i64 0)) (hz5 : cells[o + 5]? = some (.int .i64 0)) : Fnc Pg 294 [pv, .pointer (some ⟨b, o, none⟩)] [bl b T cells, rd2 p bv s] [⟨pv, (⟨⟨p⟩⟩ : Pt TWalk)⟩, ⟨bv, bs⟩] (fun (_ : Unit) _ => True) (fun _ _ => [bl b T (opPr bs o (cells, s)).1, rd2 p bv (opPr bs o (cells, s)).2]) (fun _ _ => []) := by
 exact Fnc.proof Tryz.func294 G 31 G G fun X w => qg<|ru 4 G<|cfN 2 (num1_q pv bv p bs b T (cells, s) o hp (by first | assumption | (repeat first | rw [intsP_at (by simp only [List.mem_cons, List.not_mem_nil, or_false]; omega)] | rw [textsP_at (by simp only [List.mem_cons, List.not_mem_nil, or_false]; omega)]); assumption)) ok_202 G G (Si [0,1] G) G fun _ _ _ => nl<|nx<|qg<|ru 4 G<|cfN 2 (text1_q pv bv p bs b T (intsP bs [o] (cells, s)) (o + 1) (intsP_pos hp) (by first | assumption | (repeat first | rw [intsP_at (by simp only [List.mem_cons, List.not_mem_nil, or_false]; omega)] | rw [textsP_at (by simp only [List.mem_cons, List.not_mem_nil, or_false]; omega)]); assumption)) ok_201 G G (Si [0,1] G) G fun _ _ _ => nl<|nx<|qg<|ru 4 G<|cfN 2 (text1_q pv bv p bs b T (textsP bs [(o + 1)] (intsP bs [o] (cells, s))) (o + 2) (textsP_pos (intsP_pos hp)) (by first | assumption | (repeat first | rw [intsP_at (by simp only [List.mem_cons, List.not_mem_nil, or_false]; omega)] | rw [textsP_at (by simp only [List.mem_cons, List.not_mem_nil, or_false]; omega)]); assumption)) ok_201 G G (Si [0,1] G) G fun _ _ _ => nl<|nx<|rgP b [(o + 3),(o + 4),(o + 5)] [1,2,0] (fun u => int_q pv bv u p bs b T (textsP bs [(o + 2)] (textsP bs [(o + 1)] (intsP bs [o] (cells, s)))) [(o + 3), (o + 4), (o + 5)] (textsP_pos (textsP_pos (intsP_pos hp))) (by intro x hx; simp only [List.mem_cons, List.not_mem_nil, or_false] at hx; rcases hx with rfl | rfl | rfl <;> first | assumption | (repeat first | rw [intsP_at (by simp only [List.mem_cons, List.not_mem_nil, or_false]; omega)] | rw [textsP_at (by simp only [List.mem_cons, List.not_mem_nil, or_false]; omega)]); assumption) (by simp)) ok_199 app_297 G G (by kernel_rfl) (fun _ => G)<|fR0N () G trivial G Sn
theorem op_q (hp : q.2.pos ≤ bs.length) (hz0 : q.1[o]? = some (.int .i64 0)) (hz1 : q.1[o + 1]? = some (.string ByteArray.empty)) (hz2 : q.1[o + 2]? = some (.string ByteArray.empty)) (hz3 : q.1[o + 3]? = some (.int .i64 0)) (hz4 : q.1[o + 4]? = some (.int .i64 0)) (hz5 : q.1[o + 5]? = some (.int .i64 0)) : Fnc Pg 294 [pv, .pointer (some ⟨b, o, none⟩)] [bl b T q.1, rd2 p bv q.2] [⟨pv, (⟨⟨p⟩⟩ : Pt TWalk)⟩, ⟨bv, bs⟩] (fun (_ : Unit) _ => True) (fun _ _ => [bl b T (opPr bs o q).1, rd2 p bv (opPr bs o q).2]) (fun _ _ => []) :=
 op_p pv bv p bs q.2 b T q.1 o hp hz0 hz1 hz2 hz3 hz4 hz5
theorem plan_p (hp : s.pos ≤ bs.length) (hz0 : cells[o]? = some (.int .i64 0)) (hz1 : cells[o + 1]? = some (.int .i64 0)) (hz2 : cells[o + 2]? = some (.int .i64 0)) (hz3 : cells[o + 3]? = some (.string ByteArray.empty)) (hz4 : cells[o + 4]? = some (.string ByteArray.empty)) (hz5 : cells[o + 5]? = some (.int .i64 0)) (hz6 : cells[o + 6]? = some (.int .i64 0)) : Fnc Pg 208 [pv, .pointer (some ⟨b, o, none⟩)] [bl b T cells, rd2 p bv s] [⟨pv, (⟨⟨p⟩⟩ : Pt TWalk)⟩, ⟨bv, bs⟩] (fun (_ : Unit) _ => True) (fun _ _ => [bl b T (planPr bs o (cells, s)).1, rd2 p bv (planPr bs o (cells, s)).2]) (fun _ _ => []) := by
 exact Fnc.proof Tryz.func208 G 35 G G fun X w => sq<|rgP b [o,(o + 1),(o + 2)] [1,2,0] (fun u => int_q pv bv u p bs b T (cells, s) [o, (o + 1), (o + 2)] hp (by intro x hx; simp only [List.mem_cons, List.not_mem_nil, or_false] at hx; rcases hx with rfl | rfl | rfl <;> first | assumption | (repeat first | rw [intsP_at (by simp only [List.mem_cons, List.not_mem_nil, or_false]; omega)] | rw [textsP_at (by simp only [List.mem_cons, List.not_mem_nil, or_false]; omega)]); assumption) (by simp)) ok_199 app_297 G G (by kernel_rfl) (fun _ => G)<|nx<|qg<|ru 4 G<|cfN 2 (text1_q pv bv p bs b T (intsP bs [o, (o + 1), (o + 2)] (cells, s)) (o + 3) (intsP_pos hp) (by first | assumption | (repeat first | rw [intsP_at (by simp only [List.mem_cons, List.not_mem_nil, or_false]; omega)] | rw [textsP_at (by simp only [List.mem_cons, List.not_mem_nil, or_false]; omega)]); assumption)) ok_201 G G (Si [0,1] G) G fun _ _ _ => nl<|nx<|qg<|ru 4 G<|cfN 2 (text1_q pv bv p bs b T (textsP bs [(o + 3)] (intsP bs [o, (o + 1), (o + 2)] (cells, s))) (o + 4) (textsP_pos (intsP_pos hp)) (by first | assumption | (repeat first | rw [intsP_at (by simp only [List.mem_cons, List.not_mem_nil, or_false]; omega)] | rw [textsP_at (by simp only [List.mem_cons, List.not_mem_nil, or_false]; omega)]); assumption)) ok_201 G G (Si [0,1] G) G fun _ _ _ => nl<|nx<|rgP b [(o + 5),(o + 6)] [1,2,0] (fun u => int_q pv bv u p bs b T (textsP bs [(o + 4)] (textsP bs [(o + 3)] (intsP bs [o, (o + 1), (o + 2)] (cells, s)))) [(o + 5), (o + 6)] (textsP_pos (textsP_pos (intsP_pos hp))) (by intro x hx; simp only [List.mem_cons, List.not_mem_nil, or_false] at hx; rcases hx with rfl | rfl <;> first | assumption | (repeat first | rw [intsP_at (by simp only [List.mem_cons, List.not_mem_nil, or_false]; omega)] | rw [textsP_at (by simp only [List.mem_cons, List.not_mem_nil, or_false]; omega)]); assumption) (by simp)) ok_199 app_297 G G (by kernel_rfl) (fun _ => G)<|fR0N () G trivial G Sn
theorem plan_q (hp : q.2.pos ≤ bs.length) (hz0 : q.1[o]? = some (.int .i64 0)) (hz1 : q.1[o + 1]? = some (.int .i64 0)) (hz2 : q.1[o + 2]? = some (.int .i64 0)) (hz3 : q.1[o + 3]? = some (.string ByteArray.empty)) (hz4 : q.1[o + 4]? = some (.string ByteArray.empty)) (hz5 : q.1[o + 5]? = some (.int .i64 0)) (hz6 : q.1[o + 6]? = some (.int .i64 0)) : Fnc Pg 208 [pv, .pointer (some ⟨b, o, none⟩)] [bl b T q.1, rd2 p bv q.2] [⟨pv, (⟨⟨p⟩⟩ : Pt TWalk)⟩, ⟨bv, bs⟩] (fun (_ : Unit) _ => True) (fun _ _ => [bl b T (planPr bs o q).1, rd2 p bv (planPr bs o q).2]) (fun _ _ => []) :=
 plan_p pv bv p bs q.2 b T q.1 o hp hz0 hz1 hz2 hz3 hz4 hz5 hz6
theorem span_p (hp : s.pos ≤ bs.length) (hz0 : cells[o]? = some (.int .i64 0)) (hz1 : cells[o + 1]? = some (.int .i64 0)) : Fnc Pg 290 [pv, .pointer (some ⟨b, o, none⟩)] [bl b T cells, rd2 p bv s] [⟨pv, (⟨⟨p⟩⟩ : Pt TWalk)⟩, ⟨bv, bs⟩] (fun (_ : Unit) _ => True) (fun _ _ => [bl b T (spanPr bs o (cells, s)).1, rd2 p bv (spanPr bs o (cells, s)).2]) (fun _ _ => []) := by
 exact Fnc.proof Tryz.func290 G 13 G G fun X w => rgP b [o,(o + 1)] [1,2,0] (fun u => int_q pv bv u p bs b T (cells, s) [o, (o + 1)] hp (by intro x hx; simp only [List.mem_cons, List.not_mem_nil, or_false] at hx; rcases hx with rfl | rfl <;> first | assumption | (repeat first | rw [intsP_at (by simp only [List.mem_cons, List.not_mem_nil, or_false]; omega)] | rw [textsP_at (by simp only [List.mem_cons, List.not_mem_nil, or_false]; omega)]); assumption) (by simp)) ok_199 app_297 G G (by kernel_rfl) (fun _ => G)<|fR0N () G trivial G Sn
theorem span_q (hp : q.2.pos ≤ bs.length) (hz0 : q.1[o]? = some (.int .i64 0)) (hz1 : q.1[o + 1]? = some (.int .i64 0)) : Fnc Pg 290 [pv, .pointer (some ⟨b, o, none⟩)] [bl b T q.1, rd2 p bv q.2] [⟨pv, (⟨⟨p⟩⟩ : Pt TWalk)⟩, ⟨bv, bs⟩] (fun (_ : Unit) _ => True) (fun _ _ => [bl b T (spanPr bs o q).1, rd2 p bv (spanPr bs o q).2]) (fun _ _ => []) :=
 span_p pv bv p bs q.2 b T q.1 o hp hz0 hz1
theorem lock_p (hp : s.pos ≤ bs.length) (hz0 : cells[o]? = some (.int .i64 0)) (hz1 : cells[o + 1]? = some (.int .i64 0)) (hz2 : cells[o + 2]? = some (.int .i64 0)) (hz3 : cells[o + 3]? = some (.int .i64 0)) : Fnc Pg 292 [pv, .pointer (some ⟨b, o, none⟩)] [bl b T cells, rd2 p bv s] [⟨pv, (⟨⟨p⟩⟩ : Pt TWalk)⟩, ⟨bv, bs⟩] (fun (_ : Unit) _ => True) (fun _ _ => [bl b T (lockPr bs o (cells, s)).1, rd2 p bv (lockPr bs o (cells, s)).2]) (fun _ _ => []) := by
 exact Fnc.proof Tryz.func292 G 19 G G fun X w => rgP b [o,(o + 1),(o + 2),(o + 3)] [1,2,0] (fun u => int_q pv bv u p bs b T (cells, s) [o, (o + 1), (o + 2), (o + 3)] hp (by intro x hx; simp only [List.mem_cons, List.not_mem_nil, or_false] at hx; rcases hx with rfl | rfl | rfl | rfl <;> first | assumption | (repeat first | rw [intsP_at (by simp only [List.mem_cons, List.not_mem_nil, or_false]; omega)] | rw [textsP_at (by simp only [List.mem_cons, List.not_mem_nil, or_false]; omega)]); assumption) (by simp)) ok_199 app_297 G G (by kernel_rfl) (fun _ => G)<|fR0N () G trivial G Sn
theorem lock_q (hp : q.2.pos ≤ bs.length) (hz0 : q.1[o]? = some (.int .i64 0)) (hz1 : q.1[o + 1]? = some (.int .i64 0)) (hz2 : q.1[o + 2]? = some (.int .i64 0)) (hz3 : q.1[o + 3]? = some (.int .i64 0)) : Fnc Pg 292 [pv, .pointer (some ⟨b, o, none⟩)] [bl b T q.1, rd2 p bv q.2] [⟨pv, (⟨⟨p⟩⟩ : Pt TWalk)⟩, ⟨bv, bs⟩] (fun (_ : Unit) _ => True) (fun _ _ => [bl b T (lockPr bs o q).1, rd2 p bv (lockPr bs o q).2]) (fun _ _ => []) :=
 lock_p pv bv p bs q.2 b T q.1 o hp hz0 hz1 hz2 hz3
theorem answer_p (hp : s.pos ≤ bs.length) (hz0 : cells[o]? = some (.int .i64 0)) (hz1 : cells[o + 1]? = some (.int .i64 0)) (hz2 : cells[o + 2]? = some (.int .i64 0)) (hz3 : cells[o + 3]? = some (.int .i64 0)) : Fnc Pg 293 [pv, .pointer (some ⟨b, o, none⟩)] [bl b T cells, rd2 p bv s] [⟨pv, (⟨⟨p⟩⟩ : Pt TWalk)⟩, ⟨bv, bs⟩] (fun (_ : Unit) _ => True) (fun _ _ => [bl b T (answerPr bs o (cells, s)).1, rd2 p bv (answerPr bs o (cells, s)).2]) (fun _ _ => []) := by
 refine Fnc.proof Tryz.func293 G 27 G G fun X w => ?_
 have ho := lt_of_at hz0
 exact qg<|ru 3 G<|ldB 0 G G (Og G) hz0 G<|al zero_3 G fun b4 => stB 0 G G G (Og G) G (by decide)<|nl<|nx<|qg<|mv G G<|mtL 2 G<|mtL 1 G<|cfN 2 (num1_p pv bv p bs s b4 3 [.int .i64 0] 0 hp G) ok_202 G G (Si [0,1] G) G fun _ _ _ => nl<|nx<|qg<|mv G G<|ldB 0 G G (Og G) (show _ = some (.int .i64 (rdInt bs s).1) from G) G<|ru 2 G<|stB 2 G G G (Og G) G ho<|dpL<|mtL 1 G<|nl<|nx<|rgP b [(o + 1),(o + 2),(o + 3)] [1,2,0] (fun u => int_q pv bv u p bs b T (intsP bs [o] (cells, s)) [(o + 1), (o + 2), (o + 3)] (intsP_pos hp) (by intro x hx; simp only [List.mem_cons, List.not_mem_nil, or_false] at hx; rcases hx with rfl | rfl | rfl <;> first | assumption | (repeat first | rw [intsP_at (by simp only [List.mem_cons, List.not_mem_nil, or_false]; omega)] | rw [textsP_at (by simp only [List.mem_cons, List.not_mem_nil, or_false]; omega)]); assumption) (by simp)) ok_199 app_297 G G (by kernel_rfl) (fun _ => G)<|fR0N () G trivial G Sn
theorem answer_q (hp : q.2.pos ≤ bs.length) (hz0 : q.1[o]? = some (.int .i64 0)) (hz1 : q.1[o + 1]? = some (.int .i64 0)) (hz2 : q.1[o + 2]? = some (.int .i64 0)) (hz3 : q.1[o + 3]? = some (.int .i64 0)) : Fnc Pg 293 [pv, .pointer (some ⟨b, o, none⟩)] [bl b T q.1, rd2 p bv q.2] [⟨pv, (⟨⟨p⟩⟩ : Pt TWalk)⟩, ⟨bv, bs⟩] (fun (_ : Unit) _ => True) (fun _ _ => [bl b T (answerPr bs o q).1, rd2 p bv (answerPr bs o q).2]) (fun _ _ => []) :=
 answer_p pv bv p bs q.2 b T q.1 o hp hz0 hz1 hz2 hz3
end
end Go.Proofs.YtmpoffijcfaalaaGreat.Ref
namespace Go.YtmpoffijcfaalaaGreat
open Go.Eng
section
variable (bs : List UInt8) (s : Rd) (y27 y37 y42 y47 y52 y57 y72 : Value)
theorem gwHolder_eq : (intsP bs [0, 1, 2, 3] (zv0, s)) = (cHolder (gdHolder bs s).1, (gdHolder bs s).2) := by
 simp only [intsP, gdHolder, bnd, List.set_cons_zero, List.set_cons_succ]
theorem gwEnd_eq : (intsP bs [0, 1] (zv1, s)) = (cEnd (gdEnd bs s).1, (gdEnd bs s).2) := by
 simp only [intsP, gdEnd, bnd, List.set_cons_zero, List.set_cons_succ]
theorem gwDeal_eq : (intsP bs [4, 5, 6, 7] (textsP bs [3] (textsP bs [2] (intsP bs [0, 1] (zv2, s))))) = (cDeal (gdDeal bs s).1, (gdDeal bs s).2) := by
 simp only [intsP, textsP, gdDeal, bnd, List.set_cons_zero, List.set_cons_succ]
theorem gwMark_eq : (answerPr bs 3 (flagP bs 2 (intsP bs [0, 1] (zv3, s)))) = (cMark (gdMark bs s).1, (gdMark bs s).2) := by
 simp only [intsP, flagP, answerPr, gdMark, gdAnswer, bnd, List.set_cons_zero, List.set_cons_succ, Nat.reduceAdd]
theorem gwWait_eq : (opPr bs 5 (intsP bs [0, 1, 2, 3, 4] (zv4, s))) = (cWait (gdWait bs s).1, (gdWait bs s).2) := by
 simp only [intsP, textsP, opPr, gdWait, gdOp, bnd, List.set_cons_zero, List.set_cons_succ, Nat.reduceAdd]
theorem gwAccount_eq : (lockPr bs 6 (setL 5 y27 (rdLs bs (gdHolder bs)) (intsP bs [3, 4] (spanPr bs 1 (textsP bs [0] (zv5, s)))))) = (cAccount (gdAccount bs s).1 y27, (gdAccount bs s).2) := by
 simp only [intsP, textsP, setL, spanPr, lockPr, gdAccount, gdSpan, gdLock, bnd, List.set_cons_zero, List.set_cons_succ, Nat.reduceAdd]
theorem gwAccount_l0 (bs : List UInt8) (s : Rd) (y27 : Value) : (rdLs bs (gdHolder bs) (intsP bs [3, 4] (spanPr bs 1 (textsP bs [0] (zv5, s)))).2).1 = (gdAccount bs s).1.fHolders := by
 simp only [intsP, textsP, spanPr, gdAccount, gdSpan, gdLock, bnd, List.set_cons_zero, List.set_cons_succ, Nat.reduceAdd]
theorem gwState_eq : (intsP bs [26, 27, 28] (setL 25 y72 (rdText bs 65535) (planPr bs 18 (planPr bs 11 (setL 10 y57 (rdLs bs (gdEnd bs)) (setL 9 y52 (rdLs bs (gdDeal bs)) (setL 8 y47 (rdLs bs (gdWait bs)) (setL 7 y42 (rdLs bs (gdMark bs)) (setL 6 y37 (rdLs bs (gdAccount bs)) (intsP bs [5] (textsP bs [4] (textsP bs [3] (flagP bs 2 (intsP bs [0, 1] (zv6, s))))))))))))))) = (cState (gdState bs s).1 y37 y42 y47 y52 y57 y72, (gdState bs s).2) := by
 simp only [intsP, textsP, flagP, setL, planPr, gdState, gdPlan, gdPlan, bnd, List.set_cons_zero, List.set_cons_succ, Nat.reduceAdd]
theorem gwState_l0 (bs : List UInt8) (s : Rd) (y37 y42 y47 y52 y57 y72 : Value) : (rdLs bs (gdAccount bs) (intsP bs [5] (textsP bs [4] (textsP bs [3] (flagP bs 2 (intsP bs [0, 1] (zv6, s)))))).2).1 = (gdState bs s).1.fAccounts := by
 simp only [intsP, textsP, flagP, gdState, gdPlan, gdPlan, bnd, List.set_cons_zero, List.set_cons_succ]
theorem gwState_l1 (bs : List UInt8) (s : Rd) (y37 y42 y47 y52 y57 y72 : Value) : (rdLs bs (gdMark bs) (setL 6 y37 (rdLs bs (gdAccount bs)) (intsP bs [5] (textsP bs [4] (textsP bs [3] (flagP bs 2 (intsP bs [0, 1] (zv6, s))))))).2).1 = (gdState bs s).1.fMarks := by
 simp only [intsP, textsP, flagP, setL, gdState, gdPlan, gdPlan, bnd, List.set_cons_zero, List.set_cons_succ]
theorem gwState_l2 (bs : List UInt8) (s : Rd) (y37 y42 y47 y52 y57 y72 : Value) : (rdLs bs (gdWait bs) (setL 7 y42 (rdLs bs (gdMark bs)) (setL 6 y37 (rdLs bs (gdAccount bs)) (intsP bs [5] (textsP bs [4] (textsP bs [3] (flagP bs 2 (intsP bs [0, 1] (zv6, s)))))))).2).1 = (gdState bs s).1.fWaits := by
 simp only [intsP, textsP, flagP, setL, gdState, gdPlan, gdPlan, bnd, List.set_cons_zero, List.set_cons_succ]
theorem gwState_l3 (bs : List UInt8) (s : Rd) (y37 y42 y47 y52 y57 y72 : Value) : (rdLs bs (gdDeal bs) (setL 8 y47 (rdLs bs (gdWait bs)) (setL 7 y42 (rdLs bs (gdMark bs)) (setL 6 y37 (rdLs bs (gdAccount bs)) (intsP bs [5] (textsP bs [4] (textsP bs [3] (flagP bs 2 (intsP bs [0, 1] (zv6, s))))))))).2).1 = (gdState bs s).1.fDeals := by
 simp only [intsP, textsP, flagP, setL, gdState, gdPlan, gdPlan, bnd, List.set_cons_zero, List.set_cons_succ]
theorem gwState_l4 (bs : List UInt8) (s : Rd) (y37 y42 y47 y52 y57 y72 : Value) : (rdLs bs (gdEnd bs) (setL 9 y52 (rdLs bs (gdDeal bs)) (setL 8 y47 (rdLs bs (gdWait bs)) (setL 7 y42 (rdLs bs (gdMark bs)) (setL 6 y37 (rdLs bs (gdAccount bs)) (intsP bs [5] (textsP bs [4] (textsP bs [3] (flagP bs 2 (intsP bs [0, 1] (zv6, s)))))))))).2).1 = (gdState bs s).1.fEnds := by
 simp only [intsP, textsP, flagP, setL, gdState, gdPlan, gdPlan, bnd, List.set_cons_zero, List.set_cons_succ]
theorem gwState_l5 (bs : List UInt8) (s : Rd) (y37 y42 y47 y52 y57 y72 : Value) : (rdText bs 65535 (planPr bs 18 (planPr bs 11 (setL 10 y57 (rdLs bs (gdEnd bs)) (setL 9 y52 (rdLs bs (gdDeal bs)) (setL 8 y47 (rdLs bs (gdWait bs)) (setL 7 y42 (rdLs bs (gdMark bs)) (setL 6 y37 (rdLs bs (gdAccount bs)) (intsP bs [5] (textsP bs [4] (textsP bs [3] (flagP bs 2 (intsP bs [0, 1] (zv6, s))))))))))))).2).1 = (gdState bs s).1.fImage := by
 simp only [intsP, textsP, flagP, setL, planPr, gdState, gdPlan, gdPlan, bnd, List.set_cons_zero, List.set_cons_succ, Nat.reduceAdd]
end
end Go.YtmpoffijcfaalaaGreat
namespace Go.Proofs.YtmpoffijcfaalaaGreat.Ref
open Go.Eng Go.YtmpoffijcfaalaaGreat
section
variable (pv bv : Value) (p : Nat) (bs : List UInt8) (s : Rd) (b : Nat)
theorem holder_e (hp : s.pos ≤ bs.length) : Fnc Pg 310 [pv, .pointer (some ⟨b, 0, none⟩)] [bl b 165 zv0, rd2 p bv s] [⟨pv, (⟨⟨p⟩⟩ : Pt TWalk)⟩, ⟨bv, bs⟩] (fun (_ : Unit) _ => True) (fun _ _ => [bl b 165 (cHolder (gdHolder bs s).1), rd2 p bv (gdHolder bs s).2]) (fun _ _ => []) := by
 exact Fnc.proof Tryz.func310 G 19 G G fun X w => rgP b [0,1,2,3] [1,2,0] (fun u => int_q pv bv u p bs b 165 (zv0, s) [0, 1, 2, 3] hp (zI G) (by decide)) ok_199 app_297 G G (by kernel_rfl) (fun _ => G)<|fR0N () G trivial (by simp only [gwHolder_eq, List.cons_append, List.nil_append] <;> rfl) Sn
theorem end_e (hp : s.pos ≤ bs.length) : Fnc Pg 256 [pv, .pointer (some ⟨b, 0, none⟩)] [bl b 129 zv1, rd2 p bv s] [⟨pv, (⟨⟨p⟩⟩ : Pt TWalk)⟩, ⟨bv, bs⟩] (fun (_ : Unit) _ => True) (fun _ _ => [bl b 129 (cEnd (gdEnd bs s).1), rd2 p bv (gdEnd bs s).2]) (fun _ _ => []) := by
 exact Fnc.proof Tryz.func256 G 13 G G fun X w => rgP b [0,1] [1,2,0] (fun u => int_q pv bv u p bs b 129 (zv1, s) [0, 1] hp (zI G) (by decide)) ok_199 app_297 G G (by kernel_rfl) (fun _ => G)<|fR0N () G trivial (by simp only [gwEnd_eq, List.cons_append, List.nil_append] <;> rfl) Sn
theorem deal_e (hp : s.pos ≤ bs.length) : Fnc Pg 255 [pv, .pointer (some ⟨b, 0, none⟩)] [bl b 126 zv2, rd2 p bv s] [⟨pv, (⟨⟨p⟩⟩ : Pt TWalk)⟩, ⟨bv, bs⟩] (fun (_ : Unit) _ => True) (fun _ _ => [bl b 126 (cDeal (gdDeal bs s).1), rd2 p bv (gdDeal bs s).2]) (fun _ _ => []) := by
 exact Fnc.proof Tryz.func255 G 38 G G fun X w => sq<|rgP b [0,1] [1,2,0] (fun u => int_q pv bv u p bs b 126 (zv2, s) [0, 1] hp (zI G) (by decide)) ok_199 app_297 G G (by kernel_rfl) (fun _ => G)<|nx<|qg<|ru 4 G<|cfN 2 (text1_q pv bv p bs b 126 (intsP bs [0, 1] (zv2, s)) 2 (intsP_pos hp) G) ok_201 G G (Si [0,1] G) G fun _ _ _ => nl<|nx<|qg<|ru 4 G<|cfN 2 (text1_q pv bv p bs b 126 (textsP bs [2] (intsP bs [0, 1] (zv2, s))) 3 (textsP_pos (intsP_pos hp)) G) ok_201 G G (Si [0,1] G) G fun _ _ _ => nl<|nx<|rgP b [4,5,6,7] [1,2,0] (fun u => int_q pv bv u p bs b 126 (textsP bs [3] (textsP bs [2] (intsP bs [0, 1] (zv2, s)))) [4, 5, 6, 7] (textsP_pos (textsP_pos (intsP_pos hp))) (zI G) (by decide)) ok_199 app_297 G G (by kernel_rfl) (fun _ => G)<|fR0N () G trivial (by simp only [gwDeal_eq, List.cons_append, List.nil_append] <;> rfl) Sn
theorem mark_e (hp : s.pos ≤ bs.length) : Fnc Pg 253 [pv, .pointer (some ⟨b, 0, none⟩)] [bl b 122 zv3, rd2 p bv s] [⟨pv, (⟨⟨p⟩⟩ : Pt TWalk)⟩, ⟨bv, bs⟩] (fun (_ : Unit) _ => True) (fun _ _ => [bl b 122 (cMark (gdMark bs s).1), rd2 p bv (gdMark bs s).2]) (fun _ _ => []) := by
 exact Fnc.proof Tryz.func253 G 23 G G fun X w => sq<|rgP b [0,1] [1,2,0] (fun u => int_q pv bv u p bs b 122 (zv3, s) [0, 1] hp (zI G) (by decide)) ok_199 app_297 G G (by kernel_rfl) (fun _ => G)<|nx<|qg<|ru 4 G<|cfN 2 (flag_q pv bv p bs b 122 (intsP bs [0, 1] (zv3, s)) 2 (intsP_pos hp) G) ok_200 G G (Si [0,1] G) G fun _ _ _ => nl<|nx<|rg<|ru 4 G<|cfN 2 (answer_q pv bv p bs b 122 (flagP bs 2 (intsP bs [0, 1] (zv3, s))) 3 (flagP_pos (intsP_pos hp)) G G G G) ok_293 G G (Si [0,1] G) G fun _ _ _ => nl<|fR0N () G trivial (by simp only [gwMark_eq, List.cons_append, List.nil_append] <;> rfl) Sn
theorem wait_e (hp : s.pos ≤ bs.length) : Fnc Pg 254 [pv, .pointer (some ⟨b, 0, none⟩)] [bl b 108 zv4, rd2 p bv s] [⟨pv, (⟨⟨p⟩⟩ : Pt TWalk)⟩, ⟨bv, bs⟩] (fun (_ : Unit) _ => True) (fun _ _ => [bl b 108 (cWait (gdWait bs s).1), rd2 p bv (gdWait bs s).2]) (fun _ _ => []) := by
 exact Fnc.proof Tryz.func254 G 27 G G fun X w => sq<|rgP b [0,1,2,3,4] [1,2,0] (fun u => int_q pv bv u p bs b 108 (zv4, s) [0, 1, 2, 3, 4] hp (zI G) (by decide)) ok_199 app_297 G G (by kernel_rfl) (fun _ => G)<|nx<|rg<|ru 4 G<|cfN 2 (op_q pv bv p bs b 108 (intsP bs [0, 1, 2, 3, 4] (zv4, s)) 5 (intsP_pos hp) G G G G G G) ok_294 G G (Si [0,1] G) G fun _ _ _ => nl<|fR0N () G trivial (by simp only [gwWait_eq, List.cons_append, List.nil_append] <;> rfl) Sn
end
section
attribute [local irreducible] gdSpan gdLock gdHolder gdAnswer gdOp gdPlan gdEnd gdMark gdDeal gdWait gdAccount gdState rdInt rdText rdFlag rdCount
variable (pv bv : Value) (p : Nat) (bs : List UInt8) (s0 : Rd) (b T : Nat) (q : List Value × Rd) (cells : List Value) (o : Nat)
theorem listHolder_p (hp : s0.pos ≤ bs.length) (hz : cells[o]? = some nS) : Fnc Pg 291 [pv, .pointer (some ⟨b, o, none⟩)] [bl b T cells, rd2 p bv s0] [⟨pv, (⟨⟨p⟩⟩ : Pt TWalk)⟩, ⟨bv, bs⟩] (fun (_ : Value) _ => True) (fun y _ => [bl b T (cells.set o y), rd2 p bv (rdLs bs (gdHolder bs) s0).2]) (fun y _ => [⟨y, (rdLs bs (gdHolder bs) s0).1⟩]) := by
 refine Fnc.proof Tryz.func291 G 55 G G fun X w => ?_
 obtain ⟨c0, rfl⟩ : ∃ c0 : List Value, cells = c0.set o nS := ⟨cells, (set_same hz).symm⟩
 have ho : o < c0.length := by have := lt_of_at hz; rwa [List.length_set] at this
 have hNle := rdCount_le' bs s0
 refine qg<|ru 2 G<|ldB 0 G G (Og G) hz G<|ru 1 G<|nl<|nx<|qg<|ru 2 G<|lnV G Tryz.underlying66 G<|cf1 1 (many_c pv bv p bs s0 _ hp) ok_250 G G (Si [0,1] G) G fun _ v14 h14 => ?_
 have h14 : v14 = .int .i64 ((rdCount bs 1024 s0).1 : Int) := h14
 subst h14
 refine ru 1 G<|nl<|nx<|sq<|qg<|mv G G<|ncP 0 G G G<|faP (α := TWalk) (β := RawP) 0 (fun x : TWalk => x.fR) G G (Fg G) pWalk_1 G fun v17 => ldV 0 G G (Og G) G fun w18 => neP Tryz.underlying205 G G G<|nl<|nx<|cdT G<|rg<|ru 2 G<|stB 0 G G G (Og G) G (by rw [List.length_set]; exact ho) ?_
 rw [List.set_set]
 refine nl<|nx<|sa 1 G<|bk<|rwC THolder 165<|lpE (σ := Nat × Value × List THolder × Rd) [(0, _), (1, _), (4, _), (5, _)] _ (fun i C => (6, .int .i64 (i.1 : Int)) :: C) (fun i => [row 165 i.2.1 i.2.2.1, bl b T (c0.set o i.2.1), rd2 p bv i.2.2.2, fz X w]) (fun _ Dc => Dc) (fun i => i.1 ≤ (rdCount bs 1024 s0).1 ∧ i.2.2.1.length = i.1 ∧ i.2.2.2.pos ≤ bs.length ∧ rdLs bs (gdHolder bs) s0 = (i.2.2.1 ++ (rdMany (gdHolder bs) ((rdCount bs 1024 s0).1 - i.1) i.2.2.2).1, (rdMany (gdHolder bs) ((rdCount bs 1024 s0).1 - i.1) i.2.2.2).2)) (fun i => (rdCount bs 1024 s0).1 - i.1) (0, .slice none 0 0, [], (rdCount bs 1024 s0).2) (Gs G) (Sc 1 G (Sc 2 G Sn)) ⟨Nat.zero_le _, G, rdCount_pos hp, G⟩ (Gs G) G (Sc 1 G (Sc 2 G Sn)) ?_
 rintro ⟨i, rv, acc, s⟩ ⟨hi, hl, hs, he⟩
 simp only at hi hl hs he
 refine sq<|qg<|ru 4 G ?_
 refine jy 25 3 [0,1,4,5,6] G G (fun h25 K28 => by
  have p25 := of_decide_eq_true h25
  refine ru 1 G<|gY G G G<|cf1 2 (more_c pv bv p s) ok_251 G G (Sc 0 G Sn) G fun _ v27 h27 => ?_
  have h27 : v27 = .bool (decide ((s.fault : Int) = 0)) := h27
  subst h27
  exact ru 1 G<|K28 G Sr) ?_
 refine nl<|nx<|cdB G (fun h28 => ?_) (fun h28 => ?_)
 ·
  have q28 := h28
  simp at q28
  obtain ⟨q1, q2⟩ := q28
  have hf : s.fault = 0 := by omega
  have hl1 : [(gdHolder bs s).1].length = 1 := rfl
  refine sk<|nx<|sq<|bk<|qg<|al zero_165 G fun b7 => nl<|nx<|sq<|qg<|mv G G<|ncP 0 G G G<|faP (α := TWalk) (β := RawP) 0 (fun x : TWalk => x.fR) G G (Fg G) pWalk_1 G fun v33 => ldV 0 G G (Og G) G fun w34 => eqP Tryz.underlying205 G G G<|nl<|nx<|cdF G<|sk<|nx<|qg<|mv G G<|mtL 3 G<|mtL 1 G<|cfN 2 (holder_e pv bv p bs s b7 hs) ok_310 G G (Si [1,2] G) G fun _ _ _ => nl<|nx<|qg<|mv G G<|ncP 1 G G G<|faP (α := TWalk) (β := RawP) 1 (fun x : TWalk => x.fR) G G (Fg G) pWalk_1 G fun v44 => ldV 0 G G (Og G) G fun w45 => neP Tryz.underlying205 G G G<|nl<|nx<|cdT G<|rgZ (L := [bl b7 165 (cHolder (gdHolder bs s).1), rd2 p bv (gdHolder bs s).2, row 165 rv acc, bl b T (c0.set o rv), fz X w]) [(4,.ld 0)] [(3,⟨some (rv),fun _ => [],false⟩),(5,⟨none,fun u => [⟨u, [(gdHolder bs s).1]⟩],false⟩),(6,⟨none,fun _ => [],true⟩),(8,⟨none,fun _ => [],true⟩)] [] [] [(6,fun L zz => rpE 2 (row 165 (zz 6) (acc ++ [(gdHolder bs s).1])) L),(8,fun L zz => rpE 1 (bl b T ((c0.set o rv).set o (zz 6))) L)] (fun _ => G) (fun _ => by kernel_rfl) ⟨fun V De _=>aP1 (ldB 3 G G (Og G) (set_at ho) G<|oh G G G G),fun V De _=>aP1 (bsM G app_66 G G G G fun b52 => frS1 (α := THolder) (gdHolder bs s).1 (fun S w h => ⟨(), G, by simp, gdHolder_wf bs s⟩)<|nl (odH G G G trivial (Sc 0 G Sn) (SubD.tail Sr))),fun V De _=>aP1 (ap 2 0 G G G G app_66 (by omega) (by omega) G fun v53 => nl (odH G G G trivial Sn (SubD.tail Sr))),fun V De _=>aP1 (stR 3 2 G G G G (Og G) (by rw [List.length_set]; exact ho)<|nl (od0H G G Sr)),trivial⟩ fun V _ => wD [1,2,3,4] G<|?_
  generalize V 6 = v0
  refine bN<|nx<|rg<|mv G G<|adI G G (inI (by omega) (by omega)) G<|ru 1 G<|nl<|dpQ<|mtQ 2 G<|mtQ 2 G ?_
  exact ag ((i + 1, v0, acc ++ [(gdHolder bs s).1], (gdHolder bs s).2) : Nat × Value × List THolder × Rd) ⟨by omega, by simp [hl], gdHolder_pos hs, rdMany_step (by omega) hf he⟩ (by show _ - _ < _ - _; omega) (Gs G) (by simp only [List.set_set]; rfl) (Si [2,3] G)
 ·
  have q28 := h28
  simp at q28
  have hN : rdMany (gdHolder bs) ((rdCount bs 1024 s0).1 - i) s = ([], s) := by
   by_cases hf : s.fault = 0
   ·
    by_cases hlt : i < (rdCount bs 1024 s0).1
    · exact absurd hf (q28 (by omega))
    ·
     have e : (rdCount bs 1024 s0).1 - i = 0 := by omega
     rw [e]
     rfl
   · exact rdMany_stop hf _
  rw [hN] at he
  simp only [List.append_nil] at he
  exact ex<|tE<|tE<|bE<|frRQ<|fR0N rv G trivial (by simp only [he, List.set_set, List.cons_append, List.nil_append] <;> rfl) (by simp only [he]; exact (SubD.cons 0 rfl SubD.nil))
theorem listHolder_q (hp : q.2.pos ≤ bs.length) (hz : q.1[o]? = some nS) : Fnc Pg 291 [pv, .pointer (some ⟨b, o, none⟩)] [bl b T q.1, rd2 p bv q.2] [⟨pv, (⟨⟨p⟩⟩ : Pt TWalk)⟩, ⟨bv, bs⟩] (fun (_ : Value) _ => True) (fun y _ => [bl b T (setL o y (rdLs bs (gdHolder bs)) q).1, rd2 p bv (setL o y (rdLs bs (gdHolder bs)) q).2]) (fun y _ => [⟨y, (rdLs bs (gdHolder bs) q.2).1⟩]) :=
 listHolder_p pv bv p bs q.2 b T q.1 o hp hz
theorem account_e (s : Rd) (b : Nat) (hp : s.pos ≤ bs.length) : Fnc Pg 252 [pv, .pointer (some ⟨b, 0, none⟩)] [bl b 70 zv5, rd2 p bv s] [⟨pv, (⟨⟨p⟩⟩ : Pt TWalk)⟩, ⟨bv, bs⟩] (fun (_ : Value) _ => True) (fun y _ => [bl b 70 (cAccount (gdAccount bs s).1 y), rd2 p bv (gdAccount bs s).2]) (fun y _ => [⟨y, (gdAccount bs s).1.fHolders⟩]) := by
 exact Fnc.proof Tryz.func252 G 33 G G fun X w => qg<|ru 4 G<|cfN 2 (text1_q pv bv p bs b 70 (zv5, s) 0 hp G) ok_201 G G (Si [0,1] G) G fun _ _ _ => nl<|nx<|qg<|ru 4 G<|cfN 2 (span_q pv bv p bs b 70 (textsP bs [0] (zv5, s)) 1 (textsP_pos hp) G G) ok_290 G G (Si [0,1] G) G fun _ _ _ => nl<|nx<|sq<|rgP b [3,4] [1,2,0] (fun u => int_q pv bv u p bs b 70 (spanPr bs 1 (textsP bs [0] (zv5, s))) [3, 4] (spanPr_pos (textsP_pos hp)) (zI G) (by decide)) ok_199 app_297 G G (by kernel_rfl) (fun _ => G)<|nx<|qg<|ru 4 G<|cfN 2 (listHolder_q pv bv p bs b 70 (intsP bs [3, 4] (spanPr bs 1 (textsP bs [0] (zv5, s)))) 5 (intsP_pos (spanPr_pos (textsP_pos hp))) G) ok_291 G G (Si [0,1] G) G fun y27 _ _ => nl<|nx<|rg<|ru 4 G<|cfN 2 (lock_q pv bv p bs b 70 (setL 5 y27 (rdLs bs (gdHolder bs)) (intsP bs [3, 4] (spanPr bs 1 (textsP bs [0] (zv5, s))))) 6 (setL_pos (rdLs_pos (fun _ hh => gdHolder_pos hh) (intsP_pos (spanPr_pos (textsP_pos hp))))) G G G G) ok_292 G G (Si [1,2] G) G fun _ _ _ => nl<|fR0N y27 G trivial (by simp only [gwAccount_eq, List.cons_append, List.nil_append] <;> rfl) (by rw [← gwAccount_l0 bs s y27]; exact (SubD.cons 0 rfl SubD.nil))
theorem listAccount_p (hp : s0.pos ≤ bs.length) (hz : cells[o]? = some nS) : Fnc Pg 203 [pv, .pointer (some ⟨b, o, none⟩)] [bl b T cells, rd2 p bv s0] [⟨pv, (⟨⟨p⟩⟩ : Pt TWalk)⟩, ⟨bv, bs⟩] (fun (_ : Value) _ => True) (fun y _ => [bl b T (cells.set o y), rd2 p bv (rdLs bs (gdAccount bs) s0).2]) (fun y _ => [⟨y, (rdLs bs (gdAccount bs) s0).1⟩]) := by
 refine Fnc.proof Tryz.func203 G 55 G G fun X w => ?_
 obtain ⟨c0, rfl⟩ : ∃ c0 : List Value, cells = c0.set o nS := ⟨cells, (set_same hz).symm⟩
 have ho : o < c0.length := by have := lt_of_at hz; rwa [List.length_set] at this
 have hNle := rdCount_le' bs s0
 refine qg<|ru 2 G<|ldB 0 G G (Og G) hz G<|ru 1 G<|nl<|nx<|qg<|ru 2 G<|lnV G Tryz.underlying50 G<|cf1 1 (many_c pv bv p bs s0 _ hp) ok_250 G G (Si [0,1] G) G fun _ v14 h14 => ?_
 have h14 : v14 = .int .i64 ((rdCount bs 1024 s0).1 : Int) := h14
 subst h14
 refine ru 1 G<|nl<|nx<|sq<|qg<|mv G G<|ncP 0 G G G<|faP (α := TWalk) (β := RawP) 0 (fun x : TWalk => x.fR) G G (Fg G) pWalk_1 G fun v17 => ldV 0 G G (Og G) G fun w18 => neP Tryz.underlying205 G G G<|nl<|nx<|cdT G<|rg<|ru 2 G<|stB 0 G G G (Og G) G (by rw [List.length_set]; exact ho) ?_
 rw [List.set_set]
 refine nl<|nx<|sa 1 G<|bk<|rwC TAccount 70<|lpE (σ := Nat × Value × List TAccount × Rd) [(0, _), (1, _), (4, _), (5, _)] _ (fun i C => (6, .int .i64 (i.1 : Int)) :: C) (fun i => [row 70 i.2.1 i.2.2.1, bl b T (c0.set o i.2.1), rd2 p bv i.2.2.2, fz X w]) (fun _ Dc => Dc) (fun i => i.1 ≤ (rdCount bs 1024 s0).1 ∧ i.2.2.1.length = i.1 ∧ i.2.2.2.pos ≤ bs.length ∧ rdLs bs (gdAccount bs) s0 = (i.2.2.1 ++ (rdMany (gdAccount bs) ((rdCount bs 1024 s0).1 - i.1) i.2.2.2).1, (rdMany (gdAccount bs) ((rdCount bs 1024 s0).1 - i.1) i.2.2.2).2)) (fun i => (rdCount bs 1024 s0).1 - i.1) (0, .slice none 0 0, [], (rdCount bs 1024 s0).2) (Gs G) (Sc 1 G (Sc 2 G Sn)) ⟨Nat.zero_le _, G, rdCount_pos hp, G⟩ (Gs G) G (Sc 1 G (Sc 2 G Sn)) ?_
 rintro ⟨i, rv, acc, s⟩ ⟨hi, hl, hs, he⟩
 simp only at hi hl hs he
 refine sq<|qg<|ru 4 G ?_
 refine jy 25 3 [0,1,4,5,6] G G (fun h25 K28 => by
  have p25 := of_decide_eq_true h25
  refine ru 1 G<|gY G G G<|cf1 2 (more_c pv bv p s) ok_251 G G (Sc 0 G Sn) G fun _ v27 h27 => ?_
  have h27 : v27 = .bool (decide ((s.fault : Int) = 0)) := h27
  subst h27
  exact ru 1 G<|K28 G Sr) ?_
 refine nl<|nx<|cdB G (fun h28 => ?_) (fun h28 => ?_)
 ·
  have q28 := h28
  simp at q28
  obtain ⟨q1, q2⟩ := q28
  have hf : s.fault = 0 := by omega
  have hl1 : [(gdAccount bs s).1].length = 1 := rfl
  refine sk<|nx<|sq<|bk<|qg<|al zero_70 G fun b7 => nl<|nx<|sq<|qg<|mv G G<|ncP 0 G G G<|faP (α := TWalk) (β := RawP) 0 (fun x : TWalk => x.fR) G G (Fg G) pWalk_1 G fun v33 => ldV 0 G G (Og G) G fun w34 => eqP Tryz.underlying205 G G G<|nl<|nx<|cdF G<|sk<|nx<|qg<|mv G G<|mtL 3 G<|mtL 1 G<|cfN 2 (account_e pv bv p bs s b7 hs) ok_252 G G (Si [1,2] G) G fun y7 _ _ => nl<|nx<|qg<|mv G G<|ncP 2 G G G<|faP (α := TWalk) (β := RawP) 2 (fun x : TWalk => x.fR) G G (Fg G) pWalk_1 G fun v44 => ldV 0 G G (Og G) G fun w45 => neP Tryz.underlying205 G G G<|nl<|nx<|cdT G<|rgZ (L := [bl b7 70 (cAccount (gdAccount bs s).1 y7), rd2 p bv (gdAccount bs s).2, row 70 rv acc, bl b T (c0.set o rv), fz X w]) [(4,.ld 0)] [(3,⟨some (rv),fun _ => [],false⟩),(5,⟨none,fun u => [⟨u, [(gdAccount bs s).1]⟩],false⟩),(6,⟨none,fun _ => [],true⟩),(8,⟨none,fun _ => [],true⟩)] [] [] [(6,fun L zz => rpE 2 (row 70 (zz 6) (acc ++ [(gdAccount bs s).1])) L),(8,fun L zz => rpE 1 (bl b T ((c0.set o rv).set o (zz 6))) L)] (fun _ => G) (fun _ => by kernel_rfl) ?_ fun V _ => ?_
  ·
   refine ⟨fun V De _=>aP1 (ldB 3 G G (Og G) (set_at ho) G<|oh G G G G),?_⟩
   refine ⟨fun V De _=>aP1 ?_,?_⟩
   ·
    refine bsM G app_50 G G G G fun b52 => ?_
    refine frS1 (α := TAccount) (gdAccount bs s).1 (fun S w h => ⟨y7, G, fun t ht => by
      simp only [List.mem_cons, List.not_mem_nil, or_false] at ht
      subst ht
      exact h _ (List.mem_of_getElem? (i := 1) G), gdAccount_wf bs s⟩) ?_
    exact nl (odH G G G trivial (Sc 0 G Sn) (SubD.tail Sr))
   exact ⟨fun V De _=>aP1 (ap 2 0 G G G G app_50 (by omega) (by omega) G fun v53 => nl (odH G G G trivial Sn (SubD.tail Sr))),fun V De _=>aP1 (stR 3 2 G G G G (Og G) (by rw [List.length_set]; exact ho)<|nl (od0H G G Sr)),trivial⟩
  ·
   refine wD [1,2,3,4,5] G<|?_
   generalize V 6 = v0
   refine bN<|nx<|rg<|mv G G<|adI G G (inI (by omega) (by omega)) G<|ru 1 G<|nl<|dpQ<|mtQ 2 G<|mtQ 2 G ?_
   exact ag ((i + 1, v0, acc ++ [(gdAccount bs s).1], (gdAccount bs s).2) : Nat × Value × List TAccount × Rd) ⟨by omega, by simp [hl], gdAccount_pos hs, rdMany_step (by omega) hf he⟩ (by show _ - _ < _ - _; omega) (Gs G) (by simp only [List.set_set]; rfl) (Si [3,4] G)
 ·
  have q28 := h28
  simp at q28
  have hN : rdMany (gdAccount bs) ((rdCount bs 1024 s0).1 - i) s = ([], s) := by
   by_cases hf : s.fault = 0
   ·
    by_cases hlt : i < (rdCount bs 1024 s0).1
    · exact absurd hf (q28 (by omega))
    ·
     have e : (rdCount bs 1024 s0).1 - i = 0 := by omega
     rw [e]
     rfl
   · exact rdMany_stop hf _
  rw [hN] at he
  simp only [List.append_nil] at he
  exact ex<|tE<|tE<|bE<|frRQ<|fR0N rv G trivial (by simp only [he, List.set_set, List.cons_append, List.nil_append] <;> rfl) (by simp only [he]; exact (SubD.cons 0 rfl SubD.nil))
theorem listAccount_q (hp : q.2.pos ≤ bs.length) (hz : q.1[o]? = some nS) : Fnc Pg 203 [pv, .pointer (some ⟨b, o, none⟩)] [bl b T q.1, rd2 p bv q.2] [⟨pv, (⟨⟨p⟩⟩ : Pt TWalk)⟩, ⟨bv, bs⟩] (fun (_ : Value) _ => True) (fun y _ => [bl b T (setL o y (rdLs bs (gdAccount bs)) q).1, rd2 p bv (setL o y (rdLs bs (gdAccount bs)) q).2]) (fun y _ => [⟨y, (rdLs bs (gdAccount bs) q.2).1⟩]) :=
 listAccount_p pv bv p bs q.2 b T q.1 o hp hz
theorem listMark_p (hp : s0.pos ≤ bs.length) (hz : cells[o]? = some nS) : Fnc Pg 204 [pv, .pointer (some ⟨b, o, none⟩)] [bl b T cells, rd2 p bv s0] [⟨pv, (⟨⟨p⟩⟩ : Pt TWalk)⟩, ⟨bv, bs⟩] (fun (_ : Value) _ => True) (fun y _ => [bl b T (cells.set o y), rd2 p bv (rdLs bs (gdMark bs) s0).2]) (fun y _ => [⟨y, (rdLs bs (gdMark bs) s0).1⟩]) := by
 refine Fnc.proof Tryz.func204 G 55 G G fun X w => ?_
 obtain ⟨c0, rfl⟩ : ∃ c0 : List Value, cells = c0.set o nS := ⟨cells, (set_same hz).symm⟩
 have ho : o < c0.length := by have := lt_of_at hz; rwa [List.length_set] at this
 have hNle := rdCount_le' bs s0
 refine qg<|ru 2 G<|ldB 0 G G (Og G) hz G<|ru 1 G<|nl<|nx<|qg<|ru 2 G<|lnV G Tryz.underlying25 G<|cf1 1 (many_c pv bv p bs s0 _ hp) ok_250 G G (Si [0,1] G) G fun _ v14 h14 => ?_
 have h14 : v14 = .int .i64 ((rdCount bs 1024 s0).1 : Int) := h14
 subst h14
 refine ru 1 G<|nl<|nx<|sq<|qg<|mv G G<|ncP 0 G G G<|faP (α := TWalk) (β := RawP) 0 (fun x : TWalk => x.fR) G G (Fg G) pWalk_1 G fun v17 => ldV 0 G G (Og G) G fun w18 => neP Tryz.underlying205 G G G<|nl<|nx<|cdT G<|rg<|ru 2 G<|stB 0 G G G (Og G) G (by rw [List.length_set]; exact ho) ?_
 rw [List.set_set]
 refine nl<|nx<|sa 1 G<|bk<|rwC TMark 122<|lpE (σ := Nat × Value × List TMark × Rd) [(0, _), (1, _), (4, _), (5, _)] _ (fun i C => (6, .int .i64 (i.1 : Int)) :: C) (fun i => [row 122 i.2.1 i.2.2.1, bl b T (c0.set o i.2.1), rd2 p bv i.2.2.2, fz X w]) (fun _ Dc => Dc) (fun i => i.1 ≤ (rdCount bs 1024 s0).1 ∧ i.2.2.1.length = i.1 ∧ i.2.2.2.pos ≤ bs.length ∧ rdLs bs (gdMark bs) s0 = (i.2.2.1 ++ (rdMany (gdMark bs) ((rdCount bs 1024 s0).1 - i.1) i.2.2.2).1, (rdMany (gdMark bs) ((rdCount bs 1024 s0).1 - i.1) i.2.2.2).2)) (fun i => (rdCount bs 1024 s0).1 - i.1) (0, .slice none 0 0, [], (rdCount bs 1024 s0).2) (Gs G) (Sc 1 G (Sc 2 G Sn)) ⟨Nat.zero_le _, G, rdCount_pos hp, G⟩ (Gs G) G (Sc 1 G (Sc 2 G Sn)) ?_
 rintro ⟨i, rv, acc, s⟩ ⟨hi, hl, hs, he⟩
 simp only at hi hl hs he
 refine sq<|qg<|ru 4 G ?_
 refine jy 25 3 [0,1,4,5,6] G G (fun h25 K28 => by
  have p25 := of_decide_eq_true h25
  refine ru 1 G<|gY G G G<|cf1 2 (more_c pv bv p s) ok_251 G G (Sc 0 G Sn) G fun _ v27 h27 => ?_
  have h27 : v27 = .bool (decide ((s.fault : Int) = 0)) := h27
  subst h27
  exact ru 1 G<|K28 G Sr) ?_
 refine nl<|nx<|cdB G (fun h28 => ?_) (fun h28 => ?_)
 ·
  have q28 := h28
  simp at q28
  obtain ⟨q1, q2⟩ := q28
  have hf : s.fault = 0 := by omega
  have hl1 : [(gdMark bs s).1].length = 1 := rfl
  refine sk<|nx<|sq<|bk<|qg<|al zero_122 G fun b7 => nl<|nx<|sq<|qg<|mv G G<|ncP 0 G G G<|faP (α := TWalk) (β := RawP) 0 (fun x : TWalk => x.fR) G G (Fg G) pWalk_1 G fun v33 => ldV 0 G G (Og G) G fun w34 => eqP Tryz.underlying205 G G G<|nl<|nx<|cdF G<|sk<|nx<|qg<|mv G G<|mtL 3 G<|mtL 1 G<|cfN 2 (mark_e pv bv p bs s b7 hs) ok_253 G G (Si [1,2] G) G fun _ _ _ => nl<|nx<|qg<|mv G G<|ncP 1 G G G<|faP (α := TWalk) (β := RawP) 1 (fun x : TWalk => x.fR) G G (Fg G) pWalk_1 G fun v44 => ldV 0 G G (Og G) G fun w45 => neP Tryz.underlying205 G G G<|nl<|nx<|cdT G<|rgZ (L := [bl b7 122 (cMark (gdMark bs s).1), rd2 p bv (gdMark bs s).2, row 122 rv acc, bl b T (c0.set o rv), fz X w]) [(4,.ld 0)] [(3,⟨some (rv),fun _ => [],false⟩),(5,⟨none,fun u => [⟨u, [(gdMark bs s).1]⟩],false⟩),(6,⟨none,fun _ => [],true⟩),(8,⟨none,fun _ => [],true⟩)] [] [] [(6,fun L zz => rpE 2 (row 122 (zz 6) (acc ++ [(gdMark bs s).1])) L),(8,fun L zz => rpE 1 (bl b T ((c0.set o rv).set o (zz 6))) L)] (fun _ => G) (fun _ => by kernel_rfl) ⟨fun V De _=>aP1 (ldB 3 G G (Og G) (set_at ho) G<|oh G G G G),fun V De _=>aP1 (bsM G app_25 G G G G fun b52 => frS1 (α := TMark) (gdMark bs s).1 (fun S w h => ⟨(), G, by simp, gdMark_wf bs s⟩)<|nl (odH G G G trivial (Sc 0 G Sn) (SubD.tail Sr))),fun V De _=>aP1 (ap 2 0 G G G G app_25 (by omega) (by omega) G fun v53 => nl (odH G G G trivial Sn (SubD.tail Sr))),fun V De _=>aP1 (stR 3 2 G G G G (Og G) (by rw [List.length_set]; exact ho)<|nl (od0H G G Sr)),trivial⟩ fun V _ => wD [1,2,3,4] G<|?_
  generalize V 6 = v0
  refine bN<|nx<|rg<|mv G G<|adI G G (inI (by omega) (by omega)) G<|ru 1 G<|nl<|dpQ<|mtQ 2 G<|mtQ 2 G ?_
  exact ag ((i + 1, v0, acc ++ [(gdMark bs s).1], (gdMark bs s).2) : Nat × Value × List TMark × Rd) ⟨by omega, by simp [hl], gdMark_pos hs, rdMany_step (by omega) hf he⟩ (by show _ - _ < _ - _; omega) (Gs G) (by simp only [List.set_set]; rfl) (Si [2,3] G)
 ·
  have q28 := h28
  simp at q28
  have hN : rdMany (gdMark bs) ((rdCount bs 1024 s0).1 - i) s = ([], s) := by
   by_cases hf : s.fault = 0
   ·
    by_cases hlt : i < (rdCount bs 1024 s0).1
    · exact absurd hf (q28 (by omega))
    ·
     have e : (rdCount bs 1024 s0).1 - i = 0 := by omega
     rw [e]
     rfl
   · exact rdMany_stop hf _
  rw [hN] at he
  simp only [List.append_nil] at he
  exact ex<|tE<|tE<|bE<|frRQ<|fR0N rv G trivial (by simp only [he, List.set_set, List.cons_append, List.nil_append] <;> rfl) (by simp only [he]; exact (SubD.cons 0 rfl SubD.nil))
theorem listMark_q (hp : q.2.pos ≤ bs.length) (hz : q.1[o]? = some nS) : Fnc Pg 204 [pv, .pointer (some ⟨b, o, none⟩)] [bl b T q.1, rd2 p bv q.2] [⟨pv, (⟨⟨p⟩⟩ : Pt TWalk)⟩, ⟨bv, bs⟩] (fun (_ : Value) _ => True) (fun y _ => [bl b T (setL o y (rdLs bs (gdMark bs)) q).1, rd2 p bv (setL o y (rdLs bs (gdMark bs)) q).2]) (fun y _ => [⟨y, (rdLs bs (gdMark bs) q.2).1⟩]) :=
 listMark_p pv bv p bs q.2 b T q.1 o hp hz
theorem listWait_p (hp : s0.pos ≤ bs.length) (hz : cells[o]? = some nS) : Fnc Pg 205 [pv, .pointer (some ⟨b, o, none⟩)] [bl b T cells, rd2 p bv s0] [⟨pv, (⟨⟨p⟩⟩ : Pt TWalk)⟩, ⟨bv, bs⟩] (fun (_ : Value) _ => True) (fun y _ => [bl b T (cells.set o y), rd2 p bv (rdLs bs (gdWait bs) s0).2]) (fun y _ => [⟨y, (rdLs bs (gdWait bs) s0).1⟩]) := by
 refine Fnc.proof Tryz.func205 G 55 G G fun X w => ?_
 obtain ⟨c0, rfl⟩ : ∃ c0 : List Value, cells = c0.set o nS := ⟨cells, (set_same hz).symm⟩
 have ho : o < c0.length := by have := lt_of_at hz; rwa [List.length_set] at this
 have hNle := rdCount_le' bs s0
 refine qg<|ru 2 G<|ldB 0 G G (Og G) hz G<|ru 1 G<|nl<|nx<|qg<|ru 2 G<|lnV G Tryz.underlying51 G<|cf1 1 (many_c pv bv p bs s0 _ hp) ok_250 G G (Si [0,1] G) G fun _ v14 h14 => ?_
 have h14 : v14 = .int .i64 ((rdCount bs 1024 s0).1 : Int) := h14
 subst h14
 refine ru 1 G<|nl<|nx<|sq<|qg<|mv G G<|ncP 0 G G G<|faP (α := TWalk) (β := RawP) 0 (fun x : TWalk => x.fR) G G (Fg G) pWalk_1 G fun v17 => ldV 0 G G (Og G) G fun w18 => neP Tryz.underlying205 G G G<|nl<|nx<|cdT G<|rg<|ru 2 G<|stB 0 G G G (Og G) G (by rw [List.length_set]; exact ho) ?_
 rw [List.set_set]
 refine nl<|nx<|sa 1 G<|bk<|rwC TWait 108<|lpE (σ := Nat × Value × List TWait × Rd) [(0, _), (1, _), (4, _), (5, _)] _ (fun i C => (6, .int .i64 (i.1 : Int)) :: C) (fun i => [row 108 i.2.1 i.2.2.1, bl b T (c0.set o i.2.1), rd2 p bv i.2.2.2, fz X w]) (fun _ Dc => Dc) (fun i => i.1 ≤ (rdCount bs 1024 s0).1 ∧ i.2.2.1.length = i.1 ∧ i.2.2.2.pos ≤ bs.length ∧ rdLs bs (gdWait bs) s0 = (i.2.2.1 ++ (rdMany (gdWait bs) ((rdCount bs 1024 s0).1 - i.1) i.2.2.2).1, (rdMany (gdWait bs) ((rdCount bs 1024 s0).1 - i.1) i.2.2.2).2)) (fun i => (rdCount bs 1024 s0).1 - i.1) (0, .slice none 0 0, [], (rdCount bs 1024 s0).2) (Gs G) (Sc 1 G (Sc 2 G Sn)) ⟨Nat.zero_le _, G, rdCount_pos hp, G⟩ (Gs G) G (Sc 1 G (Sc 2 G Sn)) ?_
 rintro ⟨i, rv, acc, s⟩ ⟨hi, hl, hs, he⟩
 simp only at hi hl hs he
 refine sq<|qg<|ru 4 G ?_
 refine jy 25 3 [0,1,4,5,6] G G (fun h25 K28 => by
  have p25 := of_decide_eq_true h25
  refine ru 1 G<|gY G G G<|cf1 2 (more_c pv bv p s) ok_251 G G (Sc 0 G Sn) G fun _ v27 h27 => ?_
  have h27 : v27 = .bool (decide ((s.fault : Int) = 0)) := h27
  subst h27
  exact ru 1 G<|K28 G Sr) ?_
 refine nl<|nx<|cdB G (fun h28 => ?_) (fun h28 => ?_)
 ·
  have q28 := h28
  simp at q28
  obtain ⟨q1, q2⟩ := q28
  have hf : s.fault = 0 := by omega
  have hl1 : [(gdWait bs s).1].length = 1 := rfl
  refine sk<|nx<|sq<|bk<|qg<|al zero_108 G fun b7 => nl<|nx<|sq<|qg<|mv G G<|ncP 0 G G G<|faP (α := TWalk) (β := RawP) 0 (fun x : TWalk => x.fR) G G (Fg G) pWalk_1 G fun v33 => ldV 0 G G (Og G) G fun w34 => eqP Tryz.underlying205 G G G<|nl<|nx<|cdF G<|sk<|nx<|qg<|mv G G<|mtL 3 G<|mtL 1 G<|cfN 2 (wait_e pv bv p bs s b7 hs) ok_254 G G (Si [1,2] G) G fun _ _ _ => nl<|nx<|qg<|mv G G<|ncP 1 G G G<|faP (α := TWalk) (β := RawP) 1 (fun x : TWalk => x.fR) G G (Fg G) pWalk_1 G fun v44 => ldV 0 G G (Og G) G fun w45 => neP Tryz.underlying205 G G G<|nl<|nx<|cdT G<|rgZ (L := [bl b7 108 (cWait (gdWait bs s).1), rd2 p bv (gdWait bs s).2, row 108 rv acc, bl b T (c0.set o rv), fz X w]) [(4,.ld 0)] [(3,⟨some (rv),fun _ => [],false⟩),(5,⟨none,fun u => [⟨u, [(gdWait bs s).1]⟩],false⟩),(6,⟨none,fun _ => [],true⟩),(8,⟨none,fun _ => [],true⟩)] [] [] [(6,fun L zz => rpE 2 (row 108 (zz 6) (acc ++ [(gdWait bs s).1])) L),(8,fun L zz => rpE 1 (bl b T ((c0.set o rv).set o (zz 6))) L)] (fun _ => G) (fun _ => by kernel_rfl) ⟨fun V De _=>aP1 (ldB 3 G G (Og G) (set_at ho) G<|oh G G G G),fun V De _=>aP1 (bsM G app_51 G G G G fun b52 => frS1 (α := TWait) (gdWait bs s).1 (fun S w h => ⟨(), G, by simp, gdWait_wf bs s⟩)<|nl (odH G G G trivial (Sc 0 G Sn) (SubD.tail Sr))),fun V De _=>aP1 (ap 2 0 G G G G app_51 (by omega) (by omega) G fun v53 => nl (odH G G G trivial Sn (SubD.tail Sr))),fun V De _=>aP1 (stR 3 2 G G G G (Og G) (by rw [List.length_set]; exact ho)<|nl (od0H G G Sr)),trivial⟩ fun V _ => wD [1,2,3,4] G<|?_
  generalize V 6 = v0
  refine bN<|nx<|rg<|mv G G<|adI G G (inI (by omega) (by omega)) G<|ru 1 G<|nl<|dpQ<|mtQ 2 G<|mtQ 2 G ?_
  exact ag ((i + 1, v0, acc ++ [(gdWait bs s).1], (gdWait bs s).2) : Nat × Value × List TWait × Rd) ⟨by omega, by simp [hl], gdWait_pos hs, rdMany_step (by omega) hf he⟩ (by show _ - _ < _ - _; omega) (Gs G) (by simp only [List.set_set]; rfl) (Si [2,3] G)
 ·
  have q28 := h28
  simp at q28
  have hN : rdMany (gdWait bs) ((rdCount bs 1024 s0).1 - i) s = ([], s) := by
   by_cases hf : s.fault = 0
   ·
    by_cases hlt : i < (rdCount bs 1024 s0).1
    · exact absurd hf (q28 (by omega))
    ·
     have e : (rdCount bs 1024 s0).1 - i = 0 := by omega
     rw [e]
     rfl
   · exact rdMany_stop hf _
  rw [hN] at he
  simp only [List.append_nil] at he
  exact ex<|tE<|tE<|bE<|frRQ<|fR0N rv G trivial (by simp only [he, List.set_set, List.cons_append, List.nil_append] <;> rfl) (by simp only [he]; exact (SubD.cons 0 rfl SubD.nil))
theorem listWait_q (hp : q.2.pos ≤ bs.length) (hz : q.1[o]? = some nS) : Fnc Pg 205 [pv, .pointer (some ⟨b, o, none⟩)] [bl b T q.1, rd2 p bv q.2] [⟨pv, (⟨⟨p⟩⟩ : Pt TWalk)⟩, ⟨bv, bs⟩] (fun (_ : Value) _ => True) (fun y _ => [bl b T (setL o y (rdLs bs (gdWait bs)) q).1, rd2 p bv (setL o y (rdLs bs (gdWait bs)) q).2]) (fun y _ => [⟨y, (rdLs bs (gdWait bs) q.2).1⟩]) :=
 listWait_p pv bv p bs q.2 b T q.1 o hp hz
theorem listDeal_p (hp : s0.pos ≤ bs.length) (hz : cells[o]? = some nS) : Fnc Pg 206 [pv, .pointer (some ⟨b, o, none⟩)] [bl b T cells, rd2 p bv s0] [⟨pv, (⟨⟨p⟩⟩ : Pt TWalk)⟩, ⟨bv, bs⟩] (fun (_ : Value) _ => True) (fun y _ => [bl b T (cells.set o y), rd2 p bv (rdLs bs (gdDeal bs) s0).2]) (fun y _ => [⟨y, (rdLs bs (gdDeal bs) s0).1⟩]) := by
 refine Fnc.proof Tryz.func206 G 55 G G fun X w => ?_
 obtain ⟨c0, rfl⟩ : ∃ c0 : List Value, cells = c0.set o nS := ⟨cells, (set_same hz).symm⟩
 have ho : o < c0.length := by have := lt_of_at hz; rwa [List.length_set] at this
 have hNle := rdCount_le' bs s0
 refine qg<|ru 2 G<|ldB 0 G G (Og G) hz G<|ru 1 G<|nl<|nx<|qg<|ru 2 G<|lnV G Tryz.underlying52 G<|cf1 1 (many_c pv bv p bs s0 _ hp) ok_250 G G (Si [0,1] G) G fun _ v14 h14 => ?_
 have h14 : v14 = .int .i64 ((rdCount bs 1024 s0).1 : Int) := h14
 subst h14
 refine ru 1 G<|nl<|nx<|sq<|qg<|mv G G<|ncP 0 G G G<|faP (α := TWalk) (β := RawP) 0 (fun x : TWalk => x.fR) G G (Fg G) pWalk_1 G fun v17 => ldV 0 G G (Og G) G fun w18 => neP Tryz.underlying205 G G G<|nl<|nx<|cdT G<|rg<|ru 2 G<|stB 0 G G G (Og G) G (by rw [List.length_set]; exact ho) ?_
 rw [List.set_set]
 refine nl<|nx<|sa 1 G<|bk<|rwC TDeal 126<|lpE (σ := Nat × Value × List TDeal × Rd) [(0, _), (1, _), (4, _), (5, _)] _ (fun i C => (6, .int .i64 (i.1 : Int)) :: C) (fun i => [row 126 i.2.1 i.2.2.1, bl b T (c0.set o i.2.1), rd2 p bv i.2.2.2, fz X w]) (fun _ Dc => Dc) (fun i => i.1 ≤ (rdCount bs 1024 s0).1 ∧ i.2.2.1.length = i.1 ∧ i.2.2.2.pos ≤ bs.length ∧ rdLs bs (gdDeal bs) s0 = (i.2.2.1 ++ (rdMany (gdDeal bs) ((rdCount bs 1024 s0).1 - i.1) i.2.2.2).1, (rdMany (gdDeal bs) ((rdCount bs 1024 s0).1 - i.1) i.2.2.2).2)) (fun i => (rdCount bs 1024 s0).1 - i.1) (0, .slice none 0 0, [], (rdCount bs 1024 s0).2) (Gs G) (Sc 1 G (Sc 2 G Sn)) ⟨Nat.zero_le _, G, rdCount_pos hp, G⟩ (Gs G) G (Sc 1 G (Sc 2 G Sn)) ?_
 rintro ⟨i, rv, acc, s⟩ ⟨hi, hl, hs, he⟩
 simp only at hi hl hs he
 refine sq<|qg<|ru 4 G ?_
 refine jy 25 3 [0,1,4,5,6] G G (fun h25 K28 => by
  have p25 := of_decide_eq_true h25
  refine ru 1 G<|gY G G G<|cf1 2 (more_c pv bv p s) ok_251 G G (Sc 0 G Sn) G fun _ v27 h27 => ?_
  have h27 : v27 = .bool (decide ((s.fault : Int) = 0)) := h27
  subst h27
  exact ru 1 G<|K28 G Sr) ?_
 refine nl<|nx<|cdB G (fun h28 => ?_) (fun h28 => ?_)
 ·
  have q28 := h28
  simp at q28
  obtain ⟨q1, q2⟩ := q28
  have hf : s.fault = 0 := by omega
  have hl1 : [(gdDeal bs s).1].length = 1 := rfl
  refine sk<|nx<|sq<|bk<|qg<|al zero_126 G fun b7 => nl<|nx<|sq<|qg<|mv G G<|ncP 0 G G G<|faP (α := TWalk) (β := RawP) 0 (fun x : TWalk => x.fR) G G (Fg G) pWalk_1 G fun v33 => ldV 0 G G (Og G) G fun w34 => eqP Tryz.underlying205 G G G<|nl<|nx<|cdF G<|sk<|nx<|qg<|mv G G<|mtL 3 G<|mtL 1 G<|cfN 2 (deal_e pv bv p bs s b7 hs) ok_255 G G (Si [1,2] G) G fun _ _ _ => nl<|nx<|qg<|mv G G<|ncP 1 G G G<|faP (α := TWalk) (β := RawP) 1 (fun x : TWalk => x.fR) G G (Fg G) pWalk_1 G fun v44 => ldV 0 G G (Og G) G fun w45 => neP Tryz.underlying205 G G G<|nl<|nx<|cdT G<|rgZ (L := [bl b7 126 (cDeal (gdDeal bs s).1), rd2 p bv (gdDeal bs s).2, row 126 rv acc, bl b T (c0.set o rv), fz X w]) [(4,.ld 0)] [(3,⟨some (rv),fun _ => [],false⟩),(5,⟨none,fun u => [⟨u, [(gdDeal bs s).1]⟩],false⟩),(6,⟨none,fun _ => [],true⟩),(8,⟨none,fun _ => [],true⟩)] [] [] [(6,fun L zz => rpE 2 (row 126 (zz 6) (acc ++ [(gdDeal bs s).1])) L),(8,fun L zz => rpE 1 (bl b T ((c0.set o rv).set o (zz 6))) L)] (fun _ => G) (fun _ => by kernel_rfl) ⟨fun V De _=>aP1 (ldB 3 G G (Og G) (set_at ho) G<|oh G G G G),fun V De _=>aP1 (bsM G app_52 G G G G fun b52 => frS1 (α := TDeal) (gdDeal bs s).1 (fun S w h => ⟨(), G, by simp, gdDeal_wf bs s⟩)<|nl (odH G G G trivial (Sc 0 G Sn) (SubD.tail Sr))),fun V De _=>aP1 (ap 2 0 G G G G app_52 (by omega) (by omega) G fun v53 => nl (odH G G G trivial Sn (SubD.tail Sr))),fun V De _=>aP1 (stR 3 2 G G G G (Og G) (by rw [List.length_set]; exact ho)<|nl (od0H G G Sr)),trivial⟩ fun V _ => wD [1,2,3,4] G<|?_
  generalize V 6 = v0
  refine bN<|nx<|rg<|mv G G<|adI G G (inI (by omega) (by omega)) G<|ru 1 G<|nl<|dpQ<|mtQ 2 G<|mtQ 2 G ?_
  exact ag ((i + 1, v0, acc ++ [(gdDeal bs s).1], (gdDeal bs s).2) : Nat × Value × List TDeal × Rd) ⟨by omega, by simp [hl], gdDeal_pos hs, rdMany_step (by omega) hf he⟩ (by show _ - _ < _ - _; omega) (Gs G) (by simp only [List.set_set]; rfl) (Si [2,3] G)
 ·
  have q28 := h28
  simp at q28
  have hN : rdMany (gdDeal bs) ((rdCount bs 1024 s0).1 - i) s = ([], s) := by
   by_cases hf : s.fault = 0
   ·
    by_cases hlt : i < (rdCount bs 1024 s0).1
    · exact absurd hf (q28 (by omega))
    ·
     have e : (rdCount bs 1024 s0).1 - i = 0 := by omega
     rw [e]
     rfl
   · exact rdMany_stop hf _
  rw [hN] at he
  simp only [List.append_nil] at he
  exact ex<|tE<|tE<|bE<|frRQ<|fR0N rv G trivial (by simp only [he, List.set_set, List.cons_append, List.nil_append] <;> rfl) (by simp only [he]; exact (SubD.cons 0 rfl SubD.nil))
theorem listDeal_q (hp : q.2.pos ≤ bs.length) (hz : q.1[o]? = some nS) : Fnc Pg 206 [pv, .pointer (some ⟨b, o, none⟩)] [bl b T q.1, rd2 p bv q.2] [⟨pv, (⟨⟨p⟩⟩ : Pt TWalk)⟩, ⟨bv, bs⟩] (fun (_ : Value) _ => True) (fun y _ => [bl b T (setL o y (rdLs bs (gdDeal bs)) q).1, rd2 p bv (setL o y (rdLs bs (gdDeal bs)) q).2]) (fun y _ => [⟨y, (rdLs bs (gdDeal bs) q.2).1⟩]) :=
 listDeal_p pv bv p bs q.2 b T q.1 o hp hz
theorem listEnd_p (hp : s0.pos ≤ bs.length) (hz : cells[o]? = some nS) : Fnc Pg 207 [pv, .pointer (some ⟨b, o, none⟩)] [bl b T cells, rd2 p bv s0] [⟨pv, (⟨⟨p⟩⟩ : Pt TWalk)⟩, ⟨bv, bs⟩] (fun (_ : Value) _ => True) (fun y _ => [bl b T (cells.set o y), rd2 p bv (rdLs bs (gdEnd bs) s0).2]) (fun y _ => [⟨y, (rdLs bs (gdEnd bs) s0).1⟩]) := by
 refine Fnc.proof Tryz.func207 G 55 G G fun X w => ?_
 obtain ⟨c0, rfl⟩ : ∃ c0 : List Value, cells = c0.set o nS := ⟨cells, (set_same hz).symm⟩
 have ho : o < c0.length := by have := lt_of_at hz; rwa [List.length_set] at this
 have hNle := rdCount_le' bs s0
 refine qg<|ru 2 G<|ldB 0 G G (Og G) hz G<|ru 1 G<|nl<|nx<|qg<|ru 2 G<|lnV G Tryz.underlying53 G<|cf1 1 (many_c pv bv p bs s0 _ hp) ok_250 G G (Si [0,1] G) G fun _ v14 h14 => ?_
 have h14 : v14 = .int .i64 ((rdCount bs 1024 s0).1 : Int) := h14
 subst h14
 refine ru 1 G<|nl<|nx<|sq<|qg<|mv G G<|ncP 0 G G G<|faP (α := TWalk) (β := RawP) 0 (fun x : TWalk => x.fR) G G (Fg G) pWalk_1 G fun v17 => ldV 0 G G (Og G) G fun w18 => neP Tryz.underlying205 G G G<|nl<|nx<|cdT G<|rg<|ru 2 G<|stB 0 G G G (Og G) G (by rw [List.length_set]; exact ho) ?_
 rw [List.set_set]
 refine nl<|nx<|sa 1 G<|bk<|rwC TEnd 129<|lpE (σ := Nat × Value × List TEnd × Rd) [(0, _), (1, _), (4, _), (5, _)] _ (fun i C => (6, .int .i64 (i.1 : Int)) :: C) (fun i => [row 129 i.2.1 i.2.2.1, bl b T (c0.set o i.2.1), rd2 p bv i.2.2.2, fz X w]) (fun _ Dc => Dc) (fun i => i.1 ≤ (rdCount bs 1024 s0).1 ∧ i.2.2.1.length = i.1 ∧ i.2.2.2.pos ≤ bs.length ∧ rdLs bs (gdEnd bs) s0 = (i.2.2.1 ++ (rdMany (gdEnd bs) ((rdCount bs 1024 s0).1 - i.1) i.2.2.2).1, (rdMany (gdEnd bs) ((rdCount bs 1024 s0).1 - i.1) i.2.2.2).2)) (fun i => (rdCount bs 1024 s0).1 - i.1) (0, .slice none 0 0, [], (rdCount bs 1024 s0).2) (Gs G) (Sc 1 G (Sc 2 G Sn)) ⟨Nat.zero_le _, G, rdCount_pos hp, G⟩ (Gs G) G (Sc 1 G (Sc 2 G Sn)) ?_
 rintro ⟨i, rv, acc, s⟩ ⟨hi, hl, hs, he⟩
 simp only at hi hl hs he
 refine sq<|qg<|ru 4 G ?_
 refine jy 25 3 [0,1,4,5,6] G G (fun h25 K28 => by
  have p25 := of_decide_eq_true h25
  refine ru 1 G<|gY G G G<|cf1 2 (more_c pv bv p s) ok_251 G G (Sc 0 G Sn) G fun _ v27 h27 => ?_
  have h27 : v27 = .bool (decide ((s.fault : Int) = 0)) := h27
  subst h27
  exact ru 1 G<|K28 G Sr) ?_
 refine nl<|nx<|cdB G (fun h28 => ?_) (fun h28 => ?_)
 ·
  have q28 := h28
  simp at q28
  obtain ⟨q1, q2⟩ := q28
  have hf : s.fault = 0 := by omega
  have hl1 : [(gdEnd bs s).1].length = 1 := rfl
  refine sk<|nx<|sq<|bk<|qg<|al zero_129 G fun b7 => nl<|nx<|sq<|qg<|mv G G<|ncP 0 G G G<|faP (α := TWalk) (β := RawP) 0 (fun x : TWalk => x.fR) G G (Fg G) pWalk_1 G fun v33 => ldV 0 G G (Og G) G fun w34 => eqP Tryz.underlying205 G G G<|nl<|nx<|cdF G<|sk<|nx<|qg<|mv G G<|mtL 3 G<|mtL 1 G<|cfN 2 (end_e pv bv p bs s b7 hs) ok_256 G G (Si [1,2] G) G fun _ _ _ => nl<|nx<|qg<|mv G G<|ncP 1 G G G<|faP (α := TWalk) (β := RawP) 1 (fun x : TWalk => x.fR) G G (Fg G) pWalk_1 G fun v44 => ldV 0 G G (Og G) G fun w45 => neP Tryz.underlying205 G G G<|nl<|nx<|cdT G<|rgZ (L := [bl b7 129 (cEnd (gdEnd bs s).1), rd2 p bv (gdEnd bs s).2, row 129 rv acc, bl b T (c0.set o rv), fz X w]) [(4,.ld 0)] [(3,⟨some (rv),fun _ => [],false⟩),(5,⟨none,fun u => [⟨u, [(gdEnd bs s).1]⟩],false⟩),(6,⟨none,fun _ => [],true⟩),(8,⟨none,fun _ => [],true⟩)] [] [] [(6,fun L zz => rpE 2 (row 129 (zz 6) (acc ++ [(gdEnd bs s).1])) L),(8,fun L zz => rpE 1 (bl b T ((c0.set o rv).set o (zz 6))) L)] (fun _ => G) (fun _ => by kernel_rfl) ⟨fun V De _=>aP1 (ldB 3 G G (Og G) (set_at ho) G<|oh G G G G),fun V De _=>aP1 (bsM G app_53 G G G G fun b52 => frS1 (α := TEnd) (gdEnd bs s).1 (fun S w h => ⟨(), G, by simp, gdEnd_wf bs s⟩)<|nl (odH G G G trivial (Sc 0 G Sn) (SubD.tail Sr))),fun V De _=>aP1 (ap 2 0 G G G G app_53 (by omega) (by omega) G fun v53 => nl (odH G G G trivial Sn (SubD.tail Sr))),fun V De _=>aP1 (stR 3 2 G G G G (Og G) (by rw [List.length_set]; exact ho)<|nl (od0H G G Sr)),trivial⟩ fun V _ => wD [1,2,3,4] G<|?_
  generalize V 6 = v0
  refine bN<|nx<|rg<|mv G G<|adI G G (inI (by omega) (by omega)) G<|ru 1 G<|nl<|dpQ<|mtQ 2 G<|mtQ 2 G ?_
  exact ag ((i + 1, v0, acc ++ [(gdEnd bs s).1], (gdEnd bs s).2) : Nat × Value × List TEnd × Rd) ⟨by omega, by simp [hl], gdEnd_pos hs, rdMany_step (by omega) hf he⟩ (by show _ - _ < _ - _; omega) (Gs G) (by simp only [List.set_set]; rfl) (Si [2,3] G)
 ·
  have q28 := h28
  simp at q28
  have hN : rdMany (gdEnd bs) ((rdCount bs 1024 s0).1 - i) s = ([], s) := by
   by_cases hf : s.fault = 0
   ·
    by_cases hlt : i < (rdCount bs 1024 s0).1
    · exact absurd hf (q28 (by omega))
    ·
     have e : (rdCount bs 1024 s0).1 - i = 0 := by omega
     rw [e]
     rfl
   · exact rdMany_stop hf _
  rw [hN] at he
  simp only [List.append_nil] at he
  exact ex<|tE<|tE<|bE<|frRQ<|fR0N rv G trivial (by simp only [he, List.set_set, List.cons_append, List.nil_append] <;> rfl) (by simp only [he]; exact (SubD.cons 0 rfl SubD.nil))
theorem listEnd_q (hp : q.2.pos ≤ bs.length) (hz : q.1[o]? = some nS) : Fnc Pg 207 [pv, .pointer (some ⟨b, o, none⟩)] [bl b T q.1, rd2 p bv q.2] [⟨pv, (⟨⟨p⟩⟩ : Pt TWalk)⟩, ⟨bv, bs⟩] (fun (_ : Value) _ => True) (fun y _ => [bl b T (setL o y (rdLs bs (gdEnd bs)) q).1, rd2 p bv (setL o y (rdLs bs (gdEnd bs)) q).2]) (fun y _ => [⟨y, (rdLs bs (gdEnd bs) q.2).1⟩]) :=
 listEnd_p pv bv p bs q.2 b T q.1 o hp hz
end
section
attribute [local irreducible] gdState rdInt rdText rdFlag rdCount
theorem State_e (pv bv : Value) (p : Nat) (bs : List UInt8) (s : Rd) (b : Nat) (hp : s.pos ≤ bs.length) : Fnc Pg 149 [pv, .pointer (some ⟨b, 0, none⟩)] [bl b 55 zv6, rd2 p bv s] [⟨pv, (⟨⟨p⟩⟩ : Pt TWalk)⟩, ⟨bv, bs⟩] (fun (_ : Value × Value × Value × Value × Value × Value) _ => True) (fun y _ => [bl b 55 (cState (gdState bs s).1 y.1 y.2.1 y.2.2.1 y.2.2.2.1 y.2.2.2.2.1 y.2.2.2.2.2), rd2 p bv (gdState bs s).2]) (fun y _ => [⟨y.1, (gdState bs s).1.fAccounts⟩, ⟨y.2.1, (gdState bs s).1.fMarks⟩, ⟨y.2.2.1, (gdState bs s).1.fWaits⟩, ⟨y.2.2.2.1, (gdState bs s).1.fDeals⟩, ⟨y.2.2.2.2.1, (gdState bs s).1.fEnds⟩, ⟨y.2.2.2.2.2, (gdState bs s).1.fImage⟩]) := by
 refine Fnc.proof Tryz.func149 G 85 G G fun X w => sq<|rgP b [0,1] [1,2,0] (fun u => int_q pv bv u p bs b 55 (zv6, s) [0, 1] hp (zI G) (by decide)) ok_199 app_297 G G (by kernel_rfl) (fun _ => G)<|nx<|qg<|ru 4 G<|cfN 2 (flag_q pv bv p bs b 55 (intsP bs [0, 1] (zv6, s)) 2 (intsP_pos hp) G) ok_200 G G (Si [0,1] G) G fun _ _ _ => nl<|nx<|qg<|ru 4 G<|cfN 2 (text1_q pv bv p bs b 55 (flagP bs 2 (intsP bs [0, 1] (zv6, s))) 3 (flagP_pos (intsP_pos hp)) G) ok_201 G G (Si [0,1] G) G fun _ _ _ => nl<|nx<|qg<|ru 4 G<|cfN 2 (text1_q pv bv p bs b 55 (textsP bs [3] (flagP bs 2 (intsP bs [0, 1] (zv6, s)))) 4 (textsP_pos (flagP_pos (intsP_pos hp))) G) ok_201 G G (Si [0,1] G) G fun _ _ _ => nl<|nx<|qg<|ru 4 G<|cfN 2 (num1_q pv bv p bs b 55 (textsP bs [4] (textsP bs [3] (flagP bs 2 (intsP bs [0, 1] (zv6, s))))) 5 (textsP_pos (textsP_pos (flagP_pos (intsP_pos hp)))) G) ok_202 G G (Si [0,1] G) G fun _ _ _ => nl<|nx<|qg<|ru 4 G<|cfN 2 (listAccount_q pv bv p bs b 55 (intsP bs [5] (textsP bs [4] (textsP bs [3] (flagP bs 2 (intsP bs [0, 1] (zv6, s)))))) 6 (intsP_pos (textsP_pos (textsP_pos (flagP_pos (intsP_pos hp))))) G) ok_203 G G (Si [0,1] G) G fun y37 _ _ => nl<|nx<|qg<|ru 4 G<|cfN 2 (listMark_q pv bv p bs b 55 (setL 6 y37 (rdLs bs (gdAccount bs)) (intsP bs [5] (textsP bs [4] (textsP bs [3] (flagP bs 2 (intsP bs [0, 1] (zv6, s))))))) 7 (setL_pos (rdLs_pos (fun _ hh => gdAccount_pos hh) (intsP_pos (textsP_pos (textsP_pos (flagP_pos (intsP_pos hp))))))) G) ok_204 G G (Si [1,2] G) G fun y42 _ _ => nl<|nx<|qg<|ru 4 G<|cfN 2 (listWait_q pv bv p bs b 55 (setL 7 y42 (rdLs bs (gdMark bs)) (setL 6 y37 (rdLs bs (gdAccount bs)) (intsP bs [5] (textsP bs [4] (textsP bs [3] (flagP bs 2 (intsP bs [0, 1] (zv6, s)))))))) 8 (setL_pos (rdLs_pos (fun _ hh => gdMark_pos hh) (setL_pos (rdLs_pos (fun _ hh => gdAccount_pos hh) (intsP_pos (textsP_pos (textsP_pos (flagP_pos (intsP_pos hp))))))))) G) ok_205 G G (Si [2,3] G) G fun y47 _ _ => nl<|nx<|qg<|ru 4 G<|cfN 2 (listDeal_q pv bv p bs b 55 (setL 8 y47 (rdLs bs (gdWait bs)) (setL 7 y42 (rdLs bs (gdMark bs)) (setL 6 y37 (rdLs bs (gdAccount bs)) (intsP bs [5] (textsP bs [4] (textsP bs [3] (flagP bs 2 (intsP bs [0, 1] (zv6, s))))))))) 9 (setL_pos (rdLs_pos (fun _ hh => gdWait_pos hh) (setL_pos (rdLs_pos (fun _ hh => gdMark_pos hh) (setL_pos (rdLs_pos (fun _ hh => gdAccount_pos hh) (intsP_pos (textsP_pos (textsP_pos (flagP_pos (intsP_pos hp))))))))))) G) ok_206 G G (Si [3,4] G) G fun y52 _ _ => nl<|nx<|qg<|ru 4 G<|cfN 2 (listEnd_q pv bv p bs b 55 (setL 9 y52 (rdLs bs (gdDeal bs)) (setL 8 y47 (rdLs bs (gdWait bs)) (setL 7 y42 (rdLs bs (gdMark bs)) (setL 6 y37 (rdLs bs (gdAccount bs)) (intsP bs [5] (textsP bs [4] (textsP bs [3] (flagP bs 2 (intsP bs [0, 1] (zv6, s)))))))))) 10 (setL_pos (rdLs_pos (fun _ hh => gdDeal_pos hh) (setL_pos (rdLs_pos (fun _ hh => gdWait_pos hh) (setL_pos (rdLs_pos (fun _ hh => gdMark_pos hh) (setL_pos (rdLs_pos (fun _ hh => gdAccount_pos hh) (intsP_pos (textsP_pos (textsP_pos (flagP_pos (intsP_pos hp))))))))))))) (by simp only [intsP, textsP, flagP, setL, List.set_cons_zero, List.set_cons_succ, List.getElem?_cons_succ, List.getElem?_cons_zero])) ok_207 G G (Si [4,5] G) G fun y57 _ _ => ?_
 refine nl<|nx<|qg<|ru 4 G<|cfN 2 (plan_q pv bv p bs b 55 (setL 10 y57 (rdLs bs (gdEnd bs)) (setL 9 y52 (rdLs bs (gdDeal bs)) (setL 8 y47 (rdLs bs (gdWait bs)) (setL 7 y42 (rdLs bs (gdMark bs)) (setL 6 y37 (rdLs bs (gdAccount bs)) (intsP bs [5] (textsP bs [4] (textsP bs [3] (flagP bs 2 (intsP bs [0, 1] (zv6, s))))))))))) 11 (setL_pos (rdLs_pos (fun _ hh => gdEnd_pos hh) (setL_pos (rdLs_pos (fun _ hh => gdDeal_pos hh) (setL_pos (rdLs_pos (fun _ hh => gdWait_pos hh) (setL_pos (rdLs_pos (fun _ hh => gdMark_pos hh) (setL_pos (rdLs_pos (fun _ hh => gdAccount_pos hh) (intsP_pos (textsP_pos (textsP_pos (flagP_pos (intsP_pos hp))))))))))))))) (by simp only [intsP, textsP, flagP, setL, List.set_cons_zero, List.set_cons_succ, List.getElem?_cons_succ, List.getElem?_cons_zero]) (by simp only [intsP, textsP, flagP, setL, List.set_cons_zero, List.set_cons_succ, Nat.reduceAdd, List.getElem?_cons_succ, List.getElem?_cons_zero]) (by simp only [intsP, textsP, flagP, setL, List.set_cons_zero, List.set_cons_succ, Nat.reduceAdd, List.getElem?_cons_succ, List.getElem?_cons_zero]) (by simp only [intsP, textsP, flagP, setL, List.set_cons_zero, List.set_cons_succ, Nat.reduceAdd, List.getElem?_cons_succ, List.getElem?_cons_zero]) (by simp only [intsP, textsP, flagP, setL, List.set_cons_zero, List.set_cons_succ, Nat.reduceAdd, List.getElem?_cons_succ, List.getElem?_cons_zero]) (by simp only [intsP, textsP, flagP, setL, List.set_cons_zero, List.set_cons_succ, Nat.reduceAdd, List.getElem?_cons_succ, List.getElem?_cons_zero]) (by simp only [intsP, textsP, flagP, setL, List.set_cons_zero, List.set_cons_succ, Nat.reduceAdd, List.getElem?_cons_succ, List.getElem?_cons_zero])) ok_208 G G (Si [5,6] G) G fun _ _ _ => ?_
 refine nl<|nx<|qg<|ru 4 G<|cfN 2 (plan_q pv bv p bs b 55 (planPr bs 11 (setL 10 y57 (rdLs bs (gdEnd bs)) (setL 9 y52 (rdLs bs (gdDeal bs)) (setL 8 y47 (rdLs bs (gdWait bs)) (setL 7 y42 (rdLs bs (gdMark bs)) (setL 6 y37 (rdLs bs (gdAccount bs)) (intsP bs [5] (textsP bs [4] (textsP bs [3] (flagP bs 2 (intsP bs [0, 1] (zv6, s)))))))))))) 18 (planPr_pos (setL_pos (rdLs_pos (fun _ hh => gdEnd_pos hh) (setL_pos (rdLs_pos (fun _ hh => gdDeal_pos hh) (setL_pos (rdLs_pos (fun _ hh => gdWait_pos hh) (setL_pos (rdLs_pos (fun _ hh => gdMark_pos hh) (setL_pos (rdLs_pos (fun _ hh => gdAccount_pos hh) (intsP_pos (textsP_pos (textsP_pos (flagP_pos (intsP_pos hp)))))))))))))))) (by simp only [intsP, textsP, flagP, setL, planPr, List.set_cons_zero, List.set_cons_succ, Nat.reduceAdd, List.getElem?_cons_succ, List.getElem?_cons_zero]) (by simp only [intsP, textsP, flagP, setL, planPr, List.set_cons_zero, List.set_cons_succ, Nat.reduceAdd, List.getElem?_cons_succ, List.getElem?_cons_zero]) (by simp only [intsP, textsP, flagP, setL, planPr, List.set_cons_zero, List.set_cons_succ, Nat.reduceAdd, List.getElem?_cons_succ, List.getElem?_cons_zero]) (by simp only [intsP, textsP, flagP, setL, planPr, List.set_cons_zero, List.set_cons_succ, Nat.reduceAdd, List.getElem?_cons_succ, List.getElem?_cons_zero]) (by simp only [intsP, textsP, flagP, setL, planPr, List.set_cons_zero, List.set_cons_succ, Nat.reduceAdd, List.getElem?_cons_succ, List.getElem?_cons_zero]) (by simp only [intsP, textsP, flagP, setL, planPr, List.set_cons_zero, List.set_cons_succ, Nat.reduceAdd, List.getElem?_cons_succ, List.getElem?_cons_zero]) (by simp only [intsP, textsP, flagP, setL, planPr, List.set_cons_zero, List.set_cons_succ, Nat.reduceAdd, List.getElem?_cons_succ, List.getElem?_cons_zero])) ok_208 G G (Si [5,6] G) G fun _ _ _ => ?_
 refine nl<|nx<|qg<|ru 4 G<|emL (α := UInt8)<|cfN 2 (bytes_q pv bv p bs b 55 (planPr bs 18 (planPr bs 11 (setL 10 y57 (rdLs bs (gdEnd bs)) (setL 9 y52 (rdLs bs (gdDeal bs)) (setL 8 y47 (rdLs bs (gdWait bs)) (setL 7 y42 (rdLs bs (gdMark bs)) (setL 6 y37 (rdLs bs (gdAccount bs)) (intsP bs [5] (textsP bs [4] (textsP bs [3] (flagP bs 2 (intsP bs [0, 1] (zv6, s))))))))))))) 25 nS (planPr_pos (planPr_pos (setL_pos (rdLs_pos (fun _ hh => gdEnd_pos hh) (setL_pos (rdLs_pos (fun _ hh => gdDeal_pos hh) (setL_pos (rdLs_pos (fun _ hh => gdWait_pos hh) (setL_pos (rdLs_pos (fun _ hh => gdMark_pos hh) (setL_pos (rdLs_pos (fun _ hh => gdAccount_pos hh) (intsP_pos (textsP_pos (textsP_pos (flagP_pos (intsP_pos hp))))))))))))))))) (by simp only [intsP, textsP, flagP, setL, planPr, List.set_cons_zero, List.set_cons_succ, Nat.reduceAdd, List.getElem?_cons_succ, List.getElem?_cons_zero])) ok_209 G G (Si [6,7,0] G) G fun y72 _ _ => ?_
 exact nl<|nx<|rgP b [26,27,28] [8,9,0] (fun u => int_q pv bv u p bs b 55 (setL 25 y72 (rdText bs 65535) (planPr bs 18 (planPr bs 11 (setL 10 y57 (rdLs bs (gdEnd bs)) (setL 9 y52 (rdLs bs (gdDeal bs)) (setL 8 y47 (rdLs bs (gdWait bs)) (setL 7 y42 (rdLs bs (gdMark bs)) (setL 6 y37 (rdLs bs (gdAccount bs)) (intsP bs [5] (textsP bs [4] (textsP bs [3] (flagP bs 2 (intsP bs [0, 1] (zv6, s)))))))))))))) [26, 27, 28] (setL_pos (rdText_pos (planPr_pos (planPr_pos (setL_pos (rdLs_pos (fun _ hh => gdEnd_pos hh) (setL_pos (rdLs_pos (fun _ hh => gdDeal_pos hh) (setL_pos (rdLs_pos (fun _ hh => gdWait_pos hh) (setL_pos (rdLs_pos (fun _ hh => gdMark_pos hh) (setL_pos (rdLs_pos (fun _ hh => gdAccount_pos hh) (intsP_pos (textsP_pos (textsP_pos (flagP_pos (intsP_pos hp))))))))))))))))))) (by intro x hx; simp only [List.mem_cons, List.not_mem_nil, or_false] at hx; rcases hx with rfl | rfl | rfl <;> simp only [intsP, textsP, flagP, setL, planPr, List.set_cons_zero, List.set_cons_succ, Nat.reduceAdd, List.getElem?_cons_succ, List.getElem?_cons_zero]) (by decide)) ok_199 app_297 G G (by kernel_rfl) (fun _ => G)<|fR0N ⟨y37, y42, y47, y52, y57, y72⟩ G trivial (by simp only [gwState_eq, List.cons_append, List.nil_append] <;> rfl) (by rw [← gwState_l0 bs s y37 y42 y47 y52 y57 y72, ← gwState_l1 bs s y37 y42 y47 y52 y57 y72, ← gwState_l2 bs s y37 y42 y47 y52 y57 y72, ← gwState_l3 bs s y37 y42 y47 y52 y57 y72, ← gwState_l4 bs s y37 y42 y47 y52 y57 y72, ← gwState_l5 bs s y37 y42 y47 y52 y57 y72]; exact (SubD.cons 6 rfl (SubD.cons 5 rfl (SubD.cons 4 rfl (SubD.cons 3 rfl (SubD.cons 2 rfl (SubD.cons 0 rfl SubD.nil)))))))
end
section
attribute [local irreducible] gdState rdInt rdText rdFlag rdCount endE errO stO
theorem in_c (sv : Value) (bs : List UInt8) : Fnc Pg 148 [sv] [] [⟨sv, bs⟩] (fun (y : Nat × Nat × Value) v => v = .tuple #[.pointer (some ⟨y.1, 0, none⟩), .int .i64 (if 65536 < bs.length then 22 else 0)]) (fun y _ => [bl y.1 207 [.slice none 0 0, .pointer (some ⟨y.2.1, 0, none⟩), .bool false], rd2 y.2.1 y.2.2 ⟨0, 0⟩]) (fun y _ => [⟨y.2.2, if 65536 < bs.length then [] else bs⟩]) := by
 refine Fnc.proof Tryz.func148 G 14 G G fun X w => sa 2 G<|sq<|qg<|mv G G<|lnP 0 G G Tryz.underlying35 G fun l5 => ru 1 G<|nl<|nx<|cdP G (fun h6 => ?_) (fun h6 => ?_)
 ·
  have hl : 65536 < bs.length := by omega
  simp only [if_pos hl]
  refine emC (α := UInt8)<|qg<|cf (new_c nS [] (by decide)) ok_198 G (Sc 0 G Sn) G fun y7 v7 h7 => ?_
  obtain ⟨p, bv⟩ := y7
  have h7 : v7 = .pointer (some ⟨p, 0, none⟩) := h7
  subst h7
  exact bd (ps := [(1, .tmp 7)]) (cs := [.slice none 0 0, .pointer (some ⟨p, 0, none⟩), .bool false]) (by rfl) (by kernel_rfl) G<|bx G G G fun b9 => ru 2 G<|nl<|nx<|rt<|tR<|fR2 (b9, p, bv) G G G G G (Sc 0 G Sn)
 ·
  have hl : ¬ 65536 < bs.length := by omega
  simp only [if_neg hl]
  refine sk<|nx<|qg<|mv G G<|cf (new_c sv bs (by omega)) ok_198 G (Sc 0 G Sn) G fun y11 v11 h11 => ?_
  obtain ⟨p, bv⟩ := y11
  have h11 : v11 = .pointer (some ⟨p, 0, none⟩) := h11
  subst h11
  exact bd (ps := [(1, .tmp 11)]) (cs := [.slice none 0 0, .pointer (some ⟨p, 0, none⟩), .bool false]) (by rfl) (by kernel_rfl) G<|bx G G G fun b13 => ru 2 G<|nl<|nx<|rt<|fR2 (b13, p, bv) G G G G G (Sc 0 G Sn)
theorem readState_c (sv : Value) (bs : List UInt8) : Fnc Pg 74 [sv] [] [⟨sv, bs⟩] (fun (y : Value × Value × Value × Value × Value × Value) r => r = .tuple #[.agg (cState (rdState bs).1 y.1 y.2.1 y.2.2.1 y.2.2.2.1 y.2.2.2.2.1 y.2.2.2.2.2).toArray, .int .i64 (rdState bs).2]) (fun _ _ => []) (fun y _ => [⟨y.1, (rdState bs).1.fAccounts⟩, ⟨y.2.1, (rdState bs).1.fMarks⟩, ⟨y.2.2.1, (rdState bs).1.fWaits⟩, ⟨y.2.2.2.1, (rdState bs).1.fDeals⟩, ⟨y.2.2.2.2.1, (rdState bs).1.fEnds⟩, ⟨y.2.2.2.2.2, (rdState bs).1.fImage⟩]) := by
 refine Fnc.proof Tryz.func74 G 28 G G fun X w => qg<|al zero_55 G fun b2 => ru 1 G<|nl<|nx<|qg<|mv G G<|cf (in_c sv bs) ok_148 G (Sc 0 G Sn) G fun y9 v9 h9 => ?_
 obtain ⟨pw, p, bv⟩ := y9
 have h9 : v9 = .tuple #[.pointer (some ⟨pw, 0, none⟩), .int .i64 (if 65536 < bs.length then 22 else 0)] := h9
 subst h9
 refine ru 5 G<|nl<|nx<|sq<|sa 2 G<|cdN G (fun h13 => ?_) (fun h13 => ?_)
 ·
  have hl : 65536 < bs.length := by
   by_cases h : 65536 < bs.length
   · exact h
   ·
    rw [if_neg h] at h13
    exact absurd G h13
  simp only [if_pos hl]
  rw [rdState_bad (by rw [errO_long hl]; decide), errO_long hl]
  exact emC (α := TAccount)<|emC (α := TMark)<|emC (α := TWait)<|emC (α := TDeal)<|emC (α := TEnd)<|emC (α := UInt8)<|qg<|bd (ps := []) (cs := (cState ((⟨0, 0, false, ByteArray.empty, ByteArray.empty, 0, [], [], [], [], [], pZ, pZ, [], 0, 0, 0⟩ : TState)) nS nS nS nS nS nS)) (by rfl) (by kernel_rfl) G<|mv G G<|stW 2 (us := (cState ((⟨0, 0, false, ByteArray.empty, ByteArray.empty, 0, [], [], [], [], [], pZ, pZ, [], 0, 0, 0⟩ : TState)) nS nS nS nS nS nS)) G G G (Rg G) G G<|ru 1 G<|nl<|nx<|rt<|tR<|fRG (nS, nS, nS, nS, nS, nS) [_, _, _] (rCT 2 G G G G (Rg G)) (by rfl) G (Sc 5 G (Sc 4 G (Sc 3 G (Sc 2 G (Sc 1 G (Sc 0 G Sn))))))
 ·
  have hl : ¬ 65536 < bs.length := by
   intro h
   rw [if_pos h] at h13
   exact absurd h13 (by decide)
  simp only [if_neg hl]
  refine sk<|nx<|qg<|al zero_55 G fun b6 => nl<|nx<|qg<|mv G G<|mtL 1 G<|frP (α := TWalk) ⟨p⟩ (fun S w h => ⟨(), G, by simp, trivial⟩)<|cfN 2 (State_e (.pointer (some ⟨pw, 0, none⟩)) bv p bs ⟨0, 0⟩ b6 (Nat.zero_le _)) ok_149 G G (Si [0,1] G) G fun y _ _ => ?_
  obtain ⟨y0, y1, y2, y3, y4, y5⟩ := y
  refine nl<|nx<|qg<|mv G G<|ncP 6 G G G<|faP (α := TWalk) (β := RawP) 6 (fun x : TWalk => x.fR) G G (Fg G) pWalk_1 G fun v20 => ldV 0 G G (Og G) G fun w21 => cf1 1 (end_c p bv bs (gdState bs ⟨0, 0⟩).2) ok_150 G G (Sc 8 G Sn) G fun _ v22 h22 => ?_
  have h22 : v22 = .int .i64 (endE bs (gdState bs ⟨0, 0⟩).2) := h22
  subst h22
  refine ru 1 G<|nl<|nx<|sq<|sa 2 G<|cdN G (fun h24 => ?_) (fun h24 => ?_)
  ·
   rw [rdState_bad (by rw [errO_read hl]; exact h24), errO_read hl]
   exact emC (α := TAccount)<|emC (α := TMark)<|emC (α := TWait)<|emC (α := TDeal)<|emC (α := TEnd)<|emC (α := UInt8)<|qg<|bd (ps := []) (cs := (cState ((⟨0, 0, false, ByteArray.empty, ByteArray.empty, 0, [], [], [], [], [], pZ, pZ, [], 0, 0, 0⟩ : TState)) nS nS nS nS nS nS)) (by rfl) (by kernel_rfl) G<|mv G G<|stW 2 (us := (cState ((⟨0, 0, false, ByteArray.empty, ByteArray.empty, 0, [], [], [], [], [], pZ, pZ, [], 0, 0, 0⟩ : TState)) nS nS nS nS nS nS)) G G G (Rg G) G G<|ru 1 G<|nl<|nx<|rt<|tR<|fRG (nS, nS, nS, nS, nS, nS) [_, _, _] (rCT 2 G G G G (Rg G)) (by rfl) G (Sc 5 G (Sc 4 G (Sc 3 G (Sc 2 G (Sc 1 G (Sc 0 G Sn))))))
  ·
   rw [rdState_ok (by rw [errO_read hl]; first | exact h24 | exact not_not.1 h24), stO_read hl]
   exact sk<|nx<|qg<|ldM 0 (cState ((gdState bs ⟨0, 0⟩).1) y0 y1 y2 y3 y4 y5) G G (Rg G) G G<|oc 1 G fun o_y0 => oc 2 G fun o_y1 => oc 3 G fun o_y2 => oc 4 G fun o_y3 => oc 5 G fun o_y4 => oc 6 G fun o_y5 => stW 2 (us := (cState ((gdState bs ⟨0, 0⟩).1) y0 y1 y2 y3 y4 y5)) G G G (Rg G) (by simp only [List.all_cons, List.all_nil, Bool.and_true, o_y0, o_y1, o_y2, o_y3, o_y4, o_y5]; rfl) G<|ru 1 G<|nl<|nx<|rt<|fRG (y0, y1, y2, y3, y4, y5) [_, _, _] (rCT 2 G G G G (Rg G)) (by rfl) G (Sc 1 G (Sc 2 G (Sc 3 G (Sc 4 G (Sc 5 G (Sc 6 G Sn))))))
theorem image19_c (sv : Value) (bs : List UInt8) : Fnc Pg 140 [sv] [] [⟨sv, bs⟩] (fun (y : Value × Value × Value × Value × Value × Value) r => r = .tuple #[.agg (cState (rdState bs).1 y.1 y.2.1 y.2.2.1 y.2.2.2.1 y.2.2.2.2.1 y.2.2.2.2.2).toArray, .bool (decide ((rdState bs).2 = 0))]) (fun _ _ => []) (fun y _ => [⟨y.1, (rdState bs).1.fAccounts⟩, ⟨y.2.1, (rdState bs).1.fMarks⟩, ⟨y.2.2.1, (rdState bs).1.fWaits⟩, ⟨y.2.2.2.1, (rdState bs).1.fDeals⟩, ⟨y.2.2.2.2.1, (rdState bs).1.fEnds⟩, ⟨y.2.2.2.2.2, (rdState bs).1.fImage⟩]) := by
 refine Fnc.proof Tryz.func140 G 14 G G fun X w => qg<|al zero_55 G fun b2 => ru 1 G<|nl<|nx<|qg<|mv G G<|cf (readState_c sv bs) ok_74 G (Sc 0 G Sn) G fun y8 v8 h8 => ?_
 obtain ⟨y0, y1, y2, y3, y4, y5⟩ := y8
 have h8 : v8 = .tuple #[.agg (cState (rdState bs).1 y0 y1 y2 y3 y4 y5).toArray, .int .i64 (rdState bs).2] := h8
 subst h8
 exact ru 3 G<|al zero_55 G fun b4 => oc 0 G fun o_y0 => oc 1 G fun o_y1 => oc 2 G fun o_y2 => oc 3 G fun o_y3 => oc 4 G fun o_y4 => oc 5 G fun o_y5 => stW 0 (us := (cState ((rdState bs).1) y0 y1 y2 y3 y4 y5)) G G G (Rg G) (by simp only [List.all_cons, List.all_nil, Bool.and_true, o_y0, o_y1, o_y2, o_y3, o_y4, o_y5]; rfl) G<|ru 1 G<|nl<|nx<|qg<|ldM 0 (cState ((rdState bs).1) y0 y1 y2 y3 y4 y5) G G (Rg G) G G<|ru 2 G<|oc 0 G fun o_y0 => oc 1 G fun o_y1 => oc 2 G fun o_y2 => oc 3 G fun o_y3 => oc 4 G fun o_y4 => oc 5 G fun o_y5 => stW 1 (us := (cState ((rdState bs).1) y0 y1 y2 y3 y4 y5)) G G G (Rg G) (by simp only [List.all_cons, List.all_nil, Bool.and_true, o_y0, o_y1, o_y2, o_y3, o_y4, o_y5]; rfl) G<|ru 1 G<|nl<|nx<|rt<|fRG (y0, y1, y2, y3, y4, y5) [_, _] (rCT 1 G G G G (Rg G)) (by rfl) G (Sc 0 G (Sc 1 G (Sc 2 G (Sc 3 G (Sc 4 G (Sc 5 G Sn))))))
end
end Go.Proofs.YtmpoffijcfaalaaGreat.Ref
namespace Go.Proofs.YtmpoffijcfaalaaGreat
open Go.Eng Go.YtmpoffijcfaalaaGreat
theorem rs_c (v_b : Value) (b : List UInt8) : Fnc Pg 159 [v_b] [] [⟨v_b, b⟩] (fun (y : Value × Value × Value × Value × Value × Value) r => r = .tuple #[.agg (cState (rdState b).1 y.1 y.2.1 y.2.2.1 y.2.2.2.1 y.2.2.2.2.1 y.2.2.2.2.2).toArray, .int .i64 (rdState b).2]) (fun _ _ => []) (fun y _ => [⟨y.1, (rdState b).1.fAccounts⟩, ⟨y.2.1, (rdState b).1.fMarks⟩, ⟨y.2.2.1, (rdState b).1.fWaits⟩, ⟨y.2.2.2.1, (rdState b).1.fDeals⟩, ⟨y.2.2.2.2.1, (rdState b).1.fEnds⟩, ⟨y.2.2.2.2.2, (rdState b).1.fImage⟩]) := Pen.readState_c v_b b
theorem image19_c (v_b : Value) (b : List UInt8) : Fnc Pg 140 [v_b] [] [⟨v_b, b⟩] (fun (y : Value × Value × Value × Value × Value × Value) r => r = .tuple #[.agg (cState (rdState b).1 y.1 y.2.1 y.2.2.1 y.2.2.2.1 y.2.2.2.2.1 y.2.2.2.2.2).toArray, .bool (decide ((rdState b).2 = 0))]) (fun _ _ => []) (fun y _ => [⟨y.1, (rdState b).1.fAccounts⟩, ⟨y.2.1, (rdState b).1.fMarks⟩, ⟨y.2.2.1, (rdState b).1.fWaits⟩, ⟨y.2.2.2.1, (rdState b).1.fDeals⟩, ⟨y.2.2.2.2.1, (rdState b).1.fEnds⟩, ⟨y.2.2.2.2.2, (rdState b).1.fImage⟩]) := Ref.image19_c v_b b
end Go.Proofs.YtmpoffijcfaalaaGreat
