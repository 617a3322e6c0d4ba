/- Part 12 of auditPlays_holds. -/
import Derived.Test.YtmpoffijcfaalaaGreatAp11

set_option maxRecDepth 20000
set_option maxHeartbeats 1000000
namespace Go.Proofs.YtmpoffijcfaalaaGreat.Pen
open Go.Eng Go.YtmpoffijcfaalaaGreat
section
theorem state_e (pv bv : Value) (p : Nat) (bs : List UInt8) (s : Rd) (b : Nat) (hp : s.pos ≤ bs.length) : Fnc Pg 216 [pv, .pointer (some ⟨b, 0, none⟩)] [bl b 55 zv6, rdr p bv s] [⟨pv, (⟨⟨p⟩⟩ : Pt Tpen)⟩, ⟨bv, bs⟩] (fun (_ : Value × Value × Value × Value × Value × Value) _ => True) (fun y _ => [bl b 55 (cState (gdState bs s).1 y.1 y.2.1 y.2.2.1 y.2.2.2.1 y.2.2.2.2.1 y.2.2.2.2.2), rdr p bv (gdState bs s).2]) (fun y _ => [⟨y.1, (gdState bs s).1.fAccounts⟩, ⟨y.2.1, (gdState bs s).1.fMarks⟩, ⟨y.2.2.1, (gdState bs s).1.fWaits⟩, ⟨y.2.2.2.1, (gdState bs s).1.fDeals⟩, ⟨y.2.2.2.2.1, (gdState bs s).1.fEnds⟩, ⟨y.2.2.2.2.2, (gdState bs s).1.fImage⟩]) := by
 refine Fnc.proof Tryz.func216 G 95 G G fun X w => sq<|rgP b [0,1] [1,2,0] (fun u => int_q pv bv u p bs b 55 (zv6, s) [0, 1] hp (zI G) (by decide)) (Kg G) app_297 G G (by kernel_rfl) (fun _ => G)<|nx<|qg<|ru 4 G<|cfN 2 (flag_q pv bv p bs b 55 (intsP bs [0, 1] (zv6, s)) 2 (intsP_pos hp) G) (Kg G) G G (Si [0,1] G) G fun _ _ _ => nl<|nx<|sq<|rgP b [3,4] [1,2,0] (fun u => text_q pv bv u p bs b 55 (flagP bs 2 (intsP bs [0, 1] (zv6, s))) [3, 4] (flagP_pos (intsP_pos hp)) (zS G) (by decide)) (Kg G) app_348 G G (by kernel_rfl) (fun _ => G)<|nx<|qg<|ru 4 G<|bs1 (xs := [.tmp 30]) (us := [.pointer (some ⟨b, 5, none⟩)]) (E := 243) (bytes := 8) (n := 1) G (by exact app_297) G G G G G G fun b31 => frS (ptrs b [5]) ([5].map fun o => [.pointer (some ⟨b, o, none⟩)]) G (fun S w h => ptrs_rd S w _) (Nat.le_of_ble_eq_true G)<|cfN 2 (int_q pv bv _ p bs b 55 (textsP bs [3, 4] (flagP bs 2 (intsP bs [0, 1] (zv6, s)))) [5] (textsP_pos (flagP_pos (intsP_pos hp))) (by intro x hx; simp only [List.mem_cons, List.not_mem_nil, or_false] at hx; rcases hx with rfl <;> rfl) (by decide)) (Kg G) G G (Si [1,2,0] G) G fun _ _ _ => nl<|nx<|qg<|ru 5 G<|mf1 (ys := [.tmp 37]) (xs := []) G G G<|cfN 2 (listAccount_q pv bv p bs b 55 (intsP bs [5] (textsP bs [3, 4] (flagP bs 2 (intsP bs [0, 1] (zv6, s))))) 6 (intsP_pos (textsP_pos (flagP_pos (intsP_pos hp)))) G) (Kg G) G G (Si [1,2] G) G fun y39 _ _ => nl<|nx<|qg<|ru 5 G<|mf1 (ys := [.tmp 44]) (xs := []) G G G<|cfN 2 (listMark_q pv bv p bs b 55 (setL 6 y39 (rdLs bs (gdAccount bs)) (intsP bs [5] (textsP bs [3, 4] (flagP bs 2 (intsP bs [0, 1] (zv6, s)))))) 7 (setL_pos (rdLs_pos (fun _ hh => gdAccount_pos hh) (intsP_pos (textsP_pos (flagP_pos (intsP_pos hp)))))) G) (Kg G) G G (Si [2,3] G) G fun y46 _ _ => nl<|nx<|qg<|ru 5 G<|mf1 (ys := [.tmp 51]) (xs := []) G G G<|cfN 2 (listWait_q pv bv p bs b 55 (setL 7 y46 (rdLs bs (gdMark bs)) (setL 6 y39 (rdLs bs (gdAccount bs)) (intsP bs [5] (textsP bs [3, 4] (flagP bs 2 (intsP bs [0, 1] (zv6, s))))))) 8 (setL_pos (rdLs_pos (fun _ hh => gdMark_pos hh) (setL_pos (rdLs_pos (fun _ hh => gdAccount_pos hh) (intsP_pos (textsP_pos (flagP_pos (intsP_pos hp)))))))) G) (Kg G) G G (Si [3,4] G) G fun y53 _ _ => nl<|nx<|qg<|ru 5 G<|mf1 (ys := [.tmp 58]) (xs := []) G G G<|cfN 2 (listDeal_q pv bv p bs b 55 (setL 8 y53 (rdLs bs (gdWait bs)) (setL 7 y46 (rdLs bs (gdMark bs)) (setL 6 y39 (rdLs bs (gdAccount bs)) (intsP bs [5] (textsP bs [3, 4] (flagP bs 2 (intsP bs [0, 1] (zv6, s)))))))) 9 (setL_pos (rdLs_pos (fun _ hh => gdWait_pos hh) (setL_pos (rdLs_pos (fun _ hh => gdMark_pos hh) (setL_pos (rdLs_pos (fun _ hh => gdAccount_pos hh) (intsP_pos (textsP_pos (flagP_pos (intsP_pos hp)))))))))) G) (Kg G) G G (Si [4,5] G) G fun y60 _ _ => nl<|nx<|qg<|ru 5 G<|mf1 (ys := [.tmp 65]) (xs := []) G G G<|cfN 2 (listEnd_q pv bv p bs b 55 (setL 9 y60 (rdLs bs (gdDeal bs)) (setL 8 y53 (rdLs bs (gdWait bs)) (setL 7 y46 (rdLs bs (gdMark bs)) (setL 6 y39 (rdLs bs (gdAccount bs)) (intsP bs [5] (textsP bs [3, 4] (flagP bs 2 (intsP bs [0, 1] (zv6, s))))))))) 10 (setL_pos (rdLs_pos (fun _ hh => gdDeal_pos hh) (setL_pos (rdLs_pos (fun _ hh => gdWait_pos hh) (setL_pos (rdLs_pos (fun _ hh => gdMark_pos hh) (setL_pos (rdLs_pos (fun _ hh => gdAccount_pos hh) (intsP_pos (textsP_pos (flagP_pos (intsP_pos hp)))))))))))) (by simp only [intsP, textsP, flagP, setL, List.set_cons_zero, List.set_cons_succ, List.getElem?_cons_succ, List.getElem?_cons_zero])) (Kg G) G G (Si [5,6] G) G fun y67 _ _ => ?_
 refine nl<|nx<|qg<|ru 4 G<|cfN 2 (plan_q pv bv p bs b 55 (setL 10 y67 (rdLs bs (gdEnd bs)) (setL 9 y60 (rdLs bs (gdDeal bs)) (setL 8 y53 (rdLs bs (gdWait bs)) (setL 7 y46 (rdLs bs (gdMark bs)) (setL 6 y39 (rdLs bs (gdAccount bs)) (intsP bs [5] (textsP bs [3, 4] (flagP bs 2 (intsP bs [0, 1] (zv6, s)))))))))) 11 (setL_pos (rdLs_pos (fun _ hh => gdEnd_pos hh) (setL_pos (rdLs_pos (fun _ hh => gdDeal_pos hh) (setL_pos (rdLs_pos (fun _ hh => gdWait_pos hh) (setL_pos (rdLs_pos (fun _ hh => gdMark_pos hh) (setL_pos (rdLs_pos (fun _ hh => gdAccount_pos hh) (intsP_pos (textsP_pos (flagP_pos (intsP_pos hp)))))))))))))) (by simp only [intsP, textsP, flagP, setL, List.set_cons_zero, List.set_cons_succ, List.getElem?_cons_succ, List.getElem?_cons_zero]) (by simp only [intsP, textsP, flagP, setL, List.set_cons_zero, List.set_cons_succ, Nat.reduceAdd, List.getElem?_cons_succ, List.getElem?_cons_zero]) (by simp only [intsP, textsP, flagP, setL, List.set_cons_zero, List.set_cons_succ, Nat.reduceAdd, List.getElem?_cons_succ, List.getElem?_cons_zero]) (by simp only [intsP, textsP, flagP, setL, List.set_cons_zero, List.set_cons_succ, Nat.reduceAdd, List.getElem?_cons_succ, List.getElem?_cons_zero]) (by simp only [intsP, textsP, flagP, setL, List.set_cons_zero, List.set_cons_succ, Nat.reduceAdd, List.getElem?_cons_succ, List.getElem?_cons_zero]) (by simp only [intsP, textsP, flagP, setL, List.set_cons_zero, List.set_cons_succ, Nat.reduceAdd, List.getElem?_cons_succ, List.getElem?_cons_zero]) (by simp only [intsP, textsP, flagP, setL, List.set_cons_zero, List.set_cons_succ, Nat.reduceAdd, List.getElem?_cons_succ, List.getElem?_cons_zero])) (Kg G) G G (Si [6,7] G) G fun _ _ _ => ?_
 refine nl<|nx<|qg<|ru 4 G<|cfN 2 (plan_q pv bv p bs b 55 (planPr bs 11 (setL 10 y67 (rdLs bs (gdEnd bs)) (setL 9 y60 (rdLs bs (gdDeal bs)) (setL 8 y53 (rdLs bs (gdWait bs)) (setL 7 y46 (rdLs bs (gdMark bs)) (setL 6 y39 (rdLs bs (gdAccount bs)) (intsP bs [5] (textsP bs [3, 4] (flagP bs 2 (intsP bs [0, 1] (zv6, s))))))))))) 18 (planPr_pos (setL_pos (rdLs_pos (fun _ hh => gdEnd_pos hh) (setL_pos (rdLs_pos (fun _ hh => gdDeal_pos hh) (setL_pos (rdLs_pos (fun _ hh => gdWait_pos hh) (setL_pos (rdLs_pos (fun _ hh => gdMark_pos hh) (setL_pos (rdLs_pos (fun _ hh => gdAccount_pos hh) (intsP_pos (textsP_pos (flagP_pos (intsP_pos hp))))))))))))))) (by simp only [intsP, textsP, flagP, setL, planPr, List.set_cons_zero, List.set_cons_succ, Nat.reduceAdd, List.getElem?_cons_succ, List.getElem?_cons_zero]) (by simp only [intsP, textsP, flagP, setL, planPr, List.set_cons_zero, List.set_cons_succ, Nat.reduceAdd, List.getElem?_cons_succ, List.getElem?_cons_zero]) (by simp only [intsP, textsP, flagP, setL, planPr, List.set_cons_zero, List.set_cons_succ, Nat.reduceAdd, List.getElem?_cons_succ, List.getElem?_cons_zero]) (by simp only [intsP, textsP, flagP, setL, planPr, List.set_cons_zero, List.set_cons_succ, Nat.reduceAdd, List.getElem?_cons_succ, List.getElem?_cons_zero]) (by simp only [intsP, textsP, flagP, setL, planPr, List.set_cons_zero, List.set_cons_succ, Nat.reduceAdd, List.getElem?_cons_succ, List.getElem?_cons_zero]) (by simp only [intsP, textsP, flagP, setL, planPr, List.set_cons_zero, List.set_cons_succ, Nat.reduceAdd, List.getElem?_cons_succ, List.getElem?_cons_zero]) (by simp only [intsP, textsP, flagP, setL, planPr, List.set_cons_zero, List.set_cons_succ, Nat.reduceAdd, List.getElem?_cons_succ, List.getElem?_cons_zero])) (Kg G) G G (Si [6,7] G) G fun _ _ _ => ?_
 refine nl<|nx<|qg<|ru 4 G<|emL (α := UInt8)<|cfN 2 (bytes_q pv bv p bs b 55 (planPr bs 18 (planPr bs 11 (setL 10 y67 (rdLs bs (gdEnd bs)) (setL 9 y60 (rdLs bs (gdDeal bs)) (setL 8 y53 (rdLs bs (gdWait bs)) (setL 7 y46 (rdLs bs (gdMark bs)) (setL 6 y39 (rdLs bs (gdAccount bs)) (intsP bs [5] (textsP bs [3, 4] (flagP bs 2 (intsP bs [0, 1] (zv6, s)))))))))))) 25 nS (planPr_pos (planPr_pos (setL_pos (rdLs_pos (fun _ hh => gdEnd_pos hh) (setL_pos (rdLs_pos (fun _ hh => gdDeal_pos hh) (setL_pos (rdLs_pos (fun _ hh => gdWait_pos hh) (setL_pos (rdLs_pos (fun _ hh => gdMark_pos hh) (setL_pos (rdLs_pos (fun _ hh => gdAccount_pos hh) (intsP_pos (textsP_pos (flagP_pos (intsP_pos hp)))))))))))))))) (by simp only [intsP, textsP, flagP, setL, planPr, List.set_cons_zero, List.set_cons_succ, Nat.reduceAdd, List.getElem?_cons_succ, List.getElem?_cons_zero])) (Kg G) G G (Si [7,8,0] G) G fun y82 _ _ => ?_
 exact nl<|nx<|rgP b [26,27,28] [9,10,0] (fun u => int_q pv bv u p bs b 55 (setL 25 y82 (rdText bs 65535) (planPr bs 18 (planPr bs 11 (setL 10 y67 (rdLs bs (gdEnd bs)) (setL 9 y60 (rdLs bs (gdDeal bs)) (setL 8 y53 (rdLs bs (gdWait bs)) (setL 7 y46 (rdLs bs (gdMark bs)) (setL 6 y39 (rdLs bs (gdAccount bs)) (intsP bs [5] (textsP bs [3, 4] (flagP bs 2 (intsP bs [0, 1] (zv6, s))))))))))))) [26, 27, 28] (setL_pos (rdText_pos (planPr_pos (planPr_pos (setL_pos (rdLs_pos (fun _ hh => gdEnd_pos hh) (setL_pos (rdLs_pos (fun _ hh => gdDeal_pos hh) (setL_pos (rdLs_pos (fun _ hh => gdWait_pos hh) (setL_pos (rdLs_pos (fun _ hh => gdMark_pos hh) (setL_pos (rdLs_pos (fun _ hh => gdAccount_pos hh) (intsP_pos (textsP_pos (flagP_pos (intsP_pos hp)))))))))))))))))) (by intro x hx; simp only [List.mem_cons, List.not_mem_nil, or_false] at hx; rcases hx with rfl | rfl | rfl <;> simp only [intsP, textsP, flagP, setL, planPr, List.set_cons_zero, List.set_cons_succ, Nat.reduceAdd, List.getElem?_cons_succ, List.getElem?_cons_zero]) (by decide)) (Kg G) app_297 G G (by kernel_rfl) (fun _ => G)<|fR0N ⟨y39, y46, y53, y60, y67, y82⟩ G trivial (by simp only [gdState_eq, List.cons_append, List.nil_append] <;> rfl) (by rw [← gdState_l0 bs s y39 y46 y53 y60 y67 y82, ← gdState_l1 bs s y39 y46 y53 y60 y67 y82, ← gdState_l2 bs s y39 y46 y53 y60 y67 y82, ← gdState_l3 bs s y39 y46 y53 y60 y67 y82, ← gdState_l4 bs s y39 y46 y53 y60 y67 y82, ← gdState_l5 bs s y39 y46 y53 y60 y67 y82]; exact (SubD.cons 6 rfl (SubD.cons 5 rfl (SubD.cons 4 rfl (SubD.cons 3 rfl (SubD.cons 2 rfl (SubD.cons 0 rfl SubD.nil)))))))
attribute [local irreducible] gdState rdInt rdText rdFlag rdCount endE errO stO
theorem readState1_c (pv bv : Value) (p : Nat) (bs : List UInt8) (s : Rd) (b : Nat) (hp : s.pos ≤ bs.length) : Fnc Pg 215 [pv, .pointer (some ⟨b, 0, none⟩)] [bl b 55 zv6, rdr p bv s] [⟨pv, (⟨⟨p⟩⟩ : Pt Tpen)⟩, ⟨bv, bs⟩] (fun (_ : Value × Value × Value × Value × Value × Value) _ => True) (fun y _ => [bl b 55 (cState (gdState bs s).1 y.1 y.2.1 y.2.2.1 y.2.2.2.1 y.2.2.2.2.1 y.2.2.2.2.2), rdr p bv (gdState bs s).2]) (fun y _ => [⟨y.1, (gdState bs s).1.fAccounts⟩, ⟨y.2.1, (gdState bs s).1.fMarks⟩, ⟨y.2.2.1, (gdState bs s).1.fWaits⟩, ⟨y.2.2.2.1, (gdState bs s).1.fDeals⟩, ⟨y.2.2.2.2.1, (gdState bs s).1.fEnds⟩, ⟨y.2.2.2.2.2, (gdState bs s).1.fImage⟩]) := by
 exact Fnc.proof Tryz.func215 G 5 G G fun X w => rg<|mv G G<|cfN 2 (state_e pv bv p bs s b hp) (Kg G) G G (Si [0,1] G) G fun y _ _ => nl<|fR0N y G trivial G (Sc 0 G (Sc 1 G (Sc 2 G (Sc 3 G (Sc 4 G (Sc 5 G Sn))))))
theorem read_c (sv : Value) (bs : List UInt8) (b : Nat) : Fnc Pg 214 [sv, .func (.func 215) #[] #[.pointer (some ⟨b, 0, none⟩)]] [bl b 55 zv6] [⟨sv, bs⟩] (fun (_ : Value × Value × Value × Value × Value × Value) v => v = .int .i64 (errO bs)) (fun y _ => [bl b 55 (cState (stO bs) y.1 y.2.1 y.2.2.1 y.2.2.2.1 y.2.2.2.2.1 y.2.2.2.2.2)]) (fun y _ => [⟨y.1, (stO bs).fAccounts⟩, ⟨y.2.1, (stO bs).fMarks⟩, ⟨y.2.2.1, (stO bs).fWaits⟩, ⟨y.2.2.2.1, (stO bs).fDeals⟩, ⟨y.2.2.2.2.1, (stO bs).fEnds⟩, ⟨y.2.2.2.2.2, (stO bs).fImage⟩]) := by
 refine Fnc.proof Tryz.func214 G 30 G G fun X w => sa 1 G<|sq<|qg<|mv G G<|lnP 0 G G Tryz.underlying35 G fun l7 => ru 1 G<|nl<|nx<|cdP G (fun h8 => ?_) (fun h8 => ?_)
 ·
  have hl : 65536 < bs.length := by omega
  rw [stO_long hl, errO_long hl]
  exact emC (α := TAccount)<|emC (α := TMark)<|emC (α := TWait)<|emC (α := TDeal)<|emC (α := TEnd)<|emC (α := UInt8)<|sa 1 G<|rt<|tR<|fR1 (nS, nS, nS, nS, nS, nS) G G G G (Sc 5 G (Sc 4 G (Sc 3 G (Sc 2 G (Sc 1 G (Sc 0 G Sn))))))
 ·
  have hl : ¬ 65536 < bs.length := by omega
  rw [stO_read hl, errO_read hl]
  refine sk<|nx<|qg<|mv G G<|cf (Rdr.new_r sv bs (by omega)) (Kg G) G (Sc 0 G Sn) G fun y10 v10 h10 => ?_
  obtain ⟨p, bv⟩ := y10
  have h10 : v10 = .pointer (some ⟨p, 0, none⟩) := h10
  subst h10
  refine bd (ps := [(0, .tmp 10)]) (cs := [.pointer (some ⟨p, 0, none⟩), .slice none 0 0, .bool false, .int .i64 0]) (by rfl) (by kernel_rfl) G<|bx G G G fun b12 => ru 1 G<|nl<|nx<|qg<|frP (α := Tpen) ⟨p⟩ (fun S w h => ⟨(), G, by simp, trivial⟩)<|ru 2 G<|mtL 1 G<|cfNc 2 (readState1_c (.pointer (some ⟨b12, 0, none⟩)) bv p bs ⟨0, 0⟩ b (Nat.zero_le _)) (Kg G) G G G G (Si [0,1] G) G fun y _ _ => nl<|nx<|sq<|qg<|mv G G<|ncP 6 G G G<|faP (α := Tpen) (β := Int) 6 (fun x : Tpen => x.fBad) G G (Fg G) ppen_3 G fun v18 => ldV 0 G G (Og G) G fun w19 => ru 1 G<|nl<|nx<|cdN G (fun h20 => ?_) (fun h20 => ?_)
  · exact absurd G h20 --#done
  ·
   refine sk<|nx<|qg<|mv G G<|ncP 7 G G G<|faP (α := Tpen) (β := RawP) 7 (fun x : Tpen => x.fIn) G G (Fg G) ppen_0 G fun v27 => ldV 0 G G (Og G) G fun w28 => cf1 1 (Rdr.end_r p bv bs (gdState bs ⟨0, 0⟩).2) (Kg G) G G (Sc 9 G Sn) G fun _ v29 h29 => ?_
   have h29 : v29 = .int .i64 (endE bs (gdState bs ⟨0, 0⟩).2) := h29
   subst h29
   exact ru 1 G<|nl<|nx<|rt<|mtQ 1 G<|dpQ<|fR1 y G G G G (Sc 2 G (Sc 3 G (Sc 4 G (Sc 5 G (Sc 6 G (Sc 7 G Sn))))))
end
section
attribute [local irreducible] gdState rdInt rdText rdFlag rdCount endE errO stO
theorem readState_c (sv : Value) (bs : List UInt8) : Fnc Pg 159 [sv] [] [⟨sv, bs⟩] (fun (y : Value × Value × Value × Value × Value × Value) r => r = .tuple #[.agg (cState (rdState bs).1 y.1 y.2.1 y.2.2.1 y.2.2.2.1 y.2.2.2.2.1 y.2.2.2.2.2).toArray, .int .i64 (rdState bs).2]) (fun _ _ => []) (fun y _ => [⟨y.1, (rdState bs).1.fAccounts⟩, ⟨y.2.1, (rdState bs).1.fMarks⟩, ⟨y.2.2.1, (rdState bs).1.fWaits⟩, ⟨y.2.2.2.1, (rdState bs).1.fDeals⟩, ⟨y.2.2.2.2.1, (rdState bs).1.fEnds⟩, ⟨y.2.2.2.2.2, (rdState bs).1.fImage⟩]) := by
 refine Fnc.proof Tryz.func159 G 14 G G fun X w => qg<|al zero_55 G fun b2 => ru 1 G<|nl<|nx<|qg<|al zero_55 G fun b4 => nl<|nx<|sq<|qg<|mv G G<|mf (xs := [.tmp 4]) G G<|cfN 1 (read_c sv bs b4) (Kg G) G G (Sc 0 G Sn) G fun y v8 h8 => ?_
 have h8 : v8 = .int .i64 (errO bs) := h8
 subst h8
 obtain ⟨y0, y1, y2, y3, y4, y5⟩ := y
 refine ru 1 G<|nl<|nx<|sa 2 G<|cdN G (fun h10 => ?_) (fun h10 => ?_)
 ·
  rw [rdState_bad h10]
  exact emC (α := TAccount)<|emC (α := TMark)<|emC (α := TWait)<|emC (α := TDeal)<|emC (α := TEnd)<|emC (α := UInt8)<|qg<|bd (ps := []) (cs := (cState ((⟨0, 0, false, ByteArray.empty, ByteArray.empty, 0, [], [], [], [], [], pZ, pZ, [], 0, 0, 0⟩ : TState)) nS nS nS nS nS nS)) (by rfl) (by kernel_rfl) G<|mv G G<|stW 1 (us := (cState ((⟨0, 0, false, ByteArray.empty, ByteArray.empty, 0, [], [], [], [], [], pZ, pZ, [], 0, 0, 0⟩ : TState)) nS nS nS nS nS nS)) G G G (Rg G) G G<|ru 1 G<|nl<|nx<|rt<|tR<|fRG (nS, nS, nS, nS, nS, nS) [_, _] (rCT 1 G G G G (Rg G)) (by rfl) G (Sc 5 G (Sc 4 G (Sc 3 G (Sc 2 G (Sc 1 G (Sc 0 G Sn))))))
 ·
  rw [rdState_ok h10]
  exact sk<|nx<|qg<|ldM 0 (cState ((stO bs)) y0 y1 y2 y3 y4 y5) G G (Rg G) G G<|oc 0 G fun o_y0 => oc 1 G fun o_y1 => oc 2 G fun o_y2 => oc 3 G fun o_y3 => oc 4 G fun o_y4 => oc 5 G fun o_y5 => stW 1 (us := (cState ((stO bs)) y0 y1 y2 y3 y4 y5)) G G G (Rg G) (by simp only [List.all_cons, List.all_nil, Bool.and_true, o_y0, o_y1, o_y2, o_y3, o_y4, o_y5]; rfl) G<|ru 1 G<|nl<|nx<|rt<|fRG (y0, y1, y2, y3, y4, y5) [_, _] (rCT 1 G G G G (Rg G)) (by rfl) G (Sc 0 G (Sc 1 G (Sc 2 G (Sc 3 G (Sc 4 G (Sc 5 G Sn))))))
end
end Go.Proofs.YtmpoffijcfaalaaGreat.Pen
namespace Go.Proofs.YtmpoffijcfaalaaGreat.Ref
open Go.Eng
theorem app_35 : AppTy Pg 35 5 1 1 := AppTy.mk Tryz.underlying35 (by kernel_rfl) (by decide)
theorem mixed : Tryz.prog.follows .mixedOrders = true := by kernel_rfl
theorem one_3 : OneTy Pg 3 := ⟨⟨_, Tryz.underlying3, rfl⟩, by kernel_rfl⟩
theorem slt_35 : SliceTy Pg 35 5 1 := ⟨Tryz.underlying35, by kernel_rfl⟩
theorem app_25 : AppTy Pg 25 122 7 56 := AppTy.mk Tryz.underlying25 (by kernel_rfl) (by decide)
theorem app_297 : AppTy Pg 297 243 1 8 := AppTy.mk Tryz.underlying297 (by kernel_rfl) (by decide)
theorem app_50 : AppTy Pg 50 70 10 104 := AppTy.mk Tryz.underlying50 (by kernel_rfl) (by decide)
theorem app_51 : AppTy Pg 51 108 11 104 := AppTy.mk Tryz.underlying51 (by kernel_rfl) (by decide)
theorem app_52 : AppTy Pg 52 126 8 80 := AppTy.mk Tryz.underlying52 (by kernel_rfl) (by decide)
theorem app_53 : AppTy Pg 53 129 2 16 := AppTy.mk Tryz.underlying53 (by kernel_rfl) (by decide)
theorem app_66 : AppTy Pg 66 165 4 32 := AppTy.mk Tryz.underlying66 (by kernel_rfl) (by decide)
theorem slt_297 : SliceTy Pg 297 243 1 := ⟨Tryz.underlying297, by kernel_rfl⟩
theorem zero_108 : ZeroOf Pg 108 [.int .i64 0, .int .i64 0, .int .i64 0, .int .i64 0, .int .i64 0, .int .i64 0, .string ByteArray.empty, .string ByteArray.empty, .int .i64 0, .int .i64 0, .int .i64 0] := ZeroOf.mk (by kernel_rfl)
theorem zero_122 : ZeroOf Pg 122 [.int .i64 0, .int .i64 0, .bool false, .int .i64 0, .int .i64 0, .int .i64 0, .int .i64 0] := ZeroOf.mk (by kernel_rfl)
theorem zero_126 : ZeroOf Pg 126 [.int .i64 0, .int .i64 0, .string ByteArray.empty, .string ByteArray.empty, .int .i64 0, .int .i64 0, .int .i64 0, .int .i64 0] := ZeroOf.mk (by kernel_rfl)
theorem zero_129 : ZeroOf Pg 129 [.int .i64 0, .int .i64 0] := ZeroOf.mk (by kernel_rfl)
theorem zero_165 : ZeroOf Pg 165 [.int .i64 0, .int .i64 0, .int .i64 0, .int .i64 0] := ZeroOf.mk (by kernel_rfl)
theorem zero_3 : ZeroOf Pg 3 [.int .i64 0] := ZeroOf.mk (by kernel_rfl)
theorem zero_35 : ZeroOf Pg 35 [.slice none 0 0] := ZeroOf.mk (by kernel_rfl)
theorem zero_55 : ZeroOf Pg 55 [.int .i64 0, .int .i64 0, .bool false, .string ByteArray.empty, .string ByteArray.empty, .int .i64 0, .slice none 0 0, .slice none 0 0, .slice none 0 0, .slice none 0 0, .slice none 0 0, .int .i64 0, .int .i64 0, .int .i64 0, .string ByteArray.empty, .string ByteArray.empty, .int .i64 0, .int .i64 0, .int .i64 0, .int .i64 0, .int .i64 0, .string ByteArray.empty, .string ByteArray.empty, .int .i64 0, .int .i64 0, .slice none 0 0, .int .i64 0, .int .i64 0, .int .i64 0] := ZeroOf.mk (by kernel_rfl)
theorem zero_70 : ZeroOf Pg 70 [.string ByteArray.empty, .int .i64 0, .int .i64 0, .int .i64 0, .int .i64 0, .slice none 0 0, .int .i64 0, .int .i64 0, .int .i64 0, .int .i64 0] := ZeroOf.mk (by kernel_rfl)
end Go.Proofs.YtmpoffijcfaalaaGreat.Ref
namespace Go.YtmpoffijcfaalaaGreat
open Go.Eng
@[reducible] def rd2 (p : Nat) (bv : Value) (s : Rd) : OwnE := bl p 264 [bv, .int .i64 (s.pos : Int), .int .i64 (s.fault : Int)]
def numTup2 (pos : Nat) (x : Nat × Nat × Nat) : Value := .tuple #[.int .u64 (x.1 : Int), .int .i64 ((if x.2.2 = 0 then pos + x.2.1 else 0 : Nat) : Int), .int .i64 (x.2.2 : Int)]
theorem numD_bad {i v : Nat} {c : UInt8} {r : List UInt8} (h : (i = 9 ∧ 1 < c.toNat) ∨ (0 < i ∧ c.toNat = 0)) : numD i v (c :: r) = (0, 0, 21) := by
 simp only [numD]
 split
 · rfl
 ·
  split
  ·
   omega
  ·
   split
   · rfl
   ·
    omega
theorem numD_more {i v : Nat} {c : UInt8} {r : List UInt8} (h : ¬ ((i = 9 ∧ 1 < c.toNat) ∨ (0 < i ∧ c.toNat = 0))) (h2 : 128 ≤ c.toNat) : numD i v (c :: r) = numD (i + 1) (v + c.toNat % 128 * 2 ^ (7 * i)) r := by
 simp only [numD]
 rw [if_neg (by omega), if_pos h2]
theorem numD_last {i v : Nat} {c : UInt8} {r : List UInt8} (h : ¬ ((i = 9 ∧ 1 < c.toNat) ∨ (0 < i ∧ c.toNat = 0))) (h2 : ¬ 128 ≤ c.toNat) : numD i v (c :: r) = (v + c.toNat % 128 * 2 ^ (7 * i), i + 1, 0) := by
 simp only [numD]
 rw [if_neg (by omega), if_neg h2, if_neg (by omega)]
theorem num_sum {i v : Nat} {c : UInt8} (hi : i ≤ 9) (hv : v < 2 ^ (7 * i)) (h : ¬ ((i = 9 ∧ 1 < c.toNat) ∨ (0 < i ∧ c.toNat = 0))) : v + c.toNat % 128 * 2 ^ (7 * i) < 2 ^ 64 := by
 by_cases h9 : i = 9
 ·
  subst h9
  have h1 : c.toNat % 128 ≤ 1 := by omega
  have h2 : c.toNat % 128 * 2 ^ (7 * 9) ≤ 1 * 2 ^ (7 * 9) := Nat.mul_le_mul_right _ h1
  simp only [Nat.reduceMul, Nat.reducePow] at hv h2 ⊢
  omega
 ·
  have h := shl_lt (c := c.toNat) hv
  have := pow7_le (i := i + 1) (by omega)
  omega
theorem u64_tmod (c : UInt8) : IntKind.u64.wrap ((c.toNat : Int).tmod 128) = ((c.toNat % 128 : Nat) : Int) := by
 rw [show ((128 : Int)) = ((128 : Nat) : Int) from rfl, ← Int.ofNat_tmod, wrap_u64' (by omega)]
theorem u64_add {a b : Nat} (h : a + b < 2 ^ 64) : IntKind.u64.wrap ((a : Int) + (b : Int)) = ((a + b : Nat) : Int) := by
 rw [← Int.natCast_add, wrap_u64' (by omega)]
theorem u64_half (n : Nat) (h : n < 2 ^ 64) : IntKind.u64.wrap ((n : Int).tdiv 2) = ((n / 2 : Nat) : Int) := by
 rw [show ((2 : Int)) = ((2 : Nat) : Int) from rfl, ← Int.ofNat_tdiv, wrap_u64' (by omega)]
theorem u64_odd (n : Nat) : (n : Int).tmod 2 = ((n % 2 : Nat) : Int) := by
 rw [show ((2 : Int)) = ((2 : Nat) : Int) from rfl, ← Int.ofNat_tmod]
theorem step_bad {s : Rd} {n e : Nat} (hf : s.fault = 0) (he : e ≠ 0) : s.step n e = ⟨s.pos, e⟩ := by
 unfold Rd.step
 rw [if_neg (by omega), if_pos he]
theorem step_ok {s : Rd} {n e : Nat} (hf : s.fault = 0) (he : e = 0) : s.step n e = ⟨s.pos + n, 0⟩ := by
 unfold Rd.step
 rw [if_neg (by omega), if_neg (by omega), hf]
theorem val_bad {α : Type} {s : Rd} {d x : α} {e : Nat} (he : e ≠ 0) : s.val d x e = d := by
 unfold Rd.val
 rw [if_pos he]
 split <;> rfl
theorem val_ok {α : Type} {s : Rd} {d x : α} {e : Nat} (hf : s.fault = 0) (he : e = 0) : s.val d x e = x := by
 unfold Rd.val
 rw [if_neg (by omega), if_neg (by omega)]
theorem rdNum_stop {bs : List UInt8} {s : Rd} (h : s.fault ≠ 0) : rdNum bs s = (0, s) := by
 simp only [rdNum, rdOf, Rd.val, Rd.step, if_pos h]
theorem rdByte_stop {bs : List UInt8} {s : Rd} (h : s.fault ≠ 0) : rdByte bs s = (0, s) := by
 simp only [rdByte, rdOf, Rd.val, Rd.step, if_pos h]
end Go.YtmpoffijcfaalaaGreat
namespace Go.Proofs.YtmpoffijcfaalaaGreat.Ref
open Go.Eng Go.YtmpoffijcfaalaaGreat
theorem fail_c (p : Nat) (bv : Value) (bs : List UInt8) (s : Rd) (e : Nat) (hf : s.fault = 0) : Fnc Pg 286 [.pointer (some ⟨p, 0, none⟩), .int .i64 (e : Int)] [rd2 p bv s] [⟨bv, bs⟩] (fun (_ : Unit) _ => True) (fun _ _ => [rd2 p bv ⟨s.pos, e⟩]) (fun _ _ => []) := by
 refine Fnc.proof Tryz.func286 G 13 G G fun X w => sb 5 [0] G G<|cdP G (fun h8 => ?_) (fun h8 => ?_)
 · exact rg<|ru 4 G<|stB 0 G G G (Og G) G (nlt G)<|nl<|fR0N () G trivial G Sn
 · exact absurd (show (s.fault : Int) = 0 by rw [hf]; rfl) h8 --#done
theorem new_c (sv : Value) (bs : List UInt8) (hlen : bs.length ≤ 140737488355328) : Fnc Pg 198 [sv] [] [⟨sv, bs⟩] (fun (y : Nat × Value) v => v = .pointer (some ⟨y.1, 0, none⟩)) (fun y _ => [rd2 y.1 y.2 ⟨0, 0⟩]) (fun y _ => [⟨y.2, bs⟩]) := by
 refine Fnc.proof Tryz.func198 G 8 G G fun X w => sa 1 G<|qg<|bs0 app_35 G fun b3 => rwB (α := UInt8) [] [] G G (fun _ _ _ => trivial) G<|mv G G<|ap 0 0 G G G G app_35 (by simpa using hlen) (by simpa using hlen) G fun v5 => frRL<|asSl 0 G ?_
 rintro ⟨A, cc, rfl⟩
 exact bd (ps := [(0, .tmp 5)]) (cs := [.slice A ([] ++ bs).length cc, .int .i64 0, .int .i64 0]) (by rfl) (by kernel_rfl) G<|bx G G G fun b7 => ru 1 G<|nl<|nx<|rt<|fR1 (b7, _) G G G G (Sc 0 G Sn)
theorem number_c (p : Nat) (bv : Value) (bs : List UInt8) (s : Rd) (hp : s.pos ≤ bs.length) : Fnc Pg 309 [.pointer (some ⟨p, 0, none⟩)] [rd2 p bv s] [⟨bv, bs⟩] (fun (_ : Unit) v => v = numTup2 s.pos (numD 0 0 (bs.drop s.pos))) (fun _ _ => [rd2 p bv s]) (fun _ _ => []) := by
 refine Fnc.proof Tryz.func309 G 66 G G fun X w => gtC (q := bs.length ≤ 9223372036854775807) (fun S w h => list_len (h _ (List.mem_of_getElem? (i := 0) G))) fun hlen => sa 3 G<|sa 1 G<|sa 1 G<|bk<|lpC (σ := Nat × Nat) [(0, _)] _ (fun i C => (5, .int .u64 (i.2 : Int)) :: (6, .int .i64 (i.1 : Int)) :: C) (fun i => i.1 ≤ 9 ∧ s.pos + i.1 ≤ bs.length ∧ i.2 < 2 ^ (7 * i.1) ∧ numD 0 0 (bs.drop s.pos) = numD i.1 i.2 (bs.drop (s.pos + i.1))) (fun i => bs.length - i.1) (0, 0) ⟨G, trivial⟩ (Sc 0 G Sn) ⟨by decide, hp, by decide, G⟩ (Gs G) ?_
 rintro ⟨i, v⟩ ⟨hi, hs, hv, he⟩
 simp only at hi hs hv he
 refine sq<|bk<|sq<|sq<|rgQ mixed (by kernel_rfl)<|rl 5 [0] G G<|adI G G inI G<|ru 3 G<|rl 1 [0] G G<|lnP 0 G G Tryz.underlying35 G fun l20 => ru 1 G<|nlQ<|nx<|cdP G (fun h21 => ?_) (fun h21 => ?_)
 ·
  have hd : bs.drop (s.pos + i) = [] := List.drop_eq_nil_of_le (by omega)
  rw [hd] at he
  have he : numD 0 0 (bs.drop s.pos) = (0, 0, 20) := he
  rw [he]
  exact sa 3 G<|rt<|tR<|bR<|tR<|tR<|bR<|fR3 () G G G G G G Sn
 ·
  obtain ⟨c, hc⟩ : ∃ c, bs[s.pos + i]? = some c := ⟨_, getE (by omega)⟩
  have hd := drop_at hc
  have hcl := c.toNat_lt
  refine sk<|nx<|sq<|rgQ mixed (by kernel_rfl)<|rl 9 [0,0] G G<|adI G G inI G<|ixP 0 G G G slt_35 (by omega) hc G fun v32 => ldV 0 G G (Og G) G fun w33 => ru 1 G<|nlQ<|nx<|sq<|qg<|ru 3 G<|ja 36 3 [] [0,5,6,7] G G G<|mv G G ?_
  refine jz 40 7 [0,5,6,7] G G (fun h40 K47 => by
   exact ru 3 G<|ja 43 3 [] [0,5,6,7,40] G G G<|ru 1 G<|K47 G Sr) ?_
  refine nl<|nx<|cdB G (fun h47 => ?_) (fun h47 => ?_)
  ·
   have q47 := h47
   simp at q47
   have q47 : (i = 9 ∧ 1 < c.toNat) ∨ (0 < i ∧ c.toNat = 0) := by omega
   rw [hd, numD_bad q47] at he
   rw [he]
   exact sa 3 G<|rt<|tR<|bR<|tR<|tR<|bR<|fR3 () G G G G G G Sn
  ·
   have q47 := h47
   simp at q47
   have q47 : ¬ ((i = 9 ∧ 1 < c.toNat) ∨ (0 < i ∧ c.toNat = 0)) := by omega
   refine sk<|nx<|qg<|ru 2 G<|reW G G (by decide) G<|cv Tryz.underlying5 Tryz.underlying209 G (u64_tmod c) G<|mv G G<|muI G G inI G<|shL G G (by omega) (shl_k _ (7 * i) (Nat.lt_of_le_of_lt (Nat.le_add_left _ _) (num_sum hi hv q47)) (by omega)) G<|adR G G (u64_add (num_sum hi hv q47)) G<|ru 1 G<|nl<|nx<|sa 2 G<|cdP G (fun h57 => ?_) (fun h57 => ?_)
   ·
    rw [hd, numD_last q47 (by omega)] at he
    rw [he]
    exact sq<|rgQ mixed (by kernel_rfl)<|rl 6 [0] G G<|adI G G inI G<|adI G G inI G<|ru 3 G<|nlQ<|nx<|rt<|bR<|tR<|tR<|bR<|fR3 () G G G G (congrArg (fun x : Int => Value.tuple #[.int .u64 ((v + c.toNat % 128 * 2 ^ (7 * i) : Nat) : Int), .int .i64 x, .int .i64 0]) (by show (s.pos : Int) + (i : Int) + 1 = ((s.pos + (i + 1) : Nat) : Int); omega)) G Sn
   ·
    refine sk<|bN<|nx<|rg<|mv G G<|adI G G inI G<|ru 1 G<|nl ?_
    exact ag ((i + 1, v + c.toNat % 128 * 2 ^ (7 * i)) : Nat × Nat) ⟨by show i + 1 ≤ 9; omega, by show s.pos + (i + 1) ≤ bs.length; omega, shl_lt hv, by show numD 0 0 _ = _; rw [he, hd, numD_more q47 (by omega)]; rfl⟩ (by show bs.length - (i + 1) < bs.length - i; omega) (Gs G) G (Sc 1 G Sn)
theorem num_c (p : Nat) (bv : Value) (bs : List UInt8) (s : Rd)  (hp : s.pos ≤ bs.length) : Fnc Pg 288 [.pointer (some ⟨p, 0, none⟩)] [rd2 p bv s] [⟨bv, bs⟩] (fun (_ : Unit) v => v = .int .u64 ((rdNum bs s).1 : Int)) (fun _ _ => [rd2 p bv (rdNum bs s).2]) (fun _ _ => []) := by
 refine Fnc.proof Tryz.func288 G 27 G G fun X w => ?_
 have hb := numD_bd (bs.drop s.pos) 0 0 (by decide) (by decide)
 rcases hN : numD 0 0 (bs.drop s.pos) with ⟨x, n, e⟩
 rw [hN] at hb
 simp only at hb
 have hr : rdNum bs s = (s.val 0 x e, s.step n e) := by simp only [rdNum, rdOf, hN]
 refine sa 1 G<|sq<|sb 5 [0] G G<|cdN G (fun h10 => ?_) (fun h10 => ?_)
 ·
  have hf : s.fault ≠ 0 := by omega
  rw [rdNum_stop hf]
  exact sa 1 G<|rt<|tR<|fR1 () G G G G Sn
 ·
  have hf : s.fault = 0 := by omega
  rw [hr]
  refine sk<|nx<|qg<|mv G G<|cf1 0 (number_c p bv bs s hp) (Kg G) G G (Sc 0 G Sn) G fun _ v13 h13 => ?_
  rw [hN] at h13
  have h13 : v13 = .tuple #[.int .u64 (x : Int), .int .i64 ((if e = 0 then s.pos + n else 0 : Nat) : Int), .int .i64 (e : Int)] := h13
  subst h13
  refine ru 7 G<|nl<|nx<|sq<|sa 2 G<|cdN G (fun h18 => ?_) (fun h18 => ?_)
  ·
   have he : e ≠ 0 := by omega
   rw [val_bad he, step_bad hf he]
   exact qg<|ru 2 G<|cf1 0 (fail_c p bv bs s e (by first | exact hf | rfl)) (Kg G) G G (Sc 0 G Sn) G fun _ v21 _ => nl<|nx<|sa 1 G<|rt<|tR<|fR1 () G G G G Sn
  ·
   have he : e = 0 := by omega
   rw [val_ok hf he, step_ok hf he]
   subst he
   exact sk<|nx<|qg<|ru 4 G<|stB 0 G G G (Og G) G (nlt G)<|nl<|nx<|qg<|mv G G<|ru 1 G<|nl<|nx<|rt<|fR1 () G G G (by simp only [hf]; rfl) Sn
end Go.Proofs.YtmpoffijcfaalaaGreat.Ref
namespace Go.YtmpoffijcfaalaaGreat
open Go.Eng
theorem zag_odd {v : Nat} (h : v % 2 = 1) : zag v = -((v / 2 : Nat) : Int) - 1 := if_pos h
theorem zag_even {v : Nat} (h : ¬ v % 2 = 1) : zag v = ((v / 2 : Nat) : Int) := if_neg h
theorem i64_half {v : Nat} (h : v < 2 ^ 64) : IntKind.i64.wrap ((v / 2 : Nat) : Int) = ((v / 2 : Nat) : Int) := i64_of_nat (by omega)
theorem byteD_some {bs : List UInt8} {i : Nat} {c : UInt8} (h : bs[i]? = some c) : byteD (bs.drop i) = (c, 1, 0) := by
 rw [drop_at h]
 rfl
theorem byteD_none {bs : List UInt8} {i : Nat} (h : bs.length ≤ i) : byteD (bs.drop i) = (0, 0, 20) := by
 rw [List.drop_eq_nil_of_le h]
 rfl
theorem rdByte_some {bs : List UInt8} {s : Rd} {c : UInt8} (hf : s.fault = 0) (h : bs[s.pos]? = some c) : rdByte bs s = (c, ⟨s.pos + 1, 0⟩) := by
 simp only [rdByte, rdOf, byteD_some h, val_ok hf rfl, step_ok hf rfl]
theorem rdByte_none {bs : List UInt8} {s : Rd} (hf : s.fault = 0) (h : bs.length ≤ s.pos) : rdByte bs s = (0, ⟨s.pos, 20⟩) := by
 simp only [rdByte, rdOf, byteD_none h, val_bad (show (20 : Nat) ≠ 0 by decide), step_bad hf (show (20 : Nat) ≠ 0 by decide)]
theorem rdFlag_byte {bs : List UInt8} {s : Rd} : rdFlag bs s = if 1 < (rdByte bs s).1.toNat then (false, ⟨s.pos, 21⟩) else (decide ((rdByte bs s).1 = 1), (rdByte bs s).2) := by
 by_cases hf : s.fault = 0
 ·
  by_cases hl : s.pos < bs.length
  ·
   obtain ⟨c, hc⟩ : ∃ c, bs[s.pos]? = some c := ⟨_, getE hl⟩
   rw [rdByte_some hf hc]
   simp only [rdFlag, rdOf, drop_at hc, flagD]
   split
   ·
    simp only [val_bad (show (21 : Nat) ≠ 0 by decide), step_bad hf (show (21 : Nat) ≠ 0 by decide)]
   ·
    simp only [val_ok hf rfl, step_ok hf rfl]
  ·
   rw [rdByte_none hf (by omega)]
   simp only [rdFlag, rdOf, List.drop_eq_nil_of_le (show bs.length ≤ s.pos by omega), flagD, val_bad (show (20 : Nat) ≠ 0 by decide), step_bad hf (show (20 : Nat) ≠ 0 by decide)]
   rfl
 ·
  rw [rdByte_stop hf]
  simp only [rdFlag, rdOf, Rd.val, Rd.step]
  rw [if_pos hf, if_pos hf]
  rfl
theorem rdByte_fault {bs : List UInt8} {s : Rd} (h : 1 < (rdByte bs s).1.toNat) : s.fault = 0 ∧ (rdByte bs s).2.fault = 0 := by
 by_cases hf : s.fault = 0
 ·
  refine ⟨hf, ?_⟩
  by_cases hl : s.pos < bs.length
  ·
   obtain ⟨c, hc⟩ : ∃ c, bs[s.pos]? = some c := ⟨_, getE hl⟩
   rw [rdByte_some hf hc]
  ·
   rw [rdByte_none hf (by omega)] at h
   exact absurd (show 1 < (0 : UInt8).toNat from h) (by decide)
 ·
  rw [rdByte_stop hf] at h
  exact absurd (show 1 < (0 : UInt8).toNat from h) (by decide)
theorem rdCount_num {bs : List UInt8} {m : Int} {s : Rd} : rdCount bs m s = if max m 0 < ((rdNum bs s).1 : Int) then (0, ⟨s.pos, 22⟩) else rdNum bs s := by
 by_cases hf : s.fault = 0
 ·
  rcases hN : numD 0 0 (bs.drop s.pos) with ⟨x, n, e⟩
  have hC := countD_of (most := m) hN
  have hn : rdNum bs s = (s.val 0 x e, s.step n e) := by simp only [rdNum, rdOf, hN]
  by_cases he : e = 0
  ·
   subst he
   by_cases hm : max m 0 < (x : Int)
   ·
    rw [if_pos ⟨rfl, hm⟩] at hC
    have hc : rdCount bs m s = (s.val 0 0 22, s.step 0 22) := by simp only [rdCount, rdOf, hC]
    rw [hc, hn, val_bad (show (22 : Nat) ≠ 0 by decide), step_bad hf (show (22 : Nat) ≠ 0 by decide), val_ok hf rfl, if_pos hm]
   ·
    rw [if_neg (fun h => hm h.2), if_neg (fun h => h rfl)] at hC
    have hc : rdCount bs m s = (s.val 0 x 0, s.step n 0) := by simp only [rdCount, rdOf, hC]
    rw [hc, hn, val_ok hf rfl, if_neg hm]
  ·
   rw [if_neg (fun h => he h.1), if_pos he] at hC
   have hc : rdCount bs m s = (s.val 0 0 e, s.step 0 e) := by simp only [rdCount, rdOf, hC]
   rw [hc, hn, val_bad he, val_bad he, if_neg (by show ¬ max m 0 < ((0 : Nat) : Int); omega), step_bad hf he, step_bad hf he]
 ·
  rw [rdCount_stop hf, rdNum_stop hf, if_neg (by show ¬ max m 0 < ((0 : Nat) : Int); omega)]
theorem rdNum_fault {bs : List UInt8} {s : Rd} (h : 0 < (rdNum bs s).1) : s.fault = 0 ∧ (rdNum bs s).2.fault = 0 := by
 by_cases hf : s.fault = 0
 ·
  refine ⟨hf, ?_⟩
  rcases hN : numD 0 0 (bs.drop s.pos) with ⟨x, n, e⟩
  simp only [rdNum, rdOf, hN] at h ⊢
  by_cases he : e = 0
  ·
   rw [step_ok hf he]
  ·
   rw [val_bad he] at h
   omega
 ·
  rw [rdNum_stop hf] at h
  exact absurd h (Nat.lt_irrefl 0)
theorem rdCount_max {bs : List UInt8} {m : Int} {s : Rd} : ((rdCount bs m s).1 : Int) ≤ max m 0 := by
 simp only [rdCount, rdOf, Rd.val]
 split
 ·
  show ((0 : Nat) : Int) ≤ _
  omega
 ·
  split
  ·
   show ((0 : Nat) : Int) ≤ _
   omega
  · exact (countD_bd _ _).1
theorem txt_eq {bs : List UInt8} {p k : Nat} : (bs.drop p).take k = [] ++ (bs.take (((p : Int) + (k : Int)).toNat)).drop (((p : Int) + (k : Int) - (k : Int)).toNat) := by
 rw [show ((p : Int) + (k : Int)).toNat = p + k by omega, show ((p : Int) + (k : Int) - (k : Int)).toNat = p by omega, List.nil_append, List.drop_take, Nat.add_sub_cancel_left]
theorem rdText_count {bs : List UInt8} {m : Int} {s : Rd} : rdText bs m s = if (rdCount bs m s).2.fault ≠ 0 then ([], (rdCount bs m s).2) else if bs.length - (rdCount bs m s).2.pos < (rdCount bs m s).1 then ([], ⟨s.pos, 20⟩)
  else ((bs.drop (rdCount bs m s).2.pos).take (rdCount bs m s).1, ⟨(rdCount bs m s).2.pos + (rdCount bs m s).1, 0⟩) := by
 by_cases hf : s.fault = 0
 ·
  rcases hN : countD (bs.drop s.pos) m with ⟨x, n, e⟩
  have hb := (countD_bd (bs.drop s.pos) m).2.1
  rw [hN] at hb
  simp only [List.length_drop] at hb
  have hT := textD_of hN
  have hc : rdCount bs m s = (s.val 0 x e, s.step n e) := by simp only [rdCount, rdOf, hN]
  by_cases he : e = 0
  ·
   subst he
   rw [if_neg (fun h => h rfl), List.length_drop] at hT
   rw [hc, val_ok hf rfl, step_ok hf rfl]
   show _ = if (0 : Nat) ≠ 0 then _ else if bs.length - (s.pos + n) < x then ([], (⟨s.pos, 20⟩ : Rd)) else ((bs.drop (s.pos + n)).take x, ⟨s.pos + n + x, 0⟩)
   rw [if_neg (by decide)]
   by_cases hl : bs.length - s.pos < n + x
   ·
    rw [if_pos hl] at hT
    have ht : rdText bs m s = (s.val [] [] 20, s.step 0 20) := by simp only [rdText, rdOf, hT]
    rw [ht, val_bad (show (20 : Nat) ≠ 0 by decide), step_bad hf (show (20 : Nat) ≠ 0 by decide), if_pos (by omega)]
   ·
    rw [if_neg hl] at hT
    have ht : rdText bs m s = (s.val [] (((bs.drop s.pos).drop n).take x) 0, s.step (n + x) 0) := by simp only [rdText, rdOf, hT]
    rw [ht, val_ok hf rfl, step_ok hf rfl, if_neg (by omega), List.drop_drop, Nat.add_assoc]
  ·
   rw [if_pos he] at hT
   have ht : rdText bs m s = (s.val [] [] e, s.step 0 e) := by simp only [rdText, rdOf, hT]
   rw [hc, ht, val_bad he, val_bad he, step_bad hf he, step_bad hf he, if_pos he]
 ·
  rw [rdCount_stop hf, show rdText bs m s = ([], s) from Prod.ext (rdText_stop1 hf) (rdText_stop hf), if_pos hf]
end Go.YtmpoffijcfaalaaGreat
namespace Go.Proofs.YtmpoffijcfaalaaGreat.Ref
open Go.Eng Go.YtmpoffijcfaalaaGreat
section
variable (p : Nat) (bv : Value) (bs : List UInt8) (s : Rd) (m : Int)
theorem int_c (hp : s.pos ≤ bs.length) : Fnc Pg 249 [.pointer (some ⟨p, 0, none⟩)] [rd2 p bv s] [⟨bv, bs⟩] (fun (_ : Unit) v => v = .int .i64 (rdInt bs s).1) (fun _ _ => [rd2 p bv (rdInt bs s).2]) (fun _ _ => []) := by
 refine Fnc.proof Tryz.func249 G 17 G G fun X w => ?_
 have hl := rdNum_lt bs s
 refine sa 1 G<|qg<|mv G G<|cf1 0 (num_c p bv bs s hp) (Kg G) G G (Sc 0 G Sn) G fun _ v5 h5 => ?_
 have h5 : v5 = .int .u64 ((rdNum bs s).1 : Int) := h5
 subst h5
 refine ru 1 G<|nl<|nx<|sq<|qg<|mv G G<|reR G G (by decide) (u64_odd _) G<|ru 1 G<|nl<|nx<|cdP G (fun h8 => ?_) (fun h8 => ?_)
 · exact qg<|mv G G<|quR G G (by decide) (u64_half _ hl) G<|cv Tryz.underlying209 Tryz.underlying3 G (i64_half hl) G<|ngI G inI G<|sbI G G inI G<|ru 1 G<|nl<|nx<|rt<|tR<|fR1 () G G (by show _ = Value.int .i64 (zag (rdNum bs s).1); rw [zag_odd (by omega)]) G Sn
 · exact sk<|nx<|qg<|mv G G<|quR G G (by decide) (u64_half _ hl) G<|cv Tryz.underlying209 Tryz.underlying3 G (i64_half hl) G<|ru 1 G<|nl<|nx<|rt<|fR1 () G G (by show _ = Value.int .i64 (zag (rdNum bs s).1); rw [zag_even (by omega)]) G Sn
theorem byte_c (hp : s.pos ≤ bs.length) : Fnc Pg 285 [.pointer (some ⟨p, 0, none⟩)] [rd2 p bv s] [⟨bv, bs⟩] (fun (_ : Unit) v => v = .int .u8 ((rdByte bs s).1.toNat : Int)) (fun _ _ => [rd2 p bv (rdByte bs s).2]) (fun _ _ => []) := by
 refine Fnc.proof Tryz.func285 G 38 G G fun X w => gtC (q := bs.length ≤ 9223372036854775807) (fun S w h => list_len (h _ (List.mem_of_getElem? (i := 0) G))) fun hlen => sa 1 G<|sq<|qg<|rl 4 [0] G G<|ru 1 G<|nl<|nx<|cdN G (fun h7 => ?_) (fun h7 => ?_)
 ·
  have hf : s.fault ≠ 0 := by omega
  rw [rdByte_stop hf]
  exact sa 1 G<|rt<|tR<|fR1 () G G G G Sn
 ·
  have hf : s.fault = 0 := by omega
  refine sk<|nx<|sq<|sq<|rgQ mixed (by kernel_rfl)<|rl 8 [0,0] G G<|lnP 0 G G Tryz.underlying35 G fun l16 => ru 1 G<|nlQ<|nx<|cdP G (fun h17 => ?_) (fun h17 => ?_)
  ·
   rw [rdByte_none hf (by omega)]
   exact qg<|mv G G<|cf1 0 (fail_c p bv bs s 20 (by first | exact hf | rfl)) (Kg G) G G (Sc 0 G Sn) G fun _ v19 _ => nl<|nx<|sa 1 G<|rt<|tR<|fR1 () G G G G Sn
  ·
   obtain ⟨c, hc⟩ : ∃ c, bs[s.pos]? = some c := ⟨_, getE (by omega)⟩
   rw [rdByte_some hf hc]
   exact sk<|nx<|qg<|rl 4 [0] G G<|adI G G inI G<|ru 2 G<|stB 0 G G G (Og G) G (nlt G)<|nl<|nx<|sq<|rgQ mixed (by kernel_rfl)<|rl 8 [0,0] G G<|sbI G G inI G<|ixP 0 G G G slt_35 (by omega) (show bs[((s.pos : Int) + 1 - 1).toNat]? = some c from by rw [show ((s.pos : Int) + 1 - 1).toNat = s.pos by omega]; exact hc) G fun v36 => ldV 0 G G (Og G) G fun w37 => ru 1 G<|nlQ<|nx<|rt<|fR1 () G G G (by simp only [hf]; rfl) Sn
theorem flag_c (hp : s.pos ≤ bs.length) : Fnc Pg 247 [.pointer (some ⟨p, 0, none⟩)] [rd2 p bv s] [⟨bv, bs⟩] (fun (_ : Unit) v => v = .bool (rdFlag bs s).1) (fun _ _ => [rd2 p bv (rdFlag bs s).2]) (fun _ _ => []) := by
 refine Fnc.proof Tryz.func247 G 21 G G fun X w => sa 1 G<|sb 5 [0] G G<|qg<|mv G G<|cf1 0 (byte_c p bv bs s hp) (Kg G) G G (Sc 0 G Sn) G fun _ v10 h10 => ?_
 have h10 : v10 = .int .u8 ((rdByte bs s).1.toNat : Int) := h10
 subst h10
 refine ru 1 G<|nl<|nx<|sq<|sa 2 G<|cdP G (fun h12 => ?_) (fun h12 => ?_)
 ·
  have hb : 1 < (rdByte bs s).1.toNat := by omega
  have hff := rdByte_fault hb
  have hr : rdFlag bs s = (false, ⟨s.pos, 21⟩) := by rw [rdFlag_byte, if_pos hb]
  rw [hr]
  exact qg<|ru 4 G<|stB 0 G G G (Og G) G (nlt G)<|nl<|nx<|qg<|mv G G<|cf1 0 (fail_c p bv bs ⟨s.pos, (rdByte bs s).2.fault⟩ 21 hff.2) (Kg G) G G (Sc 0 G Sn) G fun _ v18 _ => nl<|nx<|sa 1 G<|rt<|tR<|fR1 () G G G G Sn
 ·
  have hb : ¬ 1 < (rdByte bs s).1.toNat := by omega
  have hr : rdFlag bs s = (decide ((rdByte bs s).1 = 1), (rdByte bs s).2) := by rw [rdFlag_byte, if_neg hb]
  rw [hr]
  exact sk<|nx<|sa 3 G<|rt<|fR1 () G G (congrArg Value.bool (by rw [Bool.eq_iff_iff]; simp only [decide_eq_true_eq]; rw [← UInt8.toNat_inj]; show _ ↔ _ = 1; omega)) G Sn
theorem count_c (hm : InI m) (hp : s.pos ≤ bs.length) : Fnc Pg 289 [.pointer (some ⟨p, 0, none⟩), .int .i64 m] [rd2 p bv s] [⟨bv, bs⟩] (fun (_ : Unit) v => v = .int .i64 ((rdCount bs m s).1 : Int)) (fun _ _ => [rd2 p bv (rdCount bs m s).2]) (fun _ _ => []) := by
 refine Fnc.proof Tryz.func289 G 26 G G fun X w => ?_
 obtain ⟨hm1, hm2⟩ := id hm
 have hmx := max_in hm
 obtain ⟨hm1, hm2⟩ := id hm
 refine sa 1 G<|sb 5 [0] G G<|qg<|mv G G<|cf1 0 (num_c p bv bs s hp) (Kg G) G G (Sc 0 G Sn) G fun _ v12 h12 => ?_
 have h12 : v12 = .int .u64 ((rdNum bs s).1 : Int) := h12
 subst h12
 refine ru 1 G<|nl<|nx<|sq<|qg<|ru 2 G<|mxI G G G G<|cv Tryz.underlying3 Tryz.underlying209 G (wrap_u64_int (by omega) (by omega)) G<|ru 1 G<|nl<|nx<|cdP G (fun h17 => ?_) (fun h17 => ?_)
 ·
  have hb : max m 0 < ((rdNum bs s).1 : Int) := by omega
  have hff := rdNum_fault (show 0 < (rdNum bs s).1 by omega)
  rw [rdCount_num, if_pos hb]
  exact qg<|ru 4 G<|stB 0 G G G (Og G) G (nlt G)<|nl<|nx<|qg<|mv G G<|cf1 0 (fail_c p bv bs ⟨s.pos, (rdNum bs s).2.fault⟩ 22 hff.2) (Kg G) G G (Sc 0 G Sn) G fun _ v23 _ => nl<|nx<|sa 1 G<|rt<|tR<|fR1 () G G G G Sn
 ·
  rw [rdCount_num, if_neg (by omega)]
  exact sk<|nx<|qg<|mv G G<|cv Tryz.underlying209 Tryz.underlying3 G (i64_of_nat (by omega)) G<|ru 1 G<|nl<|nx<|rt<|fR1 () G G G G Sn
theorem text_c (hm : InI m) (hms : m ≤ 1000000) (hp : s.pos ≤ bs.length) : Fnc Pg 257 [.pointer (some ⟨p, 0, none⟩), .int .i64 m] [rd2 p bv s] [⟨bv, bs⟩] (fun (_ : Unit) _ => True) (fun _ _ => [rd2 p bv (rdText bs m s).2]) (fun _ v => [⟨v, (rdText bs m s).1⟩]) := by
 refine Fnc.proof Tryz.func257 G 63 G G fun X w => ?_
 obtain ⟨hm1, hm2⟩ := id hm
 have hmx := max_in hm
 obtain ⟨hm1, hm2⟩ := id hm
 refine gtC (q := bs.length ≤ 9223372036854775807) (fun S w h => list_len (h _ (List.mem_of_getElem? (i := 0) G))) fun hlen => sa 1 G<|sb 5 [0] G G<|qg<|ru 2 G<|cf1 0 (count_c p bv bs s m hm hp) (Kg G) G G (Sc 0 G Sn) G fun _ v13 h13 => ?_
 have h13 : v13 = .int .i64 ((rdCount bs m s).1 : Int) := h13
 subst h13
 have hT := @rdText_count bs m s
 have hcp := rdCount_pos (most := m) hp
 have hcm := @rdCount_max bs m s
 generalize (rdCount bs m s).1 = k at *
 generalize (rdCount bs m s).2 = s2 at *
 refine ru 1 G<|nl<|nx<|sq<|sb 5 [0] G G<|cdN G (fun h18 => ?_) (fun h18 => ?_)
 ·
  rw [if_pos (show s2.fault ≠ 0 by omega)] at hT
  rw [hT]
  exact emC (α := UInt8)<|sa 1 G<|rt<|tR<|fR1 () G G trivial G (Sc 0 G Sn)
 ·
  have hf2 : s2.fault = 0 := by omega
  rw [if_neg (show ¬ s2.fault ≠ 0 by omega)] at hT
  refine sk<|nx<|sq<|sq<|rgQ mixed (by kernel_rfl)<|rl 5 [0] G G<|lnP 0 G G Tryz.underlying35 G fun l24 => ru 3 G<|rl 1 [0] G G<|sbI G G inI G<|ru 1 G<|nlQ<|nx<|cdP G (fun h30 => ?_) (fun h30 => ?_)
  ·
   rw [if_pos (by omega)] at hT
   rw [hT]
   exact emC (α := UInt8)<|qg<|ru 4 G<|stB 0 G G G (Og G) G (nlt G)<|nl<|nx<|qg<|mv G G<|cf1 0 (fail_c p bv bs ⟨s.pos, s2.fault⟩ 20 hf2) (Kg G) G G (Sc 1 G Sn) G fun _ v36 _ => nl<|nx<|sa 1 G<|rt<|tR<|fR1 () G G trivial G (Sc 0 G Sn)
  ·
   rw [if_neg (by omega)] at hT
   rw [hT]
   refine sk<|nx<|qg<|rl 6 [0] G G<|adI G G inI G<|ru 2 G<|stB 0 G G G (Og G) G (nlt G)<|nl<|nx<|sq<|wkC [(0, _), (6, _)] _ (Gs G) Sr<|rgZ (L := [bl p 264 [bv, .int .i64 ((s2.pos : Int) + (k : Int)), .int .i64 (s2.fault : Int)], fz X w]) [] [(0,⟨none,fun _ => [],true⟩),(4,⟨some (bv),fun _ => [],false⟩),(8,⟨some (.int .i64 (((s2.pos : Int) + (k : Int)))),fun _ => [],false⟩),(10,⟨some (.int .i64 ((((s2.pos : Int) + (k : Int)) - (k : Int)))),fun _ => [],false⟩),(14,⟨some (.int .i64 (((s2.pos : Int) + (k : Int)))),fun _ => [],false⟩),(15,⟨none,fun u => [⟨u, (bs.take (((s2.pos : Int) + (k : Int)).toNat)).drop (((s2.pos : Int) + (k : Int) - (k : Int)).toNat)⟩],false⟩),(16,⟨none,fun _ => [],true⟩),(17,⟨none,fun _ => [],true⟩)] [] [] [(0,fun L zz => (row 5 (zz 0) ([] : List UInt8)) :: L),(16,fun L zz => rpE 2 (row 5 (zz 16) ([] ++ (bs.take (((s2.pos : Int) + (k : Int)).toNat)).drop (((s2.pos : Int) + (k : Int) - (k : Int)).toNat))) L),(17,fun L zz => rpE 2 (row 5 (zz 17) ([] ++ (bs.take (((s2.pos : Int) + (k : Int)).toNat)).drop (((s2.pos : Int) + (k : Int) - (k : Int)).toNat))) L)] (fun _ => G) (fun _ => by kernel_rfl) ⟨fun V De _=>aP1 (bs0 app_35 G fun b46 => rwB (α := UInt8) [] [] G G (fun _ _ _ => trivial) G<|nl (odH G G G trivial Sn Sr)),fun V De _=>aP3 (ldB 0 G G (Og G) G G<|oh G G G G) (ldB 1 G G (Og G) G G<|oh G G G G) (ldB 1 G G (Og G) G G<|oh G G G G),fun V De _=>aP3 (ldB 0 G G (Og G) G G<|oh G G G G) (ldB 1 G G (Og G) G G<|oh G G G G) (ldB 1 G G (Og G) G G<|oh G G G G),fun V De _=>(by (repeat (refine aC ?_ ?_; exact sbI G G inI G<|oh G G G G)); trivial),fun V De _=>aP3 (ldB 0 G G (Og G) G G<|oh G G G G) (ldB 1 G G (Og G) G G<|oh G G G G) (ldB 1 G G (Og G) G G<|oh G G G G),fun V De _=>(by (repeat (refine aC ?_ ?_; exact slP2 0 G G slt_35 G G (by omega) (by omega) (by omega) G fun v61 => nl (odH G G G trivial (Sc 0 G Sn) (SubD.tail Sr)))); trivial),fun V De _=>aP1 (ap 0 0 G G G G app_35 (by simp only [List.length_nil, List.length_drop, List.length_take]; omega) (by simp only [List.length_nil, List.length_drop, List.length_take]; omega) G fun v62 => nl (odH G G G trivial Sn (SubD.tail Sr))),fun V De _=>aP1 (asg G G<|nl (odH G G G trivial Sn Sr)),trivial⟩ fun V _ => wD [1] G<|?_
   generalize V 17 = v2
   exact nx<|rt<|frRQ<|fR1 () G G trivial (by simp only [hf2]; rfl) (by rw [txt_eq]; exact (SubD.cons 0 rfl SubD.nil))
theorem end_c : Fnc Pg 150 [.pointer (some ⟨p, 0, none⟩)] [rd2 p bv s] [⟨bv, bs⟩] (fun (_ : Unit) v => v = .int .i64 (endE bs s)) (fun _ _ => [rd2 p bv s]) (fun _ _ => []) := by
 refine Fnc.proof Tryz.func150 G 24 G G fun X w => sa 1 G<|sq<|sq<|rgQ mixed (by kernel_rfl)<|rl 5 [0] G G<|mv G G ?_
 refine jy 8 11 [0] G G (fun h8 K19 => by
  have p8 := of_decide_eq_true h8
  exact rl 7 [0] G G<|rl 1 [0] G G<|gY G G G<|lnP 0 G G Tryz.underlying35 G fun l17 => ru 2 G<|K19 G Sr) ?_
 refine nlQ<|nx<|cdB G (fun h19 => ?_) (fun h19 => ?_)
 ·
  have q19 := h19
  simp at q19
  exact sa 1 G<|rt<|tR<|fR1 () G G (by unfold endE; rw [if_pos q19]) G Sn
 ·
  have q19 := h19
  simp at q19
  exact sk<|nx<|sb 5 [0] G G<|rt<|fR1 () G G (by unfold endE; rw [if_neg (by omega)]) G Sn
end
end Go.Proofs.YtmpoffijcfaalaaGreat.Ref
namespace Go.YtmpoffijcfaalaaGreat
open Go.Eng
structure TWalk where
 r : Nat
@[reducible] def TWalk.fR (x : TWalk) : RawP := ⟨.pointer (some ⟨x.r, 0, none⟩)⟩
@[reducible] def sWalk : Shape TWalk where
 H := Unit
 size := 3
 cells x _ := [.slice none 0 0, .pointer (some ⟨x.r, 0, none⟩), .bool false]
 sub _ _ := []
 wf _ := True
 len _ _ := rfl
 one := by
  intro S w x h ht u hu
  simp only [List.mem_cons, List.not_mem_nil, or_false] at hu
  rcases hu with rfl | rfl | rfl <;> rfl
@[reducible] instance rWalk : Rep TWalk := Rep.ofShape sWalk
theorem pWalk_1 {x : TWalk} : ∀ (S : Nat → Prop) (w : World) (cs : List Value), rWalk.rd S w cs x → repRaw.rd S w ((cs.drop 1).take 1) x.fR := by
 rintro S w cs ⟨h, rfl, hs, hw⟩
 exact ⟨G, G⟩
def spanPr (bs : List UInt8) (o : Nat) (p : List Value × Rd) : List Value × Rd := intsP bs [o, o + 1] p
def lockPr (bs : List UInt8) (o : Nat) (p : List Value × Rd) : List Value × Rd := intsP bs [o, o + 1, o + 2, o + 3] p
def answerPr (bs : List UInt8) (o : Nat) (p : List Value × Rd) : List Value × Rd := intsP bs [o + 1, o + 2, o + 3] (intsP bs [o] p)
theorem spanPr_pos {bs : List UInt8} {o : Nat} {p : List Value × Rd} (h : p.2.pos ≤ bs.length) : (spanPr bs o p).2.pos ≤ bs.length := intsP_pos h
end Go.YtmpoffijcfaalaaGreat
namespace Go.Proofs.YtmpoffijcfaalaaGreat.Ref
open Go.Eng Go.YtmpoffijcfaalaaGreat
section
variable (pv bv : Value) (p : Nat) (bs : List UInt8) (s : Rd) (b T : Nat) (cells : List Value) (o : Nat)
theorem num1_p (hp : s.pos ≤ bs.length) (hz : cells[o]? = some (.int .i64 0)) : Fnc Pg 202 [pv, .pointer (some ⟨b, o, none⟩)] [bl b T cells, rd2 p bv s] [⟨pv, (⟨⟨p⟩⟩ : Pt TWalk)⟩, ⟨bv, bs⟩] (fun (_ : Unit) _ => True) (fun _ _ => [bl b T (intsP bs [o] (cells, s)).1, rd2 p bv (intsP bs [o] (cells, s)).2]) (fun _ _ => []) := by
 refine Fnc.proof Tryz.func202 G 28 G G fun X w => ?_
 have ho := lt_of_at hz
 refine sq<|qg<|mv G G<|ncP 0 G G G<|faP (α := TWalk) (β := RawP) 0 (fun x : TWalk => x.fR) G G (Fg G) pWalk_1 G fun v6 => ldV 0 G G (Og G) G fun w7 => eqP Tryz.underlying205 G G G<|nl<|nx<|cdF G<|sk<|nx<|rg<|ru 2 G<|ncP 1 G G G<|faP (α := TWalk) (β := RawP) 1 (fun x : TWalk => x.fR) G G (Fg G) pWalk_1 G fun v24 => ldV 0 G G (Og G) G fun w25 => cf1 1 (int_c p bv bs s hp) (Kg G) G G (Sc 3 G Sn) G fun _ v26 h26 => ?_
 have h26 : v26 = .int .i64 (rdInt bs s).1 := h26
 subst h26
 exact nc G G<|stB 0 G G G (Og G) G ho<|nl<|fR0N () G trivial G Sn
theorem int_p (sv : Value) (p : Nat) (bs : List UInt8) (s0 : Rd) (b T : Nat) (cells : List Value) (offs : List Nat) (hp : s0.pos ≤ bs.length) (hz : zeroI cells offs) (hn : offs.Nodup) : Fnc Pg 199 [pv, sv] [bl b T cells, rd2 p bv s0] [⟨pv, (⟨⟨p⟩⟩ : Pt TWalk)⟩, ⟨bv, bs⟩, ⟨sv, ptrs b offs⟩] (fun (_ : Unit) _ => True) (fun _ _ => [bl b T (intsP bs offs (cells, s0)).1, rd2 p bv (intsP bs offs (cells, s0)).2]) (fun _ _ => []) := by
 refine Fnc.proof Tryz.func199 G 17 G G fun X w => sa 1 G<|bk<|lpE (σ := Nat × List Value × Rd) [(0, _), (1, _)] _ (fun i C => (4, .int .i64 (i.1 : Int)) :: C) (fun i => [bl b T i.2.1, rd2 p bv i.2.2, fz X w]) (fun _ Dc => Dc) (fun i => i.1 ≤ offs.length ∧ i.2.2.pos ≤ bs.length ∧ zeroI i.2.1 (offs.drop i.1) ∧ (offs.drop i.1).Nodup ∧ intsP bs (offs.drop i.1) i.2 = intsP bs offs (cells, s0)) (fun i => offs.length - i.1) (0, cells, s0) (Gs G) (Sc 0 G (Sc 1 G (Sc 2 G Sn))) ⟨Nat.zero_le _, hp, hz, hn, G⟩ (Gs G) G (Sc 0 G (Sc 1 G (Sc 2 G Sn))) ?_
 rintro ⟨i, c, s⟩ ⟨hi, hs, hc, hd, he⟩
 simp only at hi hs hc hd he
 refine sq<|qg<|ru 2 G<|lnP 2 G G Tryz.underlying297 G fun l7 => ru 1 G<|nl<|nx<|cdP G (fun h8 => ?_) (fun h8 => ?_)
 ·
  have hi2 : i < offs.length := by rw [ptrs_len] at h8; omega
  rw [drop_cons hi2] at hc hd he
  refine sk<|nx<|sq<|bk<|rg<|ru 3 G<|ixP 2 G G G slt_297 (by omega) (ptrs_at hi2) G fun v14 => ldV 0 G G (Og G) G fun w15 => cfN 2 (num1_p pv bv p bs s b T c (offs.getD i 0) hs (hc _ (List.mem_cons_self ..))) (Kg G) G G (Si [1,2] G) G fun _ _ _ => ?_
  refine nl<|bN<|nx<|rg<|mv G G<|adI G G inI G<|ru 1 G<|nl ?_
  exact ag ((i + 1, c.set (offs.getD i 0) (.int .i64 (rdInt bs s).1), (rdInt bs s).2) : Nat × List Value × Rd) ⟨by omega, rdInt_pos hs, zero_set (α := Nat) hd (fun x hx => hc x (List.mem_cons_of_mem _ hx)), (List.nodup_cons.1 hd).2, he⟩ (by show _ - _ < _ - _; omega) (Gs G) G (Si [1,2,3] G)
 ·
  have hi2 : i = offs.length := by rw [ptrs_len] at h8; omega
  subst hi2
  rw [List.drop_length] at he
  have he : (c, s) = intsP bs offs (cells, s0) := he
  rw [← he]
  exact ex<|tE<|tE<|bE<|fR0N () G trivial G Sn
theorem flag_p (hp : s.pos ≤ bs.length) (hz : cells[o]? = some (.bool false)) : Fnc Pg 200 [pv, .pointer (some ⟨b, o, none⟩)] [bl b T cells, rd2 p bv s] [⟨pv, (⟨⟨p⟩⟩ : Pt TWalk)⟩, ⟨bv, bs⟩] (fun (_ : Unit) _ => True) (fun _ _ => [bl b T (flagP bs o (cells, s)).1, rd2 p bv (flagP bs o (cells, s)).2]) (fun _ _ => []) := by
 refine Fnc.proof Tryz.func200 G 30 G G fun X w => ?_
 have ho := lt_of_at hz
 refine sq<|qg<|mv G G<|ncP 0 G G G<|faP (α := TWalk) (β := RawP) 0 (fun x : TWalk => x.fR) G G (Fg G) pWalk_1 G fun v7 => ldV 0 G G (Og G) G fun w8 => neP Tryz.underlying205 G G G<|nl<|nx<|cdT G<|qg<|ru 2 G<|ncP 1 G G G<|faP (α := TWalk) (β := RawP) 1 (fun x : TWalk => x.fR) G G (Fg G) pWalk_1 G fun v13 => ldV 0 G G (Og G) G fun w14 => cf1 1 (flag_c p bv bs s hp) (Kg G) G G (Sc 3 G Sn) G fun _ v15 h15 => ?_
 have h15 : v15 = .bool (rdFlag bs s).1 := h15
 subst h15
 exact nc G G<|stB 0 G G G (Og G) G ho<|nl<|nx<|rt<|tR<|fR0N () G trivial G Sn
theorem bytes_p (u : Value) (hp : s.pos ≤ bs.length) (hz : cells[o]? = some u) : Fnc Pg 209 [pv, .pointer (some ⟨b, o, none⟩)] [bl b T cells, rd2 p bv s] [⟨pv, (⟨⟨p⟩⟩ : Pt TWalk)⟩, ⟨bv, bs⟩, ⟨u, ([] : List UInt8)⟩] (fun (_ : Value) _ => True) (fun y _ => [bl b T (setL o y (rdText bs 65535) (cells, s)).1, rd2 p bv (setL o y (rdText bs 65535) (cells, s)).2]) (fun y _ => [⟨y, (rdText bs 65535 s).1⟩]) := by
 refine Fnc.proof Tryz.func209 G 47 G G fun X w => ?_
 have ho := lt_of_at hz
 refine sq<|qg<|mv G G<|ncP 0 G G G<|faP (α := TWalk) (β := RawP) 0 (fun x : TWalk => x.fR) G G (Fg G) pWalk_1 G fun v6 => ldV 0 G G (Og G) G fun w7 => neP Tryz.underlying205 G G G<|nl<|nx<|cdT G<|qg<|ru 2 G<|ncP 1 G G G<|faP (α := TWalk) (β := RawP) 1 (fun x : TWalk => x.fR) G G (Fg G) pWalk_1 G fun v12 => ldV 0 G G (Og G) G fun w13 => cf1 1 (text_c p bv bs s 65535 inI (by omega) hp) (Kg G) G G (Sc 3 G Sn) G fun _ v14 _ => ?_
 exact nc G G<|stL 0 0 G G G G (Og G) ho<|nl<|nx<|rt<|tR<|fR0 v14 G trivial G (Sc 0 G Sn)
theorem text1_p (hp : s.pos ≤ bs.length) (hz : cells[o]? = some (.string ByteArray.empty)) : Fnc Pg 201 [pv, .pointer (some ⟨b, o, none⟩)] [bl b T cells, rd2 p bv s] [⟨pv, (⟨⟨p⟩⟩ : Pt TWalk)⟩, ⟨bv, bs⟩] (fun (_ : Unit) _ => True) (fun _ _ => [bl b T (textsP bs [o] (cells, s)).1, rd2 p bv (textsP bs [o] (cells, s)).2]) (fun _ _ => []) := by
 refine Fnc.proof Tryz.func201 G 38 G G fun X w => ?_
 have ho := lt_of_at hz
 exact qg<|al zero_35 G fun b4 => stB 0 G G G (Og G) G (nlt G)<|nl<|nx<|sq<|qg<|mv G G<|ncP 0 G G G<|faP (α := TWalk) (β := RawP) 0 (fun x : TWalk => x.fR) G G (Fg G) pWalk_1 G fun v7 => ldV 0 G G (Og G) G fun w8 => eqP Tryz.underlying205 G G G<|nl<|nx<|cdF G<|sk<|nx<|qg<|mv G G<|emL (α := UInt8)<|mtL 2 G<|mtL 1 G<|cfN 2 (bytes_p pv bv p bs s b4 35 [.slice none 0 0] 0 nS hp G) (Kg G) G G (Si [2,3,0] G) G fun y v33 h33 => nl<|nx<|rg<|mv G G<|ldB 0 G G (Og G) (show _ = some y from G) G<|cbs 0 Tryz.underlying35 Tryz.underlying5 Tryz.underlying9 G G G<|nc G G<|stB 2 G G G (Og G) G ho<|nl<|dpQ<|mtQ 1 G<|fR0N () G trivial G Sn
theorem many_c (n : Int) (hp : s.pos ≤ bs.length) : Fnc Pg 250 [pv, .int .i64 n] [rd2 p bv s] [⟨pv, (⟨⟨p⟩⟩ : Pt TWalk)⟩, ⟨bv, bs⟩] (fun (_ : Unit) v => v = .int .i64 ((rdCount bs 1024 s).1 : Int)) (fun _ _ => [rd2 p bv (rdCount bs 1024 s).2]) (fun _ _ => []) := by
 refine Fnc.proof Tryz.func250 G 38 G G fun X w => sa 1 G<|sq<|qg<|mv G G<|ncP 0 G G G<|faP (α := TWalk) (β := RawP) 0 (fun x : TWalk => x.fR) G G (Fg G) pWalk_1 G fun v7 => ldV 0 G G (Og G) G fun w8 => neP Tryz.underlying205 G G G<|nl<|nx<|cdT G<|qg<|mv G G<|ncP 1 G G G<|faP (α := TWalk) (β := RawP) 1 (fun x : TWalk => x.fR) G G (Fg G) pWalk_1 G fun v12 => ldV 0 G G (Og G) G fun w13 => cf1 0 (count_c p bv bs s 1024 inI hp) (Kg G) G G (Sc 3 G Sn) G fun _ v14 h14 => ?_
 have h14 : v14 = .int .i64 ((rdCount bs 1024 s).1 : Int) := h14
 subst h14
 exact ru 1 G<|nl<|nx<|rt<|tR<|fR1 () G G G G Sn
theorem more_c : Fnc Pg 251 [pv] [rd2 p bv s] [⟨pv, (⟨⟨p⟩⟩ : Pt TWalk)⟩] (fun (_ : Unit) v => v = .bool (decide ((s.fault : Int) = 0))) (fun _ _ => [rd2 p bv s]) (fun _ _ => []) := by
 exact Fnc.proof Tryz.func251 G 29 G G fun X w => sa 1 G<|sq<|qg<|mv G G<|ncP 0 G G G<|faP (α := TWalk) (β := RawP) 0 (fun x : TWalk => x.fR) G G (Fg G) pWalk_1 G fun v5 => ldV 0 G G (Og G) G fun w6 => neP Tryz.underlying205 G G G<|nl<|nx<|cdT G<|qg<|mv G G<|ncP 1 G G G<|faP (α := TWalk) (β := RawP) 1 (fun x : TWalk => x.fR) G G (Fg G) pWalk_1 G fun v10 => ldV 0 G G (Og G) G fun w11 => rl 5 [0] G G<|nl<|nx<|rt<|tR<|fR1 () G G G G Sn
end
section
variable (pv bv : Value) (p : Nat) (bs : List UInt8) (s : Rd) (b T : Nat) (cells : List Value) (q : List Value × Rd) (o : Nat)
theorem int_q (sv : Value) (p : Nat) (bs : List UInt8) (b T : Nat) (q : List Value × Rd) (offs : List Nat) (hp : q.2.pos ≤ bs.length) (hz : zeroI q.1 offs) (hn : offs.Nodup) : Fnc Pg 199 [pv, sv] [bl b T q.1, rd2 p bv q.2] [⟨pv, (⟨⟨p⟩⟩ : Pt TWalk)⟩, ⟨bv, bs⟩, ⟨sv, ptrs b offs⟩] (fun (_ : Unit) _ => True) (fun _ _ => [bl b T (intsP bs offs q).1, rd2 p bv (intsP bs offs q).2]) (fun _ _ => []) :=
 int_p pv bv sv p bs q.2 b T q.1 offs hp hz hn
theorem num1_q (hp : q.2.pos ≤ bs.length) (hz : q.1[o]? = some (.int .i64 0)) : Fnc Pg 202 [pv, .pointer (some ⟨b, o, none⟩)] [bl b T q.1, rd2 p bv q.2] [⟨pv, (⟨⟨p⟩⟩ : Pt TWalk)⟩, ⟨bv, bs⟩] (fun (_ : Unit) _ => True) (fun _ _ => [bl b T (intsP bs [o] q).1, rd2 p bv (intsP bs [o] q).2]) (fun _ _ => []) :=
 num1_p pv bv p bs q.2 b T q.1 o hp hz
theorem text1_q (hp : q.2.pos ≤ bs.length) (hz : q.1[o]? = some (.string ByteArray.empty)) : Fnc Pg 201 [pv, .pointer (some ⟨b, o, none⟩)] [bl b T q.1, rd2 p bv q.2] [⟨pv, (⟨⟨p⟩⟩ : Pt TWalk)⟩, ⟨bv, bs⟩] (fun (_ : Unit) _ => True) (fun _ _ => [bl b T (textsP bs [o] q).1, rd2 p bv (textsP bs [o] q).2]) (fun _ _ => []) :=
 text1_p pv bv p bs q.2 b T q.1 o hp hz
theorem flag_q (hp : q.2.pos ≤ bs.length) (hz : q.1[o]? = some (.bool false)) : Fnc Pg 200 [pv, .pointer (some ⟨b, o, none⟩)] [bl b T q.1, rd2 p bv q.2] [⟨pv, (⟨⟨p⟩⟩ : Pt TWalk)⟩, ⟨bv, bs⟩] (fun (_ : Unit) _ => True) (fun _ _ => [bl b T (flagP bs o q).1, rd2 p bv (flagP bs o q).2]) (fun _ _ => []) :=
 flag_p pv bv p bs q.2 b T q.1 o hp hz
theorem bytes_q (u : Value) (hp : q.2.pos ≤ bs.length) (hz : q.1[o]? = some u) : Fnc Pg 209 [pv, .pointer (some ⟨b, o, none⟩)] [bl b T q.1, rd2 p bv q.2] [⟨pv, (⟨⟨p⟩⟩ : Pt TWalk)⟩, ⟨bv, bs⟩, ⟨u, ([] : List UInt8)⟩] (fun (_ : Value) _ => True) (fun y _ => [bl b T (setL o y (rdText bs 65535) q).1, rd2 p bv (setL o y (rdText bs 65535) q).2]) (fun y _ => [⟨y, (rdText bs 65535 q.2).1⟩]) :=
 bytes_p pv bv p bs q.2 b T q.1 o u hp hz
theorem op_p (hp : s.pos ≤ bs.length) (hz0 : cells[o]? = some (.int .i64 0)) (hz1 : cells[o + 1]? = some (.string ByteArray.empty)) (hz2 : cells[o + 2]? = some (.string ByteArray.empty)) (hz3 : cells[o + 3]? = some (.int .i64 0)) (hz4 : cells[o + 4]? = some (.int .i64 0)) (hz5 : cells[o + 5]? = some (.int .i64 0)) : Fnc Pg 294 [pv, .pointer (some ⟨b, o, none⟩)] [bl b T cells, rd2 p bv s] [⟨pv, (⟨⟨p⟩⟩ : Pt TWalk)⟩, ⟨bv, bs⟩] (fun (_ : Unit) _ => True) (fun _ _ => [bl b T (opPr bs o (cells, s)).1, rd2 p bv (opPr bs o (cells, s)).2]) (fun _ _ => []) := by
 exact Fnc.proof Tryz.func294 G 31 G G fun X w => qg<|ru 4 G<|cfN 2 (num1_q pv bv p bs b T (cells, s) o hp (by first | assumption | (repeat first | rw [intsP_at (by simp only [List.mem_cons, List.not_mem_nil, or_false]; omega)] | rw [textsP_at (by simp only [List.mem_cons, List.not_mem_nil, or_false]; omega)]); assumption)) (Kg G) G G (Si [0,1] G) G fun _ _ _ => nl<|nx<|qg<|ru 4 G<|cfN 2 (text1_q pv bv p bs b T (intsP bs [o] (cells, s)) (o + 1) (intsP_pos hp) (by first | assumption | (repeat first | rw [intsP_at (by simp only [List.mem_cons, List.not_mem_nil, or_false]; omega)] | rw [textsP_at (by simp only [List.mem_cons, List.not_mem_nil, or_false]; omega)]); assumption)) (Kg G) G G (Si [0,1] G) G fun _ _ _ => nl<|nx<|qg<|ru 4 G<|cfN 2 (text1_q pv bv p bs b T (textsP bs [(o + 1)] (intsP bs [o] (cells, s))) (o + 2) (textsP_pos (intsP_pos hp)) (by first | assumption | (repeat first | rw [intsP_at (by simp only [List.mem_cons, List.not_mem_nil, or_false]; omega)] | rw [textsP_at (by simp only [List.mem_cons, List.not_mem_nil, or_false]; omega)]); assumption)) (Kg G) G G (Si [0,1] G) G fun _ _ _ => nl<|nx<|rgP b [(o + 3),(o + 4),(o + 5)] [1,2,0] (fun u => int_q pv bv u p bs b T (textsP bs [(o + 2)] (textsP bs [(o + 1)] (intsP bs [o] (cells, s)))) [(o + 3), (o + 4), (o + 5)] (textsP_pos (textsP_pos (intsP_pos hp))) (by intro x hx; simp only [List.mem_cons, List.not_mem_nil, or_false] at hx; rcases hx with rfl | rfl | rfl <;> first | assumption | (repeat first | rw [intsP_at (by simp only [List.mem_cons, List.not_mem_nil, or_false]; omega)] | rw [textsP_at (by simp only [List.mem_cons, List.not_mem_nil, or_false]; omega)]); assumption) (by simp)) (Kg G) app_297 G G (by kernel_rfl) (fun _ => G)<|fR0N () G trivial G Sn
theorem op_q (hp : q.2.pos ≤ bs.length) (hz0 : q.1[o]? = some (.int .i64 0)) (hz1 : q.1[o + 1]? = some (.string ByteArray.empty)) (hz2 : q.1[o + 2]? = some (.string ByteArray.empty)) (hz3 : q.1[o + 3]? = some (.int .i64 0)) (hz4 : q.1[o + 4]? = some (.int .i64 0)) (hz5 : q.1[o + 5]? = some (.int .i64 0)) : Fnc Pg 294 [pv, .pointer (some ⟨b, o, none⟩)] [bl b T q.1, rd2 p bv q.2] [⟨pv, (⟨⟨p⟩⟩ : Pt TWalk)⟩, ⟨bv, bs⟩] (fun (_ : Unit) _ => True) (fun _ _ => [bl b T (opPr bs o q).1, rd2 p bv (opPr bs o q).2]) (fun _ _ => []) :=
 op_p pv bv p bs q.2 b T q.1 o hp hz0 hz1 hz2 hz3 hz4 hz5
theorem plan_p (hp : s.pos ≤ bs.length) (hz0 : cells[o]? = some (.int .i64 0)) (hz1 : cells[o + 1]? = some (.int .i64 0)) (hz2 : cells[o + 2]? = some (.int .i64 0)) (hz3 : cells[o + 3]? = some (.string ByteArray.empty)) (hz4 : cells[o + 4]? = some (.string ByteArray.empty)) (hz5 : cells[o + 5]? = some (.int .i64 0)) (hz6 : cells[o + 6]? = some (.int .i64 0)) : Fnc Pg 208 [pv, .pointer (some ⟨b, o, none⟩)] [bl b T cells, rd2 p bv s] [⟨pv, (⟨⟨p⟩⟩ : Pt TWalk)⟩, ⟨bv, bs⟩] (fun (_ : Unit) _ => True) (fun _ _ => [bl b T (planPr bs o (cells, s)).1, rd2 p bv (planPr bs o (cells, s)).2]) (fun _ _ => []) := by
 exact Fnc.proof Tryz.func208 G 35 G G fun X w => sq<|rgP b [o,(o + 1),(o + 2)] [1,2,0] (fun u => int_q pv bv u p bs b T (cells, s) [o, (o + 1), (o + 2)] hp (by intro x hx; simp only [List.mem_cons, List.not_mem_nil, or_false] at hx; rcases hx with rfl | rfl | rfl <;> first | assumption | (repeat first | rw [intsP_at (by simp only [List.mem_cons, List.not_mem_nil, or_false]; omega)] | rw [textsP_at (by simp only [List.mem_cons, List.not_mem_nil, or_false]; omega)]); assumption) (by simp)) (Kg G) app_297 G G (by kernel_rfl) (fun _ => G)<|nx<|qg<|ru 4 G<|cfN 2 (text1_q pv bv p bs b T (intsP bs [o, (o + 1), (o + 2)] (cells, s)) (o + 3) (intsP_pos hp) (by first | assumption | (repeat first | rw [intsP_at (by simp only [List.mem_cons, List.not_mem_nil, or_false]; omega)] | rw [textsP_at (by simp only [List.mem_cons, List.not_mem_nil, or_false]; omega)]); assumption)) (Kg G) G G (Si [0,1] G) G fun _ _ _ => nl<|nx<|qg<|ru 4 G<|cfN 2 (text1_q pv bv p bs b T (textsP bs [(o + 3)] (intsP bs [o, (o + 1), (o + 2)] (cells, s))) (o + 4) (textsP_pos (intsP_pos hp)) (by first | assumption | (repeat first | rw [intsP_at (by simp only [List.mem_cons, List.not_mem_nil, or_false]; omega)] | rw [textsP_at (by simp only [List.mem_cons, List.not_mem_nil, or_false]; omega)]); assumption)) (Kg G) G G (Si [0,1] G) G fun _ _ _ => nl<|nx<|rgP b [(o + 5),(o + 6)] [1,2,0] (fun u => int_q pv bv u p bs b T (textsP bs [(o + 4)] (textsP bs [(o + 3)] (intsP bs [o, (o + 1), (o + 2)] (cells, s)))) [(o + 5), (o + 6)] (textsP_pos (textsP_pos (intsP_pos hp))) (by intro x hx; simp only [List.mem_cons, List.not_mem_nil, or_false] at hx; rcases hx with rfl | rfl <;> first | assumption | (repeat first | rw [intsP_at (by simp only [List.mem_cons, List.not_mem_nil, or_false]; omega)] | rw [textsP_at (by simp only [List.mem_cons, List.not_mem_nil, or_false]; omega)]); assumption) (by simp)) (Kg G) app_297 G G (by kernel_rfl) (fun _ => G)<|fR0N () G trivial G Sn
theorem plan_q (hp : q.2.pos ≤ bs.length) (hz0 : q.1[o]? = some (.int .i64 0)) (hz1 : q.1[o + 1]? = some (.int .i64 0)) (hz2 : q.1[o + 2]? = some (.int .i64 0)) (hz3 : q.1[o + 3]? = some (.string ByteArray.empty)) (hz4 : q.1[o + 4]? = some (.string ByteArray.empty)) (hz5 : q.1[o + 5]? = some (.int .i64 0)) (hz6 : q.1[o + 6]? = some (.int .i64 0)) : Fnc Pg 208 [pv, .pointer (some ⟨b, o, none⟩)] [bl b T q.1, rd2 p bv q.2] [⟨pv, (⟨⟨p⟩⟩ : Pt TWalk)⟩, ⟨bv, bs⟩] (fun (_ : Unit) _ => True) (fun _ _ => [bl b T (planPr bs o q).1, rd2 p bv (planPr bs o q).2]) (fun _ _ => []) :=
 plan_p pv bv p bs q.2 b T q.1 o hp hz0 hz1 hz2 hz3 hz4 hz5 hz6
theorem span_p (hp : s.pos ≤ bs.length) (hz0 : cells[o]? = some (.int .i64 0)) (hz1 : cells[o + 1]? = some (.int .i64 0)) : Fnc Pg 290 [pv, .pointer (some ⟨b, o, none⟩)] [bl b T cells, rd2 p bv s] [⟨pv, (⟨⟨p⟩⟩ : Pt TWalk)⟩, ⟨bv, bs⟩] (fun (_ : Unit) _ => True) (fun _ _ => [bl b T (spanPr bs o (cells, s)).1, rd2 p bv (spanPr bs o (cells, s)).2]) (fun _ _ => []) := by
 exact Fnc.proof Tryz.func290 G 13 G G fun X w => rgP b [o,(o + 1)] [1,2,0] (fun u => int_q pv bv u p bs b T (cells, s) [o, (o + 1)] hp (by intro x hx; simp only [List.mem_cons, List.not_mem_nil, or_false] at hx; rcases hx with rfl | rfl <;> first | assumption | (repeat first | rw [intsP_at (by simp only [List.mem_cons, List.not_mem_nil, or_false]; omega)] | rw [textsP_at (by simp only [List.mem_cons, List.not_mem_nil, or_false]; omega)]); assumption) (by simp)) (Kg G) app_297 G G (by kernel_rfl) (fun _ => G)<|fR0N () G trivial G Sn
theorem span_q (hp : q.2.pos ≤ bs.length) (hz0 : q.1[o]? = some (.int .i64 0)) (hz1 : q.1[o + 1]? = some (.int .i64 0)) : Fnc Pg 290 [pv, .pointer (some ⟨b, o, none⟩)] [bl b T q.1, rd2 p bv q.2] [⟨pv, (⟨⟨p⟩⟩ : Pt TWalk)⟩, ⟨bv, bs⟩] (fun (_ : Unit) _ => True) (fun _ _ => [bl b T (spanPr bs o q).1, rd2 p bv (spanPr bs o q).2]) (fun _ _ => []) :=
 span_p pv bv p bs q.2 b T q.1 o hp hz0 hz1
theorem lock_p (hp : s.pos ≤ bs.length) (hz0 : cells[o]? = some (.int .i64 0)) (hz1 : cells[o + 1]? = some (.int .i64 0)) (hz2 : cells[o + 2]? = some (.int .i64 0)) (hz3 : cells[o + 3]? = some (.int .i64 0)) : Fnc Pg 292 [pv, .pointer (some ⟨b, o, none⟩)] [bl b T cells, rd2 p bv s] [⟨pv, (⟨⟨p⟩⟩ : Pt TWalk)⟩, ⟨bv, bs⟩] (fun (_ : Unit) _ => True) (fun _ _ => [bl b T (lockPr bs o (cells, s)).1, rd2 p bv (lockPr bs o (cells, s)).2]) (fun _ _ => []) := by
 exact Fnc.proof Tryz.func292 G 19 G G fun X w => rgP b [o,(o + 1),(o + 2),(o + 3)] [1,2,0] (fun u => int_q pv bv u p bs b T (cells, s) [o, (o + 1), (o + 2), (o + 3)] hp (by intro x hx; simp only [List.mem_cons, List.not_mem_nil, or_false] at hx; rcases hx with rfl | rfl | rfl | rfl <;> first | assumption | (repeat first | rw [intsP_at (by simp only [List.mem_cons, List.not_mem_nil, or_false]; omega)] | rw [textsP_at (by simp only [List.mem_cons, List.not_mem_nil, or_false]; omega)]); assumption) (by simp)) (Kg G) app_297 G G (by kernel_rfl) (fun _ => G)<|fR0N () G trivial G Sn
theorem lock_q (hp : q.2.pos ≤ bs.length) (hz0 : q.1[o]? = some (.int .i64 0)) (hz1 : q.1[o + 1]? = some (.int .i64 0)) (hz2 : q.1[o + 2]? = some (.int .i64 0)) (hz3 : q.1[o + 3]? = some (.int .i64 0)) : Fnc Pg 292 [pv, .pointer (some ⟨b, o, none⟩)] [bl b T q.1, rd2 p bv q.2] [⟨pv, (⟨⟨p⟩⟩ : Pt TWalk)⟩, ⟨bv, bs⟩] (fun (_ : Unit) _ => True) (fun _ _ => [bl b T (lockPr bs o q).1, rd2 p bv (lockPr bs o q).2]) (fun _ _ => []) :=
 lock_p pv bv p bs q.2 b T q.1 o hp hz0 hz1 hz2 hz3
theorem answer_p (hp : s.pos ≤ bs.length) (hz0 : cells[o]? = some (.int .i64 0)) (hz1 : cells[o + 1]? = some (.int .i64 0)) (hz2 : cells[o + 2]? = some (.int .i64 0)) (hz3 : cells[o + 3]? = some (.int .i64 0)) : Fnc Pg 293 [pv, .pointer (some ⟨b, o, none⟩)] [bl b T cells, rd2 p bv s] [⟨pv, (⟨⟨p⟩⟩ : Pt TWalk)⟩, ⟨bv, bs⟩] (fun (_ : Unit) _ => True) (fun _ _ => [bl b T (answerPr bs o (cells, s)).1, rd2 p bv (answerPr bs o (cells, s)).2]) (fun _ _ => []) := by
 refine Fnc.proof Tryz.func293 G 27 G G fun X w => ?_
 have ho := lt_of_at hz0
 exact qg<|ru 3 G<|ldB 0 G G (Og G) hz0 G<|al zero_3 G fun b4 => stB 0 G G G (Og G) G (by decide)<|nl<|nx<|qg<|mv G G<|mtL 2 G<|mtL 1 G<|cfN 2 (num1_p pv bv p bs s b4 3 [.int .i64 0] 0 hp G) (Kg G) G G (Si [0,1] G) G fun _ _ _ => nl<|nx<|qg<|mv G G<|ldB 0 G G (Og G) (show _ = some (.int .i64 (rdInt bs s).1) from G) G<|ru 2 G<|stB 2 G G G (Og G) G ho<|dpL<|mtL 1 G<|nl<|nx<|rgP b [(o + 1),(o + 2),(o + 3)] [1,2,0] (fun u => int_q pv bv u p bs b T (intsP bs [o] (cells, s)) [(o + 1), (o + 2), (o + 3)] (intsP_pos hp) (by intro x hx; simp only [List.mem_cons, List.not_mem_nil, or_false] at hx; rcases hx with rfl | rfl | rfl <;> first | assumption | (repeat first | rw [intsP_at (by simp only [List.mem_cons, List.not_mem_nil, or_false]; omega)] | rw [textsP_at (by simp only [List.mem_cons, List.not_mem_nil, or_false]; omega)]); assumption) (by simp)) (Kg G) app_297 G G (by kernel_rfl) (fun _ => G)<|fR0N () G trivial G Sn
theorem answer_q (hp : q.2.pos ≤ bs.length) (hz0 : q.1[o]? = some (.int .i64 0)) (hz1 : q.1[o + 1]? = some (.int .i64 0)) (hz2 : q.1[o + 2]? = some (.int .i64 0)) (hz3 : q.1[o + 3]? = some (.int .i64 0)) : Fnc Pg 293 [pv, .pointer (some ⟨b, o, none⟩)] [bl b T q.1, rd2 p bv q.2] [⟨pv, (⟨⟨p⟩⟩ : Pt TWalk)⟩, ⟨bv, bs⟩] (fun (_ : Unit) _ => True) (fun _ _ => [bl b T (answerPr bs o q).1, rd2 p bv (answerPr bs o q).2]) (fun _ _ => []) :=
 answer_p pv bv p bs q.2 b T q.1 o hp hz0 hz1 hz2 hz3
end
end Go.Proofs.YtmpoffijcfaalaaGreat.Ref
namespace Go.YtmpoffijcfaalaaGreat
open Go.Eng
section
variable (bs : List UInt8) (s : Rd) (y27 y37 y42 y47 y52 y57 y72 : Value)
theorem gwHolder_eq : (intsP bs [0, 1, 2, 3] (zv0, s)) = (cHolder (gdHolder bs s).1, (gdHolder bs s).2) := by
 simp only [intsP, gdHolder, bnd, List.set_cons_zero, List.set_cons_succ]
theorem gwEnd_eq : (intsP bs [0, 1] (zv1, s)) = (cEnd (gdEnd bs s).1, (gdEnd bs s).2) := by
 simp only [intsP, gdEnd, bnd, List.set_cons_zero, List.set_cons_succ]
theorem gwDeal_eq : (intsP bs [4, 5, 6, 7] (textsP bs [3] (textsP bs [2] (intsP bs [0, 1] (zv2, s))))) = (cDeal (gdDeal bs s).1, (gdDeal bs s).2) := by
 simp only [intsP, textsP, gdDeal, bnd, List.set_cons_zero, List.set_cons_succ]
theorem gwMark_eq : (answerPr bs 3 (flagP bs 2 (intsP bs [0, 1] (zv3, s)))) = (cMark (gdMark bs s).1, (gdMark bs s).2) := by
 simp only [intsP, flagP, answerPr, gdMark, gdAnswer, bnd, List.set_cons_zero, List.set_cons_succ, Nat.reduceAdd]
theorem gwWait_eq : (opPr bs 5 (intsP bs [0, 1, 2, 3, 4] (zv4, s))) = (cWait (gdWait bs s).1, (gdWait bs s).2) := by
 simp only [intsP, textsP, opPr, gdWait, gdOp, bnd, List.set_cons_zero, List.set_cons_succ, Nat.reduceAdd]
theorem gwAccount_eq : (lockPr bs 6 (setL 5 y27 (rdLs bs (gdHolder bs)) (intsP bs [3, 4] (spanPr bs 1 (textsP bs [0] (zv5, s)))))) = (cAccount (gdAccount bs s).1 y27, (gdAccount bs s).2) := by
 simp only [intsP, textsP, setL, spanPr, lockPr, gdAccount, gdSpan, gdLock, bnd, List.set_cons_zero, List.set_cons_succ, Nat.reduceAdd]
theorem gwAccount_l0 (bs : List UInt8) (s : Rd) (y27 : Value) : (rdLs bs (gdHolder bs) (intsP bs [3, 4] (spanPr bs 1 (textsP bs [0] (zv5, s)))).2).1 = (gdAccount bs s).1.fHolders := by
 simp only [intsP, textsP, spanPr, gdAccount, gdSpan, gdLock, bnd, List.set_cons_zero, List.set_cons_succ, Nat.reduceAdd]
theorem gwState_eq : (intsP bs [26, 27, 28] (setL 25 y72 (rdText bs 65535) (planPr bs 18 (planPr bs 11 (setL 10 y57 (rdLs bs (gdEnd bs)) (setL 9 y52 (rdLs bs (gdDeal bs)) (setL 8 y47 (rdLs bs (gdWait bs)) (setL 7 y42 (rdLs bs (gdMark bs)) (setL 6 y37 (rdLs bs (gdAccount bs)) (intsP bs [5] (textsP bs [4] (textsP bs [3] (flagP bs 2 (intsP bs [0, 1] (zv6, s))))))))))))))) = (cState (gdState bs s).1 y37 y42 y47 y52 y57 y72, (gdState bs s).2) := by
 simp only [intsP, textsP, flagP, setL, planPr, gdState, gdPlan, gdPlan, bnd, List.set_cons_zero, List.set_cons_succ, Nat.reduceAdd]
theorem gwState_l0 (bs : List UInt8) (s : Rd) (y37 y42 y47 y52 y57 y72 : Value) : (rdLs bs (gdAccount bs) (intsP bs [5] (textsP bs [4] (textsP bs [3] (flagP bs 2 (intsP bs [0, 1] (zv6, s)))))).2).1 = (gdState bs s).1.fAccounts := by
 simp only [intsP, textsP, flagP, gdState, gdPlan, gdPlan, bnd, List.set_cons_zero, List.set_cons_succ]
theorem gwState_l1 (bs : List UInt8) (s : Rd) (y37 y42 y47 y52 y57 y72 : Value) : (rdLs bs (gdMark bs) (setL 6 y37 (rdLs bs (gdAccount bs)) (intsP bs [5] (textsP bs [4] (textsP bs [3] (flagP bs 2 (intsP bs [0, 1] (zv6, s))))))).2).1 = (gdState bs s).1.fMarks := by
 simp only [intsP, textsP, flagP, setL, gdState, gdPlan, gdPlan, bnd, List.set_cons_zero, List.set_cons_succ]
theorem gwState_l2 (bs : List UInt8) (s : Rd) (y37 y42 y47 y52 y57 y72 : Value) : (rdLs bs (gdWait bs) (setL 7 y42 (rdLs bs (gdMark bs)) (setL 6 y37 (rdLs bs (gdAccount bs)) (intsP bs [5] (textsP bs [4] (textsP bs [3] (flagP bs 2 (intsP bs [0, 1] (zv6, s)))))))).2).1 = (gdState bs s).1.fWaits := by
 simp only [intsP, textsP, flagP, setL, gdState, gdPlan, gdPlan, bnd, List.set_cons_zero, List.set_cons_succ]
theorem gwState_l3 (bs : List UInt8) (s : Rd) (y37 y42 y47 y52 y57 y72 : Value) : (rdLs bs (gdDeal bs) (setL 8 y47 (rdLs bs (gdWait bs)) (setL 7 y42 (rdLs bs (gdMark bs)) (setL 6 y37 (rdLs bs (gdAccount bs)) (intsP bs [5] (textsP bs [4] (textsP bs [3] (flagP bs 2 (intsP bs [0, 1] (zv6, s))))))))).2).1 = (gdState bs s).1.fDeals := by
 simp only [intsP, textsP, flagP, setL, gdState, gdPlan, gdPlan, bnd, List.set_cons_zero, List.set_cons_succ]
theorem gwState_l4 (bs : List UInt8) (s : Rd) (y37 y42 y47 y52 y57 y72 : Value) : (rdLs bs (gdEnd bs) (setL 9 y52 (rdLs bs (gdDeal bs)) (setL 8 y47 (rdLs bs (gdWait bs)) (setL 7 y42 (rdLs bs (gdMark bs)) (setL 6 y37 (rdLs bs (gdAccount bs)) (intsP bs [5] (textsP bs [4] (textsP bs [3] (flagP bs 2 (intsP bs [0, 1] (zv6, s)))))))))).2).1 = (gdState bs s).1.fEnds := by
 simp only [intsP, textsP, flagP, setL, gdState, gdPlan, gdPlan, bnd, List.set_cons_zero, List.set_cons_succ]
theorem gwState_l5 (bs : List UInt8) (s : Rd) (y37 y42 y47 y52 y57 y72 : Value) : (rdText bs 65535 (planPr bs 18 (planPr bs 11 (setL 10 y57 (rdLs bs (gdEnd bs)) (setL 9 y52 (rdLs bs (gdDeal bs)) (setL 8 y47 (rdLs bs (gdWait bs)) (setL 7 y42 (rdLs bs (gdMark bs)) (setL 6 y37 (rdLs bs (gdAccount bs)) (intsP bs [5] (textsP bs [4] (textsP bs [3] (flagP bs 2 (intsP bs [0, 1] (zv6, s))))))))))))).2).1 = (gdState bs s).1.fImage := by
 simp only [intsP, textsP, flagP, setL, planPr, gdState, gdPlan, gdPlan, bnd, List.set_cons_zero, List.set_cons_succ, Nat.reduceAdd]
end
end Go.YtmpoffijcfaalaaGreat
namespace Go.Proofs.YtmpoffijcfaalaaGreat.Ref
open Go.Eng Go.YtmpoffijcfaalaaGreat
section
variable (pv bv : Value) (p : Nat) (bs : List UInt8) (s : Rd) (b : Nat)
theorem holder_e (hp : s.pos ≤ bs.length) : Fnc Pg 310 [pv, .pointer (some ⟨b, 0, none⟩)] [bl b 165 zv0, rd2 p bv s] [⟨pv, (⟨⟨p⟩⟩ : Pt TWalk)⟩, ⟨bv, bs⟩] (fun (_ : Unit) _ => True) (fun _ _ => [bl b 165 (cHolder (gdHolder bs s).1), rd2 p bv (gdHolder bs s).2]) (fun _ _ => []) := by
 exact Fnc.proof Tryz.func310 G 19 G G fun X w => rgP b [0,1,2,3] [1,2,0] (fun u => int_q pv bv u p bs b 165 (zv0, s) [0, 1, 2, 3] hp (zI G) (by decide)) (Kg G) app_297 G G (by kernel_rfl) (fun _ => G)<|fR0N () G trivial (by simp only [gwHolder_eq, List.cons_append, List.nil_append] <;> rfl) Sn
theorem end_e (hp : s.pos ≤ bs.length) : Fnc Pg 256 [pv, .pointer (some ⟨b, 0, none⟩)] [bl b 129 zv1, rd2 p bv s] [⟨pv, (⟨⟨p⟩⟩ : Pt TWalk)⟩, ⟨bv, bs⟩] (fun (_ : Unit) _ => True) (fun _ _ => [bl b 129 (cEnd (gdEnd bs s).1), rd2 p bv (gdEnd bs s).2]) (fun _ _ => []) := by
 exact Fnc.proof Tryz.func256 G 13 G G fun X w => rgP b [0,1] [1,2,0] (fun u => int_q pv bv u p bs b 129 (zv1, s) [0, 1] hp (zI G) (by decide)) (Kg G) app_297 G G (by kernel_rfl) (fun _ => G)<|fR0N () G trivial (by simp only [gwEnd_eq, List.cons_append, List.nil_append] <;> rfl) Sn
theorem deal_e (hp : s.pos ≤ bs.length) : Fnc Pg 255 [pv, .pointer (some ⟨b, 0, none⟩)] [bl b 126 zv2, rd2 p bv s] [⟨pv, (⟨⟨p⟩⟩ : Pt TWalk)⟩, ⟨bv, bs⟩] (fun (_ : Unit) _ => True) (fun _ _ => [bl b 126 (cDeal (gdDeal bs s).1), rd2 p bv (gdDeal bs s).2]) (fun _ _ => []) := by
 exact Fnc.proof Tryz.func255 G 38 G G fun X w => sq<|rgP b [0,1] [1,2,0] (fun u => int_q pv bv u p bs b 126 (zv2, s) [0, 1] hp (zI G) (by decide)) (Kg G) app_297 G G (by kernel_rfl) (fun _ => G)<|nx<|qg<|ru 4 G<|cfN 2 (text1_q pv bv p bs b 126 (intsP bs [0, 1] (zv2, s)) 2 (intsP_pos hp) G) (Kg G) G G (Si [0,1] G) G fun _ _ _ => nl<|nx<|qg<|ru 4 G<|cfN 2 (text1_q pv bv p bs b 126 (textsP bs [2] (intsP bs [0, 1] (zv2, s))) 3 (textsP_pos (intsP_pos hp)) G) (Kg G) G G (Si [0,1] G) G fun _ _ _ => nl<|nx<|rgP b [4,5,6,7] [1,2,0] (fun u => int_q pv bv u p bs b 126 (textsP bs [3] (textsP bs [2] (intsP bs [0, 1] (zv2, s)))) [4, 5, 6, 7] (textsP_pos (textsP_pos (intsP_pos hp))) (zI G) (by decide)) (Kg G) app_297 G G (by kernel_rfl) (fun _ => G)<|fR0N () G trivial (by simp only [gwDeal_eq, List.cons_append, List.nil_append] <;> rfl) Sn
theorem mark_e (hp : s.pos ≤ bs.length) : Fnc Pg 253 [pv, .pointer (some ⟨b, 0, none⟩)] [bl b 122 zv3, rd2 p bv s] [⟨pv, (⟨⟨p⟩⟩ : Pt TWalk)⟩, ⟨bv, bs⟩] (fun (_ : Unit) _ => True) (fun _ _ => [bl b 122 (cMark (gdMark bs s).1), rd2 p bv (gdMark bs s).2]) (fun _ _ => []) := by
 exact Fnc.proof Tryz.func253 G 23 G G fun X w => sq<|rgP b [0,1] [1,2,0] (fun u => int_q pv bv u p bs b 122 (zv3, s) [0, 1] hp (zI G) (by decide)) (Kg G) app_297 G G (by kernel_rfl) (fun _ => G)<|nx<|qg<|ru 4 G<|cfN 2 (flag_q pv bv p bs b 122 (intsP bs [0, 1] (zv3, s)) 2 (intsP_pos hp) G) (Kg G) G G (Si [0,1] G) G fun _ _ _ => nl<|nx<|rg<|ru 4 G<|cfN 2 (answer_q pv bv p bs b 122 (flagP bs 2 (intsP bs [0, 1] (zv3, s))) 3 (flagP_pos (intsP_pos hp)) G G G G) (Kg G) G G (Si [0,1] G) G fun _ _ _ => nl<|fR0N () G trivial (by simp only [gwMark_eq, List.cons_append, List.nil_append] <;> rfl) Sn
theorem wait_e (hp : s.pos ≤ bs.length) : Fnc Pg 254 [pv, .pointer (some ⟨b, 0, none⟩)] [bl b 108 zv4, rd2 p bv s] [⟨pv, (⟨⟨p⟩⟩ : Pt TWalk)⟩, ⟨bv, bs⟩] (fun (_ : Unit) _ => True) (fun _ _ => [bl b 108 (cWait (gdWait bs s).1), rd2 p bv (gdWait bs s).2]) (fun _ _ => []) := by
 exact Fnc.proof Tryz.func254 G 27 G G fun X w => sq<|rgP b [0,1,2,3,4] [1,2,0] (fun u => int_q pv bv u p bs b 108 (zv4, s) [0, 1, 2, 3, 4] hp (zI G) (by decide)) (Kg G) app_297 G G (by kernel_rfl) (fun _ => G)<|nx<|rg<|ru 4 G<|cfN 2 (op_q pv bv p bs b 108 (intsP bs [0, 1, 2, 3, 4] (zv4, s)) 5 (intsP_pos hp) G G G G G G) (Kg G) G G (Si [0,1] G) G fun _ _ _ => nl<|fR0N () G trivial (by simp only [gwWait_eq, List.cons_append, List.nil_append] <;> rfl) Sn
end
end Go.Proofs.YtmpoffijcfaalaaGreat.Ref
