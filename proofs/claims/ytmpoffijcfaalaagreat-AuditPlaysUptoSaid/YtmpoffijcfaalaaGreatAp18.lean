/- Part 18 of auditPlays_holds. -/
import Derived.Test.YtmpoffijcfaalaaGreatAp17

set_option maxRecDepth 20000
set_option maxHeartbeats 1000000
namespace Go.Proofs.YtmpoffijcfaalaaGreat
open Go.Eng Go.YtmpoffijcfaalaaGreat
theorem copyAcc_c (a : TAccount) (a_0 : Value) (h_a : a.wf) (hb : a.fHolders.length ≤ 1048576) : Fnc Pg 170 [.agg (cAccount a a_0).toArray] [] [⟨a_0, a.fHolders⟩] (fun (y : Value) u => u = .agg (cAccount a y).toArray) (fun _ _ => []) (fun y _ => [⟨y, a.fHolders⟩]) := by
 exact Fnc.proof Tryz.func170 G 8 G G fun X w => qg<|bx G G G fun b1 => al zero_70 G fun b2 => nl<|nx<|qg<|rl 2 [1] G G<|rwL THolder 165<|ap 0 0 G G G G app_66 (by simp only [List.length_nil]; omega) (by simp only [List.length_nil]; omega) G fun v5 => frRL<|ru 1 G<|stL 1 0 G G G G (Og G) (nlt G)<|nl<|nx<|qg<|ldM 1 (cAccount ((⟨a.fKey, (⟨a.fSpan.fLo, a.fSpan.fHi⟩ : TSpan), a.fBase, a.fRound, a.fHolders, (⟨a.fLock.fClient, a.fLock.fSeq, a.fLock.fHome, a.fLock.fN⟩ : TLock)⟩ : TAccount)) v5) G G (Rg G) G G<|oc 0 G fun o_v5 => stW 0 (us := (cAccount ((⟨a.fKey, (⟨a.fSpan.fLo, a.fSpan.fHi⟩ : TSpan), a.fBase, a.fRound, a.fHolders, (⟨a.fLock.fClient, a.fLock.fSeq, a.fLock.fHome, a.fLock.fN⟩ : TLock)⟩ : TAccount)) v5)) G G G (Rg G) (by simp only [List.all_cons, List.all_nil, Bool.and_true, o_v5]; rfl) G<|nl<|nx<|rt<|fRG v5 [_, _] (rC 0 G G G (Rg G)) (by rfl) G (Sc 0 G Sn)
theorem copyAccs_c (v_l : Value) (l : List TAccount) (hl : l.length ≤ 1048576) (hb : ∀ j, (l.getD j default).fHolders.length ≤ 1048576) : Fnc Pg 96 [v_l] [] [⟨v_l, l⟩] (fun (_ : Unit) _ => True) (fun _ _ => []) (fun _ v => [⟨v, l⟩]) := by
 refine Fnc.proof Tryz.func96 G 20 G G fun X w => sa 1 G<|sa 1 G<|sq<|sa 1 G<|bk<|rwC TAccount 70<|lpE (σ := Nat × Value) [(0, _)] _ (fun s C => (4, .int .i64 (s.1 : Int)) :: (3, s.2) :: C) (fun s => [row 70 s.2 (l.take s.1), fz X w]) (fun _ Dc => Dc) (fun s => s.1 ≤ l.length) (fun s => l.length - s.1) (0, _) ⟨G, trivial⟩ (Sc 0 G Sn) (Nat.zero_le _) (Gs G) G (Sc 0 G Sn) ?_
 rintro ⟨i, rv⟩ hi
 simp only at hi
 show WC _ _ _ [(4, .int .i64 ((i : Int))), (3, _), (0, _)] [row 70 rv (l.take i), fz X w] _
 refine sq<|qg<|ru 2 G<|lnP 0 G G Tryz.underlying50 G fun l7 => ru 1 G<|nl<|nx<|cdP G (fun h8 => ?_) (fun h8 => ?_)
 ·
  refine sk<|nx<|sq<|bk<|rg<|ru 3 G<|ixQ 0 G G G slt_50 G fun v14 => ldS 0 G G (Rg G) G fun q15 w15 => cf (copyAcc_c _ _ w15 (hb i)) (Kg G) G (Sc 1 G Sn) G fun y16 v16 h16 => ?_
  subst h16
  refine bsM G app_50 G G G G fun b17 => ?_
  refine frS1 (α := TAccount) (l.getD i default) (fun S w h => ⟨y16, G, fun t ht => by
    simp only [List.mem_cons, List.not_mem_nil, or_false] at ht
    subst ht
    · exact h _ (List.mem_of_getElem? (i := 0) G), w15⟩) ?_
  refine ap 0 0 G G G G app_50 (by have := List.length_take_le i l; simp only [List.length_cons, List.length_nil]; omega) (by have := List.length_take_le i l; simp only [List.length_cons, List.length_nil]; omega) G fun v18 => ru 1 G<|nl<|bN<|nx<|rg<|mv G G<|adI G G inI G<|ru 1 G<|nl ?_
  rw [take_snoc (by omega)]
  exact ag ((i + 1, v18) : Nat × Value) (by show i + 1 ≤ l.length; omega) (by show l.length - (i + 1) < l.length - i; omega) (Gs G) G (Sc 5 G Sn)
 ·
  obtain rfl : i = l.length := by omega
  rw [List.take_length]
  exact ex<|tE<|tE<|bE<|nx<|sa 2 G<|rt<|frRQ<|fR1 () G G trivial G (Sc 0 G Sn)
theorem copyChart_c (c : TChart) (c_0 c_1 : Value) (h_c : c.wf) (h1 : c.fPlaces.length ≤ 1048576) (h2 : c.fMarks.length ≤ 1048576) : Fnc Pg 42 [.agg (cChart c c_0 c_1).toArray] [] [⟨c_0, c.fPlaces⟩, ⟨c_1, c.fMarks⟩] (fun (y : Value × Value) u => u = .agg (cChart c y.1 y.2).toArray) (fun _ _ => []) (fun y _ => [⟨y.1, c.fPlaces⟩, ⟨y.2, c.fMarks⟩]) := by
 exact Fnc.proof Tryz.func42 G 12 G G fun X w => qg<|bx G G G fun b1 => al zero_27 G fun b2 => nl<|nx<|qg<|rl 2 [1] G G<|rwL TPlace 90<|ap 0 0 G G G G app_22 (by simp only [List.length_nil]; omega) (by simp only [List.length_nil]; omega) G fun v5 => frRL<|ru 1 G<|stL 1 0 G G G G (Og G) (nlt G)<|nl<|nx<|qg<|rl 2 [1] G G<|rwL TMark 122<|ap 0 2 G G G G app_25 (by simp only [List.length_nil]; omega) (by simp only [List.length_nil]; omega) G fun v9 => frRL<|ru 1 G<|stL 1 0 G G G G (Og G) (nlt G)<|nl<|nx<|qg<|ldM 1 (cChart ((⟨c.fIndex, c.fPlaces, c.fNext, c.fLast, (⟨c.fPlan.fNumber, c.fPlan.fFrom, c.fPlan.fTo, c.fPlan.fLo, c.fPlan.fHi, c.fPlan.fClient, c.fPlan.fSeq⟩ : TPlan), c.fMarks⟩ : TChart)) v5 v9) G G (Rg G) G G<|oc 1 G fun o_v5 => oc 0 G fun o_v9 => stW 0 (us := (cChart ((⟨c.fIndex, c.fPlaces, c.fNext, c.fLast, (⟨c.fPlan.fNumber, c.fPlan.fFrom, c.fPlan.fTo, c.fPlan.fLo, c.fPlan.fHi, c.fPlan.fClient, c.fPlan.fSeq⟩ : TPlan), c.fMarks⟩ : TChart)) v5 v9)) G G G (Rg G) (by simp only [List.all_cons, List.all_nil, Bool.and_true, o_v5, o_v9]; rfl) G<|nl<|nx<|rt<|fRG ⟨v5, v9⟩ [_, _] (rC 0 G G G (Rg G)) (by rfl) G (Sc 1 G (Sc 0 G Sn))
theorem bkA {n k : Nat} (h : n ≤ 1048576) (hk : k ≤ 1000000) : (0 + n) * k ≤ 140737488355328 := by
 have := Nat.mul_le_mul h hk
 rw [Nat.zero_add]
 omega
theorem bkB {n : Nat} (h : n ≤ 1048576) : 0 + n ≤ 140737488355328 := by omega
theorem copyState_c (S : TState) (s_0 s_1 s_2 s_3 s_4 s_5 : Value) (h_S : S.wf) (hb : BkS S) : Fnc Pg 43 [.agg (cState S s_0 s_1 s_2 s_3 s_4 s_5).toArray] [] [⟨s_0, S.fAccounts⟩, ⟨s_1, S.fMarks⟩, ⟨s_2, S.fWaits⟩, ⟨s_3, S.fDeals⟩, ⟨s_4, S.fEnds⟩, ⟨s_5, S.fImage⟩] (fun (y : sState.H) u => u = .agg (cState S (y.1) (y.2.1) (y.2.2.1) (y.2.2.2.1) (y.2.2.2.2.1) (y.2.2.2.2.2)).toArray) (fun _ _ => []) (fun y _ => [⟨y.1, S.fAccounts⟩, ⟨y.2.1, S.fMarks⟩, ⟨y.2.2.1, S.fWaits⟩, ⟨y.2.2.2.1, S.fDeals⟩, ⟨y.2.2.2.2.1, S.fEnds⟩, ⟨y.2.2.2.2.2, S.fImage⟩]) := by
 refine Fnc.proof Tryz.func43 G 28 G G fun X w => ?_
 obtain ⟨hb1, hb2, hb3, hb4, hb5, hb6, hb7⟩ := hb
 refine qg<|bx G G G fun b1 => al zero_55 G fun b2 => nl<|nx<|qg<|rl 2 [1] G G<|cf (copyAccs_c _ _ hb1 hb2) (Kg G) G (Sc 0 G Sn) G fun _ v5 _ => ru 1 G<|stL 1 0 G G G G (Og G) (nlt G)<|nl<|nx<|qg<|rl 2 [1] G G<|rwL TMark 122<|ap 0 2 G G G G app_25 (by first | exact bkA hb3 (by decide) | exact bkB hb3) (by first | exact bkA hb3 (by decide) | exact bkB hb3) G fun v9 => frRL<|ru 1 G<|stL 1 0 G G G G (Og G) (nlt G)<|nl<|nx<|qg<|rl 2 [1] G G<|rwL TWait 108<|ap 0 4 G G G G app_51 (by first | exact bkA hb4 (by decide) | exact bkB hb4) (by first | exact bkA hb4 (by decide) | exact bkB hb4) G fun v13 => frRL<|ru 1 G<|stL 1 0 G G G G (Og G) (nlt G)<|nl<|nx<|qg<|rl 2 [1] G G<|rwL TDeal 126<|ap 0 6 G G G G app_52 (by first | exact bkA hb5 (by decide) | exact bkB hb5) (by first | exact bkA hb5 (by decide) | exact bkB hb5) G fun v17 => frRL<|ru 1 G<|stL 1 0 G G G G (Og G) (nlt G)<|nl<|nx<|qg<|rl 2 [1] G G<|rwL TEnd 129<|ap 0 8 G G G G app_53 (by first | exact bkA hb6 (by decide) | exact bkB hb6) (by first | exact bkA hb6 (by decide) | exact bkB hb6) G fun v21 => frRL<|ru 1 G<|stL 1 0 G G G G (Og G) (nlt G)<|nl<|nx<|qg<|rl 2 [1] G G<|rwL UInt8 5<|ap 0 10 G G G G app_35 (by first | exact bkA hb7 (by decide) | exact bkB hb7) (by first | exact bkA hb7 (by decide) | exact bkB hb7) G fun v25 => frRL<|ru 1 G<|stL 1 0 G G G G (Og G) (nlt G)<|nl<|nx<|qg ?_
 have hbr := hb1
 exact ldM 1 (cState ((⟨S.fGroup, S.fIndex, S.fOwns, S.fLo, S.fHi, S.fEpoch, S.fAccounts, S.fMarks, S.fWaits, S.fDeals, S.fEnds, (⟨S.fSeal.fNumber, S.fSeal.fFrom, S.fSeal.fTo, S.fSeal.fLo, S.fSeal.fHi, S.fSeal.fClient, S.fSeal.fSeq⟩ : TPlan), (⟨S.fOut.fNumber, S.fOut.fFrom, S.fOut.fTo, S.fOut.fLo, S.fOut.fHi, S.fOut.fClient, S.fOut.fSeq⟩ : TPlan), S.fImage, S.fAbsorbed, S.fRefused, S.fUndone⟩ : TState)) v5 v9 v13 v17 v21 v25) G G (Rg G) G G<|oc 5 G fun o_v5 => oc 4 G fun o_v9 => oc 3 G fun o_v13 => oc 2 G fun o_v17 => oc 1 G fun o_v21 => oc 0 G fun o_v25 => stW 0 (us := (cState ((⟨S.fGroup, S.fIndex, S.fOwns, S.fLo, S.fHi, S.fEpoch, S.fAccounts, S.fMarks, S.fWaits, S.fDeals, S.fEnds, (⟨S.fSeal.fNumber, S.fSeal.fFrom, S.fSeal.fTo, S.fSeal.fLo, S.fSeal.fHi, S.fSeal.fClient, S.fSeal.fSeq⟩ : TPlan), (⟨S.fOut.fNumber, S.fOut.fFrom, S.fOut.fTo, S.fOut.fLo, S.fOut.fHi, S.fOut.fClient, S.fOut.fSeq⟩ : TPlan), S.fImage, S.fAbsorbed, S.fRefused, S.fUndone⟩ : TState)) v5 v9 v13 v17 v21 v25)) G G G (Rg G) (by simp only [List.all_cons, List.all_nil, Bool.and_true, o_v5, o_v9, o_v13, o_v17, o_v21, o_v25]; rfl) G<|nl<|nx<|rt<|fRG ⟨v5, v9, v13, v17, v21, v25⟩ [_, _] (rC 0 G G G (Rg G)) (by rfl) G (Sc 5 G (Sc 4 G (Sc 3 G (Sc 2 G (Sc 1 G (Sc 0 G Sn))))))
theorem copyScene_c (v : TScene) (v_0 v_1 v_2 v_3 v_4 : Value) (h_v : v.wf) (hb : BkV v) : Fnc Pg 12 [.agg (cScene v v_0 v_1 v_2 v_3 v_4).toArray] [] [⟨v_0, v.fChart.fPlaces⟩, ⟨v_1, v.fChart.fMarks⟩, ⟨v_2, v.fStates⟩, ⟨v_3, v.fRights⟩, ⟨v_4, v.fAges⟩] (fun (y : sScene.H) u => u = .agg (cScene v (y.1) (y.2.1) (y.2.2.1) (y.2.2.2.1) (y.2.2.2.2)).toArray) (fun _ _ => []) (fun y _ => [⟨y.1, v.fChart.fPlaces⟩, ⟨y.2.1, v.fChart.fMarks⟩, ⟨y.2.2.1, v.fStates⟩, ⟨y.2.2.2.1, v.fRights⟩, ⟨y.2.2.2.2, v.fAges⟩]) := by
 refine Fnc.proof Tryz.func12 G 36 G G fun X w => ?_
 obtain ⟨hb1, hb2, hb3, hb4, hb5, hb6⟩ := hb
 refine qg<|bx G G G fun b1 => al zero_32 G fun b2 => nl<|nx<|qg<|ru 1 G<|ldM 1 (cChart v.fChart v_0 v_1) G G (Rg G) G G<|cf (copyChart_c _ _ _ h_v.2.2.1 hb1 hb2) (Kg G) G (Si [0,1] G) G fun ⟨q7_0, q7_1⟩ v7 h7 => ?_
 subst h7
 refine ru 1 G<|oc 0 G fun o_q7_0 => oc 1 G fun o_q7_1 => stM 1 (us := (cChart v.fChart q7_0 q7_1)) G G G (Rg G) (by simp only [List.all_cons, List.all_nil, Bool.and_true, o_q7_0, o_q7_1]; rfl) (Nat.le_of_ble_eq_true G)<|nl<|nx<|sa 1 G<|sq<|sa 1 G<|bk<|rwC TState 55<|lpE (σ := Nat × Value) [(1, _), (2, _)] _ (fun s C => (4, .int .i64 (s.1 : Int)) :: (3, s.2) :: C) (fun s => [row 55 s.2 (v.fStates.take s.1), bl b2 32 zv8, bl b1 32 (cScene v q7_0 q7_1 v_2 v_3 v_4), fz X w]) (fun _ Dc => Dc) (fun s => s.1 ≤ v.fStates.length) (fun s => v.fStates.length - s.1) (0, _) (Gs G) (Sc 0 G (Sc 1 G (Sc 4 G (Sc 5 G (Sc 6 G Sn))))) (Nat.zero_le _) (Gs G) G (Sc 0 G (Sc 1 G (Sc 4 G (Sc 5 G (Sc 6 G Sn))))) ?_
 rintro ⟨i, rv⟩ hi
 simp only at hi
 show WC _ _ _ [(4, .int .i64 ((i : Int))), (3, _), (1, _), (2, _)] [row 55 rv (v.fStates.take i), bl b2 32 zv8, bl b1 32 (cScene v q7_0 q7_1 v_2 v_3 v_4), fz X w] _
 refine sq<|qg<|rl 3 [2] G G<|lnP 2 G G Tryz.underlying28 G fun l12 => ru 1 G<|nl<|nx<|cdP G (fun h13 => ?_) (fun h13 => ?_)
 ·
  refine sk<|nx<|sq<|bk<|rg<|rl 4 [2] G G<|ixQ 2 G G G slt_28 G fun v20 => ldS 0 G G (Rg G) G fun q21 w21 => ?_
  obtain ⟨q21_0, q21_1, q21_2, q21_3, q21_4, q21_5⟩ := q21
  refine cf (copyState_c _ _ _ _ _ _ _ w21 (hb4 i (by omega))) (Kg G) G (Si [1,2,3,4,5,6] G) G fun ⟨q22_0, q22_1, q22_2, q22_3, q22_4, q22_5⟩ v22 h22 => ?_
  subst h22
  refine bsM G app_28 G G G G fun b23 => ?_
  refine frS1 (α := TState) (v.fStates.getD i default) (fun S w h => ⟨⟨q22_0, q22_1, q22_2, q22_3, q22_4, q22_5⟩, G, fun t ht => by
    simp only [List.mem_cons, List.not_mem_nil, or_false] at ht
    rcases ht with rfl | rfl | rfl | rfl | rfl | rfl
    · exact h _ (List.mem_of_getElem? (i := 0) G)
    · exact h _ (List.mem_of_getElem? (i := 1) G)
    · exact h _ (List.mem_of_getElem? (i := 2) G)
    · exact h _ (List.mem_of_getElem? (i := 3) G)
    · exact h _ (List.mem_of_getElem? (i := 4) G)
    · exact h _ (List.mem_of_getElem? (i := 5) G), w21⟩) ?_
  refine ap 0 0 G G G G app_28 (by have := List.length_take_le i v.fStates; simp only [List.length_cons, List.length_nil]; omega) (by have := List.length_take_le i v.fStates; simp only [List.length_cons, List.length_nil]; omega) G fun v24 => ru 1 G<|nl<|bN<|nx<|rg<|mv G G<|adI G G inI G<|ru 1 G<|nl ?_
  rw [take_snoc (by omega)]
  exact ag ((i + 1, v24) : Nat × Value) (by show i + 1 ≤ v.fStates.length; omega) (by show v.fStates.length - (i + 1) < v.fStates.length - i; omega) (Gs G) G (Si [15,16,17,18,19] G)
 ·
  obtain rfl : i = v.fStates.length := by omega
  rw [List.take_length]
  exact ex<|tE<|tE<|bE<|nx<|sq<|frR<|rg<|ru 2 G<|stL 1 0 G G G G (Og G) (nlt G)<|nl<|nx<|qg<|rl 2 [1] G G<|rwL TRight 59<|ap 0 4 G G G G app_29 (by simp only [List.length_nil]; omega) (by simp only [List.length_nil]; omega) G fun v29 => frRL<|ru 1 G<|stL 1 0 G G G G (Og G) (nlt G)<|nl<|nx<|qg<|rl 2 [1] G G<|rwL TAge 62<|ap 0 6 G G G G app_30 (by simp only [List.length_nil]; omega) (by simp only [List.length_nil]; omega) G fun v33 => frRL<|ru 1 G<|stL 1 0 G G G G (Og G) (nlt G)<|nl<|nx<|qg<|ldM 1 (cScene ((⟨v.fNode, v.fNodes, (⟨v.fChart.fIndex, v.fChart.fPlaces, v.fChart.fNext, v.fChart.fLast, (⟨v.fChart.fPlan.fNumber, v.fChart.fPlan.fFrom, v.fChart.fPlan.fTo, v.fChart.fPlan.fLo, v.fChart.fPlan.fHi, v.fChart.fPlan.fClient, v.fChart.fPlan.fSeq⟩ : TPlan), v.fChart.fMarks⟩ : TChart), v.fStates, v.fRights, v.fAges⟩ : TScene)) q7_0 q7_1 rv v29 v33) G G (Rg G) G G<|oc 3 G fun o_q7_0 => oc 4 G fun o_q7_1 => oc 2 G fun o_rv => oc 1 G fun o_v29 => oc 0 G fun o_v33 => stW 0 (us := (cScene ((⟨v.fNode, v.fNodes, (⟨v.fChart.fIndex, v.fChart.fPlaces, v.fChart.fNext, v.fChart.fLast, (⟨v.fChart.fPlan.fNumber, v.fChart.fPlan.fFrom, v.fChart.fPlan.fTo, v.fChart.fPlan.fLo, v.fChart.fPlan.fHi, v.fChart.fPlan.fClient, v.fChart.fPlan.fSeq⟩ : TPlan), v.fChart.fMarks⟩ : TChart), v.fStates, v.fRights, v.fAges⟩ : TScene)) q7_0 q7_1 rv v29 v33)) G G G (Rg G) (by simp only [List.all_cons, List.all_nil, Bool.and_true, o_q7_0, o_q7_1, o_rv, o_v29, o_v33]; rfl) G<|nl<|nx<|rt<|fRG ⟨q7_0, q7_1, rv, v29, v33⟩ [_, _] (rC 0 G G G (Rg G)) (by rfl) G (Sc 3 G (Sc 4 G (Sc 2 G (Sc 1 G (Sc 0 G Sn)))))
end Go.Proofs.YtmpoffijcfaalaaGreat
namespace Go.Eng
open Go.RowKit
section
section
variable {P : Program} {ops : Array Oper} {md : Region.Mode} {C : World → Prop} {m : Nat} {Q : Exit → Act → World → Prop}
end
end
end Go.Eng
namespace Go.Proofs.YtmpoffijcfaalaaGreat
open Go.Eng Go.YtmpoffijcfaalaaGreat
theorem cloneSt_c (sv : Value) (l : List TState) (hlen : l.length ≤ 100000) : Fnc Pg 70 [sv] [] [⟨sv, l⟩] (fun (_ : Unit) _ => True) (fun _ v => [@row TState rState 55 v l]) (fun _ v => []) := by
 refine Fnc.proof Tryz.func70 G 8 G G fun X w => sa 1 G<|sq<|qg<|mv G G<|eqN 0 Tryz.underlying28 G G G G fun q4 n4 => nl<|nx<|cdB G (fun h4 => ?_) (fun h4 => ?_)
 ·
  have hx : l = [] := n4 h4
  subst hx
  exact rwC TState 55<|sa 1 G<|rt<|tR<|fR1 () G G trivial G Sn
 · exact sk<|nx<|qg<|bs0 app_28 G fun b5 => rwB (α := TState) [] [] G G (fun _ _ _ => trivial) G<|mv G G<|ap 0 0 G G G G app_28 (by simp only [List.length_nil]; omega) (by simp only [List.length_nil]; omega) G fun v7 => ru 1 G<|nl<|nx<|rt<|fR1 () G G trivial G Sn
theorem cloneAc_c (sv : Value) (l : List TAccount) (hlen : l.length ≤ 100000) : Fnc Pg 143 [sv] [] [⟨sv, l⟩] (fun (_ : Unit) _ => True) (fun _ v => [@row TAccount rAccount 70 v l]) (fun _ v => []) := by
 refine Fnc.proof Tryz.func143 G 8 G G fun X w => sa 1 G<|sq<|qg<|mv G G<|eqN 0 Tryz.underlying50 G G G G fun q4 n4 => nl<|nx<|cdB G (fun h4 => ?_) (fun h4 => ?_)
 ·
  have hx : l = [] := n4 h4
  subst hx
  exact rwC TAccount 70<|sa 1 G<|rt<|tR<|fR1 () G G trivial G Sn
 · exact sk<|nx<|qg<|bs0 app_50 G fun b5 => rwB (α := TAccount) [] [] G G (fun _ _ _ => trivial) G<|mv G G<|ap 0 0 G G G G app_50 (by simp only [List.length_nil]; omega) (by simp only [List.length_nil]; omega) G fun v7 => ru 1 G<|nl<|nx<|rt<|fR1 () G G trivial G Sn
theorem cloneMk_c (sv : Value) (l : List TMark) (hlen : l.length ≤ 100000) : Fnc Pg 72 [sv] [] [⟨sv, l⟩] (fun (_ : Unit) _ => True) (fun _ v => []) (fun _ v => [⟨v, l⟩]) := by
 refine Fnc.proof Tryz.func72 G 8 G G fun X w => sa 1 G<|sq<|qg<|mv G G<|eqN 0 Tryz.underlying25 G G G G fun q4 n4 => nl<|nx<|cdB G (fun h4 => ?_) (fun h4 => ?_)
 ·
  have hx : l = [] := n4 h4
  subst hx
  exact emC (α := TMark)<|sa 1 G<|rt<|tR<|fR1 () G G trivial G (Sc 0 G Sn)
 · exact sk<|nx<|qg<|bs0 app_25 G fun b5 => rwB (α := TMark) [] [] G G (fun _ _ _ => trivial) G<|mv G G<|ap 0 0 G G G G app_25 (by simp only [List.length_nil]; omega) (by simp only [List.length_nil]; omega) G fun v7 => ru 1 G<|nl<|nx<|rt<|frRQ<|fR1 () G G trivial G (Sc 0 G Sn)
theorem cloneWt_c (sv : Value) (l : List TWait) (hlen : l.length ≤ 100000) : Fnc Pg 145 [sv] [] [⟨sv, l⟩] (fun (_ : Unit) _ => True) (fun _ v => []) (fun _ v => [⟨v, l⟩]) := by
 refine Fnc.proof Tryz.func145 G 8 G G fun X w => sa 1 G<|sq<|qg<|mv G G<|eqN 0 Tryz.underlying51 G G G G fun q4 n4 => nl<|nx<|cdB G (fun h4 => ?_) (fun h4 => ?_)
 ·
  have hx : l = [] := n4 h4
  subst hx
  exact emC (α := TWait)<|sa 1 G<|rt<|tR<|fR1 () G G trivial G (Sc 0 G Sn)
 · exact sk<|nx<|qg<|bs0 app_51 G fun b5 => rwB (α := TWait) [] [] G G (fun _ _ _ => trivial) G<|mv G G<|ap 0 0 G G G G app_51 (by simp only [List.length_nil]; omega) (by simp only [List.length_nil]; omega) G fun v7 => ru 1 G<|nl<|nx<|rt<|frRQ<|fR1 () G G trivial G (Sc 0 G Sn)
theorem cloneDl_c (sv : Value) (l : List TDeal) (hlen : l.length ≤ 100000) : Fnc Pg 146 [sv] [] [⟨sv, l⟩] (fun (_ : Unit) _ => True) (fun _ v => []) (fun _ v => [⟨v, l⟩]) := by
 refine Fnc.proof Tryz.func146 G 8 G G fun X w => sa 1 G<|sq<|qg<|mv G G<|eqN 0 Tryz.underlying52 G G G G fun q4 n4 => nl<|nx<|cdB G (fun h4 => ?_) (fun h4 => ?_)
 ·
  have hx : l = [] := n4 h4
  subst hx
  exact emC (α := TDeal)<|sa 1 G<|rt<|tR<|fR1 () G G trivial G (Sc 0 G Sn)
 · exact sk<|nx<|qg<|bs0 app_52 G fun b5 => rwB (α := TDeal) [] [] G G (fun _ _ _ => trivial) G<|mv G G<|ap 0 0 G G G G app_52 (by simp only [List.length_nil]; omega) (by simp only [List.length_nil]; omega) G fun v7 => ru 1 G<|nl<|nx<|rt<|frRQ<|fR1 () G G trivial G (Sc 0 G Sn)
theorem cloneEn_c (sv : Value) (l : List TEnd) (hlen : l.length ≤ 100000) : Fnc Pg 147 [sv] [] [⟨sv, l⟩] (fun (_ : Unit) _ => True) (fun _ v => []) (fun _ v => [⟨v, l⟩]) := by
 refine Fnc.proof Tryz.func147 G 8 G G fun X w => sa 1 G<|sq<|qg<|mv G G<|eqN 0 Tryz.underlying53 G G G G fun q4 n4 => nl<|nx<|cdB G (fun h4 => ?_) (fun h4 => ?_)
 ·
  have hx : l = [] := n4 h4
  subst hx
  exact emC (α := TEnd)<|sa 1 G<|rt<|tR<|fR1 () G G trivial G (Sc 0 G Sn)
 · exact sk<|nx<|qg<|bs0 app_53 G fun b5 => rwB (α := TEnd) [] [] G G (fun _ _ _ => trivial) G<|mv G G<|ap 0 0 G G G G app_53 (by simp only [List.length_nil]; omega) (by simp only [List.length_nil]; omega) G fun v7 => ru 1 G<|nl<|nx<|rt<|frRQ<|fR1 () G G trivial G (Sc 0 G Sn)
theorem cloneHo_c (sv : Value) (l : List THolder) (hlen : l.length ≤ 100000) : Fnc Pg 144 [sv] [] [⟨sv, l⟩] (fun (_ : Unit) _ => True) (fun _ v => []) (fun _ v => [⟨v, l⟩]) := by
 refine Fnc.proof Tryz.func144 G 8 G G fun X w => sa 1 G<|sq<|qg<|mv G G<|eqN 0 Tryz.underlying66 G G G G fun q4 n4 => nl<|nx<|cdB G (fun h4 => ?_) (fun h4 => ?_)
 ·
  have hx : l = [] := n4 h4
  subst hx
  exact emC (α := THolder)<|sa 1 G<|rt<|tR<|fR1 () G G trivial G (Sc 0 G Sn)
 · exact sk<|nx<|qg<|bs0 app_66 G fun b5 => rwB (α := THolder) [] [] G G (fun _ _ _ => trivial) G<|mv G G<|ap 0 0 G G G G app_66 (by simp only [List.length_nil]; omega) (by simp only [List.length_nil]; omega) G fun v7 => ru 1 G<|nl<|nx<|rt<|frRQ<|fR1 () G G trivial G (Sc 0 G Sn)
end Go.Proofs.YtmpoffijcfaalaaGreat
namespace Go.YtmpoffijcfaalaaGreat
open Go.Eng
def m1 (v : TScene) (S : TState) : Bool := (!decide (v.fChart.fPlan = zpl)) && decide (v.fChart.fPlan.fFrom = S.fGroup) && (!decide (S.fSeal.fNumber = v.fChart.fPlan.fNumber)) && (!decide (S.fOut.fNumber = v.fChart.fPlan.fNumber)) && decide (S.fUndone < v.fChart.fPlan.fNumber)
def m2 (v : TScene) (S : TState) : Bool := (!decide (S.fSeal = zpl)) && oldP v 0 0
def m3 (v : TScene) (S : TState) : Bool := (!decide (v.fChart.fPlan = zpl)) && decide (v.fChart.fPlan.fTo = S.fGroup) && decide (S.fAbsorbed < v.fChart.fPlan.fNumber)
end Go.YtmpoffijcfaalaaGreat
namespace Go.Proofs.YtmpoffijcfaalaaGreat
open Go.Eng
end Go.Proofs.YtmpoffijcfaalaaGreat
namespace Go.Eng
end Go.Eng
namespace Go.Proofs.YtmpoffijcfaalaaGreat
open Go.Eng Go.YtmpoffijcfaalaaGreat
end Go.Proofs.YtmpoffijcfaalaaGreat
namespace Go.YtmpoffijcfaalaaGreat
open Go.Eng
structure Ss (S : TState) : Prop where
 grp : 1 ≤ S.fGroup ∧ S.fGroup < 8
 hol : ∀ j, j < S.fAccounts.length → right15 (S.fAccounts.getD j default) = true
 rise : rising19 S.fAccounts = true
 deals : books18 S.fDeals = true
 ends : ends18 S.fEnds = true
 waits : S.fWaits.length ≤ 8
 wait : ∀ j, j < S.fWaits.length → wait19 S (S.fWaits.getD j default) = true
 sel : S.fSeal ≠ zpl → plan19 S.fSeal = true
 out : S.fOut ≠ zpl → plan19 S.fOut = true
theorem Ss.deals4 {S : TState} (h : Ss S) : S.fDeals.length ≤ 4 := by
 have := h.deals
 simp only [books18, Bool.and_eq_true, decide_eq_true_eq] at this
 omega
structure Sc (v : TScene) : Prop where
 len : v.fStates.length = 7
 chart : right20 v.fChart = true
 places : places17 v.fChart.fPlaces = true
 rights : rights16 v.fRights = true
 st : ∀ j, j < 7 → Ss (v.fStates.getD j default) ∧ (v.fStates.getD j default).fGroup = (j : Int) + 1
 plan : v.fChart.fPlan ≠ zpl → 1 ≤ v.fChart.fPlan.fNumber ∧ 1 ≤ v.fChart.fPlan.fFrom ∧ v.fChart.fPlan.fFrom < 8 ∧ 1 ≤ v.fChart.fPlan.fTo ∧ v.fChart.fPlan.fTo < 8
theorem Sc.deals {v : TScene} (h : Sc v) (j : Nat) : (v.fStates.getD j default).fDeals.length ≤ 4 := by
 rcases Nat.lt_or_ge j 7 with hj | hj
 · exact (h.st j hj).1.deals4
 · rw [List.getD_eq_getElem?_getD, List.getElem?_eq_none (by have := h.len; omega)]
   decide
theorem BkV.img {v : TScene} (h : BkV v) (j : Nat) : (v.fStates.getD j default).fImage.length ≤ 140737488355328 := by
 rcases Nat.lt_or_ge j v.fStates.length with hj | hj
 · have := (h.state j hj).image
   omega
 · rw [List.getD_eq_getElem?_getD, List.getElem?_eq_none hj]
   decide
end Go.YtmpoffijcfaalaaGreat
namespace Go.Proofs.YtmpoffijcfaalaaGreat
open Go.Eng
end Go.Proofs.YtmpoffijcfaalaaGreat
namespace Go.Eng
section
section
variable {P : Program} {fn : Func} {n m : Nat} {env : Env} {L : Own} {D : List Atom} {X : List Nat} {w0 : World} {β : Type} {R : β → Value → Prop} {out : β → Value → List Atom}
end
end
end Go.Eng
namespace Go.Proofs.YtmpoffijcfaalaaGreat
open Go.Eng Go.YtmpoffijcfaalaaGreat
theorem truth25_c (c : TChart) (c_0 c_1 : Value) (v_ss : Value) (ss : List TState) (v_rr : Value) (rr : List (List TRight)) (Z : List TTotal × Int) (h_c : c.wf) (hrw : ∀ l ∈ rr, ∀ r ∈ l, r.wf) (hZ : truthR c ss rr = Z) : Fnc Pg 29 [.agg (cChart c c_0 c_1).toArray, v_ss, v_rr] [] [⟨c_0, c.fPlaces⟩, ⟨c_1, c.fMarks⟩, ⟨v_ss, ss⟩, ⟨v_rr, rr⟩] (fun (y : Value) u => u = .tuple #[y, .int .i64 Z.2]) (fun _ _ => []) (fun y _ => [⟨y, Z.1⟩]) := by
 refine Fnc.proof Tryz.func29 G 167 G G fun X w => gtC (q := ss.length ≤ 9223372036854775807) (fun S w h => list_len (h _ (List.mem_of_getElem? (i := 2) G))) fun hlss => gtC (q := rr.length ≤ 9223372036854775807) (fun S w h => list_len (h _ (List.mem_of_getElem? (i := 3) G))) fun hlrr => qg<|bx G G G fun b3 => ru 2 G<|nl<|nx<|qg<|ldM 0 (cChart c c_0 c_1) G G (Rg G) G G<|cfv (right20_c _ _ _ h_c) (Kg G) G (Si [0,1] G) G<|mv G G<|jy 21 4 [1,2] G G (fun h21 K25 => ru 1 G<|gY G G G<|lnP 2 G G Tryz.underlying28 G fun l23 => ru 2 G<|K25 G Sr)<|mv G G<|jy 26 4 [1,2] G G (fun h26 K30 => ru 1 G<|gY G G G<|lnP 3 G G Tryz.underlying71 G fun l28 => ru 2 G<|K30 G Sr)<|ru 1 G<|nl<|nx<|sq<|sa 1 G<|bk<|lpC (σ := Nat) [(1, _), (2, _)] _ (fun i C => (9, .int .i64 (i : Int)) :: (8, .bool (okS c ss rr i)) :: C) (fun i => i ≤ ss.length) (fun i => ss.length - i) 0 (Gs G) (Sc 0 G (Sc 1 G (Sc 2 G (Sc 3 G Sn)))) (Nat.zero_le _) (Gs G) ?_
 intro i hi
 refine sq<|qg<|ru 2 G<|lnP 2 G G Tryz.underlying28 G fun l33 => ru 1 G<|nl<|nx<|cdP G (fun h34 => ?_) (fun h34 => ?_)
 ·
  refine sk<|nx<|sq<|bk<|qg<|ru 2 G ?_
  refine jy 38 9 [1,2,9] G G (fun h38 K47 => by
   have p38 := h38
   try simp only [Bool.or_eq_false_iff, Bool.and_eq_true, decide_eq_true_eq, decide_eq_false_iff_not, Bool.not_eq_true', Bool.not_eq_false'] at p38
   exact ru 2 G<|gY G G G<|ixQ 2 G G G slt_28 G fun v41 => gY G G G<|faP (α := TState) (β := Int) 0 (fun x : TState => x.fGroup) G G (Fg G) pState_0 G fun v42 => gY G G G<|ldV 0 G G (Og G) G fun w43 => ru 1 G<|gY G G G<|adI G G inI G<|ru 2 G<|K47 G (SubD.tail (SubD.tail Sr))) ?_
  refine mv G G ?_
  refine jy 48 6 [1,2,9] G G (fun h48 K54 => by
   have p48 := h48
   try simp only [Bool.or_eq_false_iff, Bool.and_eq_true, decide_eq_true_eq, decide_eq_false_iff_not, Bool.not_eq_true', Bool.not_eq_false'] at p48
   refine ru 2 G<|gY G G G<|ixQ 2 G G G slt_28 G fun v51 => gY G G G<|ldS 0 G G (Rg G) G fun q52 w52 => ?_
   obtain ⟨q52_0, q52_1, q52_2, q52_3, q52_4, q52_5⟩ := q52
   exact gY G G G<|cfv (sright19_c _ _ _ _ _ _ _ w52) (Kg G) G (Si [1,2,3,4,5,6] G) G<|ru 1 G<|K54 G (SubD.tail (SubD.tail (SubD.tail (SubD.tail (SubD.tail (SubD.tail (SubD.tail (SubD.tail Sr))))))))) ?_
  refine ru 1 G<|nl<|nx<|qg<|ru 2 G ?_
  refine jy 56 8 [1,2,8,9] G G (fun h56 K64 => by
   have p56 := h56
   try simp only [Bool.or_eq_false_iff, Bool.and_eq_true, decide_eq_true_eq, decide_eq_false_iff_not, Bool.not_eq_true', Bool.not_eq_false'] at p56
   exact ru 2 G<|gY G G G<|ixQ 2 G G G slt_28 G fun v59 => gY G G G<|faP (α := TState) (β := TPlan) 0 (fun x : TState => x.fOut) G G (Fg G) pState_12 G fun v60 => gY G G G<|faP (α := TPlan) (β := Int) 0 (fun x : TPlan => x.fNumber) G G (Fg G) pPlan_0 G fun v61 => gY G G G<|ldV 0 G G (Og G) G fun w62 => ru 2 G<|K64 G (SubD.tail (SubD.tail (SubD.tail Sr)))) ?_
  refine nl<|nx<|cdB G (fun h64 => ?_) (fun h64 => ?_)
  ·
   refine qg<|ru 2 G<|ixQ 2 G G G slt_28 G fun v68 => faP (α := TState) (β := List UInt8) 0 (fun x : TState => x.fImage) G G (Fg G) pState_13 G fun v69 => ldL 0 G G (Og G) G fun v70 => cf (Ref.readState_c _ _) (Kg G) G (Sc 0 G Sn) G fun y71 v71 h71 => ?_
   obtain ⟨y71_0, y71_1, y71_2, y71_3, y71_4, y71_5⟩ := y71
   replace h71 : v71 = .tuple #[.agg (cState (rdState _).1 y71_0 y71_1 y71_2 y71_3 y71_4 y71_5).toArray, .int .i64 (rdState _).2] := h71
   subst h71
   refine ru 3 G<|al zero_55 G fun b10 => oc 0 G fun o_y71_0 => oc 1 G fun o_y71_1 => oc 2 G fun o_y71_2 => oc 3 G fun o_y71_3 => oc 4 G fun o_y71_4 => oc 5 G fun o_y71_5 => stW 0 (us := (cState ((rdState (ss.getD i default).fImage).1) y71_0 y71_1 y71_2 y71_3 y71_4 y71_5)) G G G (Rg G) (by simp only [List.all_cons, List.all_nil, Bool.and_true, o_y71_0, o_y71_1, o_y71_2, o_y71_3, o_y71_4, o_y71_5]; rfl) G<|ru 1 G<|nl<|nx<|rgQ mixed (by kernel_rfl)<|rl 4 [0] G G<|ixQ 11 G G G slt_28 G fun v78 => faP (α := TState) (β := TPlan) 0 (fun x : TState => x.fOut) G G (Fg G) pState_12 G fun v79 => ldS 0 G G (Rg G) G fun q80 w80 => cfq (fits19_c _ _ _ w80) (Kg G) G (Sc 3 G Sn) G<|ru 1 G<|nlQ<|bN<|nx<|rg<|mv G G<|adI G G inI G<|ru 1 G<|nl<|dpQ ?_
   exact ag (i + 1) (by omega) (by omega) ⟨G, congrArg (fun b => some (Value.bool b)) (okS_T h64), G, G, trivial⟩ G (Si [12,13,14,15] G)
  ·
   refine sk<|bN<|nx<|rg<|mv G G<|adI G G inI G<|ru 1 G<|nl ?_
   exact ag (i + 1) (by omega) (by omega) ⟨G, congrArg (fun b => some (Value.bool b)) (okS_F h64), G, G, trivial⟩ G (Si [0,1,2,3] G)
 ·
  obtain rfl : i = ss.length := by omega
  refine ex<|tE<|tE<|bE<|nx<|sq<|sa 1 G<|bk<|lpC (σ := Nat) [(1, _), (2, _)] _ (fun i C => (12, .int .i64 (i : Int)) :: (8, .bool (okT c ss rr i)) :: C) (fun i => i ≤ rr.length) (fun i => rr.length - i) 0 (Gs G) (Sc 0 G (Sc 1 G (Sc 2 G (Sc 3 G Sn)))) (Nat.zero_le _) (Gs G) ?_
  intro i hi
  refine sq<|qg<|ru 2 G<|lnP 3 G G Tryz.underlying71 G fun l84 => ru 1 G<|nl<|nx<|cdP G (fun h85 => ?_) (fun h85 => ?_)
  ·
   refine sk<|nx<|sq<|bk<|rg<|ru 2 G ?_
   refine jy 89 6 [1,2,12] G G (fun h89 K95 => by
    have p89 := h89
    try simp only [Bool.or_eq_false_iff, Bool.and_eq_true, decide_eq_true_eq, decide_eq_false_iff_not, Bool.not_eq_true', Bool.not_eq_false'] at p89
    exact ru 2 G<|gY G G G<|ixQ 3 G G G slt_71 G fun v92 => gY G G G<|ldL 0 G G (Og G) G fun v93 => gY G G G<|cfv (right16_c _ _) (Kg G) G (Sc 0 G Sn) G<|ru 1 G<|K95 G (SubD.tail (SubD.tail Sr))) ?_
   refine ru 1 G<|nl<|bN<|nx<|rg<|mv G G<|adI G G inI G<|ru 1 G<|nl ?_
   exact ag (i + 1) (by omega) (by omega) (Gs G) G (Si [0,1,2,3] G)
  ·
   obtain rfl : i = rr.length := by omega
   refine ex<|tE<|tE<|bE<|nx<|sq<|sa 2 G<|cdB G (fun h97 => ?_) (fun h97 => ?_)
   ·
    have hno : ¬ okT c ss rr rr.length = true := by simpa using h97
    have hZ2 : (([], 1) : List TTotal × Int) = Z := by rw [← hZ, truthR, if_neg hno]
    subst hZ2
    exact emC (α := TTotal)<|sa 2 G<|rt<|tR<|dpQ<|fR2 nS G G G G G (Sc 0 G Sn)
   ·
    have hok : okT c ss rr rr.length = true := by simpa using h97
    have hZ2 : toldR ss rr (allR ss ss.length) = Z := by rw [← hZ, truthR, if_pos hok]
    obtain ⟨hso, _⟩ := okT_all hok
    obtain ⟨h0, hs⟩ := okS_all hso
    have h7 : ss.length = 7 := by simp only [okS, Bool.and_eq_true, decide_eq_true_eq] at h0; omega
    have hgr : Grp ss := fun j hj => (sok_parts (hs j hj)).1
    refine sk<|nx<|sa 1 G<|sq<|sa 1 G<|bk<|rwC Tcounted25 139<|lpE (σ := Nat × Value) [(1, _), (2, _)] _ (fun s C => (14, .int .i64 (s.1 : Int)) :: (13, s.2) :: C) (fun s => [@row Tcounted25 rcounted25 139 s.2 (allR ss s.1), bl b3 27 (cChart c c_0 c_1), fz X w]) (fun _ Dc => Dc) (fun s => s.1 ≤ ss.length) (fun s => ss.length - s.1) (0, .slice none 0 0) (Gs G) (Sc 0 G (Sc 1 G (Sc 2 G (Sc 3 G Sn)))) (Nat.zero_le _) (Gs G) G (Sc 0 G (Sc 1 G (Sc 2 G (Sc 3 G Sn)))) ?_
    rintro ⟨i, rv⟩ hi
    simp only at hi
    show WC _ _ _ [(14, .int .i64 ((i : Int))), (13, _), (1, _), (2, _)] [@row Tcounted25 rcounted25 139 rv (allR ss i), bl b3 27 (cChart c c_0 c_1), fz X w] _
    refine sq<|qg<|ru 2 G<|lnP 2 G G Tryz.underlying28 G fun l100 => ru 1 G<|nl<|nx<|cdP G (fun h101 => ?_) (fun h101 => ?_)
    ·
     have hin : i < ss.length := by omega
     have hco1 : (ss.getD i default).fAccounts.length ≤ 12 := (rising_all (sright_rising (sok_parts (hs _ hin)).2.1)).1
     obtain ⟨har, _⟩ := allR_facts h7 hs i (by omega)
     refine sk<|nx<|sq<|bk<|sq<|sa 1 G<|bk ?_
     rw [show allR ss i = allR ss i ++ ((ss.getD i default).fAccounts.take 0).map (cnt25 ((i : Int) + 1)) from by simp]
     refine lpE (σ := Nat × Value) [(1, _), (2, _), (14, _)] _ (fun s C => (15, .int .i64 (s.1 : Int)) :: (13, s.2) :: C) (fun s => [@row Tcounted25 rcounted25 139 s.2 (allR ss i ++ ((ss.getD i default).fAccounts.take s.1).map (cnt25 ((i : Int) + 1))), bl b3 27 (cChart c c_0 c_1), fz X w]) (fun _ Dc => Dc) (fun s => s.1 ≤ (ss.getD i default).fAccounts.length) (fun s => (ss.getD i default).fAccounts.length - s.1) (0, rv) (Gs G) (Sc 0 G (Sc 1 G (Sc 2 G (Sc 3 G Sn)))) (Nat.zero_le _) (Gs G) G (Sc 0 G (Sc 1 G (Sc 2 G (Sc 3 G Sn)))) ?_
     rintro ⟨k, r1⟩ hk
     simp only at hk
     show WC _ _ _ [(15, .int .i64 ((k : Int))), (13, _), (1, _), (2, _), (14, _)] [@row Tcounted25 rcounted25 139 r1 (allR ss i ++ ((ss.getD i default).fAccounts.take k).map (cnt25 ((i : Int) + 1))), bl b3 27 (cChart c c_0 c_1), fz X w] _
     refine sq<|qg<|ru 3 G<|ixQ 2 G G G slt_28 G fun v107 => faP (α := TState) (β := List TAccount) 0 (fun x : TState => x.fAccounts) G G (Fg G) pState_6 G fun v108 => ldL 0 G G (Og G) G fun v109 => lnP 0 G G Tryz.underlying50 G fun l110 => ru 1 G<|nl<|nx<|cdP G (fun h111 => ?_) (fun h111 => ?_)
     ·
      have h111 : (k : Int) < ((ss.getD i default).fAccounts.length : Int) := h111
      refine sk<|nx<|sq<|bk<|rg<|ru 2 G<|adI G G inI G<|ru 2 G<|ixQ 5 G G G slt_28 G fun v119 => faP (α := TState) (β := List TAccount) 0 (fun x : TState => x.fAccounts) G G (Fg G) pState_6 G fun v120 => ldL 0 G G (Og G) G fun v121 => mv G G<|ixQ 0 G G G slt_50 G fun v123 => ldS 0 G G (Rg G) G fun q124 w124 => bd (ps := [(0, .tmp 116), (1, .tmp 124)]) (cs := (ccounted25 ((⟨((i : Int) + 1), ((ss.getD i default).fAccounts.getD k default)⟩ : Tcounted25)) q124)) (by rfl) (by kernel_rfl) G<|bsM G app_137 G G G G fun b126 => ?_
      refine frS1 (α := Tcounted25) (cnt25 ((i : Int) + 1) ((ss.getD i default).fAccounts.getD k default)) (fun S w h => ⟨q124, G, fun t ht => by
        simp only [List.mem_cons, List.not_mem_nil, or_false] at ht
        subst ht
        · exact h _ (List.mem_of_getElem? (i := 1) G), ⟨(show InI ((i : Int) + 1) from inI), w124⟩⟩) ?_
      refine ap 0 0 G G G G app_137 (by simp only [List.length_append, List.length_map, List.length_take, List.length_cons, List.length_nil]; omega) (by simp only [List.length_append, List.length_map, List.length_take, List.length_cons, List.length_nil]; omega) G fun v127 => ru 1 G<|nl<|bN<|nx<|rg<|mv G G<|adI G G inI G<|ru 1 G<|nl ?_
      rw [show allR ss i ++ ((ss.getD i default).fAccounts.take k).map (cnt25 ((i : Int) + 1)) ++ [cnt25 ((i : Int) + 1) ((ss.getD i default).fAccounts.getD k default)] = allR ss i ++ ((ss.getD i default).fAccounts.take (k + 1)).map (cnt25 ((i : Int) + 1)) from app_snoc (by omega)]
      exact ag ((k + 1, v127) : Nat × Value) (by show k + 1 ≤ (ss.getD i default).fAccounts.length; omega) (by show (ss.getD i default).fAccounts.length - (k + 1) < (ss.getD i default).fAccounts.length - k; omega) (Gs G) G (Si [10,11,12,13] G)
     ·
      have h111 : ¬ (k : Int) < ((ss.getD i default).fAccounts.length : Int) := h111
      obtain rfl : k = (ss.getD i default).fAccounts.length := by omega
      rw [List.take_length]
      refine ex<|tE<|tE<|bE<|nx<|qg<|ru 3 G<|ixQ 5 G G G slt_28 G fun v131 => ldS 0 G G (Rg G) G fun q132 w132 => ?_
      obtain ⟨q132_0, q132_1, q132_2, q132_3, q132_4, q132_5⟩ := q132
      refine cfv (waits25_c _ _ _ _ _ _ _ _ _ w132) (Kg G) G (Si [13,1,2,3,4,5,6] G) G<|nl<|nx<|cdB G (fun h133 => ?_) (fun h133 => ?_)
      ·
       have hci : (rdState (ss.getD i default).fImage).1.fAccounts.length ≤ 12 := (rising_all (fits_all ((sok_parts (hs _ hin)).2.2 (waits_num h133))).1).1
       refine qg<|ru 2 G<|ixQ 13 G G G slt_28 G fun v137 => faP (α := TState) (β := List UInt8) 0 (fun x : TState => x.fImage) G G (Fg G) pState_13 G fun v138 => ldL 0 G G (Og G) G fun v139 => cf (Ref.readState_c _ _) (Kg G) G (Sc 0 G Sn) G fun y140 v140 h140 => ?_
       obtain ⟨y140_0, y140_1, y140_2, y140_3, y140_4, y140_5⟩ := y140
       replace h140 : v140 = .tuple #[.agg (cState (rdState _).1 y140_0 y140_1 y140_2 y140_3 y140_4 y140_5).toArray, .int .i64 (rdState _).2] := h140
       subst h140
       refine ru 3 G<|al zero_55 G fun b16 => oc 0 G fun o_y140_0 => oc 1 G fun o_y140_1 => oc 2 G fun o_y140_2 => oc 3 G fun o_y140_3 => oc 4 G fun o_y140_4 => oc 5 G fun o_y140_5 => stW 0 (us := (cState ((rdState (ss.getD i default).fImage).1) y140_0 y140_1 y140_2 y140_3 y140_4 y140_5)) G G G (Rg G) (by simp only [List.all_cons, List.all_nil, Bool.and_true, o_y140_0, o_y140_1, o_y140_2, o_y140_3, o_y140_4, o_y140_5]; rfl) G<|ru 1 G<|nl<|nx<|sa 1 G<|bk ?_
       rw [show allR ss i ++ (ss.getD i default).fAccounts.map (cnt25 ((i : Int) + 1)) = allR ss i ++ (ss.getD i default).fAccounts.map (cnt25 ((i : Int) + 1)) ++ ((rdState (ss.getD i default).fImage).1.fAccounts.take 0).map (cnt25 ((i : Int) + 1)) from by simp]
       refine lpE (σ := Nat × Value) [(1, _), (2, _), (14, _), (16, _)] _ (fun s C => (18, .int .i64 (s.1 : Int)) :: (13, s.2) :: C) (fun s => [bl b16 55 (cState (rdState (ss.getD i default).fImage).1 y140_0 y140_1 y140_2 y140_3 y140_4 y140_5), @row Tcounted25 rcounted25 139 s.2 (allR ss i ++ (ss.getD i default).fAccounts.map (cnt25 ((i : Int) + 1)) ++ ((rdState (ss.getD i default).fImage).1.fAccounts.take s.1).map (cnt25 ((i : Int) + 1))), bl b3 27 (cChart c c_0 c_1), fz X w]) (fun _ Dc => Dc) (fun s => s.1 ≤ (rdState (ss.getD i default).fImage).1.fAccounts.length) (fun s => (rdState (ss.getD i default).fImage).1.fAccounts.length - s.1) (0, r1) (Gs G) (Sc 0 G (Sc 1 G (Sc 2 G (Sc 3 G (Sc 4 G (Sc 5 G (Sc 20 G (Sc 21 G (Sc 22 G (Sc 23 G Sn)))))))))) (Nat.zero_le _) (Gs G) G (Sc 0 G (Sc 1 G (Sc 2 G (Sc 3 G (Sc 4 G (Sc 5 G (Sc 20 G (Sc 21 G (Sc 22 G (Sc 23 G Sn)))))))))) ?_
       rintro ⟨k, r2⟩ hk
       simp only at hk
       show WC _ _ _ [(18, .int .i64 ((k : Int))), (13, _), (1, _), (2, _), (14, _), (16, _)] [bl b16 55 (cState (rdState (ss.getD i default).fImage).1 y140_0 y140_1 y140_2 y140_3 y140_4 y140_5), @row Tcounted25 rcounted25 139 r2 (allR ss i ++ (ss.getD i default).fAccounts.map (cnt25 ((i : Int) + 1)) ++ ((rdState (ss.getD i default).fImage).1.fAccounts.take k).map (cnt25 ((i : Int) + 1))), bl b3 27 (cChart c c_0 c_1), fz X w] _
       refine sq<|qg<|rl 3 [0] G G<|lnP 0 G G Tryz.underlying50 G fun l146 => ru 1 G<|nl<|nx<|cdP G (fun h147 => ?_) (fun h147 => ?_)
       ·
        have h147 : (k : Int) < ((rdState (ss.getD i default).fImage).1.fAccounts.length : Int) := h147
        refine sk<|nx<|sq<|bk<|rg<|ru 2 G<|adI G G inI G<|rl 3 [0] G G<|ixQ 0 G G G slt_50 G fun v156 => ldS 0 G G (Rg G) G fun q157 w157 => bd (ps := [(0, .tmp 152), (1, .tmp 157)]) (cs := (ccounted25 ((⟨((i : Int) + 1), ((rdState (ss.getD i default).fImage).1.fAccounts.getD k default)⟩ : Tcounted25)) q157)) (by rfl) (by kernel_rfl) G<|bsM G app_137 G G G G fun b159 => ?_
        refine frS1 (α := Tcounted25) (cnt25 ((i : Int) + 1) ((rdState (ss.getD i default).fImage).1.fAccounts.getD k default)) (fun S w h => ⟨q157, G, fun t ht => by
          simp only [List.mem_cons, List.not_mem_nil, or_false] at ht
          subst ht
          · exact h _ (List.mem_of_getElem? (i := 1) G), ⟨(show InI ((i : Int) + 1) from inI), w157⟩⟩) ?_
        refine ap 1 0 G G G G app_137 (by simp only [List.length_append, List.length_map, List.length_take, List.length_cons, List.length_nil]; omega) (by simp only [List.length_append, List.length_map, List.length_take, List.length_cons, List.length_nil]; omega) G fun v160 => ru 1 G<|nl<|bN<|nx<|rg<|mv G G<|adI G G inI G<|ru 1 G<|nl ?_
        rw [show allR ss i ++ (ss.getD i default).fAccounts.map (cnt25 ((i : Int) + 1)) ++ ((rdState (ss.getD i default).fImage).1.fAccounts.take k).map (cnt25 ((i : Int) + 1)) ++ [cnt25 ((i : Int) + 1) ((rdState (ss.getD i default).fImage).1.fAccounts.getD k default)] = allR ss i ++ (ss.getD i default).fAccounts.map (cnt25 ((i : Int) + 1)) ++ ((rdState (ss.getD i default).fImage).1.fAccounts.take (k + 1)).map (cnt25 ((i : Int) + 1)) from app_snoc (by omega)]
        exact ag ((k + 1, v160) : Nat × Value) (by show k + 1 ≤ (rdState (ss.getD i default).fImage).1.fAccounts.length; omega) (by show (rdState (ss.getD i default).fImage).1.fAccounts.length - (k + 1) < (rdState (ss.getD i default).fImage).1.fAccounts.length - k; omega) (Gs G) G (Si [4,5,6,7,8,9,10,11,12,13] G)
       ·
        have h147 : ¬ (k : Int) < ((rdState (ss.getD i default).fImage).1.fAccounts.length : Int) := h147
        obtain rfl : k = (rdState (ss.getD i default).fImage).1.fAccounts.length := by omega
        rw [List.take_length]
        refine ex<|tE<|tE<|bE<|bN<|nx<|rg<|mv G G<|adI G G inI G<|ru 1 G<|nl<|dpQ ?_
        rw [allR_T (show waitsP ss (ss.getD i default) = true from h133)]
        exact ag ((i + 1, r2) : Nat × Value) (by show i + 1 ≤ ss.length; omega) (by show ss.length - (i + 1) < ss.length - i; omega) (Gs G) G (Si [6,7,8,9] G)
      ·
       refine sk<|bN<|nx<|rg<|mv G G<|adI G G inI G<|ru 1 G<|nl ?_
       rw [allR_F (show waitsP ss (ss.getD i default) = false from h133)]
       exact ag ((i + 1, r1) : Nat × Value) (by show i + 1 ≤ ss.length; omega) (by show ss.length - (i + 1) < ss.length - i; omega) (Gs G) G (Si [11,12,13,14] G)
    ·
     obtain rfl : i = ss.length := by omega
     refine ex<|tE<|tE<|bE<|nx<|sq<|frR<|rg<|ru 3 G<|cf (told25_c _ _ _ _ _ (allR ss ss.length) Z hrw hgr (allR_facts h7 hs _ (Nat.le_refl _)).2 (by have := (allR_facts h7 hs _ (Nat.le_refl _)).1; omega) hZ2) (Kg G) G (Si [3,4,0] G) G fun y164 v164 h164 => ?_
     subst h164
     exact ru 4 G<|nl<|nx<|rt<|dpQ<|fR2 y164 G G G G G (Sc 0 G Sn)
theorem own_c (S : TState) (s_0 s_1 s_2 s_3 s_4 s_5 : Value) (h_S : S.wf) (hb : BigS S) : Fnc Pg 73 [.agg (cState S s_0 s_1 s_2 s_3 s_4 s_5).toArray] [] [⟨s_0, S.fAccounts⟩, ⟨s_1, S.fMarks⟩, ⟨s_2, S.fWaits⟩, ⟨s_3, S.fDeals⟩, ⟨s_4, S.fEnds⟩, ⟨s_5, S.fImage⟩] (fun (y : sState.H) u => u = .agg (cState S (y.1) (y.2.1) (y.2.2.1) (y.2.2.2.1) (y.2.2.2.2.1) (y.2.2.2.2.2)).toArray ∧ S.wf) (fun _ _ => []) (fun y _ => [⟨y.1, S.fAccounts⟩, ⟨y.2.1, S.fMarks⟩, ⟨y.2.2.1, S.fWaits⟩, ⟨y.2.2.2.1, S.fDeals⟩, ⟨y.2.2.2.2.1, S.fEnds⟩, ⟨y.2.2.2.2.2, S.fImage⟩]) := by
 refine Fnc.proof Tryz.func73 G 48 G G fun X w => qg<|bx G G G fun b1 => al zero_55 G fun b2 => nl<|nx<|qg<|rl 2 [1] G G<|cf (cloneAc_c _ _ hb.acc) (Kg G) G (Sc 0 G Sn) G fun _ v6 _ => ru 1 G<|stR 2 0 G G G G (Og G) (nlt G)<|nl<|nx<|sq<|qg<|rl 2 [2] G G<|lnR 0 G G Tryz.underlying50 G fun l10 => mv G G<|nl<|nx<|bk<|lpC (σ := Nat) [(1, _), (2, _), (10, _)] _ (fun i C => (11, .int .i64 (i : Int)) :: C) (fun i => i ≤ S.fAccounts.length) (fun i => S.fAccounts.length - i) 0 (Gs G) (Sc 0 G (Sc 1 G (Sc 2 G (Sc 3 G (Sc 4 G (Sc 5 G Sn)))))) (Nat.zero_le _) (Gs G) ?_
 intro i hi
 refine sa 1 G<|sq<|cdP G (fun h12 => ?_) (fun h12 => ?_)
 ·
  refine sk<|nx<|sq<|bk<|sa 2 G<|rgZ (L := [row 70 v6 S.fAccounts, bl b2 55 zv6, bl b1 55 [.int .i64 S.fGroup, .int .i64 S.fIndex, .bool (S.fOwns), .string S.fLo, .string S.fHi, .int .i64 S.fEpoch, v6, s_1, s_2, s_3, s_4, .int .i64 S.fSeal.fNumber, .int .i64 S.fSeal.fFrom, .int .i64 S.fSeal.fTo, .string S.fSeal.fLo, .string S.fSeal.fHi, .int .i64 S.fSeal.fClient, .int .i64 S.fSeal.fSeq, .int .i64 S.fOut.fNumber, .int .i64 S.fOut.fFrom, .int .i64 S.fOut.fTo, .string S.fOut.fLo, .string S.fOut.fHi, .int .i64 S.fOut.fClient, .int .i64 S.fOut.fSeq, s_5, .int .i64 S.fAbsorbed, .int .i64 S.fRefused, .int .i64 S.fUndone], fz X w]) [(1,.ld 2),(4,.ld 2)] [(6,⟨some ((elp v6 ((i) * 10))),fun _ => [],false⟩),(7,⟨some ((elp v6 ((i) * 10 + 5))),fun _ => [],false⟩),(8,⟨none,fun u => [⟨u, (S.fAccounts.getD (i) default).fHolders⟩],false⟩),(9,⟨none,fun u => [⟨u, (S.fAccounts.getD (i) default).fHolders⟩],false⟩),(10,⟨some ((elp v6 ((i) * 10))),fun _ => [],false⟩),(11,⟨some ((elp v6 ((i) * 10 + 5))),fun _ => [],false⟩),(12,⟨none,fun _ => [],true⟩)] [] [] [] (fun _ => G) (fun _ => by kernel_rfl) ⟨fun V De _=>aP1 (ixN 0 (i) G G G slt_50 (by omega) (by omega) G<|oh G G G G),fun V De _=>aP1 (faE 0 G G (by omega) (Fg G) G<|oh G G G G),fun V De _=>aP1 (ldE (s := sAccount) 0 (i) 5 (fun h => h) G G gE (fun _ => G) (Og G) G fun q22 w22 => nl (odH G G G trivial (Sc 0 G Sn) (SubD.tail Sr))),fun V De _=>aP1 (cf (cloneHo_c _ _ (hb.hold i (by omega))) (Kg G) G (Sc 0 G Sn) G fun _ v23 _ => nl (odH G G G trivial (Sc 0 G Sn) (SubD.tail (SubD.tail Sr)))),fun V De _=>(by (repeat (refine aC ?_ ?_; exact ixN 0 (i) G G G slt_50 (by omega) (by omega) G<|oh G G G G)); trivial),fun V De _=>aP1 (faE 0 G G (by omega) (Fg G) G<|oh G G G G),fun V De _=>aP1 (stF (s := sAccount) 0 (i) 5 0 _ G G G G gE (by decide) (fun _ => G) (Sc 0 G Sn) (Og G)<|nl (od0H G G (SubD.tail Sr))),trivial⟩ fun V _ => wD [2,3,4,5,6,7] G<|bN<|nx<|rg<|adI G G inI G<|mv G G<|nl ?_
  exact ag (i + 1) (by omega) (by omega) (Gs G) G (Si [0,1,2,3,4,5] G)
 ·
  refine ex<|tE<|tE<|bE<|nx<|sq<|rgZ [(1,.ld 2),(4,.ld 2),(7,.ld 2),(10,.ld 2),(13,.ld 2)] [(2,⟨none,fun u => [⟨u, S.fMarks⟩],true⟩),(5,⟨none,fun u => [⟨u, S.fWaits⟩],true⟩),(8,⟨none,fun u => [⟨u, S.fDeals⟩],true⟩),(11,⟨none,fun u => [⟨u, S.fEnds⟩],true⟩),(14,⟨none,fun u => [⟨u, S.fImage⟩],true⟩),(16,⟨none,fun _ => [],true⟩),(18,⟨none,fun _ => [],true⟩),(20,⟨none,fun _ => [],true⟩),(22,⟨none,fun _ => [],true⟩),(24,⟨none,fun _ => [],true⟩)] [] [] [(16,fun L zz => ceE 1 b1 7 (zz 2) L),(18,fun L zz => ceE 1 b1 8 (zz 5) L),(20,fun L zz => ceE 1 b1 9 (zz 8) L),(22,fun L zz => ceE 1 b1 10 (zz 11) L),(24,fun L zz => ceE 1 b1 25 (zz 14) L)] (fun _ => G) (fun _ => by kernel_rfl) ⟨fun V De _=>aP1 (cf (cloneMk_c _ _ hb.marks) (Kg G) G (Sc 1 G Sn) G fun _ v29 _ => nl (odH G G G trivial (Sc 0 G Sn) (SubD.tail Sr))),fun V De _=>aP1 (cf (cloneWt_c _ _ hb.waits) (Kg G) G (Sc 2 G Sn) G fun _ v32 _ => nl (odH G G G trivial (Sc 0 G Sn) (SubD.tail Sr))),fun V De _=>aP1 (cf (cloneDl_c _ _ hb.deals) (Kg G) G (Sc 3 G Sn) G fun _ v35 _ => nl (odH G G G trivial (Sc 0 G Sn) (SubD.tail Sr))),fun V De _=>aP1 (cf (cloneEn_c _ _ hb.ends) (Kg G) G (Sc 4 G Sn) G fun _ v38 _ => nl (odH G G G trivial (Sc 0 G Sn) (SubD.tail Sr))),fun V De _=>aP1 (cf (Rdr.clone_c _ _ hb.image) (Kg G) G (Sc 5 G Sn) G fun _ v41 _ => nl (odH G G G trivial (Sc 0 G Sn) (SubD.tail Sr))),fun V De _=>aP1 (stL 2 0 G G G G (Og G) (nlt G)<|nl (od0H G G (SubD.tail Sr))),fun V De _=>aP1 (stL 2 0 G G G G (Og G) (nlt G)<|nl (od0H G G (SubD.tail Sr))),fun V De _=>aP1 (stL 2 0 G G G G (Og G) (nlt G)<|nl (od0H G G (SubD.tail Sr))),fun V De _=>aP1 (stL 2 0 G G G G (Og G) (nlt G)<|nl (od0H G G (SubD.tail Sr))),fun V De _=>aP1 (stL 2 0 G G G G (Og G) (nlt G)<|nl (od0H G G (SubD.tail Sr))),trivial⟩ fun V _ => ?_
  generalize V 2 = v2
  generalize V 5 = v5
  generalize V 8 = v8
  generalize V 11 = v11
  generalize V 14 = v14
  exact nx<|sq<|frR<|rg<|ldM 1 (cState ((⟨S.fGroup, S.fIndex, S.fOwns, S.fLo, S.fHi, S.fEpoch, S.fAccounts, S.fMarks, S.fWaits, S.fDeals, S.fEnds, (⟨S.fSeal.fNumber, S.fSeal.fFrom, S.fSeal.fTo, S.fSeal.fLo, S.fSeal.fHi, S.fSeal.fClient, S.fSeal.fSeq⟩ : TPlan), (⟨S.fOut.fNumber, S.fOut.fFrom, S.fOut.fTo, S.fOut.fLo, S.fOut.fHi, S.fOut.fClient, S.fOut.fSeq⟩ : TPlan), S.fImage, S.fAbsorbed, S.fRefused, S.fUndone⟩ : TState)) v6 v2 v5 v8 v11 v14) G G (Rg G) G G<|oc 0 G fun o_v6 => oc 1 G fun o_v2 => oc 2 G fun o_v5 => oc 3 G fun o_v8 => oc 4 G fun o_v11 => oc 5 G fun o_v14 => stW 0 (us := (cState ((⟨S.fGroup, S.fIndex, S.fOwns, S.fLo, S.fHi, S.fEpoch, S.fAccounts, S.fMarks, S.fWaits, S.fDeals, S.fEnds, (⟨S.fSeal.fNumber, S.fSeal.fFrom, S.fSeal.fTo, S.fSeal.fLo, S.fSeal.fHi, S.fSeal.fClient, S.fSeal.fSeq⟩ : TPlan), (⟨S.fOut.fNumber, S.fOut.fFrom, S.fOut.fTo, S.fOut.fLo, S.fOut.fHi, S.fOut.fClient, S.fOut.fSeq⟩ : TPlan), S.fImage, S.fAbsorbed, S.fRefused, S.fUndone⟩ : TState)) v6 v2 v5 v8 v11 v14)) G G G (Rg G) (by simp only [List.all_cons, List.all_nil, Bool.and_true, o_v6, o_v2, o_v5, o_v8, o_v11, o_v14]; rfl) G<|nl<|nx<|rt<|fRG ⟨v6, v2, v5, v8, v11, v14⟩ [_, _] (rC 0 G G G (Rg G)) (by exact ⟨rfl, h_S⟩) G (Sc 0 G (Sc 1 G (Sc 2 G (Sc 3 G (Sc 4 G (Sc 5 G Sn))))))
theorem hasC_c (v_ss : Value) (ss : List TState) (v_rr : Value) (rr : List (List TRight)) (c : Tcounted) (c_0 : Value) (h_c : c.wf) (hh : c.fAccount.fHolders.length ≤ 1000) (hrw : ∀ l ∈ rr, ∀ r ∈ l, r.wf) : FnV Pg 88 [v_ss, v_rr, .agg (ccounted c c_0).toArray] [⟨v_ss, ss⟩, ⟨v_rr, rr⟩, ⟨c_0, c.fAccount.fHolders⟩] (.tuple #[.int .i64 (hasV ss rr c).1, .bool (hasV ss rr c).2]) := by
 refine Fnc.proof Tryz.func88 G 110 G G fun X w => gtC (q := rr.length ≤ 9223372036854775807) (fun S w h => list_len (h _ (List.mem_of_getElem? (i := 1) G))) fun hlr => qg<|bx G G G fun b5 => ru 2 G<|nl<|nx<|qg<|ru 1 G<|ldM 0 (cAccount c.fAccount c_0) G G (Rg G) G G<|al zero_70 G fun b8 => oc 2 G fun o_c_0 => stW 0 (us := (cAccount c.fAccount c_0)) G G G (Rg G) (by simp only [List.all_cons, List.all_nil, Bool.and_true, o_c_0]; rfl) G<|nl<|nx<|qg<|rl 2 [0] G G<|bs1 (xs := [.tmp 21]) (us := [.int .i64 c.fAccount.fBase]) (E := 3) (bytes := 8) (n := 1) G (by exact app_220) G G G G G G fun b22 => rwB (α := Int) [c.fAccount.fBase] [[.int .i64 (c.fAccount.fBase)]] G G (fun S w h => ⟨⟨G, h_c.1.2.2.1⟩, trivial⟩) G<|ru 1 G<|nl<|nx<|sq<|qg<|rl 2 [1] G G<|lnP 2 G G Tryz.underlying66 G fun l25 => mv G G<|nl<|nx<|bk<|lpE (σ := Nat × Value) [(0, _), (1, _), (5, _), (8, _), (24, _), (25, _)] _ (fun s C => (26, .int .i64 (s.1 : Int)) :: (9, s.2) :: C) (fun s => [row 3 s.2 (partsL rr c s.1), bl b8 70 (cAccount c.fAccount c_0), bl b5 150 (ccounted c c_0), fz X w]) (fun _ Dc => Dc) (fun s => s.1 ≤ c.fAccount.fHolders.length) (fun s => c.fAccount.fHolders.length - s.1) (0, _) (Gs G) (Sc 0 G (Sc 1 G (Sc 2 G Sn))) (Nat.zero_le _) (Gs G) G (Sc 0 G (Sc 1 G (Sc 2 G Sn))) ?_
 rintro ⟨i, rv⟩ hi
 simp only at hi
 show WC _ _ _ [(26, .int .i64 ((i : Int))), (9, _), (0, _), (1, _), (5, _), (8, _), (24, _), (25, _)] [row 3 rv (partsL rr c i), bl b8 70 (cAccount c.fAccount c_0), bl b5 150 (ccounted c c_0), fz X w] _
 refine sa 1 G<|sq<|cdP G (fun h27 => ?_) (fun h27 => ?_)
 ·
  refine sk<|nx<|sq<|bk<|qg<|ixQ 2 G G G slt_66 G fun v28 => ldS 0 G G (Rg G) G fun q29 w29 => al zero_165 G fun b11 => stW 0 (us := (cHolder ((c.fAccount.fHolders.getD i default)))) G G G (Rg G) G G<|nl<|nx<|qg<|rl 4 [0] G G ?_
  refine jy 33 6 [0,1,5,8,9,11,24,25,26] G G (fun h33 K39 => by
   have p33 := of_decide_eq_true h33
   exact rl 3 [0] G G<|gY G G G<|lnP 3 G G Tryz.underlying71 G fun l37 => ru 2 G<|K39 G Sr) ?_
  refine nl<|nx<|cdB G (fun h39 => ?_) (fun h39 => ?_)
  ·
   have q39 : (c.fAccount.fHolders.getD i default).fNode ≥ 1 ∧ (c.fAccount.fHolders.getD i default).fNode ≤ (rr.length : Int) := by
    simpa only [Bool.and_eq_true, decide_eq_true_eq] using h39
   refine rgHT 15 ⟨fun q_ => ([[], [], [], [2], [3], [1, 4], [5], [], [7], [], [9], [], [11], [6, 8, 10, 12], [13], [], []] : List (List Nat)).getD q_ [], fun _ _ => True, fun q_ => ([fun _ => [], fun _ => [], fun _ => [], fun _ => [], fun _ => [], fun u => [⟨u, (⟨(rr.getD (((c.fAccount.fHolders.getD i default).fNode - 1)).toNat default)⟩ : Pt (List TRight))⟩], fun u => [⟨u, (rr.getD (((c.fAccount.fHolders.getD i default).fNode - 1)).toNat default)⟩], fun _ => [], fun _ => [], fun _ => [], fun _ => [], fun _ => [], fun _ => [], fun _ => [], fun u => [⟨u, [(netP (rr.getD ((c.fAccount.fHolders.getD i default).fNode - 1).toNat default) c.fGroup c.fAccount.fKey (c.fAccount.fHolders.getD i default).fLease)]⟩], fun _ => [], fun _ => []] : List (Value → List Atom)).getD q_ (fun _ => []), fun q_ => ([some (rv), some (v_rr), some (.pointer (some ⟨b11, 0, none⟩)), some (.int .i64 ((c.fAccount.fHolders.getD i default).fNode)), some (.int .i64 (((c.fAccount.fHolders.getD i default).fNode - 1))), none, none, some (.pointer (some ⟨b5, 10, none⟩)), some (.int .i64 c.fGroup), some (.pointer (some ⟨b8, 0, none⟩)), some (.string c.fAccount.fKey), some (.pointer (some ⟨b11, 1, none⟩)), some (.int .i64 ((c.fAccount.fHolders.getD i default).fLease)), some (.int .i64 ((netP (rr.getD (((c.fAccount.fHolders.getD i default).fNode - 1)).toNat default) c.fGroup c.fAccount.fKey (c.fAccount.fHolders.getD i default).fLease))), none, none, none] : List (Option Value)).getD q_ none, fun _ _ => _, [], [[]]⟩ G mixed (by kernel_rfl) (Nat.le_of_ble_eq_true G) G ?_ ?_
   ·
    refine ⟨fun V De _=>aP1 (mv G G<|oh G G G G),fun V De _=>aP1 (mv G G<|oh G G G G),fun V De _=>aP1 (fa G (Fg G) G<|oh G G G G),fun V De _=>aP1 (ldB 0 G G (Og G) G G<|oh G G G G),fun V De _=>aP1 (sbI G G inI G<|oh G G G G),fun V De _=>aP1 (ixQ 3 G G G slt_71 G fun v45 => nl (odH G G G trivial (Sc 0 G Sn) (SubD.tail Sr))),fun V De _=>aP1 (ldL 0 G G (Og G) G fun v46 => nl (odH G G G trivial (Sc 0 G Sn) (SubD.tail (SubD.tail Sr)))),fun V De _=>aP1 (fa G (Fg G) G<|oh G G G G),?_⟩
    exact ⟨fun V De _=>aP1 (ldB 3 G G (Og G) G G<|oh G G G G),fun V De _=>aP1 (fa G (Fg G) G<|oh G G G G),fun V De _=>aP1 (ldB 2 G G (Og G) G G<|oh G G G G),fun V De _=>aP1 (fa G (Fg G) G<|oh G G G G),fun V De _=>aP1 (ldB 0 G G (Og G) G G<|oh G G G G),fun V De _=>aP1 (cfv (net_c _ _ _ _ _) (Kg G) G (Sc 0 G Sn) G<|nl (odH G G G G Sn (SubD.tail Sr))),fun V De _=>aP1 (bs1 (xs := [.tmp 53]) (us := [.int .i64 ((netP (rr.getD (((c.fAccount.fHolders.getD i default).fNode - 1)).toNat default) c.fGroup c.fAccount.fKey (c.fAccount.fHolders.getD i default).fLease))]) (E := 3) (bytes := 8) (n := 1) G (by exact app_220) G G G G G G fun b54 => frS (α := Int) [(netP (rr.getD ((c.fAccount.fHolders.getD i default).fNode - 1).toNat default) c.fGroup c.fAccount.fKey (c.fAccount.fHolders.getD i default).fLease)] [[.int .i64 ((netP (rr.getD ((c.fAccount.fHolders.getD i default).fNode - 1).toNat default) c.fGroup c.fAccount.fKey (c.fAccount.fHolders.getD i default).fLease))]] G (fun S w h => ⟨⟨G, netP_in (hrw _ (getD_mem (by omega))) _ _ _⟩, trivial⟩) (Nat.le_of_ble_eq_true G)<|nl (odH G G G trivial (Sc 0 G Sn) (SubD.tail Sr))),trivial⟩
   ·
    intro V _
    refine wkL [(40, rv), (54, V 14), (0, _), (1, _), (5, _), (8, _), (24, _), (25, _), (26, _)] [(⟨(V 5), (⟨(rr.getD (((c.fAccount.fHolders.getD i default).fNode - 1)).toNat default)⟩ : Pt (List TRight))⟩ : Atom), (⟨(V 6), (rr.getD (((c.fAccount.fHolders.getD i default).fNode - 1)).toNat default)⟩ : Atom), (⟨(V 14), [(netP (rr.getD ((c.fAccount.fHolders.getD i default).fNode - 1).toNat default) c.fGroup c.fAccount.fKey (c.fAccount.fHolders.getD i default).fLease)]⟩ : Atom), _, _, _, _, _] (Gs G) Sr ?_
    generalize V 14 = v54
    refine ap 1 2 G G G G app_220 (by have := partsL_len rr c i; simp only [List.length_cons, List.length_nil]; omega) (by have := partsL_len rr c i; simp only [List.length_cons, List.length_nil]; omega) G fun v55 => ru 1 G<|nl<|bN<|nx<|rg<|adI G G inI G<|mv G G<|nl<|dpQ ?_
    rw [show partsL rr c i ++ [(netP (rr.getD ((c.fAccount.fHolders.getD i default).fNode - 1).toNat default) c.fGroup c.fAccount.fKey (c.fAccount.fHolders.getD i default).fLease)] = partsL rr c (i + 1) from (partsL_T q39).symm]
    exact ag ((i + 1, v55) : Nat × Value) (by show i + 1 ≤ c.fAccount.fHolders.length; omega) (by show c.fAccount.fHolders.length - (i + 1) < c.fAccount.fHolders.length - i; omega) (Gs G) G (Si [5,6,7] G)
  ·
   refine sk<|bN<|nx<|rg<|adI G G inI G<|mv G G<|nl<|dpQ ?_
   rw [show partsL rr c i = partsL rr c (i + 1) from (partsL_F h39).symm]
   exact ag ((i + 1, rv) : Nat × Value) (by show i + 1 ≤ c.fAccount.fHolders.length; omega) (by show c.fAccount.fHolders.length - (i + 1) < c.fAccount.fHolders.length - i; omega) (Gs G) G (Si [2,3,4] G)
 ·
  obtain rfl : i = c.fAccount.fHolders.length := by omega
  refine ex<|tE<|tE<|bE<|nx<|sq<|qg<|rl 4 [1] G G<|cf (ofS_c _ _ _ (stOf ss c.fAccount.fLock.fHome) G) (Kg G) G (Sc 0 G Sn) G fun y62 v62 h62 => ?_
  obtain ⟨e62, w62⟩ := h62
  subst e62
  obtain ⟨z62_0, z62_1, z62_2, z62_3, z62_4, z62_5⟩ := y62
  refine ru 3 G<|al zero_55 G fun b12 => oc 0 G fun o_z62_0 => oc 1 G fun o_z62_1 => oc 2 G fun o_z62_2 => oc 3 G fun o_z62_3 => oc 4 G fun o_z62_4 => oc 5 G fun o_z62_5 => stW 0 (us := (cState ((stOf ss c.fAccount.fLock.fHome)) z62_0 z62_1 z62_2 z62_3 z62_4 z62_5)) G G G (Rg G) (by simp only [List.all_cons, List.all_nil, Bool.and_true, o_z62_0, o_z62_1, o_z62_2, o_z62_3, o_z62_4, o_z62_5]; rfl) G<|ru 1 G<|nl<|nx<|qg<|ru 2 G<|ja 66 5 [2] [8,9,12] G G G<|nl<|nx<|cdB G (fun h71 => ?_) (fun h71 => ?_)
  ·
   refine qg<|rl 8 [0,2,2] G G<|cfv (findD_c _ _ _ _ h_c.1.2.2.2.2.2.1 h_c.1.2.2.2.2.2.2.1) (Kg G) G (Sc 3 G Sn) G<|ru 3 G<|al zero_126 G fun b14 => stW 0 (us := (cDeal ((findD (stOf ss c.fAccount.fLock.fHome).fDeals c.fAccount.fLock.fClient c.fAccount.fLock.fSeq)))) G G G (Rg G) G G<|ru 1 G<|nl<|nx<|qg<|ru 2 G<|ja 85 4 [0] [8,9] G G G<|nl<|nx<|cdB G (fun h89 => ?_) (fun h89 => ?_)
   ·
    refine rg<|rl 4 [3] G G<|bs1 (xs := [.tmp 93]) (us := [.int .i64 c.fAccount.fLock.fN]) (E := 3) (bytes := 8) (n := 1) G (by exact app_220) G G G G G G fun b94 => frS (α := Int) [c.fAccount.fLock.fN] [[.int .i64 (c.fAccount.fLock.fN)]] G (fun S w h => ⟨⟨G, h_c.1.2.2.2.2.2.2.2.2⟩, trivial⟩) (Nat.le_of_ble_eq_true G)<|ap 2 0 G G G G app_220 (by have := partsL_len rr c c.fAccount.fHolders.length; simp only [List.length_cons, List.length_nil]; omega) (by have := partsL_len rr c c.fAccount.fHolders.length; simp only [List.length_cons, List.length_nil]; omega) G fun v95 => ru 1 G<|nl<|nx<|sq<|mtC 2 G<|frR<|rg<|mv G G<|cfv (sum_c _ _) (Kg G) G (Sc 0 G Sn) G<|ru 5 G<|nl<|nx<|qg<|ru 2 G<|ru 2 G ?_
    refine jy 104 5 [101] G G (fun h104 K109 => by
     have p104 := of_decide_eq_true h104
     exact ru 1 G<|gY G G G<|ldM 2 (cSpan c.fAccount.fSpan) G G (Rg G) G G<|ru 1 G<|gY G G G<|cfv (has_c _ _ h_c.1.2.1 (sumI_in _)) (Kg G) G Sn G<|ru 1 G<|K109 G Sr) ?_
    exact ru 2 G<|nl<|nx<|rt<|dpQ<|dpQ<|dpQ<|dpQ<|fR2 () G G G (by rw [hasV, partsC, lockPart, if_pos h71, if_pos h89]; try rfl) G Sn
   ·
    refine sk<|nx<|sq<|mtC 2 G<|frR<|rg<|mv G G<|cfv (sum_c _ _) (Kg G) G (Sc 0 G Sn) G<|ru 5 G<|nl<|nx<|qg<|ru 4 G ?_
    refine jy 104 5 [101] G G (fun h104 K109 => by
     have p104 := of_decide_eq_true h104
     exact ru 1 G<|gY G G G<|ldM 2 (cSpan c.fAccount.fSpan) G G (Rg G) G G<|ru 1 G<|gY G G G<|cfv (has_c _ _ h_c.1.2.1 (sumI_in _)) (Kg G) G Sn G<|ru 1 G<|K109 G Sr) ?_
    exact ru 2 G<|nl<|nx<|rt<|dpQ<|dpQ<|dpQ<|dpQ<|fR2 () G G G (by rw [hasV, partsC, lockPart, if_pos h71, if_neg (by rw [h89]; decide), List.append_nil]; try rfl) G Sn
  ·
   refine sk<|nx<|sq<|mtC 1 G<|frR<|rg<|mv G G<|cfv (sum_c _ _) (Kg G) G (Sc 0 G Sn) G<|ru 5 G<|nl<|nx<|qg<|ru 4 G ?_
   refine jy 104 5 [101] G G (fun h104 K109 => by
    have p104 := of_decide_eq_true h104
    exact ru 1 G<|gY G G G<|ldM 1 (cSpan c.fAccount.fSpan) G G (Rg G) G G<|ru 1 G<|gY G G G<|cfv (has_c _ _ h_c.1.2.1 (sumI_in _)) (Kg G) G Sn G<|ru 1 G<|K109 G Sr) ?_
   exact ru 2 G<|nl<|nx<|rt<|dpQ<|dpQ<|dpQ<|fR2 () G G G (by rw [hasV, partsC, lockPart, if_neg (by rw [h71]; decide), List.append_nil]; try rfl) G Sn
theorem swapR_c (v : Value) (xs : List Tcounted) (a b n : Nat) (hab : a + n ≤ b) (hb : b + n ≤ xs.length) : Fnc Pg 308 [v, .int .i64 (a : Int), .int .i64 (b : Int), .int .i64 (n : Int), (.func (.func 86) #[] #[])] [@row Tcounted rcounted 150 v xs] [] (fun (_ : Unit) _ => True) (fun _ _ => [@row Tcounted rcounted 150 v (swR a b n 0 xs)]) (fun _ _ => []) := by
 refine Fnc.proof Tryz.func308 G 38 G G fun X w => lenRC 0 G fun hlen => sa 1 G<|bk<|lpE (σ := Nat × List Tcounted) [(0, _), (1, _), (2, _), (3, _)] _ (fun s C => (10, .int .i64 (s.1 : Int)) :: C) (fun s => [@row Tcounted rcounted 150 v s.2, fz X w]) (fun _ Dc => Dc) (fun s => s.1 ≤ n ∧ s.2.length = xs.length ∧ swR a b (n - s.1) s.1 s.2 = swR a b n 0 xs) (fun s => n - s.1) (0, xs) (Gs G) Sn ⟨Nat.zero_le _, G, G⟩ (Gs G) G Sn ?_
 rintro ⟨i, ys⟩ ⟨hi, hl, hy⟩
 simp only at hi hl hy
 show WC _ _ _ [(10, .int .i64 ((i : Int))), (0, _), (1, _), (2, _), (3, _)] [@row Tcounted rcounted 150 v ys, fz X w] _
 refine sq<|sa 3 G<|cdP G (fun h13 => ?_) (fun h13 => ?_)
 ·
  refine sk<|nx<|sq<|bk<|rgZ (L := [row 150 v ys, fz X w]) [] [(3,⟨some (.int .i64 (((a : Int) + (i : Int)))),fun _ => [],false⟩),(7,⟨some (.int .i64 (((b : Int) + (i : Int)))),fun _ => [],false⟩),(11,⟨some (.int .i64 (((b : Int) + (i : Int)))),fun _ => [],false⟩),(12,⟨some ((elp v (((b) + (i)) * 11))),fun _ => [],false⟩),(13,⟨none,fun u => [(@Atom.mk Tcounted rcounted u (ys.getD ((b) + (i)) default))],false⟩),(17,⟨some (.int .i64 (((a : Int) + (i : Int)))),fun _ => [],false⟩),(18,⟨some ((elp v (((a) + (i)) * 11))),fun _ => [],false⟩),(19,⟨none,fun u => [(@Atom.mk Tcounted rcounted u (ys.getD ((a) + (i)) default))],false⟩),(20,⟨some ((elp v (((a) + (i)) * 11))),fun _ => [],false⟩),(21,⟨none,fun _ => [],true⟩),(22,⟨some ((elp v (((b) + (i)) * 11))),fun _ => [],false⟩),(23,⟨none,fun _ => [],true⟩)] [] [] [(21,fun L _ => rpE 1 (row 150 v (ys.set ((a) + (i)) (ys.getD ((b) + (i)) default))) L),(23,fun L _ => rpE 1 (row 150 v ((ys.set ((a) + (i)) (ys.getD ((b) + (i)) default)).set ((b) + (i)) (ys.getD ((a) + (i)) default))) L)] (fun _ => G) (fun _ => by kernel_rfl) ⟨fun V De _=>aP1 (adI G G inI G<|oh G G G G),fun V De _=>aP2 (adI G G inI G<|oh G G G G) (adI G G inI G<|oh G G G G),fun V De _=>aP1 (adI G G inI G<|oh G G G G),fun V De _=>aP1 (ixN 0 ((b) + (i)) G G G slt_145 (by omega) (by omega) G<|oh G G G G),fun V De _=>aP1 (ldR (s := scounted) 0 ((b) + (i)) G G gE (Rg G) G fun q29 w29 => nl (odH G G G trivial (Sc 0 G Sn) (SubD.tail (SubD.tail Sr)))),fun V De _=>aP2 (adI G G inI G<|oh G G G G) (adI G G inI G<|oh G G G G),fun V De _=>aP2 (ixN 0 ((a) + (i)) G G G slt_145 (by omega) (by omega) G<|oh G G G G) (ixN 0 ((a) + (i)) G G G slt_145 (by omega) (by simp only [List.length_set]; omega) G<|oh G G G G),fun V De _=>aP1 (ldR (s := scounted) 0 ((a) + (i)) G G gE (Rg G) G fun q35 w35 => nl (odH G G G trivial (Sc 0 G Sn) (SubD.tail (SubD.tail Sr)))),fun V De _=>aP1 (ixN 0 ((a) + (i)) G G G slt_145 (by omega) (by omega) G<|oh G G G G),fun V De _=>aP1 (stA (s := scounted) 0 ((a) + (i)) 0 G G G G (by omega) (Rg G)<|nl (od0H G G (SubD.tail Sr))),fun V De _=>aP1 (ixN 0 ((b) + (i)) G G G slt_145 (by omega) (by simp only [List.length_set]; omega) G<|oh G G G G),fun V De _=>aP1 (stA (s := scounted) 0 ((b) + (i)) 0 G G G G (by simp only [List.length_set]; omega) (Rg G)<|nl (od0H G G (SubD.tail Sr))),trivial⟩ fun V _ => bN<|nx<|rg<|mv G G<|adI G G inI G<|ru 1 G<|nl ?_
  exact ag ((i + 1, swapL ys (a + i) (b + i)) : Nat × List Tcounted) ⟨by show i + 1 ≤ n; omega, (swapL_len _ _ _).trans hl, by rw [show n - i = n - (i + 1) + 1 by omega] at hy; exact hy⟩ (by show n - (i + 1) < n - i; omega) (Gs G) G Sn
 ·
  have e : n - i = 0 := by omega
  rw [e] at hy
  have hy : ys = swR a b n 0 xs := hy
  subst hy
  exact ex<|tE<|tE<|bE<|fR0N () G trivial G Sn
theorem insS_c (v : Value) (xs : List Tcounted) (a b : Nat) (hb : b ≤ xs.length) (ha : a ≤ b) : Fnc Pg 218 [v, .int .i64 (a : Int), .int .i64 (b : Int), (.func (.func 86) #[] #[])] [@row Tcounted rcounted 150 v xs] [] (fun (_ : Unit) _ => True) (fun _ _ => [@row Tcounted rcounted 150 v (insP ltC a b xs)]) (fun _ _ => []) := by
 refine Fnc.proof Tryz.func218 G 53 G G fun X w => lenRC 0 G fun hlen => qg<|mv G G<|adI G G inI G<|ru 1 G<|nl<|nx<|bk<|lpE (σ := Nat × List Tcounted) [(0, _), (1, _), (2, _), (3, _)] _ (fun s C => (8, .int .i64 (s.1 : Int)) :: C) (fun s => [@row Tcounted rcounted 150 v s.2, fz X w]) (fun _ Dc => Dc) (fun s => a + 1 ≤ s.1 ∧ (s.1 ≤ b ∨ s.1 = a + 1) ∧ s.2.length = xs.length ∧ insI ltC a (b - s.1) s.1 s.2 = insP ltC a b xs) (fun s => b - s.1) (a + 1, xs) (Gs G) Sn ⟨Nat.le_refl _, .inr G, G, G⟩ (Gs G) G Sn ?_
 rintro ⟨i, ys⟩ ⟨hi0, hi, hl, hy⟩
 simp only at hi0 hi hl hy
 show WC _ _ _ [(8, .int .i64 ((i : Int))), (0, _), (1, _), (2, _), (3, _)] [@row Tcounted rcounted 150 v ys, fz X w] _
 refine sq<|sa 3 G<|cdP G (fun h14 => ?_) (fun h14 => ?_)
 ·
  refine sk<|nx<|sq<|bk<|sa 2 G<|bk<|lpE (σ := Nat × List Tcounted) [(0, _), (1, _), (2, _), (3, _), (8, _)] _ (fun s C => (9, .int .i64 (s.1 : Int)) :: C) (fun s => [@row Tcounted rcounted 150 v s.2, fz X w]) (fun _ Dc => Dc) (fun s => a ≤ s.1 ∧ s.1 ≤ i ∧ s.2.length = xs.length ∧ insJ ltC a i ys = insJ ltC a s.1 s.2) (fun s => s.1) (i, ys) (Gs G) Sn ⟨by show a ≤ i; omega, Nat.le_refl _, hl, G⟩ (Gs G) G Sn ?_
  rintro ⟨j, zs⟩ ⟨hj0, hj, hlz, hz⟩
  simp only at hj0 hj hlz hz
  show WC _ _ _ [(9, .int .i64 ((j : Int))), (0, _), (1, _), (2, _), (3, _), (8, _)] [@row Tcounted rcounted 150 v zs, fz X w] _
  refine sq<|sq<|rgQ mixed (by kernel_rfl)<|ru 4 G ?_
  refine jy 21 13 [0,1,2,3,8,9] G G (fun h21 K34 => by
   have p21 := of_decide_eq_true h21
   exact ru 3 G<|gY G G G<|ixN 0 (j) G G G slt_145 (by omega) (by omega) G<|gY G G G<|ldR (s := scounted) 0 (j) G G gE (Rg G) G fun q26 w26 => ru 2 G<|gY G G G<|sbI G G inI G<|gY G G G<|ixN 0 ((j) - 1) G G G slt_145 (by omega) (by omega) G<|gY G G G<|ldR (s := scounted) 0 ((j) - 1) G G gE (Rg G) G fun q31 w31 => gY G G G<|cfqc (cmpC_c _ _ _ _ w26 w31) (Kg G) G G G (Si [3,1] G) G<|ru 2 G<|K34 G (SubD.tail (SubD.tail (SubD.tail (SubD.tail Sr))))) ?_
  refine nlQ<|nx<|cdB G (fun h34 => ?_) (fun h34 => ?_)
  ·
   have q34 : (j : Int) > a ∧ cmpC (zs.getD j default) (zs.getD (j - 1) default) < 0 := by
    simpa only [Bool.and_eq_true, decide_eq_true_eq] using h34
   refine sk<|nx<|sq<|bk<|rgZ (L := [row 150 v zs, fz X w]) [] [(4,⟨some (.int .i64 (((j : Int) - 1))),fun _ => [],false⟩),(7,⟨some (.int .i64 (((j : Int) - 1))),fun _ => [],false⟩),(8,⟨some ((elp v (((j) - 1) * 11))),fun _ => [],false⟩),(9,⟨none,fun u => [(@Atom.mk Tcounted rcounted u (zs.getD ((j) - 1) default))],false⟩),(12,⟨some ((elp v ((j) * 11))),fun _ => [],false⟩),(13,⟨none,fun u => [(@Atom.mk Tcounted rcounted u (zs.getD (j) default))],false⟩),(14,⟨some ((elp v ((j) * 11))),fun _ => [],false⟩),(15,⟨none,fun _ => [],true⟩),(16,⟨some ((elp v (((j) - 1) * 11))),fun _ => [],false⟩),(17,⟨none,fun _ => [],true⟩)] [] [] [(15,fun L _ => rpE 1 (row 150 v (zs.set (j) (zs.getD ((j) - 1) default))) L),(17,fun L _ => rpE 1 (row 150 v ((zs.set (j) (zs.getD ((j) - 1) default)).set ((j) - 1) (zs.getD (j) default))) L)] (fun _ => G) (fun _ => by kernel_rfl) ⟨fun V De _=>aP2 (sbI G G inI G<|oh G G G G) (sbI G G inI G<|oh G G G G),fun V De _=>aP1 (sbI G G inI G<|oh G G G G),fun V De _=>aP1 (ixN 0 ((j) - 1) G G G slt_145 (by omega) (by omega) G<|oh G G G G),fun V De _=>aP1 (ldR (s := scounted) 0 ((j) - 1) G G gE (Rg G) G fun q46 w46 => nl (odH G G G trivial (Sc 0 G Sn) (SubD.tail (SubD.tail Sr)))),fun V De _=>aP2 (ixN 0 (j) G G G slt_145 (by omega) (by omega) G<|oh G G G G) (ixN 0 (j) G G G slt_145 (by omega) (by simp only [List.length_set]; omega) G<|oh G G G G),fun V De _=>aP1 (ldR (s := scounted) 0 (j) G G gE (Rg G) G fun q50 w50 => nl (odH G G G trivial (Sc 0 G Sn) (SubD.tail (SubD.tail Sr)))),fun V De _=>aP1 (ixN 0 (j) G G G slt_145 (by omega) (by omega) G<|oh G G G G),fun V De _=>aP1 (stA (s := scounted) 0 (j) 0 G G G G (by omega) (Rg G)<|nl (od0H G G (SubD.tail Sr))),fun V De _=>aP1 (ixN 0 ((j) - 1) G G G slt_145 (by omega) (by simp only [List.length_set]; omega) G<|oh G G G G),fun V De _=>aP1 (stA (s := scounted) 0 ((j) - 1) 0 G G G G (by simp only [List.length_set]; omega) (Rg G)<|nl (od0H G G (SubD.tail Sr))),trivial⟩ fun V _ => bN<|nx<|rg<|mv G G<|sbE (r := ((j - 1 : Nat) : Int)) G G (by omega) inI G<|ru 1 G<|nl ?_
   exact ag ((j - 1, swapL zs j (j - 1)) : Nat × List Tcounted) ⟨by show a ≤ j - 1; omega, by show j - 1 ≤ i; omega, (swapL_len _ _ _).trans hlz, by rw [hz, insJ_eq, if_pos ⟨by omega, decide_eq_true q34.2⟩]⟩ (by show j - 1 < j; omega) (Gs G) G Sn
  ·
   refine ex<|tE<|tE<|bE<|bN<|nx<|rg<|mv G G<|adI G G inI G<|ru 1 G<|nl ?_
   exact ag ((i + 1, zs) : Nat × List Tcounted) ⟨by show a + 1 ≤ i + 1; omega, .inl (by show i + 1 ≤ b; omega), hlz, by rw [show b - i = b - (i + 1) + 1 by omega] at hy; rw [← hy]; show insI ltC a (b - (i + 1)) (i + 1) zs = insI ltC a (b - (i + 1)) (i + 1) (insJ ltC a i ys); rw [hz]; exact congrArg (insI ltC a (b - (i + 1)) (i + 1)) (by rw [insJ_eq, if_neg (fun q => by rw [Bool.and_eq_false_iff, decide_eq_false_iff_not, decide_eq_false_iff_not] at h34; rcases h34 with h | h; exact h (by omega); exact h (of_decide_eq_true q.2))])⟩ (by show b - (i + 1) < b - i; omega) (Gs G) G Sn
 ·
  have e : b - i = 0 := by omega
  rw [e] at hy
  have hy : ys = insP ltC a b xs := hy
  subst hy
  exact ex<|tE<|tE<|bE<|fR0N () G trivial G Sn
theorem rot_c (v : Value) (xs : List Tcounted) (a m b : Nat) (ha : a < m) (hm : m < b) (hb : b ≤ xs.length) : Fnc Pg 276 [v, .int .i64 (a : Int), .int .i64 (m : Int), .int .i64 (b : Int), (.func (.func 86) #[] #[])] [@row Tcounted rcounted 150 v xs] [] (fun (_ : Unit) _ => True) (fun _ _ => [@row Tcounted rcounted 150 v (rotP a m b xs)]) (fun _ _ => []) := by
 refine Fnc.proof Tryz.func276 G 58 G G fun X w => lenRC 0 G fun hlen => qg<|ru 2 G<|sbE (r := ((m - a : Nat) : Int)) G G (by omega) inI G<|ru 1 G<|nl<|nx<|qg<|ru 2 G<|sbE (r := ((b - m : Nat) : Int)) G G (by omega) inI G<|ru 1 G<|nl<|nx<|sq<|bk<|lpE (σ := Nat × Nat × Nat × List Tcounted) [(0, _), (2, _), (4, _)] _ (fun s C => (10, .int .i64 (s.2.1 : Int)) :: (11, .int .i64 (s.2.2.1 : Int)) :: C) (fun s => [@row Tcounted rcounted 150 v s.2.2.2, fz X w]) (fun _ Dc => Dc) (fun s => 0 < s.2.1 ∧ 0 < s.2.2.1 ∧ s.2.1 ≤ m ∧ m + s.2.2.1 ≤ xs.length ∧ s.2.2.2.length = xs.length ∧ s.2.1 + s.2.2.1 ≤ s.1 ∧ rotF m s.1 s.2.1 s.2.2.1 s.2.2.2 = rotP a m b xs) (fun s => s.2.1 + s.2.2.1) (b - a, m - a, b - m, xs) (Gs G) Sn ⟨by show 0 < m - a; omega, by show 0 < b - m; omega, by show m - a ≤ m; omega, by show m + (b - m) ≤ xs.length; omega, G, by show m - a + (b - m) ≤ b - a; omega, G⟩ (Gs G) G Sn ?_
 rintro ⟨f, i, j, ys⟩ ⟨hi, hj, him, hjm, hl, hf, hy⟩
 simp only at hi hj him hjm hl hf hy
 show WC _ _ _ [(10, .int .i64 ((i : Int))), (11, .int .i64 ((j : Int))), (0, _), (2, _), (4, _)] [@row Tcounted rcounted 150 v ys, fz X w] _
 refine sq<|sa 3 G<|cdN G (fun h20 => ?_) (fun h20 => ?_)
 ·
  refine sk<|nx<|bk<|sa 3 G<|cdP G (fun h23 => ?_) (fun h23 => ?_)
  ·
   refine qg<|ru 3 G<|sbE (r := ((m - i : Nat) : Int)) G G (by omega) inI G<|ru 3 G<|cf1 0 (swapR_c v ys (m - i) m j (by omega) (by omega)) (Kg G) G G Sn G fun _ v31 _ => nl<|nx<|rg<|ru 2 G<|sbE (r := ((i - j : Nat) : Int)) G G (by omega) inI G<|ru 1 G<|nl<|bN ?_
   exact ag ((f - 1, i - j, j, swR (m - i) m j 0 ys) : Nat × Nat × Nat × List Tcounted) ⟨by show 0 < i - j; omega, hj, by show i - j ≤ m; omega, hjm, (swR_len ..).trans hl, by show i - j + j ≤ f - 1; omega, by rw [rotF_gt m (by omega) (by omega)] at hy; exact hy⟩ (by show i - j + j < i + j; omega) (Gs G) G Sn
  ·
   refine qg<|ru 3 G<|sbE (r := ((m - i : Nat) : Int)) G G (by omega) inI G<|ru 2 G<|adI G G inI G<|mv G G<|sbE (r := ((m + j - i : Nat) : Int)) G G (by omega) inI G<|ru 2 G<|cf1 0 (swapR_c v ys (m - i) (m + j - i) i (by omega) (by omega)) (Kg G) G G Sn G fun _ v46 _ => nl<|nx<|rg<|ru 2 G<|sbE (r := ((j - i : Nat) : Int)) G G (by omega) inI G<|ru 1 G<|nl<|bN ?_
   exact ag ((f - 1, i, j - i, swR (m - i) (m + j - i) i 0 ys) : Nat × Nat × Nat × List Tcounted) ⟨hi, by show 0 < j - i; omega, him, by show m + (j - i) ≤ xs.length; omega, (swR_len ..).trans hl, by show i + (j - i) ≤ f - 1; omega, by rw [rotF_lt m (by omega) (by omega)] at hy; exact hy⟩ (by show i + (j - i) < i + j; omega) (Gs G) G Sn
 ·
  have e : j = i := by omega
  subst e
  rw [rotF_end] at hy
  refine ex<|tE<|tE<|bE<|nx<|rg<|ru 3 G<|sbE (r := ((m - j : Nat) : Int)) G G (by omega) inI G<|ru 3 G<|cf1 0 (swapR_c v ys (m - j) m j (by omega) (by omega)) (Kg G) G G Sn G fun _ v57 _ => nl ?_
  rw [hy]
  exact fR0N () G trivial G Sn
end Go.Proofs.YtmpoffijcfaalaaGreat
