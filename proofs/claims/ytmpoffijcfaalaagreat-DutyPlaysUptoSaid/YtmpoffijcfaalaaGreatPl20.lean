/- Part 20 of dutyPlays_holds. -/
import Derived.Test.YtmpoffijcfaalaaGreatPl19

set_option maxRecDepth 20000
set_option maxHeartbeats 1000000
namespace Go.Proofs.YtmpoffijcfaalaaGreat
open Go.Eng Go.YtmpoffijcfaalaaGreat
section
variable (v : TScene) (v_0 v_1 v_2 v_3 v_4 : Value) (S : TState) (s_0 s_1 s_2 s_3 s_4 s_5 : Value)
theorem whose_r (key : ByteArray) (S : TState) (s_0 s_1 s_2 s_3 s_4 s_5 : Value) (ys : List (TState × sState.H)) (h_v : v.wf) (hq : places17 v.fChart.fPlaces = true) (hw1 : 1 ≤ whoseP v key) (hw2 : whoseP v key < 8) (hy : ys[(whoseP v key - 1).toNat]? = some (S, (s_0, s_1, s_2, s_3, s_4, s_5))) : FnV Pg 118 [.agg (cScene v v_0 v_1 v_2 v_3 v_4).toArray, .string key] [⟨v_0, v.fChart.fPlaces⟩, rawA sState v_2 ys, ⟨s_0, S.fAccounts⟩, ⟨s_1, S.fMarks⟩, ⟨s_2, S.fWaits⟩, ⟨s_3, S.fDeals⟩, ⟨s_4, S.fEnds⟩, ⟨s_5, S.fImage⟩] (.agg (cState S s_0 s_1 s_2 s_3 s_4 s_5).toArray) := by
 refine Fnc.proof Tryz.func118 G 21 G G fun X w => ?_
 have hfl := findP_lt (k := key) (places17_pos hq)
 exact qg<|bx G G G fun b2 => al zero_55 G fun b4 => nl<|nx<|sq<|rgT 16 mixed (by kernel_rfl)<|rl 6 [1,1] G G<|rl 3 [1] G G<|cfq ((by have h_ := find17_c v_0 v.fChart.fPlaces key; rwa [find_eq hq] at h_)) ok_39 G (Sc 0 G Sn) G<|ixP 0 G G G slt_22 (by omega) (gE (by omega)) G fun v15 => faP (α := TPlace) (β := Int) 0 (fun x : TPlace => x.fGroup) G G (Fg G) pPlace_0 G fun v16 => ldV 0 G G (Og G) G fun w17 => sbI G G (inI (by show _ ≤ whoseP v key - 1; omega) (by show whoseP v key - 1 ≤ _; omega)) G<|ixP (m := whoseP v key - 1) 3 G G G slt_28 (by omega) hy G fun v19 => ldRaw (s := sState) (ov := S) (hh := ⟨s_0, s_1, s_2, s_3, s_4, s_5⟩) 0 G G (Rg G) G fun w20 => nlT<|oc 5 G fun o_s_0 => oc 6 G fun o_s_1 => oc 7 G fun o_s_2 => oc 8 G fun o_s_3 => oc 9 G fun o_s_4 => oc 10 G fun o_s_5 => stW 0 (us := (cState S s_0 s_1 s_2 s_3 s_4 s_5)) G G G (Rg G) (by simp only [List.all_cons, List.all_nil, Bool.and_true, o_s_0, o_s_1, o_s_2, o_s_3, o_s_4, o_s_5]; rfl) G<|nl<|nx<|rt<|fRG () [_, _] (rC 0 G G G (Rg G)) (by rfl) G Sn
theorem own_c (h_v : v.wf) (h_S : S.wf) (hc : Sc v) (hd : S.fDeals.length ≤ 4) : Fnc Pg 54 [.agg (cScene v v_0 v_1 v_2 v_3 v_4).toArray, .agg (cState S s_0 s_1 s_2 s_3 s_4 s_5).toArray] [] [⟨v_0, v.fChart.fPlaces⟩, ⟨v_1, v.fChart.fMarks⟩, ⟨v_2, v.fStates⟩, ⟨v_3, v.fRights⟩, ⟨v_4, v.fAges⟩, ⟨s_0, S.fAccounts⟩, ⟨s_1, S.fMarks⟩, ⟨s_2, S.fWaits⟩, ⟨s_3, S.fDeals⟩, ⟨s_4, S.fEnds⟩, ⟨s_5, S.fImage⟩] (fun (_ : Unit) _ => True) (fun _ _ => []) (fun _ u => [⟨u, dealL v S.fDeals S.fDeals.length⟩]) := by
 refine Fnc.proof Tryz.func54 G 105 G G fun X w => qg<|bx G G G fun b2 => bx G G G fun b3 => ru 1 G<|nl<|nx<|sa 1 G<|sq<|sa 1 G<|bk<|rwC TCommand 37<|lpE (σ := Nat × Value) [(2, _), (3, _)] _ (fun s C => (6, .int .i64 (s.1 : Int)) :: (5, s.2) :: C) (fun s => [row 37 s.2 (dealL v S.fDeals s.1), bl b3 55 (cState S s_0 s_1 s_2 s_3 s_4 s_5), bl b2 32 (cScene v v_0 v_1 v_2 v_3 v_4), fz X w]) (fun _ Dc => Dc) (fun s => s.1 ≤ S.fDeals.length) (fun s => S.fDeals.length - s.1) (0, _) (Gs G) (Sc 0 G (Sc 1 G (Sc 2 G (Sc 3 G (Sc 4 G (Sc 5 G (Sc 6 G (Sc 7 G (Sc 8 G (Sc 9 G (Sc 10 G Sn))))))))))) (Nat.zero_le _) (Gs G) G (Sc 0 G (Sc 1 G (Sc 2 G (Sc 3 G (Sc 4 G (Sc 5 G (Sc 6 G (Sc 7 G (Sc 8 G (Sc 9 G (Sc 10 G Sn))))))))))) ?_
 rintro ⟨i, rv⟩ hi
 simp only at hi
 show WC _ _ _ [(6, .int .i64 ((i : Int))), (5, _), (2, _), (3, _)] [row 37 rv (dealL v S.fDeals i), bl b3 55 (cState S s_0 s_1 s_2 s_3 s_4 s_5), bl b2 32 (cScene v v_0 v_1 v_2 v_3 v_4), fz X w] _
 refine sq<|qg<|rl 3 [1] G G<|lnP 8 G G Tryz.underlying52 G fun l15 => ru 1 G<|nl<|nx<|cdP G (fun h16 => ?_) (fun h16 => ?_)
 ·
  refine sk<|nx<|sq<|bk<|qg<|rl 3 [1] G G<|ixP 8 G G G slt_52 (by omega) (gE (by omega)) G fun v22 => ldS 0 G G (Rg G) G fun q23 w23 => al zero_126 G fun b7 => stW 0 (us := (cDeal ((S.fDeals.getD i default)))) G G G (Rg G) G G<|nl<|nx<|sq ?_
  obtain ⟨T, hT⟩ : ∃ T, stAt v (whoseP v (S.fDeals.getD i default).fOther) = T := ⟨_, rfl⟩
  have hwo := hc.whose (S.fDeals.getD i default).fOther
  have hl := hc.len
  have hsT : Ss T := hT ▸ (hc.st (whoseP v (S.fDeals.getD i default).fOther - 1).toNat (by omega)).1
  refine rawNC (s := sState) 4 ((whoseP v (S.fDeals.getD i default).fOther) - 1).toNat G (by omega) ?_
  rw [show v.fStates.getD ((whoseP v (S.fDeals.getD i default).fOther) - 1).toNat default = T from hT]
  rintro ys ⟨t_0, t_1, t_2, t_3, t_4, t_5⟩ hy_t h_T
  refine rg<|ldM 3 (cScene v v_0 v_1 v_2 v_3 v_4) G G (Rg G) G G<|rl 2 [0] G G<|cfv (whose_r v v_0 v_1 v_2 v_3 v_4 (S.fDeals.getD i default).fOther T t_0 t_1 t_2 t_3 t_4 t_5 ys h_v hc.places hwo.1 hwo.2 hy_t) ok_118 G (Si [9,0,1,2,3,4,5,6] G) G<|al zero_55 G fun b8 => oc 1 G fun o_t_0 => oc 2 G fun o_t_1 => oc 3 G fun o_t_2 => oc 4 G fun o_t_3 => oc 5 G fun o_t_4 => oc 6 G fun o_t_5 => stW 0 (us := (cState T t_0 t_1 t_2 t_3 t_4 t_5)) G G G (Rg G) (by simp only [List.all_cons, List.all_nil, Bool.and_true, o_t_0, o_t_1, o_t_2, o_t_3, o_t_4, o_t_5]; rfl) G<|nl<|nx<|qg<|rl 4 [1,1] G G<|bd (ps := [(1, .tmp 29), (2, .tmp 31)]) (cs := (cCommand ((⟨0, (S.fDeals.getD i default).fClient, (S.fDeals.getD i default).fSeq, 0, 0, 0, ByteArray.empty, 0, 0, 0, false, oZ, pZ, []⟩ : TCommand)) nS)) (by rfl) (by kernel_rfl) G<|al zero_37 G fun b9 => stW 0 (us := (cCommand ((⟨0, (S.fDeals.getD i default).fClient, (S.fDeals.getD i default).fSeq, 0, 0, 0, ByteArray.empty, 0, 0, 0, false, oZ, pZ, []⟩ : TCommand)) nS)) G G G (Rg G) G G<|nl<|nx<|sq<|rgQ mixed (by kernel_rfl)<|rl 6 [1,2,2] G G<|cfq (past18_c _ _ _ _ w23.1 w23.2.1) ok_119 G (Sc 5 G Sn) G<|ldM 1 (cState T t_0 t_1 t_2 t_3 t_4 t_5) G G (Rg G) G G<|rl 6 [2,2,2] G G<|cfq (locked22_c _ _ _ _ _ _ _ _ _ _ h_T w23.1 w23.2.1) ok_120 G (Si [1,2,3,4,5,6] G) G<|ru 2 G<|nlQ<|nx<|sq<|jnC (σ := Unit) [(2, _), (3, _), (5, _), (6, _), (9, _)] _ (fun _ C => C) (fun _ => [bl b9 37 (cCommand (ownC v (S.fDeals.getD i default) T) nS), row 37 rv (dealL v S.fDeals i), bl b3 55 (cState S s_0 s_1 s_2 s_3 s_4 s_5), bl b2 32 (cScene v v_0 v_1 v_2 v_3 v_4), fz X w]) (fun _ => True) (Gs G) (Sc 1 G (Sc 2 G (Sc 3 G (Sc 4 G (Sc 5 G (Sc 6 G (Sc 9 G (Sc 10 G (Sc 11 G (Sc 12 G (Sc 13 G (Sc 14 G (Sc 15 G (Sc 16 G (Sc 17 G (Sc 18 G (Sc 19 G Sn))))))))))))))))) ?_ ?_
  ·
   refine bk<|sb 4 [2] G G<|cdN G (fun h48 => ?_) (fun h48 => ?_)
   ·
    have q48 : (S.fDeals.getD i default).fFate ≠ 0 := by simpa using h48
    refine qg<|ldM 1 (cState T t_0 t_1 t_2 t_3 t_4 t_5) G G (Rg G) G G<|rl 2 [2] G G<|cfv (owns19_c _ _ _ _ _ _ _ _ h_T) ok_81 G (Si [1,2,3,4,5,6] G) G<|mv G G<|ja 56 2 [] [2,3,5,6,7,8,9,11] G G G<|mv G G<|ja 59 3 [] [2,3,5,6,7,8,9] G G G<|mv G G ?_
    refine jy 63 10 [2,3,5,6,9] G G (fun h63 K73 => by
     exact gY G G G<|ldM 1 (cState T t_0 t_1 t_2 t_3 t_4 t_5) G G (Rg G) G G<|rl 6 [2,2,2] G G<|gY G G G<|cfv (waiting22_c _ _ _ _ _ _ _ _ _ _ h_T w23.1 w23.2.1) ok_121 G (Si [1,2,3,4,5,6] G) G<|ru 2 G<|K73 G Sr) ?_
    refine nl<|nx<|cdB G (fun h73 => ?_) (fun h73 => ?_)
    ·
     refine rg<|ru 1 G<|stB 0 G G G (Og G) G (nlt G)<|nl<|bN<|mtQ 1 G<|dpQ<|mtQ 1 G<|dpQ ?_
     have hC : ownC v (S.fDeals.getD i default) T = cmdK 7 (S.fDeals.getD i default).fClient (S.fDeals.getD i default).fSeq := ownC_1 q48 h73
     exact jx () trivial (Gs G) (by rw [hC]; rfl) (Si [1,2,3,4,5,6,9,10,11,12,13,14,15,16,17,18,19] G)
    ·
     refine sk<|bN<|mtQ 1 G<|dpQ<|mtQ 1 G<|dpQ ?_
     have hC : ownC v (S.fDeals.getD i default) T = cmdK 0 (S.fDeals.getD i default).fClient (S.fDeals.getD i default).fSeq := ownC_2 q48 h73
     exact jx () trivial (Gs G) (by rw [hC]; rfl) (Si [1,2,3,4,5,6,9,10,11,12,13,14,15,16,17,18,19] G)
   ·
    have q48 : ¬ (S.fDeals.getD i default).fFate ≠ 0 := by simpa using h48
    refine qg<|ldM 5 (cScene v v_0 v_1 v_2 v_3 v_4) G G (Rg G) G G<|rl 4 [2,2] G G<|cfv (rage_c _ _ _ _ _ _ _ _ h_v w23.1 w23.2.1) ok_56 G (Si [9,10,11,12,13] G) G<|ru 2 G<|nl<|nx<|cdP G (fun h75 => ?_) (fun h75 => ?_)
    ·
     refine rg<|ru 1 G<|stB 0 G G G (Og G) G (nlt G)<|nl<|bN<|mtQ 1 G<|dpQ<|mtQ 1 G<|dpQ ?_
     have hC : ownC v (S.fDeals.getD i default) T = cmdK 3 (S.fDeals.getD i default).fClient (S.fDeals.getD i default).fSeq := ownC_3 q48 h75
     exact jx () trivial (Gs G) (by rw [hC]; rfl) (Si [1,2,3,4,5,6,9,10,11,12,13,14,15,16,17,18,19] G)
    ·
     refine qg<|rl 4 [2] G G ?_
     refine jy 88 5 [2,3,5,6,9,11] G G (fun h88 K93 => by
      have p88 := of_decide_eq_true h88
      exact ru 2 G<|jb 90 2 [] [2,3,5,6,9,11,88] G G G<|ru 1 G<|K93 G Sr) ?_
     refine ru 1 G<|nl<|nx<|cdB G (fun h84 => ?_) (fun h84 => ?_)
     ·
      refine rg<|ru 2 G<|stB 0 G G G (Og G) G (nlt G)<|ru 1 G<|stB 0 G G G (Og G) G (nlt G)<|nl<|bN<|mtQ 1 G<|dpQ<|mtQ 1 G<|dpQ ?_
      have hC : ownC v (S.fDeals.getD i default) T = { cmdK 5 (S.fDeals.getD i default).fClient (S.fDeals.getD i default).fSeq with fYes := lockedS T (S.fDeals.getD i default).fOther (S.fDeals.getD i default).fClient (S.fDeals.getD i default).fSeq } := ownC_4 q48 h75 h84
      exact jx () trivial (Gs G) (by rw [hC]; rfl) (Si [1,2,3,4,5,6,9,10,11,12,13,14,15,16,17,18,19] G)
     ·
      refine sk<|bN<|mtQ 1 G<|dpQ<|mtQ 1 G<|dpQ ?_
      have hC : ownC v (S.fDeals.getD i default) T = cmdK 0 (S.fDeals.getD i default).fClient (S.fDeals.getD i default).fSeq := ownC_5 q48 h75 h84
      exact jx () trivial (Gs G) (by rw [hC]; rfl) (Si [1,2,3,4,5,6,9,10,11,12,13,14,15,16,17,18,19] G)
  ·
   rintro _ _
   show WQ _ _ _ [(2, _), (3, _), (5, _), (6, _), (9, _)] [bl b9 37 (cCommand (ownC v (S.fDeals.getD i default) T) nS), row 37 rv (dealL v S.fDeals i), bl b3 55 (cState S s_0 s_1 s_2 s_3 s_4 s_5), bl b2 32 (cScene v v_0 v_1 v_2 v_3 v_4), fz X w] _
   refine nx<|sb 3 [0] G G<|cdN G (fun h99 => ?_) (fun h99 => ?_)
   ·
    refine rg<|mv G G<|ldM 0 (cCommand ((ownC v (S.fDeals.getD i default) T)) nS) G G (Rg G) G G<|bsM G app_45 G G G G fun b102 => ?_
    refine frS1 (α := TCommand) (ownC v (S.fDeals.getD i default) T) (fun S w h => ⟨nS, G, fun t ht => by
      simp only [List.mem_cons, List.not_mem_nil, or_false] at ht
      subst ht
      ·
       rw [ownC_img]; exact nil_list S w, (ownC_wf w23)⟩) ?_
    refine ap 1 0 G G G G app_45 (by have := dealL_len v S.fDeals i; simp only [List.length_cons, List.length_nil]; omega) (by have := dealL_len v S.fDeals i; simp only [List.length_cons, List.length_nil]; omega) G fun v103 => ru 1 G<|nl<|bN<|nx<|rg<|mv G G<|adI G G (inI (by omega) (by omega)) G<|ru 1 G<|nl<|dpQ ?_
    rw [show (dealL v S.fDeals i) ++ [(ownC v (S.fDeals.getD i default) T)] = dealL v S.fDeals (i + 1) from by rw [dealL, dealF_eq hT hsT, if_pos h99]]
    exact ag ((i + 1, v103) : Nat × Value) (by show i + 1 ≤ S.fDeals.length; omega) (by show S.fDeals.length - (i + 1) < S.fDeals.length - i; omega) (Gs G) G (Si [7,8,9,10,11,12,13,14,15,16,17] G)
   ·
    refine sk<|bN<|nx<|rg<|mv G G<|adI G G (inI (by omega) (by omega)) G<|ru 1 G<|nl<|dpQ ?_
    rw [show (dealL v S.fDeals i) = dealL v S.fDeals (i + 1) from by rw [dealL, dealF_eq hT hsT, if_neg (not_not_intro h99), List.append_nil]]
    exact ag ((i + 1, rv) : Nat × Value) (by show i + 1 ≤ S.fDeals.length; omega) (by show S.fDeals.length - (i + 1) < S.fDeals.length - i; omega) (Gs G) G (Si [6,7,8,9,10,11,12,13,14,15,16] G)
 ·
  obtain rfl : i = S.fDeals.length := by omega
  exact ex<|tE<|tE<|bE<|nx<|sa 2 G<|rt<|frRQ<|dpQ<|dpQ<|fR1 () G G trivial G (Sc 0 G Sn)
theorem others_c (h_v : v.wf) (h_S : S.wf) (hc : Sc v) (hS : Ss S) : Fnc Pg 55 [.agg (cScene v v_0 v_1 v_2 v_3 v_4).toArray, .agg (cState S s_0 s_1 s_2 s_3 s_4 s_5).toArray] [] [⟨v_0, v.fChart.fPlaces⟩, ⟨v_1, v.fChart.fMarks⟩, ⟨v_2, v.fStates⟩, ⟨v_3, v.fRights⟩, ⟨v_4, v.fAges⟩, ⟨s_0, S.fAccounts⟩, ⟨s_1, S.fMarks⟩, ⟨s_2, S.fWaits⟩, ⟨s_3, S.fDeals⟩, ⟨s_4, S.fEnds⟩, ⟨s_5, S.fImage⟩] (fun (_ : Unit) _ => True) (fun _ _ => []) (fun _ u => [⟨u, sidesL v S v.fStates v.fStates.length⟩]) := by
 refine Fnc.proof Tryz.func55 G 133 G G fun X w => ?_
 have hlen := hc.len
 refine qg<|bx G G G fun b2 => bx G G G fun b3 => ru 1 G<|nl<|nx<|sa 1 G<|sq<|sa 1 G<|bk<|rwC TCommand 37<|lpE (σ := Nat × Value) [(2, _), (3, _)] _ (fun s C => (6, .int .i64 (s.1 : Int)) :: (5, s.2) :: C) (fun s => [row 37 s.2 (sidesL v S v.fStates s.1), bl b3 55 (cState S s_0 s_1 s_2 s_3 s_4 s_5), bl b2 32 (cScene v v_0 v_1 v_2 v_3 v_4), fz X w]) (fun _ Dc => Dc) (fun s => s.1 ≤ v.fStates.length) (fun s => v.fStates.length - s.1) (0, _) (Gs G) (Sc 0 G (Sc 1 G (Sc 2 G (Sc 3 G (Sc 4 G (Sc 5 G (Sc 6 G (Sc 7 G (Sc 8 G (Sc 9 G (Sc 10 G Sn))))))))))) (Nat.zero_le _) (Gs G) G (Sc 0 G (Sc 1 G (Sc 2 G (Sc 3 G (Sc 4 G (Sc 5 G (Sc 6 G (Sc 7 G (Sc 8 G (Sc 9 G (Sc 10 G Sn))))))))))) ?_
 rintro ⟨i, ry⟩ hi
 simp only at hi
 show WC _ _ _ [(6, .int .i64 ((i : Int))), (5, _), (2, _), (3, _)] [row 37 ry (sidesL v S v.fStates i), bl b3 55 (cState S s_0 s_1 s_2 s_3 s_4 s_5), bl b2 32 (cScene v v_0 v_1 v_2 v_3 v_4), fz X w] _
 refine sq<|qg<|rl 3 [2] G G<|lnP 2 G G Tryz.underlying28 G fun l15 => ru 1 G<|nl<|nx<|cdP G (fun h16 => ?_) (fun h16 => ?_)
 ·
  have hgi : (v.fStates.getD i default).fGroup = ((i : Int) + 1) := (hc.st i (by omega)).2
  refine sk<|nx<|sq<|bk<|sa 1 G<|bk ?_
  rw [show row 37 ry (sidesL v S v.fStates i) = row 37 ry (sidesL v S v.fStates i ++ sideL v S (v.fStates.getD i default).fGroup (v.fStates.getD i default).fDeals 0) from by rw [show (sidesL v S v.fStates i ++ sideL v S (v.fStates.getD i default).fGroup (v.fStates.getD i default).fDeals 0) = (sidesL v S v.fStates i) ++ [] from rfl, List.append_nil]]
  refine lpE (σ := Nat × Value) [(2, _), (3, _), (6, _)] _ (fun s C => (7, .int .i64 (s.1 : Int)) :: (5, s.2) :: C) (fun s => [row 37 s.2 (sidesL v S v.fStates i ++ sideL v S (v.fStates.getD i default).fGroup (v.fStates.getD i default).fDeals s.1), bl b3 55 (cState S s_0 s_1 s_2 s_3 s_4 s_5), bl b2 32 (cScene v v_0 v_1 v_2 v_3 v_4), fz X w]) (fun _ Dc => Dc) (fun s => s.1 ≤ (v.fStates.getD i default).fDeals.length) (fun s => (v.fStates.getD i default).fDeals.length - s.1) (0, _) (Gs G) (Sc 0 G (Sc 1 G (Sc 2 G (Sc 3 G (Sc 4 G (Sc 5 G (Sc 6 G (Sc 7 G (Sc 8 G (Sc 9 G (Sc 10 G Sn))))))))))) (Nat.zero_le _) (Gs G) G (Sc 0 G (Sc 1 G (Sc 2 G (Sc 3 G (Sc 4 G (Sc 5 G (Sc 6 G (Sc 7 G (Sc 8 G (Sc 9 G (Sc 10 G Sn))))))))))) ?_
  rintro ⟨k, rv⟩ hk
  simp only at hk
  show WC _ _ _ [(7, .int .i64 ((k : Int))), (5, _), (2, _), (3, _), (6, _)] [row 37 rv (sidesL v S v.fStates i ++ sideL v S (v.fStates.getD i default).fGroup (v.fStates.getD i default).fDeals k), bl b3 55 (cState S s_0 s_1 s_2 s_3 s_4 s_5), bl b2 32 (cScene v v_0 v_1 v_2 v_3 v_4), fz X w] _
  refine sq<|qg<|rl 4 [2] G G<|ixP 2 G G G slt_28 (by omega) (gE (by omega)) G fun v23 => faP (α := TState) (β := List TDeal) 0 (fun x : TState => x.fDeals) G G (Fg G) pState_9 G fun v24 => ldL 0 G G (Og G) G fun v25 => lnP 0 G G Tryz.underlying52 G fun l26 => ru 1 G<|nl<|nx<|cdP G (fun h27 => ?_) (fun h27 => ?_)
  ·
   have hkl : k < (v.fStates.getD i default).fDeals.length := by
    have q : (k : Int) < ((v.fStates.getD i default).fDeals.length : Int) := h27
    omega
   refine sk<|nx<|sq<|bk<|qg<|rl 3 [2] G G<|ixP 5 G G G slt_28 (by omega) (gE (by omega)) G fun v33 => faP (α := TState) (β := List TDeal) 0 (fun x : TState => x.fDeals) G G (Fg G) pState_9 G fun v34 => ldL 0 G G (Og G) G fun v35 => mv G G<|ixP 0 G G G slt_52 (by omega) (gE (by omega)) G fun v37 => ldS 0 G G (Rg G) G fun q38 w38 => ?_
   refine al zero_126 G fun b8 => stW 0 (us := (cDeal (((v.fStates.getD i default).fDeals.getD k default)))) G G G (Rg G) G G<|nl<|nx<|sq<|sq ?_
   obtain ⟨T, hT⟩ : ∃ T, stAt v (whoseP v ((v.fStates.getD i default).fDeals.getD k default).fOther) = T := ⟨_, rfl⟩
   have hwk := hc.whose ((v.fStates.getD i default).fDeals.getD k default).fOther
   have hl := hc.len
   have hsT : Ss T := hT ▸ (hc.st (whoseP v ((v.fStates.getD i default).fDeals.getD k default).fOther - 1).toNat (by omega)).1
   refine rawNC (s := sState) 10 ((whoseP v ((v.fStates.getD i default).fDeals.getD k default).fOther) - 1).toNat G (by omega) ?_
   rw [show v.fStates.getD ((whoseP v ((v.fStates.getD i default).fDeals.getD k default).fOther) - 1).toNat default = T from hT]
   rintro ys ⟨t_0, t_1, t_2, t_3, t_4, t_5⟩ hy_t h_T
   have hTg : T.fGroup = whoseP v ((v.fStates.getD i default).fDeals.getD k default).fOther := by
    have := (hc.st (whoseP v ((v.fStates.getD i default).fDeals.getD k default).fOther - 1).toNat (by omega)).2
    rw [show v.fStates.getD (whoseP v ((v.fStates.getD i default).fDeals.getD k default).fOther - 1).toNat default = T from hT] at this
    omega
   refine rgQ mixed (by kernel_rfl)<|ldM 3 (cScene v v_0 v_1 v_2 v_3 v_4) G G (Rg G) G G<|rl 2 [0] G G<|cfq (whose_r v v_0 v_1 v_2 v_3 v_4 ((v.fStates.getD i default).fDeals.getD k default).fOther T t_0 t_1 t_2 t_3 t_4 t_5 ys h_v hc.places hwk.1 hwk.2 hy_t) ok_118 G (Si [15,0,1,2,3,4,5,6] G) G<|fd G fdv_55_0 G G<|rl 3 [2] G G<|nlQ<|nx<|cdN G (fun h46 => ?_) (fun h46 => ?_)
   ·
    have hne : ¬ whoseP v ((v.fStates.getD i default).fDeals.getD k default).fOther = S.fGroup := hTg ▸ h46
    refine ex<|tE<|bE<|nx<|rg<|mv G G<|adI G G (inI (by omega) (by omega)) G<|ru 1 G<|nl<|dpQ ?_
    have hX : (sidesL v S v.fStates i ++ sideL v S (v.fStates.getD i default).fGroup (v.fStates.getD i default).fDeals (k + 1)) = (sidesL v S v.fStates i ++ sideL v S (v.fStates.getD i default).fGroup (v.fStates.getD i default).fDeals k) := by rw [sideL, sideF, if_neg hne, List.append_nil]
    exact ag ((k + 1, rv) : Nat × Value) (by show k + 1 ≤ (v.fStates.getD i default).fDeals.length; omega) (by show (v.fStates.getD i default).fDeals.length - (k + 1) < (v.fStates.getD i default).fDeals.length - k; omega) (Gs G) (congrArg (fun x_ => [row 37 rv x_, bl b3 55 (cState S s_0 s_1 s_2 s_3 s_4 s_5), bl b2 32 (cScene v v_0 v_1 v_2 v_3 v_4), fz X w]) hX) (Si [15,16,17,18,19,20,21,22,23,24,25] G)
   ·
    have hwg : whoseP v ((v.fStates.getD i default).fDeals.getD k default).fOther = S.fGroup := hTg ▸ h46
    refine sk<|nx<|sq<|rgQ mixed (by kernel_rfl)<|rl 6 [2,0,0] G G<|cfq (past18_c _ _ _ _ w38.1 w38.2.1) ok_119 G (Sc 24 G Sn) G<|ldM 2 (cState S s_0 s_1 s_2 s_3 s_4 s_5) G G (Rg G) G G<|rl 2 [0] G G<|rl 4 [0,0] G G<|cfq (locked22_c _ _ _ _ _ _ _ _ _ _ h_S w38.1 w38.2.1) ok_120 G (Si [20,21,22,23,24,25] G) G<|ldM 2 (cState S s_0 s_1 s_2 s_3 s_4 s_5) G G (Rg G) G G<|rl 6 [0,0,0] G G<|cfq (waiting22_c _ _ _ _ _ _ _ _ _ _ h_S w38.1 w38.2.1) ok_121 G (Si [20,21,22,23,24,25] G) G<|ru 1 G<|ru 2 G<|nlQ<|nx<|sq<|qg<|rl 4 [0] G G<|ja 73 4 [0] [2,3,5,6,7,8,9,10,11] G G G<|mv G G<|ja 78 3 [] [2,3,5,6,7,8,9,10,11] G G G<|mv G G<|ja 82 3 [] [2,3,5,6,7,8,9,10,11] G G G<|mv G G<|ja 86 3 [] [2,3,5,6,7,8,9,10,11] G G G<|nl<|nx<|jnC (σ := Value) [(2, _), (3, _), (6, _), (7, _), (8, _), (9, _), (10, _), (11, _)] _ (fun s C => (5, s) :: C) (fun s => [bl b8 126 (cDeal ((v.fStates.getD i default).fDeals.getD k default)), row 37 s (sidesL v S v.fStates i ++ sideL v S (v.fStates.getD i default).fGroup (v.fStates.getD i default).fDeals k ++ sideA S ((i : Int) + 1) ((v.fStates.getD i default).fDeals.getD k default)), bl b3 55 (cState S s_0 s_1 s_2 s_3 s_4 s_5), bl b2 32 (cScene v v_0 v_1 v_2 v_3 v_4), fz X w]) (fun s => True) (Gs G) (Sc 15 G (Sc 16 G (Sc 17 G (Sc 18 G (Sc 19 G (Sc 20 G (Sc 21 G (Sc 22 G (Sc 23 G (Sc 24 G (Sc 25 G Sn))))))))))) ?_ ?_
    ·
     refine cdB G (fun h89 => ?_) (fun h89 => ?_)
     ·
      refine rg<|rl 6 [0,0] G G<|adI G G (inI (by omega) (by omega)) G<|rl 6 [0,0,2] G G<|bd (ps := [(0, .const (.int .i64 4)), (1, .tmp 92), (2, .tmp 94), (5, .tmp 96), (6, .tmp 98), (9, .tmp 100), (3, .tmp 102)]) (cs := (cCommand ((⟨4, ((v.fStates.getD i default).fDeals.getD k default).fClient, ((v.fStates.getD i default).fDeals.getD k default).fSeq, S.fEpoch, 0, ((i : Int) + 1), ((v.fStates.getD i default).fDeals.getD k default).fOther, 0, 0, ((v.fStates.getD i default).fDeals.getD k default).fN, false, oZ, pZ, []⟩ : TCommand)) nS)) (by rfl) (by kernel_rfl) G<|bsM G app_45 G G G G fun b104 => ?_
      refine frS1 (α := TCommand) ({ cmdK 4 ((v.fStates.getD i default).fDeals.getD k default).fClient ((v.fStates.getD i default).fDeals.getD k default).fSeq with fKey := ((v.fStates.getD i default).fDeals.getD k default).fOther, fHome := ((i : Int) + 1), fNet := ((v.fStates.getD i default).fDeals.getD k default).fN, fEpoch := S.fEpoch } : TCommand) (fun S w h => ⟨nS, G, fun t ht => by
        simp only [List.mem_cons, List.not_mem_nil, or_false] at ht
        subst ht
        exact nil_list S w, ⟨show InI 4 from ⟨by decide, by decide⟩, w38.1, w38.2.1, h_S.2.2.2.2.2.1, I0, (show InI ((i : Int) + 1) from ⟨by omega, by omega⟩), w38.2.2.2.1, I0, I0, w38.2.2.2.2.1, trivial, ⟨I0, Eb0, Eb0, I0, I0, I0⟩, ⟨I0, I0, I0, Eb0, Eb0, I0, I0⟩, trivial⟩⟩) ?_
      refine ap 1 0 G G G G app_45 (by have := sidesL_len v S v.fStates hc.deals i; have := sideL_len v S (v.fStates.getD i default).fGroup (v.fStates.getD i default).fDeals k; have := hc.deals i; simp only [List.length_append, List.length_cons, List.length_nil]; omega) (by have := sidesL_len v S v.fStates hc.deals i; have := sideL_len v S (v.fStates.getD i default).fGroup (v.fStates.getD i default).fDeals k; have := hc.deals i; simp only [List.length_append, List.length_cons, List.length_nil]; omega) G fun v105 => ru 1 G<|nl ?_
      have hX : (sidesL v S v.fStates i ++ sideL v S (v.fStates.getD i default).fGroup (v.fStates.getD i default).fDeals k ++ sideA S ((i : Int) + 1) ((v.fStates.getD i default).fDeals.getD k default)) = (sidesL v S v.fStates i ++ sideL v S (v.fStates.getD i default).fGroup (v.fStates.getD i default).fDeals k) ++ [{ cmdK 4 ((v.fStates.getD i default).fDeals.getD k default).fClient ((v.fStates.getD i default).fDeals.getD k default).fSeq with fKey := ((v.fStates.getD i default).fDeals.getD k default).fOther, fHome := ((i : Int) + 1), fNet := ((v.fStates.getD i default).fDeals.getD k default).fN, fEpoch := S.fEpoch }] := congrArg _ (sideA_T h89)
      exact jx v105 trivial (Gs G) (congrArg (fun x_ => [bl b8 126 (cDeal ((v.fStates.getD i default).fDeals.getD k default)), row 37 v105 x_, bl b3 55 (cState S s_0 s_1 s_2 s_3 s_4 s_5), bl b2 32 (cScene v v_0 v_1 v_2 v_3 v_4), fz X w]) hX) (Si [16,17,18,19,20,21,22,23,24,25,26] G)
     ·
      refine sk ?_
      have hX : (sidesL v S v.fStates i ++ sideL v S (v.fStates.getD i default).fGroup (v.fStates.getD i default).fDeals k ++ sideA S ((i : Int) + 1) ((v.fStates.getD i default).fDeals.getD k default)) = (sidesL v S v.fStates i ++ sideL v S (v.fStates.getD i default).fGroup (v.fStates.getD i default).fDeals k) := (congrArg _ (sideA_F h89)).trans (List.append_nil _)
      exact jx rv trivial (Gs G) (congrArg (fun x_ => [bl b8 126 (cDeal ((v.fStates.getD i default).fDeals.getD k default)), row 37 rv x_, bl b3 55 (cState S s_0 s_1 s_2 s_3 s_4 s_5), bl b2 32 (cScene v v_0 v_1 v_2 v_3 v_4), fz X w]) hX) (Si [15,16,17,18,19,20,21,22,23,24,25] G)
    ·
     rintro r1 _
     show WQ _ _ _ [(5, _), (2, _), (3, _), (6, _), (7, _), (8, _), (9, _), (10, _), (11, _)] [bl b8 126 (cDeal ((v.fStates.getD i default).fDeals.getD k default)), row 37 r1 (sidesL v S v.fStates i ++ sideL v S (v.fStates.getD i default).fGroup (v.fStates.getD i default).fDeals k ++ sideA S ((i : Int) + 1) ((v.fStates.getD i default).fDeals.getD k default)), bl b3 55 (cState S s_0 s_1 s_2 s_3 s_4 s_5), bl b2 32 (cScene v v_0 v_1 v_2 v_3 v_4), fz X w] _
     refine nx<|qg<|rl 4 [0] G G ?_
     refine jy 109 9 [2,3,5,6,7,8] G G (fun h109 K118 => by
      have p109 := h109
      simp only [Bool.not_eq_true', decide_eq_false_iff_not] at p109
      exact ru 2 G<|jb 111 2 [] [2,3,5,6,7,8,9,109] G G G<|ru 1 G<|jb 114 3 [] [2,3,5,6,7,8,109] G G G<|ru 1 G<|K118 G Sr) ?_
     refine nl<|nx<|cdB G (fun h118 => ?_) (fun h118 => ?_)
     ·
      refine rg<|rl 10 [0,0,0,0] G G<|bd (ps := [(0, .const (.int .i64 6)), (1, .tmp 121), (2, .tmp 123), (6, .tmp 125), (10, .tmp 128)]) (cs := (cCommand ((⟨6, ((v.fStates.getD i default).fDeals.getD k default).fClient, ((v.fStates.getD i default).fDeals.getD k default).fSeq, 0, 0, 0, ((v.fStates.getD i default).fDeals.getD k default).fOther, 0, 0, 0, (decide (((v.fStates.getD i default).fDeals.getD k default).fFate = 1)), oZ, pZ, []⟩ : TCommand)) nS)) (by rfl) (by kernel_rfl) G<|bsM G app_45 G G G G fun b130 => ?_
      refine frS1 (α := TCommand) ({ cmdK 6 ((v.fStates.getD i default).fDeals.getD k default).fClient ((v.fStates.getD i default).fDeals.getD k default).fSeq with fKey := ((v.fStates.getD i default).fDeals.getD k default).fOther, fYes := decide (((v.fStates.getD i default).fDeals.getD k default).fFate = 1) } : TCommand) (fun S w h => ⟨nS, G, fun t ht => by
        simp only [List.mem_cons, List.not_mem_nil, or_false] at ht
        subst ht
        exact nil_list S w, ⟨show InI 6 from ⟨by decide, by decide⟩, w38.1, w38.2.1, I0, I0, I0, w38.2.2.2.1, I0, I0, I0, trivial, ⟨I0, Eb0, Eb0, I0, I0, I0⟩, ⟨I0, I0, I0, Eb0, Eb0, I0, I0⟩, trivial⟩⟩) ?_
      refine ap 1 0 G G G G app_45 (by have := sidesL_len v S v.fStates hc.deals i; have := sideL_len v S (v.fStates.getD i default).fGroup (v.fStates.getD i default).fDeals k; have := sideA_len S ((i : Int) + 1) ((v.fStates.getD i default).fDeals.getD k default); have := hc.deals i; simp only [List.length_append, List.length_cons, List.length_nil]; omega) (by have := sidesL_len v S v.fStates hc.deals i; have := sideL_len v S (v.fStates.getD i default).fGroup (v.fStates.getD i default).fDeals k; have := sideA_len S ((i : Int) + 1) ((v.fStates.getD i default).fDeals.getD k default); have := hc.deals i; simp only [List.length_append, List.length_cons, List.length_nil]; omega) G fun v131 => ru 1 G<|nl<|bN<|nx<|rg<|mv G G<|adI G G (inI (by omega) (by omega)) G<|ru 1 G<|nl<|dpQ ?_
      have hX : (sidesL v S v.fStates i ++ sideL v S (v.fStates.getD i default).fGroup (v.fStates.getD i default).fDeals (k + 1)) = (sidesL v S v.fStates i ++ sideL v S (v.fStates.getD i default).fGroup (v.fStates.getD i default).fDeals k ++ sideA S ((i : Int) + 1) ((v.fStates.getD i default).fDeals.getD k default)) ++ [{ cmdK 6 ((v.fStates.getD i default).fDeals.getD k default).fClient ((v.fStates.getD i default).fDeals.getD k default).fSeq with fKey := ((v.fStates.getD i default).fDeals.getD k default).fOther, fYes := decide (((v.fStates.getD i default).fDeals.getD k default).fFate = 1) }] := sideK hS hwg hgi (sideE_T h118)
      exact ag ((k + 1, v131) : Nat × Value) (by show k + 1 ≤ (v.fStates.getD i default).fDeals.length; omega) (by show (v.fStates.getD i default).fDeals.length - (k + 1) < (v.fStates.getD i default).fDeals.length - k; omega) (Gs G) (congrArg (fun x_ => [row 37 v131 x_, bl b3 55 (cState S s_0 s_1 s_2 s_3 s_4 s_5), bl b2 32 (cScene v v_0 v_1 v_2 v_3 v_4), fz X w]) hX) (Si [1,2,3,4,5,6,7,8,9,10,11] G)
     ·
      refine sk<|bN<|nx<|rg<|mv G G<|adI G G (inI (by omega) (by omega)) G<|ru 1 G<|nl<|dpQ ?_
      have hX : (sidesL v S v.fStates i ++ sideL v S (v.fStates.getD i default).fGroup (v.fStates.getD i default).fDeals (k + 1)) = (sidesL v S v.fStates i ++ sideL v S (v.fStates.getD i default).fGroup (v.fStates.getD i default).fDeals k ++ sideA S ((i : Int) + 1) ((v.fStates.getD i default).fDeals.getD k default)) := (sideK hS hwg hgi (sideE_F h118)).trans (List.append_nil _)
      exact ag ((k + 1, r1) : Nat × Value) (by show k + 1 ≤ (v.fStates.getD i default).fDeals.length; omega) (by show (v.fStates.getD i default).fDeals.length - (k + 1) < (v.fStates.getD i default).fDeals.length - k; omega) (Gs G) (congrArg (fun x_ => [row 37 r1 x_, bl b3 55 (cState S s_0 s_1 s_2 s_3 s_4 s_5), bl b2 32 (cScene v v_0 v_1 v_2 v_3 v_4), fz X w]) hX) (Si [0,1,2,3,4,5,6,7,8,9,10] G)
  ·
   obtain rfl : k = (v.fStates.getD i default).fDeals.length := by
    have q : ¬ (k : Int) < ((v.fStates.getD i default).fDeals.length : Int) := h27
    omega
   refine ex<|tE<|tE<|bE<|bN<|nx<|rg<|mv G G<|adI G G (inI (by omega) (by omega)) G<|ru 1 G<|nl ?_
   have hX : (sidesL v S v.fStates (i + 1)) = (sidesL v S v.fStates i ++ sideL v S (v.fStates.getD i default).fGroup (v.fStates.getD i default).fDeals (v.fStates.getD i default).fDeals.length) := by rw [sidesL]
   exact ag ((i + 1, rv) : Nat × Value) (by show i + 1 ≤ v.fStates.length; omega) (by show v.fStates.length - (i + 1) < v.fStates.length - i; omega) (Gs G) (congrArg (fun x_ => [row 37 rv x_, bl b3 55 (cState S s_0 s_1 s_2 s_3 s_4 s_5), bl b2 32 (cScene v v_0 v_1 v_2 v_3 v_4), fz X w]) hX) (Si [3,4,5,6,7,8,9,10,11,12,13] G)
 ·
  obtain rfl : i = v.fStates.length := by omega
  exact ex<|tE<|tE<|bE<|nx<|sa 2 G<|rt<|frRQ<|dpQ<|dpQ<|fR1 () G G trivial G (Sc 0 G Sn)
theorem moves22_c (h_v : v.wf) (h_S : S.wf) (hc : Sc v) (hS : Ss S) (hi : ∀ j, (v.fStates.getD j default).fImage.length ≤ 1048576) : Fnc Pg 53 [.agg (cScene v v_0 v_1 v_2 v_3 v_4).toArray, .agg (cState S s_0 s_1 s_2 s_3 s_4 s_5).toArray] [] [⟨v_0, v.fChart.fPlaces⟩, ⟨v_1, v.fChart.fMarks⟩, ⟨v_2, v.fStates⟩, ⟨v_3, v.fRights⟩, ⟨v_4, v.fAges⟩, ⟨s_0, S.fAccounts⟩, ⟨s_1, S.fMarks⟩, ⟨s_2, S.fWaits⟩, ⟨s_3, S.fDeals⟩, ⟨s_4, S.fEnds⟩, ⟨s_5, S.fImage⟩] (fun (_ : Unit) _ => True) (fun _ u => [row 37 u (movesL v S)]) (fun _ _ => []) := by
 refine Fnc.proof Tryz.func53 G 189 G G fun X w => ?_
 have hlen := hc.len
 have hz := hc.z
 have hzs := plan_z hS.sel
 have hzo := plan_z hS.out
 have hec := hc.hec
 have heo := hc.heo S
 have hpl : v.fChart.fPlan.fNumber ≠ 0 → 1 ≤ v.fChart.fPlan.fFrom ∧ v.fChart.fPlan.fFrom < 8 := fun h => by
  have e : ¬ v.fChart.fPlan = zpl := fun e => h (by rw [e]; rfl)
  exact ⟨(hc.plan e).2.1, (hc.plan e).2.2.1⟩
 refine qg<|bx G G G fun b2 => bx G G G fun b3 => ru 1 G<|nl<|nx<|sa 1 G<|qg<|ru 2 G<|ldM 1 (cPlan v.fChart.fPlan) G G (Rg G) G G<|al zero_24 G fun b6 => stW 0 (us := (cPlan v.fChart.fPlan)) G G G (Rg G) G G<|nl<|nx<|sq<|sq<|rwC TCommand 37<|rg<|rl 3 [1] G G<|mv G G<|ja 18 6 [1,2] [2,3,5,6] G G G<|mv G G<|ja 25 7 [2,1] [2,3,5,6] G G G<|mv G G<|ja 33 7 [2,1] [2,3,5,6] G G G<|mv G G<|ja 41 6 [2,1] [2,3,5,6] G G G<|nl<|nx<|jnC (σ := Value) [(2, _), (3, _), (6, _)] _ (fun s C => (5, s) :: C) (fun s => [bl b6 24 (cPlan v.fChart.fPlan), row 37 s (mv1 v S), bl b3 55 (cState S s_0 s_1 s_2 s_3 s_4 s_5), bl b2 32 (cScene v v_0 v_1 v_2 v_3 v_4), fz X w]) (fun s => True) (Gs G) (Sc 0 G (Sc 1 G (Sc 2 G (Sc 3 G (Sc 4 G (Sc 5 G (Sc 6 G (Sc 7 G (Sc 8 G (Sc 9 G (Sc 10 G Sn))))))))))) ?_ ?_
 ·
  refine cdB G (fun h47 => ?_) (fun h47 => ?_)
  ·
   refine rg<|mv G G<|ldM 1 (cPlan v.fChart.fPlan) G G (Rg G) G G<|rl 2 [2] G G<|bd (ps := [(0, .const (.int .i64 8)), (12, .tmp 49), (3, .tmp 51)]) (cs := (cCommand ((⟨8, 0, 0, S.fEpoch, 0, 0, ByteArray.empty, 0, 0, 0, false, oZ, v.fChart.fPlan, []⟩ : TCommand)) nS)) (by rfl) (by kernel_rfl) G<|bsM G app_45 G G G G fun b53 => ?_
   refine frS1 (α := TCommand) ({ zcmd with fKind := 8, fPlan := v.fChart.fPlan, fEpoch := S.fEpoch } : TCommand) (fun S w h => ⟨nS, G, fun t ht => by
     simp only [List.mem_cons, List.not_mem_nil, or_false] at ht
     subst ht
     exact nil_list S w, ⟨show InI 8 from ⟨by decide, by decide⟩, I0, I0, h_S.2.2.2.2.2.1, I0, I0, Eb0, I0, I0, I0, trivial, ⟨I0, Eb0, Eb0, I0, I0, I0⟩, h_v.2.2.1.2.2.2.2.1, trivial⟩⟩) ?_
   refine ap 0 0 G G G G app_45 (by simp) (by simp) G fun v54 => ru 1 G<|nl<|mtQ 3 G<|mtQ 3 G<|mtQ 2 G<|mtQ 3 G ?_
   have hX : mv1 v S = [] ++ [({ zcmd with fKind := 8, fPlan := v.fChart.fPlan, fEpoch := S.fEpoch } : TCommand)] := by rw [mv1, if_pos (show m1 v S = true from by rw [m1, ← hz]; exact h47)]; rfl
   exact jx v54 trivial (Gs G) (congrArg (fun x_ => [bl b6 24 (cPlan v.fChart.fPlan), row 37 v54 x_, bl b3 55 (cState S s_0 s_1 s_2 s_3 s_4 s_5), bl b2 32 (cScene v v_0 v_1 v_2 v_3 v_4), fz X w]) hX) (Si [1,2,3,4,5,6,7,8,9,10,11] G)
  ·
   refine sk<|mtQ 3 G<|mtQ 3 G<|mtQ 2 G<|mtQ 3 G ?_
   have hX : mv1 v S = [] := by rw [mv1, if_neg (show ¬ m1 v S = true from by rw [m1, ← hz, Bool.not_eq_true]; exact h47)]
   exact jx _ trivial (Gs G) (congrArg (fun x_ => [bl b6 24 (cPlan v.fChart.fPlan), row 37 nS x_, bl b3 55 (cState S s_0 s_1 s_2 s_3 s_4 s_5), bl b2 32 (cScene v v_0 v_1 v_2 v_3 v_4), fz X w]) hX) (Si [0,1,2,3,4,5,6,7,8,9,10] G)
 ·
  rintro r1 _
  show WQ _ _ _ [(5, _), (2, _), (3, _), (6, _)] [bl b6 24 (cPlan v.fChart.fPlan), row 37 r1 (mv1 v S), bl b3 55 (cState S s_0 s_1 s_2 s_3 s_4 s_5), bl b2 32 (cScene v v_0 v_1 v_2 v_3 v_4), fz X w] _
  refine nx<|sq<|qg<|rl 5 [2] G G ?_
  refine jy 59 4 [2,3,5,6] G G (fun h59 K63 => by
   have p59 := h59
   simp only [Bool.not_eq_true', decide_eq_false_iff_not] at p59
   exact gY G G G<|ldM 3 (cScene v v_0 v_1 v_2 v_3 v_4) G G (Rg G) G G<|gY G G G<|cfv (rage_c _ _ _ _ _ _ _ _ h_v (inI (by omega) (by omega)) (inI (by omega) (by omega))) ok_56 G (Si [0,1,2,3,4] G) G<|ru 2 G<|K63 G Sr) ?_
  refine nl<|nx<|jnC (σ := Value) [(2, _), (3, _), (6, _)] _ (fun s C => (5, s) :: C) (fun s => [bl b6 24 (cPlan v.fChart.fPlan), row 37 s (mv1 v S ++ mv2 v S), bl b3 55 (cState S s_0 s_1 s_2 s_3 s_4 s_5), bl b2 32 (cScene v v_0 v_1 v_2 v_3 v_4), fz X w]) (fun s => True) (Gs G) (Sc 0 G (Sc 1 G (Sc 2 G (Sc 3 G (Sc 4 G (Sc 5 G (Sc 6 G (Sc 7 G (Sc 8 G (Sc 9 G (Sc 10 G Sn))))))))))) ?_ ?_
  ·
   refine cdB G (fun h63 => ?_) (fun h63 => ?_)
   ·
    refine rg<|ru 2 G<|ldM 2 (cPlan S.fSeal) G G (Rg G) G G<|bd (ps := [(0, .const (.int .i64 9)), (12, .tmp 66)]) (cs := (cCommand ((⟨9, 0, 0, 0, 0, 0, ByteArray.empty, 0, 0, 0, false, oZ, S.fSeal, []⟩ : TCommand)) nS)) (by rfl) (by kernel_rfl) G<|bsM G app_45 G G G G fun b68 => ?_
    refine frS1 (α := TCommand) ({ zcmd with fKind := 9, fPlan := S.fSeal } : TCommand) (fun S w h => ⟨nS, G, fun t ht => by
      simp only [List.mem_cons, List.not_mem_nil, or_false] at ht
      subst ht
      exact nil_list S w, ⟨show InI 9 from ⟨by decide, by decide⟩, I0, I0, I0, I0, I0, Eb0, I0, I0, I0, trivial, ⟨I0, Eb0, Eb0, I0, I0, I0⟩, h_S.2.2.2.2.2.2.2.2.2.2.2.1, trivial⟩⟩) ?_
    refine ap 1 0 G G G G app_45 (by have := mv_len v S S S; simp only [List.length_cons, List.length_nil]; omega) (by have := mv_len v S S S; simp only [List.length_cons, List.length_nil]; omega) G fun v69 => ru 1 G<|nl ?_
    have hX : (mv1 v S ++ mv2 v S) = mv1 v S ++ [({ zcmd with fKind := 9, fPlan := S.fSeal } : TCommand)] := by rw [mv2, if_pos (show m2 v S = true from by rw [m2, age8]; simp only [← hzs]; exact h63)]
    exact jx v69 trivial (Gs G) (congrArg (fun x_ => [bl b6 24 (cPlan v.fChart.fPlan), row 37 v69 x_, bl b3 55 (cState S s_0 s_1 s_2 s_3 s_4 s_5), bl b2 32 (cScene v v_0 v_1 v_2 v_3 v_4), fz X w]) hX) (Si [1,2,3,4,5,6,7,8,9,10,11] G)
   ·
    refine sk ?_
    have hX : (mv1 v S ++ mv2 v S) = mv1 v S := by rw [mv2, if_neg (show ¬ m2 v S = true from by rw [m2, age8, Bool.not_eq_true]; simp only [← hzs]; exact h63), List.append_nil]
    exact jx r1 trivial (Gs G) (congrArg (fun x_ => [bl b6 24 (cPlan v.fChart.fPlan), row 37 r1 x_, bl b3 55 (cState S s_0 s_1 s_2 s_3 s_4 s_5), bl b2 32 (cScene v v_0 v_1 v_2 v_3 v_4), fz X w]) hX) (Si [0,1,2,3,4,5,6,7,8,9,10] G)
  ·
   rintro r2 _
   show WQ _ _ _ [(5, _), (2, _), (3, _), (6, _)] [bl b6 24 (cPlan v.fChart.fPlan), row 37 r2 (mv1 v S ++ mv2 v S), bl b3 55 (cState S s_0 s_1 s_2 s_3 s_4 s_5), bl b2 32 (cScene v v_0 v_1 v_2 v_3 v_4), fz X w] _
   refine nx<|sq<|sq<|rgQ mixed (by kernel_rfl)<|rl 4 [0] G G<|ja 73 6 [0,2] [2,3,5,6] G G G<|mv G G ?_
   refine jy 80 13 [2,3,5,6] G G (fun h80 K93 => by
    have p80 := h80
    try simp only [Bool.and_eq_true, decide_eq_true_eq, decide_eq_false_iff_not, Bool.not_eq_true'] at p80
    exact rl 4 [3,0] G G<|gY G G G<|sbI G G (inI (by omega) (by omega)) G<|gY G G G<|ixP 2 G G G slt_28 (by omega) (gE (by omega)) G fun v86 => gY G G G<|faP (α := TState) (β := TPlan) 0 (fun x : TState => x.fOut) G G (Fg G) pState_12 G fun v87 => gY G G G<|faP (α := TPlan) (β := Int) 0 (fun x : TPlan => x.fNumber) G G (Fg G) pPlan_0 G fun v88 => gY G G G<|ldV 0 G G (Og G) G fun w89 => rl 4 [0] G G<|K93 G (SubD.tail (SubD.tail (SubD.tail Sr)))) ?_
   refine mv G G<|ja 94 6 [2,0] [2,3,5,6] G G G<|nlQ<|nx<|jnC (σ := Value) [(2, _), (3, _), (6, _)] _ (fun s C => (5, s) :: C) (fun s => [bl b6 24 (cPlan v.fChart.fPlan), row 37 s (mv1 v S ++ mv2 v S ++ mv3 v S (stAt v v.fChart.fPlan.fFrom)), bl b3 55 (cState S s_0 s_1 s_2 s_3 s_4 s_5), bl b2 32 (cScene v v_0 v_1 v_2 v_3 v_4), fz X w]) (fun s => True) (Gs G) (Sc 0 G (Sc 1 G (Sc 2 G (Sc 3 G (Sc 4 G (Sc 5 G (Sc 6 G (Sc 7 G (Sc 8 G (Sc 9 G (Sc 10 G Sn))))))))))) ?_ ?_
   ·
    refine cdB G (fun h100 => ?_) (fun h100 => ?_)
    ·
     have hq := h100
     simp only [Bool.and_eq_true, Bool.not_eq_true', decide_eq_false_iff_not] at hq
     obtain ⟨hf1, hf2⟩ := hpl hq.1.1.1
     refine rgHT 16 (s := ⟨fun q_ => ([[], [], [], [2], [3], [], [5], [], [7], [8], [6, 9], [10], [11], [12], [1, 4, 13], [14], [], []] : List (List Nat)).getD q_ [], fun q_ => ([fun _ => True, fun _ => True, fun _ => True, fun _ => True, fun _ => True, fun _ => True, fun _ => True, fun _ => True, fun _ => True, fun _ => True, fun _ => True, fun _ => True, fun _ => True, fun _ => True, fun u => u = .agg (cCommand (m3c v (stAt v v.fChart.fPlan.fFrom)) (cel u 24)).toArray, fun _ => True, fun _ => True, fun _ => True] : List (Value → Prop)).getD q_ (fun _ => True), fun q_ => ([fun _ => [], fun _ => [], fun _ => [], fun _ => [], fun _ => [], fun _ => [], fun _ => [], fun _ => [], fun _ => [], fun _ => [], fun u => [⟨u, (⟨(v.fStates.getD ((v.fChart.fPlan.fFrom - 1)).toNat default)⟩ : Pt TState)⟩], fun u => [⟨u, (⟨(v.fStates.getD ((v.fChart.fPlan.fFrom - 1)).toNat default).fImage⟩ : Pt (List UInt8))⟩], fun u => [⟨u, (v.fStates.getD ((v.fChart.fPlan.fFrom - 1)).toNat default).fImage⟩], fun u => [⟨u, (v.fStates.getD ((v.fChart.fPlan.fFrom - 1)).toNat default).fImage⟩], fun u => [⟨cel u 24, (stAt v v.fChart.fPlan.fFrom).fImage⟩], fun u => [⟨u, [(m3c v (stAt v v.fChart.fPlan.fFrom) : TCommand)]⟩], fun _ => [], fun _ => []] : List (Value → List Atom)).getD q_ (fun _ => []), fun q_ => ([some (r2), some (.agg (cPlan v.fChart.fPlan).toArray), some (.pointer (some ⟨b2, 2, none⟩)), some (.agg (cChart v.fChart v_0 v_1).toArray), some (.int .i64 ((epochC v.fChart))), some (.pointer (some ⟨b2, 14, none⟩)), some (v_2), some (.pointer (some ⟨b6, 1, none⟩)), some (.int .i64 v.fChart.fPlan.fFrom), some (.int .i64 ((v.fChart.fPlan.fFrom - 1))), none, none, none, none, none, none, none, none] : List (Option Value)).getD q_ none, fun _ _ => _, [], [[]]⟩) G mixed (by kernel_rfl) (Nat.le_of_ble_eq_true G) G ?_ ?_
     ·
      refine ⟨fun V De _=>aP1 (mv G G<|oh G G G G),fun V De _=>aP1 (ldM 0 (cPlan v.fChart.fPlan) G G (Rg G) G G<|oh G G G G),fun V De _=>aP1 (fa G (Fg G) G<|oh G G G G),fun V De _=>aP1 (ldM 3 (cChart v.fChart v_0 v_1) G G (Rg G) G G<|oh G G G G),fun V De _=>aP1 (cfv (epoch20_c _ _ _ h_v.2.2.1 hc.he1) ok_115 G (Si [0,1] G) G<|oh G G G G),fun V De _=>aP1 (fa G (Fg G) G<|oh G G G G),fun V De _=>aP1 (ldB 3 G G (Og G) G G<|oh G G G G),fun V De _=>aP1 (fa G (Fg G) G<|oh G G G G),?_⟩
      refine ⟨fun V De _=>aP1 (ldB 0 G G (Og G) G G<|oh G G G G),fun V De _=>aP1 (sbI G G (inI (by omega) (by omega)) G<|oh G G G G),fun V De _=>aP1 (ixP 2 G G G slt_28 (by omega) (gE (by omega)) G fun v111 => nl (odH G G G trivial (Sc 0 G Sn) (SubD.tail Sr))),fun V De _=>aP1 (faP (α := TState) (β := List UInt8) 0 (fun x : TState => x.fImage) G G (Fg G) pState_13 G fun v112 => nl (odH G G G trivial (Sc 0 G Sn) (SubD.tail (SubD.tail Sr)))),fun V De _=>aP1 (ldL 0 G G (Og G) G fun v113 => nl (odH G G G trivial (Sc 0 G Sn) (SubD.tail (SubD.tail Sr)))),fun V De _=>aP1 (rwL UInt8 5<|ap 0 0 G G G G app_35 (by have := hi (v.fChart.fPlan.fFrom - 1).toNat; simp only [List.length_nil]; omega) (by have := hi (v.fChart.fPlan.fFrom - 1).toNat; simp only [List.length_nil]; omega) G fun v114 => frRL<|nl (odH G G G trivial (Sc 0 G Sn) (SubD.tail (SubD.tail Sr)))),?_⟩
      refine ⟨fun V De _ => (show AllP _ [[]] from ⟨?_, trivial⟩), ?_⟩
      ·
       show WL _ _ _ _ _ _ _
       refine wkL [(102, .agg (cPlan v.fChart.fPlan).toArray), (105, .int .i64 ((epochC v.fChart))), (114, V 13)] _ ?hE Sr ?hk
       case hE => exact ⟨rfl, rfl, rfl, trivial⟩
       refine adL (⟨V 13, (stAt v v.fChart.fPlan.fFrom).fImage⟩ : Atom) (fun S_ w_ h_ => h_ _ (List.mem_of_getElem? (i := 0) G))<|asSl 0 G fun hs => ?_
       obtain ⟨A13, cc13, e13⟩ := hs
       rw [e13]
       exact bd (ps := [(0, .const (.int .i64 10)), (12, .tmp 102), (3, .tmp 105), (13, .tmp 114)]) (cs := (cCommand ((⟨10, 0, 0, (epochC v.fChart), 0, 0, ByteArray.empty, 0, 0, 0, false, oZ, v.fChart.fPlan, (stAt v v.fChart.fPlan.fFrom).fImage⟩ : TCommand)) (.slice A13 (stAt v v.fChart.fPlan.fFrom).fImage.length cc13))) (by rfl) (by kernel_rfl) G<|nl (odH G G G G (Sc 0 G Sn) (SubD.tail (SubD.tail Sr)))
      refine ⟨fun V De hV => (show AllP _ [[]] from ⟨?_, trivial⟩), ?_⟩
      ·
       show WL _ _ _ _ _ _ _
       refine wkL [(115, V 14)] _ ?hE15 Sr ?hk15
       case hE15 => exact ⟨rfl, trivial⟩
       refine adL (⟨cel (V 14) 24, (stAt v v.fChart.fPlan.fFrom).fImage⟩ : Atom) (fun S_ w_ h_ => h_ _ (List.mem_of_getElem? (i := 0) G)) ?_
       obtain ⟨c115, e115⟩ : ∃ c, V 14 = .agg (cCommand (m3c v (stAt v v.fChart.fPlan.fFrom)) c).toArray := ⟨_, hV.mem 14 (show 14 ∈ [14] from by decide) rfl⟩
       rw [e115]
       refine bsM G app_45 G G G G fun b116 => ?_
       refine frS1 (α := TCommand) (m3c v (stAt v v.fChart.fPlan.fFrom) : TCommand) (fun S w h => ⟨c115, G, fun t ht => by
         simp only [List.mem_cons, List.not_mem_nil, or_false] at ht
         subst ht
         exact h _ (List.mem_of_getElem? (i := 0) G), ⟨show InI 10 from ⟨by decide, by decide⟩, I0, I0, hec, I0, I0, Eb0, I0, I0, I0, trivial, ⟨I0, Eb0, Eb0, I0, I0, I0⟩, h_v.2.2.1.2.2.2.2.1, trivial⟩⟩) ?_
       exact nl (odH G G G trivial (Sc 0 G Sn) (SubD.tail (SubD.tail (SubD.tail Sr))))
      trivial
     ·
      intro V hV
      refine wkL [(101, r2), (116, V 15), (2, _), (3, _), (6, _)] [(⟨(V 10), (⟨(v.fStates.getD ((v.fChart.fPlan.fFrom - 1)).toNat default)⟩ : Pt TState)⟩ : Atom), (⟨(V 11), (⟨(v.fStates.getD ((v.fChart.fPlan.fFrom - 1)).toNat default).fImage⟩ : Pt (List UInt8))⟩ : Atom), (⟨(V 12), (v.fStates.getD ((v.fChart.fPlan.fFrom - 1)).toNat default).fImage⟩ : Atom), (⟨(V 13), (v.fStates.getD ((v.fChart.fPlan.fFrom - 1)).toNat default).fImage⟩ : Atom), (⟨cel (V 14) 24, (stAt v v.fChart.fPlan.fFrom).fImage⟩ : Atom), (⟨(V 15), [(m3c v (stAt v v.fChart.fPlan.fFrom) : TCommand)]⟩ : Atom), _, _, _, _, _, _, _, _, _, _, _] (Gs G) Sr<|ap 1 5 G G G G app_45 (by have := mv_len v S (stAt v v.fChart.fPlan.fFrom) S; simp only [List.length_append, List.length_cons, List.length_nil]; omega) (by have := mv_len v S (stAt v v.fChart.fPlan.fFrom) S; simp only [List.length_append, List.length_cons, List.length_nil]; omega) G fun v117 => ru 1 G<|nl ?_
      have hX : (mv1 v S ++ mv2 v S ++ mv3 v S (stAt v v.fChart.fPlan.fFrom)) = (mv1 v S ++ mv2 v S) ++ [(m3c v (stAt v v.fChart.fPlan.fFrom) : TCommand)] := congrArg _ (mv3R_T (by rw [← hz]; exact h100))
      exact jx v117 trivial (Gs G) (congrArg (fun x_ => [bl b6 24 (cPlan v.fChart.fPlan), row 37 v117 x_, bl b3 55 (cState S s_0 s_1 s_2 s_3 s_4 s_5), bl b2 32 (cScene v v_0 v_1 v_2 v_3 v_4), fz X w]) hX) (Si [6,7,8,9,10,11,12,13,14,15,16] G)
    ·
     refine sk ?_
     have hX : (mv1 v S ++ mv2 v S ++ mv3 v S (stAt v v.fChart.fPlan.fFrom)) = (mv1 v S ++ mv2 v S) := (congrArg _ (mv3R_F (by rw [← hz]; exact h100))).trans (List.append_nil _)
     exact jx r2 trivial (Gs G) (congrArg (fun x_ => [bl b6 24 (cPlan v.fChart.fPlan), row 37 r2 x_, bl b3 55 (cState S s_0 s_1 s_2 s_3 s_4 s_5), bl b2 32 (cScene v v_0 v_1 v_2 v_3 v_4), fz X w]) hX) (Si [0,1,2,3,4,5,6,7,8,9,10] G)
   ·
    rintro r3 _
    show WQ _ _ _ [(5, _), (2, _), (3, _), (6, _)] [bl b6 24 (cPlan v.fChart.fPlan), row 37 r3 (mv1 v S ++ mv2 v S ++ mv3 v S (stAt v v.fChart.fPlan.fFrom)), bl b3 55 (cState S s_0 s_1 s_2 s_3 s_4 s_5), bl b2 32 (cScene v v_0 v_1 v_2 v_3 v_4), fz X w] _
    refine nx<|qg<|ru 1 G<|ldM 2 (cPlan S.fOut) G G (Rg G) G G<|al zero_24 G fun b7 => stW 0 (us := (cPlan S.fOut)) G G G (Rg G) G G<|nl<|nx<|sq<|qg<|rl 2 [0] G G<|ru 1 G<|nl<|nx<|cdP G (fun h122 => ?_) (fun h122 => ?_)
    ·
     have ho : S.fOut = zpl := hzo.mp h122
     have hX : movesL v S = (mv1 v S ++ mv2 v S ++ mv3 v S (stAt v v.fChart.fPlan.fFrom)) := (movesX (mv4_0 ho)).trans (List.append_nil _)
     exact sa 2 G<|rt<|tR<|dpQ<|dpQ<|mtQ 1 G<|dpQ<|mtQ 1 G<|dpQ<|fR1 () G G trivial (congrArg (fun x_ => [row 37 r3 x_, fz X w]) hX).symm Sn
    ·
     have ho : ¬ S.fOut = zpl := fun e => h122 (hzo.mpr e)
     have ht := plan_in (hS.out ho)
     refine sk<|nx<|qg<|rl 4 [4,0] G G<|sbI G G (inI (by omega) (by omega)) G<|ixP 2 G G G slt_28 (by omega) (gE (by omega)) G fun v129 => ldS 0 G G (Rg G) G fun q130 w130 => ?_
     obtain ⟨q130_0, q130_1, q130_2, q130_3, q130_4, q130_5⟩ := q130
     refine al zero_55 G fun b8 => oc 1 G fun o_q130_0 => oc 2 G fun o_q130_1 => oc 3 G fun o_q130_2 => oc 4 G fun o_q130_3 => oc 5 G fun o_q130_4 => oc 6 G fun o_q130_5 => stW 0 (us := (cState ((v.fStates.getD ((S.fOut.fTo - 1)).toNat default)) q130_0 q130_1 q130_2 q130_3 q130_4 q130_5)) G G G (Rg G) (by simp only [List.all_cons, List.all_nil, Bool.and_true, o_q130_0, o_q130_1, o_q130_2, o_q130_3, o_q130_4, o_q130_5]; rfl) G<|nl<|nx<|sq<|qg<|ru 1 G<|rl 4 [0,1] G G<|nl<|nx<|cdP G (fun h135 => ?_) (fun h135 => ?_)
     ·
      have hX : movesL v S = (mv1 v S ++ mv2 v S ++ mv3 v S (stAt v v.fChart.fPlan.fFrom)) ++ [({ zcmd with fKind := 9, fPlan := S.fOut, fYes := true } : TCommand)] := movesX (mv4_1 ho h135)
      refine qg<|mv G G<|ldM 1 (cPlan S.fOut) G G (Rg G) G G<|bd (ps := [(0, .const (.int .i64 9)), (12, .tmp 137), (10, .const (.bool true))]) (cs := (cCommand ((⟨9, 0, 0, 0, 0, 0, ByteArray.empty, 0, 0, 0, true, oZ, S.fOut, []⟩ : TCommand)) nS)) (by rfl) (by kernel_rfl) G<|bsM G app_45 G G G G fun b139 => ?_
      refine frS1 (α := TCommand) ({ zcmd with fKind := 9, fPlan := S.fOut, fYes := true } : TCommand) (fun S w h => ⟨nS, G, fun t ht => by
        simp only [List.mem_cons, List.not_mem_nil, or_false] at ht
        subst ht
        exact nil_list S w, ⟨show InI 9 from ⟨by decide, by decide⟩, I0, I0, I0, I0, I0, Eb0, I0, I0, I0, trivial, ⟨I0, Eb0, Eb0, I0, I0, I0⟩, h_S.2.2.2.2.2.2.2.2.2.2.2.2.1, trivial⟩⟩) ?_
      exact ap 3 0 G G G G app_45 (by have := mv_len v S (stAt v v.fChart.fPlan.fFrom) S; simp only [List.length_append, List.length_cons, List.length_nil]; omega) (by have := mv_len v S (stAt v v.fChart.fPlan.fFrom) S; simp only [List.length_append, List.length_cons, List.length_nil]; omega) G fun v140 => ru 1 G<|nl<|nx<|rt<|tR<|dpQ<|dpQ<|dpQ<|mtQ 1 G<|dpQ<|mtQ 1 G<|dpQ<|fR1 () G G trivial (congrArg (fun x_ => [row 37 v140 x_, fz X w]) hX).symm Sn
     ·
      refine sk<|nx<|sq<|qg<|rl 7 [5,1] G G<|ja 147 6 [2,1] [2,3,5,7,8] G G G<|mv G G<|ja 154 6 [0,1] [2,3,5,7] G G G<|nl<|nx<|cdB G (fun h160 => ?_) (fun h160 => ?_)
      ·
       have hX : movesL v S = (mv1 v S ++ mv2 v S ++ mv3 v S (stAt v v.fChart.fPlan.fFrom)) ++ [({ zcmd with fKind := 11, fPlan := S.fOut, fEpoch := epoO v S } : TCommand)] := movesX (mv4_2 ho h135 h160)
       refine qg<|rl 3 [5] G G<|cfv (epoch17_c _ _) ok_116 G (Sc 8 G Sn) G<|ru 1 G<|nl<|nx<|qg<|rl 3 [5] G G<|rl 2 [4] G G<|cfv (of17_c _ _ _ h_S.1) ok_117 G (Sc 8 G Sn) G<|ru 5 G<|nl<|nx<|sq<|qg<|mv G G<|nl<|nx<|jnC (σ := Int) [(5, _), (7, _)] _ (fun s C => (9, .int .i64 s) :: C) (fun s => [bl b7 24 (cPlan S.fOut), row 37 r3 (mv1 v S ++ mv2 v S ++ mv3 v S (stAt v v.fChart.fPlan.fFrom)), bl b3 55 (cState S s_0 s_1 s_2 s_3 s_4 s_5), bl b2 32 (cScene v v_0 v_1 v_2 v_3 v_4), fz X w]) (fun s => s = epoO v S) (Gs G) (Sc 1 G (Sc 2 G (Sc 3 G (Sc 4 G (Sc 5 G (Sc 6 G (Sc 8 G (Sc 9 G (Sc 10 G (Sc 11 G (Sc 12 G (Sc 13 G (Sc 14 G (Sc 15 G (Sc 16 G (Sc 17 G (Sc 18 G Sn))))))))))))))))) ?_ ?_
       ·
        refine cdB G (fun h174 => ?_) (fun h174 => ?_)
        ·
         obtain ⟨j, hj⟩ := Option.isSome_iff_exists.1 h174
         have hjl : j < v.fChart.fPlaces.length := firstI_lt hj
         refine rg<|rl 4 [5] G G ?_
         have hof : (ofP v.fChart.fPlaces S.fGroup).getD 0 < v.fChart.fPlaces.length := by rw [hj]; exact hjl
         exact ixP 8 G G G slt_22 (by omega) (getDE (d := default) hof) G fun v179 => faP (α := TPlace) (β := Int) 0 (fun x : TPlace => x.fEpoch) G G (Fg G) pPlace_2 G fun v180 => ldV 0 G G (Og G) G fun w181 => ru 1 G<|nl<|dpQ<|mtQ 1 G<|dpQ<|jx _ (show _ = epoO v S from by rw [epoO, if_pos h174]; rfl) (Gs G) G (Sc 3 G (Sc 4 G (Sc 5 G (Sc 6 G (Sc 7 G (Sc 8 G (Sc 10 G (Sc 11 G (Sc 12 G (Sc 13 G (Sc 14 G (Sc 15 G (Sc 16 G (Sc 17 G (Sc 18 G (Sc 19 G (Sc 20 G Sn)))))))))))))))))
        · exact sk<|dpQ<|mtQ 1 G<|dpQ<|jx _ (show _ = epoO v S from by rw [epoO, if_neg (by rw [h174]; decide)]) (Gs G) G (Sc 1 G (Sc 2 G (Sc 3 G (Sc 4 G (Sc 5 G (Sc 6 G (Sc 8 G (Sc 9 G (Sc 10 G (Sc 11 G (Sc 12 G (Sc 13 G (Sc 14 G (Sc 15 G (Sc 16 G (Sc 17 G (Sc 18 G Sn)))))))))))))))))
       ·
        intro ep e
        subst e
        show WQ _ _ _ [(9, .int .i64 ((epoO v S))), (5, _), (7, _)] [bl b7 24 (cPlan S.fOut), row 37 r3 (mv1 v S ++ mv2 v S ++ mv3 v S (stAt v v.fChart.fPlan.fFrom)), bl b3 55 (cState S s_0 s_1 s_2 s_3 s_4 s_5), bl b2 32 (cScene v v_0 v_1 v_2 v_3 v_4), fz X w] _
        refine nx<|rg<|mv G G<|ldM 0 (cPlan S.fOut) G G (Rg G) G G<|mv G G<|bd (ps := [(0, .const (.int .i64 11)), (12, .tmp 183), (3, .tmp 184)]) (cs := (cCommand ((⟨11, 0, 0, (epoO v S), 0, 0, ByteArray.empty, 0, 0, 0, false, oZ, S.fOut, []⟩ : TCommand)) nS)) (by rfl) (by kernel_rfl) G<|bsM G app_45 G G G G fun b186 => ?_
        refine frS1 (α := TCommand) ({ zcmd with fKind := 11, fPlan := S.fOut, fEpoch := epoO v S } : TCommand) (fun S w h => ⟨nS, G, fun t ht => by
          simp only [List.mem_cons, List.not_mem_nil, or_false] at ht
          subst ht
          exact nil_list S w, ⟨show InI 11 from ⟨by decide, by decide⟩, I0, I0, heo, I0, I0, Eb0, I0, I0, I0, trivial, ⟨I0, Eb0, Eb0, I0, I0, I0⟩, h_S.2.2.2.2.2.2.2.2.2.2.2.2.1, trivial⟩⟩) ?_
        exact ap 1 0 G G G G app_45 (by have := mv_len v S (stAt v v.fChart.fPlan.fFrom) S; simp only [List.length_append, List.length_cons, List.length_nil]; omega) (by have := mv_len v S (stAt v v.fChart.fPlan.fFrom) S; simp only [List.length_append, List.length_cons, List.length_nil]; omega) G fun v187 => ru 1 G<|nl<|nx<|sa 2 G<|rt<|dpQ<|mtQ 1 G<|dpQ<|mtQ 1 G<|dpQ<|fR1 () G G trivial (congrArg (fun x_ => [row 37 v187 x_, fz X w]) hX).symm Sn
      ·
       have hX : movesL v S = (mv1 v S ++ mv2 v S ++ mv3 v S (stAt v v.fChart.fPlan.fFrom)) := (movesX (mv4_3 ho h135 h160)).trans (List.append_nil _)
       exact sk<|nx<|sa 2 G<|rt<|dpQ<|dpQ<|dpQ<|mtQ 1 G<|dpQ<|mtQ 1 G<|dpQ<|fR1 () G G trivial (congrArg (fun x_ => [row 37 r3 x_, fz X w]) hX).symm Sn
end
theorem reports22_c (v : TScene) (v_0 v_1 v_2 v_3 v_4 : Value) (n : Int) (h_v : v.wf) (h_n : InI n) : Fnc Pg 14 [.agg (cScene v v_0 v_1 v_2 v_3 v_4).toArray, .int .i64 n] [] [⟨v_0, v.fChart.fPlaces⟩, ⟨v_1, v.fChart.fMarks⟩, ⟨v_2, v.fStates⟩, ⟨v_3, v.fRights⟩, ⟨v_4, v.fAges⟩] (fun (_ : Unit) _ => True) (fun _ _ => []) (fun _ u => [⟨u, reportsL v n⟩]) := by
 refine Fnc.proof Tryz.func14 G 54 G G fun X w => ?_
 obtain ⟨h_n1, h_n2⟩ := id h_n
 refine gtC (q := ∀ x ∈ v.fRights, x.wf) (fun S w h => list_wf (s := sRight) (h _ (List.mem_of_getElem? (i := 3) G))) fun hwR => qg<|bx G G G fun b2 => ru 1 G<|nl<|nx<|sq<|qg<|ldM 0 (cScene v v_0 v_1 v_2 v_3 v_4) G G (Rg G) G G<|cfv (right22_c _ _ _ _ _ _ h_v) ok_18 G (Si [0,1,2,3,4] G) G<|ru 2 G<|jb 13 3 [] [1,2] G G G<|mv G G<|jb 17 3 [] [1,2] G G G<|nl<|nx<|cdB G (fun h20 => ?_) (fun h20 => ?_)
 ·
  have q0 : (!okGroup n || !right22 v) = true := by rw [← refCond, Bool.or_comm, ← Bool.or_assoc]; exact h20
  have eD : reportsL v n = [] := by rw [reportsL, if_pos q0]
  exact emC (α := TCommand)<|sa 1 G<|rt<|tR<|dpQ<|fR1 () G G trivial G (by rw [eD]; exact (SubD.cons 0 rfl SubD.nil))
 ·
  have q0 : ¬ (!okGroup n || !right22 v) = true := by rw [← refCond, Bool.or_comm, ← Bool.or_assoc, Bool.not_eq_true]; exact h20
  have q := q0
  simp only [Bool.or_eq_true, not_or, Bool.not_eq_true', Bool.not_eq_false, okGroup, Bool.and_eq_true, decide_eq_true_eq] at q
  have hc := scene_has q.2
  have hl := hc.len
  have hg := q.1
  obtain ⟨S, hS0⟩ : ∃ S, stAt v n = S := ⟨_, rfl⟩
  refine rawNC (s := sState) 2 (n - 1).toNat G (by omega) ?_
  rw [show v.fStates.getD (n - 1).toNat default = S from hS0]
  rintro ys ⟨s_0, s_1, s_2, s_3, s_4, s_5⟩ hy_s h_S
  have eD : reportsL v n = (repL v n S.fAccounts S.fAccounts.length) := by rw [reportsL, if_neg q0, hS0]
  have hS : Ss S := hS0 ▸ (hc.st (n - 1).toNat (by omega)).1
  have l12 := hS.accs
  refine sk<|nx<|sa 1 G<|qg<|rl 3 [0] G G<|sbI G G (inI (by omega) (by omega)) G<|ixP 0 G G G slt_28 (by omega) hy_s G fun v25 => ldRaw (s := sState) (ov := S) (hh := ⟨s_0, s_1, s_2, s_3, s_4, s_5⟩) 0 G G (Rg G) G fun w26 => al zero_55 G fun b6 => oc 2 G fun o_s_0 => oc 3 G fun o_s_1 => oc 4 G fun o_s_2 => oc 5 G fun o_s_3 => oc 6 G fun o_s_4 => oc 7 G fun o_s_5 => stW 0 (us := (cState S s_0 s_1 s_2 s_3 s_4 s_5)) G G G (Rg G) (by simp only [List.all_cons, List.all_nil, Bool.and_true, o_s_0, o_s_1, o_s_2, o_s_3, o_s_4, o_s_5]; rfl) G<|nl<|nx<|sq<|sa 1 G<|bk<|rwC TCommand 37<|lpE (σ := Nat × Value) [(1, _), (2, _), (6, _)] _ (fun s C => (7, .int .i64 (s.1 : Int)) :: (5, s.2) :: C) (fun s => [row 37 s.2 (repL v n S.fAccounts s.1), bl b6 55 (cState S s_0 s_1 s_2 s_3 s_4 s_5), bl b2 32 (cScene v v_0 v_1 v_2 v_3 v_4), fz X w]) (fun _ Dc => Dc) (fun s => s.1 ≤ S.fAccounts.length) (fun s => S.fAccounts.length - s.1) (0, _) (Gs G) (Sc 2 G (Sc 3 G (Sc 4 G (Sc 5 G (Sc 6 G (Sc 7 G (Sc 8 G (Sc 9 G (Sc 10 G (Sc 11 G (Sc 12 G Sn))))))))))) (Nat.zero_le _) (Gs G) G (Sc 2 G (Sc 3 G (Sc 4 G (Sc 5 G (Sc 6 G (Sc 7 G (Sc 8 G (Sc 9 G (Sc 10 G (Sc 11 G (Sc 12 G Sn))))))))))) ?_
  rintro ⟨i, rv⟩ hi
  simp only at hi
  show WC _ _ _ [(7, .int .i64 ((i : Int))), (5, _), (1, _), (2, _), (6, _)] [row 37 rv (repL v n S.fAccounts i), bl b6 55 (cState S s_0 s_1 s_2 s_3 s_4 s_5), bl b2 32 (cScene v v_0 v_1 v_2 v_3 v_4), fz X w] _
  refine sq<|qg<|rl 3 [1] G G<|lnP 0 G G Tryz.underlying50 G fun l30 => ru 1 G<|nl<|nx<|cdP G (fun h31 => ?_) (fun h31 => ?_)
  ·
   refine sk<|nx<|sq<|bk<|sq<|rawNC (s := sAccount) 0 i G (by omega) ?_
   rintro zs a_0 hz_a h_a
   refine gtC (q := ∀ x ∈ (S.fAccounts.getD i default).fHolders, x.wf) (fun S w h => list_wf (s := sHolder) (h _ (List.mem_of_getElem? (i := 1) G))) fun hwH => rgZ (L := [row 37 rv (repL v n S.fAccounts i), bl b6 55 (cState S s_0 s_1 s_2 s_3 s_4 s_5), bl b2 32 (cScene v v_0 v_1 v_2 v_3 v_4), fz X w]) [(10,.cv [11,1] ⟨_,_,_,_,report16_c v_3 v.fRights n (S.fAccounts.getD i default) a_0 v.fNode h_a h_n h_v.1,ok_47⟩)] [(1,⟨some (v_3),fun _ => [],false⟩),(4,⟨some (s_0),fun _ => [],false⟩),(6,⟨none,fun u => [(@Atom.mk (Pt (TAccount × sAccount.H)) (@repPt _ (rawR sAccount)) u ⟨((S.fAccounts.getD i default), a_0)⟩)],false⟩),(7,⟨some (.agg (cAccount ((S.fAccounts.getD i default)) a_0).toArray),fun _ => [],false⟩),(9,⟨some (.int .i64 v.fNode),fun _ => [],false⟩),(14,⟨none,fun _ => [],true⟩),(15,⟨none,fun _ => [],true⟩)] [(14,fun u => u = .pointer (some ⟨ptrB u, 0, none⟩))] [] [(14,fun L zz => (bl (ptrB (zz 14)) 37 zv9) :: L),(15,fun L zz => rpE 4 (bl (ptrB (zz 14)) 37 (cCommand ((repC v.fRights n (S.fAccounts.getD i default) v.fNode)) nS)) L)] (fun _ => G) (fun _ => by kernel_rfl) ?_ fun V hV => ?_
   ·
    refine ⟨fun V De _=>aP2 (ldB 2 G G (Og G) G G<|oh G G G G) (ldB 3 G G (Og G) G G<|oh G G G G),fun V De _=>aP2 (ldB 1 G G (Og G) G G<|oh G G G G) (ldB 2 G G (Og G) G G<|oh G G G G),fun V De _=>(by (repeat (refine aC ?_ ?_; exact ixP 0 G G G slt_50 (by omega) hz_a G fun v41 => nl (odH G G G trivial (Sc 0 G Sn) (SubD.tail Sr)))); trivial),fun V De _=>(by (repeat (refine aC ?_ ?_; exact ldRaw (s := sAccount) (ov := (S.fAccounts.getD i default)) (hh := a_0) 0 G G (Rg G) G fun w42 => nl (odH G G G G Sn (SubD.tail Sr)))); trivial),fun V De _=>aP2 (ldB 2 G G (Og G) G G<|oh G G G G) (ldB 3 G G (Og G) G G<|oh G G G G),fun V De _=>aP1 (al zero_37 G fun b8 => oh G G G G),?_⟩
    refine ⟨fun V De hV=>aP1 ?_,?_⟩
    · exact stW 0 (us := (cCommand ((repC v.fRights n (S.fAccounts.getD i default) v.fNode)) nS)) (congrArg some (hV.mem 14 (mE G) G)) G G (Rg G) G G<|oh0 G G
    trivial
   ·
    refine wD [1,2,3,4,5,6,7,8,9,10,11,12,13] G<|?_
    obtain ⟨b8, hb8⟩ : ∃ b, V 14 = .pointer (some ⟨b, 0, none⟩) := ⟨_, hV.mem 14 (by decide) rfl rfl⟩
    simp only [hb8, ptrB_mk]
    refine nx<|qg<|mv G G<|nl<|nx<|cdB G (fun h48 => ?_) (fun h48 => ?_)
    ·
     refine rg<|mv G G<|ldM 0 (cCommand ((repC v.fRights n (S.fAccounts.getD i default) v.fNode)) nS) G G (Rg G) G G<|bsM G app_45 G G G G fun b51 => ?_
     refine frS1 (α := TCommand) (repC v.fRights n (S.fAccounts.getD i default) v.fNode) (fun S w h => ⟨nS, G, fun t ht => by
       simp only [List.mem_cons, List.not_mem_nil, or_false] at ht
       subst ht
       ·
        rw [repC_img]; exact nil_list S w, (repC_wf h_v.1 h_a hwR hwH)⟩) ?_
     refine ap 1 0 G G G G app_45 (by have := repL_len v n S.fAccounts i; simp only [List.length_cons, List.length_nil]; omega) (by have := repL_len v n S.fAccounts i; simp only [List.length_cons, List.length_nil]; omega) G fun v52 => ru 1 G<|nl<|bN<|nx<|rg<|mv G G<|adI G G (inI (by omega) (by omega)) G<|ru 1 G<|nl<|dpQ ?_
     rw [show (repL v n S.fAccounts i) ++ [repC v.fRights n (S.fAccounts.getD i default) v.fNode] = repL v n S.fAccounts (i + 1) from by rw [repL, repF, if_pos (by simpa using h48)]]
     exact ag ((i + 1, v52) : Nat × Value) (by show i + 1 ≤ S.fAccounts.length; omega) (by show S.fAccounts.length - (i + 1) < S.fAccounts.length - i; omega) (Gs G) G (Si [3,4,5,6,7,8,9,10,11,12,13] G)
    ·
     refine sk<|bN<|nx<|rg<|mv G G<|adI G G (inI (by omega) (by omega)) G<|ru 1 G<|nl<|dpQ ?_
     rw [show (repL v n S.fAccounts i) = repL v n S.fAccounts (i + 1) from by rw [repL, repF, if_neg (by simpa using h48), List.append_nil]]
     exact ag ((i + 1, rv) : Nat × Value) (by show i + 1 ≤ S.fAccounts.length; omega) (by show S.fAccounts.length - (i + 1) < S.fAccounts.length - i; omega) (Gs G) G (Si [2,3,4,5,6,7,8,9,10,11,12] G)
  ·
   obtain rfl : i = S.fAccounts.length := by omega
   exact ex<|tE<|tE<|bE<|nx<|sa 2 G<|rt<|frRQ<|dpQ<|dpQ<|fR1 () G G trivial G (by rw [eD]; exact (SubD.cons 0 rfl SubD.nil))
theorem duties22_c (v : TScene) (v_0 v_1 v_2 v_3 v_4 : Value) (n : Int) (h_v : v.wf) (h_n : InI n) (hbk : ∀ j, (v.fStates.getD j default).fImage.length ≤ 1048576) : Fnc Pg 16 [.agg (cScene v v_0 v_1 v_2 v_3 v_4).toArray, .int .i64 n] [] [⟨v_0, v.fChart.fPlaces⟩, ⟨v_1, v.fChart.fMarks⟩, ⟨v_2, v.fStates⟩, ⟨v_3, v.fRights⟩, ⟨v_4, v.fAges⟩] (fun (_ : Unit) _ => True) (fun _ _ => []) (fun _ u => [⟨u, dutiesL v n⟩]) := by
 refine Fnc.proof Tryz.func16 G 120 G G fun X w => ?_
 obtain ⟨h_n1, h_n2⟩ := id h_n
 refine qg<|bx G G G fun b2 => ru 1 G<|nl<|nx<|sq<|qg<|ldM 0 (cScene v v_0 v_1 v_2 v_3 v_4) G G (Rg G) G G<|cfv (right22_c _ _ _ _ _ _ h_v) ok_18 G (Si [0,1,2,3,4] G) G<|ru 2 G<|jb 15 3 [] [1,2] G G G<|mv G G<|jb 19 3 [] [1,2] G G G<|nl<|nx<|cdB G (fun h22 => ?_) (fun h22 => ?_)
 ·
  have q0 : (((!decide (n = 0)) && !okGroup n) || !right22 v) = true := by rw [← refCond0, Bool.or_comm, ← Bool.or_assoc]; exact h22
  have eD : dutiesL v n = [] := by rw [dutiesL, if_pos q0]
  exact emC (α := TCommand)<|sa 1 G<|rt<|tR<|dpQ<|fR1 () G G trivial G (by rw [eD]; exact (SubD.cons 0 rfl SubD.nil))
 ·
  have q0 : ¬ (((!decide (n = 0)) && !okGroup n) || !right22 v) = true := by rw [← refCond0, Bool.or_comm, ← Bool.or_assoc, Bool.not_eq_true]; exact h22
  have q := q0
  simp only [Bool.or_eq_true, not_or, Bool.not_eq_true', Bool.not_eq_false] at q
  have hc := scene_has q.2
  have hl := hc.len
  refine sk<|nx<|sq<|sa 2 G<|cdP G (fun h24 => ?_) (fun h24 => ?_)
  ·
   obtain ⟨T, hT⟩ : ∃ T, stAt v v.fChart.fPlan.fTo = T := ⟨_, rfl⟩
   obtain ⟨F, hF⟩ : ∃ F, stAt v v.fChart.fPlan.fFrom = F := ⟨_, rfl⟩
   have eD : dutiesL v n = chL v T F := by rw [dutiesL, if_neg q0, if_pos h24, hT, hF]
   refine qg<|ru 2 G<|ldM 0 (cPlan v.fChart.fPlan) G G (Rg G) G G<|al zero_24 G fun b5 => stW 0 (us := (cPlan v.fChart.fPlan)) G G G (Rg G) G G<|nl<|nx<|sq<|qg<|rl 2 [0] G G<|ru 1 G<|nl<|nx<|cdP G (fun h30 => ?_) (fun h30 => ?_)
   ·
    have hz0 : v.fChart.fPlan = zpl := of_decide_eq_true (hc.z ▸ decide_eq_true h30)
    have eC : chL v T F = [] := by rw [chL, if_pos hz0]
    exact emC (α := TCommand)<|sa 1 G<|rt<|tR<|tR<|dpQ<|dpQ<|fR1 () G G trivial G (by rw [eD, eC]; exact (SubD.cons 0 rfl SubD.nil))
   ·
    have hz0 : ¬ v.fChart.fPlan = zpl := fun e => h30 (by rw [e]; rfl)
    obtain ⟨hpn, hf1, hf2, ht1, ht2⟩ := hc.plan hz0
    refine rawNC (s := sState) 2 (v.fChart.fPlan.fFrom - 1).toNat G (by omega) ?_
    rw [show v.fStates.getD (v.fChart.fPlan.fFrom - 1).toNat default = F from hF]
    rintro zs ⟨f_0, f_1, f_2, f_3, f_4, f_5⟩ hy_f h_F
    refine rawNC (s := sState) 9 (v.fChart.fPlan.fTo - 1).toNat G (by omega) ?_
    rw [show v.fStates.getD (v.fChart.fPlan.fTo - 1).toNat default = T from hT]
    rintro ys ⟨t_0, t_1, t_2, t_3, t_4, t_5⟩ hy_t h_T
    refine sk<|nx<|sq<|rgZ (L := [bl b5 24 (cPlan v.fChart.fPlan), bl b2 32 (cScene v v_0 v_1 v_2 v_3 v_4), fz X w]) [] [(1,⟨some (v_2),fun _ => [],false⟩),(3,⟨some (.int .i64 v.fChart.fPlan.fFrom),fun _ => [],false⟩),(4,⟨some (.int .i64 ((v.fChart.fPlan.fFrom - 1))),fun _ => [],false⟩),(5,⟨none,fun u => [(@Atom.mk (Pt (TState × sState.H)) (@repPt _ (rawR sState)) u ⟨(F, (f_0, f_1, f_2, f_3, f_4, f_5))⟩)],false⟩),(6,⟨some (.agg (cState F f_0 f_1 f_2 f_3 f_4 f_5).toArray),fun _ => [],false⟩),(7,⟨some (.pointer (some ⟨b2, 14, none⟩)),fun _ => [],false⟩),(8,⟨some (v_2),fun _ => [],false⟩),(9,⟨some (.pointer (some ⟨b5, 2, none⟩)),fun _ => [],false⟩),(10,⟨some (.int .i64 v.fChart.fPlan.fTo),fun _ => [],false⟩),(11,⟨some (.int .i64 ((v.fChart.fPlan.fTo - 1))),fun _ => [],false⟩),(12,⟨none,fun u => [(@Atom.mk (Pt (TState × sState.H)) (@repPt _ (rawR sState)) u ⟨(T, (t_0, t_1, t_2, t_3, t_4, t_5))⟩)],false⟩),(13,⟨some (.agg (cState T t_0 t_1 t_2 t_3 t_4 t_5).toArray),fun _ => [],false⟩),(14,⟨none,fun _ => [],true⟩),(15,⟨none,fun _ => [],true⟩),(16,⟨none,fun _ => [],true⟩),(17,⟨none,fun _ => [],true⟩)] [(14,fun u => u = .pointer (some ⟨ptrB u, 0, none⟩)),(15,fun u => u = .pointer (some ⟨ptrB u, 0, none⟩))] [[],[14],[15],[14,15],[15,14],[14,15,16],[15,14,16],[14,15,16,17],[15,14,16,17]] [(14,fun L zz => inE 3 (bl (ptrB (zz 14)) 55 zv6) L),(15,fun L zz => (bl (ptrB (zz 15)) 55 zv6) :: L),(16,fun L zz => rpE 3 (bl (ptrB (zz 14)) 55 (cState F f_0 f_1 f_2 f_3 f_4 f_5)) L),(17,fun L zz => rpE 4 (bl (ptrB (zz 15)) 55 (cState T t_0 t_1 t_2 t_3 t_4 t_5)) L)] (fun _ => G) (fun _ => by kernel_rfl) ?_ fun V hV => ?_
    ·
     refine ⟨fun V De _=>aP5 (ldB 1 G G (Og G) G G<|oh G G G G) (ldB 2 G G (Og G) G G<|oh G G G G) (ldB 2 G G (Og G) G G<|oh G G G G) (ldB 3 G G (Og G) G G<|oh G G G G) (ldB 3 G G (Og G) G G<|oh G G G G),fun V De _=>aP5 (ldB 0 G G (Og G) G G<|oh G G G G) (ldB 1 G G (Og G) G G<|oh G G G G) (ldB 1 G G (Og G) G G<|oh G G G G) (ldB 2 G G (Og G) G G<|oh G G G G) (ldB 2 G G (Og G) G G<|oh G G G G),fun V De _=>(by (repeat (refine aC ?_ ?_; exact sbI G G (inI (by omega) (by omega)) G<|oh G G G G)); trivial),fun V De _=>(by (repeat (refine aC ?_ ?_; exact ixP 7 G G G slt_28 (by omega) hy_f G fun v36 => nl (odH G G G trivial (Sc 0 G Sn) (SubD.tail Sr)))); trivial),fun V De _=>(by (repeat (refine aC ?_ ?_; exact ldRaw (s := sState) (ov := F) (hh := ⟨f_0, f_1, f_2, f_3, f_4, f_5⟩) 0 G G (Rg G) G fun w37 => nl (odH G G G G Sn (SubD.tail Sr)))); trivial),?_⟩
     refine ⟨fun V De _=>?_,?_⟩
     ·
      repeat
       refine aC ?_ ?_
       · exact ru 1 G<|oh G G G G
      trivial
     refine ⟨fun V De _=>aP7 ?_ ?_ ?_ ?_ ?_ ?_ ?_,?_⟩
     · exact rl 1 [1] G G<|oh G G G G
     · exact rl 1 [2] G G<|oh G G G G
     · exact rl 1 [2] G G<|oh G G G G
     · exact rl 1 [3] G G<|oh G G G G
     · exact rl 1 [3] G G<|oh G G G G
     · exact rl 1 [3] G G<|oh G G G G
     · exact rl 1 [3] G G<|oh G G G G
     refine ⟨fun V De _=>?_,?_⟩
     ·
      repeat
       refine aC ?_ ?_
       · exact ru 1 G<|oh G G G G
      trivial
     refine ⟨fun V De _=>aP7 ?_ ?_ ?_ ?_ ?_ ?_ ?_,?_⟩
     · exact rl 1 [0] G G<|oh G G G G
     · exact rl 1 [1] G G<|oh G G G G
     · exact rl 1 [1] G G<|oh G G G G
     · exact rl 1 [2] G G<|oh G G G G
     · exact rl 1 [2] G G<|oh G G G G
     · exact rl 1 [2] G G<|oh G G G G
     · exact rl 1 [2] G G<|oh G G G G
     refine ⟨fun V De _=>?_,?_⟩
     ·
      repeat
       refine aC ?_ ?_
       · exact sbI G G (inI (by omega) (by omega)) G<|oh G G G G
      trivial
     refine ⟨fun V De _=>?_,?_⟩
     ·
      repeat
       refine aC ?_ ?_
       · exact ixP 0 G G G slt_28 (by omega) hy_t G fun v43 => nl (odH G G G trivial (Sc 0 G Sn) (SubD.tail Sr))
      trivial
     refine ⟨fun V De _=>?_,?_⟩
     ·
      repeat
       refine aC ?_ ?_
       · exact ldRaw (s := sState) (ov := T) (hh := ⟨t_0, t_1, t_2, t_3, t_4, t_5⟩) 0 G G (Rg G) G fun w44 => nl (odH G G G G Sn (SubD.tail Sr))
      trivial
     refine ⟨fun V De _=>aP2 (al zero_55 G fun b6 => oh G G G G) (al zero_55 G fun b6 => mtL 3 G<|mtL 3 G<|mtL 2 G<|mtL 3 G<|oh G G G G),fun V De _=>aP2 (al zero_55 G fun b7 => oh G G G G) (al zero_55 G fun b7 => oh G G G G),?_⟩
     refine ⟨fun V De hV=>?_,?_⟩
     ·
      repeat
       refine aC ?_ ?_
       · exact oc 8 G fun o_f_0 => oc 9 G fun o_f_1 => oc 10 G fun o_f_2 => oc 11 G fun o_f_3 => oc 12 G fun o_f_4 => oc 13 G fun o_f_5 => stW 1 (us := (cState F f_0 f_1 f_2 f_3 f_4 f_5)) (congrArg some (hV.mem 14 (mE G) G)) G G (Rg G) (by simp only [List.all_cons, List.all_nil, Bool.and_true, o_f_0, o_f_1, o_f_2, o_f_3, o_f_4, o_f_5]; rfl) G<|oh0 G G
      trivial
     refine ⟨fun V De hV=>?_,?_⟩
     ·
      repeat
       refine aC ?_ ?_
       · exact oc 1 G fun o_t_0 => oc 2 G fun o_t_1 => oc 3 G fun o_t_2 => oc 4 G fun o_t_3 => oc 5 G fun o_t_4 => oc 6 G fun o_t_5 => stW 0 (us := (cState T t_0 t_1 t_2 t_3 t_4 t_5)) (congrArg some (hV.mem 15 (mE G) G)) G G (Rg G) (by simp only [List.all_cons, List.all_nil, Bool.and_true, o_t_0, o_t_1, o_t_2, o_t_3, o_t_4, o_t_5]; rfl) G<|oh0 G G
      trivial
     trivial
    ·
     refine wD [2,3,4,5,6,7,8,9,10,11,12,13,14,15,16,17,18,19,20] G<|?_
     obtain ⟨b6, hb6⟩ : ∃ b, V 14 = .pointer (some ⟨b, 0, none⟩) := ⟨_, hV.mem 14 (by decide) rfl rfl⟩
     obtain ⟨b7, hb7⟩ : ∃ b, V 15 = .pointer (some ⟨b, 0, none⟩) := ⟨_, hV.mem 15 (by decide) rfl rfl⟩
     simp only [hb6, hb7, ptrB_mk]
     refine nx<|sq<|bk<|qg<|rl 6 [0,2] G G<|ja 51 6 [0,2] [5,6] G G G<|ru 1 G<|nl<|nx<|cdB G (fun h45 => ?_) (fun h45 => ?_)
     ·
      have eC : chL v T F = [{ zcmd with fKind := 13, fPlan := v.fChart.fPlan }] := by rw [chL, if_neg hz0, if_pos h45]
      refine qg<|ldM 2 (cPlan v.fChart.fPlan) G G (Rg G) G G<|bd (ps := [(0, .const (.int .i64 13)), (12, .tmp 58)]) (cs := (cCommand ((⟨13, 0, 0, 0, 0, 0, ByteArray.empty, 0, 0, 0, false, oZ, v.fChart.fPlan, []⟩ : TCommand)) nS)) (by rfl) (by kernel_rfl) G<|bsM G app_45 G G G G fun b60 => ?_
      refine frS1 (α := TCommand) ({ zcmd with fKind := 13, fPlan := v.fChart.fPlan } : TCommand) (fun S w h => ⟨nS, G, fun t ht => by
        simp only [List.mem_cons, List.not_mem_nil, or_false] at ht
        subst ht
        exact nil_list S w, ⟨show InI 13 from ⟨by decide, by decide⟩, I0, I0, I0, I0, I0, Eb0, I0, I0, I0, trivial, ⟨I0, Eb0, Eb0, I0, I0, I0⟩, h_v.2.2.1.2.2.2.2.1, trivial⟩⟩) ?_
      exact ru 1 G<|nl<|nx<|rt<|bR<|tR<|tR<|dpQ<|dpQ<|dpQ<|dpQ<|fR1 () G G trivial G (by rw [eD, eC]; exact (SubD.cons 0 rfl SubD.nil))
     ·
      refine sb 6 [1,2] G G<|cdP G (fun h61 => ?_) (fun h61 => ?_)
      ·
       have eC : chL v T F = [{ zcmd with fKind := 14, fPlan := v.fChart.fPlan }] := by rw [chL, if_neg hz0, if_neg (by rw [h45]; decide), if_pos h61]
       refine qg<|ldM 2 (cPlan v.fChart.fPlan) G G (Rg G) G G<|bd (ps := [(0, .const (.int .i64 14)), (12, .tmp 67)]) (cs := (cCommand ((⟨14, 0, 0, 0, 0, 0, ByteArray.empty, 0, 0, 0, false, oZ, v.fChart.fPlan, []⟩ : TCommand)) nS)) (by rfl) (by kernel_rfl) G<|bsM G app_45 G G G G fun b69 => ?_
       refine frS1 (α := TCommand) ({ zcmd with fKind := 14, fPlan := v.fChart.fPlan } : TCommand) (fun S w h => ⟨nS, G, fun t ht => by
         simp only [List.mem_cons, List.not_mem_nil, or_false] at ht
         subst ht
         exact nil_list S w, ⟨show InI 14 from ⟨by decide, by decide⟩, I0, I0, I0, I0, I0, Eb0, I0, I0, I0, trivial, ⟨I0, Eb0, Eb0, I0, I0, I0⟩, h_v.2.2.1.2.2.2.2.1, trivial⟩⟩) ?_
       exact ru 1 G<|nl<|nx<|rt<|bR<|tR<|tR<|dpQ<|dpQ<|dpQ<|dpQ<|fR1 () G G trivial G (by rw [eD, eC]; exact (SubD.cons 0 rfl SubD.nil))
      ·
       have eC : chL v T F = [] := by rw [chL, if_neg hz0, if_neg (by rw [h45]; decide), if_neg h61]
       exact emC (α := TCommand)<|sk<|bN<|nx<|sa 1 G<|rt<|tR<|dpQ<|dpQ<|dpQ<|dpQ<|fR1 () G G trivial G (by rw [eD, eC]; exact (SubD.cons 0 rfl SubD.nil))
  ·
   have hg : 1 ≤ n ∧ n < 8 := by
    have q1 := q.1
    simp only [Bool.and_eq_true, Bool.not_eq_true', decide_eq_false_iff_not, not_and, Bool.not_eq_false, okGroup, decide_eq_true_eq] at q1
    exact q1 h24
   obtain ⟨S, hS0⟩ : ∃ S, stAt v n = S := ⟨_, rfl⟩
   refine rawNC (s := sState) 2 (n - 1).toNat G (by omega) ?_
   rw [show v.fStates.getD (n - 1).toNat default = S from hS0]
   rintro xs ⟨s_0, s_1, s_2, s_3, s_4, s_5⟩ hy_s h_S
   have eD : dutiesL v n = (movesL v S ++ dealL v S.fDeals S.fDeals.length ++ sidesL v S v.fStates v.fStates.length ++ lateL v S.fWaits S.fWaits.length) := by rw [dutiesL, if_neg q0, if_neg h24, hS0]
   have hS : Ss S := hS0 ▸ (hc.st (n - 1).toNat (by omega)).1
   have l1 : (movesL v S).length ≤ 4 := by
    have := mv_len v S (stAt v v.fChart.fPlan.fFrom) (stAt v S.fOut.fTo)
    simp only [movesL, List.length_append]
    omega
   have l2 := dealL_len v S.fDeals S.fDeals.length
   have l3 := sidesL_len v S v.fStates hc.deals v.fStates.length
   have l4 := hS.deals4
   have l5 := hS.waits
   refine sk<|nx<|qg<|rl 3 [0] G G<|sbI G G (inI (by omega) (by omega)) G<|ixP 0 G G G slt_28 (by omega) hy_s G fun v74 => ldRaw (s := sState) (ov := S) (hh := ⟨s_0, s_1, s_2, s_3, s_4, s_5⟩) 0 G G (Rg G) G fun w75 => al zero_55 G fun b8 => oc 2 G fun o_s_0 => oc 3 G fun o_s_1 => oc 4 G fun o_s_2 => oc 5 G fun o_s_3 => oc 6 G fun o_s_4 => oc 7 G fun o_s_5 => stW 0 (us := (cState S s_0 s_1 s_2 s_3 s_4 s_5)) G G G (Rg G) (by simp only [List.all_cons, List.all_nil, Bool.and_true, o_s_0, o_s_1, o_s_2, o_s_3, o_s_4, o_s_5]; rfl) G<|nl<|nx<|sq<|rgZ (L := [bl b8 55 (cState S s_0 s_1 s_2 s_3 s_4 s_5), bl b2 32 (cScene v v_0 v_1 v_2 v_3 v_4), fz X w]) [(0,.ld 1),(1,.ld 0)] [(2,⟨none,fun _ => [],true⟩),(3,⟨some (.agg (cScene v v_0 v_1 v_2 v_3 v_4).toArray),fun _ => [],false⟩),(4,⟨some (.agg (cState S s_0 s_1 s_2 s_3 s_4 s_5).toArray),fun _ => [],false⟩),(5,⟨none,fun u => [⟨u, dealL v S.fDeals S.fDeals.length⟩],false⟩),(6,⟨none,fun _ => [],true⟩),(7,⟨some (.agg (cScene v v_0 v_1 v_2 v_3 v_4).toArray),fun _ => [],false⟩),(8,⟨some (.agg (cState S s_0 s_1 s_2 s_3 s_4 s_5).toArray),fun _ => [],false⟩),(9,⟨none,fun u => [⟨u, sidesL v S v.fStates v.fStates.length⟩],false⟩),(10,⟨none,fun _ => [],true⟩),(11,⟨none,fun _ => [],true⟩)] [] [] [(2,fun L zz => (row 37 (zz 2) (movesL v S)) :: L),(6,fun L zz => rpE 3 (row 37 (zz 6) (movesL v S ++ dealL v S.fDeals S.fDeals.length)) L),(10,fun L zz => rpE 3 (row 37 (zz 10) (movesL v S ++ dealL v S.fDeals S.fDeals.length ++ sidesL v S v.fStates v.fStates.length)) L),(11,fun L zz => rpE 3 (row 37 (zz 11) (movesL v S ++ dealL v S.fDeals S.fDeals.length ++ sidesL v S v.fStates v.fStates.length)) L)] (fun _ => G) (fun _ => by kernel_rfl) ⟨fun V De _=>aP1 (cf (moves22_c v v_0 v_1 v_2 v_3 v_4 S s_0 s_1 s_2 s_3 s_4 s_5 h_v h_S hc hS hbk) ok_53 G (Si [8,9,10,11,12,2,3,4,5,6,7] G) G fun y78 v78 h78 => nl (odH G G G trivial Sn Sr)),fun V De _=>aP4 (ldM 1 (cScene v v_0 v_1 v_2 v_3 v_4) G G (Rg G) G G<|oh G G G G) (ldM 2 (cScene v v_0 v_1 v_2 v_3 v_4) G G (Rg G) G G<|oh G G G G) (ldM 2 (cScene v v_0 v_1 v_2 v_3 v_4) G G (Rg G) G G<|oh G G G G) (ldM 2 (cScene v v_0 v_1 v_2 v_3 v_4) G G (Rg G) G G<|oh G G G G),fun V De _=>aP4 (ldM 0 (cState S s_0 s_1 s_2 s_3 s_4 s_5) G G (Rg G) G G<|oh G G G G) (ldM 1 (cState S s_0 s_1 s_2 s_3 s_4 s_5) G G (Rg G) G G<|oh G G G G) (ldM 1 (cState S s_0 s_1 s_2 s_3 s_4 s_5) G G (Rg G) G G<|oh G G G G) (ldM 1 (cState S s_0 s_1 s_2 s_3 s_4 s_5) G G (Rg G) G G<|oh G G G G),fun V De _=>aP1 (cf (own_c v v_0 v_1 v_2 v_3 v_4 S s_0 s_1 s_2 s_3 s_4 s_5 h_v h_S hc hS.deals4) ok_54 G (Si [8,9,10,11,12,2,3,4,5,6,7] G) G fun y81 v81 h81 => nl (odH G G G trivial (Sc 0 G Sn) (SubD.tail Sr))),fun V De _=>aP1 (ap 0 0 G G G G app_45 (by omega) (by omega) G fun v82 => nl (odH G G G trivial Sn (SubD.tail Sr))),fun V De _=>aP4 (ldM 1 (cScene v v_0 v_1 v_2 v_3 v_4) G G (Rg G) G G<|oh G G G G) (ldM 2 (cScene v v_0 v_1 v_2 v_3 v_4) G G (Rg G) G G<|oh G G G G) (ldM 2 (cScene v v_0 v_1 v_2 v_3 v_4) G G (Rg G) G G<|oh G G G G) (ldM 2 (cScene v v_0 v_1 v_2 v_3 v_4) G G (Rg G) G G<|oh G G G G),fun V De _=>aP4 (ldM 0 (cState S s_0 s_1 s_2 s_3 s_4 s_5) G G (Rg G) G G<|oh G G G G) (ldM 1 (cState S s_0 s_1 s_2 s_3 s_4 s_5) G G (Rg G) G G<|oh G G G G) (ldM 1 (cState S s_0 s_1 s_2 s_3 s_4 s_5) G G (Rg G) G G<|oh G G G G) (ldM 1 (cState S s_0 s_1 s_2 s_3 s_4 s_5) G G (Rg G) G G<|oh G G G G),fun V De _=>aP1 (cf (others_c v v_0 v_1 v_2 v_3 v_4 S s_0 s_1 s_2 s_3 s_4 s_5 h_v h_S hc hS) ok_55 G (Si [8,9,10,11,12,2,3,4,5,6,7] G) G fun y85 v85 h85 => nl (odH G G G trivial (Sc 0 G Sn) (SubD.tail Sr))),fun V De _=>aP1 (ap 0 0 G G G G app_45 (by simp only [List.length_append]; omega) (by simp only [List.length_append]; omega) G fun v86 => nl (odH G G G trivial Sn (SubD.tail Sr))),fun V De _=>aP1 (asg G G<|nl (odH G G G trivial Sn Sr)),trivial⟩ fun V _ => wD [2,3,4,5,6,7,8,9,10,11,12,13,14] G<|?_
   generalize V 11 = v11
   refine nx<|sq<|sa 1 G<|bk ?_
   rw [show row 37 v11 (movesL v S ++ dealL v S.fDeals S.fDeals.length ++ sidesL v S v.fStates v.fStates.length) = row 37 v11 (movesL v S ++ dealL v S.fDeals S.fDeals.length ++ sidesL v S v.fStates v.fStates.length ++ lateL v S.fWaits 0) from by rw [lateL, List.append_nil]]
   refine lpE (σ := Nat × Value) [(2, _), (8, _)] _ (fun s C => (10, .int .i64 (s.1 : Int)) :: (9, s.2) :: C) (fun s => [row 37 s.2 (movesL v S ++ dealL v S.fDeals S.fDeals.length ++ sidesL v S v.fStates v.fStates.length ++ lateL v S.fWaits s.1), bl b8 55 (cState S s_0 s_1 s_2 s_3 s_4 s_5), bl b2 32 (cScene v v_0 v_1 v_2 v_3 v_4), fz X w]) (fun _ Dc => Dc) (fun s => s.1 ≤ S.fWaits.length) (fun s => S.fWaits.length - s.1) (0, _) (Gs G) (Sc 2 G (Sc 3 G (Sc 4 G (Sc 5 G (Sc 6 G (Sc 7 G (Sc 8 G (Sc 9 G (Sc 10 G (Sc 11 G (Sc 12 G Sn))))))))))) (Nat.zero_le _) (Gs G) G (Sc 2 G (Sc 3 G (Sc 4 G (Sc 5 G (Sc 6 G (Sc 7 G (Sc 8 G (Sc 9 G (Sc 10 G (Sc 11 G (Sc 12 G Sn))))))))))) ?_
   rintro ⟨i, rv⟩ hi
   simp only at hi
   show WC _ _ _ [(10, .int .i64 ((i : Int))), (9, _), (2, _), (8, _)] [row 37 rv (movesL v S ++ dealL v S.fDeals S.fDeals.length ++ sidesL v S v.fStates v.fStates.length ++ lateL v S.fWaits i), bl b8 55 (cState S s_0 s_1 s_2 s_3 s_4 s_5), bl b2 32 (cScene v v_0 v_1 v_2 v_3 v_4), fz X w] _
   refine sq<|qg<|rl 3 [1] G G<|lnP 2 G G Tryz.underlying51 G fun l90 => ru 1 G<|nl<|nx<|cdP G (fun h91 => ?_) (fun h91 => ?_)
   ·
    refine sk<|nx<|sq<|bk<|qg<|rl 3 [1] G G<|ixP 2 G G G slt_51 (by omega) (gE (by omega)) G fun v97 => ldS 0 G G (Rg G) G fun q98 w98 => al zero_108 G fun b11 => stW 0 (us := (cWait ((S.fWaits.getD i default)))) G G G (Rg G) G G<|nl<|nx<|qg<|rl 4 [0] G G ?_
    refine jy 102 8 [2,8,9,10,11] G G (fun h102 K110 => by
     have p102 := of_decide_eq_true h102
     exact gY G G G<|ldM 3 (cScene v v_0 v_1 v_2 v_3 v_4) G G (Rg G) G G<|rl 4 [0,0] G G<|gY G G G<|cfv (rage_c _ _ _ _ _ _ _ _ h_v w98.2.1 w98.2.2.1) ok_56 G (Si [8,9,10,11,12] G) G<|ru 1 G<|ru 1 G<|K110 G Sr) ?_
    refine nl<|nx<|cdB G (fun h110 => ?_) (fun h110 => ?_)
    ·
     refine rg<|rl 5 [0,0] G G<|bd (ps := [(0, .const (.int .i64 3)), (1, .tmp 113), (2, .tmp 115)]) (cs := (cCommand ((⟨3, (S.fWaits.getD i default).fClient, (S.fWaits.getD i default).fSeq, 0, 0, 0, ByteArray.empty, 0, 0, 0, false, oZ, pZ, []⟩ : TCommand)) nS)) (by rfl) (by kernel_rfl) G<|bsM G app_45 G G G G fun b117 => ?_
     refine frS1 (α := TCommand) ((cmdK 3 (S.fWaits.getD i default).fClient (S.fWaits.getD i default).fSeq) : TCommand) (fun S w h => ⟨nS, G, fun t ht => by
       simp only [List.mem_cons, List.not_mem_nil, or_false] at ht
       subst ht
       exact nil_list S w, (cmdK_wf (kI 3) w98.2.1 w98.2.2.1)⟩) ?_
     refine ap 1 0 G G G G app_45 (by have := lateL_len v S.fWaits i; simp only [List.length_append, List.length_cons, List.length_nil]; omega) (by have := lateL_len v S.fWaits i; simp only [List.length_append, List.length_cons, List.length_nil]; omega) G fun v118 => ru 1 G<|nl<|bN<|nx<|rg<|mv G G<|adI G G (inI (by omega) (by omega)) G<|ru 1 G<|nl<|dpQ ?_
     have hX : (movesL v S ++ dealL v S.fDeals S.fDeals.length ++ sidesL v S v.fStates v.fStates.length ++ lateL v S.fWaits (i + 1)) = (movesL v S ++ dealL v S.fDeals S.fDeals.length ++ sidesL v S v.fStates v.fStates.length ++ lateL v S.fWaits i) ++ [(cmdK 3 (S.fWaits.getD i default).fClient (S.fWaits.getD i default).fSeq)] := by rw [lateL, lateR_T h110, ← List.append_assoc]
     exact ag ((i + 1, v118) : Nat × Value) (by show i + 1 ≤ S.fWaits.length; omega) (by show S.fWaits.length - (i + 1) < S.fWaits.length - i; omega) (Gs G) (congrArg (fun x_ => [row 37 v118 x_, bl b8 55 (cState S s_0 s_1 s_2 s_3 s_4 s_5), bl b2 32 (cScene v v_0 v_1 v_2 v_3 v_4), fz X w]) hX) (Si [3,4,5,6,7,8,9,10,11,12,13] G)
    ·
     refine sk<|bN<|nx<|rg<|mv G G<|adI G G (inI (by omega) (by omega)) G<|ru 1 G<|nl<|dpQ ?_
     have hX : (movesL v S ++ dealL v S.fDeals S.fDeals.length ++ sidesL v S v.fStates v.fStates.length ++ lateL v S.fWaits (i + 1)) = (movesL v S ++ dealL v S.fDeals S.fDeals.length ++ sidesL v S v.fStates v.fStates.length ++ lateL v S.fWaits i) := by rw [lateL, lateR_F h110, List.append_nil]
     exact ag ((i + 1, rv) : Nat × Value) (by show i + 1 ≤ S.fWaits.length; omega) (by show S.fWaits.length - (i + 1) < S.fWaits.length - i; omega) (Gs G) (congrArg (fun x_ => [row 37 rv x_, bl b8 55 (cState S s_0 s_1 s_2 s_3 s_4 s_5), bl b2 32 (cScene v v_0 v_1 v_2 v_3 v_4), fz X w]) hX) (Si [2,3,4,5,6,7,8,9,10,11,12] G)
   ·
    obtain rfl : i = S.fWaits.length := by omega
    exact ex<|tE<|tE<|bE<|nx<|sa 2 G<|rt<|frRQ<|dpQ<|dpQ<|fR1 () G G trivial G (by rw [eD]; exact (SubD.cons 0 rfl SubD.nil))
end Go.Proofs.YtmpoffijcfaalaaGreat
