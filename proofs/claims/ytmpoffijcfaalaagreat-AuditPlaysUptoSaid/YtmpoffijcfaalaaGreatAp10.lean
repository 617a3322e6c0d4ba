/- Part 10 of auditPlays_holds. -/
import Derived.Test.YtmpoffijcfaalaaGreatAp9

set_option maxRecDepth 20000
set_option maxHeartbeats 1000000
namespace Go.Proofs.YtmpoffijcfaalaaGreat
open Go.Eng Go.YtmpoffijcfaalaaGreat
theorem saccs_c (s : TState) (s_0 s_1 s_2 s_3 s_4 s_5 : Value) (h_s : s.wf) : FnV Pg 181 [.agg (cState s s_0 s_1 s_2 s_3 s_4 s_5).toArray] [⟨s_0, s.fAccounts⟩, ⟨s_1, s.fMarks⟩, ⟨s_2, s.fWaits⟩, ⟨s_3, s.fDeals⟩, ⟨s_4, s.fEnds⟩, ⟨s_5, s.fImage⟩] (.bool (accsP s)) := by
 refine Fnc.proof Tryz.func181 G 48 G G fun X w => qg<|bx G G G fun b1 => ru 1 G<|nl<|nx<|sq<|qg<|rl 2 [0] G G<|lnP 0 G G Tryz.underlying50 G fun l7 => ru 1 G<|nl<|nx<|cdP G (fun h8 => ?_) (fun h8 => ?_)
 ·
  have e8 : (decide ((s.fAccounts.length : Int) > 12)) = true := (decide_eq_true h8)
  exact sa 1 G<|rt<|tR<|dpQ<|fR1 () G G (by rw [accsP, if_pos e8]) G Sn
 ·
  have e8 : (decide ((s.fAccounts.length : Int) > 12)) = false := (decide_eq_false h8)
  refine sk<|nx<|sq<|qg<|rl 2 [0] G G<|lnP 0 G G Tryz.underlying50 G fun l11 => mv G G<|nl<|nx<|bk<|lpC (σ := Nat) [(1, _), (10, _), (11, _)] _ (fun i C => (12, .int .i64 (i : Int)) :: C) (fun i => i ≤ s.fAccounts.length ∧ (∀ j, j < i → (!accsj s j) = true)) (fun i => s.fAccounts.length - i) 0 (Gs G) (Sc 0 G (Sc 1 G (Sc 2 G (Sc 3 G (Sc 4 G (Sc 5 G Sn)))))) ⟨Nat.zero_le _, fun j hj => absurd hj (Nat.not_lt_zero j)⟩ (Gs G) ?_
  rintro i ⟨hi, hall⟩
  refine sa 1 G<|sq<|cdP G (fun h13 => ?_) (fun h13 => ?_)
  ·
   refine sk<|nx<|sq<|bk<|qg<|mv G G<|ixQ 0 G G G slt_50 G fun v15 => ldS 0 G G (Rg G) G fun q16 w16 => ?_
   refine al zero_70 G fun b4 => ru 1 G<|oc 1 G fun o_q16 => stW 0 (us := (cAccount ((s.fAccounts.getD i default)) q16)) G G G (Rg G) (by simp only [List.all_cons, List.all_nil, Bool.and_true, o_q16]; rfl) G<|nl<|nx<|sq<|rgQ mixed (by kernel_rfl)<|ldM 0 (cAccount ((s.fAccounts.getD i default)) q16) G G (Rg G) G G<|cfq (acheck_c _ _ w16) (Kg G) G (Sc 1 G Sn) G<|ru 2 G ?_
   refine jz 20 3 [1,3,4,10,11,12] G G (fun h20 K23 => by
    have p20 := h20
    simp only [Bool.not_eq_true', Bool.not_eq_false', decide_eq_true_eq, decide_eq_false_iff_not] at p20
    exact gY G G G<|ldM 0 (cAccount ((s.fAccounts.getD i default)) q16) G G (Rg G) G G<|gY G G G<|cfq (aplain_c _ _ w16) (Kg G) G (Sc 1 G Sn) G<|ru 1 G<|K23 G Sr) ?_
   refine mv G G<|jz 24 6 [1,3,4,10,11,12] G G (fun h24 K30 => gY G G G<|ldM 1 (cState s s_0 s_1 s_2 s_3 s_4 s_5) G G (Rg G) G G<|rl 2 [0] G G<|gY G G G<|cfq (owns_c _ _ _ _ _ _ _ _ h_s) (Kg G) G (Si [3,4,5,6,7,8] G) G<|ru 2 G<|K30 G Sr)<|mv G G ?_
   refine jz 31 15 [1,10,11,12] G G (fun h31 K46 => by
    have p31 := h31
    try simp only [Bool.or_eq_false_iff, Bool.and_eq_true, decide_eq_true_eq, decide_eq_false_iff_not, Bool.not_eq_true', Bool.not_eq_false'] at p31
    refine ru 3 G ?_
    refine jy 34 11 [1,10,11,12,31] G G (fun h34 K45 => by
     have p34 := of_decide_eq_true h34
     exact rl 5 [0,1] G G<|gY G G G<|sbI G G inI G<|gY G G G<|ixQ 3 G G G slt_50 G fun v41 => gY G G G<|faP (α := TAccount) (β := ByteArray) 0 (fun x : TAccount => x.fKey) G G (Fg G) pAccount_0 G fun v42 => gY G G G<|ldV 0 G G (Og G) G fun w43 => gY G G G<|leS G G G<|ru 1 G<|K45 G (SubD.tail (SubD.tail Sr))) ?_
    exact ru 1 G<|K46 G Sr) ?_
   refine nlQ<|nx<|cdB G (fun h46 => ?_) (fun h46 => ?_)
   · exact sa 1 G<|rt<|bR<|tR<|tR<|bR<|tR<|dpQ<|dpQ<|fR1 () G G (by rw [accsP, if_neg (by rw [e8]; decide), allI_false i (by omega) (not_t h46)]) G Sn
   ·
    refine sk<|bN<|nx<|rg<|adI G G inI G<|mv G G<|nl<|dpQ ?_
    exact ag (i + 1) ⟨(by omega), (all_snoc hall (not_f h46))⟩ (by omega) (Gs G) G (Si [3,4,5,6,7,8] G)
  · exact ex<|tE<|tE<|bE<|nx<|sa 1 G<|rt<|dpQ<|fR1 () G G (by rw [accsP, if_neg (by rw [e8]; decide), allI_true (fun j hj => hall j (by omega))]) G Sn
theorem indexDeal_c (v_l : Value) (l : List TDeal) (f : Nat) (caps : Array Value) (A : List Atom) (p : TDeal → Bool) (hok : FnOk Pg f) (hcl : ∀ x : TDeal, x.wf → FnV Pg f (.agg (cDeal x).toArray :: caps.toList) A (.bool (p x))) : FnV Pg 277 [v_l, .func (.func f) #[] caps] (⟨v_l, l⟩ :: A) (.int .i64 (placeI (firstI l.length (fun j => p (l.getD j default))))) := by
 refine Fnc.proof Tryz.func277 G 19 G G fun X w => sa 1 G<|sq<|qg<|mv G G<|lnP 0 G G Tryz.underlying52 G fun l7 => mv G G<|nl<|nx<|bk<|lpC (σ := Nat) [(0, _), (1, _), (7, _)] _ (fun i C => (8, .int .i64 (i : Int)) :: C) (fun i => i ≤ l.length ∧ (∀ j, j < i → p (l.getD j default) = false)) (fun i => l.length - i) 0 (Gs G) (Sc 0 G (SubD.tail Sr)) ⟨Nat.zero_le _, fun j hj => absurd hj (Nat.not_lt_zero j)⟩ (Gs G) ?_
 rintro i ⟨hi, hall⟩
 refine sa 1 G<|sq<|cdP G (fun h9 => ?_) (fun h9 => ?_)
 ·
  refine sk<|nx<|sq<|bk<|sa 2 G<|qg<|ru 2 G<|mv G G<|ixQ 0 G G G slt_52 G fun v14 => ldS 0 G G (Rg G) G fun q15 w15 => cfc (hcl _ w15) hok G G G (SubD.tail (SubD.tail (SubD.tail Sr))) G fun y16 v16 e16 => ?_
  obtain rfl : v16 = .bool (p (l.getD i default)) := e16
  refine nl<|nx<|cdB G (fun h16 => ?_) (fun h16 => ?_)
  · exact sa 2 G<|rt<|bR<|tR<|tR<|bR<|tR<|fR1 () G G (by rw [firstI_some (j := i) (by omega) hall h16]; try rfl) G Sn
  ·
   refine sk<|bN<|nx<|rg<|adI G G inI G<|mv G G<|nl ?_
   exact ag (i + 1) ⟨(by omega), (all_snoc hall (h16))⟩ (by omega) (Gs G) G (Sc 2 G (SubD.tail (SubD.tail (SubD.tail Sr))))
 · exact ex<|tE<|tE<|bE<|nx<|sa 1 G<|rt<|fR1 () G G (by rw [firstI_none (fun k hk => hall k (by omega))]; try rfl) G Sn
theorem indexPlace_c (v_l : Value) (l : List TPlace) (f : Nat) (caps : Array Value) (A : List Atom) (p : TPlace → Bool) (hok : FnOk Pg f) (hcl : ∀ x : TPlace, x.wf → FnV Pg f (.agg (cPlace x).toArray :: caps.toList) A (.bool (p x))) : FnV Pg 244 [v_l, .func (.func f) #[] caps] (⟨v_l, l⟩ :: A) (.int .i64 (placeI (firstI l.length (fun j => p (l.getD j default))))) := by
 refine Fnc.proof Tryz.func244 G 19 G G fun X w => sa 1 G<|sq<|qg<|mv G G<|lnP 0 G G Tryz.underlying22 G fun l7 => mv G G<|nl<|nx<|bk<|lpC (σ := Nat) [(0, _), (1, _), (7, _)] _ (fun i C => (8, .int .i64 (i : Int)) :: C) (fun i => i ≤ l.length ∧ (∀ j, j < i → p (l.getD j default) = false)) (fun i => l.length - i) 0 (Gs G) (Sc 0 G (SubD.tail Sr)) ⟨Nat.zero_le _, fun j hj => absurd hj (Nat.not_lt_zero j)⟩ (Gs G) ?_
 rintro i ⟨hi, hall⟩
 refine sa 1 G<|sq<|cdP G (fun h9 => ?_) (fun h9 => ?_)
 ·
  refine sk<|nx<|sq<|bk<|sa 2 G<|qg<|ru 2 G<|mv G G<|ixQ 0 G G G slt_22 G fun v14 => ldS 0 G G (Rg G) G fun q15 w15 => cfc (hcl _ w15) hok G G G (SubD.tail (SubD.tail (SubD.tail Sr))) G fun y16 v16 e16 => ?_
  obtain rfl : v16 = .bool (p (l.getD i default)) := e16
  refine nl<|nx<|cdB G (fun h16 => ?_) (fun h16 => ?_)
  · exact sa 2 G<|rt<|bR<|tR<|tR<|bR<|tR<|fR1 () G G (by rw [firstI_some (j := i) (by omega) hall h16]; try rfl) G Sn
  ·
   refine sk<|bN<|nx<|rg<|adI G G inI G<|mv G G<|nl ?_
   exact ag (i + 1) ⟨(by omega), (all_snoc hall (h16))⟩ (by omega) (Gs G) G (Sc 2 G (SubD.tail (SubD.tail (SubD.tail Sr))))
 · exact ex<|tE<|tE<|bE<|nx<|sa 1 G<|rt<|fR1 () G G (by rw [firstI_none (fun k hk => hall k (by omega))]; try rfl) G Sn
theorem place1_c (x : TDeal) (v1 v2 : Value) (c q : Int) (h_x : x.wf) : FnV Pg 278 [.agg (cDeal x).toArray, v1, v2] [⟨v1, (⟨c⟩ : Pt Int)⟩, ⟨v2, (⟨q⟩ : Pt Int)⟩] (.bool (decide (x.fClient = c) && decide (x.fSeq = q))) := by
 refine Fnc.proof Tryz.func278 G 15 G G fun X w => qg<|bx G G G fun b3 => ru 1 G<|nl<|nx<|qg<|rl 2 [0] G G<|ldV 0 G G (Og G) G fun w7 => ru 2 G ?_
 refine jy 9 5 [] G G (fun h9 K14 => by
  have p9 := of_decide_eq_true h9
  exact rl 2 [0] G G<|gY G G G<|ldV 1 G G (Og G) G fun w12 => ru 2 G<|K14 G Sr) ?_
 exact ru 1 G<|nl<|nx<|rt<|dpQ<|fR1 () G G (by rfl) G Sn
theorem place_c (v_l : Value) (l : List TDeal) (c : Int) (q : Int) (h_c : InI c) (h_q : InI q) : FnV Pg 221 [v_l, .int .i64 c, .int .i64 q] [⟨v_l, l⟩] (.int .i64 (placeI (placeO l c q))) := by
 refine Fnc.proof Tryz.func221 G 10 G G fun X w => ?_
 obtain ⟨h_c1, h_c2⟩ := id h_c
 obtain ⟨h_q1, h_q2⟩ := id h_q
 exact qg<|bx G G G fun b4 => bx G G G fun b5 => ru 1 G<|nl<|nx<|qg<|frP (α := Int) q (fun S w h => ⟨G, h_q⟩)<|frP (α := Int) c (fun S w h => ⟨G, h_c⟩)<|mv G G<|mf (xs := [.tmp 4, .tmp 5]) G G<|cfv (indexDeal_c _ _ 278 #[.pointer (some ⟨b4, 0, none⟩), .pointer (some ⟨b5, 0, none⟩)] [⟨_, (⟨c⟩ : Pt Int)⟩, ⟨_, (⟨q⟩ : Pt Int)⟩] (fun x => decide (x.fClient = c) && decide (x.fSeq = q)) (Kg G) (fun x hx => place1_c x _ _ c q hx)) (Kg G) G (Si [2,0,1] G) G<|ru 1 G<|nl<|nx<|rt<|fR1 () G G (by rfl) G Sn
theorem deals_c (v_l : Value) (l : List TDeal) : FnV Pg 183 [v_l] [⟨v_l, l⟩] (.int .i64 (errF (dealsP l))) := by
 refine Fnc.proof Tryz.func183 G 29 G G fun X w => sa 1 G<|sq<|qg<|mv G G<|lnP 0 G G Tryz.underlying52 G fun l6 => ru 1 G<|nl<|nx<|cdP G (fun h7 => ?_) (fun h7 => ?_)
 ·
  have e7 : (decide ((l.length : Int) > 4)) = true := (decide_eq_true h7)
  exact sa 1 G<|rt<|tR<|fR1 () G G (by rw [dealsP, if_pos e7]; try rfl) G Sn
 ·
  have e7 : (decide ((l.length : Int) > 4)) = false := (decide_eq_false h7)
  refine sk<|nx<|sq<|qg<|mv G G<|lnP 0 G G Tryz.underlying52 G fun l9 => mv G G<|nl<|nx<|bk<|lpC (σ := Nat) [(0, _), (8, _), (9, _)] _ (fun i C => (10, .int .i64 (i : Int)) :: C) (fun i => i ≤ l.length ∧ (∀ j, j < i → (!dealsj l j) = true)) (fun i => l.length - i) 0 (Gs G) (Sc 0 G Sn) ⟨Nat.zero_le _, fun j hj => absurd hj (Nat.not_lt_zero j)⟩ (Gs G) ?_
  rintro i ⟨hi, hall⟩
  refine sa 1 G<|sq<|cdP G (fun h11 => ?_) (fun h11 => ?_)
  ·
   refine sk<|nx<|sq<|bk<|qg<|mv G G<|ixQ 0 G G G slt_52 G fun v13 => ldS 0 G G (Rg G) G fun q14 w14 => al zero_126 G fun b4 => ru 1 G<|stW 0 (us := (cDeal ((l.getD i default)))) G G G (Rg G) G G<|nl<|nx<|qg<|ldM 0 (cDeal ((l.getD i default))) G G (Rg G) G G<|cfv (dmay_c _ w14) (Kg G) G Sn G<|ru 2 G ?_
   refine jz 18 9 [0,8,9,10] G G (fun h18 K27 => by
    exact rl 5 [0,0] G G<|gY G G G<|cfv (place_c _ _ _ _ w14.1 w14.2.1) (Kg G) G (Sc 2 G Sn) G<|ru 1 G<|ru 2 G<|K27 G Sr) ?_
   refine nl<|nx<|cdB G (fun h27 => ?_) (fun h27 => ?_)
   · exact sa 1 G<|rt<|bR<|tR<|tR<|bR<|tR<|dpQ<|fR1 () G G (by rw [dealsP, if_neg (by rw [e7]; decide), allI_false i (by omega) (not_t h27)]; try rfl) G Sn
   ·
    refine sk<|bN<|nx<|rg<|adI G G inI G<|mv G G<|nl<|dpQ ?_
    exact ag (i + 1) ⟨(by omega), (all_snoc hall (not_f h27))⟩ (by omega) (Gs G) G (Sc 2 G Sn)
  · exact ex<|tE<|tE<|bE<|nx<|sa 1 G<|rt<|fR1 () G G (by rw [dealsP, if_neg (by rw [e7]; decide), allI_true (fun j hj => hall j (by omega))]; try rfl) G Sn
theorem rcheck_c (v_l : Value) (l : List TPlace) : FnV Pg 187 [v_l] [⟨v_l, l⟩] (.int .i64 (errF (rplacesP l))) := by
 refine Fnc.proof Tryz.func187 G 68 G G fun X w => sa 1 G<|sq<|qg<|mv G G<|lnP 0 G G Tryz.underlying22 G fun l7 => ru 2 G ?_
 refine jz 9 6 [0] G G (fun h9 K15 => by
  have p9 := of_decide_eq_false h9
  exact ru 1 G<|gY G G G<|ixQ 0 G G G slt_22 G fun v11 => gY G G G<|faP (α := TPlace) (β := ByteArray) 0 (fun x : TPlace => x.fFrom) G G (Fg G) pPlace_1 G fun v12 => gY G G G<|ldV 0 G G (Og G) G fun w13 => ru 2 G<|K15 G (SubD.tail (SubD.tail Sr))) ?_
 refine nl<|nx<|cdB G (fun h15 => ?_) (fun h15 => ?_)
 ·
  have e15 : (rpl1 l) = true := h15
  exact sa 1 G<|rt<|tR<|fR1 () G G (by rw [rplacesP, if_pos e15]; try rfl) G Sn
 ·
  have e15 : (rpl1 l) = false := h15
  refine sk<|nx<|qg<|al zero_294 G fun b3 => nl<|nx<|sq<|qg<|mv G G<|lnP 0 G G Tryz.underlying22 G fun l17 => mv G G<|nl<|nx<|bk<|lpE (σ := Nat) [(0, _), (3, _), (16, _), (17, _)] _ (fun i C => (18, .int .i64 (i : Int)) :: C) (fun i => [bl b3 294 (seenC l i), fz X w]) (fun _ Dc => Dc) (fun i => i ≤ l.length ∧ (∀ j, j < i → (!rplj l j) = true)) (fun i => l.length - i) 0 (Gs G) (Sc 0 G Sn) ⟨Nat.zero_le _, fun j hj => absurd hj (Nat.not_lt_zero j)⟩ (Gs G) G (Sc 0 G Sn) ?_
  rintro i ⟨hi, hall⟩
  refine sa 1 G<|sq<|cdP G (fun h19 => ?_) (fun h19 => ?_)
  ·
   refine sk<|nx<|sq<|bk<|qg<|mv G G<|ixQ 0 G G G slt_22 G fun v21 => ldS 0 G G (Rg G) G fun q22 w22 => ?_
   refine al zero_90 G fun b5 => ru 1 G<|stW 0 (us := (cPlace ((l.getD i default)))) G G G (Rg G) G G<|nl<|nx<|sq<|sq<|rgQ mixed (by kernel_rfl)<|rl 2 [0] G G<|cfq (rgroup_c _ w22.1) (Kg G) G Sn G<|ru 2 G ?_
   refine jz 27 5 [0,3,4,5,16,17,18] G G (fun h27 K32 => by
    have pg : 1 ≤ (l.getD i default).fGroup ∧ (l.getD i default).fGroup < 8 := by
     have q := h27
     simp only [okGroup, Bool.not_eq_false', Bool.or_eq_false_iff, Bool.and_eq_true, decide_eq_true_eq] at q
     exact q
    exact rl 2 [0] G G<|gY G G G<|ixA G G arr_294 (by omega) (by omega) G<|gY G G G<|ldB 1 G G (Og G) (seen_get (by omega) (by omega)) G<|ru 1 G<|K32 G Sr) ?_
   refine mv G G<|jb 33 4 [0] [0,3,4,5,16,17,18] G G G<|mv G G<|jb 38 4 [0] [0,3,4,5,16,17,18] G G G<|mv G G<|jz 43 5 [0,3,4,5,16,17,18] G G (fun h43 K48 => rl 2 [0] G G<|gY G G G<|lnS G Tryz.underlying9 G<|ru 2 G<|K48 G Sr)<|mv G G ?_
   refine jz 49 14 [0,3,5,16,17,18] G G (fun h49 K63 => by
    have p49 := h49
    try simp only [Bool.or_eq_false_iff, Bool.and_eq_true, decide_eq_true_eq, decide_eq_false_iff_not, Bool.not_eq_true', Bool.not_eq_false'] at p49
    refine ru 3 G ?_
    refine jy 52 10 [0,3,5,16,17,18,49] G G (fun h52 K62 => by
     have p52 := of_decide_eq_true h52
     exact rl 4 [0] G G<|gY G G G<|sbI G G inI G<|gY G G G<|ixQ 2 G G G slt_22 G fun v58 => gY G G G<|faP (α := TPlace) (β := ByteArray) 0 (fun x : TPlace => x.fFrom) G G (Fg G) pPlace_1 G fun v59 => gY G G G<|ldV 0 G G (Og G) G fun w60 => gY G G G<|leS G G G<|ru 1 G<|K62 G (SubD.tail (SubD.tail Sr))) ?_
    exact ru 1 G<|K63 G Sr) ?_
   refine nlQ<|nx<|cdB G (fun h63 => ?_) (fun h63 => ?_)
   · exact sa 1 G<|rt<|tR<|bR<|tR<|tR<|bR<|tR<|dpQ<|dpQ<|fR1 () G G (by rw [rplacesP, if_neg (by rw [e15]; decide), allI_false i (by omega) (not_t h63)]; try rfl) G Sn
   ·
    have pg : 1 ≤ (l.getD i default).fGroup ∧ (l.getD i default).fGroup < 8 := by
     have q := h63
     simp only [okGroup, Bool.not_eq_false', Bool.or_eq_false_iff, Bool.and_eq_true, decide_eq_true_eq] at q
     exact q.1.1.1.1.1
    refine sk<|nx<|rg<|rl 2 [0] G G<|ixA G G arr_294 (by omega) (by omega) G<|stB 1 G G G (Og G) G (by rw [seen_len]; omega)<|nl<|bN<|nx<|rg<|adI G G inI G<|mv G G<|nl<|dpQ ?_
    exact ag (i + 1) ⟨(by omega), (all_snoc hall (not_f h63))⟩ (by omega) (Gs G) (by rw [← seen_set (l := l) (i := i) (by omega) (by omega)]; rfl) (Sc 2 G Sn)
  · exact ex<|tE<|tE<|bE<|nx<|sa 1 G<|rt<|dpQ<|fR1 () G G (by rw [rplacesP, if_neg (by rw [e15]; decide), allI_true (fun j hj => hall j (by omega))]; try rfl) G Sn
end Go.Proofs.YtmpoffijcfaalaaGreat
namespace Go.YtmpoffijcfaalaaGreat
open Go.Eng
theorem pigeon : ∀ (n : Nat) (m : Nat) (f : Nat → Nat), (∀ i, i < m → f i < n) → (∀ i j, i < m → j < m → f i = f j → i = j) → m ≤ n
 | 0, m, f, hf, _ => by
  rcases Nat.eq_zero_or_pos m with h | h
  · omega
  · exact absurd (hf 0 h) (by omega)
 | n + 1, m, f, hf, hi => by
  by_cases h : ∃ i, i < m ∧ f i = n
  · obtain ⟨i0, h0, e0⟩ := h
    have := pigeon n (m - 1) (fun i => if i < i0 then f i else f (i + 1)) (fun i him => by
     have a1 := hf i (by omega)
     have a2 := hf (i + 1) (by omega)
     show (if i < i0 then f i else f (i + 1)) < n
     split
     · rename_i hlt
       have : f i ≠ n := fun e => by have := hi i i0 (by omega) h0 (by rw [e, e0]); omega
       omega
     · rename_i hlt
       have : f (i + 1) ≠ n := fun e => by have := hi (i + 1) i0 (by omega) h0 (by rw [e, e0]); omega
       omega) (fun i j him hjm e => by
     have e : (if i < i0 then f i else f (i + 1)) = (if j < i0 then f j else f (j + 1)) := e
     split at e <;> split at e
     · exact hi i j (by omega) (by omega) e
     · have := hi i (j + 1) (by omega) (by omega) e; omega
     · have := hi (i + 1) j (by omega) (by omega) e; omega
     · have := hi (i + 1) (j + 1) (by omega) (by omega) e; omega)
    omega
  · have := pigeon n m f (fun i him => by
     have a1 := hf i him
     have : f i ≠ n := fun e => h ⟨i, him, e⟩
     omega) hi
    omega
theorem seen_iff {l : List TPlace} {g : Nat} : ∀ {i : Nat}, seenB l i g = true ↔ ∃ k, k < i ∧ (l.getD k default).fGroup = (g : Int)
 | 0 => by simp [seenB]
 | i + 1 => by
  rw [seenB, Bool.or_eq_true, seen_iff, decide_eq_true_eq]
  constructor
  · rintro (⟨k, hk, e⟩ | e)
    · exact ⟨k, by omega, e⟩
    · exact ⟨i, by omega, e⟩
  · rintro ⟨k, hk, e⟩
    rcases Nat.lt_or_ge k i with h | h
    · exact .inl ⟨k, h, e⟩
    · right
      have : k = i := by omega
      subst this
      exact e
theorem rplaces_len {l : List TPlace} (h : rplacesP l = true) : l.length ≤ 7 := by
 unfold rplacesP at h
 split at h
 · cases h
 · have hj : ∀ j, j < l.length → okGroup (l.getD j default).fGroup = true ∧ seenB l j (l.getD j default).fGroup.toNat = false := fun j hj => by
    have := allI_iff.1 h j hj
    simp only [Bool.not_eq_true', rplj, Bool.or_eq_false_iff, Bool.not_eq_false'] at this
    exact ⟨this.1.1.1.1.1, this.1.1.1.1.2⟩
   have hg : ∀ j, j < l.length → (l.getD j default).fGroup ≥ 1 ∧ (l.getD j default).fGroup < 8 := fun j hjl => by
    have := (hj j hjl).1
    simpa only [okGroup, Bool.and_eq_true, decide_eq_true_eq] using this
   have hs : ∀ i j, i < j → j < l.length → (l.getD i default).fGroup ≠ (l.getD j default).fGroup := fun i j hij hjl e => by
    have h2 := (hj j hjl).2
    rw [← Bool.not_eq_true, seen_iff] at h2
    have := hg j hjl
    exact h2 ⟨i, hij, by omega⟩
   refine pigeon 7 l.length (fun i => (l.getD i default).fGroup.toNat - 1) (fun i hi => ?_) (fun i j hi hjl ee => ?_)
   · have := hg i hi
     show (l.getD i default).fGroup.toNat - 1 < 7
     omega
   · have gi := hg i hi
     have gj := hg j hjl
     have ee : (l.getD i default).fGroup.toNat - 1 = (l.getD j default).fGroup.toNat - 1 := ee
     have ei : (l.getD i default).fGroup = (l.getD j default).fGroup := by omega
     rcases Nat.lt_trichotomy i j with hlt | hlt | hlt
     · exact absurd ei (hs i j hlt hjl)
     · exact hlt
     · exact absurd ei.symm (hs j i hlt hi)
end Go.YtmpoffijcfaalaaGreat
namespace Go.Proofs.YtmpoffijcfaalaaGreat.Ep
open Go.Eng Go.YtmpoffijcfaalaaGreat Go.RowKit
theorem zero_3 : ZeroOf Pg 3 [.int .i64 0] := ZeroOf.mk (by kernel_rfl)
def mx (pre : List (ByteArray × TPlace)) : Int := pre.foldl (fun m x => max m x.2.fEpoch) 0
theorem mx_snoc (pre : List (ByteArray × TPlace)) (x : ByteArray × TPlace) : mx (pre ++ [x]) = max (mx pre) x.2.fEpoch := by simp [mx, List.foldl_append]
theorem mx_upto (l : List TPlace) : ∀ k, mx (upto l k) = maxI (fun j => (l.getD j default).fEpoch) k
 | 0 => rfl
 | k + 1 => by rw [upto_succ, mx_snoc, mx_upto l k]; rfl
theorem mx_all (l : List TPlace) : mx (upto l l.length) = epochP l := mx_upto l _
structure Inv (w0 w1 : World) (b3 : Nat) (pre : List (ByteArray × TPlace)) (W : World) : Prop where
 box : W.heap[b3]? = some (.cells #[.int .i64 (mx pre)] 3 (0, 0))
 size : w1.heap.size ≤ W.heap.size
 stp : Stp [] w0 W
structure InA (w1 : World) (b3 : Nat) (x : ByteArray × TPlace) (a : Act) (W : World) : Prop where
 ex : ∃ B5, w1.heap.size ≤ B5 ∧ W.heap[B5]? = some (.cells (cPlace x.2).toArray 90 (0, 0)) ∧ Fr 15 a [(5, .pointer (some ⟨B5, 0, none⟩)), (3, .pointer (some ⟨b3, 0, none⟩))]
theorem inv_own {w0 w1 : World} {b3 : Nat} (hb : b3 < w1.heap.size) (h01 : w0.heap.size ≤ w1.heap.size) : OwnFrom w1.heap.size (Inv w0 w1 b3) := fun s W W' row hs hg hr => by
 have hne : ∀ k, k < w1.heap.size → some k ≠ row := fun k hk e => by
  have := (hr k e.symm).1
  omega
 have keep : ∀ k, k < w1.heap.size → W'.heap[k]? = W.heap[k]? := fun k hk => hg.block k (Nat.lt_of_lt_of_le hk hs.size) (hne k hk)
 exact ⟨(keep b3 hb).trans hs.box, Nat.le_trans hs.size hg.size, ⟨hg.os.trans hs.stp.os, hg.tape.trans hs.stp.tape, hg.output.trans hs.stp.output, Nat.le_trans hs.stp.size hg.size, fun k hk hx => (keep k (Nat.lt_of_lt_of_le hk h01)).trans (hs.stp.block k hk hx)⟩⟩
theorem ina_own {w1 : World} {b3 : Nat} (x : ByteArray × TPlace) (a : Act) : OwnFrom w1.heap.size (fun (_ : Unit) W => InA w1 b3 x a W) := fun _ W W' row hs hg hr => by
 obtain ⟨B5, h1, h2, h3⟩ := hs.ex
 refine ⟨B5, h1, (hg.block B5 (Array.getElem?_eq_some_iff.1 h2).1 fun e => ?_).trans h2, h3⟩
 obtain ⟨_, o, ho, hc⟩ := hr B5 e.symm
 rw [h2] at ho
 cases ho
 cases hc
theorem inv_st {w0 w1 W : World} {b3 : Nat} {pre : List (ByteArray × TPlace)} (h : Inv w0 w1 b3 pre W) : St W [b3] W [bl b3 3 [.int .i64 (mx pre)]] := ⟨Stp.refl _ _, fun p hp => by
 have : p = bl b3 3 [.int .i64 (mx pre)] := by simpa using hp
 subst this
 exact h.box, by simp [Own.bs, bsOf], fun b hb => .inl (by simpa [Own.bs, bsOf] using hb)⟩
theorem inv_st2 {w0 w1 W : World} {b3 B5 : Nat} {pre : List (ByteArray × TPlace)} {p : TPlace} (h : Inv w0 w1 b3 pre W) (hb : b3 < w1.heap.size) (h5 : w1.heap.size ≤ B5) (hp : W.heap[B5]? = some (.cells (cPlace p).toArray 90 (0, 0))) :
  St W [b3, B5] W [bl B5 90 (cPlace p), bl b3 3 [.int .i64 (mx pre)]] := ⟨Stp.refl _ _, fun q hq => by
 have : q = bl B5 90 (cPlace p) ∨ q = bl b3 3 [.int .i64 (mx pre)] := by simpa using hq
 rcases this with rfl | rfl
 · exact hp
 · exact h.box, by simp [Own.bs, bsOf]; omega, fun b hb => .inl (by simpa [Own.bs, bsOf, or_comm] using hb)⟩
theorem stp_old {w0 w1 W W' : World} {M : List Nat} (h : Stp [] w0 W) (hs : Stp M W W') (hM : ∀ k ∈ M, w0.heap.size ≤ k) : Stp [] w0 W' :=
 ⟨hs.os.trans h.os, hs.tape.trans h.tape, hs.output.trans h.output, Nat.le_trans h.size hs.size, fun k hk hx => (hs.block k (Nat.lt_of_lt_of_le hk h.size) (fun hm => by have := hM k hm; omega)).trans (h.block k hk hx)⟩
theorem stp_keeps {W W' : World} {M : List Nat} {B : Nat} (hs : Stp M W W') (hM : ∀ k ∈ M, B ≤ k → ∃ c t p, W.heap[k]? = some (.cells c t p)) : KeepsFrom B W W' :=
 ⟨hs.size, fun k o hB hk ho => (hs.block k (Array.getElem?_eq_some_iff.1 hk).1 fun hm => by
  obtain ⟨c, t, p, h⟩ := hM k hm hB
  rw [hk] at h
  cases h
  cases ho).trans hk⟩
theorem seq_c (m : Nat) {w1 : World} {b1 b3 : Nat} {k5 : Value} {l : List TPlace} (hb1 : b1 < w1.heap.size) (hne : b1 ≠ b3) (box : w1.heap[b1]? = some (.cells #[k5] 22 (0, 0)))
  (hl : Atom.holds ⟨k5, l⟩ (fun b => b < w1.heap.size ∧ b ≠ b1 ∧ b ≠ b3) w1) (hlen : l.length ≤ 7) :
  SeqStopsK Fence.wide m Tryz.prog 280 #[.pointer (some ⟨b1, 0, none⟩)] encs (KB w1.heap.size b3) (fun xs => xs = upto l l.length) (fun _ => True) l.length w1 := by
 intro ll J Jx W hB hJ hJx hY h0
 refine callsIn_wide.2 (Calls.mono (iter m ll J Jx W b1 b3 w1.heap.size k5 l hb1 hne hB.size ((hB.block b1 hb1).trans box) (Atom.keep hl (fun _ h => h) (fun b h => hB.block b h.1)) hlen hJ hJx hY h0) ?_)
 rintro e w' ⟨v, rfl, h⟩
 refine ⟨⟨v, G⟩, ?_⟩
 rcases h with h | ⟨k, hk, h⟩
 · exact .inl ⟨_, G, h⟩
 · exact .inr ⟨_, trivial, h⟩
end Go.Proofs.YtmpoffijcfaalaaGreat.Ep
namespace Go.Proofs.YtmpoffijcfaalaaGreat
open Go.Eng Go.YtmpoffijcfaalaaGreat Go.RowKit Ep
theorem epoch_c (v_l : Value) (l : List TPlace) (hlen : l.length ≤ 7) : FnV Pg 172 [v_l] [⟨v_l, l⟩] (.int .i64 (epochP l)) := by
 refine FnV.proofM 2 Tryz.func172 G 15 G G fun w0 => sa 1 G<|qg<|al Ep.zero_3 G fun b3 => stB 0 G G G (Og G) G (nlt G)<|nl<|nx<|sq<|qg<|mv G G<|cf (all_c v_l l hlen) (Kg G) G (Sc 0 G Sn) G fun y v7 hv => ?_
 obtain ⟨b1, k5⟩ := y
 subst hv
 refine nl<|nx<|bk ?_
 intro a w1 f st dh
 have hbox1 : w1.heap[b1]? = some (.cells #[k5] 22 (0, 0)) := bl_at 0 rfl st
 have hbox3 : w1.heap[b3]? = some (.cells #[.int .i64 0] 3 (0, 0)) := bl_at 1 rfl st
 have hb1 : b1 < w1.heap.size := lt_of_heap hbox1
 have hb3 : b3 < w1.heap.size := lt_of_heap hbox3
 have hnd := st.nd
 have hne : b1 ≠ b3 := by simpa [Own.bs, bsOf] using hnd
 have hnew3 : w0.heap.size ≤ b3 := by simpa using st.new b3 (by simp [Own.bs, bsOf])
 have hl : Atom.holds ⟨k5, l⟩ (fun b => b < w1.heap.size ∧ b ≠ b1 ∧ b ≠ b3) w1 := Atom.keep (dh ⟨k5, l⟩ (by simp)) (fun b h => ⟨h.1, by simpa [Own.bs, bsOf] using h.2⟩) (fun _ _ => rfl)
 have hs0 : Stp [] w0 w1 := st.stp
 refine (wpIn_wide (n := 2)).1 (wpIn_rangeFunc_ownH (gf := 280) (lb := #[.pointer (some ⟨b1, 0, none⟩)]) (encs := encs) (Kp := KB w1.heap.size b3) (S := fun xs => xs = upto l l.length) (Sp := fun _ => True) (N := l.length) (w0 := w1) G (by decide) (f.ev G) trivial (run_callFunc (Kg G))
  (seq_c _ hb1 hne hbox1 hl hlen) (fun h k => h.trans k) (fun W ll o o' h _ _ _ => KB.putObj h) (Below.refl _ _) (fun _ => rfl) (Inv w0 w1 b3) (fun _ _ _ => False) (inv_own hb3 hs0.size) (fun _ _ _ _ _ h => h.elim) ⟨hbox3, Nat.le_refl _, hs0⟩ (InA w1 b3) (fun x a => ina_own x a) ?_ ?_ ?_ ?_)
 ·
  intro ll pre x W K hI hK
  refine round_region (K := K) G (fun _ _ h => h) ?_
  refine (show WL _ ⟨Tryz.prog, 15, W, [b3]⟩ _ _ [(9, .agg (cPlace x.2).toArray), (3, .pointer (some ⟨b3, 0, none⟩))] [bl b3 3 [.int .i64 (mx pre)]] [] from ?_) _ W (((f.round2 (p := 8) (q := 9) (show 8 < 15 by decide) (show 9 < 15 by decide) (.string x.1) (.agg (cPlace x.2).toArray))).sub (Gs G)) (inv_st hI) DH.nil
  refine al zero_90 G fun b5 => stW 0 (us := cPlace x.2) G G G (Rg G) G G<|nl ?_
  intro a' w' f' st' dh'
  have h5 : w'.heap[b5]? = some (.cells (cPlace x.2).toArray 90 (0, 0)) := bl_at 0 rfl st'
  have h3 : w'.heap[b3]? = some (.cells #[.int .i64 (mx pre)] 3 (0, 0)) := bl_at 1 rfl st'
  have hn5 : b5 ≠ b3 := by simpa [Own.bs, bsOf] using st'.nd
  have hge : W.heap.size ≤ b5 := by
   rcases st'.new b5 (by simp [Own.bs, bsOf]) with h | h
   · exact absurd (by simpa using h) hn5
   · exact h
  have hs : Stp [b3] W w' := st'.stp
  refine ⟨G, hK a' w' (stp_keeps hs fun k hk hB => ?_) (hs.kb hI.size fun k _ hk => by simpa using hk) ⟨h3, Nat.le_trans hI.size hs.size, stp_old (w1 := w1) hI.stp hs fun k hk => ?_⟩ ⟨b5, Nat.le_trans hI.size hge, h5, f'.sub (Gs G)⟩⟩
  ·
   have : k = b3 := by simpa using hk
   omega
  ·
   have : k = b3 := by simpa using hk
   omega
 ·
  rintro ll pre x a' W hll hr hI ⟨B5, hB5, hp5, f'⟩ hlenp
  refine wpIn_block (round_region (K := fun a W' => ownPostG w1.heap.size (KB w1.heap.size b3) (Inv w0 w1 b3) (fun _ _ _ => False) (pre ++ [x]) W .normal a W') G (fun _ _ h => h) ?_)
  refine (show WL _ ⟨Tryz.prog, 15, W, [b3, B5]⟩ _ _ [(5, .pointer (some ⟨B5, 0, none⟩)), (3, .pointer (some ⟨b3, 0, none⟩))] [bl B5 90 (cPlace x.2), bl b3 3 [.int .i64 (mx pre)]] [] from ?_) _ W f' (inv_st2 hI hb3 hB5 hp5) DH.nil
  refine rl 3 [1,0] G G<|mxI G G G G<|stB 1 G G G (Og G) G (nlt G)<|nl ?_
  intro a2 w2 f2 st2 dh2
  have h3 : w2.heap[b3]? = some (.cells #[.int .i64 (max (mx pre) x.2.fEpoch)] 3 (0, 0)) := bl_at 1 rfl st2
  have hs : Stp [b3, B5] W w2 := st2.stp
  refine ⟨G, stp_keeps hs fun k hk hB => ?_, hs.kb hI.size fun k hk1 hk => ?_, ⟨by rw [mx_snoc]; exact h3, Nat.le_trans hI.size hs.size, stp_old (w1 := w1) hI.stp hs fun k hk => ?_⟩⟩
  ·
   have : k = b3 ∨ k = B5 := by simpa using hk
   rcases this with rfl | rfl
   · exact ⟨_, _, _, hI.box⟩
   · exact ⟨_, _, _, hp5⟩
  ·
   have : k = b3 ∨ k = B5 := by simpa using hk
   omega
  ·
   have : k = b3 ∨ k = B5 := by simpa using hk
   have := hs0.size
   omega
 ·
  intro D xs W hD hS hI hK
  subst hS
  have h3 := hI.box
  rw [mx_all] at h3
  obtain ⟨A, hA⟩ : ∃ A : Act, A = { a with defers := { target := .collected D, args := #[] } :: a.defers } := ⟨_, rfl⟩
  have e3 : A.eval (.tmp 3) = .pointer (some ⟨b3, 0, none⟩) := by rw [hA]; exact f.ev (x := .tmp 3) (v := .pointer (some ⟨b3, 0, none⟩)) rfl
  have eD : A.defers = [{ target := .collected D, args := #[] }] := by rw [hA]; simp [f.dn]
  have eN : A.tmps.size = 15 := by rw [hA]; exact f.size
  rw [← hA]
  refine (show Code.wp Tryz.prog _ _ _ _ from ?_)
  refine wp_seq<|wp_region_lit<|wpList_val (v := .int .i64 (epochP l)) G ?_ ?_
  ·
   have := run_loadAt1 (P := Tryz.prog) one_3 (a := ⟨b3, 0, none⟩) (v := .int .i64 (epochP l)) (w := W) (by rw [cell_of_row W b3 0 _ 3 (0, 0) h3]; rfl)
   simp [execOp, e3, this]
  refine wpList_val (v := .int .i64 (epochP l)) G ?_ ?_
  ·
   simp [execOp, Act.put, Act.eval, eN]
  refine wpList_nil ?_
  refine (show Code.wp Tryz.prog _ _ _ _ from ?_)
  refine wp_ret ?_
  refine (show LeavesInM Fence.wide 2 Tryz.prog _ _ _ A.defers .returning W from ?_)
  rw [eD]
  refine ⟨by simp, .inl ⟨_, _, G, run_takeDeferred hK, ?_⟩⟩
  refine ⟨_, results_tmp G _ _ _, _, G, ?_, ?_⟩
  ·
   simp [Act.put, eN]
  ·
   exact stp_old (w1 := w1) (hI.stp) (W' := W.putObj D (.deferred none)) (M := [D]) ⟨G, G, G, by simp [World.putObj], fun k hk hx => World.putObj_heap_other (by simpa using hx)⟩ (fun k hk => by
    have : k = D := by simpa using hk
    have := hs0.size
    omega)
 ·
  intro D c pre W hD _ h
  exact h.elim
end Go.Proofs.YtmpoffijcfaalaaGreat
namespace Go.Proofs.YtmpoffijcfaalaaGreat
open Go.Eng Go.YtmpoffijcfaalaaGreat
section
variable (c : TChart) (c_0 c_1 : Value)
theorem pright1_c (x : TPlace) (v1 : Value) (c : TChart) (h_x : x.wf) : FnV Pg 189 [.agg (cPlace x).toArray, v1] [⟨v1, (⟨c⟩ : Pt TChart)⟩] (.bool (decide (x.fGroup ≥ c.fNext))) := by
 exact Fnc.proof Tryz.func189 G 9 G G fun X w => qg<|bx G G G fun b2 => ru 1 G<|nl<|nx<|qg<|rl 2 [0] G G<|faP (α := TChart) (β := Int) 0 (fun x : TChart => x.fNext) G G (Fg G) pChart_2 G fun v6 => ldV 0 G G (Og G) G fun w7 => ru 2 G<|nl<|nx<|rt<|dpQ<|fR1 () G G (by rfl) G Sn
theorem containsPlace_c (v_l : Value) (l : List TPlace) (f : Nat) (caps : Array Value) (A : List Atom) (p : TPlace → Bool) (hok : FnOk Pg f) (hcl : ∀ x : TPlace, x.wf → FnV Pg f (.agg (cPlace x).toArray :: caps.toList) A (.bool (p x))) : FnV Pg 188 [v_l, .func (.func f) #[] caps] (⟨v_l, l⟩ :: A) (.bool (decide (placeI (firstI l.length (fun j => p (l.getD j default))) ≥ 0))) := by
 exact Fnc.proof Tryz.func188 G 9 G G fun X w => sa 1 G<|qg<|ru 2 G<|cfv (indexPlace_c _ _ f caps A p hok hcl) (Kg G) G (Sc 0 G (SubD.tail Sr)) G<|ru 2 G<|nl<|nx<|rt<|fR1 () G G (by rfl) G Sn
theorem splits_c (h_c : c.wf) (hp : 0 < c.fPlaces.length) (hn : 2 ≤ c.fNext) : FnV Pg 191 [.agg (cChart c c_0 c_1).toArray] [⟨c_0, c.fPlaces⟩, ⟨c_1, c.fMarks⟩] (.bool (splitsP c)) := by
 refine Fnc.proof Tryz.func191 G 75 G G fun X w => ?_
 obtain ⟨nx1, nx2⟩ := id h_c.2.2.1
 have hfl := findP_lt (k := c.fPlan.fLo) hp
 refine gtC (q := c.fPlaces.length ≤ 9223372036854775807) (fun S w h => list_len (h _ (List.mem_of_getElem? (i := 0) G))) fun hlen => qg<|bx G G G fun b1 => ru 1 G<|nl<|nx<|qg<|ru 1 G<|ldM 0 (cPlan c.fPlan) G G (Rg G) G G<|al zero_24 G fun b3 => stW 0 (us := (cPlan c.fPlan)) G G G (Rg G) G G<|nl<|nx<|sq<|qg<|rl 4 [1,0] G G<|cfv (of_c _ _ _ h_c.2.2.2.2.1.2.2.1) (Kg G) G (Sc 0 G Sn) G<|ru 5 G<|nl<|nx<|qg<|ru 2 G ?_
 refine jz 19 7 [1,3] G G (fun h19 K26 => by
  have p19 := h19
  try simp only [Bool.or_eq_false_iff, Bool.and_eq_true, decide_eq_true_eq, decide_eq_false_iff_not, Bool.not_eq_true', Bool.not_eq_false'] at p19
  exact rl 4 [0,1] G G<|gY G G G<|sbI G G inI G<|ru 2 G<|K26 G Sr) ?_
 refine mv G G<|jz 27 5 [1,3] G G (fun h27 K32 => rl 2 [1] G G<|gY G G G<|lnP 0 G G Tryz.underlying22 G fun l30 => ru 2 G<|K32 G Sr)<|mv G G<|jb 33 4 [0] [1,3] G G G<|mv G G<|jz 38 5 [1,3] G G (fun h38 K43 => rl 2 [0] G G<|gY G G G<|lnS G Tryz.underlying9 G<|ru 2 G<|K43 G Sr)<|nl<|nx<|cdB G (fun h43 => ?_) (fun h43 => ?_)
 ·
  have e43 : (split1 c) = true := h43
  exact sa 1 G<|rt<|tR<|dpQ<|dpQ<|fR1 () G G (by rw [splitsP, e43]; try rfl) G Sn
 ·
  have e43 : (split1 c) = false := h43
  refine sk<|nx<|qg<|rl 4 [1,0] G G<|cfv (find_c _ _ _) (Kg G) G (Sc 0 G Sn) G<|ru 1 G<|nl<|nx<|qg<|rl 3 [1] G G<|ixQ 0 G G G slt_22 G fun v52 => ldS 0 G G (Rg G) G fun q53 w53 => al zero_90 G fun b7 => stW 0 (us := (cPlace ((c.fPlaces.getD (findP c.fPlaces c.fPlan.fLo) default)))) G G G (Rg G) G G<|nl<|nx<|sq<|rgQ mixed (by kernel_rfl)<|rl 6 [1,0] G G<|ja 59 6 [1,0] [1,3,6] G G G<|mv G G ?_
  refine jy 66 8 [] G G (fun h66 K74 => by
   exact rl 5 [1,2] G G<|gY G G G<|cfq (end_c _ _ _ inI) (Kg G) G (Sc 2 G Sn) G<|ru 1 G<|ru 1 G<|K74 G Sr) ?_
  exact ru 1 G<|nlQ<|nx<|rt<|dpQ<|dpQ<|dpQ<|fR1 () G G (by rw [splitsP, e43]; try rfl) G Sn
theorem merges_c (h_c : c.wf) (hp : 0 < c.fPlaces.length) : FnV Pg 192 [.agg (cChart c c_0 c_1).toArray] [⟨c_0, c.fPlaces⟩, ⟨c_1, c.fMarks⟩] (.bool (mergesP c)) := by
 refine Fnc.proof Tryz.func192 G 55 G G fun X w => ?_
 obtain ⟨nx1, nx2⟩ := id h_c.2.2.1
 have hol := ofP_lt (g := c.fPlan.fTo) hp
 refine gtC (q := c.fPlaces.length ≤ 9223372036854775807) (fun S w h => list_len (h _ (List.mem_of_getElem? (i := 0) G))) fun hlen => qg<|bx G G G fun b1 => ru 1 G<|nl<|nx<|qg<|ru 1 G<|ldM 0 (cPlan c.fPlan) G G (Rg G) G G<|al zero_24 G fun b3 => stW 0 (us := (cPlan c.fPlan)) G G G (Rg G) G G<|nl<|nx<|qg<|rl 4 [1,0] G G<|cfv (of_c _ _ _ h_c.2.2.2.2.1.2.2.1) (Kg G) G (Sc 0 G Sn) G<|ru 5 G<|nl<|nx<|sq<|qg<|ru 3 G ?_
 refine jz 19 7 [1,3,4] G G (fun h19 K26 => by
  have p19 := h19
  try simp only [Bool.or_eq_false_iff, Bool.and_eq_true, decide_eq_true_eq, decide_eq_false_iff_not, Bool.not_eq_true', Bool.not_eq_false'] at p19
  exact ru 1 G<|gY G G G<|adI G G inI G<|rl 2 [1] G G<|gY G G G<|lnP 0 G G Tryz.underlying22 G fun l24 => ru 2 G<|K26 G Sr) ?_
 refine nl<|nx<|cdB G (fun h26 => ?_) (fun h26 => ?_)
 ·
  have e26 : (merge1 c) = true := h26
  exact sa 1 G<|rt<|tR<|dpQ<|dpQ<|fR1 () G G (by rw [mergesP, e26]; try rfl) G Sn
 ·
  have hq : nxt c < (c.fPlaces.length : Int) := by
   have q := h26
   simp only [Bool.or_eq_false_iff, decide_eq_false_iff_not] at q
   have q2 := q.2
   show (((ofP c.fPlaces c.fPlan.fTo).getD 0 : Nat) : Int) + 1 < _
   omega
  unfold nxt at hq
  have e26 : (merge1 c) = false := h26
  refine sk<|nx<|qg<|rl 3 [1] G G<|adI G G inI G<|ixQ 0 G G G slt_22 G fun v31 => ldS 0 G G (Rg G) G fun q32 w32 => al zero_90 G fun b6 => stW 0 (us := (cPlace ((c.fPlaces.getD (((((ofP c.fPlaces c.fPlan.fTo).getD 0 : Nat) : Int) + 1)).toNat default)))) G G G (Rg G) G G<|nl<|nx<|sq<|rgQ mixed (by kernel_rfl)<|rl 6 [1,0] G G<|ja 38 6 [1,0] [1,3,4] G G G<|mv G G ?_
  refine jy 45 9 [] G G (fun h45 K54 => by
   have p45 := h45
   try simp only [Bool.or_eq_false_iff, Bool.and_eq_true, decide_eq_true_eq, decide_eq_false_iff_not, Bool.not_eq_true', Bool.not_eq_false'] at p45
   exact rl 5 [1,2] G G<|gY G G G<|adI G G inI G<|gY G G G<|cfq (end_c _ _ _ inI) (Kg G) G (Sc 2 G Sn) G<|ru 2 G<|K54 G Sr) ?_
  exact ru 1 G<|nlQ<|nx<|rt<|dpQ<|dpQ<|dpQ<|fR1 () G G (by rw [mergesP, e26]; try rfl) G Sn
theorem pright_c (h_c : c.wf) : FnV Pg 123 [.agg (cChart c c_0 c_1).toArray] [⟨c_0, c.fPlaces⟩, ⟨c_1, c.fMarks⟩] (.bool (planP c)) := by
 refine Fnc.proof Tryz.func123 G 82 G G fun X w => qg<|bx G G G fun b1 => ru 1 G<|nl<|nx<|sq<|qg<|rl 4 [0] G G<|jb 7 4 [0] [1] G G G<|mv G G<|jb 12 4 [0] [1] G G G<|mv G G<|jb 17 4 [0] [1] G G G<|mv G G<|jb 22 4 [0] [1] G G G<|mv G G<|jb 27 4 [0] [1] G G G<|nl<|nx<|cdB G (fun h31 => ?_) (fun h31 => ?_)
 ·
  have e31 : (plan1 c) = true := h31
  exact sa 1 G<|rt<|tR<|dpQ<|fR1 () G G (by rw [planP, e31]; try rfl) G Sn
 ·
  have hn : 2 ≤ c.fNext := by
   have q := h31
   simp only [Bool.or_eq_false_iff, decide_eq_false_iff_not] at q
   have := q.1.2
   omega
  have e31 : (plan1 c) = false := h31
  refine sk<|nx<|sq<|qg<|rl 2 [0] G G<|cfv (rcheck_c _ _) (Kg G) G (Sc 0 G Sn) G<|ru 2 G ?_
  refine jz 36 5 [1] G G (fun h36 K41 => by
   have p36 := h36
   simp only [Bool.not_eq_true', Bool.not_eq_false', decide_eq_true_eq, decide_eq_false_iff_not] at p36
   exact rl 2 [0] G G<|gY G G G<|cfv (scheck_c _ _) (Kg G) G (Sc 1 G Sn) G<|ru 2 G<|K41 G Sr) ?_
  refine nl<|nx<|cdB G (fun h41 => ?_) (fun h41 => ?_)
  ·
   have e41 : (plan2 c) = true := h41
   exact sa 1 G<|rt<|tR<|dpQ<|fR1 () G G (by rw [planP, e31, e41]; try rfl) G Sn
  ·
   have hp : 0 < c.fPlaces.length := by
    have q := h41
    simp only [Bool.or_eq_false_iff, Bool.not_eq_false', errF_ok] at q
    have q1 := q.1
    unfold rplacesP at q1
    split at q1
    ·
     cases q1
    ·
     rename_i hn
     simp only [rpl1, Bool.or_eq_true, decide_eq_true_eq, not_or] at hn
     have := hn.1
     omega
   have hp7 : c.fPlaces.length ≤ 7 := rplaces_len (by
    have q := h41
    simp only [Bool.or_eq_false_iff, Bool.not_eq_false', errF_ok] at q
    exact q.1)
   have e41 : (plan2 c) = false := h41
   refine sk<|nx<|sq<|qg<|rl 2 [0] G G ?_
   refine frP (α := TChart) c (fun S w h => ⟨⟨c_0, c_1⟩, G, fun t ht => by
     simp only [List.mem_cons, List.not_mem_nil, or_false] at ht
     rcases ht with rfl | rfl
     · exact h _ (List.mem_of_getElem? (i := 0) G)
     · exact h _ (List.mem_of_getElem? (i := 1) G), h_c⟩) ?_
   refine mf (xs := [.tmp 1]) G G<|cfv (containsPlace_c _ _ 189 #[.pointer (some ⟨b1, 0, none⟩)] [⟨_, (⟨c⟩ : Pt TChart)⟩] (fun x => decide (x.fGroup ≥ c.fNext)) (Kg G) (fun x hx => pright1_c x _ c hx)) (Kg G) G (Si [1,0] G) G<|nl<|nx<|cdP G (fun h45 => ?_) (fun h45 => ?_)
   ·
    have e45 : (plan3 c) = true := (decide_eq_true h45)
    exact sa 1 G<|rt<|tR<|fR1 () G G (by rw [planP, e31, e41, e45]; try rfl) G Sn
   ·
    have e45 : (plan3 c) = false := (decide_eq_false h45)
    refine sk<|nx<|qg<|faP (α := TChart) (β := TPlan) 0 (fun x : TChart => x.fPlan) G G (Fg G) pChart_4 G fun v46 => ldS 0 G G (Rg G) G fun q47 w47 => al zero_24 G fun b3 => stW 0 (us := (cPlan c.fPlan)) G G G (Rg G) G G<|nl<|nx<|sq<|qg<|ldM 0 (cPlan c.fPlan) G G (Rg G) G G<|bd (ps := []) (cs := (cPlan (pZ))) (by rfl) (by kernel_rfl) G<|eqT eq_Plan (c.fPlan) (pZ) G G G<|nl<|nx<|cdP G (fun h50 => ?_) (fun h50 => ?_)
    ·
     have e50 : (plan4 c) = true := (decide_eq_true h50)
     exact sa 1 G<|rt<|tR<|dpQ<|fR1 () G G (by rw [planP, e31, e41, e45, e50]; try rfl) G Sn
    ·
     have e50 : (plan4 c) = false := (decide_eq_false h50)
     refine sk<|nx<|qg<|rl 2 [0] G G<|faP (α := TChart) (β := Int) 2 (fun x : TChart => x.fLast) G G (Fg G) pChart_3 G fun v53 => ldV 0 G G (Og G) G fun w54 => ru 2 G<|ja 56 4 [0] [1,3] G G G<|mv G G<|jy 61 6 [1] G G (fun h61 K67 => rl 4 [0,0] G G<|gY G G G<|cfv (pwhose_c _ _ w47.2.2.2.2.2.1 w47.2.2.2.2.2.2) (Kg G) G Sn G<|ru 1 G<|K67 G Sr)<|mv G G<|jy 68 5 [1] G G (fun h68 K73 => gY G G G<|faP (α := TChart) (β := List TPlace) 3 (fun x : TChart => x.fPlaces) G G (Fg G) pChart_1 G fun v69 => gY G G G<|ldL 0 G G (Og G) G fun v70 => gY G G G<|cfv (epoch_c _ _ (by assumption)) (Kg G) G (Sc 0 G Sn) G<|ru 2 G<|K73 G (SubD.tail (SubD.tail Sr)))<|mv G G ?_
     refine jy 74 7 [] G G (fun h74 K81 => by
      refine gY G G G<|ldS 3 G G (Rg G) G fun q75 w75 => ?_
      obtain ⟨q75_0, q75_1⟩ := q75
      refine gY G G G<|cfv (splits_c _ _ _ w75 (by assumption) (by assumption)) (Kg G) G (Si [1,2] G) G<|ru 1 G ?_
      refine jz 77 3 [74] G G (fun h77 K80 => by
       refine gY G G G<|ldS 6 G G (Rg G) G fun q78 w78 => ?_
       obtain ⟨q78_0, q78_1⟩ := q78
       exact gY G G G<|cfv (merges_c _ _ _ w78 (by assumption)) (Kg G) G (Si [1,2] G) G<|ru 1 G<|K80 G (SubD.tail (SubD.tail (SubD.tail Sr)))) ?_
      exact ru 1 G<|K81 G (SubD.tail (SubD.tail (SubD.tail Sr)))) ?_
     exact ru 1 G<|nl<|nx<|rt<|dpQ<|fR1 () G G (by rw [planP, e31, e41, e45, e50]; try rfl) G Sn
theorem pcheck_c (h_c : c.wf) : FnV Pg 58 [.agg (cChart c c_0 c_1).toArray] [⟨c_0, c.fPlaces⟩, ⟨c_1, c.fMarks⟩] (.int .i64 (errF (planP c))) := by
 refine Fnc.proof Tryz.func58 G 6 G G fun X w => qg<|bx G G G fun b1 => ru 1 G<|nl<|nx<|sq<|qg<|ldM 0 (cChart c c_0 c_1) G G (Rg G) G G<|cfv (pright_c _ _ _ h_c) (Kg G) G (Si [0,1] G) G<|nt G G<|nl<|nx<|cdB G (fun h5 => ?_) (fun h5 => ?_)
 · exact sa 1 G<|rt<|tR<|dpQ<|fR1 () G G (by rw [errF, if_neg (by have q := h5; rw [Bool.not_eq_true'] at q; rw [q]; decide)]) G Sn
 · exact sk<|nx<|sa 1 G<|rt<|dpQ<|fR1 () G G (by rw [errF, if_pos (by have q := h5; rw [Bool.not_eq_false'] at q; exact q)]) G Sn
end
theorem goes_c (c : TChart) (c_0 c_1 : Value) (h_c : c.wf) (hp : 0 < c.fPlaces.length) (hn : 2 ≤ c.fNext) : FnV Pg 129 [.agg (cChart c c_0 c_1).toArray] [⟨c_0, c.fPlaces⟩, ⟨c_1, c.fMarks⟩] (.bool (goesP c)) := by
 refine Fnc.proof Tryz.func129 G 140 G G fun X w => ?_
 obtain ⟨nx1, nx2⟩ := id h_c.2.2.1
 have hfl := find17_lt (k := c.fPlan.fLo) hp
 have hol := ofP_lt (g := c.fPlan.fTo) hp
 refine gtC (q := c.fPlaces.length ≤ 9223372036854775807) (fun S w h => list_len (h _ (List.mem_of_getElem? (i := 0) G))) fun hlen => qg<|bx G G G fun b1 => ru 1 G<|nl<|nx<|qg<|ru 1 G<|ldM 0 (cPlan c.fPlan) G G (Rg G) G G<|al zero_24 G fun b3 => stW 0 (us := (cPlan c.fPlan)) G G G (Rg G) G G<|nl<|nx<|sq<|qg<|rl 2 [1] G G<|cfv (epoch17_c _ _) (Kg G) G (Sc 0 G Sn) G<|ru 2 G<|jb 13 6 [0,1] [1,3] G G G<|mv G G<|jb 20 4 [0] [1,3] G G G<|mv G G<|jz 25 5 [1,3] G G (fun h25 K30 => rl 2 [0] G G<|gY G G G<|cfv (client14_c _ h_c.2.2.2.2.1.2.2.2.2.2.1) (Kg G) G Sn G<|ru 2 G<|K30 G Sr)<|mv G G<|jz 31 5 [1,3] G G (fun h31 K36 => rl 2 [0] G G<|gY G G G<|cfv (seq14_c _ h_c.2.2.2.2.1.2.2.2.2.2.2) (Kg G) G Sn G<|ru 2 G<|K36 G Sr)<|nl<|nx<|cdB G (fun h36 => ?_) (fun h36 => ?_)
 ·
  have e36 : (goes1 c) = true := h36
  exact sa 1 G<|rt<|tR<|dpQ<|dpQ<|fR1 () G G (by rw [goesP, e36]; try rfl) G Sn
 ·
  have e36 : (goes1 c) = false := h36
  refine sk<|nx<|qg<|rl 4 [1,0] G G<|cfv (of17_c _ _ _ h_c.2.2.2.2.1.2.2.1) (Kg G) G (Sc 0 G Sn) G<|ru 5 G<|nl<|nx<|sq<|sa 2 G<|cdB G (fun h46 => ?_) (fun h46 => ?_)
  ·
   have e46 : (!(ofP c.fPlaces c.fPlan.fTo).isSome) = true := h46
   refine qg<|rl 4 [1,0] G G<|cfv (find17_c _ _ _) (Kg G) G (Sc 0 G Sn) G<|ru 1 G<|nl<|nx<|sq<|rgQ mixed (by kernel_rfl)<|rl 2 [0] G G<|rl 2 [1] G G<|sbI G G inI G<|ru 2 G ?_
   refine jy 58 5 [1,3,6] G G (fun h58 K63 => by
    have p58 := of_decide_eq_true h58
    exact rl 2 [1] G G<|gY G G G<|lnP 0 G G Tryz.underlying22 G fun l61 => ru 2 G<|K63 G Sr) ?_
   refine mv G G<|jy 64 4 [1,3,6] G G (fun h64 K68 => rl 2 [0] G G<|gY G G G<|cfq (key15_c _) (Kg G) G Sn G<|ru 1 G<|K68 G Sr)<|mv G G ?_
   refine jy 69 10 [1,3,6] G G (fun h69 K79 => by
    have p69 := h69
    try simp only [Bool.or_eq_false_iff, Bool.and_eq_true, decide_eq_true_eq, decide_eq_false_iff_not, Bool.not_eq_true', Bool.not_eq_false'] at p69
    exact rl 3 [1] G G<|gY G G G<|ixQ 0 G G G slt_22 G fun v73 => gY G G G<|faP (α := TPlace) (β := Int) 0 (fun x : TPlace => x.fGroup) G G (Fg G) pPlace_0 G fun v74 => gY G G G<|ldV 0 G G (Og G) G fun w75 => rl 4 [0] G G<|K79 G (SubD.tail (SubD.tail Sr))) ?_
   refine mv G G ?_
   refine jy 80 10 [1,3,6] G G (fun h80 K90 => by
    have p80 := h80
    try simp only [Bool.or_eq_false_iff, Bool.and_eq_true, decide_eq_true_eq, decide_eq_false_iff_not, Bool.not_eq_true', Bool.not_eq_false'] at p80
    exact rl 3 [1] G G<|gY G G G<|ixQ 0 G G G slt_22 G fun v84 => gY G G G<|faP (α := TPlace) (β := ByteArray) 0 (fun x : TPlace => x.fFrom) G G (Fg G) pPlace_1 G fun v85 => gY G G G<|ldV 0 G G (Og G) G fun w86 => rl 4 [0] G G<|K90 G (SubD.tail (SubD.tail Sr))) ?_
   refine mv G G ?_
   refine jy 91 8 [] G G (fun h91 K99 => by
    exact rl 5 [0,1] G G<|gY G G G<|cfq (end17_c _ _ _ inI) (Kg G) G (Sc 0 G Sn) G<|ru 1 G<|ru 1 G<|K99 G Sr) ?_
   exact ru 1 G<|nlQ<|nx<|rt<|tR<|dpQ<|dpQ<|fR1 () G G (by rw [goesP, e36, e46]; try rfl) G Sn
  ·
   have e46 : (!(ofP c.fPlaces c.fPlan.fTo).isSome) = false := h46
   refine sk<|nx<|sq<|rgQ mixed (by kernel_rfl)<|mv G G<|adI G G inI G<|rl 2 [1] G G<|lnP 0 G G Tryz.underlying22 G fun l104 => ru 2 G ?_
   refine jy 106 11 [1,3,4] G G (fun h106 K117 => by
    have p106 := of_decide_eq_true h106
    exact rl 3 [1] G G<|gY G G G<|adI G G inI G<|gY G G G<|ixQ 0 G G G slt_22 G fun v111 => gY G G G<|faP (α := TPlace) (β := Int) 0 (fun x : TPlace => x.fGroup) G G (Fg G) pPlace_0 G fun v112 => gY G G G<|ldV 0 G G (Og G) G fun w113 => rl 4 [0] G G<|K117 G (SubD.tail (SubD.tail Sr))) ?_
   refine mv G G ?_
   refine jy 118 11 [1,3,4] G G (fun h118 K129 => by
    have p118 := h118
    try simp only [Bool.or_eq_false_iff, Bool.and_eq_true, decide_eq_true_eq, decide_eq_false_iff_not, Bool.not_eq_true', Bool.not_eq_false'] at p118
    exact rl 3 [1] G G<|gY G G G<|adI G G inI G<|gY G G G<|ixQ 0 G G G slt_22 G fun v123 => gY G G G<|faP (α := TPlace) (β := ByteArray) 0 (fun x : TPlace => x.fFrom) G G (Fg G) pPlace_1 G fun v124 => gY G G G<|ldV 0 G G (Og G) G fun w125 => rl 4 [0] G G<|K129 G (SubD.tail (SubD.tail Sr))) ?_
   refine mv G G ?_
   refine jy 130 9 [] G G (fun h130 K139 => by
    have p130 := h130
    try simp only [Bool.or_eq_false_iff, Bool.and_eq_true, decide_eq_true_eq, decide_eq_false_iff_not, Bool.not_eq_true', Bool.not_eq_false'] at p130
    exact rl 3 [1] G G<|gY G G G<|adI G G inI G<|gY G G G<|cfq (end17_c _ _ _ inI) (Kg G) G (Sc 0 G Sn) G<|rl 2 [0] G G<|ru 2 G<|K139 G Sr) ?_
   exact ru 1 G<|nlQ<|nx<|rt<|dpQ<|dpQ<|fR1 () G G (by rw [goesP, e36, e46]; try rfl) G Sn
theorem right20_c (c : TChart) (c_0 c_1 : Value) (h_c : c.wf) : FnV Pg 60 [.agg (cChart c c_0 c_1).toArray] [⟨c_0, c.fPlaces⟩, ⟨c_1, c.fMarks⟩] (.bool (right20 c)) := by
 refine Fnc.proof Tryz.func60 G 60 G G fun X w => qg<|bx G G G fun b1 => ru 1 G<|nl<|nx<|sq<|qg<|rl 2 [0] G G<|cfv (number20_c _ h_c.1) (Kg G) G Sn G<|ru 2 G<|jz 8 5 [1] G G (fun h8 K13 => rl 2 [0] G G<|gY G G G<|cfv (number20_c _ h_c.2.2.2.1) (Kg G) G Sn G<|ru 2 G<|K13 G Sr)<|mv G G<|jz 14 5 [1] G G (fun h14 K19 => rl 2 [0] G G<|gY G G G<|cfv (right17_c _ _) (Kg G) G (Sc 0 G Sn) G<|ru 2 G<|K19 G Sr)<|mv G G<|jb 20 4 [0] [1] G G G<|mv G G<|jb 25 4 [0] [1] G G G<|mv G G<|jz 30 5 [1] G G (fun h30 K35 => rl 2 [0] G G<|gY G G G<|cfv (right14_c _ _) (Kg G) G (Sc 1 G Sn) G<|ru 2 G<|K35 G Sr)<|nl<|nx<|cdB G (fun h35 => ?_) (fun h35 => ?_)
 ·
  have e35 : (right20a c) = true := h35
  exact sa 1 G<|rt<|tR<|dpQ<|fR1 () G G (by rw [right20, if_pos e35]) G Sn
 ·
  have hp : 0 < c.fPlaces.length := places17_pos (by have q := h35; simp only [Bool.or_eq_false_iff, Bool.not_eq_false'] at q; exact q.1.1.1.2)
  have hn : 2 ≤ c.fNext := by
   have q := h35
   simp only [Bool.or_eq_false_iff, decide_eq_false_iff_not] at q
   have := q.1.1.2
   omega
  have e35 : (right20a c) = false := h35
  refine sk<|nx<|sq<|sa 1 G<|bk<|lpC (σ := Nat) [(1, _)] _ (fun i C => (3, .int .i64 (i : Int)) :: C) (fun i => i ≤ c.fPlaces.length ∧ (∀ j, j < i → (!decide ((c.fPlaces.getD j default).fGroup ≥ c.fNext)) = true)) (fun i => c.fPlaces.length - i) 0 ⟨G, trivial⟩ (Sc 0 G (Sc 1 G Sn)) ⟨Nat.zero_le _, fun j hj => absurd hj (Nat.not_lt_zero j)⟩ (Gs G) ?_
  rintro i ⟨hi, hall⟩
  refine sq<|qg<|rl 3 [0] G G<|lnP 0 G G Tryz.underlying22 G fun l39 => ru 1 G<|nl<|nx<|cdP G (fun h40 => ?_) (fun h40 => ?_)
  ·
   refine sk<|nx<|sq<|bk<|sq<|rgQ mixed (by kernel_rfl)<|rl 3 [0] G G<|ixQ 0 G G G slt_22 G fun v46 => faP (α := TPlace) (β := Int) 0 (fun x : TPlace => x.fGroup) G G (Fg G) pPlace_0 G fun v47 => ldV 0 G G (Og G) G fun w48 => rl 3 [0] G G<|nlQ<|nx<|cdP G (fun h51 => ?_) (fun h51 => ?_)
   · exact sa 1 G<|rt<|bR<|tR<|tR<|bR<|tR<|dpQ<|fR1 () G G (by rw [right20, if_neg (by rw [e35]; decide), if_neg (by rw [right20b, allI_false i (by omega) (not_decfalse h51)]; decide)]) G Sn
   ·
    refine sk<|bN<|nx<|rg<|mv G G<|adI G G inI G<|ru 1 G<|nl ?_
    exact ag (i + 1) ⟨(by omega), (all_snoc hall (not_dectrue h51))⟩ (by omega) (Gs G) G (Si [2,3] G)
  ·
   refine ex<|tE<|tE<|bE<|nx<|qg<|ru 1 G<|ldM 0 (cPlan c.fPlan) G G (Rg G) G G<|bd (ps := []) (cs := (cPlan (pZ))) (by rfl) (by kernel_rfl) G<|eqT eq_Plan (c.fPlan) (pZ) G G G<|mv G G ?_
   refine jz 56 3 [] G G (fun h56 K59 => by
    have p56 := of_decide_eq_false h56
    exact gY G G G<|ldM 0 (cChart c c_0 c_1) G G (Rg G) G G<|gY G G G<|cfv (goes_c _ _ _ h_c (by assumption) (by assumption)) (Kg G) G (Si [0,1] G) G<|ru 1 G<|K59 G Sr) ?_
   exact ru 1 G<|nl<|nx<|rt<|dpQ<|fR1 () G G (by rw [right20, if_neg (by rw [e35]; decide), if_pos (by rw [right20b]; exact allI_true (fun j hj => hall j (by omega)))]; try rfl) G Sn
end Go.Proofs.YtmpoffijcfaalaaGreat
namespace Go.Proofs.YtmpoffijcfaalaaGreat.Pen
open Go.Eng
theorem app_25 : AppTy Pg 25 122 7 56 := AppTy.mk Tryz.underlying25 (by kernel_rfl) (by decide)
theorem app_297 : AppTy Pg 297 243 1 8 := AppTy.mk Tryz.underlying297 (by kernel_rfl) (by decide)
theorem app_348 : AppTy Pg 348 247 1 8 := AppTy.mk Tryz.underlying348 (by kernel_rfl) (by decide)
theorem app_50 : AppTy Pg 50 70 10 104 := AppTy.mk Tryz.underlying50 (by kernel_rfl) (by decide)
theorem app_51 : AppTy Pg 51 108 11 104 := AppTy.mk Tryz.underlying51 (by kernel_rfl) (by decide)
theorem app_52 : AppTy Pg 52 126 8 80 := AppTy.mk Tryz.underlying52 (by kernel_rfl) (by decide)
theorem app_53 : AppTy Pg 53 129 2 16 := AppTy.mk Tryz.underlying53 (by kernel_rfl) (by decide)
theorem app_66 : AppTy Pg 66 165 4 32 := AppTy.mk Tryz.underlying66 (by kernel_rfl) (by decide)
theorem mixed : Tryz.prog.follows .mixedOrders = true := by kernel_rfl
theorem one_3 : OneTy Pg 3 := ⟨⟨_, Tryz.underlying3, rfl⟩, by kernel_rfl⟩
theorem slt_297 : SliceTy Pg 297 243 1 := ⟨Tryz.underlying297, by kernel_rfl⟩
theorem slt_348 : SliceTy Pg 348 247 1 := ⟨Tryz.underlying348, by kernel_rfl⟩
theorem zero_108 : ZeroOf Pg 108 [.int .i64 0, .int .i64 0, .int .i64 0, .int .i64 0, .int .i64 0, .int .i64 0, .string ByteArray.empty, .string ByteArray.empty, .int .i64 0, .int .i64 0, .int .i64 0] := ZeroOf.mk (by kernel_rfl)
theorem zero_122 : ZeroOf Pg 122 [.int .i64 0, .int .i64 0, .bool false, .int .i64 0, .int .i64 0, .int .i64 0, .int .i64 0] := ZeroOf.mk (by kernel_rfl)
theorem zero_126 : ZeroOf Pg 126 [.int .i64 0, .int .i64 0, .string ByteArray.empty, .string ByteArray.empty, .int .i64 0, .int .i64 0, .int .i64 0, .int .i64 0] := ZeroOf.mk (by kernel_rfl)
theorem zero_129 : ZeroOf Pg 129 [.int .i64 0, .int .i64 0] := ZeroOf.mk (by kernel_rfl)
theorem zero_165 : ZeroOf Pg 165 [.int .i64 0, .int .i64 0, .int .i64 0, .int .i64 0] := ZeroOf.mk (by kernel_rfl)
theorem zero_3 : ZeroOf Pg 3 [.int .i64 0] := ZeroOf.mk (by kernel_rfl)
theorem zero_35 : ZeroOf Pg 35 [.slice none 0 0] := ZeroOf.mk (by kernel_rfl)
theorem zero_55 : ZeroOf Pg 55 [.int .i64 0, .int .i64 0, .bool false, .string ByteArray.empty, .string ByteArray.empty, .int .i64 0, .slice none 0 0, .slice none 0 0, .slice none 0 0, .slice none 0 0, .slice none 0 0, .int .i64 0, .int .i64 0, .int .i64 0, .string ByteArray.empty, .string ByteArray.empty, .int .i64 0, .int .i64 0, .int .i64 0, .int .i64 0, .int .i64 0, .string ByteArray.empty, .string ByteArray.empty, .int .i64 0, .int .i64 0, .slice none 0 0, .int .i64 0, .int .i64 0, .int .i64 0] := ZeroOf.mk (by kernel_rfl)
theorem zero_70 : ZeroOf Pg 70 [.string ByteArray.empty, .int .i64 0, .int .i64 0, .int .i64 0, .int .i64 0, .slice none 0 0, .int .i64 0, .int .i64 0, .int .i64 0, .int .i64 0] := ZeroOf.mk (by kernel_rfl)
end Go.Proofs.YtmpoffijcfaalaaGreat.Pen
namespace Go.Proofs.YtmpoffijcfaalaaGreat.Rdr
open Go.Eng
theorem app_35 : AppTy Pg 35 5 1 1 := AppTy.mk Tryz.underlying35 (by kernel_rfl) (by decide)
theorem mixed : Tryz.prog.follows .mixedOrders = true := by kernel_rfl
theorem one_3 : OneTy Pg 3 := ⟨⟨_, Tryz.underlying3, rfl⟩, by kernel_rfl⟩
theorem slt_35 : SliceTy Pg 35 5 1 := ⟨Tryz.underlying35, by kernel_rfl⟩
theorem zero_209 : ZeroOf Pg 209 [.int .u64 0] := ZeroOf.mk (by kernel_rfl)
theorem zero_3 : ZeroOf Pg 3 [.int .i64 0] := ZeroOf.mk (by kernel_rfl)
theorem zero_35 : ZeroOf Pg 35 [.slice none 0 0] := ZeroOf.mk (by kernel_rfl)
theorem zero_4 : ZeroOf Pg 4 [.bool false] := ZeroOf.mk (by kernel_rfl)
end Go.Proofs.YtmpoffijcfaalaaGreat.Rdr
namespace Go.Proofs.YtmpoffijcfaalaaGreat.Rdr
open Go.Eng Go.YtmpoffijcfaalaaGreat
theorem number_c (sv : Value) (bs : List UInt8) : FnV Pg 319 [sv] [⟨sv, bs⟩] (numTup (numD 0 0 bs)) := by
 refine Fnc.proof Tryz.func319 G 41 G G fun X w => sa 3 G<|sa 1 G<|sq<|qg<|mv G G<|lnP 0 G G Tryz.underlying35 G fun l9 => mv G G<|nl<|nx<|bk<|lp (σ := Nat × Nat) (fun s => [(0, sv), (5, .int .u64 (s.2 : Int)), (8, sv), (9, .int .i64 (bs.length : Int)), (10, .int .i64 (s.1 : Int))]) (fun _ => [fz X w]) (fun _ => [⟨sv, bs⟩]) (fun s => s.1 ≤ 9 ∧ s.1 ≤ bs.length ∧ s.2 < 2 ^ (7 * s.1) ∧ numD 0 0 bs = numD s.1 s.2 (bs.drop s.1)) (fun s => bs.length - s.1) (0, 0) ⟨by decide, Nat.zero_le _, by decide, G⟩ (Gs G) G Sr ?_
 rintro ⟨i, v⟩ ⟨h1, h2, h3, h4⟩
 simp only at h1 h2 h3 h4
 refine sa 1 G<|sq<|cdP G (fun h11 => ?_) (fun h11 => ?_)
 ·
  refine sk<|nx<|sq<|bk<|qg<|mv G G ?_
  obtain ⟨c, hc⟩ : ∃ c, bs[i]? = some c := ⟨_, getE (by omega)⟩
  have hd := drop_at hc
  have hcl := c.toNat_lt
  refine ixP 0 G G G slt_35 (by omega) hc G fun v13 => ldV 0 G G (Og G) G fun w14 => ru 2 G<|nl<|nx<|sq<|qg<|ru 3 G<|spP (i := 17) G (fun h17 => ?_) (fun h17 => ?_)
  ·
   refine ru 3 G<|nl<|nx<|cdP G (fun h20 => ?_) (fun h20 => ?_)
   · exact sa 3 G<|rt<|tR<|bR<|tR<|tR<|bR<|tR<|fR3 () G G G G (by have e := h4; rw [hd] at e; simp only [numD] at e; (repeat (first | rw [if_pos (by omega)] at e | rw [if_neg (by omega)] at e)); first | exact congrArg numTup e.symm | (exfalso; omega)) G Sn
   ·
    refine sk<|nx<|qg<|ru 2 G<|btA G G (and_127 c) G<|cv Tryz.underlying5 Tryz.underlying209 G (wrap_u64' (by omega)) G<|mv G G<|muI G G inI G<|shL G G (by omega) (shl_k _ (7 * i) (shl_ok h1 (by omega)) (by omega)) G<|btO G G (or_add h3 (shl_ok h1 (by omega)) (by omega)) G<|ru 1 G<|nl<|nx<|sq<|sa 2 G<|cdP G (fun h30 => ?_) (fun h30 => ?_)
    ·
     refine ex<|tE<|bE<|nx<|rg<|adI G G inI G<|mv G G<|nl ?_
     exact ag (i + 1, v + c.toNat % 128 * 2 ^ (7 * i)) ⟨by show i + 1 ≤ 9; omega, by show i + 1 ≤ bs.length; omega, shl_lt h3, by show numD 0 0 bs = _; rw [h4, hd]; simp only [numD]; rw [if_neg (by omega), if_pos (by omega)]⟩ (by show bs.length - (i + 1) < bs.length - i; omega) (Gs G) G (Sc 1 G Sn)
    ·
     refine sk<|nx<|sq<|qg<|ru 3 G<|spP (i := 33) G (fun h33 => ?_) (fun h33 => ?_)
     ·
      refine ru 3 G<|nl<|nx<|cdP G (fun h36 => ?_) (fun h36 => ?_)
      · exact sa 3 G<|rt<|tR<|bR<|tR<|tR<|bR<|tR<|fR3 () G G G G (by have e := h4; rw [hd] at e; simp only [numD] at e; (repeat (first | rw [if_pos (by omega)] at e | rw [if_neg (by omega)] at e)); first | exact congrArg numTup e.symm | (exfalso; omega)) G Sn
      · exact sk<|nx<|qg<|ru 2 G<|adI G G inI G<|ru 3 G<|nl<|nx<|rt<|bR<|tR<|tR<|bR<|tR<|fR3 () G G G G (by have e := h4; rw [hd] at e; simp only [numD] at e; (repeat (first | rw [if_pos (by omega)] at e | rw [if_neg (by omega)] at e)); first | exact congrArg numTup e.symm | (exfalso; omega)) G Sn
     · exact gN G G G G G<|gN G G G G G<|ru 1 G<|nl<|nx<|cdF G<|sk<|nx<|qg<|ru 2 G<|adI G G inI G<|ru 1 G<|ru 2 G<|nl<|nx<|rt<|bR<|tR<|tR<|bR<|tR<|fR3 () G G G G (by have e := h4; rw [hd] at e; simp only [numD] at e; (repeat (first | rw [if_pos (by omega)] at e | rw [if_neg (by omega)] at e)); first | exact congrArg numTup e.symm | (exfalso; omega)) G Sn
  ·
   refine gN G G G G G<|gN G G G G G<|ru 1 G<|nl<|nx<|cdF G<|sk<|nx<|qg<|ru 2 G<|btA G G (and_127 c) G<|cv Tryz.underlying5 Tryz.underlying209 G (wrap_u64' (by omega)) G<|mv G G<|muI G G inI G<|shL G G (by omega) (shl_k _ (7 * i) (shl_ok h1 (by omega)) (by omega)) G<|btO G G (or_add h3 (shl_ok h1 (by omega)) (by omega)) G<|ru 1 G<|nl<|nx<|sq<|sa 2 G<|cdP G (fun h30 => ?_) (fun h30 => ?_)
   ·
    refine ex<|tE<|bE<|nx<|rg<|adI G G inI G<|mv G G<|nl ?_
    exact ag (i + 1, v + c.toNat % 128 * 2 ^ (7 * i)) ⟨by show i + 1 ≤ 9; omega, by show i + 1 ≤ bs.length; omega, shl_lt h3, by show numD 0 0 bs = _; rw [h4, hd]; simp only [numD]; rw [if_neg (by omega), if_pos (by omega)]⟩ (by show bs.length - (i + 1) < bs.length - i; omega) (Gs G) G (Sc 1 G Sn)
   ·
    refine sk<|nx<|sq<|qg<|ru 3 G<|spP (i := 33) G (fun h33 => ?_) (fun h33 => ?_)
    ·
     refine ru 3 G<|nl<|nx<|cdP G (fun h36 => ?_) (fun h36 => ?_)
     · exact sa 3 G<|rt<|tR<|bR<|tR<|tR<|bR<|tR<|fR3 () G G G G (by have e := h4; rw [hd] at e; simp only [numD] at e; (repeat (first | rw [if_pos (by omega)] at e | rw [if_neg (by omega)] at e)); first | exact congrArg numTup e.symm | (exfalso; omega)) G Sn
     · exact sk<|nx<|qg<|ru 2 G<|adI G G inI G<|ru 3 G<|nl<|nx<|rt<|bR<|tR<|tR<|bR<|tR<|fR3 () G G G G (by have e := h4; rw [hd] at e; simp only [numD] at e; (repeat (first | rw [if_pos (by omega)] at e | rw [if_neg (by omega)] at e)); first | exact congrArg numTup e.symm | (exfalso; omega)) G Sn
    · exact gN G G G G G<|gN G G G G G<|ru 1 G<|nl<|nx<|cdF G<|sk<|nx<|qg<|ru 2 G<|adI G G inI G<|ru 1 G<|ru 2 G<|nl<|nx<|rt<|bR<|tR<|tR<|bR<|tR<|fR3 () G G G G (by have e := h4; rw [hd] at e; simp only [numD] at e; (repeat (first | rw [if_pos (by omega)] at e | rw [if_neg (by omega)] at e)); first | exact congrArg numTup e.symm | (exfalso; omega)) G Sn
 · exact ex<|tE<|tE<|bE<|nx<|sa 3 G<|rt<|fR3 () G G G G (by have e := h4; rw [List.drop_eq_nil_of_le (by omega)] at e; exact congrArg numTup e.symm) G Sn
theorem counted_c (sv : Value) (bs : List UInt8) (most : Int) (hm : InI most) : FnV Pg 316 [sv, .int .i64 most] [⟨sv, bs⟩] (intTup (countD bs most)) := by
 refine Fnc.proof Tryz.func316 G 31 G G fun X w => ?_
 have hb := numD_bd bs 0 0 (by decide) (by decide)
 have hN0 := number_c sv bs
 rcases hN : numD 0 0 bs with ⟨v, n, e⟩
 rw [hN] at hN0 hb
 have hN0 : FnV Pg 319 [sv] [⟨sv, bs⟩] (.tuple #[.int .u64 (v : Int), .int .i64 (n : Int), .int .i64 (e : Int)]) := hN0
 simp only at hb
 have hmx := max_in hm
 refine sa 3 G<|qg<|mv G G<|cfv (hN0) (Kg G) G (Sc 0 G Sn) G<|ru 3 G<|ru 4 G<|nl<|nx<|sq<|qg<|ru 3 G<|spP (i := 18) G (fun h18 => ?_) (fun h18 => ?_)
 ·
  refine ru 2 G<|gY G G G<|mxI G G G G<|gY G G G<|cv Tryz.underlying3 Tryz.underlying209 G (wrap_u64_int (by omega) (by omega)) G<|ru 2 G<|nl<|nx<|cdP G (fun h24 => ?_) (fun h24 => ?_)
  ·
   refine ra 1 G<|nx<|sq<|sa 2 G<|cdN G (fun h26 => ?_) (fun h26 => ?_)
   · exact sa 4 G<|rt<|tR<|fR3 () G G G G (by have q := countD_of (most := most) hN; (repeat (first | rw [if_pos (by omega)] at q | rw [if_neg (by omega)] at q)); first | exact congrArg intTup q.symm | (exfalso; omega)) G Sn
   · exact sk<|nx<|qg<|mv G G<|cv Tryz.underlying209 Tryz.underlying3 G (i64_of_nat (by omega)) G<|ru 4 G<|nl<|nx<|rt<|fR3 () G G G G (by have q := countD_of (most := most) hN; (repeat (first | rw [if_pos (by omega)] at q | rw [if_neg (by omega)] at q)); first | exact congrArg intTup q.symm | (exfalso; omega)) G Sn
  ·
   refine sk<|nx<|sq<|sa 2 G<|cdN G (fun h26 => ?_) (fun h26 => ?_)
   · exact sa 4 G<|rt<|tR<|fR3 () G G G G (by have q := countD_of (most := most) hN; (repeat (first | rw [if_pos (by omega)] at q | rw [if_neg (by omega)] at q)); first | exact congrArg intTup q.symm | (exfalso; omega)) G Sn
   · exact sk<|nx<|qg<|mv G G<|cv Tryz.underlying209 Tryz.underlying3 G (i64_of_nat (by omega)) G<|ru 4 G<|nl<|nx<|rt<|fR3 () G G G G (by have q := countD_of (most := most) hN; (repeat (first | rw [if_pos (by omega)] at q | rw [if_neg (by omega)] at q)); first | exact congrArg intTup q.symm | (exfalso; omega)) G Sn
 ·
  refine gN G G G G G<|gN G G G G G<|gN G G G G G<|gN G G G G G<|gN G G G G G<|ru 1 G<|nl<|nx<|cdF G<|sk<|nx<|sq<|sa 2 G<|cdN G (fun h26 => ?_) (fun h26 => ?_)
  · exact sa 4 G<|rt<|tR<|fR3 () G G G G (by have q := countD_of (most := most) hN; (repeat (first | rw [if_pos (by omega)] at q | rw [if_neg (by omega)] at q)); first | exact congrArg intTup q.symm | (exfalso; omega)) G Sn
  · exact sk<|nx<|qg<|mv G G<|cv Tryz.underlying209 Tryz.underlying3 G (i64_of_nat (by omega)) G<|ru 4 G<|nl<|nx<|rt<|fR3 () G G G G (by have q := countD_of (most := most) hN; (repeat (first | rw [if_pos (by omega)] at q | rw [if_neg (by omega)] at q)); first | exact congrArg intTup q.symm | (exfalso; omega)) G Sn
theorem num1_c (b : Nat) (sv : Value) (bs : List UInt8) : Fnc Pg 318 [sv, .pointer (some ⟨b, 0, none⟩)] [bl b 209 [.int .u64 0]] [⟨sv, bs⟩] (fun (_ : Unit) v => v = stepTup (numD 0 0 bs).2.1 (numD 0 0 bs).2.2) (fun _ _ => [bl b 209 [.int .u64 ((numD 0 0 bs).1 : Int)]]) (fun _ _ => []) := by
 exact Fnc.proof Tryz.func318 G 13 G G fun X w => sa 2 G<|qg<|mv G G<|cfv (number_c _ _) (Kg G) G (Sc 0 G Sn) G<|ru 3 G<|ru 1 G<|stB 0 G G G (Og G) G (nlt G)<|ru 2 G<|nl<|nx<|sa 4 G<|rt<|fR2 () G G G G G Sn
theorem count1_c (a b : Nat) (sv : Value) (bs : List UInt8) (most : Int) (hm : InI most) : Fnc Pg 315 [sv, .pointer (some ⟨a, 0, none⟩), .pointer (some ⟨b, 0, none⟩)] [bl b 3 [.int .i64 0], bl a 3 [.int .i64 most]] [⟨sv, bs⟩] (fun (_ : Unit) v => v = stepTup (countD bs most).2.1 (countD bs most).2.2) (fun _ _ => [bl b 3 [.int .i64 ((countD bs most).1 : Int)], bl a 3 [.int .i64 most]]) (fun _ _ => []) := by
 exact Fnc.proof Tryz.func315 G 15 G G fun X w => sa 2 G<|qg<|rl 2 [1] G G<|cfv (counted_c _ _ _ hm) (Kg G) G (Sc 0 G Sn) G<|ru 2 G<|ru 2 G<|stB 0 G G G (Og G) G (nlt G)<|ru 2 G<|nl<|nx<|sa 4 G<|rt<|fR2 () G G G G G Sn
theorem clone_c (sv : Value) (bs : List UInt8) (hlen : bs.length ≤ 140737488355328) : Fnc Pg 107 [sv] [] [⟨sv, bs⟩] (fun (_ : Unit) _ => True) (fun _ _ => []) (fun _ v => [⟨v, bs⟩]) := by
 refine Fnc.proof Tryz.func107 G 8 G G fun X w => sa 1 G<|sq<|qg<|mv G G<|eqN 0 Tryz.underlying35 G G G G fun q4 n4 => nl<|nx<|cdB G (fun h4 => ?_) (fun h4 => ?_)
 ·
  have hx : bs = [] := n4 h4
  subst hx
  exact emC (α := UInt8)<|sa 1 G<|rt<|tR<|fR1 () G G trivial G (Sc 0 G Sn)
 · exact sk<|nx<|qg<|bs0 app_35 G fun b5 => rwB (α := UInt8) [] [] G G (fun _ _ _ => trivial) G<|mv G G<|ap 0 0 G G G G app_35 (by simpa using hlen) (by simpa using hlen) G fun v7 => ru 1 G<|nl<|nx<|rt<|frRQ<|fR1 () G G trivial G (Sc 0 G Sn)
theorem text1_c (a b : Nat) (sv : Value) (bs : List UInt8) (most : Int) (hm : InI most) (hms : most ≤ 1000000) : Fnc Pg 317 [sv, .pointer (some ⟨a, 0, none⟩), .pointer (some ⟨b, 0, none⟩)] [vr b 35 ([] : List UInt8), bl a 3 [.int .i64 most]] [⟨sv, bs⟩] (fun (_ : Unit) v => v = stepTup (textD bs most).2.1 (textD bs most).2.2) (fun _ _ => [vr b 35 (textD bs most).1, bl a 3 [.int .i64 most]]) (fun _ _ => []) := by
 refine Fnc.proof Tryz.func317 G 38 G G fun X w => ?_
 have hb := countD_bd bs most
 have hN0 := counted_c sv bs most hm
 rcases hN : countD bs most with ⟨v, n, e⟩
 rw [hN] at hN0 hb
 have hN0 : FnV Pg 316 [sv, .int .i64 most] [⟨sv, bs⟩] (.tuple #[.int .i64 (v : Int), .int .i64 (n : Int), .int .i64 (e : Int)]) := hN0
 simp only at hb
 have hmx := max_in hm
 have hT := textD_of hN
 refine sa 2 G<|qg<|rl 2 [1] G G<|cfv (hN0) (Kg G) G (Sc 0 G Sn) G<|ru 3 G<|ru 4 G<|nl<|nx<|sq<|sa 2 G<|cdN G (fun h17 => ?_) (fun h17 => ?_)
 ·
  refine sa 3 G<|rt<|tR ?_
  rw [show textD bs most = ([], 0, e) from by rw [hT, if_pos (by omega)]]
  exact fR2 () G G G G G Sn
 ·
  refine sk<|nx<|sq<|qg<|mv G G<|lnP 0 G G Tryz.underlying35 G fun l20 => mv G G<|sbI G G inI G<|ru 2 G<|nl<|nx<|cdP G (fun h24 => ?_) (fun h24 => ?_)
  ·
   refine sa 2 G<|rt<|tR ?_
   rw [show textD bs most = ([], 0, 20) from by rw [hT, if_neg (by omega), if_pos (by omega)]]
   exact fR2 () G G G G G Sn
  ·
   refine sk<|nx<|qg<|ru 4 G<|adI G G inI G<|ru 2 G<|adI G G inI G<|slP3 0 G G slt_35 G G G (by omega) (by omega) (by omega) (by omega) G fun v33 => cf (clone_c _ _ (by first | assumption | (simp only [List.length_drop, List.length_take]; omega))) (Kg G) G (Sc 0 G Sn) G fun y34 v34 h34 => opL 0 G fun u => stL 0 1 G G G G (Og G) (nlt G)<|nl<|nx<|qg<|ru 2 G<|adI G G inI G<|ru 2 G<|nl<|nx<|rt ?_
   rw [show textD bs most = ((bs.drop n).take v, n + v, 0) from by rw [hT, if_neg (by omega), if_neg (by omega)]]
   refine adQ ⟨v34, (bs.drop n).take v⟩ (fun S w h => ?_) (clQ 0 0 G G (fR2 () G G G G G Sn))
   have q := h ⟨v34, _⟩ (List.mem_of_getElem? (i := 1) rfl)
   rw [List.drop_take, show ((n : Int) + (v : Int)).toNat - (n : Int).toNat = v from by omega] at q
   exact q
theorem thing1_c (p f : Nat) (bv : Value) (bs : List UInt8) (s : Rd) (caps : Array Value) (q q' : OwnE) (n e : Nat) (hok : FnOk Pg f) (h0 : s.fault = 0) (hp : s.pos ≤ bs.length) (hn : n ≤ (bs.drop s.pos).length)
  (hcl : ∀ sv, Fnc Pg f (sv :: caps.toList) [q] [⟨sv, bs.drop s.pos⟩] (fun (_ : Unit) v => v = stepTup n e) (fun _ _ => [q']) (fun _ _ => [])) :
  Fnc Pg 313 [.pointer (some ⟨p, 0, none⟩), .func (.func f) #[] caps] [q, rdr p bv s] [⟨bv, bs⟩] (fun (_ : Unit) v => v = .bool (decide (e = 0))) (fun _ _ => [q', rdr p bv (s.step n e)]) (fun _ _ => []) := by
 refine Fnc.proof Tryz.func313 G 54 G G fun X w => ?_
 rw [← List.take_length (l := bs)] at hcl
 have hcl' : ∀ sv, Fnc Pg f (sv :: caps.toList) [q] [⟨sv, (bs.take bs.length).drop s.pos⟩] (fun (_ : Unit) v => v = stepTup n e) (fun _ _ => [q']) (fun _ _ => []) := fun sv => by have := hcl sv; simpa using this
 rw [List.length_drop] at hn
 refine gtC (q := bs.length ≤ 9223372036854775807) (fun S w h => list_len (h _ (List.mem_cons_self ..))) fun hlen => sa 1 G<|sq<|qg<|mv G G<|eqP Tryz.underlying311 G G G<|ru 2 G<|rl 5 [1] G G<|nl<|nx<|cdN G (fun h15 => ?_) (fun h15 => ?_)
 · exact absurd (by omega) h15 --#done
 ·
  refine sk<|nx<|sq<|rgZ (L := [q, rdr p bv s, fz X w]) [(4,.ld 1),(8,.ld 1),(12,.ld 1),(17,.ld 1)] [(13,⟨some (.int .i64 (bs.length : Int)),fun _ => [],false⟩),(18,⟨some (.int .i64 (bs.length : Int)),fun _ => [],false⟩),(19,⟨none,fun u => [⟨u, (bs.take bs.length).drop s.pos⟩],false⟩),(20,⟨some (stepTup n e),fun _ => [],true⟩)] [] [] [(20,fun L _ => rpE 2 (q') L)] (fun _ => G) (fun _ => by kernel_rfl) ?_ fun V _ => ?_
  ·
   refine ⟨fun V De _=>(by (repeat (refine aC ?_ ?_; exact lnP 0 G G Tryz.underlying35 G fun l30 => oh G G G G)); trivial),fun V De _=>(by (repeat (refine aC ?_ ?_; exact lnP 0 G G Tryz.underlying35 G fun l35 => oh G G G G)); trivial),fun V De _=>aP1 (slP3 0 G G slt_35 G G G (by omega) (by omega) (by omega) (by omega) G fun v36 => nl (odH G G G trivial (Sc 0 G Sn) (SubD.tail Sr))),?_⟩
   refine ⟨fun V De _=>aP1 ?_,?_⟩
   ·
    refine cfPc (L0 := [q]) (Lr := [rdr p bv s, fz X w]) (hcl' _) hok G (by rfl) (by rfl) (by rfl) (Sc 0 G Sn) (by rfl) fun y v h => ?_
    obtain rfl : v = stepTup n e := h
    exact nl (odH G G G G Sn (SubD.tail Sr))
   trivial
  ·
   refine wD [1] G<|nx<|sq<|sa 2 G<|cdN G (fun h41 => ?_) (fun h41 => ?_)
   ·
    refine qg<|ru 4 G<|stB 1 G G G (Og G) G (nlt G)<|nl<|nx<|sa 1 G<|rt<|tR ?_
    have hs : s.step n e = ⟨s.pos, e⟩ := by unfold Rd.step; rw [if_neg (by omega), if_pos (by omega)]
    rw [hs]
    exact fR1 () G G (by rw [decide_eq_false (by omega)]) G Sn
   ·
    refine sk<|nx<|qg<|rl 5 [1] G G<|adI G G inI G<|ru 2 G<|stB 1 G G G (Og G) G (nlt G)<|nl<|nx<|sa 1 G<|rt ?_
    obtain rfl : e = 0 := by omega
    have hs : s.step n 0 = ⟨s.pos + n, s.fault⟩ := by unfold Rd.step; rw [if_neg (by omega), if_neg (by omega)]
    rw [hs]
    exact fR1 () G G G G Sn
theorem thing2_c (p f : Nat) (bv : Value) (bs : List UInt8) (s : Rd) (caps : Array Value) (q1 q2 q1' q2' : OwnE) (n e : Nat) (hok : FnOk Pg f) (h0 : s.fault = 0) (hp : s.pos ≤ bs.length) (hn : n ≤ (bs.drop s.pos).length)
  (hcl : ∀ sv, Fnc Pg f (sv :: caps.toList) [q1, q2] [⟨sv, bs.drop s.pos⟩] (fun (_ : Unit) v => v = stepTup n e) (fun _ _ => [q1', q2']) (fun _ _ => [])) :
  Fnc Pg 313 [.pointer (some ⟨p, 0, none⟩), .func (.func f) #[] caps] [q1, q2, rdr p bv s] [⟨bv, bs⟩] (fun (_ : Unit) v => v = .bool (decide (e = 0))) (fun _ _ => [q1', q2', rdr p bv (s.step n e)]) (fun _ _ => []) := by
 refine Fnc.proof Tryz.func313 G 54 G G fun X w => ?_
 rw [← List.take_length (l := bs)] at hcl
 have hcl' : ∀ sv, Fnc Pg f (sv :: caps.toList) [q1, q2] [⟨sv, (bs.take bs.length).drop s.pos⟩] (fun (_ : Unit) v => v = stepTup n e) (fun _ _ => [q1', q2']) (fun _ _ => []) := fun sv => by have := hcl sv; simpa using this
 rw [List.length_drop] at hn
 refine gtC (q := bs.length ≤ 9223372036854775807) (fun S w h => list_len (h _ (List.mem_cons_self ..))) fun hlen => sa 1 G<|sq<|qg<|mv G G<|eqP Tryz.underlying311 G G G<|ru 2 G<|rl 5 [2] G G<|nl<|nx<|cdN G (fun h15 => ?_) (fun h15 => ?_)
 · exact absurd (by omega) h15 --#done
 ·
  refine sk<|nx<|sq<|rgZ (L := [q1, q2, rdr p bv s, fz X w]) [(4,.ld 2),(8,.ld 2),(12,.ld 2),(17,.ld 2)] [(13,⟨some (.int .i64 (bs.length : Int)),fun _ => [],false⟩),(18,⟨some (.int .i64 (bs.length : Int)),fun _ => [],false⟩),(19,⟨none,fun u => [⟨u, (bs.take bs.length).drop s.pos⟩],false⟩),(20,⟨some (stepTup n e),fun _ => [],true⟩)] [] [] [(20,fun L _ => rpE 2 (q2') (rpE 3 (q1') L))] (fun _ => G) (fun _ => by kernel_rfl) ?_ fun V _ => ?_
  ·
   refine ⟨fun V De _=>(by (repeat (refine aC ?_ ?_; exact lnP 0 G G Tryz.underlying35 G fun l30 => oh G G G G)); trivial),fun V De _=>(by (repeat (refine aC ?_ ?_; exact lnP 0 G G Tryz.underlying35 G fun l35 => oh G G G G)); trivial),fun V De _=>aP1 (slP3 0 G G slt_35 G G G (by omega) (by omega) (by omega) (by omega) G fun v36 => nl (odH G G G trivial (Sc 0 G Sn) (SubD.tail Sr))),?_⟩
   refine ⟨fun V De _=>aP1 ?_,?_⟩
   ·
    refine cfPc (L0 := [q1, q2]) (Lr := [rdr p bv s, fz X w]) (hcl' _) hok G (by rfl) (by rfl) (by rfl) (Sc 0 G Sn) (by rfl) fun y v h => ?_
    obtain rfl : v = stepTup n e := h
    exact nl (odH G G G G Sn (SubD.tail Sr))
   trivial
  ·
   refine wD [1] G<|nx<|sq<|sa 2 G<|cdN G (fun h41 => ?_) (fun h41 => ?_)
   ·
    refine qg<|ru 4 G<|stB 2 G G G (Og G) G (nlt G)<|nl<|nx<|sa 1 G<|rt<|tR ?_
    have hs : s.step n e = ⟨s.pos, e⟩ := by unfold Rd.step; rw [if_neg (by omega), if_pos (by omega)]
    rw [hs]
    exact fR1 () G G (by rw [decide_eq_false (by omega)]) G Sn
   ·
    refine sk<|nx<|qg<|rl 5 [2] G G<|adI G G inI G<|ru 2 G<|stB 2 G G G (Og G) G (nlt G)<|nl<|nx<|sa 1 G<|rt ?_
    obtain rfl : e = 0 := by omega
    have hs : s.step n 0 = ⟨s.pos + n, s.fault⟩ := by unfold Rd.step; rw [if_neg (by omega), if_neg (by omega)]
    rw [hs]
    exact fR1 () G G G G Sn
theorem thing1_b (p f : Nat) (bv : Value) (bs : List UInt8) (s : Rd) (caps : Array Value) (q : OwnE) (n e : Nat) (h0 : s.fault ≠ 0) :
  Fnc Pg 313 [.pointer (some ⟨p, 0, none⟩), .func (.func f) #[] caps] [q, rdr p bv s] [⟨bv, bs⟩] (fun (_ : Unit) v => v = .bool false) (fun _ _ => [q, rdr p bv s]) (fun _ _ => []) := by
 refine Fnc.proof Tryz.func313 G 54 G G fun X w => sa 1 G<|sq<|qg<|mv G G<|eqP Tryz.underlying311 G G G<|ru 2 G<|rl 5 [1] G G<|nl<|nx<|cdN G (fun h15 => ?_) (fun h15 => ?_)
 · exact sa 1 G<|rt<|tR<|fR1 () G G G G Sn
 · exact absurd (by omega) h0 --#done
theorem thing1 (p f : Nat) (bv : Value) (bs : List UInt8) (s : Rd) (caps : Array Value) (q q' : OwnE) (n e : Nat) (hok : FnOk Pg f) (hp : s.pos ≤ bs.length) (hn : n ≤ (bs.drop s.pos).length)
  (hcl : s.fault = 0 → ∀ sv, Fnc Pg f (sv :: caps.toList) [q] [⟨sv, bs.drop s.pos⟩] (fun (_ : Unit) v => v = stepTup n e) (fun _ _ => [q']) (fun _ _ => []))
  (hbad : s.fault ≠ 0 → [q'] = [q]) :
  Fnc Pg 313 [.pointer (some ⟨p, 0, none⟩), .func (.func f) #[] caps] [q, rdr p bv s] [⟨bv, bs⟩] (fun (_ : Unit) v => v = .bool (decide (s.fault = 0 ∧ e = 0))) (fun _ _ => [q', rdr p bv (s.step n e)]) (fun _ _ => []) := by
 by_cases h0 : s.fault = 0
 ·
  have h := thing1_c p f bv bs s caps q q' n e hok h0 hp hn (hcl h0)
  simpa only [h0, true_and] using h
 ·
  have h := thing1_b p f bv bs s caps q n e h0
  have hs : s.step n e = s := by unfold Rd.step; rw [if_pos h0]
  have hb := hbad h0
  simp only [List.cons.injEq, and_true] at hb
  rw [hs, decide_eq_false (fun hh => h0 hh.1)]
  first | (obtain ⟨e1, e2⟩ := hb; rw [e1, e2]; exact h) | (rw [hb]; exact h)
theorem thing2_b (p f : Nat) (bv : Value) (bs : List UInt8) (s : Rd) (caps : Array Value) (q1 q2 : OwnE) (n e : Nat) (h0 : s.fault ≠ 0) :
  Fnc Pg 313 [.pointer (some ⟨p, 0, none⟩), .func (.func f) #[] caps] [q1, q2, rdr p bv s] [⟨bv, bs⟩] (fun (_ : Unit) v => v = .bool false) (fun _ _ => [q1, q2, rdr p bv s]) (fun _ _ => []) := by
 refine Fnc.proof Tryz.func313 G 54 G G fun X w => sa 1 G<|sq<|qg<|mv G G<|eqP Tryz.underlying311 G G G<|ru 2 G<|rl 5 [2] G G<|nl<|nx<|cdN G (fun h15 => ?_) (fun h15 => ?_)
 · exact sa 1 G<|rt<|tR<|fR1 () G G G G Sn
 · exact absurd (by omega) h0 --#done
theorem thing2 (p f : Nat) (bv : Value) (bs : List UInt8) (s : Rd) (caps : Array Value) (q1 q2 q1' q2' : OwnE) (n e : Nat) (hok : FnOk Pg f) (hp : s.pos ≤ bs.length) (hn : n ≤ (bs.drop s.pos).length)
  (hcl : s.fault = 0 → ∀ sv, Fnc Pg f (sv :: caps.toList) [q1, q2] [⟨sv, bs.drop s.pos⟩] (fun (_ : Unit) v => v = stepTup n e) (fun _ _ => [q1', q2']) (fun _ _ => []))
  (hbad : s.fault ≠ 0 → [q1', q2'] = [q1, q2]) :
  Fnc Pg 313 [.pointer (some ⟨p, 0, none⟩), .func (.func f) #[] caps] [q1, q2, rdr p bv s] [⟨bv, bs⟩] (fun (_ : Unit) v => v = .bool (decide (s.fault = 0 ∧ e = 0))) (fun _ _ => [q1', q2', rdr p bv (s.step n e)]) (fun _ _ => []) := by
 by_cases h0 : s.fault = 0
 ·
  have h := thing2_c p f bv bs s caps q1 q2 q1' q2' n e hok h0 hp hn (hcl h0)
  simpa only [h0, true_and] using h
 ·
  have h := thing2_b p f bv bs s caps q1 q2 n e h0
  have hs : s.step n e = s := by unfold Rd.step; rw [if_pos h0]
  have hb := hbad h0
  simp only [List.cons.injEq, and_true] at hb
  rw [hs, decide_eq_false (fun hh => h0 hh.1)]
  first | (obtain ⟨e1, e2⟩ := hb; rw [e1, e2]; exact h) | (rw [hb]; exact h)
theorem num_r (p : Nat) (bv : Value) (bs : List UInt8) (s : Rd) (hp : s.pos ≤ bs.length) : Fnc Pg 312 [.pointer (some ⟨p, 0, none⟩)] [rdr p bv s] [⟨bv, bs⟩] (fun (_ : Unit) v => v = .int .u64 ((rdNum bs s).1 : Int)) (fun _ _ => [rdr p bv (rdNum bs s).2]) (fun _ _ => []) := by
 refine Fnc.proof Tryz.func312 G 9 G G fun X w => ?_
 have hN0 := fun b sv => num1_c b sv (bs.drop s.pos)
 have hb := numD_bd (bs.drop s.pos) 0 0 (by decide) (by decide)
 rcases hN : numD 0 0 (bs.drop s.pos) with ⟨x, n, e⟩
 rw [hN] at hb
 simp only [hN] at hN0
 simp only at hb
 have hr : rdNum bs s = (s.val 0 x e, s.step n e) := by simp only [rdNum, rdByte, rdCount, rdText, rdOf, hN]
 rw [hr]
 refine sa 1 G<|qg<|al zero_209 G fun b3 => stB 0 G G G (Og G) G (nlt G)<|nl<|nx<|sq<|qg<|mv G G<|mf (xs := [.tmp 3]) G G<|cfP (L0 := [bl b3 209 [.int .u64 0], rdr p bv s]) (Lr := [fz X w]) (thing1 p 318 bv bs s #[.pointer (some ⟨b3, 0, none⟩)] _ (bl b3 209 [.int .u64 ((s.val 0 x e : Nat) : Int)]) n e (Kg G) hp (by omega) (fun h sv => ?_) (fun h => ?_)) (Kg G) G (by rfl) (Sc 0 G Sn) (by rfl) fun y v h => ?_
 ·
  have q := hN0 b3 sv
  have e1 : s.val 0 x e = x := by unfold Rd.val; rw [if_neg (by omega)]; split <;> omega
  rw [e1]
  exact q
 ·
  have e1 : s.val 0 x e = 0 := by unfold Rd.val; rw [if_pos h]
  rw [e1]; rfl
 obtain rfl : v = .bool (decide (s.fault = 0 ∧ e = 0)) := h
 refine nt G G<|nl<|nx<|cdN G (fun h7 => ?_) (fun h7 => ?_)
 ·
  refine sa 1 G<|rt<|tR ?_
  have e1 : s.val 0 x e = 0 := by unfold Rd.val; split; rfl; split; rfl; omega
  exact dpQ<|fR1 () G G (by rw [e1]; rfl) G Sn
 · exact sk<|nx<|sb 2 [0] G G<|rt<|dpQ<|fR1 () G G G G Sn
theorem count_r (p : Nat) (bv : Value) (bs : List UInt8) (s : Rd) (most : Int) (hm : InI most) (hp : s.pos ≤ bs.length) : Fnc Pg 301 [.pointer (some ⟨p, 0, none⟩), .int .i64 most] [rdr p bv s] [⟨bv, bs⟩] (fun (_ : Unit) v => v = .int .i64 ((rdCount bs most s).1 : Int)) (fun _ _ => [rdr p bv (rdCount bs most s).2]) (fun _ _ => []) := by
 refine Fnc.proof Tryz.func301 G 11 G G fun X w => ?_
 have hN0 := fun a b sv => count1_c a b sv (bs.drop s.pos) most hm
 have hb := countD_bd (bs.drop s.pos) most
 rcases hN : countD (bs.drop s.pos) most with ⟨x, n, e⟩
 rw [hN] at hb
 simp only [hN] at hN0
 simp only at hb
 have hr : rdCount bs most s = (s.val 0 x e, s.step n e) := by simp only [rdNum, rdByte, rdCount, rdText, rdOf, hN]
 rw [hr]
 refine qg<|bx G G G fun b3 => ru 1 G<|nl<|nx<|qg<|al zero_3 G fun b5 => stB 0 G G G (Og G) G (nlt G)<|nl<|nx<|sq<|qg<|mv G G<|mf (xs := [.tmp 3, .tmp 5]) G G<|cfP (L0 := [bl b5 3 [.int .i64 0], bl b3 3 [.int .i64 most], rdr p bv s]) (Lr := [fz X w]) (thing2 p 315 bv bs s #[.pointer (some ⟨b3, 0, none⟩), .pointer (some ⟨b5, 0, none⟩)] _ _ (bl b5 3 [.int .i64 ((s.val 0 x e : Nat) : Int)]) (bl b3 3 [.int .i64 most]) n e (Kg G) hp (by omega) (fun h sv => ?_) (fun h => ?_)) (Kg G) G (by rfl) (Sc 0 G Sn) (by rfl) fun y v h => ?_
 ·
  have q := hN0 b3 b5 sv
  have e1 : s.val 0 x e = x := by unfold Rd.val; rw [if_neg (by omega)]; split; exact (by simp [hb.2.2, *]); rfl
  rw [e1]
  exact q
 ·
  have e1 : s.val 0 x e = 0 := by unfold Rd.val; rw [if_pos h]
  rw [e1]; try rfl
 obtain rfl : v = .bool (decide (s.fault = 0 ∧ e = 0)) := h
 refine nt G G<|nl<|nx<|cdN G (fun h9 => ?_) (fun h9 => ?_)
 ·
  refine sa 1 G<|rt<|tR ?_
  have e1 : s.val 0 x e = 0 := by unfold Rd.val; split; rfl; split; rfl; omega
  refine dpQ (dpQ ?_)
  exact fR1 () G G (by rw [e1]; rfl) G Sn
 ·
  refine sk<|nx<|sb 2 [0] G G<|rt<|dpQ (dpQ ?_)
  exact fR1 () G G G G Sn
theorem text_r (p : Nat) (bv : Value) (bs : List UInt8) (s : Rd) (most : Int) (hm : InI most) (hms : most ≤ 1000000) (hp : s.pos ≤ bs.length) : Fnc Pg 306 [.pointer (some ⟨p, 0, none⟩), .int .i64 most] [rdr p bv s] [⟨bv, bs⟩] (fun (_ : Unit) _ => True) (fun _ _ => [rdr p bv (rdText bs most s).2]) (fun _ v => [⟨v, (rdText bs most s).1⟩]) := by
 refine Fnc.proof Tryz.func306 G 10 G G fun X w => ?_
 have hN0 := fun a b sv => text1_c a b sv (bs.drop s.pos) most hm hms
 have hb := textD_bd (bs.drop s.pos) most
 rcases hN : textD (bs.drop s.pos) most with ⟨x, n, e⟩
 rw [hN] at hb
 simp only [hN] at hN0
 simp only at hb
 have hr : rdText bs most s = (s.val [] x e, s.step n e) := by simp only [rdNum, rdByte, rdCount, rdText, rdOf, hN]
 rw [hr]
 have hb : True ∧ n ≤ (bs.drop s.pos).length ∧ (e ≠ 0 → x = [] ∧ n = 0) := ⟨trivial, hb.1, hb.2.1⟩
 refine qg<|bx G G G fun b3 => ru 1 G<|nl<|nx<|qg<|al zero_35 G fun b5 => nl<|nx<|qg<|mv G G<|emL (α := UInt8)<|clL (α := List UInt8) 0 0 G G<|mf (xs := [.tmp 3, .tmp 5]) G G<|cfP (L0 := [vr b5 35 ([] : List UInt8), bl b3 3 [.int .i64 most], rdr p bv s]) (Lr := [fz X w]) (thing2 p 317 bv bs s #[.pointer (some ⟨b3, 0, none⟩), .pointer (some ⟨b5, 0, none⟩)] _ _ (vr b5 35 (s.val [] x e : List UInt8)) (bl b3 3 [.int .i64 most]) n e (Kg G) hp (by omega) (fun h sv => ?_) (fun h => ?_)) (Kg G) G (by rfl) (Sc 1 G Sn) (by rfl) fun y v h => ?_
 ·
  have q := hN0 b3 b5 sv
  have e1 : s.val [] x e = x := by unfold Rd.val; rw [if_neg (by omega)]; split; exact (by simp [hb.2.2, *]); rfl
  rw [e1]
  exact q
 ·
  have e1 : s.val [] x e = [] := by unfold Rd.val; rw [if_pos h]
  rw [e1]; try rfl
 obtain rfl : v = .bool (decide (s.fault = 0 ∧ e = 0)) := h
 refine nl<|nx<|qg<|opL 0 G fun u9 => rl 2 [0] G G<|nl<|nx<|rt<|dpQ (dpQ ?_)
 exact fR1 () G G trivial G (Sc 0 G Sn)
end Go.Proofs.YtmpoffijcfaalaaGreat.Rdr
