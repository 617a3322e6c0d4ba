/- Part 11 of dutyPlays_holds. -/
import Derived.Test.YtmpoffijcfaalaaGreatPl10

set_option maxRecDepth 20000
set_option maxHeartbeats 1000000
namespace Go.Proofs.YtmpoffijcfaalaaGreat
open Go.Eng Go.YtmpoffijcfaalaaGreat
section
variable (c : TChart) (c_0 c_1 : Value)
theorem pright1_c (x : TPlace) (v1 : Value) (c : TChart) (h_x : x.wf) : FnV Pg 189 [.agg (cPlace x).toArray, v1] [⟨v1, (⟨c⟩ : Pt TChart)⟩] (.bool (decide (x.fGroup ≥ c.fNext))) := by
 exact Fnc.proof Tryz.func189 G 9 G G fun X w => qg<|bx G G G fun b2 => ru 1 G<|nl<|nx<|qg<|rl 2 [0] G G<|faP (α := TChart) (β := Int) 0 (fun x : TChart => x.fNext) G G (Fg G) pChart_2 G fun v6 => ldV 0 G G (Og G) G fun w7 => ru 2 G<|nl<|nx<|rt<|dpQ<|fR1 () G G (by rfl) G Sn
theorem containsPlace_c (v_l : Value) (l : List TPlace) (f : Nat) (caps : Array Value) (A : List Atom) (p : TPlace → Bool) (hok : FnOk Pg f) (hcl : ∀ x : TPlace, x.wf → FnV Pg f (.agg (cPlace x).toArray :: caps.toList) A (.bool (p x))) : FnV Pg 188 [v_l, .func (.func f) #[] caps] (⟨v_l, l⟩ :: A) (.bool (decide (placeI (firstI l.length (fun j => p (l.getD j default))) ≥ 0))) := by
 exact Fnc.proof Tryz.func188 G 9 G G fun X w => sa 1 G<|qg<|ru 2 G<|cfv (indexPlace_c _ _ f caps A p hok hcl) ok_244 G (Sc 0 G (SubD.tail Sr)) G<|ru 2 G<|nl<|nx<|rt<|fR1 () G G (by rfl) G Sn
theorem splits_c (h_c : c.wf) (hp : 0 < c.fPlaces.length) (hn : 2 ≤ c.fNext) : FnV Pg 191 [.agg (cChart c c_0 c_1).toArray] [⟨c_0, c.fPlaces⟩, ⟨c_1, c.fMarks⟩] (.bool (splitsP c)) := by
 refine Fnc.proof Tryz.func191 G 75 G G fun X w => ?_
 obtain ⟨nx1, nx2⟩ := id h_c.2.2.1
 have hfl := findP_lt (k := c.fPlan.fLo) hp
 refine gtC (q := c.fPlaces.length ≤ 9223372036854775807) (fun S w h => list_len (h _ (List.mem_of_getElem? (i := 0) G))) fun hlen => qg<|bx G G G fun b1 => ru 1 G<|nl<|nx<|qg<|ru 1 G<|ldM 0 (cPlan c.fPlan) G G (Rg G) G G<|al zero_24 G fun b3 => stW 0 (us := (cPlan c.fPlan)) G G G (Rg G) G G<|nl<|nx<|sq<|qg<|rl 4 [1,0] G G<|cfv (of_c _ _ _ h_c.2.2.2.2.1.2.2.1) ok_173 G (Sc 0 G Sn) G<|ru 5 G<|nl<|nx<|qg<|ru 2 G ?_
 refine jz 19 7 [1,3] G G (fun h19 K26 => by
  have p19 := h19
  try simp only [Bool.or_eq_false_iff, Bool.and_eq_true, decide_eq_true_eq, decide_eq_false_iff_not, Bool.not_eq_true', Bool.not_eq_false'] at p19
  exact rl 4 [0,1] G G<|gY G G G<|sbI G G (inI (by omega) (by omega)) G<|ru 2 G<|K26 G Sr) ?_
 refine mv G G<|jz 27 5 [1,3] G G (fun h27 K32 => rl 2 [1] G G<|gY G G G<|lnP 0 G G Tryz.underlying22 G fun l30 => ru 2 G<|K32 G Sr)<|mv G G<|jb 33 4 [0] [1,3] G G G<|mv G G<|jz 38 5 [1,3] G G (fun h38 K43 => rl 2 [0] G G<|gY G G G<|lnS G Tryz.underlying9 G<|ru 2 G<|K43 G Sr)<|nl<|nx<|cdB G (fun h43 => ?_) (fun h43 => ?_)
 ·
  have e43 : (split1 c) = true := h43
  exact sa 1 G<|rt<|tR<|dpQ<|dpQ<|fR1 () G G (by rw [splitsP, e43]; try rfl) G Sn
 ·
  have e43 : (split1 c) = false := h43
  refine sk<|nx<|qg<|rl 4 [1,0] G G<|cfv (find_c _ _ _) ok_35 G (Sc 0 G Sn) G<|ru 1 G<|nl<|nx<|qg<|rl 3 [1] G G<|ixP 0 G G G slt_22 (by omega) (gE (by omega)) G fun v52 => ldS 0 G G (Rg G) G fun q53 w53 => al zero_90 G fun b7 => stW 0 (us := (cPlace ((c.fPlaces.getD (findP c.fPlaces c.fPlan.fLo) default)))) G G G (Rg G) G G<|nl<|nx<|sq<|rgQ mixed (by kernel_rfl)<|rl 6 [1,0] G G<|ja 59 6 [1,0] [1,3,6] G G G<|mv G G ?_
  refine jy 66 8 [] G G (fun h66 K74 => by
   exact rl 5 [1,2] G G<|gY G G G<|cfq (end_c _ _ _ (inI (by omega) (by omega))) ok_245 G (Sc 2 G Sn) G<|ru 1 G<|ru 1 G<|K74 G Sr) ?_
  exact ru 1 G<|nlQ<|nx<|rt<|dpQ<|dpQ<|dpQ<|fR1 () G G (by rw [splitsP, e43]; try rfl) G Sn
theorem merges_c (h_c : c.wf) (hp : 0 < c.fPlaces.length) : FnV Pg 192 [.agg (cChart c c_0 c_1).toArray] [⟨c_0, c.fPlaces⟩, ⟨c_1, c.fMarks⟩] (.bool (mergesP c)) := by
 refine Fnc.proof Tryz.func192 G 55 G G fun X w => ?_
 obtain ⟨nx1, nx2⟩ := id h_c.2.2.1
 have hol := ofP_lt (g := c.fPlan.fTo) hp
 refine gtC (q := c.fPlaces.length ≤ 9223372036854775807) (fun S w h => list_len (h _ (List.mem_of_getElem? (i := 0) G))) fun hlen => qg<|bx G G G fun b1 => ru 1 G<|nl<|nx<|qg<|ru 1 G<|ldM 0 (cPlan c.fPlan) G G (Rg G) G G<|al zero_24 G fun b3 => stW 0 (us := (cPlan c.fPlan)) G G G (Rg G) G G<|nl<|nx<|qg<|rl 4 [1,0] G G<|cfv (of_c _ _ _ h_c.2.2.2.2.1.2.2.1) ok_173 G (Sc 0 G Sn) G<|ru 5 G<|nl<|nx<|sq<|qg<|ru 3 G ?_
 refine jz 19 7 [1,3,4] G G (fun h19 K26 => by
  have p19 := h19
  try simp only [Bool.or_eq_false_iff, Bool.and_eq_true, decide_eq_true_eq, decide_eq_false_iff_not, Bool.not_eq_true', Bool.not_eq_false'] at p19
  exact ru 1 G<|gY G G G<|adI G G (inI (by omega) (by omega)) G<|rl 2 [1] G G<|gY G G G<|lnP 0 G G Tryz.underlying22 G fun l24 => ru 2 G<|K26 G Sr) ?_
 refine nl<|nx<|cdB G (fun h26 => ?_) (fun h26 => ?_)
 ·
  have e26 : (merge1 c) = true := h26
  exact sa 1 G<|rt<|tR<|dpQ<|dpQ<|fR1 () G G (by rw [mergesP, e26]; try rfl) G Sn
 ·
  have hq : nxt c < (c.fPlaces.length : Int) := by
   have q := h26
   simp only [Bool.or_eq_false_iff, decide_eq_false_iff_not] at q
   have q2 := q.2
   show (((ofP c.fPlaces c.fPlan.fTo).getD 0 : Nat) : Int) + 1 < _
   omega
  unfold nxt at hq
  have e26 : (merge1 c) = false := h26
  refine sk<|nx<|qg<|rl 3 [1] G G<|adI G G (inI (by omega) (by omega)) G<|ixP 0 G G G slt_22 (by omega) (gE (by omega)) G fun v31 => ldS 0 G G (Rg G) G fun q32 w32 => al zero_90 G fun b6 => stW 0 (us := (cPlace ((c.fPlaces.getD (((((ofP c.fPlaces c.fPlan.fTo).getD 0 : Nat) : Int) + 1)).toNat default)))) G G G (Rg G) G G<|nl<|nx<|sq<|rgQ mixed (by kernel_rfl)<|rl 6 [1,0] G G<|ja 38 6 [1,0] [1,3,4] G G G<|mv G G ?_
  refine jy 45 9 [] G G (fun h45 K54 => by
   have p45 := h45
   try simp only [Bool.or_eq_false_iff, Bool.and_eq_true, decide_eq_true_eq, decide_eq_false_iff_not, Bool.not_eq_true', Bool.not_eq_false'] at p45
   exact rl 5 [1,2] G G<|gY G G G<|adI G G (inI (by omega) (by omega)) G<|gY G G G<|cfq (end_c _ _ _ (inI (by omega) (by omega))) ok_245 G (Sc 2 G Sn) G<|ru 2 G<|K54 G Sr) ?_
  exact ru 1 G<|nlQ<|nx<|rt<|dpQ<|dpQ<|dpQ<|fR1 () G G (by rw [mergesP, e26]; try rfl) G Sn
theorem pright_c (h_c : c.wf) : FnV Pg 123 [.agg (cChart c c_0 c_1).toArray] [⟨c_0, c.fPlaces⟩, ⟨c_1, c.fMarks⟩] (.bool (planP c)) := by
 refine Fnc.proof Tryz.func123 G 82 G G fun X w => qg<|bx G G G fun b1 => ru 1 G<|nl<|nx<|sq<|qg<|rl 4 [0] G G<|jb 7 4 [0] [1] G G G<|mv G G<|jb 12 4 [0] [1] G G G<|mv G G<|jb 17 4 [0] [1] G G G<|mv G G<|jb 22 4 [0] [1] G G G<|mv G G<|jb 27 4 [0] [1] G G G<|nl<|nx<|cdB G (fun h31 => ?_) (fun h31 => ?_)
 ·
  have e31 : (plan1 c) = true := h31
  exact sa 1 G<|rt<|tR<|dpQ<|fR1 () G G (by rw [planP, e31]; try rfl) G Sn
 ·
  have hn : 2 ≤ c.fNext := by
   have q := h31
   simp only [Bool.or_eq_false_iff, decide_eq_false_iff_not] at q
   have := q.1.2
   omega
  have e31 : (plan1 c) = false := h31
  refine sk<|nx<|sq<|qg<|rl 2 [0] G G<|cfv (rcheck_c _ _) ok_187 G (Sc 0 G Sn) G<|ru 2 G ?_
  refine jz 36 5 [1] G G (fun h36 K41 => by
   have p36 := h36
   simp only [Bool.not_eq_true', Bool.not_eq_false', decide_eq_true_eq, decide_eq_false_iff_not] at p36
   exact rl 2 [0] G G<|gY G G G<|cfv (scheck_c _ _) ok_182 G (Sc 1 G Sn) G<|ru 2 G<|K41 G Sr) ?_
  refine nl<|nx<|cdB G (fun h41 => ?_) (fun h41 => ?_)
  ·
   have e41 : (plan2 c) = true := h41
   exact sa 1 G<|rt<|tR<|dpQ<|fR1 () G G (by rw [planP, e31, e41]; try rfl) G Sn
  ·
   have hp : 0 < c.fPlaces.length := by
    have q := h41
    simp only [Bool.or_eq_false_iff, Bool.not_eq_false', errF_ok] at q
    have q1 := q.1
    unfold rplacesP at q1
    split at q1
    ·
     cases q1
    ·
     rename_i hn
     simp only [rpl1, Bool.or_eq_true, decide_eq_true_eq, not_or] at hn
     have := hn.1
     omega
   have hp7 : c.fPlaces.length ≤ 7 := rplaces_len (by
    have q := h41
    simp only [Bool.or_eq_false_iff, Bool.not_eq_false', errF_ok] at q
    exact q.1)
   have e41 : (plan2 c) = false := h41
   refine sk<|nx<|sq<|qg<|rl 2 [0] G G ?_
   refine frP (α := TChart) c (fun S w h => ⟨⟨c_0, c_1⟩, G, fun t ht => by
     simp only [List.mem_cons, List.not_mem_nil, or_false] at ht
     rcases ht with rfl | rfl
     · exact h _ (List.mem_of_getElem? (i := 0) G)
     · exact h _ (List.mem_of_getElem? (i := 1) G), h_c⟩) ?_
   refine mf (xs := [.tmp 1]) G G<|cfv (containsPlace_c _ _ 189 #[.pointer (some ⟨b1, 0, none⟩)] [⟨_, (⟨c⟩ : Pt TChart)⟩] (fun x => decide (x.fGroup ≥ c.fNext)) ok_189 (fun x hx => pright1_c x _ c hx)) ok_188 G (Si [1,0] G) G<|nl<|nx<|cdP G (fun h45 => ?_) (fun h45 => ?_)
   ·
    have e45 : (plan3 c) = true := (decide_eq_true h45)
    exact sa 1 G<|rt<|tR<|fR1 () G G (by rw [planP, e31, e41, e45]; try rfl) G Sn
   ·
    have e45 : (plan3 c) = false := (decide_eq_false h45)
    refine sk<|nx<|qg<|faP (α := TChart) (β := TPlan) 0 (fun x : TChart => x.fPlan) G G (Fg G) pChart_4 G fun v46 => ldS 0 G G (Rg G) G fun q47 w47 => al zero_24 G fun b3 => stW 0 (us := (cPlan c.fPlan)) G G G (Rg G) G G<|nl<|nx<|sq<|qg<|ldM 0 (cPlan c.fPlan) G G (Rg G) G G<|bd (ps := []) (cs := (cPlan (pZ))) (by rfl) (by kernel_rfl) G<|eqT eq_Plan (c.fPlan) (pZ) G G G<|nl<|nx<|cdP G (fun h50 => ?_) (fun h50 => ?_)
    ·
     have e50 : (plan4 c) = true := (decide_eq_true h50)
     exact sa 1 G<|rt<|tR<|dpQ<|fR1 () G G (by rw [planP, e31, e41, e45, e50]; try rfl) G Sn
    ·
     have e50 : (plan4 c) = false := (decide_eq_false h50)
     refine sk<|nx<|qg<|rl 2 [0] G G<|faP (α := TChart) (β := Int) 2 (fun x : TChart => x.fLast) G G (Fg G) pChart_3 G fun v53 => ldV 0 G G (Og G) G fun w54 => ru 2 G<|ja 56 4 [0] [1,3] G G G<|mv G G<|jy 61 6 [1] G G (fun h61 K67 => rl 4 [0,0] G G<|gY G G G<|cfv (pwhose_c _ _ w47.2.2.2.2.2.1 w47.2.2.2.2.2.2) ok_190 G Sn G<|ru 1 G<|K67 G Sr)<|mv G G<|jy 68 5 [1] G G (fun h68 K73 => gY G G G<|faP (α := TChart) (β := List TPlace) 3 (fun x : TChart => x.fPlaces) G G (Fg G) pChart_1 G fun v69 => gY G G G<|ldL 0 G G (Og G) G fun v70 => gY G G G<|cfv (epoch_c _ _ (by assumption)) ok_172 G (Sc 0 G Sn) G<|ru 2 G<|K73 G (SubD.tail (SubD.tail Sr)))<|mv G G ?_
     refine jy 74 7 [] G G (fun h74 K81 => by
      refine gY G G G<|ldS 3 G G (Rg G) G fun q75 w75 => ?_
      obtain ⟨q75_0, q75_1⟩ := q75
      refine gY G G G<|cfv (splits_c _ _ _ w75 (by assumption) (by assumption)) ok_191 G (Si [1,2] G) G<|ru 1 G ?_
      refine jz 77 3 [74] G G (fun h77 K80 => by
       refine gY G G G<|ldS 6 G G (Rg G) G fun q78 w78 => ?_
       obtain ⟨q78_0, q78_1⟩ := q78
       exact gY G G G<|cfv (merges_c _ _ _ w78 (by assumption)) ok_192 G (Si [1,2] G) G<|ru 1 G<|K80 G (SubD.tail (SubD.tail (SubD.tail Sr)))) ?_
      exact ru 1 G<|K81 G (SubD.tail (SubD.tail (SubD.tail Sr)))) ?_
     exact ru 1 G<|nl<|nx<|rt<|dpQ<|fR1 () G G (by rw [planP, e31, e41, e45, e50]; try rfl) G Sn
theorem pcheck_c (h_c : c.wf) : FnV Pg 58 [.agg (cChart c c_0 c_1).toArray] [⟨c_0, c.fPlaces⟩, ⟨c_1, c.fMarks⟩] (.int .i64 (errF (planP c))) := by
 refine Fnc.proof Tryz.func58 G 6 G G fun X w => qg<|bx G G G fun b1 => ru 1 G<|nl<|nx<|sq<|qg<|ldM 0 (cChart c c_0 c_1) G G (Rg G) G G<|cfv (pright_c _ _ _ h_c) ok_123 G (Si [0,1] G) G<|nt G G<|nl<|nx<|cdB G (fun h5 => ?_) (fun h5 => ?_)
 · exact sa 1 G<|rt<|tR<|dpQ<|fR1 () G G (by rw [errF, if_neg (by have q := h5; rw [Bool.not_eq_true'] at q; rw [q]; decide)]) G Sn
 · exact sk<|nx<|sa 1 G<|rt<|dpQ<|fR1 () G G (by rw [errF, if_pos (by have q := h5; rw [Bool.not_eq_false'] at q; exact q)]) G Sn
end
theorem goes_c (c : TChart) (c_0 c_1 : Value) (h_c : c.wf) (hp : 0 < c.fPlaces.length) (hn : 2 ≤ c.fNext) : FnV Pg 129 [.agg (cChart c c_0 c_1).toArray] [⟨c_0, c.fPlaces⟩, ⟨c_1, c.fMarks⟩] (.bool (goesP c)) := by
 refine Fnc.proof Tryz.func129 G 140 G G fun X w => ?_
 obtain ⟨nx1, nx2⟩ := id h_c.2.2.1
 have hfl := find17_lt (k := c.fPlan.fLo) hp
 have hol := ofP_lt (g := c.fPlan.fTo) hp
 refine gtC (q := c.fPlaces.length ≤ 9223372036854775807) (fun S w h => list_len (h _ (List.mem_of_getElem? (i := 0) G))) fun hlen => qg<|bx G G G fun b1 => ru 1 G<|nl<|nx<|qg<|ru 1 G<|ldM 0 (cPlan c.fPlan) G G (Rg G) G G<|al zero_24 G fun b3 => stW 0 (us := (cPlan c.fPlan)) G G G (Rg G) G G<|nl<|nx<|sq<|qg<|rl 2 [1] G G<|cfv (epoch17_c _ _) ok_116 G (Sc 0 G Sn) G<|ru 2 G<|jb 13 6 [0,1] [1,3] G G G<|mv G G<|jb 20 4 [0] [1,3] G G G<|mv G G<|jz 25 5 [1,3] G G (fun h25 K30 => rl 2 [0] G G<|gY G G G<|cfv (client14_c _ h_c.2.2.2.2.1.2.2.2.2.2.1) ok_37 G Sn G<|ru 2 G<|K30 G Sr)<|mv G G<|jz 31 5 [1,3] G G (fun h31 K36 => rl 2 [0] G G<|gY G G G<|cfv (seq14_c _ h_c.2.2.2.2.1.2.2.2.2.2.2) ok_38 G Sn G<|ru 2 G<|K36 G Sr)<|nl<|nx<|cdB G (fun h36 => ?_) (fun h36 => ?_)
 ·
  have e36 : (goes1 c) = true := h36
  exact sa 1 G<|rt<|tR<|dpQ<|dpQ<|fR1 () G G (by rw [goesP, e36]; try rfl) G Sn
 ·
  have e36 : (goes1 c) = false := h36
  refine sk<|nx<|qg<|rl 4 [1,0] G G<|cfv (of17_c _ _ _ h_c.2.2.2.2.1.2.2.1) ok_117 G (Sc 0 G Sn) G<|ru 5 G<|nl<|nx<|sq<|sa 2 G<|cdB G (fun h46 => ?_) (fun h46 => ?_)
  ·
   have e46 : (!(ofP c.fPlaces c.fPlan.fTo).isSome) = true := h46
   refine qg<|rl 4 [1,0] G G<|cfv (find17_c _ _ _) ok_39 G (Sc 0 G Sn) G<|ru 1 G<|nl<|nx<|sq<|rgQ mixed (by kernel_rfl)<|rl 2 [0] G G<|rl 2 [1] G G<|sbI G G (inI (by omega) (by omega)) G<|ru 2 G ?_
   refine jy 58 5 [1,3,6] G G (fun h58 K63 => by
    have p58 := of_decide_eq_true h58
    exact rl 2 [1] G G<|gY G G G<|lnP 0 G G Tryz.underlying22 G fun l61 => ru 2 G<|K63 G Sr) ?_
   refine mv G G<|jy 64 4 [1,3,6] G G (fun h64 K68 => rl 2 [0] G G<|gY G G G<|cfq (key15_c _) ok_168 G Sn G<|ru 1 G<|K68 G Sr)<|mv G G ?_
   refine jy 69 10 [1,3,6] G G (fun h69 K79 => by
    have p69 := h69
    try simp only [Bool.or_eq_false_iff, Bool.and_eq_true, decide_eq_true_eq, decide_eq_false_iff_not, Bool.not_eq_true', Bool.not_eq_false'] at p69
    exact rl 3 [1] G G<|gY G G G<|ixP 0 G G G slt_22 (by omega) (gE (by omega)) G fun v73 => gY G G G<|faP (α := TPlace) (β := Int) 0 (fun x : TPlace => x.fGroup) G G (Fg G) pPlace_0 G fun v74 => gY G G G<|ldV 0 G G (Og G) G fun w75 => rl 4 [0] G G<|K79 G (SubD.tail (SubD.tail Sr))) ?_
   refine mv G G ?_
   refine jy 80 10 [1,3,6] G G (fun h80 K90 => by
    have p80 := h80
    try simp only [Bool.or_eq_false_iff, Bool.and_eq_true, decide_eq_true_eq, decide_eq_false_iff_not, Bool.not_eq_true', Bool.not_eq_false'] at p80
    exact rl 3 [1] G G<|gY G G G<|ixP 0 G G G slt_22 (by omega) (gE (by omega)) G fun v84 => gY G G G<|faP (α := TPlace) (β := ByteArray) 0 (fun x : TPlace => x.fFrom) G G (Fg G) pPlace_1 G fun v85 => gY G G G<|ldV 0 G G (Og G) G fun w86 => rl 4 [0] G G<|K90 G (SubD.tail (SubD.tail Sr))) ?_
   refine mv G G ?_
   refine jy 91 8 [] G G (fun h91 K99 => by
    exact rl 5 [0,1] G G<|gY G G G<|cfq (end17_c _ _ _ (inI (by omega) (by omega))) ok_92 G (Sc 0 G Sn) G<|ru 1 G<|ru 1 G<|K99 G Sr) ?_
   exact ru 1 G<|nlQ<|nx<|rt<|tR<|dpQ<|dpQ<|fR1 () G G (by rw [goesP, e36, e46]; try rfl) G Sn
  ·
   have e46 : (!(ofP c.fPlaces c.fPlan.fTo).isSome) = false := h46
   refine sk<|nx<|sq<|rgQ mixed (by kernel_rfl)<|mv G G<|adI G G (inI (by omega) (by omega)) G<|rl 2 [1] G G<|lnP 0 G G Tryz.underlying22 G fun l104 => ru 2 G ?_
   refine jy 106 11 [1,3,4] G G (fun h106 K117 => by
    have p106 := of_decide_eq_true h106
    exact rl 3 [1] G G<|gY G G G<|adI G G (inI (by omega) (by omega)) G<|gY G G G<|ixP 0 G G G slt_22 (by omega) (gE (by omega)) G fun v111 => gY G G G<|faP (α := TPlace) (β := Int) 0 (fun x : TPlace => x.fGroup) G G (Fg G) pPlace_0 G fun v112 => gY G G G<|ldV 0 G G (Og G) G fun w113 => rl 4 [0] G G<|K117 G (SubD.tail (SubD.tail Sr))) ?_
   refine mv G G ?_
   refine jy 118 11 [1,3,4] G G (fun h118 K129 => by
    have p118 := h118
    try simp only [Bool.or_eq_false_iff, Bool.and_eq_true, decide_eq_true_eq, decide_eq_false_iff_not, Bool.not_eq_true', Bool.not_eq_false'] at p118
    exact rl 3 [1] G G<|gY G G G<|adI G G (inI (by omega) (by omega)) G<|gY G G G<|ixP 0 G G G slt_22 (by omega) (gE (by omega)) G fun v123 => gY G G G<|faP (α := TPlace) (β := ByteArray) 0 (fun x : TPlace => x.fFrom) G G (Fg G) pPlace_1 G fun v124 => gY G G G<|ldV 0 G G (Og G) G fun w125 => rl 4 [0] G G<|K129 G (SubD.tail (SubD.tail Sr))) ?_
   refine mv G G ?_
   refine jy 130 9 [] G G (fun h130 K139 => by
    have p130 := h130
    try simp only [Bool.or_eq_false_iff, Bool.and_eq_true, decide_eq_true_eq, decide_eq_false_iff_not, Bool.not_eq_true', Bool.not_eq_false'] at p130
    exact rl 3 [1] G G<|gY G G G<|adI G G (inI (by omega) (by omega)) G<|gY G G G<|cfq (end17_c _ _ _ (inI (by omega) (by omega))) ok_92 G (Sc 0 G Sn) G<|rl 2 [0] G G<|ru 2 G<|K139 G Sr) ?_
   exact ru 1 G<|nlQ<|nx<|rt<|dpQ<|dpQ<|fR1 () G G (by rw [goesP, e36, e46]; try rfl) G Sn
theorem right20_c (c : TChart) (c_0 c_1 : Value) (h_c : c.wf) : FnV Pg 60 [.agg (cChart c c_0 c_1).toArray] [⟨c_0, c.fPlaces⟩, ⟨c_1, c.fMarks⟩] (.bool (right20 c)) := by
 refine Fnc.proof Tryz.func60 G 60 G G fun X w => qg<|bx G G G fun b1 => ru 1 G<|nl<|nx<|sq<|qg<|rl 2 [0] G G<|cfv (number20_c _ h_c.1) ok_126 G Sn G<|ru 2 G<|jz 8 5 [1] G G (fun h8 K13 => rl 2 [0] G G<|gY G G G<|cfv (number20_c _ h_c.2.2.2.1) ok_126 G Sn G<|ru 2 G<|K13 G Sr)<|mv G G<|jz 14 5 [1] G G (fun h14 K19 => rl 2 [0] G G<|gY G G G<|cfv (right17_c _ _) ok_127 G (Sc 0 G Sn) G<|ru 2 G<|K19 G Sr)<|mv G G<|jb 20 4 [0] [1] G G G<|mv G G<|jb 25 4 [0] [1] G G G<|mv G G<|jz 30 5 [1] G G (fun h30 K35 => rl 2 [0] G G<|gY G G G<|cfv (right14_c _ _) ok_128 G (Sc 1 G Sn) G<|ru 2 G<|K35 G Sr)<|nl<|nx<|cdB G (fun h35 => ?_) (fun h35 => ?_)
 ·
  have e35 : (right20a c) = true := h35
  exact sa 1 G<|rt<|tR<|dpQ<|fR1 () G G (by rw [right20, if_pos e35]) G Sn
 ·
  have hp : 0 < c.fPlaces.length := places17_pos (by have q := h35; simp only [Bool.or_eq_false_iff, Bool.not_eq_false'] at q; exact q.1.1.1.2)
  have hn : 2 ≤ c.fNext := by
   have q := h35
   simp only [Bool.or_eq_false_iff, decide_eq_false_iff_not] at q
   have := q.1.1.2
   omega
  have e35 : (right20a c) = false := h35
  refine sk<|nx<|sq<|sa 1 G<|bk<|lpC (σ := Nat) [(1, _)] _ (fun i C => (3, .int .i64 (i : Int)) :: C) (fun i => i ≤ c.fPlaces.length ∧ (∀ j, j < i → (!decide ((c.fPlaces.getD j default).fGroup ≥ c.fNext)) = true)) (fun i => c.fPlaces.length - i) 0 ⟨G, trivial⟩ (Sc 0 G (Sc 1 G Sn)) ⟨Nat.zero_le _, fun j hj => absurd hj (Nat.not_lt_zero j)⟩ (Gs G) ?_
  rintro i ⟨hi, hall⟩
  refine sq<|qg<|rl 3 [0] G G<|lnP 0 G G Tryz.underlying22 G fun l39 => ru 1 G<|nl<|nx<|cdP G (fun h40 => ?_) (fun h40 => ?_)
  ·
   refine sk<|nx<|sq<|bk<|sq<|rgQ mixed (by kernel_rfl)<|rl 3 [0] G G<|ixP 0 G G G slt_22 (by omega) (gE (by omega)) G fun v46 => faP (α := TPlace) (β := Int) 0 (fun x : TPlace => x.fGroup) G G (Fg G) pPlace_0 G fun v47 => ldV 0 G G (Og G) G fun w48 => rl 3 [0] G G<|nlQ<|nx<|cdP G (fun h51 => ?_) (fun h51 => ?_)
   · exact sa 1 G<|rt<|bR<|tR<|tR<|bR<|tR<|dpQ<|fR1 () G G (by rw [right20, if_neg (by rw [e35]; decide), if_neg (by rw [right20b, allI_false i (by omega) (not_decfalse h51)]; decide)]) G Sn
   ·
    refine sk<|bN<|nx<|rg<|mv G G<|adI G G (inI (by omega) (by omega)) G<|ru 1 G<|nl ?_
    exact ag (i + 1) ⟨(by omega), (all_snoc hall (not_dectrue h51))⟩ (by omega) (Gs G) G (Si [2,3] G)
  ·
   refine ex<|tE<|tE<|bE<|nx<|qg<|ru 1 G<|ldM 0 (cPlan c.fPlan) G G (Rg G) G G<|bd (ps := []) (cs := (cPlan (pZ))) (by rfl) (by kernel_rfl) G<|eqT eq_Plan (c.fPlan) (pZ) G G G<|mv G G ?_
   refine jz 56 3 [] G G (fun h56 K59 => by
    have p56 := of_decide_eq_false h56
    exact gY G G G<|ldM 0 (cChart c c_0 c_1) G G (Rg G) G G<|gY G G G<|cfv (goes_c _ _ _ h_c (by assumption) (by assumption)) ok_129 G (Si [0,1] G) G<|ru 1 G<|K59 G Sr) ?_
   exact ru 1 G<|nl<|nx<|rt<|dpQ<|fR1 () G G (by rw [right20, if_neg (by rw [e35]; decide), if_pos (by rw [right20b]; exact allI_true (fun j hj => hall j (by omega)))]; try rfl) G Sn
end Go.Proofs.YtmpoffijcfaalaaGreat
namespace Go.Proofs.YtmpoffijcfaalaaGreat.Pen
open Go.Eng
theorem app_25 : AppTy Tryz.prog 25 122 7 56 := AppTy.mk Tryz.underlying25 (by kernel_rfl) (by decide)
theorem app_297 : AppTy Tryz.prog 297 243 1 8 := AppTy.mk Tryz.underlying297 (by kernel_rfl) (by decide)
theorem app_348 : AppTy Tryz.prog 348 247 1 8 := AppTy.mk Tryz.underlying348 (by kernel_rfl) (by decide)
theorem app_50 : AppTy Tryz.prog 50 70 10 104 := AppTy.mk Tryz.underlying50 (by kernel_rfl) (by decide)
theorem app_51 : AppTy Tryz.prog 51 108 11 104 := AppTy.mk Tryz.underlying51 (by kernel_rfl) (by decide)
theorem app_52 : AppTy Tryz.prog 52 126 8 80 := AppTy.mk Tryz.underlying52 (by kernel_rfl) (by decide)
theorem app_53 : AppTy Tryz.prog 53 129 2 16 := AppTy.mk Tryz.underlying53 (by kernel_rfl) (by decide)
theorem app_66 : AppTy Tryz.prog 66 165 4 32 := AppTy.mk Tryz.underlying66 (by kernel_rfl) (by decide)
theorem fld_108_0 : FieldAt Tryz.prog 108 0 0 := FieldAt.mk Tryz.underlying108 rfl (by kernel_rfl) rfl
theorem fld_108_1 : FieldAt Tryz.prog 108 1 1 := FieldAt.mk Tryz.underlying108 rfl (by kernel_rfl) rfl
theorem fld_108_2 : FieldAt Tryz.prog 108 2 2 := FieldAt.mk Tryz.underlying108 rfl (by kernel_rfl) rfl
theorem fld_108_3 : FieldAt Tryz.prog 108 3 3 := FieldAt.mk Tryz.underlying108 rfl (by kernel_rfl) rfl
theorem fld_108_4 : FieldAt Tryz.prog 108 4 4 := FieldAt.mk Tryz.underlying108 rfl (by kernel_rfl) rfl
theorem fld_108_5 : FieldAt Tryz.prog 108 5 5 := FieldAt.mk Tryz.underlying108 rfl (by kernel_rfl) rfl
theorem fld_120_0 : FieldAt Tryz.prog 120 0 0 := FieldAt.mk Tryz.underlying120 rfl (by kernel_rfl) rfl
theorem fld_120_1 : FieldAt Tryz.prog 120 1 1 := FieldAt.mk Tryz.underlying120 rfl (by kernel_rfl) rfl
theorem fld_120_2 : FieldAt Tryz.prog 120 2 2 := FieldAt.mk Tryz.underlying120 rfl (by kernel_rfl) rfl
theorem fld_120_3 : FieldAt Tryz.prog 120 3 3 := FieldAt.mk Tryz.underlying120 rfl (by kernel_rfl) rfl
theorem fld_122_0 : FieldAt Tryz.prog 122 0 0 := FieldAt.mk Tryz.underlying122 rfl (by kernel_rfl) rfl
theorem fld_122_1 : FieldAt Tryz.prog 122 1 1 := FieldAt.mk Tryz.underlying122 rfl (by kernel_rfl) rfl
theorem fld_122_2 : FieldAt Tryz.prog 122 2 2 := FieldAt.mk Tryz.underlying122 rfl (by kernel_rfl) rfl
theorem fld_122_3 : FieldAt Tryz.prog 122 3 3 := FieldAt.mk Tryz.underlying122 rfl (by kernel_rfl) rfl
theorem fld_126_0 : FieldAt Tryz.prog 126 0 0 := FieldAt.mk Tryz.underlying126 rfl (by kernel_rfl) rfl
theorem fld_126_1 : FieldAt Tryz.prog 126 1 1 := FieldAt.mk Tryz.underlying126 rfl (by kernel_rfl) rfl
theorem fld_126_2 : FieldAt Tryz.prog 126 2 2 := FieldAt.mk Tryz.underlying126 rfl (by kernel_rfl) rfl
theorem fld_126_3 : FieldAt Tryz.prog 126 3 3 := FieldAt.mk Tryz.underlying126 rfl (by kernel_rfl) rfl
theorem fld_126_4 : FieldAt Tryz.prog 126 4 4 := FieldAt.mk Tryz.underlying126 rfl (by kernel_rfl) rfl
theorem fld_126_5 : FieldAt Tryz.prog 126 5 5 := FieldAt.mk Tryz.underlying126 rfl (by kernel_rfl) rfl
theorem fld_126_6 : FieldAt Tryz.prog 126 6 6 := FieldAt.mk Tryz.underlying126 rfl (by kernel_rfl) rfl
theorem fld_126_7 : FieldAt Tryz.prog 126 7 7 := FieldAt.mk Tryz.underlying126 rfl (by kernel_rfl) rfl
theorem fld_129_0 : FieldAt Tryz.prog 129 0 0 := FieldAt.mk Tryz.underlying129 rfl (by kernel_rfl) rfl
theorem fld_129_1 : FieldAt Tryz.prog 129 1 1 := FieldAt.mk Tryz.underlying129 rfl (by kernel_rfl) rfl
theorem fld_165_0 : FieldAt Tryz.prog 165 0 0 := FieldAt.mk Tryz.underlying165 rfl (by kernel_rfl) rfl
theorem fld_165_1 : FieldAt Tryz.prog 165 1 1 := FieldAt.mk Tryz.underlying165 rfl (by kernel_rfl) rfl
theorem fld_165_2 : FieldAt Tryz.prog 165 2 2 := FieldAt.mk Tryz.underlying165 rfl (by kernel_rfl) rfl
theorem fld_165_3 : FieldAt Tryz.prog 165 3 3 := FieldAt.mk Tryz.underlying165 rfl (by kernel_rfl) rfl
theorem fld_24_0 : FieldAt Tryz.prog 24 0 0 := FieldAt.mk Tryz.underlying24 rfl (by kernel_rfl) rfl
theorem fld_24_1 : FieldAt Tryz.prog 24 1 1 := FieldAt.mk Tryz.underlying24 rfl (by kernel_rfl) rfl
theorem fld_24_2 : FieldAt Tryz.prog 24 2 2 := FieldAt.mk Tryz.underlying24 rfl (by kernel_rfl) rfl
theorem fld_24_3 : FieldAt Tryz.prog 24 3 3 := FieldAt.mk Tryz.underlying24 rfl (by kernel_rfl) rfl
theorem fld_24_4 : FieldAt Tryz.prog 24 4 4 := FieldAt.mk Tryz.underlying24 rfl (by kernel_rfl) rfl
theorem fld_24_5 : FieldAt Tryz.prog 24 5 5 := FieldAt.mk Tryz.underlying24 rfl (by kernel_rfl) rfl
theorem fld_24_6 : FieldAt Tryz.prog 24 6 6 := FieldAt.mk Tryz.underlying24 rfl (by kernel_rfl) rfl
theorem fld_34_0 : FieldAt Tryz.prog 34 0 0 := FieldAt.mk Tryz.underlying34 rfl (by kernel_rfl) rfl
theorem fld_34_1 : FieldAt Tryz.prog 34 1 1 := FieldAt.mk Tryz.underlying34 rfl (by kernel_rfl) rfl
theorem fld_34_2 : FieldAt Tryz.prog 34 2 2 := FieldAt.mk Tryz.underlying34 rfl (by kernel_rfl) rfl
theorem fld_34_3 : FieldAt Tryz.prog 34 3 3 := FieldAt.mk Tryz.underlying34 rfl (by kernel_rfl) rfl
theorem fld_34_4 : FieldAt Tryz.prog 34 4 4 := FieldAt.mk Tryz.underlying34 rfl (by kernel_rfl) rfl
theorem fld_34_5 : FieldAt Tryz.prog 34 5 5 := FieldAt.mk Tryz.underlying34 rfl (by kernel_rfl) rfl
theorem fld_55_0 : FieldAt Tryz.prog 55 0 0 := FieldAt.mk Tryz.underlying55 rfl (by kernel_rfl) rfl
theorem fld_55_1 : FieldAt Tryz.prog 55 1 1 := FieldAt.mk Tryz.underlying55 rfl (by kernel_rfl) rfl
theorem fld_55_10 : FieldAt Tryz.prog 55 10 10 := FieldAt.mk Tryz.underlying55 rfl (by kernel_rfl) rfl
theorem fld_55_11 : FieldAt Tryz.prog 55 11 11 := FieldAt.mk Tryz.underlying55 rfl (by kernel_rfl) rfl
theorem fld_55_12 : FieldAt Tryz.prog 55 12 18 := FieldAt.mk Tryz.underlying55 rfl (by kernel_rfl) rfl
theorem fld_55_13 : FieldAt Tryz.prog 55 13 25 := FieldAt.mk Tryz.underlying55 rfl (by kernel_rfl) rfl
theorem fld_55_14 : FieldAt Tryz.prog 55 14 26 := FieldAt.mk Tryz.underlying55 rfl (by kernel_rfl) rfl
theorem fld_55_15 : FieldAt Tryz.prog 55 15 27 := FieldAt.mk Tryz.underlying55 rfl (by kernel_rfl) rfl
theorem fld_55_16 : FieldAt Tryz.prog 55 16 28 := FieldAt.mk Tryz.underlying55 rfl (by kernel_rfl) rfl
theorem fld_55_2 : FieldAt Tryz.prog 55 2 2 := FieldAt.mk Tryz.underlying55 rfl (by kernel_rfl) rfl
theorem fld_55_3 : FieldAt Tryz.prog 55 3 3 := FieldAt.mk Tryz.underlying55 rfl (by kernel_rfl) rfl
theorem fld_55_4 : FieldAt Tryz.prog 55 4 4 := FieldAt.mk Tryz.underlying55 rfl (by kernel_rfl) rfl
theorem fld_55_5 : FieldAt Tryz.prog 55 5 5 := FieldAt.mk Tryz.underlying55 rfl (by kernel_rfl) rfl
theorem fld_55_6 : FieldAt Tryz.prog 55 6 6 := FieldAt.mk Tryz.underlying55 rfl (by kernel_rfl) rfl
theorem fld_55_7 : FieldAt Tryz.prog 55 7 7 := FieldAt.mk Tryz.underlying55 rfl (by kernel_rfl) rfl
theorem fld_55_8 : FieldAt Tryz.prog 55 8 8 := FieldAt.mk Tryz.underlying55 rfl (by kernel_rfl) rfl
theorem fld_55_9 : FieldAt Tryz.prog 55 9 9 := FieldAt.mk Tryz.underlying55 rfl (by kernel_rfl) rfl
theorem fld_65_0 : FieldAt Tryz.prog 65 0 0 := FieldAt.mk Tryz.underlying65 rfl (by kernel_rfl) rfl
theorem fld_65_1 : FieldAt Tryz.prog 65 1 1 := FieldAt.mk Tryz.underlying65 rfl (by kernel_rfl) rfl
theorem fld_68_0 : FieldAt Tryz.prog 68 0 0 := FieldAt.mk Tryz.underlying68 rfl (by kernel_rfl) rfl
theorem fld_68_1 : FieldAt Tryz.prog 68 1 1 := FieldAt.mk Tryz.underlying68 rfl (by kernel_rfl) rfl
theorem fld_68_2 : FieldAt Tryz.prog 68 2 2 := FieldAt.mk Tryz.underlying68 rfl (by kernel_rfl) rfl
theorem fld_68_3 : FieldAt Tryz.prog 68 3 3 := FieldAt.mk Tryz.underlying68 rfl (by kernel_rfl) rfl
theorem fld_70_0 : FieldAt Tryz.prog 70 0 0 := FieldAt.mk Tryz.underlying70 rfl (by kernel_rfl) rfl
theorem fld_70_1 : FieldAt Tryz.prog 70 1 1 := FieldAt.mk Tryz.underlying70 rfl (by kernel_rfl) rfl
theorem fld_70_2 : FieldAt Tryz.prog 70 2 3 := FieldAt.mk Tryz.underlying70 rfl (by kernel_rfl) rfl
theorem fld_70_3 : FieldAt Tryz.prog 70 3 4 := FieldAt.mk Tryz.underlying70 rfl (by kernel_rfl) rfl
theorem fld_70_4 : FieldAt Tryz.prog 70 4 5 := FieldAt.mk Tryz.underlying70 rfl (by kernel_rfl) rfl
theorem fld_70_5 : FieldAt Tryz.prog 70 5 6 := FieldAt.mk Tryz.underlying70 rfl (by kernel_rfl) rfl
theorem mixed : Tryz.prog.follows .mixedOrders = true := by kernel_rfl
theorem ok_214 : FnOk Pg 214 := ⟨⟨_, Tryz.func214, by kernel_rfl, rfl⟩⟩
theorem ok_215 : FnOk Pg 215 := ⟨⟨_, Tryz.func215, by kernel_rfl, rfl⟩⟩
theorem ok_216 : FnOk Pg 216 := ⟨⟨_, Tryz.func216, by kernel_rfl, rfl⟩⟩
theorem ok_259 : FnOk Pg 259 := ⟨⟨_, Tryz.func259, by kernel_rfl, rfl⟩⟩
theorem ok_260 : FnOk Pg 260 := ⟨⟨_, Tryz.func260, by kernel_rfl, rfl⟩⟩
theorem ok_261 : FnOk Pg 261 := ⟨⟨_, Tryz.func261, by kernel_rfl, rfl⟩⟩
theorem ok_262 : FnOk Pg 262 := ⟨⟨_, Tryz.func262, by kernel_rfl, rfl⟩⟩
theorem ok_263 : FnOk Pg 263 := ⟨⟨_, Tryz.func263, by kernel_rfl, rfl⟩⟩
theorem ok_264 : FnOk Pg 264 := ⟨⟨_, Tryz.func264, by kernel_rfl, rfl⟩⟩
theorem ok_265 : FnOk Pg 265 := ⟨⟨_, Tryz.func265, by kernel_rfl, rfl⟩⟩
theorem ok_266 : FnOk Pg 266 := ⟨⟨_, Tryz.func266, by kernel_rfl, rfl⟩⟩
theorem ok_267 : FnOk Pg 267 := ⟨⟨_, Tryz.func267, by kernel_rfl, rfl⟩⟩
theorem ok_268 : FnOk Pg 268 := ⟨⟨_, Tryz.func268, by kernel_rfl, rfl⟩⟩
theorem ok_269 : FnOk Pg 269 := ⟨⟨_, Tryz.func269, by kernel_rfl, rfl⟩⟩
theorem ok_270 : FnOk Pg 270 := ⟨⟨_, Tryz.func270, by kernel_rfl, rfl⟩⟩
theorem ok_271 : FnOk Pg 271 := ⟨⟨_, Tryz.func271, by kernel_rfl, rfl⟩⟩
theorem ok_272 : FnOk Pg 272 := ⟨⟨_, Tryz.func272, by kernel_rfl, rfl⟩⟩
theorem ok_273 : FnOk Pg 273 := ⟨⟨_, Tryz.func273, by kernel_rfl, rfl⟩⟩
theorem ok_274 : FnOk Pg 274 := ⟨⟨_, Tryz.func274, by kernel_rfl, rfl⟩⟩
theorem ok_275 : FnOk Pg 275 := ⟨⟨_, Tryz.func275, by kernel_rfl, rfl⟩⟩
theorem ok_295 : FnOk Pg 295 := ⟨⟨_, Tryz.func295, by kernel_rfl, rfl⟩⟩
theorem ok_298 : FnOk Pg 298 := ⟨⟨_, Tryz.func298, by kernel_rfl, rfl⟩⟩
theorem ok_299 : FnOk Pg 299 := ⟨⟨_, Tryz.func299, by kernel_rfl, rfl⟩⟩
theorem ok_301 : FnOk Pg 301 := ⟨⟨_, Tryz.func301, by kernel_rfl, rfl⟩⟩
theorem ok_302 : FnOk Pg 302 := ⟨⟨_, Tryz.func302, by kernel_rfl, rfl⟩⟩
theorem ok_303 : FnOk Pg 303 := ⟨⟨_, Tryz.func303, by kernel_rfl, rfl⟩⟩
theorem ok_304 : FnOk Pg 304 := ⟨⟨_, Tryz.func304, by kernel_rfl, rfl⟩⟩
theorem ok_305 : FnOk Pg 305 := ⟨⟨_, Tryz.func305, by kernel_rfl, rfl⟩⟩
theorem ok_306 : FnOk Pg 306 := ⟨⟨_, Tryz.func306, by kernel_rfl, rfl⟩⟩
theorem ok_311 : FnOk Pg 311 := ⟨⟨_, Tryz.func311, by kernel_rfl, rfl⟩⟩
theorem one_243 : OneTy Tryz.prog 243 := ⟨⟨_, Tryz.underlying243, rfl⟩, by kernel_rfl⟩
theorem one_25 : OneTy Tryz.prog 25 := ⟨⟨_, Tryz.underlying25, rfl⟩, by kernel_rfl⟩
theorem one_3 : OneTy Tryz.prog 3 := ⟨⟨_, Tryz.underlying3, rfl⟩, by kernel_rfl⟩
theorem one_35 : OneTy Tryz.prog 35 := ⟨⟨_, Tryz.underlying35, rfl⟩, by kernel_rfl⟩
theorem one_38 : OneTy Tryz.prog 38 := ⟨⟨_, Tryz.underlying38, rfl⟩, by kernel_rfl⟩
theorem one_4 : OneTy Tryz.prog 4 := ⟨⟨_, Tryz.underlying4, rfl⟩, by kernel_rfl⟩
theorem one_50 : OneTy Tryz.prog 50 := ⟨⟨_, Tryz.underlying50, rfl⟩, by kernel_rfl⟩
theorem one_51 : OneTy Tryz.prog 51 := ⟨⟨_, Tryz.underlying51, rfl⟩, by kernel_rfl⟩
theorem one_52 : OneTy Tryz.prog 52 := ⟨⟨_, Tryz.underlying52, rfl⟩, by kernel_rfl⟩
theorem one_53 : OneTy Tryz.prog 53 := ⟨⟨_, Tryz.underlying53, rfl⟩, by kernel_rfl⟩
theorem one_66 : OneTy Tryz.prog 66 := ⟨⟨_, Tryz.underlying66, rfl⟩, by kernel_rfl⟩
theorem one_9 : OneTy Tryz.prog 9 := ⟨⟨_, Tryz.underlying9, rfl⟩, by kernel_rfl⟩
theorem row_108 : RowTy Tryz.prog 108 11 := ⟨⟨_, Tryz.underlying108, rfl⟩, by kernel_rfl⟩
theorem row_122 : RowTy Tryz.prog 122 7 := ⟨⟨_, Tryz.underlying122, rfl⟩, by kernel_rfl⟩
theorem row_126 : RowTy Tryz.prog 126 8 := ⟨⟨_, Tryz.underlying126, rfl⟩, by kernel_rfl⟩
theorem row_129 : RowTy Tryz.prog 129 2 := ⟨⟨_, Tryz.underlying129, rfl⟩, by kernel_rfl⟩
theorem row_165 : RowTy Tryz.prog 165 4 := ⟨⟨_, Tryz.underlying165, rfl⟩, by kernel_rfl⟩
theorem row_55 : RowTy Tryz.prog 55 29 := ⟨⟨_, Tryz.underlying55, rfl⟩, by kernel_rfl⟩
theorem row_70 : RowTy Tryz.prog 70 10 := ⟨⟨_, Tryz.underlying70, rfl⟩, by kernel_rfl⟩
theorem slt_297 : SliceTy Tryz.prog 297 243 1 := ⟨Tryz.underlying297, by kernel_rfl⟩
theorem slt_348 : SliceTy Tryz.prog 348 247 1 := ⟨Tryz.underlying348, by kernel_rfl⟩
theorem zero_108 : ZeroOf Tryz.prog 108 [.int .i64 0, .int .i64 0, .int .i64 0, .int .i64 0, .int .i64 0, .int .i64 0, .string ByteArray.empty, .string ByteArray.empty, .int .i64 0, .int .i64 0, .int .i64 0] := ZeroOf.mk (by kernel_rfl)
theorem zero_122 : ZeroOf Tryz.prog 122 [.int .i64 0, .int .i64 0, .bool false, .int .i64 0, .int .i64 0, .int .i64 0, .int .i64 0] := ZeroOf.mk (by kernel_rfl)
theorem zero_126 : ZeroOf Tryz.prog 126 [.int .i64 0, .int .i64 0, .string ByteArray.empty, .string ByteArray.empty, .int .i64 0, .int .i64 0, .int .i64 0, .int .i64 0] := ZeroOf.mk (by kernel_rfl)
theorem zero_129 : ZeroOf Tryz.prog 129 [.int .i64 0, .int .i64 0] := ZeroOf.mk (by kernel_rfl)
theorem zero_165 : ZeroOf Tryz.prog 165 [.int .i64 0, .int .i64 0, .int .i64 0, .int .i64 0] := ZeroOf.mk (by kernel_rfl)
theorem zero_3 : ZeroOf Tryz.prog 3 [.int .i64 0] := ZeroOf.mk (by kernel_rfl)
theorem zero_35 : ZeroOf Tryz.prog 35 [.slice none 0 0] := ZeroOf.mk (by kernel_rfl)
theorem zero_55 : ZeroOf Tryz.prog 55 [.int .i64 0, .int .i64 0, .bool false, .string ByteArray.empty, .string ByteArray.empty, .int .i64 0, .slice none 0 0, .slice none 0 0, .slice none 0 0, .slice none 0 0, .slice none 0 0, .int .i64 0, .int .i64 0, .int .i64 0, .string ByteArray.empty, .string ByteArray.empty, .int .i64 0, .int .i64 0, .int .i64 0, .int .i64 0, .int .i64 0, .string ByteArray.empty, .string ByteArray.empty, .int .i64 0, .int .i64 0, .slice none 0 0, .int .i64 0, .int .i64 0, .int .i64 0] := ZeroOf.mk (by kernel_rfl)
theorem zero_70 : ZeroOf Tryz.prog 70 [.string ByteArray.empty, .int .i64 0, .int .i64 0, .int .i64 0, .int .i64 0, .slice none 0 0, .int .i64 0, .int .i64 0, .int .i64 0, .int .i64 0] := ZeroOf.mk (by kernel_rfl)
end Go.Proofs.YtmpoffijcfaalaaGreat.Pen
namespace Go.Proofs.YtmpoffijcfaalaaGreat.Rdr
open Go.Eng
theorem app_35 : AppTy Tryz.prog 35 5 1 1 := AppTy.mk Tryz.underlying35 (by kernel_rfl) (by decide)
theorem mixed : Tryz.prog.follows .mixedOrders = true := by kernel_rfl
theorem ok_107 : FnOk Pg 107 := ⟨⟨_, Tryz.func107, by kernel_rfl, rfl⟩⟩
theorem ok_312 : FnOk Pg 312 := ⟨⟨_, Tryz.func312, by kernel_rfl, rfl⟩⟩
theorem ok_313 : FnOk Pg 313 := ⟨⟨_, Tryz.func313, by kernel_rfl, rfl⟩⟩
theorem ok_314 : FnOk Pg 314 := ⟨⟨_, Tryz.func314, by kernel_rfl, rfl⟩⟩
theorem ok_315 : FnOk Pg 315 := ⟨⟨_, Tryz.func315, by kernel_rfl, rfl⟩⟩
theorem ok_316 : FnOk Pg 316 := ⟨⟨_, Tryz.func316, by kernel_rfl, rfl⟩⟩
theorem ok_317 : FnOk Pg 317 := ⟨⟨_, Tryz.func317, by kernel_rfl, rfl⟩⟩
theorem ok_318 : FnOk Pg 318 := ⟨⟨_, Tryz.func318, by kernel_rfl, rfl⟩⟩
theorem ok_319 : FnOk Pg 319 := ⟨⟨_, Tryz.func319, by kernel_rfl, rfl⟩⟩
theorem one_209 : OneTy Tryz.prog 209 := ⟨⟨_, Tryz.underlying209, rfl⟩, by kernel_rfl⟩
theorem one_3 : OneTy Tryz.prog 3 := ⟨⟨_, Tryz.underlying3, rfl⟩, by kernel_rfl⟩
theorem one_35 : OneTy Tryz.prog 35 := ⟨⟨_, Tryz.underlying35, rfl⟩, by kernel_rfl⟩
theorem one_38 : OneTy Tryz.prog 38 := ⟨⟨_, Tryz.underlying38, rfl⟩, by kernel_rfl⟩
theorem one_4 : OneTy Tryz.prog 4 := ⟨⟨_, Tryz.underlying4, rfl⟩, by kernel_rfl⟩
theorem one_5 : OneTy Tryz.prog 5 := ⟨⟨_, Tryz.underlying5, rfl⟩, by kernel_rfl⟩
theorem slt_35 : SliceTy Tryz.prog 35 5 1 := ⟨Tryz.underlying35, by kernel_rfl⟩
theorem zero_209 : ZeroOf Tryz.prog 209 [.int .u64 0] := ZeroOf.mk (by kernel_rfl)
theorem zero_3 : ZeroOf Tryz.prog 3 [.int .i64 0] := ZeroOf.mk (by kernel_rfl)
theorem zero_35 : ZeroOf Tryz.prog 35 [.slice none 0 0] := ZeroOf.mk (by kernel_rfl)
theorem zero_4 : ZeroOf Tryz.prog 4 [.bool false] := ZeroOf.mk (by kernel_rfl)
end Go.Proofs.YtmpoffijcfaalaaGreat.Rdr
namespace Go.Proofs.YtmpoffijcfaalaaGreat.Rdr
open Go.Eng Go.YtmpoffijcfaalaaGreat
theorem number_c (sv : Value) (bs : List UInt8) : FnV Pg 319 [sv] [⟨sv, bs⟩] (numTup (numD 0 0 bs)) := by
 refine Fnc.proof Tryz.func319 G 41 G G fun X w => sa 3 G<|sa 1 G<|sq<|qg<|mv G G<|lnP 0 G G Tryz.underlying35 G fun l9 => mv G G<|nl<|nx<|bk<|lp (σ := Nat × Nat) (fun s => [(0, sv), (5, .int .u64 (s.2 : Int)), (8, sv), (9, .int .i64 (bs.length : Int)), (10, .int .i64 (s.1 : Int))]) (fun _ => [fz X w]) (fun _ => [⟨sv, bs⟩]) (fun s => s.1 ≤ 9 ∧ s.1 ≤ bs.length ∧ s.2 < 2 ^ (7 * s.1) ∧ numD 0 0 bs = numD s.1 s.2 (bs.drop s.1)) (fun s => bs.length - s.1) (0, 0) ⟨by decide, Nat.zero_le _, by decide, G⟩ (Gs G) G Sr ?_
 rintro ⟨i, v⟩ ⟨h1, h2, h3, h4⟩
 simp only at h1 h2 h3 h4
 refine sa 1 G<|sq<|cdP G (fun h11 => ?_) (fun h11 => ?_)
 ·
  refine sk<|nx<|sq<|bk<|qg<|mv G G ?_
  obtain ⟨c, hc⟩ : ∃ c, bs[i]? = some c := ⟨_, getE (by omega)⟩
  have hd := drop_at hc
  have hcl := c.toNat_lt
  refine ixP 0 G G G slt_35 (by omega) hc G fun v13 => ldV 0 G G (Og G) G fun w14 => ru 2 G<|nl<|nx<|sq<|qg<|ru 3 G<|spP (i := 17) G (fun h17 => ?_) (fun h17 => ?_)
  ·
   refine ru 3 G<|nl<|nx<|cdP G (fun h20 => ?_) (fun h20 => ?_)
   · exact sa 3 G<|rt<|tR<|bR<|tR<|tR<|bR<|tR<|fR3 () G G G G (by have e := h4; rw [hd] at e; simp only [numD] at e; (repeat (first | rw [if_pos (by omega)] at e | rw [if_neg (by omega)] at e)); first | exact congrArg numTup e.symm | (exfalso; omega)) G Sn
   ·
    refine sk<|nx<|qg<|ru 2 G<|btA G G (and_127 c) G<|cv Tryz.underlying5 Tryz.underlying209 G (wrap_u64' (by omega)) G<|mv G G<|muI G G (inI (by omega) (by omega)) G<|shL G G (by omega) (shl_k _ (7 * i) (shl_ok h1 (by omega)) (by omega)) G<|btO G G (or_add h3 (shl_ok h1 (by omega)) (by omega)) G<|ru 1 G<|nl<|nx<|sq<|sa 2 G<|cdP G (fun h30 => ?_) (fun h30 => ?_)
    ·
     refine ex<|tE<|bE<|nx<|rg<|adI G G (inI (by omega) (by omega)) G<|mv G G<|nl ?_
     exact ag (i + 1, v + c.toNat % 128 * 2 ^ (7 * i)) ⟨by show i + 1 ≤ 9; omega, by show i + 1 ≤ bs.length; omega, shl_lt h3, by show numD 0 0 bs = _; rw [h4, hd]; simp only [numD]; rw [if_neg (by omega), if_pos (by omega)]⟩ (by show bs.length - (i + 1) < bs.length - i; omega) (Gs G) G (Sc 1 G Sn)
    ·
     refine sk<|nx<|sq<|qg<|ru 3 G<|spP (i := 33) G (fun h33 => ?_) (fun h33 => ?_)
     ·
      refine ru 3 G<|nl<|nx<|cdP G (fun h36 => ?_) (fun h36 => ?_)
      · exact sa 3 G<|rt<|tR<|bR<|tR<|tR<|bR<|tR<|fR3 () G G G G (by have e := h4; rw [hd] at e; simp only [numD] at e; (repeat (first | rw [if_pos (by omega)] at e | rw [if_neg (by omega)] at e)); first | exact congrArg numTup e.symm | (exfalso; omega)) G Sn
      · exact sk<|nx<|qg<|ru 2 G<|adI G G (inI (by omega) (by omega)) G<|ru 3 G<|nl<|nx<|rt<|bR<|tR<|tR<|bR<|tR<|fR3 () G G G G (by have e := h4; rw [hd] at e; simp only [numD] at e; (repeat (first | rw [if_pos (by omega)] at e | rw [if_neg (by omega)] at e)); first | exact congrArg numTup e.symm | (exfalso; omega)) G Sn
     · exact gN G G G G G<|gN G G G G G<|ru 1 G<|nl<|nx<|cdF G<|sk<|nx<|qg<|ru 2 G<|adI G G (inI (by omega) (by omega)) G<|ru 1 G<|ru 2 G<|nl<|nx<|rt<|bR<|tR<|tR<|bR<|tR<|fR3 () G G G G (by have e := h4; rw [hd] at e; simp only [numD] at e; (repeat (first | rw [if_pos (by omega)] at e | rw [if_neg (by omega)] at e)); first | exact congrArg numTup e.symm | (exfalso; omega)) G Sn
  ·
   refine gN G G G G G<|gN G G G G G<|ru 1 G<|nl<|nx<|cdF G<|sk<|nx<|qg<|ru 2 G<|btA G G (and_127 c) G<|cv Tryz.underlying5 Tryz.underlying209 G (wrap_u64' (by omega)) G<|mv G G<|muI G G (inI (by omega) (by omega)) G<|shL G G (by omega) (shl_k _ (7 * i) (shl_ok h1 (by omega)) (by omega)) G<|btO G G (or_add h3 (shl_ok h1 (by omega)) (by omega)) G<|ru 1 G<|nl<|nx<|sq<|sa 2 G<|cdP G (fun h30 => ?_) (fun h30 => ?_)
   ·
    refine ex<|tE<|bE<|nx<|rg<|adI G G (inI (by omega) (by omega)) G<|mv G G<|nl ?_
    exact ag (i + 1, v + c.toNat % 128 * 2 ^ (7 * i)) ⟨by show i + 1 ≤ 9; omega, by show i + 1 ≤ bs.length; omega, shl_lt h3, by show numD 0 0 bs = _; rw [h4, hd]; simp only [numD]; rw [if_neg (by omega), if_pos (by omega)]⟩ (by show bs.length - (i + 1) < bs.length - i; omega) (Gs G) G (Sc 1 G Sn)
   ·
    refine sk<|nx<|sq<|qg<|ru 3 G<|spP (i := 33) G (fun h33 => ?_) (fun h33 => ?_)
    ·
     refine ru 3 G<|nl<|nx<|cdP G (fun h36 => ?_) (fun h36 => ?_)
     · exact sa 3 G<|rt<|tR<|bR<|tR<|tR<|bR<|tR<|fR3 () G G G G (by have e := h4; rw [hd] at e; simp only [numD] at e; (repeat (first | rw [if_pos (by omega)] at e | rw [if_neg (by omega)] at e)); first | exact congrArg numTup e.symm | (exfalso; omega)) G Sn
     · exact sk<|nx<|qg<|ru 2 G<|adI G G (inI (by omega) (by omega)) G<|ru 3 G<|nl<|nx<|rt<|bR<|tR<|tR<|bR<|tR<|fR3 () G G G G (by have e := h4; rw [hd] at e; simp only [numD] at e; (repeat (first | rw [if_pos (by omega)] at e | rw [if_neg (by omega)] at e)); first | exact congrArg numTup e.symm | (exfalso; omega)) G Sn
    · exact gN G G G G G<|gN G G G G G<|ru 1 G<|nl<|nx<|cdF G<|sk<|nx<|qg<|ru 2 G<|adI G G (inI (by omega) (by omega)) G<|ru 1 G<|ru 2 G<|nl<|nx<|rt<|bR<|tR<|tR<|bR<|tR<|fR3 () G G G G (by have e := h4; rw [hd] at e; simp only [numD] at e; (repeat (first | rw [if_pos (by omega)] at e | rw [if_neg (by omega)] at e)); first | exact congrArg numTup e.symm | (exfalso; omega)) G Sn
 · exact ex<|tE<|tE<|bE<|nx<|sa 3 G<|rt<|fR3 () G G G G (by have e := h4; rw [List.drop_eq_nil_of_le (by omega)] at e; exact congrArg numTup e.symm) G Sn
theorem counted_c (sv : Value) (bs : List UInt8) (most : Int) (hm : InI most) : FnV Pg 316 [sv, .int .i64 most] [⟨sv, bs⟩] (intTup (countD bs most)) := by
 refine Fnc.proof Tryz.func316 G 31 G G fun X w => ?_
 have hb := numD_bd bs 0 0 (by decide) (by decide)
 have hN0 := number_c sv bs
 rcases hN : numD 0 0 bs with ⟨v, n, e⟩
 rw [hN] at hN0 hb
 have hN0 : FnV Pg 319 [sv] [⟨sv, bs⟩] (.tuple #[.int .u64 (v : Int), .int .i64 (n : Int), .int .i64 (e : Int)]) := hN0
 simp only at hb
 have hmx := max_in hm
 refine sa 3 G<|qg<|mv G G<|cfv (hN0) ok_319 G (Sc 0 G Sn) G<|ru 3 G<|ru 4 G<|nl<|nx<|sq<|qg<|ru 3 G<|spP (i := 18) G (fun h18 => ?_) (fun h18 => ?_)
 ·
  refine ru 2 G<|gY G G G<|mxI G G G G<|gY G G G<|cv Tryz.underlying3 Tryz.underlying209 G (wrap_u64_int (by omega) (by omega)) G<|ru 2 G<|nl<|nx<|cdP G (fun h24 => ?_) (fun h24 => ?_)
  ·
   refine ra 1 G<|nx<|sq<|sa 2 G<|cdN G (fun h26 => ?_) (fun h26 => ?_)
   · exact sa 4 G<|rt<|tR<|fR3 () G G G G (by have q := countD_of (most := most) hN; (repeat (first | rw [if_pos (by omega)] at q | rw [if_neg (by omega)] at q)); first | exact congrArg intTup q.symm | (exfalso; omega)) G Sn
   · exact sk<|nx<|qg<|mv G G<|cv Tryz.underlying209 Tryz.underlying3 G (i64_of_nat (by omega)) G<|ru 4 G<|nl<|nx<|rt<|fR3 () G G G G (by have q := countD_of (most := most) hN; (repeat (first | rw [if_pos (by omega)] at q | rw [if_neg (by omega)] at q)); first | exact congrArg intTup q.symm | (exfalso; omega)) G Sn
  ·
   refine sk<|nx<|sq<|sa 2 G<|cdN G (fun h26 => ?_) (fun h26 => ?_)
   · exact sa 4 G<|rt<|tR<|fR3 () G G G G (by have q := countD_of (most := most) hN; (repeat (first | rw [if_pos (by omega)] at q | rw [if_neg (by omega)] at q)); first | exact congrArg intTup q.symm | (exfalso; omega)) G Sn
   · exact sk<|nx<|qg<|mv G G<|cv Tryz.underlying209 Tryz.underlying3 G (i64_of_nat (by omega)) G<|ru 4 G<|nl<|nx<|rt<|fR3 () G G G G (by have q := countD_of (most := most) hN; (repeat (first | rw [if_pos (by omega)] at q | rw [if_neg (by omega)] at q)); first | exact congrArg intTup q.symm | (exfalso; omega)) G Sn
 ·
  refine gN G G G G G<|gN G G G G G<|gN G G G G G<|gN G G G G G<|gN G G G G G<|ru 1 G<|nl<|nx<|cdF G<|sk<|nx<|sq<|sa 2 G<|cdN G (fun h26 => ?_) (fun h26 => ?_)
  · exact sa 4 G<|rt<|tR<|fR3 () G G G G (by have q := countD_of (most := most) hN; (repeat (first | rw [if_pos (by omega)] at q | rw [if_neg (by omega)] at q)); first | exact congrArg intTup q.symm | (exfalso; omega)) G Sn
  · exact sk<|nx<|qg<|mv G G<|cv Tryz.underlying209 Tryz.underlying3 G (i64_of_nat (by omega)) G<|ru 4 G<|nl<|nx<|rt<|fR3 () G G G G (by have q := countD_of (most := most) hN; (repeat (first | rw [if_pos (by omega)] at q | rw [if_neg (by omega)] at q)); first | exact congrArg intTup q.symm | (exfalso; omega)) G Sn
theorem num1_c (b : Nat) (sv : Value) (bs : List UInt8) : Fnc Pg 318 [sv, .pointer (some ⟨b, 0, none⟩)] [bl b 209 [.int .u64 0]] [⟨sv, bs⟩] (fun (_ : Unit) v => v = stepTup (numD 0 0 bs).2.1 (numD 0 0 bs).2.2) (fun _ _ => [bl b 209 [.int .u64 ((numD 0 0 bs).1 : Int)]]) (fun _ _ => []) := by
 exact Fnc.proof Tryz.func318 G 13 G G fun X w => sa 2 G<|qg<|mv G G<|cfv (number_c _ _) ok_319 G (Sc 0 G Sn) G<|ru 3 G<|ru 1 G<|stB 0 G G G (Og G) G (nlt G)<|ru 2 G<|nl<|nx<|sa 4 G<|rt<|fR2 () G G G G G Sn
theorem count1_c (a b : Nat) (sv : Value) (bs : List UInt8) (most : Int) (hm : InI most) : Fnc Pg 315 [sv, .pointer (some ⟨a, 0, none⟩), .pointer (some ⟨b, 0, none⟩)] [bl b 3 [.int .i64 0], bl a 3 [.int .i64 most]] [⟨sv, bs⟩] (fun (_ : Unit) v => v = stepTup (countD bs most).2.1 (countD bs most).2.2) (fun _ _ => [bl b 3 [.int .i64 ((countD bs most).1 : Int)], bl a 3 [.int .i64 most]]) (fun _ _ => []) := by
 exact Fnc.proof Tryz.func315 G 15 G G fun X w => sa 2 G<|qg<|rl 2 [1] G G<|cfv (counted_c _ _ _ hm) ok_316 G (Sc 0 G Sn) G<|ru 2 G<|ru 2 G<|stB 0 G G G (Og G) G (nlt G)<|ru 2 G<|nl<|nx<|sa 4 G<|rt<|fR2 () G G G G G Sn
theorem clone_c (sv : Value) (bs : List UInt8) (hlen : bs.length ≤ 140737488355328) : Fnc Pg 107 [sv] [] [⟨sv, bs⟩] (fun (_ : Unit) _ => True) (fun _ _ => []) (fun _ v => [⟨v, bs⟩]) := by
 refine Fnc.proof Tryz.func107 G 8 G G fun X w => sa 1 G<|sq<|qg<|mv G G<|eqN 0 Tryz.underlying35 G G G G fun q4 n4 => nl<|nx<|cdB G (fun h4 => ?_) (fun h4 => ?_)
 ·
  have hx : bs = [] := n4 h4
  subst hx
  exact emC (α := UInt8)<|sa 1 G<|rt<|tR<|fR1 () G G trivial G (Sc 0 G Sn)
 · exact sk<|nx<|qg<|bs0 app_35 G fun b5 => rwB (α := UInt8) [] [] G G (fun _ _ _ => trivial) G<|mv G G<|ap 0 0 G G G G app_35 (by simpa using hlen) (by simpa using hlen) G fun v7 => ru 1 G<|nl<|nx<|rt<|frRQ<|fR1 () G G trivial G (Sc 0 G Sn)
theorem text1_c (a b : Nat) (sv : Value) (bs : List UInt8) (most : Int) (hm : InI most) (hms : most ≤ 1000000) : Fnc Pg 317 [sv, .pointer (some ⟨a, 0, none⟩), .pointer (some ⟨b, 0, none⟩)] [vr b 35 ([] : List UInt8), bl a 3 [.int .i64 most]] [⟨sv, bs⟩] (fun (_ : Unit) v => v = stepTup (textD bs most).2.1 (textD bs most).2.2) (fun _ _ => [vr b 35 (textD bs most).1, bl a 3 [.int .i64 most]]) (fun _ _ => []) := by
 refine Fnc.proof Tryz.func317 G 38 G G fun X w => ?_
 have hb := countD_bd bs most
 have hN0 := counted_c sv bs most hm
 rcases hN : countD bs most with ⟨v, n, e⟩
 rw [hN] at hN0 hb
 have hN0 : FnV Pg 316 [sv, .int .i64 most] [⟨sv, bs⟩] (.tuple #[.int .i64 (v : Int), .int .i64 (n : Int), .int .i64 (e : Int)]) := hN0
 simp only at hb
 have hmx := max_in hm
 have hT := textD_of hN
 refine sa 2 G<|qg<|rl 2 [1] G G<|cfv (hN0) ok_316 G (Sc 0 G Sn) G<|ru 3 G<|ru 4 G<|nl<|nx<|sq<|sa 2 G<|cdN G (fun h17 => ?_) (fun h17 => ?_)
 ·
  refine sa 3 G<|rt<|tR ?_
  rw [show textD bs most = ([], 0, e) from by rw [hT, if_pos (by omega)]]
  exact fR2 () G G G G G Sn
 ·
  refine sk<|nx<|sq<|qg<|mv G G<|lnP 0 G G Tryz.underlying35 G fun l20 => mv G G<|sbI G G (inI (by omega) (by omega)) G<|ru 2 G<|nl<|nx<|cdP G (fun h24 => ?_) (fun h24 => ?_)
  ·
   refine sa 2 G<|rt<|tR ?_
   rw [show textD bs most = ([], 0, 20) from by rw [hT, if_neg (by omega), if_pos (by omega)]]
   exact fR2 () G G G G G Sn
  ·
   refine sk<|nx<|qg<|ru 4 G<|adI G G (inI (by omega) (by omega)) G<|ru 2 G<|adI G G (inI (by omega) (by omega)) G<|slP3 0 G G slt_35 G G G (by omega) (by omega) (by omega) (by omega) G fun v33 => cf (clone_c _ _ (by first | assumption | (simp only [List.length_drop, List.length_take]; omega))) ok_107 G (Sc 0 G Sn) G fun y34 v34 h34 => opL 0 G fun u => stL 0 1 G G G G (Og G) (nlt G)<|nl<|nx<|qg<|ru 2 G<|adI G G (inI (by omega) (by omega)) G<|ru 2 G<|nl<|nx<|rt ?_
   rw [show textD bs most = ((bs.drop n).take v, n + v, 0) from by rw [hT, if_neg (by omega), if_neg (by omega)]]
   refine adQ ⟨v34, (bs.drop n).take v⟩ (fun S w h => ?_) (clQ 0 0 G G (fR2 () G G G G G Sn))
   have q := h ⟨v34, _⟩ (List.mem_of_getElem? (i := 1) rfl)
   rw [List.drop_take, show ((n : Int) + (v : Int)).toNat - (n : Int).toNat = v from by omega] at q
   exact q
theorem thing1_c (p f : Nat) (bv : Value) (bs : List UInt8) (s : Rd) (caps : Array Value) (q q' : OwnE) (n e : Nat) (hok : FnOk Pg f) (h0 : s.fault = 0) (hp : s.pos ≤ bs.length) (hn : n ≤ (bs.drop s.pos).length)
  (hcl : ∀ sv, Fnc Pg f (sv :: caps.toList) [q] [⟨sv, bs.drop s.pos⟩] (fun (_ : Unit) v => v = stepTup n e) (fun _ _ => [q']) (fun _ _ => [])) :
  Fnc Pg 313 [.pointer (some ⟨p, 0, none⟩), .func (.func f) #[] caps] [q, rdr p bv s] [⟨bv, bs⟩] (fun (_ : Unit) v => v = .bool (decide (e = 0))) (fun _ _ => [q', rdr p bv (s.step n e)]) (fun _ _ => []) := by
 refine Fnc.proof Tryz.func313 G 54 G G fun X w => ?_
 rw [← List.take_length (l := bs)] at hcl
 have hcl' : ∀ sv, Fnc Pg f (sv :: caps.toList) [q] [⟨sv, (bs.take bs.length).drop s.pos⟩] (fun (_ : Unit) v => v = stepTup n e) (fun _ _ => [q']) (fun _ _ => []) := fun sv => by have := hcl sv; simpa using this
 rw [List.length_drop] at hn
 refine gtC (q := bs.length ≤ 9223372036854775807) (fun S w h => list_len (h _ (List.mem_cons_self ..))) fun hlen => sa 1 G<|sq<|qg<|mv G G<|eqP Tryz.underlying311 G G G<|ru 2 G<|rl 5 [1] G G<|nl<|nx<|cdN G (fun h15 => ?_) (fun h15 => ?_)
 · exact absurd (by omega) h15 --#done
 ·
  refine sk<|nx<|sq<|rgZ (L := [q, rdr p bv s, fz X w]) [(4,.ld 1),(8,.ld 1),(12,.ld 1),(17,.ld 1)] [(13,⟨some (.int .i64 (bs.length : Int)),fun _ => [],false⟩),(18,⟨some (.int .i64 (bs.length : Int)),fun _ => [],false⟩),(19,⟨none,fun u => [⟨u, (bs.take bs.length).drop s.pos⟩],false⟩),(20,⟨some (stepTup n e),fun _ => [],true⟩)] [] [] [(20,fun L _ => rpE 2 (q') L)] (fun _ => G) (fun _ => by kernel_rfl) ?_ fun V _ => ?_
  ·
   refine ⟨fun V De _=>(by (repeat (refine aC ?_ ?_; exact lnP 0 G G Tryz.underlying35 G fun l30 => oh G G G G)); trivial),fun V De _=>(by (repeat (refine aC ?_ ?_; exact lnP 0 G G Tryz.underlying35 G fun l35 => oh G G G G)); trivial),fun V De _=>aP1 (slP3 0 G G slt_35 G G G (by omega) (by omega) (by omega) (by omega) G fun v36 => nl (odH G G G trivial (Sc 0 G Sn) (SubD.tail Sr))),?_⟩
   refine ⟨fun V De _=>aP1 ?_,?_⟩
   ·
    refine cfPc (L0 := [q]) (Lr := [rdr p bv s, fz X w]) (hcl' _) hok G (by rfl) (by rfl) (by rfl) (Sc 0 G Sn) (by rfl) fun y v h => ?_
    obtain rfl : v = stepTup n e := h
    exact nl (odH G G G G Sn (SubD.tail Sr))
   trivial
  ·
   refine wD [1] G<|nx<|sq<|sa 2 G<|cdN G (fun h41 => ?_) (fun h41 => ?_)
   ·
    refine qg<|ru 4 G<|stB 1 G G G (Og G) G (nlt G)<|nl<|nx<|sa 1 G<|rt<|tR ?_
    have hs : s.step n e = ⟨s.pos, e⟩ := by unfold Rd.step; rw [if_neg (by omega), if_pos (by omega)]
    rw [hs]
    exact fR1 () G G (by rw [decide_eq_false (by omega)]) G Sn
   ·
    refine sk<|nx<|qg<|rl 5 [1] G G<|adI G G (inI (by omega) (by omega)) G<|ru 2 G<|stB 1 G G G (Og G) G (nlt G)<|nl<|nx<|sa 1 G<|rt ?_
    obtain rfl : e = 0 := by omega
    have hs : s.step n 0 = ⟨s.pos + n, s.fault⟩ := by unfold Rd.step; rw [if_neg (by omega), if_neg (by omega)]
    rw [hs]
    exact fR1 () G G G G Sn
theorem thing2_c (p f : Nat) (bv : Value) (bs : List UInt8) (s : Rd) (caps : Array Value) (q1 q2 q1' q2' : OwnE) (n e : Nat) (hok : FnOk Pg f) (h0 : s.fault = 0) (hp : s.pos ≤ bs.length) (hn : n ≤ (bs.drop s.pos).length)
  (hcl : ∀ sv, Fnc Pg f (sv :: caps.toList) [q1, q2] [⟨sv, bs.drop s.pos⟩] (fun (_ : Unit) v => v = stepTup n e) (fun _ _ => [q1', q2']) (fun _ _ => [])) :
  Fnc Pg 313 [.pointer (some ⟨p, 0, none⟩), .func (.func f) #[] caps] [q1, q2, rdr p bv s] [⟨bv, bs⟩] (fun (_ : Unit) v => v = .bool (decide (e = 0))) (fun _ _ => [q1', q2', rdr p bv (s.step n e)]) (fun _ _ => []) := by
 refine Fnc.proof Tryz.func313 G 54 G G fun X w => ?_
 rw [← List.take_length (l := bs)] at hcl
 have hcl' : ∀ sv, Fnc Pg f (sv :: caps.toList) [q1, q2] [⟨sv, (bs.take bs.length).drop s.pos⟩] (fun (_ : Unit) v => v = stepTup n e) (fun _ _ => [q1', q2']) (fun _ _ => []) := fun sv => by have := hcl sv; simpa using this
 rw [List.length_drop] at hn
 refine gtC (q := bs.length ≤ 9223372036854775807) (fun S w h => list_len (h _ (List.mem_cons_self ..))) fun hlen => sa 1 G<|sq<|qg<|mv G G<|eqP Tryz.underlying311 G G G<|ru 2 G<|rl 5 [2] G G<|nl<|nx<|cdN G (fun h15 => ?_) (fun h15 => ?_)
 · exact absurd (by omega) h15 --#done
 ·
  refine sk<|nx<|sq<|rgZ (L := [q1, q2, rdr p bv s, fz X w]) [(4,.ld 2),(8,.ld 2),(12,.ld 2),(17,.ld 2)] [(13,⟨some (.int .i64 (bs.length : Int)),fun _ => [],false⟩),(18,⟨some (.int .i64 (bs.length : Int)),fun _ => [],false⟩),(19,⟨none,fun u => [⟨u, (bs.take bs.length).drop s.pos⟩],false⟩),(20,⟨some (stepTup n e),fun _ => [],true⟩)] [] [] [(20,fun L _ => rpE 2 (q2') (rpE 3 (q1') L))] (fun _ => G) (fun _ => by kernel_rfl) ?_ fun V _ => ?_
  ·
   refine ⟨fun V De _=>(by (repeat (refine aC ?_ ?_; exact lnP 0 G G Tryz.underlying35 G fun l30 => oh G G G G)); trivial),fun V De _=>(by (repeat (refine aC ?_ ?_; exact lnP 0 G G Tryz.underlying35 G fun l35 => oh G G G G)); trivial),fun V De _=>aP1 (slP3 0 G G slt_35 G G G (by omega) (by omega) (by omega) (by omega) G fun v36 => nl (odH G G G trivial (Sc 0 G Sn) (SubD.tail Sr))),?_⟩
   refine ⟨fun V De _=>aP1 ?_,?_⟩
   ·
    refine cfPc (L0 := [q1, q2]) (Lr := [rdr p bv s, fz X w]) (hcl' _) hok G (by rfl) (by rfl) (by rfl) (Sc 0 G Sn) (by rfl) fun y v h => ?_
    obtain rfl : v = stepTup n e := h
    exact nl (odH G G G G Sn (SubD.tail Sr))
   trivial
  ·
   refine wD [1] G<|nx<|sq<|sa 2 G<|cdN G (fun h41 => ?_) (fun h41 => ?_)
   ·
    refine qg<|ru 4 G<|stB 2 G G G (Og G) G (nlt G)<|nl<|nx<|sa 1 G<|rt<|tR ?_
    have hs : s.step n e = ⟨s.pos, e⟩ := by unfold Rd.step; rw [if_neg (by omega), if_pos (by omega)]
    rw [hs]
    exact fR1 () G G (by rw [decide_eq_false (by omega)]) G Sn
   ·
    refine sk<|nx<|qg<|rl 5 [2] G G<|adI G G (inI (by omega) (by omega)) G<|ru 2 G<|stB 2 G G G (Og G) G (nlt G)<|nl<|nx<|sa 1 G<|rt ?_
    obtain rfl : e = 0 := by omega
    have hs : s.step n 0 = ⟨s.pos + n, s.fault⟩ := by unfold Rd.step; rw [if_neg (by omega), if_neg (by omega)]
    rw [hs]
    exact fR1 () G G G G Sn
theorem thing1_b (p f : Nat) (bv : Value) (bs : List UInt8) (s : Rd) (caps : Array Value) (q : OwnE) (n e : Nat) (h0 : s.fault ≠ 0) :
  Fnc Pg 313 [.pointer (some ⟨p, 0, none⟩), .func (.func f) #[] caps] [q, rdr p bv s] [⟨bv, bs⟩] (fun (_ : Unit) v => v = .bool false) (fun _ _ => [q, rdr p bv s]) (fun _ _ => []) := by
 refine Fnc.proof Tryz.func313 G 54 G G fun X w => sa 1 G<|sq<|qg<|mv G G<|eqP Tryz.underlying311 G G G<|ru 2 G<|rl 5 [1] G G<|nl<|nx<|cdN G (fun h15 => ?_) (fun h15 => ?_)
 · exact sa 1 G<|rt<|tR<|fR1 () G G G G Sn
 · exact absurd (by omega) h0 --#done
theorem thing1 (p f : Nat) (bv : Value) (bs : List UInt8) (s : Rd) (caps : Array Value) (q q' : OwnE) (n e : Nat) (hok : FnOk Pg f) (hp : s.pos ≤ bs.length) (hn : n ≤ (bs.drop s.pos).length)
  (hcl : s.fault = 0 → ∀ sv, Fnc Pg f (sv :: caps.toList) [q] [⟨sv, bs.drop s.pos⟩] (fun (_ : Unit) v => v = stepTup n e) (fun _ _ => [q']) (fun _ _ => []))
  (hbad : s.fault ≠ 0 → [q'] = [q]) :
  Fnc Pg 313 [.pointer (some ⟨p, 0, none⟩), .func (.func f) #[] caps] [q, rdr p bv s] [⟨bv, bs⟩] (fun (_ : Unit) v => v = .bool (decide (s.fault = 0 ∧ e = 0))) (fun _ _ => [q', rdr p bv (s.step n e)]) (fun _ _ => []) := by
 by_cases h0 : s.fault = 0
 ·
  have h := thing1_c p f bv bs s caps q q' n e hok h0 hp hn (hcl h0)
  simpa only [h0, true_and] using h
 ·
  have h := thing1_b p f bv bs s caps q n e h0
  have hs : s.step n e = s := by unfold Rd.step; rw [if_pos h0]
  have hb := hbad h0
  simp only [List.cons.injEq, and_true] at hb
  rw [hs, decide_eq_false (fun hh => h0 hh.1)]
  first | (obtain ⟨e1, e2⟩ := hb; rw [e1, e2]; exact h) | (rw [hb]; exact h)
theorem thing2_b (p f : Nat) (bv : Value) (bs : List UInt8) (s : Rd) (caps : Array Value) (q1 q2 : OwnE) (n e : Nat) (h0 : s.fault ≠ 0) :
  Fnc Pg 313 [.pointer (some ⟨p, 0, none⟩), .func (.func f) #[] caps] [q1, q2, rdr p bv s] [⟨bv, bs⟩] (fun (_ : Unit) v => v = .bool false) (fun _ _ => [q1, q2, rdr p bv s]) (fun _ _ => []) := by
 refine Fnc.proof Tryz.func313 G 54 G G fun X w => sa 1 G<|sq<|qg<|mv G G<|eqP Tryz.underlying311 G G G<|ru 2 G<|rl 5 [2] G G<|nl<|nx<|cdN G (fun h15 => ?_) (fun h15 => ?_)
 · exact sa 1 G<|rt<|tR<|fR1 () G G G G Sn
 · exact absurd (by omega) h0 --#done
theorem thing2 (p f : Nat) (bv : Value) (bs : List UInt8) (s : Rd) (caps : Array Value) (q1 q2 q1' q2' : OwnE) (n e : Nat) (hok : FnOk Pg f) (hp : s.pos ≤ bs.length) (hn : n ≤ (bs.drop s.pos).length)
  (hcl : s.fault = 0 → ∀ sv, Fnc Pg f (sv :: caps.toList) [q1, q2] [⟨sv, bs.drop s.pos⟩] (fun (_ : Unit) v => v = stepTup n e) (fun _ _ => [q1', q2']) (fun _ _ => []))
  (hbad : s.fault ≠ 0 → [q1', q2'] = [q1, q2]) :
  Fnc Pg 313 [.pointer (some ⟨p, 0, none⟩), .func (.func f) #[] caps] [q1, q2, rdr p bv s] [⟨bv, bs⟩] (fun (_ : Unit) v => v = .bool (decide (s.fault = 0 ∧ e = 0))) (fun _ _ => [q1', q2', rdr p bv (s.step n e)]) (fun _ _ => []) := by
 by_cases h0 : s.fault = 0
 ·
  have h := thing2_c p f bv bs s caps q1 q2 q1' q2' n e hok h0 hp hn (hcl h0)
  simpa only [h0, true_and] using h
 ·
  have h := thing2_b p f bv bs s caps q1 q2 n e h0
  have hs : s.step n e = s := by unfold Rd.step; rw [if_pos h0]
  have hb := hbad h0
  simp only [List.cons.injEq, and_true] at hb
  rw [hs, decide_eq_false (fun hh => h0 hh.1)]
  first | (obtain ⟨e1, e2⟩ := hb; rw [e1, e2]; exact h) | (rw [hb]; exact h)
theorem num_r (p : Nat) (bv : Value) (bs : List UInt8) (s : Rd) (hp : s.pos ≤ bs.length) : Fnc Pg 312 [.pointer (some ⟨p, 0, none⟩)] [rdr p bv s] [⟨bv, bs⟩] (fun (_ : Unit) v => v = .int .u64 ((rdNum bs s).1 : Int)) (fun _ _ => [rdr p bv (rdNum bs s).2]) (fun _ _ => []) := by
 refine Fnc.proof Tryz.func312 G 9 G G fun X w => ?_
 have hN0 := fun b sv => num1_c b sv (bs.drop s.pos)
 have hb := numD_bd (bs.drop s.pos) 0 0 (by decide) (by decide)
 rcases hN : numD 0 0 (bs.drop s.pos) with ⟨x, n, e⟩
 rw [hN] at hb
 simp only [hN] at hN0
 simp only at hb
 have hr : rdNum bs s = (s.val 0 x e, s.step n e) := by simp only [rdNum, rdByte, rdCount, rdText, rdOf, hN]
 rw [hr]
 refine sa 1 G<|qg<|al zero_209 G fun b3 => stB 0 G G G (Og G) G (nlt G)<|nl<|nx<|sq<|qg<|mv G G<|mf (xs := [.tmp 3]) G G<|cfP (L0 := [bl b3 209 [.int .u64 0], rdr p bv s]) (Lr := [fz X w]) (thing1 p 318 bv bs s #[.pointer (some ⟨b3, 0, none⟩)] _ (bl b3 209 [.int .u64 ((s.val 0 x e : Nat) : Int)]) n e ok_318 hp (by omega) (fun h sv => ?_) (fun h => ?_)) ok_313 G (by rfl) (Sc 0 G Sn) (by rfl) fun y v h => ?_
 ·
  have q := hN0 b3 sv
  have e1 : s.val 0 x e = x := by unfold Rd.val; rw [if_neg (by omega)]; split <;> omega
  rw [e1]
  exact q
 ·
  have e1 : s.val 0 x e = 0 := by unfold Rd.val; rw [if_pos h]
  rw [e1]; rfl
 obtain rfl : v = .bool (decide (s.fault = 0 ∧ e = 0)) := h
 refine nt G G<|nl<|nx<|cdN G (fun h7 => ?_) (fun h7 => ?_)
 ·
  refine sa 1 G<|rt<|tR ?_
  have e1 : s.val 0 x e = 0 := by unfold Rd.val; split; rfl; split; rfl; omega
  exact dpQ<|fR1 () G G (by rw [e1]; rfl) G Sn
 · exact sk<|nx<|sb 2 [0] G G<|rt<|dpQ<|fR1 () G G G G Sn
theorem count_r (p : Nat) (bv : Value) (bs : List UInt8) (s : Rd) (most : Int) (hm : InI most) (hp : s.pos ≤ bs.length) : Fnc Pg 301 [.pointer (some ⟨p, 0, none⟩), .int .i64 most] [rdr p bv s] [⟨bv, bs⟩] (fun (_ : Unit) v => v = .int .i64 ((rdCount bs most s).1 : Int)) (fun _ _ => [rdr p bv (rdCount bs most s).2]) (fun _ _ => []) := by
 refine Fnc.proof Tryz.func301 G 11 G G fun X w => ?_
 have hN0 := fun a b sv => count1_c a b sv (bs.drop s.pos) most hm
 have hb := countD_bd (bs.drop s.pos) most
 rcases hN : countD (bs.drop s.pos) most with ⟨x, n, e⟩
 rw [hN] at hb
 simp only [hN] at hN0
 simp only at hb
 have hr : rdCount bs most s = (s.val 0 x e, s.step n e) := by simp only [rdNum, rdByte, rdCount, rdText, rdOf, hN]
 rw [hr]
 refine qg<|bx G G G fun b3 => ru 1 G<|nl<|nx<|qg<|al zero_3 G fun b5 => stB 0 G G G (Og G) G (nlt G)<|nl<|nx<|sq<|qg<|mv G G<|mf (xs := [.tmp 3, .tmp 5]) G G<|cfP (L0 := [bl b5 3 [.int .i64 0], bl b3 3 [.int .i64 most], rdr p bv s]) (Lr := [fz X w]) (thing2 p 315 bv bs s #[.pointer (some ⟨b3, 0, none⟩), .pointer (some ⟨b5, 0, none⟩)] _ _ (bl b5 3 [.int .i64 ((s.val 0 x e : Nat) : Int)]) (bl b3 3 [.int .i64 most]) n e ok_315 hp (by omega) (fun h sv => ?_) (fun h => ?_)) ok_313 G (by rfl) (Sc 0 G Sn) (by rfl) fun y v h => ?_
 ·
  have q := hN0 b3 b5 sv
  have e1 : s.val 0 x e = x := by unfold Rd.val; rw [if_neg (by omega)]; split; exact (by simp [hb.2.2, *]); rfl
  rw [e1]
  exact q
 ·
  have e1 : s.val 0 x e = 0 := by unfold Rd.val; rw [if_pos h]
  rw [e1]; try rfl
 obtain rfl : v = .bool (decide (s.fault = 0 ∧ e = 0)) := h
 refine nt G G<|nl<|nx<|cdN G (fun h9 => ?_) (fun h9 => ?_)
 ·
  refine sa 1 G<|rt<|tR ?_
  have e1 : s.val 0 x e = 0 := by unfold Rd.val; split; rfl; split; rfl; omega
  refine dpQ (dpQ ?_)
  exact fR1 () G G (by rw [e1]; rfl) G Sn
 ·
  refine sk<|nx<|sb 2 [0] G G<|rt<|dpQ (dpQ ?_)
  exact fR1 () G G G G Sn
theorem text_r (p : Nat) (bv : Value) (bs : List UInt8) (s : Rd) (most : Int) (hm : InI most) (hms : most ≤ 1000000) (hp : s.pos ≤ bs.length) : Fnc Pg 306 [.pointer (some ⟨p, 0, none⟩), .int .i64 most] [rdr p bv s] [⟨bv, bs⟩] (fun (_ : Unit) _ => True) (fun _ _ => [rdr p bv (rdText bs most s).2]) (fun _ v => [⟨v, (rdText bs most s).1⟩]) := by
 refine Fnc.proof Tryz.func306 G 10 G G fun X w => ?_
 have hN0 := fun a b sv => text1_c a b sv (bs.drop s.pos) most hm hms
 have hb := textD_bd (bs.drop s.pos) most
 rcases hN : textD (bs.drop s.pos) most with ⟨x, n, e⟩
 rw [hN] at hb
 simp only [hN] at hN0
 simp only at hb
 have hr : rdText bs most s = (s.val [] x e, s.step n e) := by simp only [rdNum, rdByte, rdCount, rdText, rdOf, hN]
 rw [hr]
 have hb : True ∧ n ≤ (bs.drop s.pos).length ∧ (e ≠ 0 → x = [] ∧ n = 0) := ⟨trivial, hb.1, hb.2.1⟩
 refine qg<|bx G G G fun b3 => ru 1 G<|nl<|nx<|qg<|al zero_35 G fun b5 => nl<|nx<|qg<|mv G G<|emL (α := UInt8)<|clL (α := List UInt8) 0 0 G G<|mf (xs := [.tmp 3, .tmp 5]) G G<|cfP (L0 := [vr b5 35 ([] : List UInt8), bl b3 3 [.int .i64 most], rdr p bv s]) (Lr := [fz X w]) (thing2 p 317 bv bs s #[.pointer (some ⟨b3, 0, none⟩), .pointer (some ⟨b5, 0, none⟩)] _ _ (vr b5 35 (s.val [] x e : List UInt8)) (bl b3 3 [.int .i64 most]) n e ok_317 hp (by omega) (fun h sv => ?_) (fun h => ?_)) ok_313 G (by rfl) (Sc 1 G Sn) (by rfl) fun y v h => ?_
 ·
  have q := hN0 b3 b5 sv
  have e1 : s.val [] x e = x := by unfold Rd.val; rw [if_neg (by omega)]; split; exact (by simp [hb.2.2, *]); rfl
  rw [e1]
  exact q
 ·
  have e1 : s.val [] x e = [] := by unfold Rd.val; rw [if_pos h]
  rw [e1]; try rfl
 obtain rfl : v = .bool (decide (s.fault = 0 ∧ e = 0)) := h
 refine nl<|nx<|qg<|opL 0 G fun u9 => rl 2 [0] G G<|nl<|nx<|rt<|dpQ (dpQ ?_)
 exact fR1 () G G trivial G (Sc 0 G Sn)
theorem int_r (p : Nat) (bv : Value) (bs : List UInt8) (s s' : Rd) (x : Int) (hp : s.pos ≤ bs.length) (hx : rdInt bs s = (x, s')) : Fnc Pg 298 [.pointer (some ⟨p, 0, none⟩)] [rdr p bv s] [⟨bv, bs⟩] (fun (_ : Unit) v => v = .int .i64 x) (fun _ _ => [rdr p bv s']) (fun _ _ => []) := by
 refine Fnc.proof Tryz.func298 G 16 G G fun X w => ?_
 obtain ⟨rfl, rfl⟩ : x = zag (rdNum bs s).1 ∧ s' = (rdNum bs s).2 := by simp only [rdInt, Prod.mk.injEq] at hx; exact ⟨hx.1.symm, hx.2.symm⟩
 have hl := rdNum_lt bs s
 refine sa 1 G<|qg<|mv G G<|cf1 0 (num_r _ _ _ _ hp) ok_312 G G (Sc 0 G Sn) G fun y5 v5 h5 => ?_
 have h5 : v5 = .int .u64 ((rdNum bs s).1 : Int) := h5
 subst h5
 refine ru 1 G<|nl<|nx<|sq<|qg<|mv G G<|btA G G (and_1 hl) G<|ru 1 G<|nl<|nx<|cdP G (fun h8 => ?_) (fun h8 => ?_)
 · exact qg<|mv G G<|shR G G (by omega) (shr1 _) G<|cv Tryz.underlying209 Tryz.underlying3 G (i64_of_nat (by omega)) G<|cpW G (cpl (inI (by omega) (by omega))) G<|ru 1 G<|nl<|nx<|rt<|tR<|fR1 () G G (by unfold zag; rw [if_pos (by omega)]) G Sn
 · exact sk<|nx<|qg<|mv G G<|shR G G (by omega) (shr1 _) G<|cv Tryz.underlying209 Tryz.underlying3 G (i64_of_nat (by omega)) G<|ru 1 G<|nl<|nx<|rt<|fR1 () G G (by unfold zag; rw [if_neg (by omega)]) G Sn
theorem fault_r (p : Nat) (bv : Value) (bs : List UInt8) (s : Rd) : Fnc Pg 311 [.pointer (some ⟨p, 0, none⟩)] [rdr p bv s] [] (fun (_ : Unit) v => v = .tuple #[.int .i64 (s.fault : Int), .int .i64 ((if s.fault = 0 then 0 else s.pos : Nat) : Int)]) (fun _ _ => [rdr p bv s]) (fun _ _ => []) := by
 refine Fnc.proof Tryz.func311 G 19 G G fun X w => sa 2 G<|sq<|qg<|mv G G<|eqP Tryz.underlying311 G G G<|nl<|nx<|cdF G<|sk<|nx<|sq<|sb 5 [0] G G<|cdP G (fun h10 => ?_) (fun h10 => ?_)
 ·
  refine sa 2 G<|rt<|tR ?_
  have e : s.fault = 0 := by omega
  rw [if_pos e]
  exact fR2 () G G G (by rw [e]; rfl) G Sn
 ·
  refine sk<|nx<|sq<|rgQ mixed (by kernel_rfl)<|rl 10 [0,0] G G<|nlQ<|nx<|rt ?_
  rw [if_neg (by omega)]
  exact fR2 () G G G G G Sn
theorem new_r (sv : Value) (bs : List UInt8) (hlen : bs.length ≤ 140737488355328) : Fnc Pg 259 [sv] [] [⟨sv, bs⟩] (fun (y : Nat × Value) v => v = .pointer (some ⟨y.1, 0, none⟩)) (fun y _ => [rdr y.1 y.2 ⟨0, 0⟩]) (fun y _ => [⟨y.2, bs⟩]) := by
 refine Fnc.proof Tryz.func259 G 7 G G fun X w => sa 1 G<|qg<|mv G G<|cf (clone_c _ _ (by first | assumption | (simp only [List.length_drop, List.length_take]; omega))) ok_107 G (Sc 0 G Sn) G fun y4 v4 h4 => asSl 0 G ?_
 rintro ⟨A, cc, rfl⟩
 exact bd (ps := [(0, .tmp 4)]) (cs := [.slice A bs.length cc, .int .i64 0, .int .i64 0]) (by rfl) (by kernel_rfl) G<|bx G G G fun b6 => ru 1 G<|nl<|nx<|rt<|fR1 (b6, .slice A bs.length cc) G G G G (Sc 0 G Sn)
theorem flag1_c (b : Nat) (sv : Value) (bs : List UInt8) : Fnc Pg 314 [sv, .pointer (some ⟨b, 0, none⟩)] [bl b 4 [.bool false]] [⟨sv, bs⟩] (fun (_ : Unit) v => v = stepTup (flagD bs).2.1 (flagD bs).2.2) (fun _ _ => [bl b 4 [.bool (flagD bs).1]]) (fun _ _ => []) := by
 refine Fnc.proof Tryz.func314 G 16 G G fun X w => sa 2 G<|sq<|qg<|mv G G<|lnP 0 G G Tryz.underlying35 G fun l6 => ru 1 G<|nl<|nx<|cdP G (fun h7 => ?_) (fun h7 => ?_)
 ·
  have hx : bs = [] := List.eq_nil_of_length_eq_zero (by omega)
  subst hx
  exact sa 2 G<|rt<|tR<|fR2 () G G G G G Sn
 ·
  obtain ⟨c, r, rfl⟩ : ∃ c r, bs = c :: r := by
   cases bs with
   | nil => exact absurd rfl h7
   | cons c r => exact ⟨c, r, rfl⟩
  refine sk<|nx<|sq<|qg<|mv G G<|ixP 0 G G G slt_35 (by omega) (show (c :: r)[0]? = some c from G) G fun v9 => ldV 0 G G (Og G) G fun w10 => ru 1 G<|nl<|nx<|cdP G (fun h11 => ?_) (fun h11 => ?_)
  ·
   have hF : flagD (c :: r) = (false, 0, 21) := by simp only [flagD]; rw [if_pos (by omega)]
   rw [hF]
   exact sa 2 G<|rt<|tR<|fR2 () G G G G G Sn
  ·
   have hF : flagD (c :: r) = (decide ((c.toNat : Int) = 1), 1, 0) := by
    simp only [flagD]
    rw [if_neg (by omega)]
    congr 1
    rw [Bool.eq_iff_iff]
    simp only [decide_eq_true_eq]
    rw [← UInt8.toNat_inj]
    show c.toNat = 1 ↔ _
    omega
   rw [hF]
   exact sk<|nx<|qg<|mv G G<|ixP 1 G G G slt_35 (by omega) (show (c :: r)[0]? = some c from G) G fun v13 => ldV 0 G G (Og G) G fun w14 => ru 1 G<|stB 0 G G G (Og G) G (nlt G)<|nl<|nx<|sa 2 G<|rt<|fR2 () G G G G G Sn
theorem flag_r (p : Nat) (bv : Value) (bs : List UInt8) (s : Rd) (hp : s.pos ≤ bs.length) : Fnc Pg 299 [.pointer (some ⟨p, 0, none⟩)] [rdr p bv s] [⟨bv, bs⟩] (fun (_ : Unit) v => v = .bool (rdFlag bs s).1) (fun _ _ => [rdr p bv (rdFlag bs s).2]) (fun _ _ => []) := by
 refine Fnc.proof Tryz.func299 G 8 G G fun X w => ?_
 have hN0 := fun b sv => flag1_c b sv (bs.drop s.pos)
 have hb := flagD_bd (bs.drop s.pos)
 rcases hN : flagD (bs.drop s.pos) with ⟨x, n, e⟩
 rw [hN] at hb
 simp only [hN] at hN0
 simp only at hb
 have hr : rdFlag bs s = (s.val false x e, s.step n e) := by simp only [rdFlag, rdOf, hN]
 rw [hr]
 have hb : True ∧ n ≤ (bs.drop s.pos).length ∧ (e ≠ 0 → x = false ∧ n = 0) := ⟨trivial, hb⟩
 refine sa 1 G<|qg<|al zero_4 G fun b3 => stB 0 G G G (Og G) G (nlt G)<|nl<|nx<|qg<|mv G G<|mf (xs := [.tmp 3]) G G<|cfP (L0 := [bl b3 4 [.bool false], rdr p bv s]) (Lr := [fz X w]) (thing1 p 314 bv bs s #[.pointer (some ⟨b3, 0, none⟩)] _ (bl b3 4 [.bool (s.val false x e : Bool)]) n e ok_314 hp (by omega) (fun h sv => ?_) (fun h => ?_)) ok_313 G (by rfl) (Sc 0 G Sn) (by rfl) fun y v h => ?_
 ·
  have q := hN0 b3 sv
  have e1 : s.val false x e = x := by unfold Rd.val; rw [if_neg (by omega)]; split; exact (by simp [hb.2.2, *]); rfl
  rw [e1]
  exact q
 ·
  have e1 : s.val false x e = false := by unfold Rd.val; rw [if_pos h]
  rw [e1]; try rfl
 obtain rfl : v = .bool (decide (s.fault = 0 ∧ e = 0)) := h
 exact nl<|nx<|sb 2 [0] G G<|rt<|dpQ<|fR1 () G G G G Sn
theorem end_r (p : Nat) (bv : Value) (bs : List UInt8) (s : Rd) : Fnc Pg 260 [.pointer (some ⟨p, 0, none⟩)] [rdr p bv s] [⟨bv, bs⟩] (fun (_ : Unit) v => v = .int .i64 (endE bs s)) (fun _ _ => [rdr p bv s]) (fun _ _ => []) := by
 refine Fnc.proof Tryz.func260 G 26 G G fun X w => sa 1 G<|sq<|qg<|mv G G<|eqP Tryz.underlying311 G G G<|nl<|nx<|cdF G<|sk<|nx<|sq<|sq<|rgQ mixed (by kernel_rfl)<|rl 6 [0] G G<|spP (i := 10) G (fun h10 => ?_) (fun h10 => ?_)
 ·
  refine rl 7 [0] G G<|rl 1 [0] G G<|gY G G G<|lnP 0 G G Tryz.underlying35 G fun l19 => ru 2 G<|nlQ<|nx<|cdP G (fun h21 => ?_) (fun h21 => ?_)
  · exact sa 1 G<|rt<|tR<|fR1 () G G (by unfold endE; first | rw [if_pos (by omega)] | rw [if_neg (by omega)]) G Sn
  · exact sk<|nx<|sb 5 [0] G G<|rt<|fR1 () G G (by unfold endE; first | rw [if_pos (by omega)] | rw [if_neg (by omega)]) G Sn
 · exact gN G G G G G<|gN G G G G G<|gN G G G G G<|gN G G G G G<|gN G G G G G<|gN G G G G G<|gN G G G G G<|gN G G G G G<|gN G G G G G<|gN G G G G G<|ru 1 G<|nlQ<|nx<|cdF G<|sk<|nx<|sb 5 [0] G G<|rt<|fR1 () G G (by unfold endE; first | rw [if_pos (by omega)] | rw [if_neg (by omega)]) G Sn
end Go.Proofs.YtmpoffijcfaalaaGreat.Rdr
