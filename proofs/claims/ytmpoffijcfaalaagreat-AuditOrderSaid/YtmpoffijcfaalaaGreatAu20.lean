/- Part 20 of the proof of auditOrder_holds: DutW9, DutW10, DutNF. Every text below begins with what it shows. -/
import Derived.Test.YtmpoffijcfaalaaGreatAu19

/- Walks, written by specs2.py. -/

namespace Go.Proofs.YtmpoffijcfaalaaGreat
open Go.Eng Go.YtmpoffijcfaalaaGreat
set_option maxHeartbeats 1000000

theorem pright1_c (x : TPlace) (v1 : Value) (c : TChart) (h_x : x.wf) : FnV Tryz.prog 189 [.agg (cPlace x).toArray, v1] [⟨v1, (⟨c⟩ : Pt TChart)⟩] (.bool (decide (x.fGroup ≥ c.fNext))) := by
 refine Fnc.proof Tryz.func189 G 9 G G fun X w => sq<|rg<|bx G G G fun b2 => asg G G<|nl<|nx<|sq<|rg<|fa G fld_90_0 G<|ldB 0 G G one_3 G G<|faP (α := TChart) (β := Int) 0 (fun x : TChart => x.fNext) G G fld_27_2 pChart_2 G fun v6 => ldV 0 G G one_3 G fun w7 => ?_
 refine geI G G G<|asg G G<|nl<|nx<|rt<|dpQ ?_
 exact fR1 () G G (by rfl) G Sn

theorem containsPlace_c (v_l : Value) (l : List TPlace) (f : Nat) (caps : Array Value) (A : List Atom) (p : TPlace → Bool) (hok : FnOk Tryz.prog f) (hcl : ∀ x : TPlace, x.wf → FnV Tryz.prog f (.agg (cPlace x).toArray :: caps.toList) A (.bool (p x))) : FnV Tryz.prog 188 [v_l, .func (.func f) #[] caps] (⟨v_l, l⟩ :: A) (.bool (decide (placeI (firstI l.length (fun j => p (l.getD j default))) ≥ 0))) := by
 refine Fnc.proof Tryz.func188 G 9 G G fun X w => sq<|rg<|asg G G<|nl<|nx<|sq<|rg<|mv G G<|mv G G<|cfv (indexPlace_c _ _ f caps A p hok hcl) ok_244 G (Sc 0 G (SubD.tail Sr)) G<|geI G G G<|asg G G<|nl ?_
 refine nx<|rt ?_
 exact fR1 () G G (by rfl) G Sn

theorem splits_c (c : TChart) (c_0 c_1 : Value) (h_c : c.wf) (hp : 0 < c.fPlaces.length) (hn : 2 ≤ c.fNext) : FnV Tryz.prog 191 [.agg (cChart c c_0 c_1).toArray] [⟨c_0, c.fPlaces⟩, ⟨c_1, c.fMarks⟩] (.bool (splitsP c)) := by
 refine Fnc.proof Tryz.func191 G 75 G G fun X w => ?_
 obtain ⟨nx1, nx2⟩ := id h_c.2.2.1
 have hfl := findP_lt (k := c.fPlan.fLo) hp
 refine gtC (q := c.fPlaces.length ≤ 9223372036854775807) (fun S w h => list_len (h _ (List.mem_of_getElem? (i := 0) G))) fun hlen => sq<|rg<|bx G G G fun b1 => asg G G<|nl<|nx<|sq<|rg<|fa G fld_27_4 G<|ldM 0 (cPlan c.fPlan) G G row_24 G G<|al zero_24 G fun b3 => stW 0 (us := (cPlan c.fPlan)) G G G row_24 G G<|nl ?_
 refine nx<|sq<|sq<|rg<|fa G fld_27_1 G<|ldB 1 G G one_22 G G<|fa G fld_24_2 G<|ldB 0 G G one_3 G G<|cfv (of_c _ _ _ h_c.2.2.2.2.1.2.2.1) ok_173 G (Sc 0 G Sn) G<|mv G G<|xt G G G<|xt G G G<|asg G G<|asg G G ?_
 refine nl<|nx<|sq<|rg<|mv G G<|mv G G ?_
 apply jo [(1, _), (3, _)] ⟨rfl, rfl, trivial⟩
 ·
  intro K26
  refine spO (i := 19) G (fun h19 => ?_) (fun h19 => ?_)
  ·
   have p19 := h19
   try simp only [Bool.or_eq_false_iff, Bool.and_eq_true, decide_eq_true_eq, decide_eq_false_iff_not, Bool.not_eq_true', Bool.not_eq_false'] at p19
   exact gY G G G<|fa G fld_24_2 G<|gY G G G<|ldB 0 G G one_3 G G<|gY G G G<|fa G fld_27_2 G<|gY G G G<|ldB 1 G G one_3 G G<|gY G G G<|sbI G G (inI (by omega) (by omega)) G<|gY G G G<|neI G G G<|pkF G G G<|jR K26 h19 ⟨G, G, trivial⟩ Sr
  ·
   exact gS (g := [_, _, _, _, _, _]) G<|pkT G G G<|jR0 K26 h19 ⟨G, G, trivial⟩ Sr
 refine mv G G ?_
 apply jo [(1, _), (3, _)] ⟨rfl, rfl, trivial⟩
 ·
  intro K32
  refine spO (i := 27) G (fun h27 => ?_) (fun h27 => ?_)
  ·
   exact gY G G G<|fa G fld_27_1 G<|gY G G G<|ldB 1 G G one_22 G G<|gY G G G<|lnP 0 G G Tryz.underlying22 G fun l30 => gY G G G<|geI G G G<|pkF G G G<|jR K32 h27 ⟨G, G, trivial⟩ Sr
  ·
   exact gS (g := [_, _, _, _]) G<|pkT G G G<|jR0 K32 h27 ⟨G, G, trivial⟩ Sr
 refine mv G G ?_
 apply jo [(1, _), (3, _)] ⟨rfl, rfl, trivial⟩
 ·
  intro K37
  refine spO (i := 33) G (fun h33 => ?_) (fun h33 => ?_)
  ·
   exact gY G G G<|fa G fld_24_3 G<|gY G G G<|ldB 0 G G one_9 G G<|gY G G G<|eqS G G G<|pkF G G G<|jR K37 h33 ⟨G, G, trivial⟩ Sr
  ·
   exact gS (g := [_, _, _]) G<|pkT G G G<|jR0 K37 h33 ⟨G, G, trivial⟩ Sr
 refine mv G G ?_
 apply jo [(1, _), (3, _)] ⟨rfl, rfl, trivial⟩
 ·
  intro K43
  refine spO (i := 38) G (fun h38 => ?_) (fun h38 => ?_)
  ·
   exact gY G G G<|fa G fld_24_3 G<|gY G G G<|ldB 0 G G one_9 G G<|gY G G G<|lnS G Tryz.underlying9 G<|gY G G G<|gtI G G G<|pkF G G G<|jR K43 h38 ⟨G, G, trivial⟩ Sr
  ·
   exact gS (g := [_, _, _, _]) G<|pkT G G G<|jR0 K43 h38 ⟨G, G, trivial⟩ Sr
 refine nl<|nx<|cdB G (fun h43 => ?_) (fun h43 => ?_)
 ·
  have e43 : (split1 c) = true := h43
  refine sq<|rg<|asg G G<|nl<|nx<|rt<|tR<|dpQ<|dpQ ?_
  exact fR1 () G G (by rw [splitsP, e43]; try rfl) G Sn
 ·
  have e43 : (split1 c) = false := h43
  refine sk<|nx<|sq<|rg<|fa G fld_27_1 G<|ldB 1 G G one_22 G G<|fa G fld_24_3 G<|ldB 0 G G one_9 G G<|cfv (find_c _ _ _) ok_35 G (Sc 0 G Sn) G<|asg G G<|nl<|nx<|sq<|rg ?_
  refine fa G fld_27_1 G<|ldB 1 G G one_22 G G<|mv G G<|ixP 0 G G G slt_22 (by omega) (getDE (d := default) (by omega)) G fun v52 => ldS 0 G G row_90 G fun q53 w53 => ?_
  refine al zero_90 G fun b7 => stW 0 (us := (cPlace ((c.fPlaces.getD (findP c.fPlaces c.fPlan.fLo) default)))) G G G row_90 G G<|nl<|nx<|sq<|rgQ mixed (by kernel_rfl)<|fa G fld_24_1 G<|ldB 1 G G one_3 G G<|fa G fld_90_0 G<|ldB 0 G G one_3 G G<|eqI G G G<|mv G G ?_
  apply jo [(1, _), (3, _), (6, _)] ⟨rfl, rfl, rfl, trivial⟩
  ·
   intro K65
   refine spA (i := 59) G (fun h59 => ?_) (fun h59 => ?_)
   ·
    have p59 := of_decide_eq_true h59
    exact gY G G G<|fa G fld_24_3 G<|gY G G G<|ldB 1 G G one_9 G G<|gY G G G<|fa G fld_90_1 G<|gY G G G<|ldB 0 G G one_9 G G<|gY G G G<|neS G G G<|pkT G G G<|jA K65 h59 ⟨G, G, G, trivial⟩ Sr
   ·
    exact gS (g := [_, _, _, _, _]) G<|pkF G G G<|jA0 K65 h59 ⟨G, G, G, trivial⟩ Sr
  refine mv G G ?_
  apply jo [] trivial
  ·
   intro K74
   refine spA (i := 66) G (fun h66 => ?_) (fun h66 => ?_)
   ·
    refine gY G G G<|fa G fld_24_4 G<|gY G G G<|ldB 1 G G one_9 G G<|gY G G G<|fa G fld_27_1 G<|gY G G G<|ldB 2 G G one_22 G G<|gY G G G<|mv G G<|gY G G G<|cfq (end_c _ _ _ (inI (by omega) (by omega))) ok_245 G (Sc 2 G Sn) G<|gY G G G<|eqS G G G ?_
    exact pkT G G G<|jA K74 h66 trivial Sr
   ·
    exact gS (g := [_, _, _, _, _, _, _]) G<|pkF G G G<|jA0 K74 h66 trivial Sr
  refine asg G G<|nlQ<|nx<|rt<|dpQ<|dpQ<|dpQ ?_
  exact fR1 () G G (by rw [splitsP, e43]; try rfl) G Sn

theorem merges_c (c : TChart) (c_0 c_1 : Value) (h_c : c.wf) (hp : 0 < c.fPlaces.length) : FnV Tryz.prog 192 [.agg (cChart c c_0 c_1).toArray] [⟨c_0, c.fPlaces⟩, ⟨c_1, c.fMarks⟩] (.bool (mergesP c)) := by
 refine Fnc.proof Tryz.func192 G 55 G G fun X w => ?_
 obtain ⟨nx1, nx2⟩ := id h_c.2.2.1
 have hol := ofP_lt (g := c.fPlan.fTo) hp
 refine gtC (q := c.fPlaces.length ≤ 9223372036854775807) (fun S w h => list_len (h _ (List.mem_of_getElem? (i := 0) G))) fun hlen => sq<|rg<|bx G G G fun b1 => asg G G<|nl<|nx<|sq<|rg<|fa G fld_27_4 G<|ldM 0 (cPlan c.fPlan) G G row_24 G G<|al zero_24 G fun b3 => stW 0 (us := (cPlan c.fPlan)) G G G row_24 G G<|nl ?_
 refine nx<|sq<|rg<|fa G fld_27_1 G<|ldB 1 G G one_22 G G<|fa G fld_24_2 G<|ldB 0 G G one_3 G G<|cfv (of_c _ _ _ h_c.2.2.2.2.1.2.2.1) ok_173 G (Sc 0 G Sn) G<|mv G G<|xt G G G<|xt G G G<|asg G G<|asg G G<|nl ?_
 refine nx<|sq<|sq<|rg<|mv G G<|nt G G<|mv G G ?_
 apply jo [(1, _), (3, _), (4, _)] ⟨rfl, rfl, rfl, trivial⟩
 ·
  intro K26
  refine spO (i := 19) G (fun h19 => ?_) (fun h19 => ?_)
  ·
   have p19 := h19
   try simp only [Bool.or_eq_false_iff, Bool.and_eq_true, decide_eq_true_eq, decide_eq_false_iff_not, Bool.not_eq_true', Bool.not_eq_false'] at p19
   exact gY G G G<|mv G G<|gY G G G<|adI G G (inI (by omega) (by omega)) G<|gY G G G<|fa G fld_27_1 G<|gY G G G<|ldB 1 G G one_22 G G<|gY G G G<|lnP 0 G G Tryz.underlying22 G fun l24 => gY G G G<|geI G G G<|pkF G G G<|jR K26 h19 ⟨G, G, G, trivial⟩ Sr
  ·
   exact gS (g := [_, _, _, _, _, _]) G<|pkT G G G<|jR0 K26 h19 ⟨G, G, G, trivial⟩ Sr
 refine nl<|nx<|cdB G (fun h26 => ?_) (fun h26 => ?_)
 ·
  have e26 : (merge1 c) = true := h26
  refine sq<|rg<|asg G G<|nl<|nx<|rt<|tR<|dpQ<|dpQ ?_
  exact fR1 () G G (by rw [mergesP, e26]; try rfl) G Sn
 ·
  have hq : nxt c < (c.fPlaces.length : Int) := by
   have q := h26
   simp only [Bool.or_eq_false_iff, decide_eq_false_iff_not] at q
   have q2 := q.2
   show (((ofP c.fPlaces c.fPlan.fTo).getD 0 : Nat) : Int) + 1 < _
   omega
  unfold nxt at hq
  have e26 : (merge1 c) = false := h26
  refine sk<|nx<|sq<|rg<|fa G fld_27_1 G<|ldB 1 G G one_22 G G<|mv G G<|adI G G (inI (by omega) (by omega)) G<|ixP 0 G G G slt_22 (by omega) (getDE (d := default) (by omega)) G fun v31 => ldS 0 G G row_90 G fun q32 w32 => ?_
  refine al zero_90 G fun b6 => stW 0 (us := (cPlace ((c.fPlaces.getD (((((ofP c.fPlaces c.fPlan.fTo).getD 0 : Nat) : Int) + 1)).toNat default)))) G G G row_90 G G<|nl<|nx<|sq<|rgQ mixed (by kernel_rfl)<|fa G fld_24_1 G<|ldB 1 G G one_3 G G<|fa G fld_90_0 G<|ldB 0 G G one_3 G G<|eqI G G G<|mv G G ?_
  apply jo [(1, _), (3, _), (4, _)] ⟨rfl, rfl, rfl, trivial⟩
  ·
   intro K44
   refine spA (i := 38) G (fun h38 => ?_) (fun h38 => ?_)
   ·
    have p38 := of_decide_eq_true h38
    exact gY G G G<|fa G fld_24_3 G<|gY G G G<|ldB 1 G G one_9 G G<|gY G G G<|fa G fld_90_1 G<|gY G G G<|ldB 0 G G one_9 G G<|gY G G G<|eqS G G G<|pkT G G G<|jA K44 h38 ⟨G, G, G, trivial⟩ Sr
   ·
    exact gS (g := [_, _, _, _, _]) G<|pkF G G G<|jA0 K44 h38 ⟨G, G, G, trivial⟩ Sr
  refine mv G G ?_
  apply jo [] trivial
  ·
   intro K54
   refine spA (i := 45) G (fun h45 => ?_) (fun h45 => ?_)
   ·
    have p45 := h45
    try simp only [Bool.or_eq_false_iff, Bool.and_eq_true, decide_eq_true_eq, decide_eq_false_iff_not, Bool.not_eq_true', Bool.not_eq_false'] at p45
    refine gY G G G<|fa G fld_24_4 G<|gY G G G<|ldB 1 G G one_9 G G<|gY G G G<|fa G fld_27_1 G<|gY G G G<|ldB 2 G G one_22 G G<|gY G G G<|mv G G<|gY G G G<|adI G G (inI (by omega) (by omega)) G<|gY G G G<|cfq (end_c _ _ _ (inI (by omega) (by omega))) ok_245 G (Sc 2 G Sn) G ?_
    exact gY G G G<|eqS G G G<|pkT G G G<|jA K54 h45 trivial Sr
   ·
    exact gS (g := [_, _, _, _, _, _, _, _]) G<|pkF G G G<|jA0 K54 h45 trivial Sr
  refine asg G G<|nlQ<|nx<|rt<|dpQ<|dpQ<|dpQ ?_
  exact fR1 () G G (by rw [mergesP, e26]; try rfl) G Sn

theorem pright_c (c : TChart) (c_0 c_1 : Value) (h_c : c.wf) : FnV Tryz.prog 123 [.agg (cChart c c_0 c_1).toArray] [⟨c_0, c.fPlaces⟩, ⟨c_1, c.fMarks⟩] (.bool (planP c)) := by
 refine Fnc.proof Tryz.func123 G 82 G G fun X w => sq<|rg<|bx G G G fun b1 => asg G G<|nl<|nx<|sq<|sq<|rg<|fa G fld_27_0 G<|ldB 0 G G one_3 G G<|ltI G G G<|mv G G ?_
 apply jo [(1, _)] ⟨rfl, trivial⟩
 ·
  intro K11
  refine spO (i := 7) G (fun h7 => ?_) (fun h7 => ?_)
  ·
   have p7 := of_decide_eq_false h7
   exact gY G G G<|fa G fld_27_0 G<|gY G G G<|ldB 0 G G one_3 G G<|gY G G G<|gtI G G G<|pkF G G G<|jR K11 h7 ⟨G, trivial⟩ Sr
  ·
   exact gS (g := [_, _, _]) G<|pkT G G G<|jR0 K11 h7 ⟨G, trivial⟩ Sr
 refine mv G G ?_
 apply jo [(1, _)] ⟨rfl, trivial⟩
 ·
  intro K16
  refine spO (i := 12) G (fun h12 => ?_) (fun h12 => ?_)
  ·
   exact gY G G G<|fa G fld_27_3 G<|gY G G G<|ldB 0 G G one_3 G G<|gY G G G<|ltI G G G<|pkF G G G<|jR K16 h12 ⟨G, trivial⟩ Sr
  ·
   exact gS (g := [_, _, _]) G<|pkT G G G<|jR0 K16 h12 ⟨G, trivial⟩ Sr
 refine mv G G ?_
 apply jo [(1, _)] ⟨rfl, trivial⟩
 ·
  intro K21
  refine spO (i := 17) G (fun h17 => ?_) (fun h17 => ?_)
  ·
   exact gY G G G<|fa G fld_27_3 G<|gY G G G<|ldB 0 G G one_3 G G<|gY G G G<|gtI G G G<|pkF G G G<|jR K21 h17 ⟨G, trivial⟩ Sr
  ·
   exact gS (g := [_, _, _]) G<|pkT G G G<|jR0 K21 h17 ⟨G, trivial⟩ Sr
 refine mv G G ?_
 apply jo [(1, _)] ⟨rfl, trivial⟩
 ·
  intro K26
  refine spO (i := 22) G (fun h22 => ?_) (fun h22 => ?_)
  ·
   exact gY G G G<|fa G fld_27_2 G<|gY G G G<|ldB 0 G G one_3 G G<|gY G G G<|ltI G G G<|pkF G G G<|jR K26 h22 ⟨G, trivial⟩ Sr
  ·
   exact gS (g := [_, _, _]) G<|pkT G G G<|jR0 K26 h22 ⟨G, trivial⟩ Sr
 refine mv G G ?_
 apply jo [(1, _)] ⟨rfl, trivial⟩
 ·
  intro K31
  refine spO (i := 27) G (fun h27 => ?_) (fun h27 => ?_)
  ·
   exact gY G G G<|fa G fld_27_2 G<|gY G G G<|ldB 0 G G one_3 G G<|gY G G G<|gtI G G G<|pkF G G G<|jR K31 h27 ⟨G, trivial⟩ Sr
  ·
   exact gS (g := [_, _, _]) G<|pkT G G G<|jR0 K31 h27 ⟨G, trivial⟩ Sr
 refine nl<|nx<|cdB G (fun h31 => ?_) (fun h31 => ?_)
 ·
  have e31 : (plan1 c) = true := h31
  refine sq<|rg<|asg G G<|nl<|nx<|rt<|tR<|dpQ ?_
  exact fR1 () G G (by rw [planP, e31]; try rfl) G Sn
 ·
  have hn : 2 ≤ c.fNext := by
   have q := h31
   simp only [Bool.or_eq_false_iff, decide_eq_false_iff_not] at q
   have := q.1.2
   omega
  have e31 : (plan1 c) = false := h31
  refine sk<|nx<|sq<|sq<|rg<|fa G fld_27_1 G<|ldB 0 G G one_22 G G<|cfv (rcheck_c _ _) ok_187 G (Sc 0 G Sn) G<|neI G G G<|mv G G ?_
  apply jo [(1, _)] ⟨rfl, trivial⟩
  ·
   intro K41
   refine spO (i := 36) G (fun h36 => ?_) (fun h36 => ?_)
   ·
    have p36 := h36
    simp only [Bool.not_eq_true', Bool.not_eq_false', decide_eq_true_eq, decide_eq_false_iff_not] at p36
    exact gY G G G<|fa G fld_27_5 G<|gY G G G<|ldB 0 G G one_25 G G<|gY G G G<|cfv (scheck_c _ _) ok_182 G (Sc 1 G Sn) G<|gY G G G<|neI G G G<|pkF G G G<|jR K41 h36 ⟨G, trivial⟩ Sr
   ·
    exact gS (g := [_, _, _, _]) G<|pkT G G G<|jR0 K41 h36 ⟨G, trivial⟩ Sr
  refine nl<|nx<|cdB G (fun h41 => ?_) (fun h41 => ?_)
  ·
   have e41 : (plan2 c) = true := h41
   refine sq<|rg<|asg G G<|nl<|nx<|rt<|tR<|dpQ ?_
   exact fR1 () G G (by rw [planP, e31, e41]; try rfl) G Sn
  ·
   have hp : 0 < c.fPlaces.length := by
    have q := h41
    simp only [Bool.or_eq_false_iff, Bool.not_eq_false', errF_ok] at q
    have q1 := q.1
    unfold rplacesP at q1
    split at q1
    ·
     cases q1
    ·
     rename_i hn
     simp only [rpl1, Bool.or_eq_true, decide_eq_true_eq, not_or] at hn
     have := hn.1
     omega
   have hp7 : c.fPlaces.length ≤ 7 := rplaces_len (by
    have q := h41
    simp only [Bool.or_eq_false_iff, Bool.not_eq_false', errF_ok] at q
    exact q.1)
   have e41 : (plan2 c) = false := h41
   refine sk<|nx<|sq<|sq<|rg<|fa G fld_27_1 G<|ldB 0 G G one_22 G G ?_
   refine frP (α := TChart) c (fun S w h => ⟨⟨c_0, c_1⟩, G, fun t ht => by
     simp only [List.mem_cons, List.not_mem_nil, or_false] at ht
     rcases ht with rfl | rfl
     ·
      exact h _ (List.mem_of_getElem? (i := 0) G)
     ·
      exact h _ (List.mem_of_getElem? (i := 1) G), h_c⟩) ?_
   refine mf (xs := [.tmp 1]) G G<|cfv (containsPlace_c _ _ 189 #[.pointer (some ⟨b1, 0, none⟩)] [⟨_, (⟨c⟩ : Pt TChart)⟩] (fun x => decide (x.fGroup ≥ c.fNext)) ok_189 (fun x hx => pright1_c x _ c hx)) ok_188 G (Sc 1 G (Sc 0 G Sn)) G<|nl<|nx<|cdP G (fun h45 => ?_) (fun h45 => ?_)
   ·
    have e45 : (plan3 c) = true := (decide_eq_true h45)
    refine sq<|rg<|asg G G<|nl<|nx<|rt<|tR ?_
    exact fR1 () G G (by rw [planP, e31, e41, e45]; try rfl) G Sn
   ·
    have e45 : (plan3 c) = false := (decide_eq_false h45)
    refine sk<|nx<|sq<|rg<|faP (α := TChart) (β := TPlan) 0 (fun x : TChart => x.fPlan) G G fld_27_4 pChart_4 G fun v46 => ldS 0 G G row_24 G fun q47 w47 => ?_
    refine al zero_24 G fun b3 => stW 0 (us := (cPlan c.fPlan)) G G G row_24 G G<|nl<|nx<|sq<|sq<|rg<|ldM 0 (cPlan c.fPlan) G G row_24 G G<|bd (ps := []) (cs := (cPlan ((⟨0, 0, 0, ByteArray.empty, ByteArray.empty, 0, 0⟩ : TPlan)))) (by rfl) (by kernel_rfl) G<|eqT eq_Plan (c.fPlan) ((⟨0, 0, 0, ByteArray.empty, ByteArray.empty, 0, 0⟩ : TPlan)) G G G<|nl<|nx<|cdP G (fun h50 => ?_) (fun h50 => ?_)
    ·
     have e50 : (plan4 c) = true := (decide_eq_true h50)
     refine sq<|rg<|asg G G<|nl<|nx<|rt<|tR<|dpQ ?_
     exact fR1 () G G (by rw [planP, e31, e41, e45, e50]; try rfl) G Sn
    ·
     have e50 : (plan4 c) = false := (decide_eq_false h50)
     refine sk<|nx<|sq<|rg<|fa G fld_24_0 G<|ldB 0 G G one_3 G G<|faP (α := TChart) (β := Int) 2 (fun x : TChart => x.fLast) G G fld_27_3 pChart_3 G fun v53 => ldV 0 G G one_3 G fun w54 => ?_
     refine eqI G G G<|mv G G ?_
     apply jo [(1, _), (3, _)] ⟨rfl, rfl, trivial⟩
     ·
      intro K60
      refine spA (i := 56) G (fun h56 => ?_) (fun h56 => ?_)
      ·
       have p56 := of_decide_eq_true h56
       exact gY G G G<|fa G fld_24_0 G<|gY G G G<|ldB 0 G G one_3 G G<|gY G G G<|neI G G G<|pkT G G G<|jA K60 h56 ⟨G, G, trivial⟩ Sr
      ·
       exact gS (g := [_, _, _]) G<|pkF G G G<|jA0 K60 h56 ⟨G, G, trivial⟩ Sr
     refine mv G G ?_
     apply jo [(1, _)] ⟨rfl, trivial⟩
     ·
      intro K67
      refine spA (i := 61) G (fun h61 => ?_) (fun h61 => ?_)
      ·
       exact gY G G G<|fa G fld_24_5 G<|gY G G G<|ldB 0 G G one_3 G G<|gY G G G<|fa G fld_24_6 G<|gY G G G<|ldB 0 G G one_3 G G<|gY G G G<|cfv (pwhose_c _ _ w47.2.2.2.2.2.1 w47.2.2.2.2.2.2) ok_190 G Sn G<|pkT G G G<|jA K67 h61 ⟨G, trivial⟩ Sr
      ·
       exact gS (g := [_, _, _, _, _]) G<|pkF G G G<|jA0 K67 h61 ⟨G, trivial⟩ Sr
     refine mv G G ?_
     apply jo [(1, _)] ⟨rfl, trivial⟩
     ·
      intro K73
      refine spA (i := 68) G (fun h68 => ?_) (fun h68 => ?_)
      ·
       exact gY G G G<|faP (α := TChart) (β := List TPlace) 3 (fun x : TChart => x.fPlaces) G G fld_27_1 pChart_1 G fun v69 => gY G G G<|ldL 0 G G one_22 G fun v70 => gY G G G<|cfv (epoch_c _ _ (by assumption)) ok_172 G (Sc 0 G Sn) G<|gY G G G<|ltI G G G<|pkT G G G<|jA K73 h68 ⟨G, trivial⟩ (SubD.tail (SubD.tail Sr))
      ·
       exact gS (g := [_, _, _, _]) G<|pkF G G G<|jA0 K73 h68 ⟨G, trivial⟩ Sr
     refine mv G G ?_
     apply jo [] trivial
     ·
      intro K81
      refine spA (i := 74) G (fun h74 => ?_) (fun h74 => ?_)
      ·
       refine gY G G G<|ldS 3 G G row_27 G fun q75 w75 => ?_
       obtain ⟨q75_0, q75_1⟩ := q75
       refine gY G G G<|cfv (splits_c _ _ _ w75 (by assumption) (by assumption)) ok_191 G (Sc 1 G (Sc 2 G Sn)) G<|gY G G G<|mv G G ?_
       apply jo [(74, _)] ⟨rfl, trivial⟩
       ·
        intro K80
        refine spO (i := 77) G (fun h77 => ?_) (fun h77 => ?_)
        ·
         refine gY G G G<|ldS 6 G G row_27 G fun q78 w78 => ?_
         obtain ⟨q78_0, q78_1⟩ := q78
         exact gY G G G<|cfv (merges_c _ _ _ w78 (by assumption)) ok_192 G (Sc 1 G (Sc 2 G Sn)) G<|gY G G G<|pkF G G G<|jR K80 h77 ⟨G, trivial⟩ (SubD.tail (SubD.tail (SubD.tail Sr)))
        ·
         exact gS (g := [_, _]) G<|gY G G G<|pkT G G G<|jR0 K80 h77 ⟨G, trivial⟩ Sr
       exact pkT G G G<|jA K81 h74 trivial (SubD.tail (SubD.tail (SubD.tail Sr)))
      ·
       exact gS (g := [_, _, _, _, _, _]) G<|pkF G G G<|jA0 K81 h74 trivial Sr
     refine asg G G<|nl<|nx<|rt<|dpQ ?_
     exact fR1 () G G (by rw [planP, e31, e41, e45, e50]; try rfl) G Sn

theorem pcheck_c (c : TChart) (c_0 c_1 : Value) (h_c : c.wf) : FnV Tryz.prog 58 [.agg (cChart c c_0 c_1).toArray] [⟨c_0, c.fPlaces⟩, ⟨c_1, c.fMarks⟩] (.int .i64 (errF (planP c))) := by
 refine Fnc.proof Tryz.func58 G 6 G G fun X w => sq<|rg<|bx G G G fun b1 => asg G G<|nl<|nx<|sq<|sq<|rg<|ldM 0 (cChart c c_0 c_1) G G row_27 G G<|cfv (pright_c _ _ _ h_c) ok_123 G (Sc 0 G (Sc 1 G Sn)) G<|nt G G<|nl ?_
 refine nx<|cdB G (fun h5 => ?_) (fun h5 => ?_)
 ·
  refine sq<|rg<|asg G G<|nl<|nx<|rt<|tR<|dpQ ?_
  exact fR1 () G G (by rw [errF, if_neg (by have q := h5; rw [Bool.not_eq_true'] at q; rw [q]; decide)]) G Sn
 ·
  refine sk<|nx<|sq<|rg<|asg G G<|nl<|nx<|rt<|dpQ ?_
  exact fR1 () G G (by rw [errF, if_pos (by have q := h5; rw [Bool.not_eq_false'] at q; exact q)]) G Sn
end Go.Proofs.YtmpoffijcfaalaaGreat

/- Walks, written by specs2.py. -/

namespace Go.Proofs.YtmpoffijcfaalaaGreat
open Go.Eng Go.YtmpoffijcfaalaaGreat
set_option maxHeartbeats 1000000

end Go.Proofs.YtmpoffijcfaalaaGreat

/- Closed facts on the program: written by specs3.py. -/

namespace Go.Proofs.YtmpoffijcfaalaaGreat.Pen
open Go.Eng

theorem app_25 : AppTy Tryz.prog 25 122 7 56 := AppTy.mk Tryz.underlying25 (by kernel_rfl) (by decide)
theorem app_297 : AppTy Tryz.prog 297 243 1 8 := AppTy.mk Tryz.underlying297 (by kernel_rfl) (by decide)
theorem app_348 : AppTy Tryz.prog 348 247 1 8 := AppTy.mk Tryz.underlying348 (by kernel_rfl) (by decide)
theorem app_50 : AppTy Tryz.prog 50 70 10 104 := AppTy.mk Tryz.underlying50 (by kernel_rfl) (by decide)
theorem app_51 : AppTy Tryz.prog 51 108 11 104 := AppTy.mk Tryz.underlying51 (by kernel_rfl) (by decide)
theorem app_52 : AppTy Tryz.prog 52 126 8 80 := AppTy.mk Tryz.underlying52 (by kernel_rfl) (by decide)
theorem app_53 : AppTy Tryz.prog 53 129 2 16 := AppTy.mk Tryz.underlying53 (by kernel_rfl) (by decide)
theorem app_66 : AppTy Tryz.prog 66 165 4 32 := AppTy.mk Tryz.underlying66 (by kernel_rfl) (by decide)
theorem fld_108_0 : FieldAt Tryz.prog 108 0 0 := FieldAt.mk Tryz.underlying108 rfl (by kernel_rfl) rfl
theorem fld_108_1 : FieldAt Tryz.prog 108 1 1 := FieldAt.mk Tryz.underlying108 rfl (by kernel_rfl) rfl
theorem fld_108_2 : FieldAt Tryz.prog 108 2 2 := FieldAt.mk Tryz.underlying108 rfl (by kernel_rfl) rfl
theorem fld_108_3 : FieldAt Tryz.prog 108 3 3 := FieldAt.mk Tryz.underlying108 rfl (by kernel_rfl) rfl
theorem fld_108_4 : FieldAt Tryz.prog 108 4 4 := FieldAt.mk Tryz.underlying108 rfl (by kernel_rfl) rfl
theorem fld_108_5 : FieldAt Tryz.prog 108 5 5 := FieldAt.mk Tryz.underlying108 rfl (by kernel_rfl) rfl
theorem fld_120_0 : FieldAt Tryz.prog 120 0 0 := FieldAt.mk Tryz.underlying120 rfl (by kernel_rfl) rfl
theorem fld_120_1 : FieldAt Tryz.prog 120 1 1 := FieldAt.mk Tryz.underlying120 rfl (by kernel_rfl) rfl
theorem fld_120_2 : FieldAt Tryz.prog 120 2 2 := FieldAt.mk Tryz.underlying120 rfl (by kernel_rfl) rfl
theorem fld_120_3 : FieldAt Tryz.prog 120 3 3 := FieldAt.mk Tryz.underlying120 rfl (by kernel_rfl) rfl
theorem fld_122_0 : FieldAt Tryz.prog 122 0 0 := FieldAt.mk Tryz.underlying122 rfl (by kernel_rfl) rfl
theorem fld_122_1 : FieldAt Tryz.prog 122 1 1 := FieldAt.mk Tryz.underlying122 rfl (by kernel_rfl) rfl
theorem fld_122_2 : FieldAt Tryz.prog 122 2 2 := FieldAt.mk Tryz.underlying122 rfl (by kernel_rfl) rfl
theorem fld_122_3 : FieldAt Tryz.prog 122 3 3 := FieldAt.mk Tryz.underlying122 rfl (by kernel_rfl) rfl
theorem fld_126_0 : FieldAt Tryz.prog 126 0 0 := FieldAt.mk Tryz.underlying126 rfl (by kernel_rfl) rfl
theorem fld_126_1 : FieldAt Tryz.prog 126 1 1 := FieldAt.mk Tryz.underlying126 rfl (by kernel_rfl) rfl
theorem fld_126_2 : FieldAt Tryz.prog 126 2 2 := FieldAt.mk Tryz.underlying126 rfl (by kernel_rfl) rfl
theorem fld_126_3 : FieldAt Tryz.prog 126 3 3 := FieldAt.mk Tryz.underlying126 rfl (by kernel_rfl) rfl
theorem fld_126_4 : FieldAt Tryz.prog 126 4 4 := FieldAt.mk Tryz.underlying126 rfl (by kernel_rfl) rfl
theorem fld_126_5 : FieldAt Tryz.prog 126 5 5 := FieldAt.mk Tryz.underlying126 rfl (by kernel_rfl) rfl
theorem fld_126_6 : FieldAt Tryz.prog 126 6 6 := FieldAt.mk Tryz.underlying126 rfl (by kernel_rfl) rfl
theorem fld_126_7 : FieldAt Tryz.prog 126 7 7 := FieldAt.mk Tryz.underlying126 rfl (by kernel_rfl) rfl
theorem fld_129_0 : FieldAt Tryz.prog 129 0 0 := FieldAt.mk Tryz.underlying129 rfl (by kernel_rfl) rfl
theorem fld_129_1 : FieldAt Tryz.prog 129 1 1 := FieldAt.mk Tryz.underlying129 rfl (by kernel_rfl) rfl
theorem fld_165_0 : FieldAt Tryz.prog 165 0 0 := FieldAt.mk Tryz.underlying165 rfl (by kernel_rfl) rfl
theorem fld_165_1 : FieldAt Tryz.prog 165 1 1 := FieldAt.mk Tryz.underlying165 rfl (by kernel_rfl) rfl
theorem fld_165_2 : FieldAt Tryz.prog 165 2 2 := FieldAt.mk Tryz.underlying165 rfl (by kernel_rfl) rfl
theorem fld_165_3 : FieldAt Tryz.prog 165 3 3 := FieldAt.mk Tryz.underlying165 rfl (by kernel_rfl) rfl
theorem fld_24_0 : FieldAt Tryz.prog 24 0 0 := FieldAt.mk Tryz.underlying24 rfl (by kernel_rfl) rfl
theorem fld_24_1 : FieldAt Tryz.prog 24 1 1 := FieldAt.mk Tryz.underlying24 rfl (by kernel_rfl) rfl
theorem fld_24_2 : FieldAt Tryz.prog 24 2 2 := FieldAt.mk Tryz.underlying24 rfl (by kernel_rfl) rfl
theorem fld_24_3 : FieldAt Tryz.prog 24 3 3 := FieldAt.mk Tryz.underlying24 rfl (by kernel_rfl) rfl
theorem fld_24_4 : FieldAt Tryz.prog 24 4 4 := FieldAt.mk Tryz.underlying24 rfl (by kernel_rfl) rfl
theorem fld_24_5 : FieldAt Tryz.prog 24 5 5 := FieldAt.mk Tryz.underlying24 rfl (by kernel_rfl) rfl
theorem fld_24_6 : FieldAt Tryz.prog 24 6 6 := FieldAt.mk Tryz.underlying24 rfl (by kernel_rfl) rfl
theorem fld_314_0 : FieldAt Tryz.prog 314 0 0 := FieldAt.mk Tryz.underlying314 rfl (by kernel_rfl) rfl
theorem fld_314_3 : FieldAt Tryz.prog 314 3 3 := FieldAt.mk Tryz.underlying314 rfl (by kernel_rfl) rfl
theorem fld_34_0 : FieldAt Tryz.prog 34 0 0 := FieldAt.mk Tryz.underlying34 rfl (by kernel_rfl) rfl
theorem fld_34_1 : FieldAt Tryz.prog 34 1 1 := FieldAt.mk Tryz.underlying34 rfl (by kernel_rfl) rfl
theorem fld_34_2 : FieldAt Tryz.prog 34 2 2 := FieldAt.mk Tryz.underlying34 rfl (by kernel_rfl) rfl
theorem fld_34_3 : FieldAt Tryz.prog 34 3 3 := FieldAt.mk Tryz.underlying34 rfl (by kernel_rfl) rfl
theorem fld_34_4 : FieldAt Tryz.prog 34 4 4 := FieldAt.mk Tryz.underlying34 rfl (by kernel_rfl) rfl
theorem fld_34_5 : FieldAt Tryz.prog 34 5 5 := FieldAt.mk Tryz.underlying34 rfl (by kernel_rfl) rfl
theorem fld_55_0 : FieldAt Tryz.prog 55 0 0 := FieldAt.mk Tryz.underlying55 rfl (by kernel_rfl) rfl
theorem fld_55_1 : FieldAt Tryz.prog 55 1 1 := FieldAt.mk Tryz.underlying55 rfl (by kernel_rfl) rfl
theorem fld_55_10 : FieldAt Tryz.prog 55 10 10 := FieldAt.mk Tryz.underlying55 rfl (by kernel_rfl) rfl
theorem fld_55_11 : FieldAt Tryz.prog 55 11 11 := FieldAt.mk Tryz.underlying55 rfl (by kernel_rfl) rfl
theorem fld_55_12 : FieldAt Tryz.prog 55 12 18 := FieldAt.mk Tryz.underlying55 rfl (by kernel_rfl) rfl
theorem fld_55_13 : FieldAt Tryz.prog 55 13 25 := FieldAt.mk Tryz.underlying55 rfl (by kernel_rfl) rfl
theorem fld_55_14 : FieldAt Tryz.prog 55 14 26 := FieldAt.mk Tryz.underlying55 rfl (by kernel_rfl) rfl
theorem fld_55_15 : FieldAt Tryz.prog 55 15 27 := FieldAt.mk Tryz.underlying55 rfl (by kernel_rfl) rfl
theorem fld_55_16 : FieldAt Tryz.prog 55 16 28 := FieldAt.mk Tryz.underlying55 rfl (by kernel_rfl) rfl
theorem fld_55_2 : FieldAt Tryz.prog 55 2 2 := FieldAt.mk Tryz.underlying55 rfl (by kernel_rfl) rfl
theorem fld_55_3 : FieldAt Tryz.prog 55 3 3 := FieldAt.mk Tryz.underlying55 rfl (by kernel_rfl) rfl
theorem fld_55_4 : FieldAt Tryz.prog 55 4 4 := FieldAt.mk Tryz.underlying55 rfl (by kernel_rfl) rfl
theorem fld_55_5 : FieldAt Tryz.prog 55 5 5 := FieldAt.mk Tryz.underlying55 rfl (by kernel_rfl) rfl
theorem fld_55_6 : FieldAt Tryz.prog 55 6 6 := FieldAt.mk Tryz.underlying55 rfl (by kernel_rfl) rfl
theorem fld_55_7 : FieldAt Tryz.prog 55 7 7 := FieldAt.mk Tryz.underlying55 rfl (by kernel_rfl) rfl
theorem fld_55_8 : FieldAt Tryz.prog 55 8 8 := FieldAt.mk Tryz.underlying55 rfl (by kernel_rfl) rfl
theorem fld_55_9 : FieldAt Tryz.prog 55 9 9 := FieldAt.mk Tryz.underlying55 rfl (by kernel_rfl) rfl
theorem fld_65_0 : FieldAt Tryz.prog 65 0 0 := FieldAt.mk Tryz.underlying65 rfl (by kernel_rfl) rfl
theorem fld_65_1 : FieldAt Tryz.prog 65 1 1 := FieldAt.mk Tryz.underlying65 rfl (by kernel_rfl) rfl
theorem fld_68_0 : FieldAt Tryz.prog 68 0 0 := FieldAt.mk Tryz.underlying68 rfl (by kernel_rfl) rfl
theorem fld_68_1 : FieldAt Tryz.prog 68 1 1 := FieldAt.mk Tryz.underlying68 rfl (by kernel_rfl) rfl
theorem fld_68_2 : FieldAt Tryz.prog 68 2 2 := FieldAt.mk Tryz.underlying68 rfl (by kernel_rfl) rfl
theorem fld_68_3 : FieldAt Tryz.prog 68 3 3 := FieldAt.mk Tryz.underlying68 rfl (by kernel_rfl) rfl
theorem fld_70_0 : FieldAt Tryz.prog 70 0 0 := FieldAt.mk Tryz.underlying70 rfl (by kernel_rfl) rfl
theorem fld_70_1 : FieldAt Tryz.prog 70 1 1 := FieldAt.mk Tryz.underlying70 rfl (by kernel_rfl) rfl
theorem fld_70_2 : FieldAt Tryz.prog 70 2 3 := FieldAt.mk Tryz.underlying70 rfl (by kernel_rfl) rfl
theorem fld_70_3 : FieldAt Tryz.prog 70 3 4 := FieldAt.mk Tryz.underlying70 rfl (by kernel_rfl) rfl
theorem fld_70_4 : FieldAt Tryz.prog 70 4 5 := FieldAt.mk Tryz.underlying70 rfl (by kernel_rfl) rfl
theorem fld_70_5 : FieldAt Tryz.prog 70 5 6 := FieldAt.mk Tryz.underlying70 rfl (by kernel_rfl) rfl
theorem mixed : Tryz.prog.follows .mixedOrders = true := by kernel_rfl
theorem ok_214 : FnOk Tryz.prog 214 := ⟨⟨_, Tryz.func214, by kernel_rfl, rfl⟩⟩
theorem ok_215 : FnOk Tryz.prog 215 := ⟨⟨_, Tryz.func215, by kernel_rfl, rfl⟩⟩
theorem ok_216 : FnOk Tryz.prog 216 := ⟨⟨_, Tryz.func216, by kernel_rfl, rfl⟩⟩
theorem ok_259 : FnOk Tryz.prog 259 := ⟨⟨_, Tryz.func259, by kernel_rfl, rfl⟩⟩
theorem ok_260 : FnOk Tryz.prog 260 := ⟨⟨_, Tryz.func260, by kernel_rfl, rfl⟩⟩
theorem ok_261 : FnOk Tryz.prog 261 := ⟨⟨_, Tryz.func261, by kernel_rfl, rfl⟩⟩
theorem ok_262 : FnOk Tryz.prog 262 := ⟨⟨_, Tryz.func262, by kernel_rfl, rfl⟩⟩
theorem ok_263 : FnOk Tryz.prog 263 := ⟨⟨_, Tryz.func263, by kernel_rfl, rfl⟩⟩
theorem ok_264 : FnOk Tryz.prog 264 := ⟨⟨_, Tryz.func264, by kernel_rfl, rfl⟩⟩
theorem ok_265 : FnOk Tryz.prog 265 := ⟨⟨_, Tryz.func265, by kernel_rfl, rfl⟩⟩
theorem ok_266 : FnOk Tryz.prog 266 := ⟨⟨_, Tryz.func266, by kernel_rfl, rfl⟩⟩
theorem ok_267 : FnOk Tryz.prog 267 := ⟨⟨_, Tryz.func267, by kernel_rfl, rfl⟩⟩
theorem ok_268 : FnOk Tryz.prog 268 := ⟨⟨_, Tryz.func268, by kernel_rfl, rfl⟩⟩
theorem ok_269 : FnOk Tryz.prog 269 := ⟨⟨_, Tryz.func269, by kernel_rfl, rfl⟩⟩
theorem ok_270 : FnOk Tryz.prog 270 := ⟨⟨_, Tryz.func270, by kernel_rfl, rfl⟩⟩
theorem ok_271 : FnOk Tryz.prog 271 := ⟨⟨_, Tryz.func271, by kernel_rfl, rfl⟩⟩
theorem ok_272 : FnOk Tryz.prog 272 := ⟨⟨_, Tryz.func272, by kernel_rfl, rfl⟩⟩
theorem ok_273 : FnOk Tryz.prog 273 := ⟨⟨_, Tryz.func273, by kernel_rfl, rfl⟩⟩
theorem ok_274 : FnOk Tryz.prog 274 := ⟨⟨_, Tryz.func274, by kernel_rfl, rfl⟩⟩
theorem ok_275 : FnOk Tryz.prog 275 := ⟨⟨_, Tryz.func275, by kernel_rfl, rfl⟩⟩
theorem ok_295 : FnOk Tryz.prog 295 := ⟨⟨_, Tryz.func295, by kernel_rfl, rfl⟩⟩
theorem ok_298 : FnOk Tryz.prog 298 := ⟨⟨_, Tryz.func298, by kernel_rfl, rfl⟩⟩
theorem ok_299 : FnOk Tryz.prog 299 := ⟨⟨_, Tryz.func299, by kernel_rfl, rfl⟩⟩
theorem ok_301 : FnOk Tryz.prog 301 := ⟨⟨_, Tryz.func301, by kernel_rfl, rfl⟩⟩
theorem ok_302 : FnOk Tryz.prog 302 := ⟨⟨_, Tryz.func302, by kernel_rfl, rfl⟩⟩
theorem ok_303 : FnOk Tryz.prog 303 := ⟨⟨_, Tryz.func303, by kernel_rfl, rfl⟩⟩
theorem ok_304 : FnOk Tryz.prog 304 := ⟨⟨_, Tryz.func304, by kernel_rfl, rfl⟩⟩
theorem ok_305 : FnOk Tryz.prog 305 := ⟨⟨_, Tryz.func305, by kernel_rfl, rfl⟩⟩
theorem ok_306 : FnOk Tryz.prog 306 := ⟨⟨_, Tryz.func306, by kernel_rfl, rfl⟩⟩
theorem ok_311 : FnOk Tryz.prog 311 := ⟨⟨_, Tryz.func311, by kernel_rfl, rfl⟩⟩
theorem one_243 : OneTy Tryz.prog 243 := ⟨⟨_, Tryz.underlying243, rfl⟩, by kernel_rfl⟩
theorem one_247 : OneTy Tryz.prog 247 := ⟨⟨_, Tryz.underlying247, rfl⟩, by kernel_rfl⟩
theorem one_25 : OneTy Tryz.prog 25 := ⟨⟨_, Tryz.underlying25, rfl⟩, by kernel_rfl⟩
theorem one_3 : OneTy Tryz.prog 3 := ⟨⟨_, Tryz.underlying3, rfl⟩, by kernel_rfl⟩
theorem one_311 : OneTy Tryz.prog 311 := ⟨⟨_, Tryz.underlying311, rfl⟩, by kernel_rfl⟩
theorem one_35 : OneTy Tryz.prog 35 := ⟨⟨_, Tryz.underlying35, rfl⟩, by kernel_rfl⟩
theorem one_38 : OneTy Tryz.prog 38 := ⟨⟨_, Tryz.underlying38, rfl⟩, by kernel_rfl⟩
theorem one_4 : OneTy Tryz.prog 4 := ⟨⟨_, Tryz.underlying4, rfl⟩, by kernel_rfl⟩
theorem one_50 : OneTy Tryz.prog 50 := ⟨⟨_, Tryz.underlying50, rfl⟩, by kernel_rfl⟩
theorem one_51 : OneTy Tryz.prog 51 := ⟨⟨_, Tryz.underlying51, rfl⟩, by kernel_rfl⟩
theorem one_52 : OneTy Tryz.prog 52 := ⟨⟨_, Tryz.underlying52, rfl⟩, by kernel_rfl⟩
theorem one_53 : OneTy Tryz.prog 53 := ⟨⟨_, Tryz.underlying53, rfl⟩, by kernel_rfl⟩
theorem one_66 : OneTy Tryz.prog 66 := ⟨⟨_, Tryz.underlying66, rfl⟩, by kernel_rfl⟩
theorem one_9 : OneTy Tryz.prog 9 := ⟨⟨_, Tryz.underlying9, rfl⟩, by kernel_rfl⟩
theorem row_108 : RowTy Tryz.prog 108 11 := ⟨⟨_, Tryz.underlying108, rfl⟩, by kernel_rfl⟩
theorem row_122 : RowTy Tryz.prog 122 7 := ⟨⟨_, Tryz.underlying122, rfl⟩, by kernel_rfl⟩
theorem row_126 : RowTy Tryz.prog 126 8 := ⟨⟨_, Tryz.underlying126, rfl⟩, by kernel_rfl⟩
theorem row_129 : RowTy Tryz.prog 129 2 := ⟨⟨_, Tryz.underlying129, rfl⟩, by kernel_rfl⟩
theorem row_165 : RowTy Tryz.prog 165 4 := ⟨⟨_, Tryz.underlying165, rfl⟩, by kernel_rfl⟩
theorem row_55 : RowTy Tryz.prog 55 29 := ⟨⟨_, Tryz.underlying55, rfl⟩, by kernel_rfl⟩
theorem row_70 : RowTy Tryz.prog 70 10 := ⟨⟨_, Tryz.underlying70, rfl⟩, by kernel_rfl⟩
theorem slt_297 : SliceTy Tryz.prog 297 243 1 := ⟨Tryz.underlying297, by kernel_rfl⟩
theorem slt_348 : SliceTy Tryz.prog 348 247 1 := ⟨Tryz.underlying348, by kernel_rfl⟩
theorem zero_108 : ZeroOf Tryz.prog 108 [.int .i64 0, .int .i64 0, .int .i64 0, .int .i64 0, .int .i64 0, .int .i64 0, .string ByteArray.empty, .string ByteArray.empty, .int .i64 0, .int .i64 0, .int .i64 0] := ZeroOf.mk (by kernel_rfl)
theorem zero_122 : ZeroOf Tryz.prog 122 [.int .i64 0, .int .i64 0, .bool false, .int .i64 0, .int .i64 0, .int .i64 0, .int .i64 0] := ZeroOf.mk (by kernel_rfl)
theorem zero_126 : ZeroOf Tryz.prog 126 [.int .i64 0, .int .i64 0, .string ByteArray.empty, .string ByteArray.empty, .int .i64 0, .int .i64 0, .int .i64 0, .int .i64 0] := ZeroOf.mk (by kernel_rfl)
theorem zero_129 : ZeroOf Tryz.prog 129 [.int .i64 0, .int .i64 0] := ZeroOf.mk (by kernel_rfl)
theorem zero_165 : ZeroOf Tryz.prog 165 [.int .i64 0, .int .i64 0, .int .i64 0, .int .i64 0] := ZeroOf.mk (by kernel_rfl)
theorem zero_3 : ZeroOf Tryz.prog 3 [.int .i64 0] := ZeroOf.mk (by kernel_rfl)
theorem zero_35 : ZeroOf Tryz.prog 35 [.slice none 0 0] := ZeroOf.mk (by kernel_rfl)
theorem zero_55 : ZeroOf Tryz.prog 55 [.int .i64 0, .int .i64 0, .bool false, .string ByteArray.empty, .string ByteArray.empty, .int .i64 0, .slice none 0 0, .slice none 0 0, .slice none 0 0, .slice none 0 0, .slice none 0 0, .int .i64 0, .int .i64 0, .int .i64 0, .string ByteArray.empty, .string ByteArray.empty, .int .i64 0, .int .i64 0, .int .i64 0, .int .i64 0, .int .i64 0, .string ByteArray.empty, .string ByteArray.empty, .int .i64 0, .int .i64 0, .slice none 0 0, .int .i64 0, .int .i64 0, .int .i64 0] := ZeroOf.mk (by kernel_rfl)
theorem zero_70 : ZeroOf Tryz.prog 70 [.string ByteArray.empty, .int .i64 0, .int .i64 0, .int .i64 0, .int .i64 0, .slice none 0 0, .int .i64 0, .int .i64 0, .int .i64 0, .int .i64 0] := ZeroOf.mk (by kernel_rfl)
end Go.Proofs.YtmpoffijcfaalaaGreat.Pen
