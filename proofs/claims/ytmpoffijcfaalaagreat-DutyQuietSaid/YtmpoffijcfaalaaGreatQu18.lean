/- Part 18 of the proof of dutyQuiet_holds: DutW9, DutW10, CodecA. Every text below begins with what it shows. -/
import Derived.Test.YtmpoffijcfaalaaGreatQu17

/- Walks, written by specs2.py. -/

namespace Go.Proofs.YtmpoffijcfaalaaGreat
open Go.Eng Go.YtmpoffijcfaalaaGreat
set_option maxHeartbeats 1000000

theorem pright1_c (x : TPlace) (v1 : Value) (c : TChart) (h_x : x.wf) : FnV Tryz.prog 189 [.agg (cPlace x).toArray, v1] [⟨v1, (⟨c⟩ : Pt TChart)⟩] (.bool (decide (x.fGroup ≥ c.fNext))) := by
 refine Fnc.proof Tryz.func189 G 9 G G fun X w => sq<|rg<|bx G G G fun b2 => asg G G<|nl<|nx<|sq<|rg<|fa G fld_90_0 G<|ldB 0 G G one_3 G G<|faP (α := TChart) (β := Int) 0 (fun x : TChart => x.fNext) G G fld_27_2 pChart_2 G fun v6 => ldV 0 G G one_3 G fun w7 => ?_
 refine geI G G G<|asg G G<|nl<|nx<|rt<|dpQ ?_
 exact fR1 () G G (by rfl) G Sn

theorem containsPlace_c (v_l : Value) (l : List TPlace) (f : Nat) (caps : Array Value) (A : List Atom) (p : TPlace → Bool) (hok : FnOk Tryz.prog f) (hcl : ∀ x : TPlace, x.wf → FnV Tryz.prog f (.agg (cPlace x).toArray :: caps.toList) A (.bool (p x))) : FnV Tryz.prog 188 [v_l, .func (.func f) #[] caps] (⟨v_l, l⟩ :: A) (.bool (decide (placeI (firstI l.length (fun j => p (l.getD j default))) ≥ 0))) := by
 refine Fnc.proof Tryz.func188 G 9 G G fun X w => sq<|rg<|asg G G<|nl<|nx<|sq<|rg<|mv G G<|mv G G<|cfv (indexPlace_c _ _ f caps A p hok hcl) ok_244 G (Sc 0 G (SubD.tail Sr)) G<|geI G G G<|asg G G<|nl ?_
 refine nx<|rt ?_
 exact fR1 () G G (by rfl) G Sn

theorem splits_c (c : TChart) (c_0 c_1 : Value) (h_c : c.wf) (hp : 0 < c.fPlaces.length) (hn : 2 ≤ c.fNext) : FnV Tryz.prog 191 [.agg (cChart c c_0 c_1).toArray] [⟨c_0, c.fPlaces⟩, ⟨c_1, c.fMarks⟩] (.bool (splitsP c)) := by
 refine Fnc.proof Tryz.func191 G 75 G G fun X w => ?_
 obtain ⟨nx1, nx2⟩ := id h_c.2.2.1
 have hfl := findP_lt (k := c.fPlan.fLo) hp
 refine gtC (q := c.fPlaces.length ≤ 9223372036854775807) (fun S w h => list_len (h _ (List.mem_of_getElem? (i := 0) G))) fun hlen => sq<|rg<|bx G G G fun b1 => asg G G<|nl<|nx<|sq<|rg<|fa G fld_27_4 G<|ldM 0 (cPlan c.fPlan) G G row_24 G G<|al zero_24 G fun b3 => stW 0 (us := (cPlan c.fPlan)) G G G row_24 G G<|nl ?_
 refine nx<|sq<|sq<|rg<|fa G fld_27_1 G<|ldB 1 G G one_22 G G<|fa G fld_24_2 G<|ldB 0 G G one_3 G G<|cfv (of_c _ _ _ h_c.2.2.2.2.1.2.2.1) ok_173 G (Sc 0 G Sn) G<|mv G G<|xt G G G<|xt G G G<|asg G G<|asg G G ?_
 refine nl<|nx<|sq<|rg<|mv G G<|mv G G ?_
 apply jo [(1, _), (3, _)] ⟨rfl, rfl, trivial⟩
 ·
  intro K26
  refine spO (i := 19) G (fun h19 => ?_) (fun h19 => ?_)
  ·
   have p19 := h19
   try simp only [Bool.or_eq_false_iff, Bool.and_eq_true, decide_eq_true_eq, decide_eq_false_iff_not, Bool.not_eq_true', Bool.not_eq_false'] at p19
   exact gY G G G<|fa G fld_24_2 G<|gY G G G<|ldB 0 G G one_3 G G<|gY G G G<|fa G fld_27_2 G<|gY G G G<|ldB 1 G G one_3 G G<|gY G G G<|sbI G G (inI (by omega) (by omega)) G<|gY G G G<|neI G G G<|pkF G G G<|jR K26 h19 ⟨G, G, trivial⟩ Sr
  ·
   exact gS (g := [_, _, _, _, _, _]) G<|pkT G G G<|jR0 K26 h19 ⟨G, G, trivial⟩ Sr
 refine mv G G ?_
 apply jo [(1, _), (3, _)] ⟨rfl, rfl, trivial⟩
 ·
  intro K32
  refine spO (i := 27) G (fun h27 => ?_) (fun h27 => ?_)
  ·
   exact gY G G G<|fa G fld_27_1 G<|gY G G G<|ldB 1 G G one_22 G G<|gY G G G<|lnP 0 G G Tryz.underlying22 G fun l30 => gY G G G<|geI G G G<|pkF G G G<|jR K32 h27 ⟨G, G, trivial⟩ Sr
  ·
   exact gS (g := [_, _, _, _]) G<|pkT G G G<|jR0 K32 h27 ⟨G, G, trivial⟩ Sr
 refine mv G G ?_
 apply jo [(1, _), (3, _)] ⟨rfl, rfl, trivial⟩
 ·
  intro K37
  refine spO (i := 33) G (fun h33 => ?_) (fun h33 => ?_)
  ·
   exact gY G G G<|fa G fld_24_3 G<|gY G G G<|ldB 0 G G one_9 G G<|gY G G G<|eqS G G G<|pkF G G G<|jR K37 h33 ⟨G, G, trivial⟩ Sr
  ·
   exact gS (g := [_, _, _]) G<|pkT G G G<|jR0 K37 h33 ⟨G, G, trivial⟩ Sr
 refine mv G G ?_
 apply jo [(1, _), (3, _)] ⟨rfl, rfl, trivial⟩
 ·
  intro K43
  refine spO (i := 38) G (fun h38 => ?_) (fun h38 => ?_)
  ·
   exact gY G G G<|fa G fld_24_3 G<|gY G G G<|ldB 0 G G one_9 G G<|gY G G G<|lnS G Tryz.underlying9 G<|gY G G G<|gtI G G G<|pkF G G G<|jR K43 h38 ⟨G, G, trivial⟩ Sr
  ·
   exact gS (g := [_, _, _, _]) G<|pkT G G G<|jR0 K43 h38 ⟨G, G, trivial⟩ Sr
 refine nl<|nx<|cdB G (fun h43 => ?_) (fun h43 => ?_)
 ·
  have e43 : (split1 c) = true := h43
  refine sq<|rg<|asg G G<|nl<|nx<|rt<|tR<|dpQ<|dpQ ?_
  exact fR1 () G G (by rw [splitsP, e43]; try rfl) G Sn
 ·
  have e43 : (split1 c) = false := h43
  refine sk<|nx<|sq<|rg<|fa G fld_27_1 G<|ldB 1 G G one_22 G G<|fa G fld_24_3 G<|ldB 0 G G one_9 G G<|cfv (find_c _ _ _) ok_35 G (Sc 0 G Sn) G<|asg G G<|nl<|nx<|sq<|rg ?_
  refine fa G fld_27_1 G<|ldB 1 G G one_22 G G<|mv G G<|ixP 0 G G G slt_22 (by omega) (getDE (d := default) (by omega)) G fun v52 => ldS 0 G G row_90 G fun q53 w53 => ?_
  refine al zero_90 G fun b7 => stW 0 (us := (cPlace ((c.fPlaces.getD (findP c.fPlaces c.fPlan.fLo) default)))) G G G row_90 G G<|nl<|nx<|sq<|rgQ mixed (by kernel_rfl)<|fa G fld_24_1 G<|ldB 1 G G one_3 G G<|fa G fld_90_0 G<|ldB 0 G G one_3 G G<|eqI G G G<|mv G G ?_
  apply jo [(1, _), (3, _), (6, _)] ⟨rfl, rfl, rfl, trivial⟩
  ·
   intro K65
   refine spA (i := 59) G (fun h59 => ?_) (fun h59 => ?_)
   ·
    have p59 := of_decide_eq_true h59
    exact gY G G G<|fa G fld_24_3 G<|gY G G G<|ldB 1 G G one_9 G G<|gY G G G<|fa G fld_90_1 G<|gY G G G<|ldB 0 G G one_9 G G<|gY G G G<|neS G G G<|pkT G G G<|jA K65 h59 ⟨G, G, G, trivial⟩ Sr
   ·
    exact gS (g := [_, _, _, _, _]) G<|pkF G G G<|jA0 K65 h59 ⟨G, G, G, trivial⟩ Sr
  refine mv G G ?_
  apply jo [] trivial
  ·
   intro K74
   refine spA (i := 66) G (fun h66 => ?_) (fun h66 => ?_)
   ·
    refine gY G G G<|fa G fld_24_4 G<|gY G G G<|ldB 1 G G one_9 G G<|gY G G G<|fa G fld_27_1 G<|gY G G G<|ldB 2 G G one_22 G G<|gY G G G<|mv G G<|gY G G G<|cfq (end_c _ _ _ (inI (by omega) (by omega))) ok_245 G (Sc 2 G Sn) G<|gY G G G<|eqS G G G ?_
    exact pkT G G G<|jA K74 h66 trivial Sr
   ·
    exact gS (g := [_, _, _, _, _, _, _]) G<|pkF G G G<|jA0 K74 h66 trivial Sr
  refine asg G G<|nlQ<|nx<|rt<|dpQ<|dpQ<|dpQ ?_
  exact fR1 () G G (by rw [splitsP, e43]; try rfl) G Sn

theorem merges_c (c : TChart) (c_0 c_1 : Value) (h_c : c.wf) (hp : 0 < c.fPlaces.length) : FnV Tryz.prog 192 [.agg (cChart c c_0 c_1).toArray] [⟨c_0, c.fPlaces⟩, ⟨c_1, c.fMarks⟩] (.bool (mergesP c)) := by
 refine Fnc.proof Tryz.func192 G 55 G G fun X w => ?_
 obtain ⟨nx1, nx2⟩ := id h_c.2.2.1
 have hol := ofP_lt (g := c.fPlan.fTo) hp
 refine gtC (q := c.fPlaces.length ≤ 9223372036854775807) (fun S w h => list_len (h _ (List.mem_of_getElem? (i := 0) G))) fun hlen => sq<|rg<|bx G G G fun b1 => asg G G<|nl<|nx<|sq<|rg<|fa G fld_27_4 G<|ldM 0 (cPlan c.fPlan) G G row_24 G G<|al zero_24 G fun b3 => stW 0 (us := (cPlan c.fPlan)) G G G row_24 G G<|nl ?_
 refine nx<|sq<|rg<|fa G fld_27_1 G<|ldB 1 G G one_22 G G<|fa G fld_24_2 G<|ldB 0 G G one_3 G G<|cfv (of_c _ _ _ h_c.2.2.2.2.1.2.2.1) ok_173 G (Sc 0 G Sn) G<|mv G G<|xt G G G<|xt G G G<|asg G G<|asg G G<|nl ?_
 refine nx<|sq<|sq<|rg<|mv G G<|nt G G<|mv G G ?_
 apply jo [(1, _), (3, _), (4, _)] ⟨rfl, rfl, rfl, trivial⟩
 ·
  intro K26
  refine spO (i := 19) G (fun h19 => ?_) (fun h19 => ?_)
  ·
   have p19 := h19
   try simp only [Bool.or_eq_false_iff, Bool.and_eq_true, decide_eq_true_eq, decide_eq_false_iff_not, Bool.not_eq_true', Bool.not_eq_false'] at p19
   exact gY G G G<|mv G G<|gY G G G<|adI G G (inI (by omega) (by omega)) G<|gY G G G<|fa G fld_27_1 G<|gY G G G<|ldB 1 G G one_22 G G<|gY G G G<|lnP 0 G G Tryz.underlying22 G fun l24 => gY G G G<|geI G G G<|pkF G G G<|jR K26 h19 ⟨G, G, G, trivial⟩ Sr
  ·
   exact gS (g := [_, _, _, _, _, _]) G<|pkT G G G<|jR0 K26 h19 ⟨G, G, G, trivial⟩ Sr
 refine nl<|nx<|cdB G (fun h26 => ?_) (fun h26 => ?_)
 ·
  have e26 : (merge1 c) = true := h26
  refine sq<|rg<|asg G G<|nl<|nx<|rt<|tR<|dpQ<|dpQ ?_
  exact fR1 () G G (by rw [mergesP, e26]; try rfl) G Sn
 ·
  have hq : nxt c < (c.fPlaces.length : Int) := by
   have q := h26
   simp only [Bool.or_eq_false_iff, decide_eq_false_iff_not] at q
   have q2 := q.2
   show (((ofP c.fPlaces c.fPlan.fTo).getD 0 : Nat) : Int) + 1 < _
   omega
  unfold nxt at hq
  have e26 : (merge1 c) = false := h26
  refine sk<|nx<|sq<|rg<|fa G fld_27_1 G<|ldB 1 G G one_22 G G<|mv G G<|adI G G (inI (by omega) (by omega)) G<|ixP 0 G G G slt_22 (by omega) (getDE (d := default) (by omega)) G fun v31 => ldS 0 G G row_90 G fun q32 w32 => ?_
  refine al zero_90 G fun b6 => stW 0 (us := (cPlace ((c.fPlaces.getD (((((ofP c.fPlaces c.fPlan.fTo).getD 0 : Nat) : Int) + 1)).toNat default)))) G G G row_90 G G<|nl<|nx<|sq<|rgQ mixed (by kernel_rfl)<|fa G fld_24_1 G<|ldB 1 G G one_3 G G<|fa G fld_90_0 G<|ldB 0 G G one_3 G G<|eqI G G G<|mv G G ?_
  apply jo [(1, _), (3, _), (4, _)] ⟨rfl, rfl, rfl, trivial⟩
  ·
   intro K44
   refine spA (i := 38) G (fun h38 => ?_) (fun h38 => ?_)
   ·
    have p38 := of_decide_eq_true h38
    exact gY G G G<|fa G fld_24_3 G<|gY G G G<|ldB 1 G G one_9 G G<|gY G G G<|fa G fld_90_1 G<|gY G G G<|ldB 0 G G one_9 G G<|gY G G G<|eqS G G G<|pkT G G G<|jA K44 h38 ⟨G, G, G, trivial⟩ Sr
   ·
    exact gS (g := [_, _, _, _, _]) G<|pkF G G G<|jA0 K44 h38 ⟨G, G, G, trivial⟩ Sr
  refine mv G G ?_
  apply jo [] trivial
  ·
   intro K54
   refine spA (i := 45) G (fun h45 => ?_) (fun h45 => ?_)
   ·
    have p45 := h45
    try simp only [Bool.or_eq_false_iff, Bool.and_eq_true, decide_eq_true_eq, decide_eq_false_iff_not, Bool.not_eq_true', Bool.not_eq_false'] at p45
    refine gY G G G<|fa G fld_24_4 G<|gY G G G<|ldB 1 G G one_9 G G<|gY G G G<|fa G fld_27_1 G<|gY G G G<|ldB 2 G G one_22 G G<|gY G G G<|mv G G<|gY G G G<|adI G G (inI (by omega) (by omega)) G<|gY G G G<|cfq (end_c _ _ _ (inI (by omega) (by omega))) ok_245 G (Sc 2 G Sn) G ?_
    exact gY G G G<|eqS G G G<|pkT G G G<|jA K54 h45 trivial Sr
   ·
    exact gS (g := [_, _, _, _, _, _, _, _]) G<|pkF G G G<|jA0 K54 h45 trivial Sr
  refine asg G G<|nlQ<|nx<|rt<|dpQ<|dpQ<|dpQ ?_
  exact fR1 () G G (by rw [mergesP, e26]; try rfl) G Sn

theorem pright_c (c : TChart) (c_0 c_1 : Value) (h_c : c.wf) : FnV Tryz.prog 123 [.agg (cChart c c_0 c_1).toArray] [⟨c_0, c.fPlaces⟩, ⟨c_1, c.fMarks⟩] (.bool (planP c)) := by
 refine Fnc.proof Tryz.func123 G 82 G G fun X w => sq<|rg<|bx G G G fun b1 => asg G G<|nl<|nx<|sq<|sq<|rg<|fa G fld_27_0 G<|ldB 0 G G one_3 G G<|ltI G G G<|mv G G ?_
 apply jo [(1, _)] ⟨rfl, trivial⟩
 ·
  intro K11
  refine spO (i := 7) G (fun h7 => ?_) (fun h7 => ?_)
  ·
   have p7 := of_decide_eq_false h7
   exact gY G G G<|fa G fld_27_0 G<|gY G G G<|ldB 0 G G one_3 G G<|gY G G G<|gtI G G G<|pkF G G G<|jR K11 h7 ⟨G, trivial⟩ Sr
  ·
   exact gS (g := [_, _, _]) G<|pkT G G G<|jR0 K11 h7 ⟨G, trivial⟩ Sr
 refine mv G G ?_
 apply jo [(1, _)] ⟨rfl, trivial⟩
 ·
  intro K16
  refine spO (i := 12) G (fun h12 => ?_) (fun h12 => ?_)
  ·
   exact gY G G G<|fa G fld_27_3 G<|gY G G G<|ldB 0 G G one_3 G G<|gY G G G<|ltI G G G<|pkF G G G<|jR K16 h12 ⟨G, trivial⟩ Sr
  ·
   exact gS (g := [_, _, _]) G<|pkT G G G<|jR0 K16 h12 ⟨G, trivial⟩ Sr
 refine mv G G ?_
 apply jo [(1, _)] ⟨rfl, trivial⟩
 ·
  intro K21
  refine spO (i := 17) G (fun h17 => ?_) (fun h17 => ?_)
  ·
   exact gY G G G<|fa G fld_27_3 G<|gY G G G<|ldB 0 G G one_3 G G<|gY G G G<|gtI G G G<|pkF G G G<|jR K21 h17 ⟨G, trivial⟩ Sr
  ·
   exact gS (g := [_, _, _]) G<|pkT G G G<|jR0 K21 h17 ⟨G, trivial⟩ Sr
 refine mv G G ?_
 apply jo [(1, _)] ⟨rfl, trivial⟩
 ·
  intro K26
  refine spO (i := 22) G (fun h22 => ?_) (fun h22 => ?_)
  ·
   exact gY G G G<|fa G fld_27_2 G<|gY G G G<|ldB 0 G G one_3 G G<|gY G G G<|ltI G G G<|pkF G G G<|jR K26 h22 ⟨G, trivial⟩ Sr
  ·
   exact gS (g := [_, _, _]) G<|pkT G G G<|jR0 K26 h22 ⟨G, trivial⟩ Sr
 refine mv G G ?_
 apply jo [(1, _)] ⟨rfl, trivial⟩
 ·
  intro K31
  refine spO (i := 27) G (fun h27 => ?_) (fun h27 => ?_)
  ·
   exact gY G G G<|fa G fld_27_2 G<|gY G G G<|ldB 0 G G one_3 G G<|gY G G G<|gtI G G G<|pkF G G G<|jR K31 h27 ⟨G, trivial⟩ Sr
  ·
   exact gS (g := [_, _, _]) G<|pkT G G G<|jR0 K31 h27 ⟨G, trivial⟩ Sr
 refine nl<|nx<|cdB G (fun h31 => ?_) (fun h31 => ?_)
 ·
  have e31 : (plan1 c) = true := h31
  refine sq<|rg<|asg G G<|nl<|nx<|rt<|tR<|dpQ ?_
  exact fR1 () G G (by rw [planP, e31]; try rfl) G Sn
 ·
  have hn : 2 ≤ c.fNext := by
   have q := h31
   simp only [Bool.or_eq_false_iff, decide_eq_false_iff_not] at q
   have := q.1.2
   omega
  have e31 : (plan1 c) = false := h31
  refine sk<|nx<|sq<|sq<|rg<|fa G fld_27_1 G<|ldB 0 G G one_22 G G<|cfv (rcheck_c _ _) ok_187 G (Sc 0 G Sn) G<|neI G G G<|mv G G ?_
  apply jo [(1, _)] ⟨rfl, trivial⟩
  ·
   intro K41
   refine spO (i := 36) G (fun h36 => ?_) (fun h36 => ?_)
   ·
    have p36 := h36
    simp only [Bool.not_eq_true', Bool.not_eq_false', decide_eq_true_eq, decide_eq_false_iff_not] at p36
    exact gY G G G<|fa G fld_27_5 G<|gY G G G<|ldB 0 G G one_25 G G<|gY G G G<|cfv (scheck_c _ _) ok_182 G (Sc 1 G Sn) G<|gY G G G<|neI G G G<|pkF G G G<|jR K41 h36 ⟨G, trivial⟩ Sr
   ·
    exact gS (g := [_, _, _, _]) G<|pkT G G G<|jR0 K41 h36 ⟨G, trivial⟩ Sr
  refine nl<|nx<|cdB G (fun h41 => ?_) (fun h41 => ?_)
  ·
   have e41 : (plan2 c) = true := h41
   refine sq<|rg<|asg G G<|nl<|nx<|rt<|tR<|dpQ ?_
   exact fR1 () G G (by rw [planP, e31, e41]; try rfl) G Sn
  ·
   have hp : 0 < c.fPlaces.length := by
    have q := h41
    simp only [Bool.or_eq_false_iff, Bool.not_eq_false', errF_ok] at q
    have q1 := q.1
    unfold rplacesP at q1
    split at q1
    ·
     cases q1
    ·
     rename_i hn
     simp only [rpl1, Bool.or_eq_true, decide_eq_true_eq, not_or] at hn
     have := hn.1
     omega
   have hp7 : c.fPlaces.length ≤ 7 := rplaces_len (by
    have q := h41
    simp only [Bool.or_eq_false_iff, Bool.not_eq_false', errF_ok] at q
    exact q.1)
   have e41 : (plan2 c) = false := h41
   refine sk<|nx<|sq<|sq<|rg<|fa G fld_27_1 G<|ldB 0 G G one_22 G G ?_
   refine frP (α := TChart) c (fun S w h => ⟨⟨c_0, c_1⟩, G, fun t ht => by
     simp only [List.mem_cons, List.not_mem_nil, or_false] at ht
     rcases ht with rfl | rfl
     ·
      exact h _ (List.mem_of_getElem? (i := 0) G)
     ·
      exact h _ (List.mem_of_getElem? (i := 1) G), h_c⟩) ?_
   refine mf (xs := [.tmp 1]) G G<|cfv (containsPlace_c _ _ 189 #[.pointer (some ⟨b1, 0, none⟩)] [⟨_, (⟨c⟩ : Pt TChart)⟩] (fun x => decide (x.fGroup ≥ c.fNext)) ok_189 (fun x hx => pright1_c x _ c hx)) ok_188 G (Sc 1 G (Sc 0 G Sn)) G<|nl<|nx<|cdP G (fun h45 => ?_) (fun h45 => ?_)
   ·
    have e45 : (plan3 c) = true := (decide_eq_true h45)
    refine sq<|rg<|asg G G<|nl<|nx<|rt<|tR ?_
    exact fR1 () G G (by rw [planP, e31, e41, e45]; try rfl) G Sn
   ·
    have e45 : (plan3 c) = false := (decide_eq_false h45)
    refine sk<|nx<|sq<|rg<|faP (α := TChart) (β := TPlan) 0 (fun x : TChart => x.fPlan) G G fld_27_4 pChart_4 G fun v46 => ldS 0 G G row_24 G fun q47 w47 => ?_
    refine al zero_24 G fun b3 => stW 0 (us := (cPlan c.fPlan)) G G G row_24 G G<|nl<|nx<|sq<|sq<|rg<|ldM 0 (cPlan c.fPlan) G G row_24 G G<|bd (ps := []) (cs := (cPlan ((⟨0, 0, 0, ByteArray.empty, ByteArray.empty, 0, 0⟩ : TPlan)))) (by rfl) (by kernel_rfl) G<|eqT eq_Plan (c.fPlan) ((⟨0, 0, 0, ByteArray.empty, ByteArray.empty, 0, 0⟩ : TPlan)) G G G<|nl<|nx<|cdP G (fun h50 => ?_) (fun h50 => ?_)
    ·
     have e50 : (plan4 c) = true := (decide_eq_true h50)
     refine sq<|rg<|asg G G<|nl<|nx<|rt<|tR<|dpQ ?_
     exact fR1 () G G (by rw [planP, e31, e41, e45, e50]; try rfl) G Sn
    ·
     have e50 : (plan4 c) = false := (decide_eq_false h50)
     refine sk<|nx<|sq<|rg<|fa G fld_24_0 G<|ldB 0 G G one_3 G G<|faP (α := TChart) (β := Int) 2 (fun x : TChart => x.fLast) G G fld_27_3 pChart_3 G fun v53 => ldV 0 G G one_3 G fun w54 => ?_
     refine eqI G G G<|mv G G ?_
     apply jo [(1, _), (3, _)] ⟨rfl, rfl, trivial⟩
     ·
      intro K60
      refine spA (i := 56) G (fun h56 => ?_) (fun h56 => ?_)
      ·
       have p56 := of_decide_eq_true h56
       exact gY G G G<|fa G fld_24_0 G<|gY G G G<|ldB 0 G G one_3 G G<|gY G G G<|neI G G G<|pkT G G G<|jA K60 h56 ⟨G, G, trivial⟩ Sr
      ·
       exact gS (g := [_, _, _]) G<|pkF G G G<|jA0 K60 h56 ⟨G, G, trivial⟩ Sr
     refine mv G G ?_
     apply jo [(1, _)] ⟨rfl, trivial⟩
     ·
      intro K67
      refine spA (i := 61) G (fun h61 => ?_) (fun h61 => ?_)
      ·
       exact gY G G G<|fa G fld_24_5 G<|gY G G G<|ldB 0 G G one_3 G G<|gY G G G<|fa G fld_24_6 G<|gY G G G<|ldB 0 G G one_3 G G<|gY G G G<|cfv (pwhose_c _ _ w47.2.2.2.2.2.1 w47.2.2.2.2.2.2) ok_190 G Sn G<|pkT G G G<|jA K67 h61 ⟨G, trivial⟩ Sr
      ·
       exact gS (g := [_, _, _, _, _]) G<|pkF G G G<|jA0 K67 h61 ⟨G, trivial⟩ Sr
     refine mv G G ?_
     apply jo [(1, _)] ⟨rfl, trivial⟩
     ·
      intro K73
      refine spA (i := 68) G (fun h68 => ?_) (fun h68 => ?_)
      ·
       exact gY G G G<|faP (α := TChart) (β := List TPlace) 3 (fun x : TChart => x.fPlaces) G G fld_27_1 pChart_1 G fun v69 => gY G G G<|ldL 0 G G one_22 G fun v70 => gY G G G<|cfv (epoch_c _ _ (by assumption)) ok_172 G (Sc 0 G Sn) G<|gY G G G<|ltI G G G<|pkT G G G<|jA K73 h68 ⟨G, trivial⟩ (SubD.tail (SubD.tail Sr))
      ·
       exact gS (g := [_, _, _, _]) G<|pkF G G G<|jA0 K73 h68 ⟨G, trivial⟩ Sr
     refine mv G G ?_
     apply jo [] trivial
     ·
      intro K81
      refine spA (i := 74) G (fun h74 => ?_) (fun h74 => ?_)
      ·
       refine gY G G G<|ldS 3 G G row_27 G fun q75 w75 => ?_
       obtain ⟨q75_0, q75_1⟩ := q75
       refine gY G G G<|cfv (splits_c _ _ _ w75 (by assumption) (by assumption)) ok_191 G (Sc 1 G (Sc 2 G Sn)) G<|gY G G G<|mv G G ?_
       apply jo [(74, _)] ⟨rfl, trivial⟩
       ·
        intro K80
        refine spO (i := 77) G (fun h77 => ?_) (fun h77 => ?_)
        ·
         refine gY G G G<|ldS 6 G G row_27 G fun q78 w78 => ?_
         obtain ⟨q78_0, q78_1⟩ := q78
         exact gY G G G<|cfv (merges_c _ _ _ w78 (by assumption)) ok_192 G (Sc 1 G (Sc 2 G Sn)) G<|gY G G G<|pkF G G G<|jR K80 h77 ⟨G, trivial⟩ (SubD.tail (SubD.tail (SubD.tail Sr)))
        ·
         exact gS (g := [_, _]) G<|gY G G G<|pkT G G G<|jR0 K80 h77 ⟨G, trivial⟩ Sr
       exact pkT G G G<|jA K81 h74 trivial (SubD.tail (SubD.tail (SubD.tail Sr)))
      ·
       exact gS (g := [_, _, _, _, _, _]) G<|pkF G G G<|jA0 K81 h74 trivial Sr
     refine asg G G<|nl<|nx<|rt<|dpQ ?_
     exact fR1 () G G (by rw [planP, e31, e41, e45, e50]; try rfl) G Sn

theorem pcheck_c (c : TChart) (c_0 c_1 : Value) (h_c : c.wf) : FnV Tryz.prog 58 [.agg (cChart c c_0 c_1).toArray] [⟨c_0, c.fPlaces⟩, ⟨c_1, c.fMarks⟩] (.int .i64 (errF (planP c))) := by
 refine Fnc.proof Tryz.func58 G 6 G G fun X w => sq<|rg<|bx G G G fun b1 => asg G G<|nl<|nx<|sq<|sq<|rg<|ldM 0 (cChart c c_0 c_1) G G row_27 G G<|cfv (pright_c _ _ _ h_c) ok_123 G (Sc 0 G (Sc 1 G Sn)) G<|nt G G<|nl ?_
 refine nx<|cdB G (fun h5 => ?_) (fun h5 => ?_)
 ·
  refine sq<|rg<|asg G G<|nl<|nx<|rt<|tR<|dpQ ?_
  exact fR1 () G G (by rw [errF, if_neg (by have q := h5; rw [Bool.not_eq_true'] at q; rw [q]; decide)]) G Sn
 ·
  refine sk<|nx<|sq<|rg<|asg G G<|nl<|nx<|rt<|dpQ ?_
  exact fR1 () G G (by rw [errF, if_pos (by have q := h5; rw [Bool.not_eq_false'] at q; exact q)]) G Sn
end Go.Proofs.YtmpoffijcfaalaaGreat

/- Walks, written by specs2.py. -/

namespace Go.Proofs.YtmpoffijcfaalaaGreat
open Go.Eng Go.YtmpoffijcfaalaaGreat
set_option maxHeartbeats 1000000

theorem goes_c (c : TChart) (c_0 c_1 : Value) (h_c : c.wf) (hp : 0 < c.fPlaces.length) (hn : 2 ≤ c.fNext) : FnV Tryz.prog 129 [.agg (cChart c c_0 c_1).toArray] [⟨c_0, c.fPlaces⟩, ⟨c_1, c.fMarks⟩] (.bool (goesP c)) := by
 refine Fnc.proof Tryz.func129 G 140 G G fun X w => ?_
 obtain ⟨nx1, nx2⟩ := id h_c.2.2.1
 have hfl := find17_lt (k := c.fPlan.fLo) hp
 have hol := ofP_lt (g := c.fPlan.fTo) hp
 refine gtC (q := c.fPlaces.length ≤ 9223372036854775807) (fun S w h => list_len (h _ (List.mem_of_getElem? (i := 0) G))) fun hlen => sq<|rg<|bx G G G fun b1 => asg G G<|nl<|nx<|sq<|rg<|fa G fld_27_4 G<|ldM 0 (cPlan c.fPlan) G G row_24 G G<|al zero_24 G fun b3 => stW 0 (us := (cPlan c.fPlan)) G G G row_24 G G<|nl ?_
 refine nx<|sq<|sq<|rg<|fa G fld_27_1 G<|ldB 1 G G one_22 G G<|cfv (epoch17_c _ _) ok_116 G (Sc 0 G Sn) G<|geI G G G<|mv G G ?_
 apply jo [(1, _), (3, _)] ⟨rfl, rfl, trivial⟩
 ·
  intro K19
  refine spO (i := 13) G (fun h13 => ?_) (fun h13 => ?_)
  ·
   have p13 := of_decide_eq_false h13
   exact gY G G G<|fa G fld_24_0 G<|gY G G G<|ldB 0 G G one_3 G G<|gY G G G<|fa G fld_27_3 G<|gY G G G<|ldB 1 G G one_3 G G<|gY G G G<|neI G G G<|pkF G G G<|jR K19 h13 ⟨G, G, trivial⟩ Sr
  ·
   exact gS (g := [_, _, _, _, _]) G<|pkT G G G<|jR0 K19 h13 ⟨G, G, trivial⟩ Sr
 refine mv G G ?_
 apply jo [(1, _), (3, _)] ⟨rfl, rfl, trivial⟩
 ·
  intro K24
  refine spO (i := 20) G (fun h20 => ?_) (fun h20 => ?_)
  ·
   exact gY G G G<|fa G fld_24_0 G<|gY G G G<|ldB 0 G G one_3 G G<|gY G G G<|ltI G G G<|pkF G G G<|jR K24 h20 ⟨G, G, trivial⟩ Sr
  ·
   exact gS (g := [_, _, _]) G<|pkT G G G<|jR0 K24 h20 ⟨G, G, trivial⟩ Sr
 refine mv G G ?_
 apply jo [(1, _), (3, _)] ⟨rfl, rfl, trivial⟩
 ·
  intro K30
  refine spO (i := 25) G (fun h25 => ?_) (fun h25 => ?_)
  ·
   exact gY G G G<|fa G fld_24_5 G<|gY G G G<|ldB 0 G G one_3 G G<|gY G G G<|cfv (client14_c _ h_c.2.2.2.2.1.2.2.2.2.2.1) ok_37 G Sn G<|gY G G G<|nt G G<|pkF G G G<|jR K30 h25 ⟨G, G, trivial⟩ Sr
  ·
   exact gS (g := [_, _, _, _]) G<|pkT G G G<|jR0 K30 h25 ⟨G, G, trivial⟩ Sr
 refine mv G G ?_
 apply jo [(1, _), (3, _)] ⟨rfl, rfl, trivial⟩
 ·
  intro K36
  refine spO (i := 31) G (fun h31 => ?_) (fun h31 => ?_)
  ·
   exact gY G G G<|fa G fld_24_6 G<|gY G G G<|ldB 0 G G one_3 G G<|gY G G G<|cfv (seq14_c _ h_c.2.2.2.2.1.2.2.2.2.2.2) ok_38 G Sn G<|gY G G G<|nt G G<|pkF G G G<|jR K36 h31 ⟨G, G, trivial⟩ Sr
  ·
   exact gS (g := [_, _, _, _]) G<|pkT G G G<|jR0 K36 h31 ⟨G, G, trivial⟩ Sr
 refine nl<|nx<|cdB G (fun h36 => ?_) (fun h36 => ?_)
 ·
  have e36 : (goes1 c) = true := h36
  refine sq<|rg<|asg G G<|nl<|nx<|rt<|tR<|dpQ<|dpQ ?_
  exact fR1 () G G (by rw [goesP, e36]; try rfl) G Sn
 ·
  have e36 : (goes1 c) = false := h36
  refine sk<|nx<|sq<|rg<|fa G fld_27_1 G<|ldB 1 G G one_22 G G<|fa G fld_24_2 G<|ldB 0 G G one_3 G G<|cfv (of17_c _ _ _ h_c.2.2.2.2.1.2.2.1) ok_117 G (Sc 0 G Sn) G<|mv G G<|xt G G G<|xt G G G<|asg G G<|asg G G ?_
  refine nl<|nx<|sq<|sq<|rg<|mv G G<|nt G G<|nl<|nx<|cdB G (fun h46 => ?_) (fun h46 => ?_)
  ·
   have e46 : (!(ofP c.fPlaces c.fPlan.fTo).isSome) = true := h46
   refine sq<|rg<|fa G fld_27_1 G<|ldB 1 G G one_22 G G<|fa G fld_24_3 G<|ldB 0 G G one_9 G G<|cfv (find17_c _ _ _) ok_39 G (Sc 0 G Sn) G<|asg G G<|nl<|nx<|sq<|rgQ mixed (by kernel_rfl)<|fa G fld_24_2 G<|ldB 0 G G one_3 G G ?_
   refine fa G fld_27_2 G<|ldB 1 G G one_3 G G<|sbI G G (inI (by omega) (by omega)) G<|eqI G G G<|mv G G ?_
   apply jo [(1, _), (3, _), (6, _)] ⟨rfl, rfl, rfl, trivial⟩
   ·
    intro K63
    refine spA (i := 58) G (fun h58 => ?_) (fun h58 => ?_)
    ·
     have p58 := of_decide_eq_true h58
     exact gY G G G<|fa G fld_27_1 G<|gY G G G<|ldB 1 G G one_22 G G<|gY G G G<|lnP 0 G G Tryz.underlying22 G fun l61 => gY G G G<|ltI G G G<|pkT G G G<|jA K63 h58 ⟨G, G, G, trivial⟩ Sr
    ·
     exact gS (g := [_, _, _, _]) G<|pkF G G G<|jA0 K63 h58 ⟨G, G, G, trivial⟩ Sr
   refine mv G G ?_
   apply jo [(1, _), (3, _), (6, _)] ⟨rfl, rfl, rfl, trivial⟩
   ·
    intro K68
    refine spA (i := 64) G (fun h64 => ?_) (fun h64 => ?_)
    ·
     exact gY G G G<|fa G fld_24_3 G<|gY G G G<|ldB 0 G G one_9 G G<|gY G G G<|cfq (key15_c _) ok_168 G Sn G<|pkT G G G<|jA K68 h64 ⟨G, G, G, trivial⟩ Sr
    ·
     exact gS (g := [_, _, _]) G<|pkF G G G<|jA0 K68 h64 ⟨G, G, G, trivial⟩ Sr
   refine mv G G ?_
   apply jo [(1, _), (3, _), (6, _)] ⟨rfl, rfl, rfl, trivial⟩
   ·
    intro K79
    refine spA (i := 69) G (fun h69 => ?_) (fun h69 => ?_)
    ·
     have p69 := h69
     try simp only [Bool.or_eq_false_iff, Bool.and_eq_true, decide_eq_true_eq, decide_eq_false_iff_not, Bool.not_eq_true', Bool.not_eq_false'] at p69
     refine gY G G G<|fa G fld_27_1 G<|gY G G G<|ldB 1 G G one_22 G G<|gY G G G<|mv G G<|gY G G G<|ixP 0 G G G slt_22 (by omega) (getDE (d := default) (by omega)) G fun v73 => gY G G G<|faP (α := TPlace) (β := Int) 0 (fun x : TPlace => x.fGroup) G G fld_90_0 pPlace_0 G fun v74 => gY G G G<|ldV 0 G G one_3 G fun w75 => ?_
     exact gY G G G<|fa G fld_24_1 G<|gY G G G<|ldB 0 G G one_3 G G<|gY G G G<|eqI G G G<|pkT G G G<|jA K79 h69 ⟨G, G, G, trivial⟩ (SubD.tail (SubD.tail Sr))
    ·
     exact gS (g := [_, _, _, _, _, _, _, _, _]) G<|pkF G G G<|jA0 K79 h69 ⟨G, G, G, trivial⟩ Sr
   refine mv G G ?_
   apply jo [(1, _), (3, _), (6, _)] ⟨rfl, rfl, rfl, trivial⟩
   ·
    intro K90
    refine spA (i := 80) G (fun h80 => ?_) (fun h80 => ?_)
    ·
     have p80 := h80
     try simp only [Bool.or_eq_false_iff, Bool.and_eq_true, decide_eq_true_eq, decide_eq_false_iff_not, Bool.not_eq_true', Bool.not_eq_false'] at p80
     refine gY G G G<|fa G fld_27_1 G<|gY G G G<|ldB 1 G G one_22 G G<|gY G G G<|mv G G<|gY G G G<|ixP 0 G G G slt_22 (by omega) (getDE (d := default) (by omega)) G fun v84 => gY G G G<|faP (α := TPlace) (β := ByteArray) 0 (fun x : TPlace => x.fFrom) G G fld_90_1 pPlace_1 G fun v85 => gY G G G<|ldV 0 G G one_9 G fun w86 => ?_
     exact gY G G G<|fa G fld_24_3 G<|gY G G G<|ldB 0 G G one_9 G G<|gY G G G<|neS G G G<|pkT G G G<|jA K90 h80 ⟨G, G, G, trivial⟩ (SubD.tail (SubD.tail Sr))
    ·
     exact gS (g := [_, _, _, _, _, _, _, _, _]) G<|pkF G G G<|jA0 K90 h80 ⟨G, G, G, trivial⟩ Sr
   refine mv G G ?_
   apply jo [] trivial
   ·
    intro K99
    refine spA (i := 91) G (fun h91 => ?_) (fun h91 => ?_)
    ·
     refine gY G G G<|fa G fld_24_4 G<|gY G G G<|ldB 0 G G one_9 G G<|gY G G G<|fa G fld_27_1 G<|gY G G G<|ldB 1 G G one_22 G G<|gY G G G<|mv G G<|gY G G G<|cfq (end17_c _ _ _ (inI (by omega) (by omega))) ok_92 G (Sc 0 G Sn) G<|gY G G G<|eqS G G G ?_
     exact pkT G G G<|jA K99 h91 trivial Sr
    ·
     exact gS (g := [_, _, _, _, _, _, _]) G<|pkF G G G<|jA0 K99 h91 trivial Sr
   refine asg G G<|nlQ<|nx<|rt<|tR<|dpQ<|dpQ ?_
   exact fR1 () G G (by rw [goesP, e36, e46]; try rfl) G Sn
  ·
   have e46 : (!(ofP c.fPlaces c.fPlan.fTo).isSome) = false := h46
   refine sk<|nx<|sq<|rgQ mixed (by kernel_rfl)<|mv G G<|adI G G (inI (by omega) (by omega)) G<|fa G fld_27_1 G<|ldB 1 G G one_22 G G<|lnP 0 G G Tryz.underlying22 G fun l104 => ltI G G G<|mv G G ?_
   apply jo [(1, _), (3, _), (4, _)] ⟨rfl, rfl, rfl, trivial⟩
   ·
    intro K117
    refine spA (i := 106) G (fun h106 => ?_) (fun h106 => ?_)
    ·
     have p106 := of_decide_eq_true h106
     refine gY G G G<|fa G fld_27_1 G<|gY G G G<|ldB 1 G G one_22 G G<|gY G G G<|mv G G<|gY G G G<|adI G G (inI (by omega) (by omega)) G<|gY G G G<|ixP 0 G G G slt_22 (by omega) (getDE (d := default) (by omega)) G fun v111 => gY G G G<|faP (α := TPlace) (β := Int) 0 (fun x : TPlace => x.fGroup) G G fld_90_0 pPlace_0 G fun v112 => gY G G G<|ldV 0 G G one_3 G fun w113 => ?_
     exact gY G G G<|fa G fld_24_1 G<|gY G G G<|ldB 0 G G one_3 G G<|gY G G G<|eqI G G G<|pkT G G G<|jA K117 h106 ⟨G, G, G, trivial⟩ (SubD.tail (SubD.tail Sr))
    ·
     exact gS (g := [_, _, _, _, _, _, _, _, _, _]) G<|pkF G G G<|jA0 K117 h106 ⟨G, G, G, trivial⟩ Sr
   refine mv G G ?_
   apply jo [(1, _), (3, _), (4, _)] ⟨rfl, rfl, rfl, trivial⟩
   ·
    intro K129
    refine spA (i := 118) G (fun h118 => ?_) (fun h118 => ?_)
    ·
     have p118 := h118
     try simp only [Bool.or_eq_false_iff, Bool.and_eq_true, decide_eq_true_eq, decide_eq_false_iff_not, Bool.not_eq_true', Bool.not_eq_false'] at p118
     refine gY G G G<|fa G fld_27_1 G<|gY G G G<|ldB 1 G G one_22 G G<|gY G G G<|mv G G<|gY G G G<|adI G G (inI (by omega) (by omega)) G<|gY G G G<|ixP 0 G G G slt_22 (by omega) (getDE (d := default) (by omega)) G fun v123 => gY G G G<|faP (α := TPlace) (β := ByteArray) 0 (fun x : TPlace => x.fFrom) G G fld_90_1 pPlace_1 G fun v124 => gY G G G<|ldV 0 G G one_9 G fun w125 => ?_
     exact gY G G G<|fa G fld_24_3 G<|gY G G G<|ldB 0 G G one_9 G G<|gY G G G<|eqS G G G<|pkT G G G<|jA K129 h118 ⟨G, G, G, trivial⟩ (SubD.tail (SubD.tail Sr))
    ·
     exact gS (g := [_, _, _, _, _, _, _, _, _, _]) G<|pkF G G G<|jA0 K129 h118 ⟨G, G, G, trivial⟩ Sr
   refine mv G G ?_
   apply jo [] trivial
   ·
    intro K139
    refine spA (i := 130) G (fun h130 => ?_) (fun h130 => ?_)
    ·
     have p130 := h130
     try simp only [Bool.or_eq_false_iff, Bool.and_eq_true, decide_eq_true_eq, decide_eq_false_iff_not, Bool.not_eq_true', Bool.not_eq_false'] at p130
     refine gY G G G<|fa G fld_27_1 G<|gY G G G<|ldB 1 G G one_22 G G<|gY G G G<|mv G G<|gY G G G<|adI G G (inI (by omega) (by omega)) G<|gY G G G<|cfq (end17_c _ _ _ (inI (by omega) (by omega))) ok_92 G (Sc 0 G Sn) G<|gY G G G<|fa G fld_24_4 G<|gY G G G<|ldB 0 G G one_9 G G ?_
     exact gY G G G<|eqS G G G<|pkT G G G<|jA K139 h130 trivial Sr
    ·
     exact gS (g := [_, _, _, _, _, _, _, _]) G<|pkF G G G<|jA0 K139 h130 trivial Sr
   refine asg G G<|nlQ<|nx<|rt<|dpQ<|dpQ ?_
   exact fR1 () G G (by rw [goesP, e36, e46]; try rfl) G Sn

theorem right20_c (c : TChart) (c_0 c_1 : Value) (h_c : c.wf) : FnV Tryz.prog 60 [.agg (cChart c c_0 c_1).toArray] [⟨c_0, c.fPlaces⟩, ⟨c_1, c.fMarks⟩] (.bool (right20 c)) := by
 refine Fnc.proof Tryz.func60 G 60 G G fun X w => sq<|rg<|bx G G G fun b1 => asg G G<|nl<|nx<|sq<|sq<|rg<|fa G fld_27_0 G<|ldB 0 G G one_3 G G<|cfv (number20_c _ h_c.1) ok_126 G Sn G<|nt G G ?_
 refine mv G G ?_
 apply jo [(1, _)] ⟨rfl, trivial⟩
 ·
  intro K13
  refine spO (i := 8) G (fun h8 => ?_) (fun h8 => ?_)
  ·
   exact gY G G G<|fa G fld_27_3 G<|gY G G G<|ldB 0 G G one_3 G G<|gY G G G<|cfv (number20_c _ h_c.2.2.2.1) ok_126 G Sn G<|gY G G G<|nt G G<|pkF G G G<|jR K13 h8 ⟨G, trivial⟩ Sr
  ·
   exact gS (g := [_, _, _, _]) G<|pkT G G G<|jR0 K13 h8 ⟨G, trivial⟩ Sr
 refine mv G G ?_
 apply jo [(1, _)] ⟨rfl, trivial⟩
 ·
  intro K19
  refine spO (i := 14) G (fun h14 => ?_) (fun h14 => ?_)
  ·
   exact gY G G G<|fa G fld_27_1 G<|gY G G G<|ldB 0 G G one_22 G G<|gY G G G<|cfv (right17_c _ _) ok_127 G (Sc 0 G Sn) G<|gY G G G<|nt G G<|pkF G G G<|jR K19 h14 ⟨G, trivial⟩ Sr
  ·
   exact gS (g := [_, _, _, _]) G<|pkT G G G<|jR0 K19 h14 ⟨G, trivial⟩ Sr
 refine mv G G ?_
 apply jo [(1, _)] ⟨rfl, trivial⟩
 ·
  intro K24
  refine spO (i := 20) G (fun h20 => ?_) (fun h20 => ?_)
  ·
   exact gY G G G<|fa G fld_27_2 G<|gY G G G<|ldB 0 G G one_3 G G<|gY G G G<|ltI G G G<|pkF G G G<|jR K24 h20 ⟨G, trivial⟩ Sr
  ·
   exact gS (g := [_, _, _]) G<|pkT G G G<|jR0 K24 h20 ⟨G, trivial⟩ Sr
 refine mv G G ?_
 apply jo [(1, _)] ⟨rfl, trivial⟩
 ·
  intro K29
  refine spO (i := 25) G (fun h25 => ?_) (fun h25 => ?_)
  ·
   exact gY G G G<|fa G fld_27_2 G<|gY G G G<|ldB 0 G G one_3 G G<|gY G G G<|gtI G G G<|pkF G G G<|jR K29 h25 ⟨G, trivial⟩ Sr
  ·
   exact gS (g := [_, _, _]) G<|pkT G G G<|jR0 K29 h25 ⟨G, trivial⟩ Sr
 refine mv G G ?_
 apply jo [(1, _)] ⟨rfl, trivial⟩
 ·
  intro K35
  refine spO (i := 30) G (fun h30 => ?_) (fun h30 => ?_)
  ·
   exact gY G G G<|fa G fld_27_5 G<|gY G G G<|ldB 0 G G one_25 G G<|gY G G G<|cfv (right14_c _ _) ok_128 G (Sc 1 G Sn) G<|gY G G G<|nt G G<|pkF G G G<|jR K35 h30 ⟨G, trivial⟩ Sr
  ·
   exact gS (g := [_, _, _, _]) G<|pkT G G G<|jR0 K35 h30 ⟨G, trivial⟩ Sr
 refine nl<|nx<|cdB G (fun h35 => ?_) (fun h35 => ?_)
 ·
  have e35 : (right20a c) = true := h35
  refine sq<|rg<|asg G G<|nl<|nx<|rt<|tR<|dpQ ?_
  exact fR1 () G G (by rw [right20, if_pos e35]) G Sn
 ·
  have hp : 0 < c.fPlaces.length := places17_pos (by have q := h35; simp only [Bool.or_eq_false_iff, Bool.not_eq_false'] at q; exact q.1.1.1.2)
  have hn : 2 ≤ c.fNext := by
   have q := h35
   simp only [Bool.or_eq_false_iff, decide_eq_false_iff_not] at q
   have := q.1.1.2
   omega
  have e35 : (right20a c) = false := h35
  refine sk<|nx<|sq<|sq<|rg<|asg G G<|nl<|nx<|bk<|lpC (σ := Nat) [(1, _)] _ (fun i C => (3, .int .i64 (i : Int)) :: C) (fun i => i ≤ c.fPlaces.length ∧ (∀ j, j < i → (!decide ((c.fPlaces.getD j default).fGroup ≥ c.fNext)) = true)) (fun i => c.fPlaces.length - i) 0 ⟨G, trivial⟩ (Sc 0 G (Sc 1 G Sn)) ⟨Nat.zero_le _, fun j hj => absurd hj (Nat.not_lt_zero j)⟩ ⟨G, G, trivial⟩ ?_
  rintro i ⟨hi, hall⟩
  refine sq<|sq<|rg<|mv G G<|fa G fld_27_1 G<|ldB 0 G G one_22 G G<|lnP 0 G G Tryz.underlying22 G fun l39 => ltI G G G<|nl<|nx<|cdP G (fun h40 => ?_) (fun h40 => ?_)
  ·
   refine sk<|nx<|sq<|bk<|sq<|rgQ mixed (by kernel_rfl)<|fa G fld_27_1 G<|ldB 0 G G one_22 G G<|mv G G<|ixP 0 G G G slt_22 (by omega) (getDE (d := default) (by omega)) G fun v46 => faP (α := TPlace) (β := Int) 0 (fun x : TPlace => x.fGroup) G G fld_90_0 pPlace_0 G fun v47 => ldV 0 G G one_3 G fun w48 => ?_
   refine fa G fld_27_2 G<|ldB 0 G G one_3 G G<|geI G G G<|nlQ<|nx<|cdP G (fun h51 => ?_) (fun h51 => ?_)
   ·
    refine sq<|rg<|asg G G<|nl<|nx<|rt<|bR<|tR<|tR<|bR<|tR<|dpQ ?_
    exact fR1 () G G (by rw [right20, if_neg (by rw [e35]; decide), if_neg (by rw [right20b, allI_false i (by omega) (not_decfalse h51)]; decide)]) G Sn
   ·
    refine sk<|bN<|nx<|rg<|mv G G<|adI G G (inI (by omega) (by omega)) G<|asg G G<|nl ?_
    exact ag (i + 1) ⟨(by omega), (all_snoc hall (not_dectrue h51))⟩ (by omega) ⟨G, G, trivial⟩ G (Sc 2 G (Sc 3 G Sn))
  ·
   refine ex<|tE<|tE<|bE<|nx<|sq<|rg<|fa G fld_27_4 G<|ldM 0 (cPlan c.fPlan) G G row_24 G G<|bd (ps := []) (cs := (cPlan ((⟨0, 0, 0, ByteArray.empty, ByteArray.empty, 0, 0⟩ : TPlan)))) (by rfl) (by kernel_rfl) G<|eqT eq_Plan (c.fPlan) ((⟨0, 0, 0, ByteArray.empty, ByteArray.empty, 0, 0⟩ : TPlan)) G G G<|mv G G ?_
   apply jo [] trivial
   ·
    intro K59
    refine spO (i := 56) G (fun h56 => ?_) (fun h56 => ?_)
    ·
     have p56 := of_decide_eq_false h56
     exact gY G G G<|ldM 0 (cChart c c_0 c_1) G G row_27 G G<|gY G G G<|cfv (goes_c _ _ _ h_c (by assumption) (by assumption)) ok_129 G (Sc 0 G (Sc 1 G Sn)) G<|pkF G G G<|jR K59 h56 trivial Sr
    ·
     exact gS (g := [_, _]) G<|pkT G G G<|jR0 K59 h56 trivial Sr
   refine asg G G<|nl<|nx<|rt<|dpQ ?_
   exact fR1 () G G (by rw [right20, if_neg (by rw [e35]; decide), if_pos (by rw [right20b]; exact allI_true (fun j hj => hall j (by omega)))]; try rfl) G Sn
end Go.Proofs.YtmpoffijcfaalaaGreat

/- Numbers, texts and what is read back, as plain lists of bytes; the integer arithmetic of it. No program. -/

namespace Go.YtmpoffijcfaalaaGreat
open Go.Eng

theorem wrap_u8 (u : Nat) : IntKind.u8.wrap (u : Int) = ((u % 256 : Nat) : Int) := by simp [IntKind.wrap, IntKind.signed, IntKind.bits]
theorem wrap_u64 (u : Nat) : IntKind.u64.wrap (u : Int) = ((u % 18446744073709551616 : Nat) : Int) := by simp [IntKind.wrap, IntKind.signed, IntKind.bits]
theorem ofInt_nat (n a : Nat) : (BitVec.ofInt n (a : Int)).toNat = a % 2 ^ n := by simp
theorem and_nat8 {a b : Nat} (ha : a < 256) (hb : b < 256) : bitV .and .u8 (a : Int) (b : Int) = ((a &&& b : Nat) : Int) := by
  have h : a &&& b < 2 ^ 8 := Nat.and_lt_two_pow a hb
  show IntKind.u8.wrap ((BitVec.ofInt 8 (a : Int) &&& BitVec.ofInt 8 (b : Int)).toNat : Int) = _
  rw [BitVec.toNat_and, ofInt_nat, ofInt_nat]
  rw [Nat.mod_eq_of_lt (show a < 2 ^ 8 from ha), Nat.mod_eq_of_lt (show b < 2 ^ 8 from hb), wrap_u8, Nat.mod_eq_of_lt h]
theorem or_nat64 {a b : Nat} (ha : a < 2 ^ 64) (hb : b < 2 ^ 64) : bitV .or .u64 (a : Int) (b : Int) = ((a ||| b : Nat) : Int) := by
  have h : a ||| b < 2 ^ 64 := Nat.or_lt_two_pow ha hb
  show IntKind.u64.wrap ((BitVec.ofInt 64 (a : Int) ||| BitVec.ofInt 64 (b : Int)).toNat : Int) = _
  rw [BitVec.toNat_or, ofInt_nat, ofInt_nat]
  rw [Nat.mod_eq_of_lt ha, Nat.mod_eq_of_lt hb, wrap_u64, Nat.mod_eq_of_lt h]
theorem and_nat64 {a b : Nat} (ha : a < 2 ^ 64) (hb : b < 2 ^ 64) : bitV .and .u64 (a : Int) (b : Int) = ((a &&& b : Nat) : Int) := by
  have h : a &&& b < 2 ^ 64 := Nat.and_lt_two_pow a hb
  show IntKind.u64.wrap ((BitVec.ofInt 64 (a : Int) &&& BitVec.ofInt 64 (b : Int)).toNat : Int) = _
  rw [BitVec.toNat_and, ofInt_nat, ofInt_nat]
  rw [Nat.mod_eq_of_lt ha, Nat.mod_eq_of_lt hb, wrap_u64, Nat.mod_eq_of_lt h]

theorem and_127 (c : UInt8) : bitV .and .u8 (c.toNat : Int) 127 = ((c.toNat % 128 : Nat) : Int) := by
  rw [show ((127 : Int)) = ((127 : Nat) : Int) from rfl, and_nat8 c.toNat_lt (by decide)]
  congr 1
  exact Nat.and_two_pow_sub_one_eq_mod c.toNat 7
theorem shr1 (u : Nat) : ((u : Int)).fdiv (2 ^ min (1 : Int).toNat IntKind.u64.bits) = ((u / 2 : Nat) : Int) := by
  rw [Int.fdiv_eq_ediv_of_nonneg _ (by decide)]
  rfl
theorem shl_k (a k : Nat) (h : a * 2 ^ k < 2 ^ 64) (hk : k ≤ 63) : IntKind.u64.wrap ((a : Int) * 2 ^ min ((k : Nat) : Int).toNat IntKind.u64.bits) = ((a * 2 ^ k : Nat) : Int) := by
  have e : min ((k : Nat) : Int).toNat IntKind.u64.bits = k := by simp only [Int.toNat_natCast]; show min k 64 = k; omega
  rw [e, show (a : Int) * 2 ^ k = ((a * 2 ^ k : Nat) : Int) by push_cast; rfl, wrap_u64, Nat.mod_eq_of_lt h]
theorem or_add {v a k : Nat} (hv : v < 2 ^ k) (h : a * 2 ^ k < 2 ^ 64) (hk : k ≤ 63) : bitV .or .u64 (v : Int) ((a * 2 ^ k : Nat) : Int) = ((v + a * 2 ^ k : Nat) : Int) := by
  have hv' : v < 2 ^ 64 := Nat.lt_of_lt_of_le hv (Nat.pow_le_pow_right (by decide) (by omega))
  rw [or_nat64 hv' h, Nat.or_comm, Nat.mul_comm a, ← Nat.two_pow_add_eq_or_of_lt hv]
  congr 1
  omega
theorem and_1 {v : Nat} (hv : v < 2 ^ 64) : bitV .and .u64 (v : Int) 1 = ((v % 2 : Nat) : Int) := by
  rw [show ((1 : Int)) = ((1 : Nat) : Int) from rfl, and_nat64 hv (by decide)]
  congr 1
  exact Nat.and_two_pow_sub_one_eq_mod v 1
theorem cpl {x : Int} (h : InI x) : bitV .xor .i64 (if IntKind.i64.signed then -1 else IntKind.i64.max) x = -x - 1 := by
  obtain ⟨h1, h2⟩ := h
  have e : (BitVec.ofInt 64 (-1) ^^^ BitVec.ofInt 64 x) = BitVec.ofInt 64 (-x - 1) := by
    have a : BitVec.ofInt 64 (-1) = BitVec.allOnes 64 := by decide
    rw [a, BitVec.allOnes_xor]
    have : BitVec.ofInt 64 (-x - 1) = ~~~ BitVec.ofInt 64 x := by
      apply BitVec.eq_of_toInt_eq
      rw [BitVec.toInt_not, BitVec.toInt_ofInt]
      have t : (BitVec.ofInt 64 x).toNat = (x % 2 ^ 64).toNat := by simp [BitVec.toNat_ofInt]
      rw [t]
      simp only [Int.bmod]
      omega
    rw [this]
  show IntKind.i64.wrap _ = _
  have : ∀ y : Int, InI y → IntKind.i64.wrap ((BitVec.ofInt 64 y).toNat : Int) = y := by
    intro y hy
    obtain ⟨h3, h4⟩ := hy
    have t : (BitVec.ofInt 64 y).toNat = (y % 2 ^ 64).toNat := by simp [BitVec.toNat_ofInt]
    rw [t]
    simp only [IntKind.wrap, IntKind.signed, IntKind.bits]
    simp
    omega
  rw [← this (-x - 1) ⟨by omega, by omega⟩, ← e]
  rfl
theorem i64_of_nat {v : Nat} (h : v < 9223372036854775808) : IntKind.i64.wrap (v : Int) = (v : Int) := wrap_i64_in ⟨by omega, by omega⟩

/-! ### Numbers as bytes -/
/-- A number as bytes: seven bits a byte, the lowest first. -/
def encNat (v : Nat) : List UInt8 :=
  if h : v < 128 then [UInt8.ofNat v] else UInt8.ofNat (v % 128 + 128) :: encNat (v / 128)
termination_by v
decreasing_by omega
def zig (x : Int) : Nat := if x < 0 then (-x - 1).toNat * 2 + 1 else x.toNat * 2
def zag (v : Nat) : Int := if v % 2 = 1 then -((v / 2 : Nat) : Int) - 1 else ((v / 2 : Nat) : Int)
theorem zag_in {v : Nat} (h : v < 2 ^ 64) : InI (zag v) := by
  unfold zag
  split <;> constructor <;> omega

/-- The number with which bytes begin (from its place i on, v so far): it, how many bytes it takes, and what is wrong. -/
def numD (i v : Nat) : List UInt8 → Nat × Nat × Nat
  | [] => (0, 0, 20)
  | c :: r =>
    if i = 9 ∧ 1 < c.toNat then (0, 0, 21)
    else if 128 ≤ c.toNat then numD (i + 1) (v + c.toNat % 128 * 2 ^ (7 * i)) r
    else if c.toNat = 0 ∧ 0 < i then (0, 0, 21)
    else (v + c.toNat % 128 * 2 ^ (7 * i), i + 1, 0)
end Go.YtmpoffijcfaalaaGreat
