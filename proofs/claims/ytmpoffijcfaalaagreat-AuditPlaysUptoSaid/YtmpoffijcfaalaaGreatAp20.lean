/- Part 20 of auditPlays_holds. -/
import Derived.Test.YtmpoffijcfaalaaGreatAp19

set_option maxRecDepth 20000
set_option maxHeartbeats 1000000
namespace Go.Proofs.YtmpoffijcfaalaaGreat
open Go.Eng Go.YtmpoffijcfaalaaGreat
theorem fur_c (v_l : Value) (l : List TScene) (C : TChart) (Sx : List TState) (Ex : Int) (hC : furC l = C) (hS : furS l = Sx) (hE : furE l = Ex) : Fnc Pg 27 [v_l] [] [⟨v_l, l⟩] (fun (y : Value × Value × Value) u => u = .tuple #[.agg (cChart C y.1 y.2.1).toArray, y.2.2, .int .i64 Ex] ∧ C.wf) (fun _ _ => []) (fun y _ => [⟨y.1, C.fPlaces⟩, ⟨y.2.1, C.fMarks⟩, ⟨y.2.2, Sx⟩]) := by
 refine Fnc.proof Tryz.func27 G 99 G G fun X w => qg<|al zero_27 G fun b2 => ru 2 G<|nl<|nx<|sq<|qg<|mv G G<|lnP 0 G G Tryz.underlying75 G fun l16 => ru 1 G<|nl<|nx<|cdP G (fun h17 => ?_) (fun h17 => ?_)
 ·
  have hl0 : l.length = 0 := by omega
  have e1 : zchart = C := by rw [← hC, furC, if_pos hl0]
  have e2 : ([] : List TState) = Sx := by rw [← hS, furS, if_pos hl0]
  have e3 : (1 : Int) = Ex := by rw [← hE, furE, if_pos hl0]
  subst e1 e2 e3
  exact emC (α := TPlace)<|emC (α := TMark)<|emC (α := TState)<|qg<|bd (ps := []) (cs := (cChart ((⟨0, [], 0, 0, pZ, []⟩ : TChart)) nS nS)) (by rfl) (by kernel_rfl) G<|stW 0 (us := (cChart ((⟨0, [], 0, 0, pZ, []⟩ : TChart)) nS nS)) G G G (Rg G) G G<|ru 2 G<|nl<|nx<|rt<|tR<|fRG ⟨nS, nS, nS⟩ [_] (rCTT 0 G G G G G (Rg G)) (by exact ⟨rfl, zchart_wf⟩) G (Sc 2 G (Sc 1 G (Sc 0 G Sn)))
 ·
  have hn0 : ¬ l.length = 0 := by omega
  refine sk<|nx<|sq<|qg<|mv G G<|lnP 0 G G Tryz.underlying75 G fun l20 => mv G G<|nl<|nx<|bk<|lpC (σ := Nat) [(0, _), (2, _), (19, _), (20, _)] _ (fun i C => (21, .int .i64 (i : Int)) :: C) (fun i => i ≤ l.length ∧ (∀ j, j < i → drightP (l.getD j default) = true)) (fun i => l.length - i) 0 (Gs G) (Sc 0 G Sn) ⟨Nat.zero_le _, fun j hj => absurd hj (Nat.not_lt_zero j)⟩ (Gs G) ?_
  rintro i ⟨hi, hall⟩
  refine sa 1 G<|sq<|cdP G (fun h22 => ?_) (fun h22 => ?_)
  ·
   refine sk<|nx<|sq<|bk<|qg<|ixQ 0 G G G slt_75 G fun v23 => ldS 0 G G (Rg G) G fun q24 w24 => ?_
   obtain ⟨q24_0, q24_1, q24_2, q24_3, q24_4⟩ := q24
   refine al zero_32 G fun b6 => oc 1 G fun o_q24_0 => oc 2 G fun o_q24_1 => oc 3 G fun o_q24_2 => oc 4 G fun o_q24_3 => oc 5 G fun o_q24_4 => stW 0 (us := (cScene ((l.getD i default)) q24_0 q24_1 q24_2 q24_3 q24_4)) G G G (Rg G) (by simp only [List.all_cons, List.all_nil, Bool.and_true, o_q24_0, o_q24_1, o_q24_2, o_q24_3, o_q24_4]; rfl) G<|nl<|nx<|qg<|ldM 0 (cScene ((l.getD i default)) q24_0 q24_1 q24_2 q24_3 q24_4) G G (Rg G) G G<|cfv (dright_c _ _ _ _ _ _ w24) (Kg G) G (Si [1,2,3,4,5] G) G<|nt G G<|nl<|nx<|cdB G (fun h27 => ?_) (fun h27 => ?_)
   ·
    have hr : ¬ rightAll l = true := by rw [rightAll, allI_false i (by omega) (by simpa using h27)]; decide
    have e1 : zchart = C := by rw [← hC, furC, if_neg hn0, if_neg hr]
    have e2 : ([] : List TState) = Sx := by rw [← hS, furS, if_neg hn0, if_neg hr]
    have e3 : (21 : Int) = Ex := by rw [← hE, furE, if_neg hn0, if_neg hr]
    subst e1 e2 e3
    exact emC (α := TPlace)<|emC (α := TMark)<|emC (α := TState)<|qg<|bd (ps := []) (cs := (cChart ((⟨0, [], 0, 0, pZ, []⟩ : TChart)) nS nS)) (by rfl) (by kernel_rfl) G<|stW 1 (us := (cChart ((⟨0, [], 0, 0, pZ, []⟩ : TChart)) nS nS)) G G G (Rg G) G G<|ru 2 G<|nl<|nx<|rt<|bR<|tR<|tR<|bR<|tR<|fRG ⟨nS, nS, nS⟩ [_, _] (rCTT 1 G G G G G (Rg G)) (by exact ⟨rfl, zchart_wf⟩) G (Sc 2 G (Sc 1 G (Sc 0 G Sn)))
   ·
    refine sk<|bN<|nx<|rg<|adI G G inI G<|mv G G<|nl<|dpQ ?_
    exact ag (i + 1) ⟨(by omega), (all_snoc hall ((by simpa using h27)))⟩ (by omega) (Gs G) G (Sc 7 G Sn)
  ·
   have hr : rightAll l = true := allI_true (fun k hk => hall k (by omega))
   have hrm := right_mem hr
   have hl7 : ∀ v ∈ l, v.fStates.length = 7 := fun v hv => dright_len (hrm v hv)
   have h07 : (l.getD 0 default).fStates.length = 7 := hl7 _ (getD_mem (by omega))
   have hsl : ∀ k, (stF l k).length = 7 := fun k => (stF_len l k).trans h07
   refine ex<|tE<|tE<|bE<|nx<|sq<|rgZ (L := [bl b2 27 zv9, fz X w]) [] [(0,⟨some (v_l),fun _ => [],false⟩),(1,⟨none,fun u => [⟨u, (⟨(l.getD 0 default)⟩ : Pt TScene)⟩],false⟩),(2,⟨none,fun u => [⟨u, (⟨(l.getD 0 default).fChart⟩ : Pt TChart)⟩],false⟩),(3,⟨none,fun u => [⟨cel u 1, (l.getD 0 default).fChart.fPlaces⟩, ⟨cel u 11, (l.getD 0 default).fChart.fMarks⟩],true⟩),(4,⟨some (v_l),fun _ => [],false⟩),(5,⟨none,fun u => [⟨u, (⟨(l.getD 0 default)⟩ : Pt TScene)⟩],false⟩),(6,⟨none,fun u => [⟨u, (⟨(l.getD 0 default).fStates⟩ : Pt (List TState))⟩],false⟩),(7,⟨none,fun u => [⟨u, (l.getD 0 default).fStates⟩],false⟩),(8,⟨none,fun _ => [],true⟩),(9,⟨none,fun _ => [],true⟩),(10,⟨none,fun _ => [],true⟩),(11,⟨none,fun _ => [],true⟩)] [(3,fun u => u = .agg (cChart (l.getD 0 default).fChart (cel u 1) (cel u 11)).toArray ∧ (cel u 1).oneCell' = true ∧ (cel u 11).oneCell' = true ∧ (l.getD 0 default).fChart.wf),(9,fun u => u = .pointer (some ⟨ptrB u, 0, none⟩))] [[],[3],[8],[9],[3,8],[3,9],[8,3],[8,9],[9,3],[9,8],[3,8,9],[3,9,8],[8,3,9],[8,9,3],[9,3,8],[9,8,3],[3,8,9,10],[3,9,8,10],[8,3,9,10],[8,9,3,10],[9,3,8,10],[9,8,3,10],[3,8,9,10,11],[3,9,8,10,11],[8,3,9,10,11],[8,9,3,10,11],[9,3,8,10,11],[9,8,3,10,11]] [(8,fun L zz => (row 55 (zz 8) (l.getD 0 default).fStates) :: L),(9,fun L zz => inE 2 (bl (ptrB (zz 9)) 27 zv9) L),(10,fun L zz => rpE 2 (bl (ptrB (zz 9)) 27 (cChart ((l.getD 0 default).fChart) (cel (zz 3) 1) (cel (zz 3) 11))) L),(11,fun L zz => rpE 3 (row 55 (zz 11) (l.getD 0 default).fStates) L)] (fun _ => G) (fun _ => by kernel_rfl) ?_ fun V hV => ?_
   ·
    refine ⟨fun V De _=>?_,?_⟩
    ·
     repeat
      refine aC ?_ ?_
      · exact mv G G<|oh G G G G
     trivial
    refine ⟨fun V De _=>?_,?_⟩
    ·
     repeat
      refine aC ?_ ?_
      · exact ixQ 0 G G G slt_75 G fun v31 => nl (odH G G G trivial (Sc 0 G Sn) (SubD.tail Sr))
     trivial
    refine ⟨fun V De _=>(by (repeat (refine aC ?_ ?_; exact faP (α := TScene) (β := TChart) 0 (fun x : TScene => x.fChart) G G (Fg G) pScene_2 G fun v32 => nl (odH G G G trivial (Sc 0 G Sn) (SubD.tail (SubD.tail Sr))))); trivial),?_⟩
    refine ⟨fun V De _=>?_,?_⟩
    ·
     repeat
      refine aC ?_ ?_
      ·
       refine ldS 0 G G (Rg G) G fun q33 w33 => ?_
       obtain ⟨q33_0, q33_1⟩ := q33
       exact oc 1 G fun o33_0 => oc 2 G fun o33_1 => nl (odH G G G ⟨G, o33_0, o33_1, w33⟩ (Sc 1 G (Sc 2 G Sn)) (SubD.tail (SubD.tail (SubD.tail (SubD.tail Sr)))))
     trivial
    refine ⟨fun V De _=>?_,?_⟩
    ·
     repeat
      refine aC ?_ ?_
      · exact mv G G<|oh G G G G
     trivial
    refine ⟨fun V De _=>?_,?_⟩
    ·
     repeat
      refine aC ?_ ?_
      · exact ixQ 0 G G G slt_75 G fun v35 => nl (odH G G G trivial (Sc 0 G Sn) (SubD.tail Sr))
     trivial
    refine ⟨fun V De _=>?_,?_⟩
    ·
     repeat
      refine aC ?_ ?_
      · exact faP (α := TScene) (β := List TState) 0 (fun x : TScene => x.fStates) G G (Fg G) pScene_3 G fun v36 => nl (odH G G G trivial (Sc 0 G Sn) (SubD.tail (SubD.tail Sr)))
     trivial
    refine ⟨fun V De _=>(by (repeat (refine aC ?_ ?_; exact ldL 0 G G (Og G) G fun v37 => nl (odH G G G trivial (Sc 0 G Sn) (SubD.tail (SubD.tail Sr))))); trivial),fun V De _=>(by (repeat (refine aC ?_ ?_; exact cf (cloneSt_c _ _ (by omega)) (Kg G) G (Sc 0 G Sn) G fun _ v38 _ => nl (odH G G G trivial Sn (SubD.tail Sr)))); trivial),fun V De _=>aP5 (al zero_27 G fun b7 => oh G G G G) (al zero_27 G fun b7 => oh G G G G) (al zero_27 G fun b7 => mtL 2 G<|mtL 1 G<|mtL 2 G<|oh G G G G) (al zero_27 G fun b7 => mtL 2 G<|mtL 1 G<|mtL 2 G<|oh G G G G) (al zero_27 G fun b7 => mtL 2 G<|mtL 1 G<|mtL 2 G<|oh G G G G),?_⟩
    refine ⟨fun V De hV=>?_,?_⟩
    ·
     repeat
      refine aC ?_ ?_
      ·
       obtain ⟨e3, o30, o31, _⟩ := hV.mem 3 (mE G) rfl
       exact stW 1 (us := cChart (l.getD 0 default).fChart (cel (V 3) 1) (cel (V 3) 11)) (congrArg some (hV.mem 9 (mE G) G)) (congrArg some e3) G (Rg G) (by simp only [List.all_cons, List.all_nil, Bool.and_true, o30, o31]; rfl) G<|nl (od0H G G (SubD.tail (SubD.tail Sr)))
     trivial
    exact ⟨fun V De _=>(by (repeat (refine aC ?_ ?_; exact asg G G<|nl (odH G G G trivial Sn Sr))); trivial),trivial⟩
   ·
    obtain ⟨e3, o30, o31, wC⟩ := hV.mem 3 (by decide) rfl rfl
    have e9 : V 9 = .pointer (some ⟨ptrB (V 9), 0, none⟩) := hV.mem 9 (by decide) rfl rfl
    refine wD [2,3,7] G<|?_
    generalize ptrB (V 9) = b7 at e9 ⊢
    rw [e9]
    generalize cel (V 3) 1 = k0
    generalize cel (V 3) 11 = k1
    generalize V 11 = v38
    refine nx<|sq<|qg<|mv G G<|slF 2 1 G G slt_75 G G (by omega) G fun v40 => lnP 0 G G Tryz.underlying75 G fun l41 => mv G G<|nl<|nx<|bk<|lpE (σ := Nat × Value × Value) [(2, _), (7, _), (8, _), (40, _), (41, _)] _ (fun s C => (42, .int .i64 (s.1 : Int)) :: C) (fun s => [row 55 v38 (stF l s.1), bl b7 27 (cChart (chF l s.1) s.2.1 s.2.2), bl b2 27 (cChart zchart nS nS), fz X w]) (fun s Dc => ⟨s.2.1, (chF l s.1).fPlaces⟩ :: ⟨s.2.2, (chF l s.1).fMarks⟩ :: Dc) (fun s => s.1 ≤ (l.drop 1).length ∧ (chF l s.1).wf) (fun s => (l.drop 1).length - s.1) (0, k0, k1) (Gs G) (Sc 0 G (Sc 3 G Sn)) ⟨Nat.zero_le _, wC⟩ (Gs G) G (Sc 1 G (Sc 2 G (Sc 0 G (Sc 3 G Sn)))) ?_
    rintro ⟨j, k0, k1⟩ ⟨hj, wC⟩
    simp only at hj wC
    show WC _ _ _ [(42, .int .i64 ((j : Int))), (2, _), (7, _), (8, _), (40, _), (41, _)] [row 55 v38 (stF l j), bl b7 27 (cChart (chF l j) k0 k1), bl b2 27 (cChart zchart nS nS), fz X w] _
    refine sa 1 G<|sq<|cdP G (fun h43 => ?_) (fun h43 => ?_)
    ·
     have he7 : ((l.drop 1).getD j default).fStates.length = 7 := hl7 _ (drop_getD (by omega))
     have he8 : ((l.drop 1).getD (j : Int).toNat default).fStates.length = 7 := he7
     have hul : ∀ k, (upS ((l.drop 1).getD j default) (stF l j) k).length = 7 := fun k => (upS_len _ _ k).trans (hsl j)
     refine sk<|nx<|sq<|bk<|qg<|ixP 2 G G G slt_75 (by omega) (show (l.drop 1)[(j : Int).toNat]? = some ((l.drop 1).getD j default) from getDE (d := default) (by omega)) G fun v44 => ldS 0 G G (Rg G) G fun q45 w45 => ?_
     obtain ⟨q45_0, q45_1, q45_2, q45_3, q45_4⟩ := q45
     refine al zero_32 G fun b10 => oc 1 G fun o_q45_0 => oc 2 G fun o_q45_1 => oc 3 G fun o_q45_2 => oc 4 G fun o_q45_3 => oc 5 G fun o_q45_4 => stW 0 (us := (cScene (((l.drop 1).getD j default)) q45_0 q45_1 q45_2 q45_3 q45_4)) G G G (Rg G) (by simp only [List.all_cons, List.all_nil, Bool.and_true, o_q45_0, o_q45_1, o_q45_2, o_q45_3, o_q45_4]; rfl) G<|nl<|nx<|sq<|qg<|ru 2 G<|rl 4 [0,2] G G<|nl<|nx<|cdP G (fun h51 => ?_) (fun h51 => ?_)
     ·
      refine rg<|ru 1 G<|ldM 0 (cChart (((l.drop 1).getD j default).fChart) q45_0 q45_1) G G (Rg G) G G<|oc 1 G fun o_q45_0 => oc 2 G fun o_q45_1 => stW 2 (us := (cChart (((l.drop 1).getD j default).fChart) q45_0 q45_1)) G G G (Rg G) (by simp only [List.all_cons, List.all_nil, Bool.and_true, o_q45_0, o_q45_1]; rfl) G<|nl<|nx<|qg<|rl 2 [0] G G<|lnP 3 G G Tryz.underlying28 G fun l56 => mv G G<|nl<|nx<|bk<|lpE (σ := Nat) [(2, _), (7, _), (8, _), (40, _), (41, _), (42, _), (55, _), (56, _)] _ (fun s C => (57, .int .i64 (s : Int)) :: C) (fun s => [bl b10 32 (cScene ((l.drop 1).getD j default) q45_0 q45_1 q45_2 q45_3 q45_4), row 55 v38 (upS ((l.drop 1).getD j default) (stF l j) s), bl b7 27 (cChart ((l.drop 1).getD j default).fChart q45_0 q45_1), bl b2 27 (cChart zchart nS nS), fz X w]) (fun _ Dc => Dc) (fun s => s ≤ ((l.drop 1).getD j default).fStates.length) (fun s => ((l.drop 1).getD j default).fStates.length - s) 0 (Gs G) (Sc 1 G (Sc 2 G (Sc 3 G (Sc 4 G (Sc 5 G (Sc 9 G (Sc 7 G (Sc 8 G (Sc 10 G Sn))))))))) (Nat.zero_le _) (Gs G) G (Sc 1 G (Sc 2 G (Sc 3 G (Sc 4 G (Sc 5 G (Sc 9 G (Sc 7 G (Sc 8 G (Sc 10 G Sn))))))))) ?_
      intro i hi
      show WC _ _ _ [(57, .int .i64 ((i : Int))), (2, _), (7, _), (8, _), (40, _), (41, _), (42, _), (55, _), (56, _)] [bl b10 32 (cScene ((l.drop 1).getD j default) q45_0 q45_1 q45_2 q45_3 q45_4), row 55 v38 (upS ((l.drop 1).getD j default) (stF l j) i), bl b7 27 (cChart ((l.drop 1).getD j default).fChart q45_0 q45_1), bl b2 27 (cChart zchart nS nS), fz X w] _
      refine sa 1 G<|sq<|cdP G (fun h58 => ?_) (fun h58 => ?_)
      ·
       have hui := hul i
       refine sk<|nx<|sq<|bk<|qg<|mv G G<|ixQ 2 G G G slt_28 G fun v60 => ldS 0 G G (Rg G) G fun q61 w61 => ?_
       obtain ⟨q61_0, q61_1, q61_2, q61_3, q61_4, q61_5⟩ := q61
       refine al zero_55 G fun b12 => ru 1 G<|oc 1 G fun o_q61_0 => oc 2 G fun o_q61_1 => oc 3 G fun o_q61_2 => oc 4 G fun o_q61_3 => oc 5 G fun o_q61_4 => oc 6 G fun o_q61_5 => stW 0 (us := (cState ((((l.drop 1).getD j default).fStates.getD i default)) q61_0 q61_1 q61_2 q61_3 q61_4 q61_5)) G G G (Rg G) (by simp only [List.all_cons, List.all_nil, Bool.and_true, o_q61_0, o_q61_1, o_q61_2, o_q61_3, o_q61_4, o_q61_5]; rfl) G<|nl<|nx<|sq<|rgQ mixed (by kernel_rfl)<|ru 1 G<|rl 3 [0] G G<|ixN 2 (i) G G G slt_28 (by omega) (by omega) G<|faE 2 G G (by omega) (Fg G) G<|ldE (s := sState) 2 (i) 1 (fun _ => .int .i64 ((upS ((l.drop 1).getD j default) (stF l j) i).getD (i) default).fIndex) G G gE (fun _ => G) (Og G) G fun q68 w68 => ?_
       obtain ⟨q68_0, q68_1, q68_2, q68_3, q68_4, q68_5⟩ := q68
       refine ru 1 G<|nlQ<|nx<|cdP G (fun h69 => ?_) (fun h69 => ?_)
       ·
        refine rg<|ru 2 G<|ldM 0 (cState ((((l.drop 1).getD j default).fStates.getD i default)) q61_0 q61_1 q61_2 q61_3 q61_4 q61_5) G G (Rg G) G G<|ixN 2 (i) G G G slt_28 (by omega) (by omega) G<|stE (s := sState) 2 (i) (ov := (((l.drop 1).getD j default).fStates.getD i default)) ⟨q61_0, q61_1, q61_2, q61_3, q61_4, q61_5⟩ G G G (by omega) (Rg G) (Sc 7 G (Sc 8 G (Sc 9 G (Sc 10 G (Sc 11 G (Sc 12 G Sn)))))) w61<|nl<|bN<|nx<|rg<|adI G G inI G<|mv G G<|nl<|dpQ ?_
        rw [show (upS ((l.drop 1).getD j default) (stF l j) i).set i (((l.drop 1).getD j default).fStates.getD i default) = upS ((l.drop 1).getD j default) (stF l j) (i + 1) from by rw [upS, if_pos h69]]
        exact ag (i + 1) (by omega) (by omega) (Gs G) G (Si [14,15,16,17,18,19,20,21,22] G)
       ·
        refine sk<|bN<|nx<|rg<|adI G G inI G<|mv G G<|nl<|dpQ ?_
        rw [show upS ((l.drop 1).getD j default) (stF l j) i = upS ((l.drop 1).getD j default) (stF l j) (i + 1) from by rw [upS, if_neg h69]]
        exact ag (i + 1) (by omega) (by omega) (Gs G) G (Si [14,15,16,17,18,19,20,21,22] G)
      ·
       obtain rfl : i = ((l.drop 1).getD j default).fStates.length := by omega
       refine ex<|tE<|tE<|bE<|bN<|nx<|rg<|adI G G inI G<|mv G G<|nl<|dpQ ?_
       rw [show ((l.drop 1).getD j default).fChart = chF l (j + 1) from by rw [chF, upC, if_pos h51]]
       exact ag ((j + 1, q45_0, q45_1) : Nat × Value × Value) ⟨by show j + 1 ≤ (l.drop 1).length; omega, by show (chF l (j + 1)).wf; rw [chF, upC, if_pos h51]; exact w45.2.2.1⟩ (by show (l.drop 1).length - (j + 1) < (l.drop 1).length - j; omega) (Gs G) G (Si [0,1,5,8] G)
     ·
      refine sk<|nx<|qg<|rl 2 [0] G G<|lnP 3 G G Tryz.underlying28 G fun l56 => mv G G<|nl<|nx<|bk<|lpE (σ := Nat) [(2, _), (7, _), (8, _), (40, _), (41, _), (42, _), (55, _), (56, _)] _ (fun s C => (57, .int .i64 (s : Int)) :: C) (fun s => [bl b10 32 (cScene ((l.drop 1).getD j default) q45_0 q45_1 q45_2 q45_3 q45_4), row 55 v38 (upS ((l.drop 1).getD j default) (stF l j) s), bl b7 27 (cChart (chF l j) k0 k1), bl b2 27 (cChart zchart nS nS), fz X w]) (fun _ Dc => Dc) (fun s => s ≤ ((l.drop 1).getD j default).fStates.length) (fun s => ((l.drop 1).getD j default).fStates.length - s) 0 (Gs G) (Sc 1 G (Sc 2 G (Sc 3 G (Sc 4 G (Sc 5 G (Sc 9 G (Sc 7 G (Sc 8 G (Sc 10 G Sn))))))))) (Nat.zero_le _) (Gs G) G (Sc 1 G (Sc 2 G (Sc 3 G (Sc 4 G (Sc 5 G (Sc 9 G (Sc 7 G (Sc 8 G (Sc 10 G Sn))))))))) ?_
      intro i hi
      show WC _ _ _ [(57, .int .i64 ((i : Int))), (2, _), (7, _), (8, _), (40, _), (41, _), (42, _), (55, _), (56, _)] [bl b10 32 (cScene ((l.drop 1).getD j default) q45_0 q45_1 q45_2 q45_3 q45_4), row 55 v38 (upS ((l.drop 1).getD j default) (stF l j) i), bl b7 27 (cChart (chF l j) k0 k1), bl b2 27 (cChart zchart nS nS), fz X w] _
      refine sa 1 G<|sq<|cdP G (fun h58 => ?_) (fun h58 => ?_)
      ·
       have hui := hul i
       refine sk<|nx<|sq<|bk<|qg<|mv G G<|ixQ 2 G G G slt_28 G fun v60 => ldS 0 G G (Rg G) G fun q61 w61 => ?_
       obtain ⟨q61_0, q61_1, q61_2, q61_3, q61_4, q61_5⟩ := q61
       refine al zero_55 G fun b12 => ru 1 G<|oc 1 G fun o_q61_0 => oc 2 G fun o_q61_1 => oc 3 G fun o_q61_2 => oc 4 G fun o_q61_3 => oc 5 G fun o_q61_4 => oc 6 G fun o_q61_5 => stW 0 (us := (cState ((((l.drop 1).getD j default).fStates.getD i default)) q61_0 q61_1 q61_2 q61_3 q61_4 q61_5)) G G G (Rg G) (by simp only [List.all_cons, List.all_nil, Bool.and_true, o_q61_0, o_q61_1, o_q61_2, o_q61_3, o_q61_4, o_q61_5]; rfl) G<|nl<|nx<|sq<|rgQ mixed (by kernel_rfl)<|ru 1 G<|rl 3 [0] G G<|ixN 2 (i) G G G slt_28 (by omega) (by omega) G<|faE 2 G G (by omega) (Fg G) G<|ldE (s := sState) 2 (i) 1 (fun _ => .int .i64 ((upS ((l.drop 1).getD j default) (stF l j) i).getD (i) default).fIndex) G G gE (fun _ => G) (Og G) G fun q68 w68 => ?_
       obtain ⟨q68_0, q68_1, q68_2, q68_3, q68_4, q68_5⟩ := q68
       refine ru 1 G<|nlQ<|nx<|cdP G (fun h69 => ?_) (fun h69 => ?_)
       ·
        refine rg<|ru 2 G<|ldM 0 (cState ((((l.drop 1).getD j default).fStates.getD i default)) q61_0 q61_1 q61_2 q61_3 q61_4 q61_5) G G (Rg G) G G<|ixN 2 (i) G G G slt_28 (by omega) (by omega) G<|stE (s := sState) 2 (i) (ov := (((l.drop 1).getD j default).fStates.getD i default)) ⟨q61_0, q61_1, q61_2, q61_3, q61_4, q61_5⟩ G G G (by omega) (Rg G) (Sc 7 G (Sc 8 G (Sc 9 G (Sc 10 G (Sc 11 G (Sc 12 G Sn)))))) w61<|nl<|bN<|nx<|rg<|adI G G inI G<|mv G G<|nl<|dpQ ?_
        rw [show (upS ((l.drop 1).getD j default) (stF l j) i).set i (((l.drop 1).getD j default).fStates.getD i default) = upS ((l.drop 1).getD j default) (stF l j) (i + 1) from by rw [upS, if_pos h69]]
        exact ag (i + 1) (by omega) (by omega) (Gs G) G (Si [14,15,16,17,18,19,20,21,22] G)
       ·
        refine sk<|bN<|nx<|rg<|adI G G inI G<|mv G G<|nl<|dpQ ?_
        rw [show upS ((l.drop 1).getD j default) (stF l j) i = upS ((l.drop 1).getD j default) (stF l j) (i + 1) from by rw [upS, if_neg h69]]
        exact ag (i + 1) (by omega) (by omega) (Gs G) G (Si [14,15,16,17,18,19,20,21,22] G)
      ·
       obtain rfl : i = ((l.drop 1).getD j default).fStates.length := by omega
       refine ex<|tE<|tE<|bE<|bN<|nx<|rg<|adI G G inI G<|mv G G<|nl<|dpQ ?_
       rw [show chF l j = chF l (j + 1) from by rw [chF, upC, if_neg h51]]
       exact ag ((j + 1, k0, k1) : Nat × Value × Value) ⟨by show j + 1 ≤ (l.drop 1).length; omega, by show (chF l (j + 1)).wf; rw [chF, upC, if_neg h51]; exact wC⟩ (by show (l.drop 1).length - (j + 1) < (l.drop 1).length - j; omega) (Gs G) G (Si [6,7,5,8] G)
    ·
     have hjn : j = (l.drop 1).length := by omega
     have hpl := plan_parts (chF_mem (P := fun c => planP c = true) (fun v hv => (dright_parts (hrm v hv)).2) (by omega) j hj)
     have hSR := stF_mem (P := fun s => srightP s = true) (fun v hv => (dright_parts (hrm v hv)).1) (by omega) j hj
     have hs7 := hsl j
     refine ex<|tE<|tE<|bE<|nx<|sq<|rgZ (L := [row 55 v38 (stF l j), bl b7 27 (cChart ((chF l j)) k0 k1), bl b2 27 zv9, fz X w]) [(1,.ld 1),(4,.ld 1)] [(2,⟨none,fun u => [⟨u, (chF l j).fPlaces⟩],true⟩),(5,⟨none,fun u => [⟨u, (chF l j).fMarks⟩],true⟩),(7,⟨none,fun _ => [],true⟩),(9,⟨none,fun _ => [],true⟩)] [] [] [(7,fun L zz => rpE 2 (bl b7 27 [.int .i64 ((chF l j).fIndex), (zz 2), .int .i64 ((chF l j).fNext), .int .i64 ((chF l j).fLast), .int .i64 ((chF l j).fPlan.fNumber), .int .i64 ((chF l j).fPlan.fFrom), .int .i64 ((chF l j).fPlan.fTo), .string (chF l j).fPlan.fLo, .string (chF l j).fPlan.fHi, .int .i64 ((chF l j).fPlan.fClient), .int .i64 ((chF l j).fPlan.fSeq), k1]) L),(9,fun L zz => ceE 2 b7 11 (zz 5) L)] (fun _ => G) (fun _ => by kernel_rfl) ⟨fun V De _=>aP1 (cf (Ep.clonePl_c _ _ hpl.1) (Kg G) G (Sc 0 G Sn) G fun _ v78 _ => nl (odH G G G trivial (Sc 0 G Sn) (SubD.tail Sr))),fun V De _=>aP1 (cf (cloneMk_c _ _ (Nat.le_trans hpl.2 (by decide))) (Kg G) G (Sc 1 G Sn) G fun _ v81 _ => nl (odH G G G trivial (Sc 0 G Sn) (SubD.tail Sr))),fun V De _=>aP1 (stL 1 0 G G G G (Og G) (nlt G)<|nl (od0H G G (SubD.tail Sr))),fun V De _=>aP1 (stL 1 0 G G G G (Og G) (nlt G)<|nl (od0H G G (SubD.tail Sr))),trivial⟩ fun V _ => ?_
     generalize V 2 = v2
     generalize V 5 = v5
     refine nx<|sq<|qg<|mv G G<|lnR 0 G G Tryz.underlying28 G fun l85 => mv G G<|nl<|nx<|bk<|lpC (σ := Nat) [(2, _), (7, _), (8, _), (84, _), (85, _)] _ (fun i C => (86, .int .i64 (i : Int)) :: C) (fun i => i ≤ (stF l j).length) (fun i => (stF l j).length - i) 0 (Gs G) (Sc 0 G (Sc 1 G (Sc 5 G Sn))) (Nat.zero_le _) (Gs G) ?_
     intro i hi
     refine sa 1 G<|sq<|cdP G (fun h87 => ?_) (fun h87 => ?_)
     ·
      refine sk<|nx<|sq<|bk<|qg<|mv G G<|ixN 0 (i) G G G slt_28 (by omega) (by omega) G<|ldR (s := sState) 0 (i) G G gE (Rg G) G fun q90 w90 => ?_
      obtain ⟨q90_0, q90_1, q90_2, q90_3, q90_4, q90_5⟩ := q90
      refine al zero_55 G fun b14 => ru 1 G<|oc 1 G fun o_q90_0 => oc 2 G fun o_q90_1 => oc 3 G fun o_q90_2 => oc 4 G fun o_q90_3 => oc 5 G fun o_q90_4 => oc 6 G fun o_q90_5 => stW 0 (us := (cState (((stF l j).getD (i) default)) q90_0 q90_1 q90_2 q90_3 q90_4 q90_5)) G G G (Rg G) (by simp only [List.all_cons, List.all_nil, Bool.and_true, o_q90_0, o_q90_1, o_q90_2, o_q90_3, o_q90_4, o_q90_5]; rfl) G<|nl<|nx<|rg<|ru 2 G<|ldM 0 (cState (((stF l j).getD (i) default)) q90_0 q90_1 q90_2 q90_3 q90_4 q90_5) G G (Rg G) G G<|cf (own_c _ _ _ _ _ _ _ w90 (bigS (hSR _ (getD_mem (by omega))))) (Kg G) G (Si [1,2,3,4,5,6] G) G fun y94 v94 h94 => ?_
      obtain ⟨e94, w94⟩ := h94
      subst e94
      obtain ⟨z_0, z_1, z_2, z_3, z_4, z_5⟩ := y94
      refine ixN 1 (i) G G G slt_28 (by omega) (by omega) G<|stE (s := sState) 1 (i) (ov := ((stF l j).getD i default)) ⟨z_0, z_1, z_2, z_3, z_4, z_5⟩ G G G (by omega) (Rg G) (Sc 0 G (Sc 1 G (Sc 2 G (Sc 3 G (Sc 4 G (Sc 5 G Sn)))))) w94<|nl<|bN<|nx<|rg<|adI G G inI G<|mv G G<|nl<|dpQ ?_
      rw [show (stF l j).set i ((stF l j).getD i default) = (stF l j) from set_getD_self (by omega)]
      exact ag (i + 1) (by omega) (by omega) (Gs G) G (Si [13,14,15] G)
     ·
      have e1 : chF l j = C := by rw [← hC, hjn, furC, if_neg hn0, if_pos hr]
      have e2 : stF l j = Sx := by rw [← hS, hjn, furS, if_neg hn0, if_pos hr]
      have e3 : (0 : Int) = Ex := by rw [← hE, furE, if_neg hn0, if_pos hr]
      subst e1 e2 e3
      exact ex<|tE<|tE<|bE<|nx<|sq<|frR<|rg<|ldM 0 (cChart ((⟨(chF l j).fIndex, (chF l j).fPlaces, (chF l j).fNext, (chF l j).fLast, (⟨(chF l j).fPlan.fNumber, (chF l j).fPlan.fFrom, (chF l j).fPlan.fTo, (chF l j).fPlan.fLo, (chF l j).fPlan.fHi, (chF l j).fPlan.fClient, (chF l j).fPlan.fSeq⟩ : TPlan), (chF l j).fMarks⟩ : TChart)) v2 v5) G G (Rg G) G G<|mv G G<|oc 1 G fun o_v2 => oc 2 G fun o_v5 => stW 1 (us := (cChart ((⟨(chF l j).fIndex, (chF l j).fPlaces, (chF l j).fNext, (chF l j).fLast, (⟨(chF l j).fPlan.fNumber, (chF l j).fPlan.fFrom, (chF l j).fPlan.fTo, (chF l j).fPlan.fLo, (chF l j).fPlan.fHi, (chF l j).fPlan.fClient, (chF l j).fPlan.fSeq⟩ : TPlan), (chF l j).fMarks⟩ : TChart)) v2 v5)) G G G (Rg G) (by simp only [List.all_cons, List.all_nil, Bool.and_true, o_v2, o_v5]; rfl) G<|ru 1 G<|ru 1 G<|nl<|nx<|rt<|fRG ⟨v2, v5, v38⟩ [_, _] (rCTT 1 G G G G G (Rg G)) (by exact ⟨rfl, wC⟩) G (Sc 1 G (Sc 2 G (Sc 0 G Sn)))
theorem fur25_c (v_l : Value) (l : List TScene) (C : TChart) (Sx : List TState) (Ex : Int) (hq : ∀ v ∈ l, drightP v = right22 v) (hC : furC l = C) (hS : furS l = Sx) (hE : furE l = Ex) : Fnc Pg 28 [v_l] [] [⟨v_l, l⟩] (fun (y : Value × Value × Value) u => u = .tuple #[.agg (cChart C y.1 y.2.1).toArray, y.2.2, .int .i64 Ex] ∧ C.wf) (fun _ _ => []) (fun y _ => [⟨y.1, C.fPlaces⟩, ⟨y.2.1, C.fMarks⟩, ⟨y.2.2, Sx⟩]) := by
 refine Fnc.proof Tryz.func28 G 90 G G fun X w => gtC (q := l.length ≤ 9223372036854775807) (fun S w h => list_len (h _ (List.mem_of_getElem? (i := 0) G))) fun hll => qg<|al zero_27 G fun b2 => ru 2 G<|nl<|nx<|sq<|qg<|mv G G<|lnP 0 G G Tryz.underlying75 G fun l11 => ru 1 G<|nl<|nx<|cdP G (fun h12 => ?_) (fun h12 => ?_)
 ·
  have hl0 : l.length = 0 := by omega
  have e1 : zchart = C := by rw [← hC, furC, if_pos hl0]
  have e2 : ([] : List TState) = Sx := by rw [← hS, furS, if_pos hl0]
  have e3 : (1 : Int) = Ex := by rw [← hE, furE, if_pos hl0]
  subst e1 e2 e3
  exact emC (α := TPlace)<|emC (α := TMark)<|emC (α := TState)<|qg<|bd (ps := []) (cs := (cChart ((⟨0, [], 0, 0, pZ, []⟩ : TChart)) nS nS)) (by rfl) (by kernel_rfl) G<|stW 0 (us := (cChart ((⟨0, [], 0, 0, pZ, []⟩ : TChart)) nS nS)) G G G (Rg G) G G<|ru 2 G<|nl<|nx<|rt<|tR<|fRG ⟨nS, nS, nS⟩ [_] (rCTT 0 G G G G G (Rg G)) (by exact ⟨rfl, zchart_wf⟩) G (Sc 2 G (Sc 1 G (Sc 0 G Sn)))
 ·
  have hn0 : ¬ l.length = 0 := by omega
  refine sk<|nx<|sq<|sa 1 G<|bk<|lpC (σ := Nat) [(0, _), (2, _)] _ (fun i C => (5, .int .i64 (i : Int)) :: C) (fun i => i ≤ l.length ∧ (∀ j, j < i → drightP (l.getD j default) = true)) (fun i => l.length - i) 0 (Gs G) (Sc 0 G Sn) ⟨Nat.zero_le _, fun j hj => absurd hj (Nat.not_lt_zero j)⟩ (Gs G) ?_
  rintro i ⟨hi, hall⟩
  refine sq<|qg<|ru 2 G<|lnP 0 G G Tryz.underlying75 G fun l16 => ru 1 G<|nl<|nx<|cdP G (fun h17 => ?_) (fun h17 => ?_)
  ·
   refine sk<|nx<|sq<|bk<|qg<|ru 2 G<|ixQ 0 G G G slt_75 G fun v22 => ldS 0 G G (Rg G) G fun q23 w23 => ?_
   obtain ⟨q23_0, q23_1, q23_2, q23_3, q23_4⟩ := q23
   refine cfv (right22_c _ _ _ _ _ _ w23) (Kg G) G (Si [1,2,3,4,5] G) G<|nt G G<|nl<|nx<|cdB G (fun h25 => ?_) (fun h25 => ?_)
   ·
    have hr : ¬ rightAll l = true := by rw [rightAll, allI_false i (by omega) ((hq _ (getD_mem (by omega))).trans (by simpa using h25))]; decide
    have e1 : zchart = C := by rw [← hC, furC, if_neg hn0, if_neg hr]
    have e2 : ([] : List TState) = Sx := by rw [← hS, furS, if_neg hn0, if_neg hr]
    have e3 : (21 : Int) = Ex := by rw [← hE, furE, if_neg hn0, if_neg hr]
    subst e1 e2 e3
    exact emC (α := TPlace)<|emC (α := TMark)<|emC (α := TState)<|qg<|bd (ps := []) (cs := (cChart ((⟨0, [], 0, 0, pZ, []⟩ : TChart)) nS nS)) (by rfl) (by kernel_rfl) G<|stW 0 (us := (cChart ((⟨0, [], 0, 0, pZ, []⟩ : TChart)) nS nS)) G G G (Rg G) G G<|ru 2 G<|nl<|nx<|rt<|bR<|tR<|tR<|bR<|tR<|fRG ⟨nS, nS, nS⟩ [_] (rCTT 0 G G G G G (Rg G)) (by exact ⟨rfl, zchart_wf⟩) G (Sc 2 G (Sc 1 G (Sc 0 G Sn)))
   ·
    refine sk<|bN<|nx<|rg<|mv G G<|adI G G inI G<|ru 1 G<|nl ?_
    exact ag (i + 1) ⟨(by omega), (all_snoc hall (((hq _ (getD_mem (by omega))).trans (by simpa using h25))))⟩ (by omega) (Gs G) G (Sc 7 G Sn)
  ·
   have hr : rightAll l = true := allI_true (fun k hk => hall k (by omega))
   have hrm := right_mem hr
   have hl7 : ∀ v ∈ l, v.fStates.length = 7 := fun v hv => dright_len (hrm v hv)
   have h07 : (l.getD 0 default).fStates.length = 7 := hl7 _ (getD_mem (by omega))
   have h07b : (l.getD (0 : Int).toNat default).fStates.length = 7 := h07
   have hsl : ∀ k, (stF l k).length = 7 := fun k => (stF_len l k).trans h07
   have hld : (l.drop 1).length = l.length - 1 := List.length_drop
   refine ex<|tE<|tE<|bE<|nx<|qg<|mv G G<|ixQ 0 G G G slt_75 G fun v28 => faP (α := TScene) (β := TChart) 0 (fun x : TScene => x.fChart) G G (Fg G) pScene_2 G fun v29 => ldS 0 G G (Rg G) G fun q30 w30 => ?_
   obtain ⟨q30_0, q30_1⟩ := q30
   refine al zero_27 G fun b6 => oc 1 G fun o_q30_0 => oc 2 G fun o_q30_1 => stW 0 (us := (cChart ((l.getD 0 default).fChart) q30_0 q30_1)) G G G (Rg G) (by simp only [List.all_cons, List.all_nil, Bool.and_true, o_q30_0, o_q30_1]; rfl) G<|nl<|nx<|qg<|mv G G<|ixQ 5 G G G slt_75 G fun v32 => faP (α := TScene) (β := List TState) 0 (fun x : TScene => x.fStates) G G (Fg G) pScene_3 G fun v33 => ldL 0 G G (Og G) G fun v34 => rwL TState 55<|ap 0 0 G G G G app_28 (by simp only [List.length_nil]; omega) (by simp only [List.length_nil]; omega) G fun v35 => ru 1 G<|nl<|nx<|sq<|sa 1 G<|bk<|lpE (σ := Nat × Value × Value) [(0, _), (2, _), (6, _), (7, _)] _ (fun s C => (8, .int .i64 ((s.1 + 1 : Nat) : Int)) :: C) (fun s => [row 55 v35 (stF l s.1), bl b6 27 (cChart (chF l s.1) s.2.1 s.2.2), bl b2 27 (cChart zchart nS nS), fz X w]) (fun s Dc => ⟨s.2.1, (chF l s.1).fPlaces⟩ :: ⟨s.2.2, (chF l s.1).fMarks⟩ :: Dc) (fun s => s.1 ≤ (l.drop 1).length ∧ (chF l s.1).wf) (fun s => (l.drop 1).length - s.1) (0, q30_0, q30_1) (Gs G) (Sc 8 G Sn) ⟨Nat.zero_le _, w30⟩ (Gs G) G (Sc 4 G (Sc 5 G (Sc 8 G Sn))) ?_
   rintro ⟨j, k0, k1⟩ ⟨hj, wC⟩
   simp only at hj wC
   show WC _ _ _ [(8, .int .i64 (((j + 1 : Nat) : Int))), (0, _), (2, _), (6, _), (7, _)] [row 55 v35 (stF l j), bl b6 27 (cChart (chF l j) k0 k1), bl b2 27 (cChart zchart nS nS), fz X w] _
   refine sq<|qg<|ru 2 G<|lnP 2 G G Tryz.underlying75 G fun l38 => ru 1 G<|nl<|nx<|cdP G (fun h39 => ?_) (fun h39 => ?_)
   ·
    have he7 : (l.getD (j + 1) default).fStates.length = 7 := hl7 _ (getD_mem (by omega))
    have he7b : (l.getD ((j + 1 : Nat) : Int).toNat default).fStates.length = 7 := he7
    have hul : ∀ k, (upS (l.getD (j + 1) default) (stF l j) k).length = 7 := fun k => (upS_len _ _ k).trans (hsl j)
    refine sk<|nx<|sq<|bk<|sq<|sq<|rgQ mixed (by kernel_rfl)<|ru 2 G<|ixQ 2 G G G slt_75 G fun v44 => faP (α := TScene) (β := TChart) 0 (fun x : TScene => x.fChart) G G (Fg G) pScene_2 G fun v45 => faP (α := TChart) (β := Int) 0 (fun x : TChart => x.fIndex) G G (Fg G) pChart_0 G fun v46 => ldV 0 G G (Og G) G fun w47 => rl 3 [1] G G<|nlQ<|nx<|cdP G (fun h50 => ?_) (fun h50 => ?_)
    ·
     refine rg<|ru 2 G<|ixQ 5 G G G slt_75 G fun v53 => faP (α := TScene) (β := TChart) 0 (fun x : TScene => x.fChart) G G (Fg G) pScene_2 G fun v54 => ldS 0 G G (Rg G) G fun q55 w55 => ?_
     obtain ⟨q55_0, q55_1⟩ := q55
     refine oc 1 G fun o_q55_0 => oc 2 G fun o_q55_1 => stW 1 (us := (cChart ((l.getD (j + 1) default).fChart) q55_0 q55_1)) G G G (Rg G) (by simp only [List.all_cons, List.all_nil, Bool.and_true, o_q55_0, o_q55_1]; rfl) G<|nl<|nx<|sa 1 G<|bk<|lpE (σ := Nat) [(0, _), (2, _), (6, _), (7, _), (8, _)] _ (fun s C => (9, .int .i64 (s : Int)) :: C) (fun s => [row 55 v35 (upS (l.getD (j + 1) default) (stF l j) s), bl b6 27 (cChart (l.getD (j + 1) default).fChart q55_0 q55_1), bl b2 27 (cChart zchart nS nS), fz X w]) (fun _ Dc => Dc) (fun s => s ≤ (l.getD (j + 1) default).fStates.length) (fun s => (l.getD (j + 1) default).fStates.length - s) 0 (Gs G) (Sc 1 G (Sc 2 G (Sc 10 G Sn))) (Nat.zero_le _) (Gs G) G (Sc 1 G (Sc 2 G (Sc 10 G Sn))) ?_
     intro i hi
     show WC _ _ _ [(9, .int .i64 ((i : Int))), (0, _), (2, _), (6, _), (7, _), (8, _)] [row 55 v35 (upS (l.getD (j + 1) default) (stF l j) i), bl b6 27 (cChart (l.getD (j + 1) default).fChart q55_0 q55_1), bl b2 27 (cChart zchart nS nS), fz X w] _
     refine sq<|qg<|ru 2 G ?_
     have hui := hul i
     refine lnR 0 G G Tryz.underlying28 G fun l58 => ru 1 G<|nl<|nx<|cdP G (fun h59 => ?_) (fun h59 => ?_)
     ·
      refine sk<|nx<|sq<|bk<|sq<|rgQ mixed (by kernel_rfl)<|ru 2 G<|ixQ 2 G G G slt_75 G fun v64 => faP (α := TScene) (β := List TState) 0 (fun x : TScene => x.fStates) G G (Fg G) pScene_3 G fun v65 => ldL 0 G G (Og G) G fun v66 => mv G G<|ixQ 0 G G G slt_28 G fun v68 => faP (α := TState) (β := Int) 0 (fun x : TState => x.fIndex) G G (Fg G) pState_1 G fun v69 => ldV 0 G G (Og G) G fun w70 => ?_
      refine ru 2 G<|ixN 0 (i) G G G slt_28 (by omega) (by omega) G<|faE 0 G G (by omega) (Fg G) G<|ldE (s := sState) 0 (i) 1 (fun _ => .int .i64 ((upS (l.getD (j + 1) default) (stF l j) i).getD (i) default).fIndex) G G gE (fun _ => G) (Og G) G fun q75 w75 => ?_
      obtain ⟨q75_0, q75_1, q75_2, q75_3, q75_4, q75_5⟩ := q75
      refine ru 1 G<|nlQ<|nx<|cdP G (fun h76 => ?_) (fun h76 => ?_)
      ·
       have h76 : ((l.getD (j + 1) default).fStates.getD i default).fIndex > ((upS (l.getD (j + 1) default) (stF l j) i).getD i default).fIndex := h76
       refine rg<|ru 4 G<|ixQ 13 G G G slt_75 G fun v81 => faP (α := TScene) (β := List TState) 0 (fun x : TScene => x.fStates) G G (Fg G) pScene_3 G fun v82 => ldL 0 G G (Og G) G fun v83 => mv G G<|ixQ 0 G G G slt_28 G fun v85 => ldS 0 G G (Rg G) G fun q86 w86 => ?_
       obtain ⟨q86_0, q86_1, q86_2, q86_3, q86_4, q86_5⟩ := q86
       refine ixN 0 (i) G G G slt_28 (by omega) (by omega) G<|stE (s := sState) 0 (i) (ov := ((l.getD (j + 1) default).fStates.getD i default)) ⟨q86_0, q86_1, q86_2, q86_3, q86_4, q86_5⟩ G G G (by omega) (Rg G) (Sc 1 G (Sc 2 G (Sc 3 G (Sc 4 G (Sc 5 G (Sc 6 G Sn)))))) w86<|nl<|bN<|nx<|rg<|mv G G<|adI G G inI G<|ru 1 G<|nl ?_
       rw [show (upS (l.getD (j + 1) default) (stF l j) i).set i ((l.getD (j + 1) default).fStates.getD i default) = upS (l.getD (j + 1) default) (stF l j) (i + 1) from by rw [upS, if_pos h76]]
       exact ag (i + 1) (by omega) (by omega) (Gs G) G (Si [22,23,24] G)
      ·
       have h76 : ¬ ((l.getD (j + 1) default).fStates.getD i default).fIndex > ((upS (l.getD (j + 1) default) (stF l j) i).getD i default).fIndex := h76
       refine sk<|bN<|nx<|rg<|mv G G<|adI G G inI G<|ru 1 G<|nl ?_
       rw [show upS (l.getD (j + 1) default) (stF l j) i = upS (l.getD (j + 1) default) (stF l j) (i + 1) from by rw [upS, if_neg h76]]
       exact ag (i + 1) (by omega) (by omega) (Gs G) G (Si [11,12,13] G)
     ·
      obtain rfl : i = (l.getD (j + 1) default).fStates.length := by omega
      refine ex<|tE<|tE<|bE<|bN<|nx<|rg<|mv G G<|adE (r := ((j + 1 + 1 : Nat) : Int)) G G (by omega) inI G<|ru 1 G<|nl ?_
      rw [stF_at, chF_T h50, show (l.getD ((j + 1 : Nat) : Int).toNat default).fChart = chF l (j + 1) from chF_T h50]
      exact ag ((j + 1, q55_0, q55_1) : Nat × Value × Value) ⟨by show j + 1 ≤ (l.drop 1).length; omega, by show (chF l (j + 1)).wf; rw [← chF_T h50]; exact w55⟩ (by show (l.drop 1).length - (j + 1) < (l.drop 1).length - j; omega) (Gs G) G (Si [0,1,2] G)
    ·
     refine sk<|nx<|sa 1 G<|bk<|lpE (σ := Nat) [(0, _), (2, _), (6, _), (7, _), (8, _)] _ (fun s C => (9, .int .i64 (s : Int)) :: C) (fun s => [row 55 v35 (upS (l.getD (j + 1) default) (stF l j) s), bl b6 27 (cChart (chF l j) k0 k1), bl b2 27 (cChart zchart nS nS), fz X w]) (fun _ Dc => Dc) (fun s => s ≤ (l.getD (j + 1) default).fStates.length) (fun s => (l.getD (j + 1) default).fStates.length - s) 0 (Gs G) (Sc 3 G (Sc 4 G (Sc 5 G Sn))) (Nat.zero_le _) (Gs G) G (Sc 3 G (Sc 4 G (Sc 5 G Sn))) ?_
     intro i hi
     show WC _ _ _ [(9, .int .i64 ((i : Int))), (0, _), (2, _), (6, _), (7, _), (8, _)] [row 55 v35 (upS (l.getD (j + 1) default) (stF l j) i), bl b6 27 (cChart (chF l j) k0 k1), bl b2 27 (cChart zchart nS nS), fz X w] _
     refine sq<|qg<|ru 2 G ?_
     have hui := hul i
     refine lnR 0 G G Tryz.underlying28 G fun l58 => ru 1 G<|nl<|nx<|cdP G (fun h59 => ?_) (fun h59 => ?_)
     ·
      refine sk<|nx<|sq<|bk<|sq<|rgQ mixed (by kernel_rfl)<|ru 2 G<|ixQ 2 G G G slt_75 G fun v64 => faP (α := TScene) (β := List TState) 0 (fun x : TScene => x.fStates) G G (Fg G) pScene_3 G fun v65 => ldL 0 G G (Og G) G fun v66 => mv G G<|ixQ 0 G G G slt_28 G fun v68 => faP (α := TState) (β := Int) 0 (fun x : TState => x.fIndex) G G (Fg G) pState_1 G fun v69 => ldV 0 G G (Og G) G fun w70 => ?_
      refine ru 2 G<|ixN 0 (i) G G G slt_28 (by omega) (by omega) G<|faE 0 G G (by omega) (Fg G) G<|ldE (s := sState) 0 (i) 1 (fun _ => .int .i64 ((upS (l.getD (j + 1) default) (stF l j) i).getD (i) default).fIndex) G G gE (fun _ => G) (Og G) G fun q75 w75 => ?_
      obtain ⟨q75_0, q75_1, q75_2, q75_3, q75_4, q75_5⟩ := q75
      refine ru 1 G<|nlQ<|nx<|cdP G (fun h76 => ?_) (fun h76 => ?_)
      ·
       have h76 : ((l.getD (j + 1) default).fStates.getD i default).fIndex > ((upS (l.getD (j + 1) default) (stF l j) i).getD i default).fIndex := h76
       refine rg<|ru 4 G<|ixQ 13 G G G slt_75 G fun v81 => faP (α := TScene) (β := List TState) 0 (fun x : TScene => x.fStates) G G (Fg G) pScene_3 G fun v82 => ldL 0 G G (Og G) G fun v83 => mv G G<|ixQ 0 G G G slt_28 G fun v85 => ldS 0 G G (Rg G) G fun q86 w86 => ?_
       obtain ⟨q86_0, q86_1, q86_2, q86_3, q86_4, q86_5⟩ := q86
       refine ixN 0 (i) G G G slt_28 (by omega) (by omega) G<|stE (s := sState) 0 (i) (ov := ((l.getD (j + 1) default).fStates.getD i default)) ⟨q86_0, q86_1, q86_2, q86_3, q86_4, q86_5⟩ G G G (by omega) (Rg G) (Sc 1 G (Sc 2 G (Sc 3 G (Sc 4 G (Sc 5 G (Sc 6 G Sn)))))) w86<|nl<|bN<|nx<|rg<|mv G G<|adI G G inI G<|ru 1 G<|nl ?_
       rw [show (upS (l.getD (j + 1) default) (stF l j) i).set i ((l.getD (j + 1) default).fStates.getD i default) = upS (l.getD (j + 1) default) (stF l j) (i + 1) from by rw [upS, if_pos h76]]
       exact ag (i + 1) (by omega) (by omega) (Gs G) G (Si [22,23,24] G)
      ·
       have h76 : ¬ ((l.getD (j + 1) default).fStates.getD i default).fIndex > ((upS (l.getD (j + 1) default) (stF l j) i).getD i default).fIndex := h76
       refine sk<|bN<|nx<|rg<|mv G G<|adI G G inI G<|ru 1 G<|nl ?_
       rw [show upS (l.getD (j + 1) default) (stF l j) i = upS (l.getD (j + 1) default) (stF l j) (i + 1) from by rw [upS, if_neg h76]]
       exact ag (i + 1) (by omega) (by omega) (Gs G) G (Si [11,12,13] G)
     ·
      obtain rfl : i = (l.getD (j + 1) default).fStates.length := by omega
      refine ex<|tE<|tE<|bE<|bN<|nx<|rg<|mv G G<|adE (r := ((j + 1 + 1 : Nat) : Int)) G G (by omega) inI G<|ru 1 G<|nl ?_
      rw [stF_at, chF_F h50]
      exact ag ((j + 1, k0, k1) : Nat × Value × Value) ⟨by show j + 1 ≤ (l.drop 1).length; omega, by show (chF l (j + 1)).wf; rw [← chF_F h50]; exact wC⟩ (by show (l.drop 1).length - (j + 1) < (l.drop 1).length - j; omega) (Gs G) G (Si [0,1,2] G)
   ·
    have hjn : j = (l.drop 1).length := by omega
    have e1 : chF l j = C := by rw [← hC, hjn, furC, if_neg hn0, if_pos hr]
    have e2 : stF l j = Sx := by rw [← hS, hjn, furS, if_neg hn0, if_pos hr]
    have e3 : (0 : Int) = Ex := by rw [← hE, furE, if_neg hn0, if_pos hr]
    subst e1 e2 e3
    exact ex<|tE<|tE<|bE<|nx<|sq<|frR<|rg<|ldM 0 (cChart ((chF l j)) k0 k1) G G (Rg G) G G<|mv G G<|oc 1 G fun o_k0 => oc 2 G fun o_k1 => stW 1 (us := (cChart ((chF l j)) k0 k1)) G G G (Rg G) (by simp only [List.all_cons, List.all_nil, Bool.and_true, o_k0, o_k1]; rfl) G<|ru 1 G<|ru 1 G<|nl<|nx<|rt<|fRG ⟨k0, k1, v35⟩ [_, _] (rCTT 1 G G G G G (Rg G)) (by exact ⟨rfl, wC⟩) G (Sc 1 G (Sc 2 G (Sc 0 G Sn)))
end Go.Proofs.YtmpoffijcfaalaaGreat
namespace Go.YtmpoffijcfaalaaGreat
open Go.Eng
def lookP (l : List TScene) (rr : List (List TRight)) : List TTotal × Int := if furE l = 0 then truthP (furC l) (furS l) rr else ([], furE l)
theorem awake25 : (lookP [scene1 1 3] []).2 = 0 := by kernel_rfl
theorem rdMany_all {α : Type} {rd : Rd → α × Rd} {p : α → Prop} (h : ∀ s, p (rd s).1) : ∀ (n : Nat) (s : Rd), ∀ a ∈ (rdMany rd n s).1, p a
 | 0, _, a, ha => by cases ha
 | n + 1, s, a, ha => by
  rw [rdMany] at ha
  split at ha
  · rcases List.mem_cons.1 ha with rfl | ha
    · exact h s
    · exact rdMany_all h n _ a ha
  · cases ha
theorem gdState_accs (bs : List UInt8) (s : Rd) : ∀ a ∈ (gdState bs s).1.fAccounts, a.wf := by
 unfold gdState
 simp only [bnd, rdLs]
 exact rdMany_all (fun s => gdAccount_wf bs s) _ _
theorem rdState_accs (b : List UInt8) : ∀ a ∈ (rdState b).1.fAccounts, a.wf := by
 have z : ∀ a ∈ zeroState.fAccounts, a.wf := fun a ha => absurd ha (List.not_mem_nil)
 by_cases h : errO b = 0
 · rw [rdState_ok h]
   by_cases h2 : 65536 < b.length
   · show ∀ a ∈ (stO b).fAccounts, a.wf
     rw [stO_long h2]
     exact z
   · show ∀ a ∈ (stO b).fAccounts, a.wf
     rw [stO_read h2]
     exact gdState_accs _ _
 · rw [rdState_bad h]
   exact z
theorem okS_iff {c : TChart} {ss : List TState} {rr : List (List TRight)} {n : Nat} : okS c ss rr n = true ↔ okS c ss rr 0 = true ∧ ∀ j, j < n → sokR (ss.getD j default) j = true := by
 refine ⟨okS_all, ?_⟩
 induction n with
 | zero => exact fun h => h.1
 | succ n ih =>
  rintro ⟨h1, h2⟩
  rw [okS, Bool.and_eq_true]
  exact ⟨ih ⟨h1, fun j hj => h2 j (by omega)⟩, h2 n (by omega)⟩
theorem okT_iff {c : TChart} {ss : List TState} {rr : List (List TRight)} {n : Nat} : okT c ss rr n = true ↔ okS c ss rr ss.length = true ∧ ∀ j, j < n → rights16 (rr.getD j default) = true := by
 refine ⟨okT_all, ?_⟩
 induction n with
 | zero => exact fun h => h.1
 | succ n ih =>
  rintro ⟨h1, h2⟩
  rw [okT, Bool.and_eq_true]
  exact ⟨ih ⟨h1, fun j hj => h2 j (by omega)⟩, h2 n (by omega)⟩
theorem fits_eq2 {p : TPlan} {l : List TAccount} (hw : ∀ a ∈ l, a.wf) (s : TState) (hp : s.fOut = p) : (decide ((l.length : Int) ≤ 12) && imgAll s l) = fitsR l p := by
 subst hp
 have e : imgAll s l = (allI l.length (fun j => !fitB s.fOut (l.getD j default)) && allI l.length (fun j => !risj l j)) := by
  rw [allI_and]
  refine allI_congr fun j hj => ?_
  have hwj := hw _ (getD_mem (l := l) (i := j) hj)
  unfold imgA imgB fitB risj leB
  rw [errF_ok, acc_eq hwj]
  rcases Bool.eq_false_or_eq_true (right15 (l.getD j default)) with h | h
  · rw [plain_eq ((acc_eq hwj).trans h), h]
    cases plain15 (l.getD j default) <;> cases within s.fOut.fLo s.fOut.fHi (l.getD j default).fKey <;> cases decide ((l.getD j default).fLock.fClient = 0) <;> cases decide (((l.getD j default).fHolders.length : Int) > 0) <;> cases decide ((l.getD j default).fRound = 0) <;> simp
  · rw [h]
    simp
 rw [e, fitsR, rising19]
 cases allI l.length (fun j => !fitB s.fOut (l.getD j default)) <;> cases allI l.length (fun j => !risj l j) <;> cases decide ((l.length : Int) ≤ 12) <;> rfl
theorem out_read {S : TState} (h : sright19 S = true) (hn : ¬ S.fOut.fNumber = 0) : (rdState S.fImage).2 = 0 := by
 unfold sright19 at h
 split at h
 · cases h
 split at h
 · cases h
 split at h
 · cases h
 split at h
 · split at h
   · split at h
     · cases h
     · split at h
       · rename_i h0
         exact absurd (by rw [of_decide_eq_true h0]) hn
       · simp only [q19e, Bool.and_eq_true, decide_eq_true_eq] at h
         exact h.1.1
   · cases h
 · cases h
theorem imaged_eq {S : TState} (h : sright19 S = true) : imagedP S = (decide (S.fOut.fNumber = 0) || fitsR (rdState S.fImage).1.fAccounts S.fOut) := by
 unfold imagedP
 split
 · rename_i h0
   rw [decide_eq_true h0]; rfl
 · rename_i h0
   rw [decide_eq_false h0, out_read h h0, Bool.false_or, ← fits_eq2 (fun a ha => rdState_accs _ a ha) S rfl]
   split
   · rename_i h1
     simp only [decide_true, Bool.not_true, Bool.false_or, decide_eq_true_eq] at h1
     rw [decide_eq_false (by omega), Bool.false_and]
   · rename_i h1
     simp only [decide_true, Bool.not_true, Bool.false_or, decide_eq_true_eq] at h1
     rw [decide_eq_true (by omega), Bool.true_and]
theorem snd_eq {ss : List TState} {j : Nat} (hw : ∀ a ∈ (ss.getD j default).fAccounts, a.wf) : (!sndB ss j) = sokR (ss.getD j default) j := by
 unfold sndB sokR
 rw [state_eq hw, errF_ok]
 rcases Bool.eq_false_or_eq_true (sright19 (ss.getD j default)) with h | h
 · rw [imaged_eq h, h]
   cases decide ((ss.getD j default).fGroup = (j : Int) + 1) <;> cases (decide ((ss.getD j default).fOut.fNumber = 0) || fitsR (rdState (ss.getD j default).fImage).1.fAccounts (ss.getD j default).fOut) <;> rfl
 · rw [h]
   cases decide ((ss.getD j default).fGroup = (j : Int) + 1) <;> rfl
theorem bad_none {rr : List (List TRight)} : (!decide (placeI (firstI rr.length (fun j => badR (rr.getD j default))) ≥ 0)) = true ↔ ∀ j, j < rr.length → rights16 (rr.getD j default) = true := by
 constructor
 · intro h j hj
   cases e : firstI rr.length (fun j => badR (rr.getD j default)) with
   | none =>
    have := List.find?_eq_none.1 e j (List.mem_range.2 hj)
    simp only [badR, Bool.not_eq_true', Bool.not_eq_false, decide_eq_true_eq, errF_z] at this
    rw [← ledger_eq]
    simpa [errF] using this
   | some k => rw [e] at h; simp [placeI] at h
 · intro h
   rw [firstI_none fun k hk => by rw [badR, ledger_eq, h k hk]; rfl]
   rfl
theorem sound_eq {c : TChart} {ss : List TState} {rr : List (List TRight)} (hw : ∀ s ∈ ss, ∀ a ∈ s.fAccounts, a.wf) : soundP c ss rr = okT c ss rr rr.length := by
 rw [Bool.eq_iff_iff, okT_iff, okS_iff, soundP]
 have hA : sndA c ss rr = false ↔ okS c ss rr 0 = true := by
  simp only [sndA, okS, Bool.or_eq_false_iff, Bool.not_eq_false', Bool.and_eq_true, decide_eq_true_eq, decide_eq_false_iff_not, errF_z, chart_eq]
  constructor
  · rintro ⟨⟨h1, h2⟩, h3⟩
    exact ⟨⟨h3, h1⟩, by omega⟩
  · rintro ⟨⟨h1, h2⟩, h3⟩
    exact ⟨⟨h2, by omega⟩, h1⟩
 have hB : allI ss.length (fun j => !sndB ss j) = true ↔ ∀ j, j < ss.length → sokR (ss.getD j default) j = true := by
  rw [allI_iff]
  exact ⟨fun h j hj => by rw [← snd_eq (hw _ (getD_mem hj))]; exact h j hj, fun h j hj => by rw [snd_eq (hw _ (getD_mem hj))]; exact h j hj⟩
 split
 · rename_i h1
   constructor
   · intro h; cases h
   · rintro ⟨⟨h0, _⟩, _⟩
     rw [hA.2 h0] at h1
     cases h1
 · rename_i h1
   have h1 : sndA c ss rr = false := by simpa using h1
   split
   · rename_i h2
     rw [bad_none]
     exact ⟨fun h => ⟨⟨hA.1 h1, hB.1 h2⟩, h⟩, fun h => h.2⟩
   · rename_i h2
     constructor
     · intro h; cases h
     · rintro ⟨⟨_, h3⟩, _⟩
       exact absurd (hB.2 h3) h2
theorem allR_U {ss : List TState} (hg : Grp ss) : ∀ i, i ≤ ss.length → (allR ss i).map toC = allU ss i
 | 0, _ => rfl
 | i + 1, h => by
  rw [allR, allU, List.map_append, allR_U hg i (by omega), List.map_map, hg i (by omega)]
  rfl
def kC (c : Tcounted) : ByteArray := c.fAccount.fKey
theorem ltC_eq (x y : Tcounted) : ltC x y = ltB (kC x) (kC y) := cmp_lt _ _
theorem swC : SW ltC := ⟨fun x y h => by rw [ltC_eq] at h ⊢; exact lt_asymm h, fun x y z h1 h2 => by
 rw [ltC_eq] at h1 h2 ⊢
 cases e : ltB (kC z) (kC x) with
 | false => rfl
 | true =>
  rcases lt_or h1 with h3 | h3
  · have := lt_trans e h3
    rw [this] at h2; cases h2
  · rw [← h3] at e
    rw [e] at h2; cases h2⟩
theorem srtC_ok (ss : List TState) : (srtC ss).Perm (allU ss ss.length) ∧ ∀ i j, i ≤ j → j < (srtC ss).length → ltB (kC ((srtC ss).getD j default)) (kC ((srtC ss).getD i default)) = false := by
 obtain ⟨h1, h2⟩ := sortP_srt swC (allU ss ss.length)
 refine ⟨h2, fun i j hij hj => ?_⟩
 have := h1 i j (Nat.zero_le _) hij (by have := h2.length_eq; unfold srtC at hj; omega)
 rw [ltC_eq] at this
 exact this
theorem dupB_iff {l : List Tcounted} : dupB l = false ↔ ∀ j, j + 1 < l.length → kC (l.getD (j + 1) default) ≠ kC (l.getD j default) := by
 unfold dupB keyC
 rw [Bool.not_eq_false', allI_iff]
 constructor
 · intro h j hj
   have := h j (by omega)
   simpa [kC] using this
 · intro h j hj
   have := h j (by omega)
   simpa [kC] using this
theorem dup_sorted {l : List Tcounted} (hs : ∀ i j, i ≤ j → j < l.length → ltB (kC (l.getD j default)) (kC (l.getD i default)) = false) : dupB l = true ↔ dupK kC l := by
 constructor
 · intro h
   refine Classical.byContradiction fun hn => ?_
   have : dupB l = false := dupB_iff.2 fun j hj e => hn ⟨j + 1, j, by omega, hj, e⟩
   rw [this] at h; cases h
 · intro h
   cases e : dupB l with
   | true => rfl
   | false =>
    exfalso
    have hS := srtB_of kC hs (dupB_iff.1 e)
    have hn : (l.map kC).Nodup := by
     rw [List.nodup_iff_pairwise_ne, List.pairwise_map]
     exact hS.imp fun h => lt_ne h
    exact (dupK_nodup kC).2 hn h
theorem getD_map {α β : Type} [Inhabited α] [Inhabited β] {l : List α} {f : α → β} {i : Nat} (h : i < l.length) : (l.map f).getD i default = f (l.getD i default) := by
 rw [List.getD_eq_getElem?_getD, List.getElem?_map, List.getD_eq_getElem?_getD, List.getElem?_eq_getElem h]
 rfl
theorem dupR_iff {l : List Tcounted25} : dupR l = true ↔ dupK kC (l.map toC) := by
 have hk : ∀ {i}, i < l.length → kC ((l.map toC).getD i default) = keyR l i := fun h => by rw [getD_map h]; rfl
 unfold dupR
 constructor
 · intro h
   refine Classical.byContradiction fun hn => ?_
   rw [allI_true (fun i hi => allI_true fun k hk2 => by
    rw [Bool.not_eq_true', decide_eq_false_iff_not]
    intro e
    exact hn ⟨i, k, hk2, by rw [List.length_map]; exact hi, by rw [hk hi, hk (by omega)]; exact e⟩)] at h
   cases h
 · rintro ⟨i, k, h1, h2, e⟩
   rw [List.length_map] at h2
   rw [hk h2, hk (by omega)] at e
   rw [allI_false i h2 (allI_false k h1 (by rw [decide_eq_true e]; rfl))]
   rfl
theorem ptot_plain {ss : List TState} {rr : List (List TRight)} {c : Tcounted} (hk : okKey c.fAccount.fKey = true) : aplainP (accC ss rr c) = ptot (totC ss rr c) := by
 have hp : ptot (totC ss rr c) = (decide (c.fAccount.fSpan = ⟨0, 0⟩) && decide ((hasV ss rr c).1 = 0)) := by
  rw [ptot, Bool.eq_iff_iff]
  simp [totC, ztot]
 rw [hp]
 cases e1 : decide (c.fAccount.fSpan = ⟨0, 0⟩) with
 | false =>
  cases hA : aplainP (accC ss rr c) with
  | false => rfl
  | true =>
   simp only [aplainP, Bool.and_eq_true] at hA
   exact absurd (e1.symm.trans hA.1.1.1.1.2) (by decide)
 | true =>
  cases e2 : decide ((hasV ss rr c).1 = 0) with
  | false =>
   cases hA : aplainP (accC ss rr c) with
   | false => rfl
   | true =>
    simp only [aplainP, Bool.and_eq_true] at hA
    exact absurd (e2.symm.trans hA.1.1.1.2) (by decide)
  | true =>
   have s0 := of_decide_eq_true e1
   have v0 := of_decide_eq_true e2
   have ha : accC ss rr c = { fKey := c.fAccount.fKey, fSpan := ⟨0, 0⟩, fBase := 0, fRound := 0, fHolders := [], fLock := { fClient := 0, fSeq := 0, fHome := 0, fN := 0 } } := by rw [accC, s0, v0]
   rw [ha]
   simp only [okKey, Bool.and_eq_true, decide_eq_true_eq] at hk
   have h1 : ¬ (c.fAccount.fKey.size : Int) < 1 := by omega
   have h2 : ¬ (c.fAccount.fKey.size : Int) > 16 := by omega
   simp only [aplainP, accP, acc1, acc2, upsS, downsS, hasP, lockedP, decide_eq_false h1, decide_eq_false h2]
   rfl
theorem totL_eq {ss : List TState} {rr : List (List TRight)} {l : List Tcounted} (hk : ∀ c ∈ l, okKey c.fAccount.fKey = true) : ∀ n, n ≤ l.length → totL ss rr l n = ((l.take n).map (totC ss rr)).filter (fun t => !ptot t)
 | 0, _ => by simp [totL]
 | n + 1, h => by
  have e : l.take (n + 1) = l.take n ++ [l.getD n default] := by
   rw [List.take_add_one, List.getElem?_eq_getElem (by omega), List.getD_eq_getElem?_getD, List.getElem?_eq_getElem (by omega)]
   rfl
  rw [totL, totL_eq hk n (by omega), e, List.map_append, List.filter_append, ptot_plain (hk _ (getD_mem (by omega)))]
  congr 1
  simp only [List.map_cons, List.map_nil]
  split
  · rename_i c
    rw [List.filter_cons_of_neg (by rw [c]; decide), List.filter_nil]
  · rename_i c
    rw [List.filter_cons_of_pos (by rw [Bool.eq_false_iff.2 c]; rfl), List.filter_nil]
theorem ok_iff {ss : List TState} {rr : List (List TRight)} {l : List Tcounted} : allI l.length (fun j => (hasV ss rr (l.getD j default)).2) = true ↔ ∀ c ∈ l, (hasV ss rr c).2 = true := by
 rw [allI_iff]
 exact ⟨fun h c hc => by obtain ⟨j, hj, rfl⟩ := getD_of_mem hc; exact h j hj, fun h j hj => h _ (getD_mem hj)⟩
theorem okR_iff {ss : List TState} {rr : List (List TRight)} {l : List Tcounted25} : okR ss rr l = true ↔ ∀ c ∈ l.map toC, (hasV ss rr c).2 = true := by
 rw [okR, allI_iff]
 constructor
 · intro h c hc
   obtain ⟨x, hx, rfl⟩ := List.mem_map.1 hc
   obtain ⟨j, hj, rfl⟩ := getD_of_mem hx
   exact h j hj
 · intro h j hj
   exact h _ (List.mem_map.2 ⟨_, getD_mem hj, rfl⟩)
theorem right15_key {a : TAccount} (h : right15 a = true) : okKey a.fKey = true := by
 unfold right15 at h
 split at h
 · cases h
 · rename_i hn
   simp only [r15a, Bool.or_eq_true, not_or, Bool.not_eq_true', Bool.not_eq_false] at hn
   exact hn.1.1
theorem keys_ok {ss : List TState} (h : ∀ j, j < ss.length → sokR (ss.getD j default) j = true) : ∀ i, i ≤ ss.length → ∀ c ∈ allU ss i, okKey c.fAccount.fKey = true
 | 0, _, c, hc => by cases hc
 | i + 1, hi, c, hc => by
  rw [allU] at hc
  rcases List.mem_append.1 hc with hc | hc
  · exact keys_ok h i (by omega) c hc
  · obtain ⟨a, ha, rfl⟩ := List.mem_map.1 hc
    exact right15_key ((list_facts (ss := ss) (h i (by omega))).2 a ha)
theorem told_eq {ss : List TState} {rr : List (List TRight)} (hs : ∀ j, j < ss.length → sokR (ss.getD j default) j = true) :
 (if dupB (srtC ss) = true then (([], 171) : List TTotal × Int) else if allI (srtC ss).length (fun j => (hasV ss rr ((srtC ss).getD j default)).2) = true then (totL ss rr (srtC ss) (srtC ss).length, 0) else ([], 150)) = toldR ss rr (allR ss ss.length) := by
 have hg : Grp ss := fun j hj => (sok_parts (hs j hj)).1
 have hU := allR_U hg ss.length (Nat.le_refl _)
 obtain ⟨hp, ho⟩ := srtC_ok ss
 have hd : dupB (srtC ss) = true ↔ dupR (allR ss ss.length) = true := by rw [dup_sorted ho, dupR_iff, hU, dupK_perm kC hp]
 have hk : allI (srtC ss).length (fun j => (hasV ss rr ((srtC ss).getD j default)).2) = true ↔ okR ss rr (allR ss ss.length) = true := by
  rw [ok_iff, okR_iff, hU]
  exact ⟨fun h c hc => h c (hp.mem_iff.2 hc), fun h c hc => h c (hp.mem_iff.1 hc)⟩
 rw [toldR]
 by_cases e1 : dupB (srtC ss) = true
 · rw [if_pos e1, if_pos (hd.1 e1)]
 · rw [if_neg e1, if_neg fun e => e1 (hd.2 e)]
   by_cases e2 : okR ss rr (allR ss ss.length) = true
   · rw [if_pos (hk.2 e2), if_pos e2]
     congr 1
     have e1 : dupB (srtC ss) = false := by simpa using e1
     have hS := srtB_of kC ho (dupB_iff.1 e1)
     rw [totL_eq (fun c hc => keys_ok hs _ (Nat.le_refl _) c (hp.mem_iff.1 hc)) _ (Nat.le_refl _), List.take_length, outR]
     have hT : totR ss rr (allR ss ss.length) = (allU ss ss.length).map (totC ss rr) := by
      rw [totR, ← hU, List.map_map]
      rfl
     have hl : (allR ss ss.length).length = (totR ss rr (allR ss ss.length)).length := by rw [totR, List.length_map]
     rw [hl]
     refine outB_eq TTotal.fKey ?_ ?_
     · unfold SrtB at hS ⊢
       rw [List.pairwise_map]
       exact hS
     · rw [hT]
       exact hp.map _
   · rw [if_neg fun e => e2 (hk.1 e), if_neg e2]
theorem truth_eq {c : TChart} {ss : List TState} {rr : List (List TRight)} (hw : ∀ s ∈ ss, ∀ a ∈ s.fAccounts, a.wf) : truthP c ss rr = truthR c ss rr := by
 rw [truthP, truthR, sound_eq hw]
 cases e : okT c ss rr rr.length with
 | false => rfl
 | true =>
  rw [if_neg (by decide), if_pos rfl]
  exact told_eq (okS_all (okT_all e).1).2
theorem furS_wf {l : List TScene} (hw : ∀ v ∈ l, ∀ s ∈ v.fStates, ∀ a ∈ s.fAccounts, a.wf) : ∀ s ∈ furS l, ∀ a ∈ s.fAccounts, a.wf := by
 unfold furS
 split
 · exact fun s hs => absurd hs List.not_mem_nil
 · rename_i h0
   split
   · exact stF_mem (P := fun s => ∀ a ∈ s.fAccounts, a.wf) hw (by omega) _ (Nat.le_refl _)
   · exact fun s hs => absurd hs List.not_mem_nil
end Go.YtmpoffijcfaalaaGreat
namespace Go.Proofs.YtmpoffijcfaalaaGreat
open Go.Eng
end Go.Proofs.YtmpoffijcfaalaaGreat
namespace Go.Eng
open Go.RowKit
section
section
variable {c : Cx} {ops : Array Oper} {Q : Exit → Act → World → Prop} {env : Env} {L : Own} {D : List Atom} {rest : List Oper} {d : Nat} {t : TypeId} {p : String} {af : Array Edge} {x y : Operand} {T : TypeId}
end
end
end Go.Eng
namespace Go.Proofs.YtmpoffijcfaalaaGreat
open Go.Eng Go.YtmpoffijcfaalaaGreat
theorem look_c (v_l : Value) (l : List TScene) (v_rr : Value) (rr : List (List TRight)) (Z : List TTotal × Int) (hrw : ∀ l ∈ rr, ∀ r ∈ l, r.wf) (hZ : lookP l rr = Z) : Fnc Pg 25 [v_l, v_rr] [] [⟨v_l, l⟩, ⟨v_rr, rr⟩] (fun (y : Value) u => u = .tuple #[y, .int .i64 Z.2]) (fun _ _ => []) (fun y _ => [⟨y, Z.1⟩]) := by
 refine Fnc.proof Tryz.func25 G 24 G G fun X w => sa 2 G<|qg<|mv G G<|cf (fur_c _ _ (furC l) (furS l) (furE l) G G G) (Kg G) G (Sc 0 G Sn) G fun y11 v11 h11 => ?_
 obtain ⟨e11, wC⟩ := h11
 subst e11
 obtain ⟨y0, y1, y2⟩ := y11
 refine ru 4 G<|al zero_27 G fun b6 => oc 0 G fun o_y0 => oc 1 G fun o_y1 => stW 0 (us := (cChart ((furC l)) y0 y1)) G G G (Rg G) (by simp only [List.all_cons, List.all_nil, Bool.and_true, o_y0, o_y1]; rfl) G<|ru 2 G<|nl<|nx<|sq<|sa 2 G<|cdN G (fun h16 => ?_) (fun h16 => ?_)
 ·
  have hZ2 : (([], furE l) : List TTotal × Int) = Z := by rw [← hZ, lookP, if_neg h16]
  subst hZ2
  exact emC (α := TTotal)<|sa 3 G<|rt<|tR<|dpQ<|fR2 nS G G G G G (Sc 0 G Sn)
 ·
  have hT : truthP (furC l) (furS l) rr = Z := by rw [← hZ, lookP, if_pos h16]
  refine sk<|nx<|qg<|ldM 0 (cChart ((furC l)) y0 y1) G G (Rg G) G G<|ru 2 G<|cf (truth_c _ _ _ _ _ _ _ Z wC hrw hT) (Kg G) G (Si [0,1,2,4] G) G fun y21 v21 h21 => ?_
  subst h21
  exact ru 4 G<|nl<|nx<|rt<|dpQ<|fR2 y21 G G G G G (Sc 0 G Sn)
theorem awake25_c : FnV Pg 24 [] [] (.bool true) := by
 refine Fnc.proof Tryz.func24 G 32 G G fun X w => sa 1 G<|qg<|emL (α := TScene)<|cf (fur_c _ _ zchart [] 1 G G G) (Kg G) G (Sc 0 G Sn) G fun y9 v9 h9 => ?_
 obtain ⟨e9, _⟩ := h9
 subst e9
 obtain ⟨a0, a1, a2⟩ := y9
 refine ru 4 G<|al zero_27 G fun b1 => oc 0 G fun o_a0 => oc 1 G fun o_a1 => stW 0 (us := (cChart zchart a0 a1)) G G G (Rg G) (by simp only [List.all_cons, List.all_nil, Bool.and_true, o_a0, o_a1]; rfl) G<|ru 2 G<|nl<|nx<|qg<|cf (scene_c 1 3 ⟨by decide, by decide⟩ ⟨by decide, by decide⟩) (Kg G) G Sn G fun y14 v14 h14 => ?_
 obtain ⟨y0, y1⟩ := y14
 have h14 : v14 = .tuple #[.agg (cScene (scene1 1 3) y0 nS y1 nS nS).toArray, .bool true] := h14
 subst h14
 refine ru 3 G<|al zero_32 G fun b4 => oc 0 G fun o_y0 => oc 1 G fun o_y1 => stW 0 (us := (cScene ((scene1 1 3)) y0 nS y1 nS nS)) G G G (Rg G) (by simp only [List.all_cons, List.all_nil, Bool.and_true, o_y0, o_y1]; rfl) G<|ru 1 G<|nl<|nx<|qg<|ldM 0 (cScene ((scene1 1 3)) y0 nS y1 nS nS) G G (Rg G) G G<|bsM G app_75 G G G G fun b19 => ?_
 refine frS1 (α := TScene) (scene1 1 3) (fun S w h => ⟨⟨y0, nS, y1, nS, nS⟩, G, fun t ht => by
   simp only [List.mem_cons, List.not_mem_nil, or_false] at ht
   rcases ht with rfl | rfl | rfl | rfl | rfl
   · exact h _ (List.mem_of_getElem? (i := 0) G)
   · exact nil_list S w
   · exact h _ (List.mem_of_getElem? (i := 1) G)
   · exact nil_list S w
   · exact nil_list S w, (scene1_wf ⟨by decide, by decide⟩ ⟨by decide, by decide⟩)⟩) ?_
 refine emL (α := List TRight)<|cf (look_c _ _ _ _ (lookP [scene1 1 3] []) (fun l hl => absurd hl (List.not_mem_nil)) G) (Kg G) G (Si [1,0] G) G fun y20 v20 h20 => ?_
 subst h20
 exact ru 5 G<|nl<|nx<|qg<|ru 3 G<|gY G G G<|ru 3 G<|ja 28 3 [] [] G G G<|ru 1 G<|nl<|nx<|rt<|dpQ<|dpQ<|fR1 () G G (by rw [awake25]; rfl) G Sn
end Go.Proofs.YtmpoffijcfaalaaGreat
namespace Go.Eng
theorem jnD {c : Cx} {x : Code} {Q : Exit → Act → World → Prop} {env : Env} {L : Own} {D : List Atom} {σ : Type} (C : Env) (Dc : List Atom) (V : σ → Env → Env) (LL : σ → Own) (DD : σ → List Atom → List Atom) (I : σ → Prop) (_hC : Go.Eng.Sub C env) (_hc : SubD Dc D)
 (h1 : WC c x (Exit.then (JK c (fun s => V s C) LL (fun s => DD s Dc) I) Q) env L D) (h2 : ∀ s, I s → WQ c Q .normal (V s C) (LL s) (DD s Dc)) : WC c x Q env L D :=
 jn (fun s => V s C) LL (fun s => DD s Dc) I h1 h2
@[reducible] def tuE : Value → Nat → Value
 | .tuple xs, j => xs.getD j undef
 | _, _ => undef
end Go.Eng
namespace Go.Proofs.YtmpoffijcfaalaaGreat
open Go.Eng Go.YtmpoffijcfaalaaGreat
theorem auditPlays_c (v_l : Value) (l : List TScene) (v_rr : Value) (rr : List (List TRight)) (key : ByteArray) (hll : l.length ≤ 1048576) (hrw : ∀ l ∈ rr, ∀ r ∈ l, r.wf) (hw : ∀ v ∈ l, ∀ s ∈ v.fStates, ∀ a ∈ s.fAccounts, a.wf) (hbk : ∀ v ∈ l, BkV v) : FnV Pg 7 [v_l, v_rr, .string key] [⟨v_l, l⟩, ⟨v_rr, rr⟩] (.bool true) := by
 refine Fnc.proof Tryz.func7 G 204 G G fun X w => sa 1 G<|sa 1 G<|sq<|sa 1 G<|bk<|rwC TScene 32<|lpE (σ := Nat × Value) [(0, _), (1, _), (2, _)] _ (fun s C => (8, .int .i64 (s.1 : Int)) :: (7, s.2) :: C) (fun s => [@row TScene rScene 32 s.2 (l.take s.1), fz X w]) (fun _ Dc => Dc) (fun s => s.1 ≤ l.length) (fun s => l.length - s.1) (0, .slice none 0 0) (Gs G) (Sc 0 G (Sc 1 G Sn)) (Nat.zero_le _) (Gs G) G (Sc 0 G (Sc 1 G Sn)) ?_
 rintro ⟨i, rv⟩ hi
 simp only at hi
 show WC _ _ _ [(8, .int .i64 ((i : Int))), (7, _), (0, _), (1, _), (2, _)] [@row TScene rScene 32 rv (l.take i), fz X w] _
 refine sq<|qg<|ru 2 G<|lnP 0 G G Tryz.underlying75 G fun l31 => ru 1 G<|nl<|nx<|cdP G (fun h32 => ?_) (fun h32 => ?_)
 ·
  refine sk<|nx<|sq<|bk<|rg<|ru 3 G<|ixQ 0 G G G slt_75 G fun v38 => ldS 0 G G (Rg G) G fun q39 w39 => ?_
  obtain ⟨q39_0, q39_1, q39_2, q39_3, q39_4⟩ := q39
  refine cf (copyScene_c (l.getD i default) q39_0 q39_1 q39_2 q39_3 q39_4 w39 (hbk _ (getD_mem (by omega)))) (Kg G) G (Si [1,2,3,4,5] G) G fun ⟨k_0, k_1, k_2, k_3, k_4⟩ v40 h40 => ?_
  subst h40
  refine bsM G app_75 G G G G fun b41 => ?_
  refine frS1 (α := TScene) (l.getD i default) (fun S w h => ⟨⟨k_0, k_1, k_2, k_3, k_4⟩, G, fun t ht => by
    simp only [List.mem_cons, List.not_mem_nil, or_false] at ht
    rcases ht with rfl | rfl | rfl | rfl | rfl
    · exact h _ (List.mem_of_getElem? (i := 0) G)
    · exact h _ (List.mem_of_getElem? (i := 1) G)
    · exact h _ (List.mem_of_getElem? (i := 2) G)
    · exact h _ (List.mem_of_getElem? (i := 3) G)
    · exact h _ (List.mem_of_getElem? (i := 4) G), w39⟩) ?_
  refine ap 0 0 G G G G app_75 (by simp only [List.length_take, List.length_cons, List.length_nil]; omega) (by simp only [List.length_take, List.length_cons, List.length_nil]; omega) G fun v42 => ru 1 G<|nl<|bN<|nx<|rg<|mv G G<|adI G G inI G<|ru 1 G<|nl ?_
  rw [show l.take i ++ [(l.getD i default)] = l.take (i + 1) from by rw [List.take_add_one, List.getElem?_eq_getElem (by omega), List.getD_eq_getElem?_getD, List.getElem?_eq_getElem (by omega)]; rfl]
  exact ag ((i + 1, v42) : Nat × Value) (by show i + 1 ≤ l.length; omega) (by show l.length - (i + 1) < l.length - i; omega) (Gs G) G (Si [13,14] G)
 ·
  obtain rfl : i = l.length := by omega
  rw [List.take_length]
  refine ex<|tE<|tE<|bE<|nx<|sq<|frR<|rg<|mv G G<|cf (fur_c _ _ (furC l) (furS l) (furE l) G G G) (Kg G) G (Sc 0 G Sn) G fun y45 v45 h45 => ?_
  obtain ⟨e45, w45⟩ := h45
  subst e45
  obtain ⟨a45, b45, c45⟩ := y45
  refine ru 4 G<|al zero_27 G fun b9 => oc 0 G fun o_a45 => oc 1 G fun o_b45 => stW 0 (us := (cChart ((furC l)) a45 b45)) G G G (Rg G) (by simp only [List.all_cons, List.all_nil, Bool.and_true, o_a45, o_b45]; rfl) G<|ru 2 G<|nl<|nx<|qg<|mv G G<|cf (fur25_c _ _ (furC l) (furS l) (furE l) (fun v hv => scene_eq (hw v hv)) G G G) (Kg G) G (Sc 4 G Sn) G fun y51 v51 h51 => ?_
  obtain ⟨e51, w51⟩ := h51
  subst e51
  obtain ⟨a51, b51, c51⟩ := y51
  refine ru 4 G<|al zero_27 G fun b12 => oc 0 G fun o_a51 => oc 1 G fun o_b51 => stW 0 (us := (cChart ((furC l)) a51 b51)) G G G (Rg G) (by simp only [List.all_cons, List.all_nil, Bool.and_true, o_a51, o_b51]; rfl) G<|ru 2 G<|nl<|nx<|qg<|ru 2 G<|cf (look_c _ _ _ _ (lookP l rr) hrw G) (Kg G) G (Si [6,8] G) G fun y58 v58 h58 => ?_
  subst h58
  refine ru 5 G<|nl<|nx<|sa 3 G<|sq<|sa 2 G<|jnD (σ := Value) [(0, _), (1, _), (2, _), (7, _), (9, _), (10, _), (11, _), (12, _), (13, _), (14, _), (15, _), (16, _)] _ (fun s C => (17, s) :: (18, .int .i64 (lookP l rr).2) :: C) (fun s => [bl b12 27 (cChart (furC l) a51 b51), bl b9 27 (cChart (furC l) a45 b45), fz X w]) (fun s Dc => ⟨s, (lookP l rr).1⟩ :: Dc) (fun s => True) (Gs G) (Sc 0 G (Sc 1 G (Sc 2 G (Sc 3 G (Sc 4 G (Sc 5 G (Sc 6 G (Sc 7 G (Sc 8 G (Sc 9 G Sn)))))))))) ?_ ?_
  ·
   refine cdP G (fun h63 => ?_) (fun h63 => ?_)
   ·
    refine rg<|ldM 0 (cChart ((furC l)) a51 b51) G G (Rg G) G G<|ru 2 G<|cf (truth25_c _ _ _ _ _ _ _ (lookP l rr) w51 hrw (by rw [lookP, if_pos h63]; exact (truth_eq (furS_wf hw)).symm)) (Kg G) G (Si [1,2,3,9] G) G fun y68 v68 h68 => ?_
    subst h68
    exact ru 5 G<|nl<|jx y68 trivial (Gs G) G (Sc 0 G (Sc 1 G (Sc 2 G (Sc 3 G (Sc 4 G (Sc 5 G (Sc 6 G (Sc 7 G (Sc 8 G (Sc 9 G (Sc 10 G Sn)))))))))))
   ·
    have e2 : furE l = (lookP l rr).2 := by rw [lookP, if_neg h63]
    have e1 : ([] : List TTotal) = (lookP l rr).1 := by rw [lookP, if_neg h63]
    refine emC (α := TTotal) ?_
    rw [e1]
    exact sk<|jx (nS) trivial ⟨G, congrArg (fun n => some (Value.int .i64 n)) e2, G, G, G, G, G, G, G, G, G, G, G, G, trivial⟩ G (Sc 0 G (Sc 1 G (Sc 2 G (Sc 3 G (Sc 4 G (Sc 5 G (Sc 6 G (Sc 7 G (Sc 8 G (Sc 9 G (Sc 10 G Sn)))))))))))
  ·
   intro z _
   show WQ _ _ _ [(17, z), (18, .int .i64 ((lookP l rr).2)), (0, _), (1, _), (2, _), (7, _), (9, _), (10, _), (11, _), (12, _), (13, _), (14, _), (15, _), (16, _)] [bl b12 27 (cChart (furC l) a51 b51), bl b9 27 (cChart (furC l) a45 b45), fz X w] _
   refine nx<|sq<|qg<|cfv (awake25_c) (Kg G) G Sn G<|ru 2 G<|gY G G G<|ldM 1 (cChart ((furC l)) a45 b45) G G (Rg G) G G<|gY G G G<|ldM 0 (cChart ((furC l)) a51 b51) G G (Rg G) G G<|gY G G G<|cfv (sameChart_c _ _ _ _ _ _ w45 w51) (Kg G) G (Si [5,6,2,3] G) G<|gY G G G<|ru 3 G<|jz 79 5 [0,1,2,7,11,14,15,16,17,18] G G (fun h79 K84 => ru 2 G<|gY G G G<|cfv (sameStates_c _ _ _ _) (Kg G) G (Si [7,4] G) G<|ru 2 G<|K84 G Sr)<|mv G G<|jb 85 4 [] [0,1,2,7,15,16,17,18] G G G<|mv G G<|jz 90 5 [0,1,2,7,16,18] G G (fun h90 K95 => ru 2 G<|gY G G G<|cfv (plainT_c _ _ _) (Kg G) G (Si [1,0] G) G<|ru 2 G<|K95 G Sr)<|mv G G<|jb 96 4 [] [0,1,2,7] G G G<|nl<|nx<|cdB G (fun h100 => ?_) (fun h100 => ?_)
   ·
    simp [sameChart_self, all_self sameState_self] at h100 --#done
   ·
    refine sk<|nx<|sq<|sa 1 G<|bk<|lpC (σ := Nat) [(0, _), (1, _), (2, _), (7, _)] _ (fun i C => (19, .int .i64 (i : Int)) :: C) (fun i => i ≤ l.length) (fun i => l.length - i) 0 (Gs G) (Sc 2 G (Sc 3 G (Sc 5 G (Sc 6 G (Sc 8 G (Sc 9 G (Sc 10 G Sn))))))) (Nat.zero_le _) (Gs G) ?_
    intro i hi
    refine sq<|qg<|ru 2 G<|lnP 5 G G Tryz.underlying75 G fun l103 => ru 1 G<|nl<|nx<|cdP G (fun h104 => ?_) (fun h104 => ?_)
    ·
     refine sk<|nx<|sq<|bk<|qg<|ru 2 G<|ixQ 4 G G G slt_75 G fun v110 => faP (α := TScene) (β := List TState) 0 (fun x : TScene => x.fStates) G G (Fg G) pScene_3 G fun v111 => ldL 0 G G (Og G) G fun v112 => mv G G<|cfv (ownerA_c _ _ _) (Kg G) G (Sc 0 G Sn) G<|mv G G<|ru 4 G<|nl<|nx<|qg<|ru 2 G<|ixQ 8 G G G slt_75 G fun v120 => faP (α := TScene) (β := List TState) 0 (fun x : TScene => x.fStates) G G (Fg G) pScene_3 G fun v121 => ldL 0 G G (Og G) G fun v122 => mv G G<|cfv (owner25_c _ _ _) (Kg G) G (Sc 0 G Sn) G<|ru 5 G<|nl<|nx<|sq<|rgZ (L := [bl b12 27 (cChart ((furC l)) a51 b51), bl b9 27 (cChart ((furC l)) a45 b45), fz X w]) [] [(2,⟨none,fun u => [⟨u, (⟨(l.getD i default)⟩ : Pt TScene)⟩],false⟩),(3,⟨none,fun u => [⟨u, (⟨(l.getD i default).fChart⟩ : Pt TChart)⟩],false⟩),(4,⟨none,fun u => [⟨cel u 1, (l.getD i default).fChart.fPlaces⟩, ⟨cel u 11, (l.getD i default).fChart.fMarks⟩],false⟩),(7,⟨none,fun u => [⟨u, (⟨(l.getD i default)⟩ : Pt TScene)⟩],false⟩),(8,⟨none,fun u => [⟨u, (⟨(l.getD i default).fStates⟩ : Pt (List TState))⟩],false⟩),(9,⟨none,fun u => [⟨u, (l.getD i default).fStates⟩],false⟩),(11,⟨none,fun u => [⟨tuE u 0, (truthP (l.getD i default).fChart (l.getD i default).fStates rr).1⟩],false⟩),(12,⟨none,fun u => [⟨tuE u 0, (truthP (l.getD i default).fChart (l.getD i default).fStates rr).1⟩],false⟩),(13,⟨none,fun u => [⟨u, (truthP (l.getD i default).fChart (l.getD i default).fStates rr).1⟩],false⟩),(14,⟨some (.int .i64 ((truthP (l.getD i default).fChart (l.getD i default).fStates rr).2)),fun _ => [],false⟩),(15,⟨none,fun u => [⟨u, (truthP (l.getD i default).fChart (l.getD i default).fStates rr).1⟩],false⟩)] [(4,fun u => u = .agg (cChart ((l.getD i default).fChart) (cel u 1) (cel u 11)).toArray ∧ (l.getD i default).fChart.wf),(11,fun u => u = .tuple #[tuE u 0, .int .i64 ((truthP (l.getD i default).fChart (l.getD i default).fStates rr).2)]),(12,fun u => u = .tuple #[tuE u 0, .int .i64 ((truthP (l.getD i default).fChart (l.getD i default).fStates rr).2)])] [] [] (fun _ => G) (fun _ => by kernel_rfl) ?_ fun V hV => ?_
     ·
      refine ⟨fun V De _=>aP1 (ixQ 10 G G G slt_75 G fun v130 => nl (odH G G G trivial (Sc 0 G Sn) (SubD.tail Sr))),fun V De _=>aP1 (faP (α := TScene) (β := TChart) 0 (fun x : TScene => x.fChart) G G (Fg G) pScene_2 G fun v131 => nl (odH G G G trivial (Sc 0 G Sn) (SubD.tail (SubD.tail Sr)))),?_⟩
      refine ⟨fun V De _=>aP1 ?_,?_⟩
      ·
       refine ldS 0 G G (Rg G) G fun q132 w132 => ?_
       obtain ⟨q132_0, q132_1⟩ := q132
       exact nl (odH G G G ⟨G, w132⟩ (Sc 1 G (Sc 2 G Sn)) (SubD.tail (SubD.tail (SubD.tail (SubD.tail Sr)))))
      refine ⟨fun V De _=>aP1 (ixQ 10 G G G slt_75 G fun v135 => nl (odH G G G trivial (Sc 0 G Sn) (SubD.tail Sr))),fun V De _=>aP1 (faP (α := TScene) (β := List TState) 0 (fun x : TScene => x.fStates) G G (Fg G) pScene_3 G fun v136 => nl (odH G G G trivial (Sc 0 G Sn) (SubD.tail (SubD.tail Sr)))),fun V De _=>aP1 (ldL 0 G G (Og G) G fun v137 => nl (odH G G G trivial (Sc 0 G Sn) (SubD.tail (SubD.tail Sr)))),?_⟩
      refine ⟨fun V De hV=>aP1 ?_,?_⟩
      ·
       obtain ⟨hy4, w132⟩ := hV.mem 4 (mE G) rfl
       refine wkL [(132, .agg (cChart ((l.getD i default).fChart) (cel (V 4) 1) (cel (V 4) 11)).toArray), (137, _), (138, _)] _ (by exact ⟨congrArg some hy4, rfl, rfl, trivial⟩) Sr<|cf (truth_c _ _ _ _ _ _ _ (truthP (l.getD i default).fChart (l.getD i default).fStates rr) w132 hrw G) (Kg G) G (Si [0,1,2,15] G) G fun y139 v139 h139 => ?_
       subst h139
       exact nl (odH G G G G (Sc 0 G Sn) (SubD.tail (SubD.tail (SubD.tail (SubD.tail Sr)))))
      refine ⟨fun V De hV=>aP1 ?_,?_⟩
      ·
       obtain hy11 := hV.mem 11 (mE G) rfl
       exact wkL [(139, .tuple #[tuE (V 11) 0, .int .i64 ((truthP (l.getD i default).fChart (l.getD i default).fStates rr).2)])] _ (by exact ⟨congrArg some hy11, trivial⟩) Sr<|mv G G<|nl (odH G G G G (Sc 0 G Sn) (SubD.tail Sr))
      refine ⟨fun V De hV=>aP1 ?_,?_⟩
      ·
       obtain hy12 := hV.mem 12 (mE G) rfl
       exact wkL [(127, .tuple #[tuE (V 12) 0, .int .i64 ((truthP (l.getD i default).fChart (l.getD i default).fStates rr).2)])] _ (by exact ⟨congrArg some hy12, trivial⟩) Sr<|ru 1 G<|nl (odH G G G trivial (Sc 0 G Sn) (SubD.tail Sr))
      refine ⟨fun V De hV=>aP1 ?_,?_⟩
      ·
       obtain hy12 := hV.mem 12 (mE G) rfl
       exact wkL [(127, .tuple #[tuE (V 12) 0, .int .i64 ((truthP (l.getD i default).fChart (l.getD i default).fStates rr).2)])] _ (by exact ⟨congrArg some hy12, trivial⟩) Sr<|ru 1 G<|nl (odH G G G G Sn (SubD.tail Sr))
      exact ⟨fun V De _=>aP1 (asg G G<|nl (odH G G G trivial (Sc 0 G Sn) (SubD.tail Sr))),trivial⟩
     ·
      refine nx<|sq<|rgZ (L := [bl b12 27 (cChart ((furC l)) a51 b51), bl b9 27 (cChart ((furC l)) a45 b45), fz X w]) [] [(2,⟨none,fun u => [⟨u, (⟨(l.getD i default)⟩ : Pt TScene)⟩],false⟩),(3,⟨none,fun u => [⟨u, (⟨(l.getD i default).fChart⟩ : Pt TChart)⟩],false⟩),(4,⟨none,fun u => [⟨cel u 1, (l.getD i default).fChart.fPlaces⟩, ⟨cel u 11, (l.getD i default).fChart.fMarks⟩],false⟩),(7,⟨none,fun u => [⟨u, (⟨(l.getD i default)⟩ : Pt TScene)⟩],false⟩),(8,⟨none,fun u => [⟨u, (⟨(l.getD i default).fStates⟩ : Pt (List TState))⟩],false⟩),(9,⟨none,fun u => [⟨u, (l.getD i default).fStates⟩],false⟩),(11,⟨none,fun u => [⟨tuE u 0, (truthP (l.getD i default).fChart (l.getD i default).fStates rr).1⟩],false⟩),(12,⟨none,fun u => [⟨tuE u 0, (truthP (l.getD i default).fChart (l.getD i default).fStates rr).1⟩],false⟩),(13,⟨none,fun u => [⟨u, (truthP (l.getD i default).fChart (l.getD i default).fStates rr).1⟩],false⟩),(14,⟨some (.int .i64 ((truthP (l.getD i default).fChart (l.getD i default).fStates rr).2)),fun _ => [],false⟩),(15,⟨none,fun u => [⟨u, (truthP (l.getD i default).fChart (l.getD i default).fStates rr).1⟩],false⟩)] [(4,fun u => u = .agg (cChart ((l.getD i default).fChart) (cel u 1) (cel u 11)).toArray ∧ (l.getD i default).fChart.wf),(11,fun u => u = .tuple #[tuE u 0, .int .i64 ((truthP (l.getD i default).fChart (l.getD i default).fStates rr).2)]),(12,fun u => u = .tuple #[tuE u 0, .int .i64 ((truthP (l.getD i default).fChart (l.getD i default).fStates rr).2)])] [] [] (fun _ => G) (fun _ => by kernel_rfl) ?_ fun V hV => ?_
      ·
       refine ⟨fun V De _=>aP1 (ixQ 22 G G G slt_75 G fun v145 => nl (odH G G G trivial (Sc 0 G Sn) (SubD.tail Sr))),fun V De _=>aP1 (faP (α := TScene) (β := TChart) 0 (fun x : TScene => x.fChart) G G (Fg G) pScene_2 G fun v146 => nl (odH G G G trivial (Sc 0 G Sn) (SubD.tail (SubD.tail Sr)))),?_⟩
       refine ⟨fun V De _=>aP1 ?_,?_⟩
       ·
        refine ldS 0 G G (Rg G) G fun q147 w147 => ?_
        obtain ⟨q147_0, q147_1⟩ := q147
        exact nl (odH G G G ⟨G, w147⟩ (Sc 1 G (Sc 2 G Sn)) (SubD.tail (SubD.tail (SubD.tail (SubD.tail Sr)))))
       refine ⟨fun V De _=>aP1 (ixQ 22 G G G slt_75 G fun v150 => nl (odH G G G trivial (Sc 0 G Sn) (SubD.tail Sr))),fun V De _=>aP1 (faP (α := TScene) (β := List TState) 0 (fun x : TScene => x.fStates) G G (Fg G) pScene_3 G fun v151 => nl (odH G G G trivial (Sc 0 G Sn) (SubD.tail (SubD.tail Sr)))),fun V De _=>aP1 (ldL 0 G G (Og G) G fun v152 => nl (odH G G G trivial (Sc 0 G Sn) (SubD.tail (SubD.tail Sr)))),?_⟩
       refine ⟨fun V De hV=>aP1 ?_,?_⟩
       ·
        obtain ⟨hy4, w147⟩ := hV.mem 4 (mE G) rfl
        refine wkL [(147, .agg (cChart ((l.getD i default).fChart) (cel (V 4) 1) (cel (V 4) 11)).toArray), (152, _), (153, _)] _ (by exact ⟨congrArg some hy4, rfl, rfl, trivial⟩) Sr<|cf (truth25_c _ _ _ _ _ _ _ (truthP (l.getD i default).fChart (l.getD i default).fStates rr) w147 hrw (truth_eq (hw _ (getD_mem (by omega)))).symm) (Kg G) G (Si [0,1,2,26] G) G fun y154 v154 h154 => ?_
        subst h154
        exact nl (odH G G G G (Sc 0 G Sn) (SubD.tail (SubD.tail (SubD.tail (SubD.tail Sr)))))
       refine ⟨fun V De hV=>aP1 ?_,?_⟩
       ·
        obtain hy11 := hV.mem 11 (mE G) rfl
        exact wkL [(154, .tuple #[tuE (V 11) 0, .int .i64 ((truthP (l.getD i default).fChart (l.getD i default).fStates rr).2)])] _ (by exact ⟨congrArg some hy11, trivial⟩) Sr<|mv G G<|nl (odH G G G G (Sc 0 G Sn) (SubD.tail Sr))
       refine ⟨fun V De hV=>aP1 ?_,?_⟩
       ·
        obtain hy12 := hV.mem 12 (mE G) rfl
        exact wkL [(142, .tuple #[tuE (V 12) 0, .int .i64 ((truthP (l.getD i default).fChart (l.getD i default).fStates rr).2)])] _ (by exact ⟨congrArg some hy12, trivial⟩) Sr<|ru 1 G<|nl (odH G G G trivial (Sc 0 G Sn) (SubD.tail Sr))
       refine ⟨fun V De hV=>aP1 ?_,?_⟩
       ·
        obtain hy12 := hV.mem 12 (mE G) rfl
        exact wkL [(142, .tuple #[tuE (V 12) 0, .int .i64 ((truthP (l.getD i default).fChart (l.getD i default).fStates rr).2)])] _ (by exact ⟨congrArg some hy12, trivial⟩) Sr<|ru 1 G<|nl (odH G G G G Sn (SubD.tail Sr))
       exact ⟨fun V De _=>aP1 (asg G G<|nl (odH G G G trivial (Sc 0 G Sn) (SubD.tail Sr))),trivial⟩
      ·
       refine nx<|sq<|qg<|ru 4 G<|jb 160 4 [] [0,1,2,7,19,24,25,26,27] G G G<|mv G G<|jz 165 5 [0,1,2,7,19,25,27] G G (fun h165 K170 => ru 2 G<|gY G G G<|cfv (plainT_c _ _ _) (Kg G) G (Si [21,10] G) G<|ru 2 G<|K170 G Sr)<|mv G G<|jb 171 4 [] [0,1,2,7,19] G G G<|nl<|nx<|cdB G (fun h175 => ?_) (fun h175 => ?_)
       ·
        simp at h175 --#done
       ·
        refine sk<|nx<|sa 1 G<|bk<|lpC (σ := Nat) [(0, _), (1, _), (2, _), (7, _), (19, _)] _ (fun k C => (28, .int .i64 (k : Int)) :: C) (fun k => k ≤ (l.getD i default).fStates.length) (fun k => (l.getD i default).fStates.length - k) 0 (Gs G) (Sc 28 G (Sc 29 G (Sc 30 G (Sc 31 G (Sc 32 G (Sc 33 G (Sc 34 G Sn))))))) (Nat.zero_le _) (Gs G) ?_
        intro k hi_k
        refine sq<|qg<|ru 3 G<|ixQ 5 G G G slt_75 G fun v179 => faP (α := TScene) (β := List TState) 0 (fun x : TScene => x.fStates) G G (Fg G) pScene_3 G fun v180 => ldL 0 G G (Og G) G fun v181 => lnP 0 G G Tryz.underlying28 G fun l182 => ru 1 G<|nl<|nx<|cdP G (fun h183 => ?_) (fun h183 => ?_)
        ·
         have h183 : (k : Int) < ((l.getD i default).fStates.length : Int) := h183
         refine sk<|nx<|sq<|bk<|sq<|rgQ mixed (by kernel_rfl)<|ru 2 G<|ixQ 7 G G G slt_75 G fun v188 => faP (α := TScene) (β := List TState) 0 (fun x : TScene => x.fStates) G G (Fg G) pScene_3 G fun v189 => ldL 0 G G (Og G) G fun v190 => mv G G<|ixQ 0 G G G slt_28 G fun v192 => ldS 0 G G (Rg G) G fun q193 w193 => ?_
         obtain ⟨q193_0, q193_1, q193_2, q193_3, q193_4, q193_5⟩ := q193
         refine ru 2 G<|ixQ 19 G G G slt_75 G fun v196 => faP (α := TScene) (β := List TState) 0 (fun x : TScene => x.fStates) G G (Fg G) pScene_3 G fun v197 => ldL 0 G G (Og G) G fun v198 => mv G G<|ixQ 0 G G G slt_28 G fun v200 => ldS 0 G G (Rg G) G fun q201 w201 => ?_
         obtain ⟨q201_0, q201_1, q201_2, q201_3, q201_4, q201_5⟩ := q201
         refine cfq (sameState_c _ _ _ _ _ _ _ _ _ _ _ _ _ _ w193 w201) (Kg G) G (Si [12,13,14,15,16,17,1,2,3,4,5,6] G) G<|nt G G<|nlQ<|nx<|cdB G (fun h203 => ?_) (fun h203 => ?_)
         ·
          simp [sameState_self] at h203 --#done
         ·
          refine sk<|bN<|nx<|rg<|mv G G<|adI G G inI G<|ru 1 G<|nl ?_
          exact ag (k + 1) (by omega) (by omega) (Gs G) G (Si [25,26,27,28,29,30,31] G)
        ·
         refine ex<|tE<|tE<|bE<|bN<|nx<|rg<|mv G G<|adI G G inI G<|ru 1 G<|nl ?_
         exact ag (i + 1) (by omega) (by omega) (Gs G) G (Si [3,4,5,6,7,8,9] G)
    · exact ex<|tE<|tE<|bE<|nx<|sa 1 G<|rt<|dpQ<|dpQ<|fR1 () G G (by rfl) G Sn
end Go.Proofs.YtmpoffijcfaalaaGreat
