/- Part 19 of the proof of auditOrder_holds: DutW8, DutSP, DutWE. Every text below begins with what it shows. -/
import Derived.Test.YtmpoffijcfaalaaGreatAu18

/- Walks, written by specs2.py. -/

namespace Go.Proofs.YtmpoffijcfaalaaGreat
open Go.Eng Go.YtmpoffijcfaalaaGreat
set_option maxHeartbeats 1000000

theorem saccs_c (s : TState) (s_0 s_1 s_2 s_3 s_4 s_5 : Value) (h_s : s.wf) : FnV Tryz.prog 181 [.agg (cState s s_0 s_1 s_2 s_3 s_4 s_5).toArray] [⟨s_0, s.fAccounts⟩, ⟨s_1, s.fMarks⟩, ⟨s_2, s.fWaits⟩, ⟨s_3, s.fDeals⟩, ⟨s_4, s.fEnds⟩, ⟨s_5, s.fImage⟩] (.bool (accsP s)) := by
 refine Fnc.proof Tryz.func181 G 48 G G fun X w => sq<|rg<|bx G G G fun b1 => asg G G<|nl<|nx<|sq<|sq<|rg<|fa G fld_55_6 G<|ldB 0 G G one_50 G G<|lnP 0 G G Tryz.underlying50 G fun l7 => gtI G G G ?_
 refine nl<|nx<|cdP G (fun h8 => ?_) (fun h8 => ?_)
 ·
  have e8 : (decide ((s.fAccounts.length : Int) > 12)) = true := (decide_eq_true h8)
  refine sq<|rg<|asg G G<|nl<|nx<|rt<|tR<|dpQ ?_
  exact fR1 () G G (by rw [accsP, if_pos e8]) G Sn
 ·
  have e8 : (decide ((s.fAccounts.length : Int) > 12)) = false := (decide_eq_false h8)
  refine sk<|nx<|sq<|sq<|rg<|fa G fld_55_6 G<|ldB 0 G G one_50 G G<|lnP 0 G G Tryz.underlying50 G fun l11 => mv G G<|nl<|nx<|bk<|lpC (σ := Nat) [(1, _), (10, _), (11, _)] _ (fun i C => (12, .int .i64 (i : Int)) :: C) (fun i => i ≤ s.fAccounts.length ∧ (∀ j, j < i → (!accsj s j) = true)) (fun i => s.fAccounts.length - i) 0 ⟨G, G, G, trivial⟩ (Sc 0 G (Sc 1 G (Sc 2 G (Sc 3 G (Sc 4 G (Sc 5 G Sn)))))) ⟨Nat.zero_le _, fun j hj => absurd hj (Nat.not_lt_zero j)⟩ ⟨G, G, G, G, trivial⟩ ?_
  rintro i ⟨hi, hall⟩
  refine sq<|rg<|ltI G G G<|nl<|nx<|sq<|cdP G (fun h13 => ?_) (fun h13 => ?_)
  ·
   refine sk<|nx<|sq<|bk<|sq<|rg<|mv G G<|ixP 0 G G G slt_50 (by omega) (getDE (d := default) (by omega)) G fun v15 => ldS 0 G G row_70 G fun q16 w16 => ?_
   refine al zero_70 G fun b4 => asg G G<|gtL (q := q16.oneCell' = true) (fun S w h => oneCell_of_list (h _ (List.mem_of_getElem? (i := 1) G))) fun o_q16 => stW 0 (us := (cAccount ((s.fAccounts.getD i default)) q16)) G G G row_70 (by simp only [List.all_cons, List.all_nil, Bool.and_true, o_q16]; rfl) G<|nl<|nx<|sq<|rgQ mixed (by kernel_rfl)<|ldM 0 (cAccount ((s.fAccounts.getD i default)) q16) G G row_70 G G<|cfq (acheck_c _ _ w16) ok_97 G (Sc 1 G Sn) G<|neI G G G<|mv G G ?_
   apply jo [(1, _), (3, _), (4, _), (10, _), (11, _), (12, _)] ⟨rfl, rfl, rfl, rfl, rfl, rfl, trivial⟩
   ·
    intro K23
    refine spO (i := 20) G (fun h20 => ?_) (fun h20 => ?_)
    ·
     have p20 := h20
     simp only [Bool.not_eq_true', Bool.not_eq_false', decide_eq_true_eq, decide_eq_false_iff_not] at p20
     exact gY G G G<|ldM 0 (cAccount ((s.fAccounts.getD i default)) q16) G G row_70 G G<|gY G G G<|cfq (aplain_c _ _ w16) ok_89 G (Sc 1 G Sn) G<|pkF G G G<|jR K23 h20 ⟨G, G, G, G, G, G, trivial⟩ Sr
    ·
     exact gS (g := [_, _]) G<|pkT G G G<|jR0 K23 h20 ⟨G, G, G, G, G, G, trivial⟩ Sr
   refine mv G G ?_
   apply jo [(1, _), (3, _), (4, _), (10, _), (11, _), (12, _)] ⟨rfl, rfl, rfl, rfl, rfl, rfl, trivial⟩
   ·
    intro K30
    refine spO (i := 24) G (fun h24 => ?_) (fun h24 => ?_)
    ·
     exact gY G G G<|ldM 1 (cState s s_0 s_1 s_2 s_3 s_4 s_5) G G row_55 G G<|gY G G G<|fa G fld_70_0 G<|gY G G G<|ldB 0 G G one_9 G G<|gY G G G<|cfq (owns_c _ _ _ _ _ _ _ _ h_s) ok_78 G (Sc 3 G (Sc 4 G (Sc 5 G (Sc 6 G (Sc 7 G (Sc 8 G Sn)))))) G<|gY G G G<|nt G G<|pkF G G G<|jR K30 h24 ⟨G, G, G, G, G, G, trivial⟩ Sr
    ·
     exact gS (g := [_, _, _, _, _]) G<|pkT G G G<|jR0 K30 h24 ⟨G, G, G, G, G, G, trivial⟩ Sr
   refine mv G G ?_
   apply jo [(1, _), (10, _), (11, _), (12, _)] ⟨rfl, rfl, rfl, rfl, trivial⟩
   ·
    intro K46
    refine spO (i := 31) G (fun h31 => ?_) (fun h31 => ?_)
    ·
     have p31 := h31
     try simp only [Bool.or_eq_false_iff, Bool.and_eq_true, decide_eq_true_eq, decide_eq_false_iff_not, Bool.not_eq_true', Bool.not_eq_false'] at p31
     refine gY G G G<|mv G G<|gY G G G<|gtI G G G<|gY G G G<|mv G G ?_
     apply jo [(1, _), (10, _), (11, _), (12, _), (31, _)] ⟨rfl, rfl, rfl, rfl, rfl, trivial⟩
     ·
      intro K45
      refine spA (i := 34) G (fun h34 => ?_) (fun h34 => ?_)
      ·
       have p34 := of_decide_eq_true h34
       refine gY G G G<|fa G fld_70_0 G<|gY G G G<|ldB 0 G G one_9 G G<|gY G G G<|fa G fld_55_6 G<|gY G G G<|ldB 1 G G one_50 G G<|gY G G G<|mv G G<|gY G G G<|sbI G G (inI (by omega) (by omega)) G<|gY G G G<|ixP 3 G G G slt_50 (by omega) (getDE (d := default) (by omega)) G fun v41 => ?_
       refine gY G G G<|faP (α := TAccount) (β := ByteArray) 0 (fun x : TAccount => x.fKey) G G fld_70_0 pAccount_0 G fun v42 => gY G G G<|ldV 0 G G one_9 G fun w43 => ?_
       exact gY G G G<|leS G G G<|gY G G G<|pkT G G G<|jA K45 h34 ⟨G, G, G, G, G, trivial⟩ (SubD.tail (SubD.tail Sr))
      ·
       exact gS (g := [_, _, _, _, _, _, _, _, _, _]) G<|gY G G G<|pkF G G G<|jA0 K45 h34 ⟨G, G, G, G, G, trivial⟩ Sr
     exact pkF G G G<|jR K46 h31 ⟨G, G, G, G, trivial⟩ Sr
    ·
     exact gS (g := [_, _, _, _, _, _, _, _, _, _, _, _, _, _]) G<|pkT G G G<|jR0 K46 h31 ⟨G, G, G, G, trivial⟩ Sr
   refine nlQ<|nx<|cdB G (fun h46 => ?_) (fun h46 => ?_)
   ·
    refine sq<|rg<|asg G G<|nl<|nx<|rt<|bR<|tR<|tR<|bR<|tR<|dpQ<|dpQ ?_
    exact fR1 () G G (by rw [accsP, if_neg (by rw [e8]; decide), allI_false i (by omega) (not_t h46)]) G Sn
   ·
    refine sk<|bN<|nx<|rg<|adI G G (inI (by omega) (by omega)) G<|mv G G<|nl<|dpQ ?_
    exact ag (i + 1) ⟨(by omega), (all_snoc hall (not_f h46))⟩ (by omega) ⟨G, G, G, G, trivial⟩ G (Sc 3 G (Sc 4 G (Sc 5 G (Sc 6 G (Sc 7 G (Sc 8 G Sn))))))
  ·
   refine ex<|tE<|tE<|bE<|nx<|sq<|rg<|asg G G<|nl<|nx<|rt<|dpQ ?_
   exact fR1 () G G (by rw [accsP, if_neg (by rw [e8]; decide), allI_true (fun j hj => hall j (by omega))]) G Sn

theorem indexDeal_c (v_l : Value) (l : List TDeal) (f : Nat) (caps : Array Value) (A : List Atom) (p : TDeal → Bool) (hok : FnOk Tryz.prog f) (hcl : ∀ x : TDeal, x.wf → FnV Tryz.prog f (.agg (cDeal x).toArray :: caps.toList) A (.bool (p x))) : FnV Tryz.prog 277 [v_l, .func (.func f) #[] caps] (⟨v_l, l⟩ :: A) (.int .i64 (placeI (firstI l.length (fun j => p (l.getD j default))))) := by
 refine Fnc.proof Tryz.func277 G 19 G G fun X w => sq<|rg<|asg G G<|nl<|nx<|sq<|sq<|rg<|mv G G<|lnP 0 G G Tryz.underlying52 G fun l7 => mv G G<|nl<|nx ?_
 refine bk<|lpC (σ := Nat) [(0, _), (1, _), (7, _)] _ (fun i C => (8, .int .i64 (i : Int)) :: C) (fun i => i ≤ l.length ∧ (∀ j, j < i → p (l.getD j default) = false)) (fun i => l.length - i) 0 ⟨G, G, G, trivial⟩ (Sc 0 G (SubD.tail Sr)) ⟨Nat.zero_le _, fun j hj => absurd hj (Nat.not_lt_zero j)⟩ ⟨G, G, G, G, trivial⟩ ?_
 rintro i ⟨hi, hall⟩
 refine sq<|rg<|ltI G G G<|nl<|nx<|sq<|cdP G (fun h9 => ?_) (fun h9 => ?_)
 ·
  refine sk<|nx<|sq<|bk<|sq<|rg<|mv G G<|asg G G<|nl<|nx<|sq<|rg<|mv G G<|mv G G ?_
  refine mv G G<|ixP 0 G G G slt_52 (by omega) (getDE (d := default) (by omega)) G fun v14 => ldS 0 G G row_126 G fun q15 w15 => ?_
  refine cfc (hcl _ w15) hok G G G (SubD.tail (SubD.tail (SubD.tail Sr))) G fun y16 v16 e16 => ?_
  obtain rfl : v16 = .bool (p (l.getD i default)) := e16
  refine nl<|nx<|cdB G (fun h16 => ?_) (fun h16 => ?_)
  ·
   refine sq<|rg<|mv G G<|asg G G<|nl<|nx<|rt<|bR<|tR<|tR<|bR<|tR ?_
   exact fR1 () G G (by rw [firstI_some (j := i) (by omega) hall h16]; try rfl) G Sn
  ·
   refine sk<|bN<|nx<|rg<|adI G G (inI (by omega) (by omega)) G<|mv G G<|nl ?_
   exact ag (i + 1) ⟨(by omega), (all_snoc hall (h16))⟩ (by omega) ⟨G, G, G, G, trivial⟩ G (Sc 2 G (SubD.tail (SubD.tail (SubD.tail Sr))))
 ·
  refine ex<|tE<|tE<|bE<|nx<|sq<|rg<|asg G G<|nl<|nx<|rt ?_
  exact fR1 () G G (by rw [firstI_none (fun k hk => hall k (by omega))]; try rfl) G Sn

theorem indexPlace_c (v_l : Value) (l : List TPlace) (f : Nat) (caps : Array Value) (A : List Atom) (p : TPlace → Bool) (hok : FnOk Tryz.prog f) (hcl : ∀ x : TPlace, x.wf → FnV Tryz.prog f (.agg (cPlace x).toArray :: caps.toList) A (.bool (p x))) : FnV Tryz.prog 244 [v_l, .func (.func f) #[] caps] (⟨v_l, l⟩ :: A) (.int .i64 (placeI (firstI l.length (fun j => p (l.getD j default))))) := by
 refine Fnc.proof Tryz.func244 G 19 G G fun X w => sq<|rg<|asg G G<|nl<|nx<|sq<|sq<|rg<|mv G G<|lnP 0 G G Tryz.underlying22 G fun l7 => mv G G<|nl<|nx ?_
 refine bk<|lpC (σ := Nat) [(0, _), (1, _), (7, _)] _ (fun i C => (8, .int .i64 (i : Int)) :: C) (fun i => i ≤ l.length ∧ (∀ j, j < i → p (l.getD j default) = false)) (fun i => l.length - i) 0 ⟨G, G, G, trivial⟩ (Sc 0 G (SubD.tail Sr)) ⟨Nat.zero_le _, fun j hj => absurd hj (Nat.not_lt_zero j)⟩ ⟨G, G, G, G, trivial⟩ ?_
 rintro i ⟨hi, hall⟩
 refine sq<|rg<|ltI G G G<|nl<|nx<|sq<|cdP G (fun h9 => ?_) (fun h9 => ?_)
 ·
  refine sk<|nx<|sq<|bk<|sq<|rg<|mv G G<|asg G G<|nl<|nx<|sq<|rg<|mv G G<|mv G G ?_
  refine mv G G<|ixP 0 G G G slt_22 (by omega) (getDE (d := default) (by omega)) G fun v14 => ldS 0 G G row_90 G fun q15 w15 => ?_
  refine cfc (hcl _ w15) hok G G G (SubD.tail (SubD.tail (SubD.tail Sr))) G fun y16 v16 e16 => ?_
  obtain rfl : v16 = .bool (p (l.getD i default)) := e16
  refine nl<|nx<|cdB G (fun h16 => ?_) (fun h16 => ?_)
  ·
   refine sq<|rg<|mv G G<|asg G G<|nl<|nx<|rt<|bR<|tR<|tR<|bR<|tR ?_
   exact fR1 () G G (by rw [firstI_some (j := i) (by omega) hall h16]; try rfl) G Sn
  ·
   refine sk<|bN<|nx<|rg<|adI G G (inI (by omega) (by omega)) G<|mv G G<|nl ?_
   exact ag (i + 1) ⟨(by omega), (all_snoc hall (h16))⟩ (by omega) ⟨G, G, G, G, trivial⟩ G (Sc 2 G (SubD.tail (SubD.tail (SubD.tail Sr))))
 ·
  refine ex<|tE<|tE<|bE<|nx<|sq<|rg<|asg G G<|nl<|nx<|rt ?_
  exact fR1 () G G (by rw [firstI_none (fun k hk => hall k (by omega))]; try rfl) G Sn

theorem place1_c (x : TDeal) (v1 v2 : Value) (c q : Int) (h_x : x.wf) : FnV Tryz.prog 278 [.agg (cDeal x).toArray, v1, v2] [⟨v1, (⟨c⟩ : Pt Int)⟩, ⟨v2, (⟨q⟩ : Pt Int)⟩] (.bool (decide (x.fClient = c) && decide (x.fSeq = q))) := by
 refine Fnc.proof Tryz.func278 G 15 G G fun X w => sq<|rg<|bx G G G fun b3 => asg G G<|nl<|nx<|sq<|rg<|fa G fld_126_0 G<|ldB 0 G G one_3 G G<|ldV 0 G G one_3 G fun w7 => ?_
 refine eqI G G G<|mv G G ?_
 apply jo [] trivial
 ·
  intro K14
  refine spA (i := 9) G (fun h9 => ?_) (fun h9 => ?_)
  ·
   have p9 := of_decide_eq_true h9
   refine gY G G G<|fa G fld_126_1 G<|gY G G G<|ldB 0 G G one_3 G G<|gY G G G<|ldV 1 G G one_3 G fun w12 => ?_
   exact gY G G G<|eqI G G G<|pkT G G G<|jA K14 h9 trivial Sr
  ·
   exact gS (g := [_, _, _, _]) G<|pkF G G G<|jA0 K14 h9 trivial Sr
 refine asg G G<|nl<|nx<|rt<|dpQ ?_
 exact fR1 () G G (by rfl) G Sn

theorem place_c (v_l : Value) (l : List TDeal) (c : Int) (q : Int) (h_c : InI c) (h_q : InI q) : FnV Tryz.prog 221 [v_l, .int .i64 c, .int .i64 q] [⟨v_l, l⟩] (.int .i64 (placeI (placeO l c q))) := by
 refine Fnc.proof Tryz.func221 G 10 G G fun X w => ?_
 obtain ⟨h_c1, h_c2⟩ := id h_c
 obtain ⟨h_q1, h_q2⟩ := id h_q
 refine sq<|rg<|bx G G G fun b4 => bx G G G fun b5 => asg G G<|nl<|nx<|sq<|rg<|frP (α := Int) q (fun S w h => ⟨G, h_q⟩)<|frP (α := Int) c (fun S w h => ⟨G, h_c⟩)<|mv G G<|mf (xs := [.tmp 4, .tmp 5]) G G<|cfv (indexDeal_c _ _ 278 #[.pointer (some ⟨b4, 0, none⟩), .pointer (some ⟨b5, 0, none⟩)] [⟨_, (⟨c⟩ : Pt Int)⟩, ⟨_, (⟨q⟩ : Pt Int)⟩] (fun x => decide (x.fClient = c) && decide (x.fSeq = q)) ok_278 (fun x hx => place1_c x _ _ c q hx)) ok_277 G (Sc 2 G (Sc 0 G (Sc 1 G Sn))) G ?_
 refine asg G G<|nl<|nx<|rt ?_
 exact fR1 () G G (by rfl) G Sn

theorem deals_c (v_l : Value) (l : List TDeal) : FnV Tryz.prog 183 [v_l] [⟨v_l, l⟩] (.int .i64 (errF (dealsP l))) := by
 refine Fnc.proof Tryz.func183 G 29 G G fun X w => sq<|rg<|asg G G<|nl<|nx<|sq<|sq<|rg<|mv G G<|lnP 0 G G Tryz.underlying52 G fun l6 => gtI G G G<|nl<|nx ?_
 refine cdP G (fun h7 => ?_) (fun h7 => ?_)
 ·
  have e7 : (decide ((l.length : Int) > 4)) = true := (decide_eq_true h7)
  refine sq<|rg<|asg G G<|nl<|nx<|rt<|tR ?_
  exact fR1 () G G (by rw [dealsP, if_pos e7]; try rfl) G Sn
 ·
  have e7 : (decide ((l.length : Int) > 4)) = false := (decide_eq_false h7)
  refine sk<|nx<|sq<|sq<|rg<|mv G G<|lnP 0 G G Tryz.underlying52 G fun l9 => mv G G<|nl<|nx<|bk<|lpC (σ := Nat) [(0, _), (8, _), (9, _)] _ (fun i C => (10, .int .i64 (i : Int)) :: C) (fun i => i ≤ l.length ∧ (∀ j, j < i → (!dealsj l j) = true)) (fun i => l.length - i) 0 ⟨G, G, G, trivial⟩ (Sc 0 G Sn) ⟨Nat.zero_le _, fun j hj => absurd hj (Nat.not_lt_zero j)⟩ ⟨G, G, G, G, trivial⟩ ?_
  rintro i ⟨hi, hall⟩
  refine sq<|rg<|ltI G G G<|nl<|nx<|sq<|cdP G (fun h11 => ?_) (fun h11 => ?_)
  ·
   refine sk<|nx<|sq<|bk<|sq<|rg<|mv G G<|ixP 0 G G G slt_52 (by omega) (getDE (d := default) (by omega)) G fun v13 => ldS 0 G G row_126 G fun q14 w14 => ?_
   refine al zero_126 G fun b4 => asg G G<|stW 0 (us := (cDeal ((l.getD i default)))) G G G row_126 G G<|nl<|nx<|sq<|rg<|ldM 0 (cDeal ((l.getD i default))) G G row_126 G G<|cfv (dmay_c _ w14) ok_238 G Sn G<|nt G G<|mv G G ?_
   apply jo [(0, _), (8, _), (9, _), (10, _)] ⟨rfl, rfl, rfl, rfl, trivial⟩
   ·
    intro K27
    refine spO (i := 18) G (fun h18 => ?_) (fun h18 => ?_)
    ·
     refine gY G G G<|mv G G<|gY G G G<|fa G fld_126_0 G<|gY G G G<|ldB 0 G G one_3 G G<|gY G G G<|fa G fld_126_1 G<|gY G G G<|ldB 0 G G one_3 G G<|gY G G G<|cfv (place_c _ _ _ _ w14.1 w14.2.1) ok_221 G (Sc 2 G Sn) G<|gY G G G<|mv G G ?_
     exact gY G G G<|neI G G G<|pkF G G G<|jR K27 h18 ⟨G, G, G, G, trivial⟩ Sr
    ·
     exact gS (g := [_, _, _, _, _, _, _, _]) G<|pkT G G G<|jR0 K27 h18 ⟨G, G, G, G, trivial⟩ Sr
   refine nl<|nx<|cdB G (fun h27 => ?_) (fun h27 => ?_)
   ·
    refine sq<|rg<|asg G G<|nl<|nx<|rt<|bR<|tR<|tR<|bR<|tR<|dpQ ?_
    exact fR1 () G G (by rw [dealsP, if_neg (by rw [e7]; decide), allI_false i (by omega) (not_t h27)]; try rfl) G Sn
   ·
    refine sk<|bN<|nx<|rg<|adI G G (inI (by omega) (by omega)) G<|mv G G<|nl<|dpQ ?_
    exact ag (i + 1) ⟨(by omega), (all_snoc hall (not_f h27))⟩ (by omega) ⟨G, G, G, G, trivial⟩ G (Sc 2 G Sn)
  ·
   refine ex<|tE<|tE<|bE<|nx<|sq<|rg<|asg G G<|nl<|nx<|rt ?_
   exact fR1 () G G (by rw [dealsP, if_neg (by rw [e7]; decide), allI_true (fun j hj => hall j (by omega))]; try rfl) G Sn

theorem rcheck_c (v_l : Value) (l : List TPlace) : FnV Tryz.prog 187 [v_l] [⟨v_l, l⟩] (.int .i64 (errF (rplacesP l))) := by
 refine Fnc.proof Tryz.func187 G 68 G G fun X w => sq<|rg<|asg G G<|nl<|nx<|sq<|sq<|rg<|mv G G<|lnP 0 G G Tryz.underlying22 G fun l7 => ltI G G G<|mv G G ?_
 apply jo [(0, _)] ⟨rfl, trivial⟩
 ·
  intro K15
  refine spO (i := 9) G (fun h9 => ?_) (fun h9 => ?_)
  ·
   have p9 := of_decide_eq_false h9
   refine gY G G G<|mv G G<|gY G G G<|ixP 0 G G G slt_22 (by omega) (getDE (d := default) (by omega)) G fun v11 => gY G G G<|faP (α := TPlace) (β := ByteArray) 0 (fun x : TPlace => x.fFrom) G G fld_90_1 pPlace_1 G fun v12 => gY G G G<|ldV 0 G G one_9 G fun w13 => ?_
   exact gY G G G<|neS G G G<|pkF G G G<|jR K15 h9 ⟨G, trivial⟩ (SubD.tail (SubD.tail Sr))
  ·
   exact gS (g := [_, _, _, _, _]) G<|pkT G G G<|jR0 K15 h9 ⟨G, trivial⟩ Sr
 refine nl<|nx<|cdB G (fun h15 => ?_) (fun h15 => ?_)
 ·
  have e15 : (rpl1 l) = true := h15
  refine sq<|rg<|asg G G<|nl<|nx<|rt<|tR ?_
  exact fR1 () G G (by rw [rplacesP, if_pos e15]; try rfl) G Sn
 ·
  have e15 : (rpl1 l) = false := h15
  refine sk<|nx<|sq<|rg<|al zero_294 G fun b3 => nl<|nx<|sq<|sq<|rg<|mv G G<|lnP 0 G G Tryz.underlying22 G fun l17 => mv G G<|nl ?_
  refine nx<|bk<|lpE (σ := Nat) [(0, _), (3, _), (16, _), (17, _)] _ (fun i C => (18, .int .i64 (i : Int)) :: C) (fun i => [bl b3 294 (seenC l i), fz X w]) (fun _ Dc => Dc) (fun i => i ≤ l.length ∧ (∀ j, j < i → (!rplj l j) = true)) (fun i => l.length - i) 0 ⟨G, G, G, G, trivial⟩ (Sc 0 G Sn) ⟨Nat.zero_le _, fun j hj => absurd hj (Nat.not_lt_zero j)⟩ ⟨G, G, G, G, G, trivial⟩ G (Sc 0 G Sn) ?_
  rintro i ⟨hi, hall⟩
  refine sq<|rg<|ltI G G G<|nl<|nx<|sq<|cdP G (fun h19 => ?_) (fun h19 => ?_)
  ·
   refine sk<|nx<|sq<|bk<|sq<|rg<|mv G G<|ixP 0 G G G slt_22 (by omega) (getDE (d := default) (by omega)) G fun v21 => ldS 0 G G row_90 G fun q22 w22 => ?_
   refine al zero_90 G fun b5 => asg G G<|stW 0 (us := (cPlace ((l.getD i default)))) G G G row_90 G G<|nl<|nx<|sq<|sq<|rgQ mixed (by kernel_rfl)<|fa G fld_90_0 G<|ldB 0 G G one_3 G G<|cfq (rgroup_c _ w22.1) ok_243 G Sn G<|nt G G<|mv G G ?_
   apply jo [(0, _), (3, _), (4, _), (5, _), (16, _), (17, _), (18, _)] ⟨rfl, rfl, rfl, rfl, rfl, rfl, rfl, trivial⟩
   ·
    intro K32
    refine spO (i := 27) G (fun h27 => ?_) (fun h27 => ?_)
    ·
     have pg : 1 ≤ (l.getD i default).fGroup ∧ (l.getD i default).fGroup < 8 := by
      have q := h27
      simp only [okGroup, Bool.not_eq_false', Bool.or_eq_false_iff, Bool.and_eq_true, decide_eq_true_eq] at q
      exact q
     exact gY G G G<|fa G fld_90_0 G<|gY G G G<|ldB 0 G G one_3 G G<|gY G G G<|ixA G G arr_294 (by omega) (by omega) G<|gY G G G<|ldB 1 G G one_4 (seen_get (by omega) (by omega)) G<|pkF G G G<|jR K32 h27 ⟨G, G, G, G, G, G, G, trivial⟩ Sr
    ·
     exact gS (g := [_, _, _, _]) G<|pkT G G G<|jR0 K32 h27 ⟨G, G, G, G, G, G, G, trivial⟩ Sr
   refine mv G G ?_
   apply jo [(0, _), (3, _), (4, _), (5, _), (16, _), (17, _), (18, _)] ⟨rfl, rfl, rfl, rfl, rfl, rfl, rfl, trivial⟩
   ·
    intro K37
    refine spO (i := 33) G (fun h33 => ?_) (fun h33 => ?_)
    ·
     exact gY G G G<|fa G fld_90_2 G<|gY G G G<|ldB 0 G G one_3 G G<|gY G G G<|ltI G G G<|pkF G G G<|jR K37 h33 ⟨G, G, G, G, G, G, G, trivial⟩ Sr
    ·
     exact gS (g := [_, _, _]) G<|pkT G G G<|jR0 K37 h33 ⟨G, G, G, G, G, G, G, trivial⟩ Sr
   refine mv G G ?_
   apply jo [(0, _), (3, _), (4, _), (5, _), (16, _), (17, _), (18, _)] ⟨rfl, rfl, rfl, rfl, rfl, rfl, rfl, trivial⟩
   ·
    intro K42
    refine spO (i := 38) G (fun h38 => ?_) (fun h38 => ?_)
    ·
     exact gY G G G<|fa G fld_90_2 G<|gY G G G<|ldB 0 G G one_3 G G<|gY G G G<|gtI G G G<|pkF G G G<|jR K42 h38 ⟨G, G, G, G, G, G, G, trivial⟩ Sr
    ·
     exact gS (g := [_, _, _]) G<|pkT G G G<|jR0 K42 h38 ⟨G, G, G, G, G, G, G, trivial⟩ Sr
   refine mv G G ?_
   apply jo [(0, _), (3, _), (4, _), (5, _), (16, _), (17, _), (18, _)] ⟨rfl, rfl, rfl, rfl, rfl, rfl, rfl, trivial⟩
   ·
    intro K48
    refine spO (i := 43) G (fun h43 => ?_) (fun h43 => ?_)
    ·
     exact gY G G G<|fa G fld_90_1 G<|gY G G G<|ldB 0 G G one_9 G G<|gY G G G<|lnS G Tryz.underlying9 G<|gY G G G<|gtI G G G<|pkF G G G<|jR K48 h43 ⟨G, G, G, G, G, G, G, trivial⟩ Sr
    ·
     exact gS (g := [_, _, _, _]) G<|pkT G G G<|jR0 K48 h43 ⟨G, G, G, G, G, G, G, trivial⟩ Sr
   refine mv G G ?_
   apply jo [(0, _), (3, _), (5, _), (16, _), (17, _), (18, _)] ⟨rfl, rfl, rfl, rfl, rfl, rfl, trivial⟩
   ·
    intro K63
    refine spO (i := 49) G (fun h49 => ?_) (fun h49 => ?_)
    ·
     have p49 := h49
     try simp only [Bool.or_eq_false_iff, Bool.and_eq_true, decide_eq_true_eq, decide_eq_false_iff_not, Bool.not_eq_true', Bool.not_eq_false'] at p49
     refine gY G G G<|mv G G<|gY G G G<|gtI G G G<|gY G G G<|mv G G ?_
     apply jo [(0, _), (3, _), (5, _), (16, _), (17, _), (18, _), (49, _)] ⟨rfl, rfl, rfl, rfl, rfl, rfl, rfl, trivial⟩
     ·
      intro K62
      refine spA (i := 52) G (fun h52 => ?_) (fun h52 => ?_)
      ·
       have p52 := of_decide_eq_true h52
       refine gY G G G<|fa G fld_90_1 G<|gY G G G<|ldB 0 G G one_9 G G<|gY G G G<|mv G G<|gY G G G<|mv G G<|gY G G G<|sbI G G (inI (by omega) (by omega)) G<|gY G G G<|ixP 2 G G G slt_22 (by omega) (getDE (d := default) (by omega)) G fun v58 => gY G G G<|faP (α := TPlace) (β := ByteArray) 0 (fun x : TPlace => x.fFrom) G G fld_90_1 pPlace_1 G fun v59 => ?_
       refine gY G G G<|ldV 0 G G one_9 G fun w60 => ?_
       exact gY G G G<|leS G G G<|gY G G G<|pkT G G G<|jA K62 h52 ⟨G, G, G, G, G, G, G, trivial⟩ (SubD.tail (SubD.tail Sr))
      ·
       exact gS (g := [_, _, _, _, _, _, _, _, _]) G<|gY G G G<|pkF G G G<|jA0 K62 h52 ⟨G, G, G, G, G, G, G, trivial⟩ Sr
     exact pkF G G G<|jR K63 h49 ⟨G, G, G, G, G, G, trivial⟩ Sr
    ·
     exact gS (g := [_, _, _, _, _, _, _, _, _, _, _, _, _]) G<|pkT G G G<|jR0 K63 h49 ⟨G, G, G, G, G, G, trivial⟩ Sr
   refine nlQ<|nx<|cdB G (fun h63 => ?_) (fun h63 => ?_)
   ·
    refine sq<|rg<|asg G G<|nl<|nx<|rt<|tR<|bR<|tR<|tR<|bR<|tR<|dpQ<|dpQ ?_
    exact fR1 () G G (by rw [rplacesP, if_neg (by rw [e15]; decide), allI_false i (by omega) (not_t h63)]; try rfl) G Sn
   ·
    have pg : 1 ≤ (l.getD i default).fGroup ∧ (l.getD i default).fGroup < 8 := by
     have q := h63
     simp only [okGroup, Bool.not_eq_false', Bool.or_eq_false_iff, Bool.and_eq_true, decide_eq_true_eq] at q
     exact q.1.1.1.1.1
    refine sk<|nx<|rg<|fa G fld_90_0 G<|ldB 0 G G one_3 G G<|ixA G G arr_294 (by omega) (by omega) G<|stB 1 G G G one_4 G (by rw [seen_len]; omega)<|nl<|bN<|nx<|rg<|adI G G (inI (by omega) (by omega)) G<|mv G G<|nl ?_
    refine dpQ ?_
    exact ag (i + 1) ⟨(by omega), (all_snoc hall (not_f h63))⟩ (by omega) ⟨G, G, G, G, G, trivial⟩ (by rw [← seen_set (l := l) (i := i) (by omega) (by omega)]; rfl) (Sc 2 G Sn)
  ·
   refine ex<|tE<|tE<|bE<|nx<|sq<|rg<|asg G G<|nl<|nx<|rt<|dpQ ?_
   exact fR1 () G G (by rw [rplacesP, if_neg (by rw [e15]; decide), allI_true (fun j hj => hall j (by omega))]; try rfl) G Sn
end Go.Proofs.YtmpoffijcfaalaaGreat

/- At most seven places. No program. -/

namespace Go.YtmpoffijcfaalaaGreat
open Go.Eng

theorem pigeon : ∀ (n : Nat) (m : Nat) (f : Nat → Nat), (∀ i, i < m → f i < n) → (∀ i j, i < m → j < m → f i = f j → i = j) → m ≤ n
  | 0, m, f, hf, _ => by
    rcases Nat.eq_zero_or_pos m with h | h
    · omega
    · exact absurd (hf 0 h) (by omega)
  | n + 1, m, f, hf, hi => by
    by_cases h : ∃ i, i < m ∧ f i = n
    · obtain ⟨i0, h0, e0⟩ := h
      have := pigeon n (m - 1) (fun i => if i < i0 then f i else f (i + 1)) (fun i him => by
        have a1 := hf i (by omega)
        have a2 := hf (i + 1) (by omega)
        show (if i < i0 then f i else f (i + 1)) < n
        split
        · rename_i hlt
          have : f i ≠ n := fun e => by have := hi i i0 (by omega) h0 (by rw [e, e0]); omega
          omega
        · rename_i hlt
          have : f (i + 1) ≠ n := fun e => by have := hi (i + 1) i0 (by omega) h0 (by rw [e, e0]); omega
          omega) (fun i j him hjm e => by
        have e : (if i < i0 then f i else f (i + 1)) = (if j < i0 then f j else f (j + 1)) := e
        split at e <;> split at e
        · exact hi i j (by omega) (by omega) e
        · have := hi i (j + 1) (by omega) (by omega) e; omega
        · have := hi (i + 1) j (by omega) (by omega) e; omega
        · have := hi (i + 1) (j + 1) (by omega) (by omega) e; omega)
      omega
    · have := pigeon n m f (fun i him => by
        have a1 := hf i him
        have : f i ≠ n := fun e => h ⟨i, him, e⟩
        omega) hi
      omega
theorem seen_iff {l : List TPlace} {g : Nat} : ∀ {i : Nat}, seenB l i g = true ↔ ∃ k, k < i ∧ (l.getD k default).fGroup = (g : Int)
  | 0 => by simp [seenB]
  | i + 1 => by
    rw [seenB, Bool.or_eq_true, seen_iff, decide_eq_true_eq]
    constructor
    · rintro (⟨k, hk, e⟩ | e)
      · exact ⟨k, by omega, e⟩
      · exact ⟨i, by omega, e⟩
    · rintro ⟨k, hk, e⟩
      rcases Nat.lt_or_ge k i with h | h
      · exact .inl ⟨k, h, e⟩
      · right
        have : k = i := by omega
        subst this
        exact e
theorem rplaces_len {l : List TPlace} (h : rplacesP l = true) : l.length ≤ 7 := by
  unfold rplacesP at h
  split at h
  · cases h
  · have hj : ∀ j, j < l.length → okGroup (l.getD j default).fGroup = true ∧ seenB l j (l.getD j default).fGroup.toNat = false := fun j hj => by
      have := allI_iff.1 h j hj
      simp only [Bool.not_eq_true', rplj, Bool.or_eq_false_iff, Bool.not_eq_false'] at this
      exact ⟨this.1.1.1.1.1, this.1.1.1.1.2⟩
    have hg : ∀ j, j < l.length → (l.getD j default).fGroup ≥ 1 ∧ (l.getD j default).fGroup < 8 := fun j hjl => by
      have := (hj j hjl).1
      simpa only [okGroup, Bool.and_eq_true, decide_eq_true_eq] using this
    have hs : ∀ i j, i < j → j < l.length → (l.getD i default).fGroup ≠ (l.getD j default).fGroup := fun i j hij hjl e => by
      have h2 := (hj j hjl).2
      rw [← Bool.not_eq_true, seen_iff] at h2
      have := hg j hjl
      exact h2 ⟨i, hij, by omega⟩
    refine pigeon 7 l.length (fun i => (l.getD i default).fGroup.toNat - 1) (fun i hi => ?_) (fun i j hi hjl ee => ?_)
    · have := hg i hi
      show (l.getD i default).fGroup.toNat - 1 < 7
      omega
    · have gi := hg i hi
      have gj := hg j hjl
      have ee : (l.getD i default).fGroup.toNat - 1 = (l.getD j default).fGroup.toNat - 1 := ee
      have ei : (l.getD i default).fGroup = (l.getD j default).fGroup := by omega
      rcases Nat.lt_trichotomy i j with hlt | hlt | hlt
      · exact absurd ei (hs i j hlt hjl)
      · exact hlt
      · exact absurd ei.symm (hs j i hlt hi)
end Go.YtmpoffijcfaalaaGreat

/- The greatest epoch: a range over a function. -/

namespace Go.Proofs.YtmpoffijcfaalaaGreat.Ep
open Go.Eng Go.YtmpoffijcfaalaaGreat Go.RowKit
set_option maxHeartbeats 1000000
theorem ok_231 : FnOk Tryz.prog 231 := ⟨⟨_, Tryz.func231, by kernel_rfl, rfl⟩⟩
theorem ok_280 : FnOk Tryz.prog 280 := ⟨⟨_, Tryz.func280, by kernel_rfl, rfl⟩⟩
theorem zero_3 : ZeroOf Tryz.prog 3 [.int .i64 0] := ZeroOf.mk (by kernel_rfl)
def mx (pre : List (ByteArray × TPlace)) : Int := pre.foldl (fun m x => max m x.2.fEpoch) 0
theorem mx_snoc (pre : List (ByteArray × TPlace)) (x : ByteArray × TPlace) : mx (pre ++ [x]) = max (mx pre) x.2.fEpoch := by simp [mx, List.foldl_append]
theorem mx_upto (l : List TPlace) : ∀ k, mx (upto l k) = maxI (fun j => (l.getD j default).fEpoch) k
 | 0 => rfl
 | k + 1 => by rw [upto_succ, mx_snoc, mx_upto l k]; rfl
theorem mx_all (l : List TPlace) : mx (upto l l.length) = epochP l := mx_upto l _

/-- What holds between two rounds. -/
structure Inv (w0 w1 : World) (b3 : Nat) (pre : List (ByteArray × TPlace)) (W : World) : Prop where
 box : W.heap[b3]? = some (.cells #[.int .i64 (mx pre)] 3 (0, 0))
 size : w1.heap.size ≤ W.heap.size
 stp : Stp [] w0 W
structure InA (w1 : World) (b3 : Nat) (x : ByteArray × TPlace) (a : Act) (W : World) : Prop where
 ex : ∃ B5, w1.heap.size ≤ B5 ∧ W.heap[B5]? = some (.cells (cPlace x.2).toArray 90 (0, 0)) ∧ Fr 15 a [(5, .pointer (some ⟨B5, 0, none⟩)), (3, .pointer (some ⟨b3, 0, none⟩))]
theorem inv_own {w0 w1 : World} {b3 : Nat} (hb : b3 < w1.heap.size) (h01 : w0.heap.size ≤ w1.heap.size) : OwnFrom w1.heap.size (Inv w0 w1 b3) := fun s W W' row hs hg hr => by
 have hne : ∀ k, k < w1.heap.size → some k ≠ row := fun k hk e => by
  have := (hr k e.symm).1
  omega
 have keep : ∀ k, k < w1.heap.size → W'.heap[k]? = W.heap[k]? := fun k hk => hg.block k (Nat.lt_of_lt_of_le hk hs.size) (hne k hk)
 exact ⟨(keep b3 hb).trans hs.box, Nat.le_trans hs.size hg.size, ⟨hg.os.trans hs.stp.os, hg.tape.trans hs.stp.tape, hg.output.trans hs.stp.output, Nat.le_trans hs.stp.size hg.size, fun k hk hx => (keep k (Nat.lt_of_lt_of_le hk h01)).trans (hs.stp.block k hk hx)⟩⟩
theorem ina_own {w1 : World} {b3 : Nat} (x : ByteArray × TPlace) (a : Act) : OwnFrom w1.heap.size (fun (_ : Unit) W => InA w1 b3 x a W) := fun _ W W' row hs hg hr => by
 obtain ⟨B5, h1, h2, h3⟩ := hs.ex
 refine ⟨B5, h1, (hg.block B5 (Array.getElem?_eq_some_iff.1 h2).1 fun e => ?_).trans h2, h3⟩
 obtain ⟨_, o, ho, hc⟩ := hr B5 e.symm
 rw [h2] at ho
 cases ho
 cases hc
theorem inv_st {w0 w1 W : World} {b3 : Nat} {pre : List (ByteArray × TPlace)} (h : Inv w0 w1 b3 pre W) : St W [b3] W [bl b3 3 [.int .i64 (mx pre)]] := ⟨Stp.refl _ _, fun p hp => by
 have : p = bl b3 3 [.int .i64 (mx pre)] := by simpa using hp
 subst this
 exact h.box, by simp [Own.bs, bsOf], fun b hb => .inl (by simpa [Own.bs, bsOf] using hb)⟩
theorem inv_st2 {w0 w1 W : World} {b3 B5 : Nat} {pre : List (ByteArray × TPlace)} {p : TPlace} (h : Inv w0 w1 b3 pre W) (hb : b3 < w1.heap.size) (h5 : w1.heap.size ≤ B5) (hp : W.heap[B5]? = some (.cells (cPlace p).toArray 90 (0, 0))) :
  St W [b3, B5] W [bl B5 90 (cPlace p), bl b3 3 [.int .i64 (mx pre)]] := ⟨Stp.refl _ _, fun q hq => by
 have : q = bl B5 90 (cPlace p) ∨ q = bl b3 3 [.int .i64 (mx pre)] := by simpa using hq
 rcases this with rfl | rfl
 ·
  exact hp
 ·
  exact h.box, by simp [Own.bs, bsOf]; omega, fun b hb => .inl (by simpa [Own.bs, bsOf, or_comm] using hb)⟩
theorem stp_old {w0 w1 W W' : World} {M : List Nat} (h : Stp [] w0 W) (hs : Stp M W W') (hM : ∀ k ∈ M, w0.heap.size ≤ k) : Stp [] w0 W' :=
 ⟨hs.os.trans h.os, hs.tape.trans h.tape, hs.output.trans h.output, Nat.le_trans h.size hs.size, fun k hk hx => (hs.block k (Nat.lt_of_lt_of_le hk h.size) (fun hm => by have := hM k hm; omega)).trans (h.block k hk hx)⟩
theorem stp_keeps {W W' : World} {M : List Nat} {B : Nat} (hs : Stp M W W') (hM : ∀ k ∈ M, B ≤ k → ∃ c t p, W.heap[k]? = some (.cells c t p)) : KeepsFrom B W W' :=
 ⟨hs.size, fun k o hB hk ho => (hs.block k (Array.getElem?_eq_some_iff.1 hk).1 fun hm => by
  obtain ⟨c, t, p, h⟩ := hM k hm hB
  rw [hk] at h
  cases h
  cases ho).trans hk⟩

theorem seq_c (m : Nat) {w1 : World} {b1 b3 : Nat} {k5 : Value} {l : List TPlace} (hb1 : b1 < w1.heap.size) (hne : b1 ≠ b3) (box : w1.heap[b1]? = some (.cells #[k5] 22 (0, 0)))
  (hl : Atom.holds ⟨k5, l⟩ (fun b => b < w1.heap.size ∧ b ≠ b1 ∧ b ≠ b3) w1) (hlen : l.length ≤ 7) :
  SeqStopsK Fence.wide m Tryz.prog 280 #[.pointer (some ⟨b1, 0, none⟩)] encs (KB w1.heap.size b3) (fun xs => xs = upto l l.length) (fun _ => True) l.length w1 := by
 intro ll J Jx W hB hJ hJx hY h0
 refine callsIn_wide.2 (Calls.mono (iter m ll J Jx W b1 b3 w1.heap.size k5 l hb1 hne hB.size ((hB.block b1 hb1).trans box) (Atom.keep hl (fun _ h => h) (fun b h => hB.block b h.1)) hlen hJ hJx hY h0) ?_)
 rintro e w' ⟨v, rfl, h⟩
 refine ⟨⟨v, G⟩, ?_⟩
 rcases h with h | ⟨k, hk, h⟩
 ·
  exact .inl ⟨_, G, h⟩
 ·
  exact .inr ⟨_, trivial, h⟩

end Go.Proofs.YtmpoffijcfaalaaGreat.Ep
namespace Go.Proofs.YtmpoffijcfaalaaGreat
open Go.Eng Go.YtmpoffijcfaalaaGreat Go.RowKit Ep
set_option maxHeartbeats 1000000
theorem epoch_c (v_l : Value) (l : List TPlace) (hlen : l.length ≤ 7) : FnV Tryz.prog 172 [v_l] [⟨v_l, l⟩] (.int .i64 (epochP l)) := by
 refine FnV.proofM 2 Tryz.func172 G 15 G G fun w0 => sq<|rg<|asg G G<|nl<|nx<|sq<|rg<|al Ep.zero_3 G fun b3 => stB 0 G G G one_3 G (Nat.lt_of_lt_of_le (Nat.lt_succ_self _) (Nat.le_of_ble_eq_true G))<|nl<|nx<|sq<|sq ?_
 refine rg<|mv G G<|cf (all_c v_l l hlen) ok_231 G (Sc 0 G Sn) G fun y v7 hv => ?_
 obtain ⟨b1, k5⟩ := y
 subst hv
 refine nl<|nx<|bk ?_
 intro a w1 f st dh
 have hbox1 : w1.heap[b1]? = some (.cells #[k5] 22 (0, 0)) := bl_at 0 rfl st
 have hbox3 : w1.heap[b3]? = some (.cells #[.int .i64 0] 3 (0, 0)) := bl_at 1 rfl st
 have hb1 : b1 < w1.heap.size := lt_of_heap hbox1
 have hb3 : b3 < w1.heap.size := lt_of_heap hbox3
 have hnd := st.nd
 have hne : b1 ≠ b3 := by simpa [Own.bs, bsOf] using hnd
 have hnew3 : w0.heap.size ≤ b3 := by simpa using st.new b3 (by simp [Own.bs, bsOf])
 have hl : Atom.holds ⟨k5, l⟩ (fun b => b < w1.heap.size ∧ b ≠ b1 ∧ b ≠ b3) w1 := Atom.keep (dh ⟨k5, l⟩ (by simp)) (fun b h => ⟨h.1, by simpa [Own.bs, bsOf] using h.2⟩) (fun _ _ => rfl)
 have hs0 : Stp [] w0 w1 := st.stp
 refine (wpIn_wide (n := 2)).1 (wpIn_rangeFunc_ownH (gf := 280) (lb := #[.pointer (some ⟨b1, 0, none⟩)]) (encs := encs) (Kp := KB w1.heap.size b3) (S := fun xs => xs = upto l l.length) (Sp := fun _ => True) (N := l.length) (w0 := w1) G (by decide) (f.ev G) trivial (run_callFunc ok_280)
  (seq_c _ hb1 hne hbox1 hl hlen) (fun h k => h.trans k) (fun W ll o o' h _ _ _ => KB.putObj h) (Below.refl _ _) (fun _ => rfl) (Inv w0 w1 b3) (fun _ _ _ => False) (inv_own hb3 hs0.size) (fun _ _ _ _ _ h => h.elim) ⟨hbox3, Nat.le_refl _, hs0⟩ (InA w1 b3) (fun x a => ina_own x a) ?_ ?_ ?_ ?_)
 ·
  intro ll pre x W K hI hK
  refine round_region (K := K) G (fun _ _ h => h) ?_
  refine (show WL _ ⟨Tryz.prog, 15, W, [b3]⟩ _ _ [(9, .agg (cPlace x.2).toArray), (3, .pointer (some ⟨b3, 0, none⟩))] [bl b3 3 [.int .i64 (mx pre)]] [] from ?_) _ W (((f.round2 (p := 8) (q := 9) (show 8 < 15 by decide) (show 9 < 15 by decide) (.string x.1) (.agg (cPlace x.2).toArray))).sub ⟨G, G, trivial⟩) (inv_st hI) DH.nil
  refine al zero_90 G fun b5 => stW 0 (us := cPlace x.2) G G G row_90 G G<|nl ?_
  intro a' w' f' st' dh'
  have h5 : w'.heap[b5]? = some (.cells (cPlace x.2).toArray 90 (0, 0)) := bl_at 0 rfl st'
  have h3 : w'.heap[b3]? = some (.cells #[.int .i64 (mx pre)] 3 (0, 0)) := bl_at 1 rfl st'
  have hn5 : b5 ≠ b3 := by simpa [Own.bs, bsOf] using st'.nd
  have hge : W.heap.size ≤ b5 := by
   rcases st'.new b5 (by simp [Own.bs, bsOf]) with h | h
   ·
    exact absurd (by simpa using h) hn5
   ·
    exact h
  have hs : Stp [b3] W w' := st'.stp
  refine ⟨G, hK a' w' (stp_keeps hs fun k hk hB => ?_) (hs.kb hI.size fun k _ hk => by simpa using hk) ⟨h3, Nat.le_trans hI.size hs.size, stp_old (w1 := w1) hI.stp hs fun k hk => ?_⟩ ⟨b5, Nat.le_trans hI.size hge, h5, f'.sub ⟨G, G, trivial⟩⟩⟩
  ·
   have : k = b3 := by simpa using hk
   omega
  ·
   have : k = b3 := by simpa using hk
   omega
 ·
  rintro ll pre x a' W hll hr hI ⟨B5, hB5, hp5, f'⟩ hlenp
  refine wpIn_block (round_region (K := fun a W' => ownPostG w1.heap.size (KB w1.heap.size b3) (Inv w0 w1 b3) (fun _ _ _ => False) (pre ++ [x]) W .normal a W') G (fun _ _ h => h) ?_)
  refine (show WL _ ⟨Tryz.prog, 15, W, [b3, B5]⟩ _ _ [(5, .pointer (some ⟨B5, 0, none⟩)), (3, .pointer (some ⟨b3, 0, none⟩))] [bl B5 90 (cPlace x.2), bl b3 3 [.int .i64 (mx pre)]] [] from ?_) _ W f' (inv_st2 hI hb3 hB5 hp5) DH.nil
  refine ldB 1 G G one_3 G G<|fa G fld_90_2 G<|ldB 0 G G one_3 G G<|mxI G G G G<|stB 1 G G G one_3 G (Nat.lt_of_lt_of_le (Nat.lt_succ_self _) (Nat.le_of_ble_eq_true G))<|nl ?_
  intro a2 w2 f2 st2 dh2
  have h3 : w2.heap[b3]? = some (.cells #[.int .i64 (max (mx pre) x.2.fEpoch)] 3 (0, 0)) := bl_at 1 rfl st2
  have hs : Stp [b3, B5] W w2 := st2.stp
  refine ⟨G, stp_keeps hs fun k hk hB => ?_, hs.kb hI.size fun k hk1 hk => ?_, ⟨by rw [mx_snoc]; exact h3, Nat.le_trans hI.size hs.size, stp_old (w1 := w1) hI.stp hs fun k hk => ?_⟩⟩
  ·
   have : k = b3 ∨ k = B5 := by simpa using hk
   rcases this with rfl | rfl
   ·
    exact ⟨_, _, _, hI.box⟩
   ·
    exact ⟨_, _, _, hp5⟩
  ·
   have : k = b3 ∨ k = B5 := by simpa using hk
   omega
  ·
   have : k = b3 ∨ k = B5 := by simpa using hk
   have := hs0.size
   omega
 ·
  intro D xs W hD hS hI hK
  subst hS
  have h3 := hI.box
  rw [mx_all] at h3
  obtain ⟨A, hA⟩ : ∃ A : Act, A = { a with defers := { target := .collected D, args := #[] } :: a.defers } := ⟨_, rfl⟩
  have e3 : A.eval (.tmp 3) = .pointer (some ⟨b3, 0, none⟩) := by rw [hA]; exact f.ev (x := .tmp 3) (v := .pointer (some ⟨b3, 0, none⟩)) rfl
  have eD : A.defers = [{ target := .collected D, args := #[] }] := by rw [hA]; simp [f.dn]
  have eN : A.tmps.size = 15 := by rw [hA]; exact f.size
  rw [← hA]
  refine (show Code.wp Tryz.prog _ _ _ _ from ?_)
  refine wp_seq<|wp_region_lit<|wpList_val (v := .int .i64 (epochP l)) G ?_ ?_
  ·
   have := run_loadAt1 (P := Tryz.prog) one_3 (a := ⟨b3, 0, none⟩) (v := .int .i64 (epochP l)) (w := W) (by rw [cell_of_row W b3 0 _ 3 (0, 0) h3]; rfl)
   simp [execOp, e3, this]
  refine wpList_val (v := .int .i64 (epochP l)) G ?_ ?_
  ·
   simp [execOp, Act.put, Act.eval, eN]
  refine wpList_nil ?_
  refine (show Code.wp Tryz.prog _ _ _ _ from ?_)
  refine wp_ret ?_
  refine (show LeavesInM Fence.wide 2 Tryz.prog _ _ _ A.defers .returning W from ?_)
  rw [eD]
  refine ⟨by simp, .inl ⟨_, _, G, run_takeDeferred hK, ?_⟩⟩
  refine ⟨_, results_tmp G _ _ _, _, G, ?_, ?_⟩
  ·
   simp [Act.put, eN]
  ·
   exact stp_old (w1 := w1) (hI.stp) (W' := W.putObj D (.deferred none)) (M := [D]) ⟨G, G, G, by simp [World.putObj], fun k hk hx => World.putObj_heap_other (by simpa using hx)⟩ (fun k hk => by
    have : k = D := by simpa using hk
    have := hs0.size
    omega)
 ·
  intro D c pre W hD _ h
  exact h.elim
end Go.Proofs.YtmpoffijcfaalaaGreat
