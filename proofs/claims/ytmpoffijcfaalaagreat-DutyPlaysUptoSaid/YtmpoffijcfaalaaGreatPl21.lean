/- Part 21 of dutyPlays_holds. -/
import Derived.Test.YtmpoffijcfaalaaGreatPl20

set_option maxRecDepth 20000
set_option maxHeartbeats 1000000
namespace Go.Eng
theorem rgHTI {c : Cx} {l : List Oper} {s : RH} {env : Env} {D : List Atom} {Q : Exit → Act → World → Prop} {id : Nat} (hd : Nat) (hhs : s.hs = [[]]) (hm : c.P.follows .mixedOrders = true) (hok : rhOkT hd l env s c.n = true) (hhd : hd ≤ l.length) {L : Own} (hL : s.L [] [] = L) (hO : OblH c l s env D (l.take hd) 0)
 (k : ∀ V : Nat → Value, AllP (fun i => (dstOf l i).isSome = true → s.vals i = none → s.ok i (V i)) (List.range hd) →
  WLI 0 Q c l.toArray (l.drop hd) (envOf l (VV s.vals V) (List.range hd) ++ env) L (atsOf s.rs (VV s.vals V) ((List.range hd).filter fun i => (dstOf l i).isSome) ++ D)) : WC c (.region id l.toArray true) Q env L D := fun a w f st dh => by
 have hseq : Region.seqB .any l.toArray (l.drop hd).length hd (headL hd l.length) = true := by
  simp only [rhOkT, Bool.and_eq_true] at hok
  exact hok.2
 refine (wpIn_wide (n := 0)).1 (wpIn_region_any hm (rgHG hd s hhs hok hhd hL hO (wpAnyIn Fence.wide 0 c.P .any l.toArray Q) (fun _ _ _ _ h0 h => ⟨fun h1 => absurd h1 h0, fun i hi => opIn_of_op (h i hi _)⟩) (fun V hV a w f st dh => ?_) f st dh))
 have h := anyIn_of_seq (md := .any) (l.drop hd) hd (headL hd l.length) a w (fun j => by simp [List.getElem?_drop]) hseq (k V hV a w f st dh)
 rwa [List.length_drop] at h
theorem wkI {m : Nat} {c : Cx} {ops : Array Oper} {Q : Exit → Act → World → Prop} {env : Env} {L : Own} {D : List Atom} (env' : Env) (D' : List Atom) (he : Sub env' env) (hd : SubD D' D) {l : List Oper} (h : WLI m Q c ops l env' L D') : WLI m Q c ops l env L D := fun a w f s d => h a w (f.sub he) s (d.sub hd)
theorem mtI {m : Nat} {c : Cx} {ops : Array Oper} {Q : Exit → Act → World → Prop} {env : Env} {L : Own} {D : List Atom} (i : Nat) {q : OwnE} {l : List Oper} (hi : L[i]? = some q) (k : WLI m Q c ops l env (q :: L.eraseIdx i) D) : WLI m Q c ops l env L D :=
 fun a w f st dh => k a w f (st.perm (erase_perm hi)) (dh.perm (erase_perm hi))
end Go.Eng
namespace Go.Proofs.YtmpoffijcfaalaaGreat
open Go.Eng Go.YtmpoffijcfaalaaGreat
section
variable (v : TScene) (v_0 v_1 v_2 v_3 v_4 : Value) (S : TState) (s_0 s_1 s_2 s_3 s_4 s_5 : Value) (ll dd bv : Nat)
theorem late_it (r : Loop) (hY : ∀ (rv : Value) (xs : List TCommand) (c : TCommand) (cv : Value), c.wf → xs.length ≤ 100000 → FncY Pg ll [.agg (cCommand c cv).toArray] [lpk ll dd r, bl bv 45 [rv], row 37 rv xs] [⟨cv, c.fImage⟩] (fun (_ : Value) u => u = .bool true) (fun y _ => [lpk ll dd r, bl bv 45 [y], row 37 y (xs ++ [c])]) (fun _ _ => [])) (rv : Value) (xs : List TCommand) (b1 b2 : Nat) (h_v : v.wf) (h_S : S.wf) (hn : xs.length ≤ 50000) (hw : S.fWaits.length ≤ 8) : Fnc Pg 114 [.func (.yield ll) #[] #[], .pointer (some ⟨b1, 0, none⟩), .pointer (some ⟨b2, 0, none⟩)] [lpk ll dd r, bl bv 45 [rv], row 37 rv xs, bl b1 55 (cState S s_0 s_1 s_2 s_3 s_4 s_5), bl b2 32 (cScene v v_0 v_1 v_2 v_3 v_4)] [⟨v_0, v.fChart.fPlaces⟩, ⟨v_1, v.fChart.fMarks⟩, ⟨v_2, v.fStates⟩, ⟨v_3, v.fRights⟩, ⟨v_4, v.fAges⟩, ⟨s_0, S.fAccounts⟩, ⟨s_1, S.fMarks⟩, ⟨s_2, S.fWaits⟩, ⟨s_3, S.fDeals⟩, ⟨s_4, S.fEnds⟩, ⟨s_5, S.fImage⟩] (fun (_ : Value) u => u = .tuple #[]) (fun y _ => [lpk ll dd r, bl bv 45 [y], row 37 y (xs ++ lateL v S.fWaits S.fWaits.length), bl b1 55 (cState S s_0 s_1 s_2 s_3 s_4 s_5), bl b2 32 (cScene v v_0 v_1 v_2 v_3 v_4)]) (fun _ _ => []) := by
 refine Fnc.proof Tryz.func114 G 34 G G fun X w => qg<|rl 2 [3] G G<|lnP 7 G G Tryz.underlying51 G fun l8 => mv G G<|nl<|nx<|bk ?_
 rw [show row 37 rv xs = row 37 rv (xs ++ lateL v S.fWaits 0) from by rw [show (xs ++ lateL v S.fWaits 0) = xs ++ [] from rfl, List.append_nil]]
 refine lpE (σ := Nat × Value) [(0, _), (2, _), (7, _), (8, _)] _ (fun s C => (9, .int .i64 (s.1 : Int)) :: C) (fun s => [lpk ll dd r, bl bv 45 [s.2], row 37 s.2 (xs ++ lateL v S.fWaits s.1), bl b1 55 (cState S s_0 s_1 s_2 s_3 s_4 s_5), bl b2 32 (cScene v v_0 v_1 v_2 v_3 v_4), fz X w]) (fun _ Dc => Dc) (fun s => s.1 ≤ S.fWaits.length) (fun s => S.fWaits.length - s.1) (0, _) (Gs G) (Sc 0 G (Sc 1 G (Sc 2 G (Sc 3 G (Sc 4 G (Sc 5 G (Sc 6 G (Sc 7 G (Sc 8 G (Sc 9 G (Sc 10 G Sn))))))))))) (Nat.zero_le _) (Gs G) G (Sc 0 G (Sc 1 G (Sc 2 G (Sc 3 G (Sc 4 G (Sc 5 G (Sc 6 G (Sc 7 G (Sc 8 G (Sc 9 G (Sc 10 G Sn))))))))))) ?_
 rintro ⟨i, ry⟩ hi
 simp only at hi
 show WC _ _ _ [(9, .int .i64 ((i : Int))), (0, _), (2, _), (7, _), (8, _)] [lpk ll dd r, bl bv 45 [ry], row 37 ry (xs ++ lateL v S.fWaits i), bl b1 55 (cState S s_0 s_1 s_2 s_3 s_4 s_5), bl b2 32 (cScene v v_0 v_1 v_2 v_3 v_4), fz X w] _
 refine sa 1 G<|sq<|cdP G (fun h10 => ?_) (fun h10 => ?_)
 ·
  refine sk<|nx<|sq<|bk<|qg<|ixP 7 G G G slt_51 (by omega) (gE (by omega)) G fun v11 => ldS 0 G G (Rg G) G fun q12 w12 => al zero_108 G fun b5 => stW 0 (us := (cWait ((S.fWaits.getD i default)))) G G G (Rg G) G G<|nl<|nx<|sq<|qg<|rl 4 [0] G G ?_
  refine jz 16 8 [0,2,5,7,8,9] G G (fun h16 K24 => by
   have p16 := h16
   simp only [Bool.not_eq_false', decide_eq_true_eq] at p16
   exact gY G G G<|ldM 5 (cScene v v_0 v_1 v_2 v_3 v_4) G G (Rg G) G G<|rl 4 [0,0] G G<|gY G G G<|cfv (age_c _ _ _ _ _ _ _ _ h_v w12.2.1 w12.2.2.1) ok_105 G (Si [2,3,4,5,6] G) G<|ru 1 G<|ru 1 G<|K24 G Sr) ?_
  refine nl<|nx<|cdB G (fun h24 => ?_) (fun h24 => ?_)
  ·
   have q24 : lateB v (S.fWaits.getD i default) = true := h24
   refine ex<|tE<|bE<|nx<|rg<|adI G G (inI (by omega) (by omega)) G<|mv G G<|nl<|dpQ ?_
   rw [show lateL v S.fWaits i = lateL v S.fWaits (i + 1) from by rw [lateL, lateF, if_pos q24, List.append_nil]]
   exact ag ((i + 1, ry) : Nat × Value) (by show i + 1 ≤ S.fWaits.length; omega) (by show S.fWaits.length - (i + 1) < S.fWaits.length - i; omega) (Gs G) G (Si [2,3,4,5,6,7,8,9,10,11,12] G)
  ·
   have q24 : lateB v (S.fWaits.getD i default) = false := h24
   refine sk<|nx<|sq<|rgI<|hdI [_, _, _, _, _, _] G<|rl 5 [0,0] G G<|bd (ps := [(0, .const (.int .i64 3)), (1, .tmp 27), (2, .tmp 29)]) (cs := (cCommand ((⟨3, (S.fWaits.getD i default).fClient, (S.fWaits.getD i default).fSeq, 0, 0, 0, ByteArray.empty, 0, 0, 0, false, oZ, pZ, []⟩ : TCommand)) nS)) (by rfl) (by kernel_rfl) G<|mtL 3 G<|mtL 3 G<|mtL 3 G<|nlI<|emL (α := UInt8)<|yfI G G (hY ry (xs ++ lateL v S.fWaits i) (cmdK 3 (S.fWaits.getD i default).fClient (S.fWaits.getD i default).fSeq) nS (cmdK_wf (kI 3) w12.2.1 w12.2.2.1) (by have := lateL_len v S.fWaits i; simp only [List.length_append]; omega)) G (Sc 0 G Sn) G fun y31 v31 h31 => ?_
   obtain rfl : v31 = .bool true := h31
   refine nt G G<|eI<|nx<|cdF G<|sk<|bN<|nx<|rg<|adI G G (inI (by omega) (by omega)) G<|mv G G<|nl<|mtQ 3 G<|dpQ ?_
   rw [show xs ++ lateL v S.fWaits i ++ [cmdK 3 (S.fWaits.getD i default).fClient (S.fWaits.getD i default).fSeq] = xs ++ lateL v S.fWaits (i + 1) from by rw [lateL, lateF, if_neg (by rw [q24]; decide), List.append_assoc]]
   exact ag ((i + 1, y31) : Nat × Value) (by show i + 1 ≤ S.fWaits.length; omega) (by show S.fWaits.length - (i + 1) < S.fWaits.length - i; omega) (Gs G) G (Si [3,4,5,6,7,8,9,10,11,12,13] G)
 ·
  obtain rfl : i = S.fWaits.length := by omega
  exact ex<|tE<|tE<|bE<|fR0N ry G G G Sn
theorem deals_it (r : Loop) (hY : ∀ (rv : Value) (xs : List TCommand) (c : TCommand) (cv : Value), c.wf → xs.length ≤ 100000 → FncY Pg ll [.agg (cCommand c cv).toArray] [lpk ll dd r, bl bv 45 [rv], row 37 rv xs] [⟨cv, c.fImage⟩] (fun (_ : Value) u => u = .bool true) (fun y _ => [lpk ll dd r, bl bv 45 [y], row 37 y (xs ++ [c])]) (fun _ _ => [])) (rv : Value) (xs : List TCommand) (b1 b2 : Nat) (h_v : v.wf) (h_S : S.wf) (hn : xs.length ≤ 50000) (hd : S.fDeals.length ≤ 4) (hp : 0 < v.fChart.fPlaces.length) (hl : v.fStates.length = 7) (hwv : ∀ key, 1 ≤ whoseP v key ∧ whoseP v key < 8) (hbv : ∀ j, HolS (v.fStates.getD j default)) : Fnc Pg 109 [.func (.yield ll) #[] #[], .pointer (some ⟨b1, 0, none⟩), .pointer (some ⟨b2, 0, none⟩)] [lpk ll dd r, bl bv 45 [rv], row 37 rv xs, bl b1 55 (cState S s_0 s_1 s_2 s_3 s_4 s_5), bl b2 32 (cScene v v_0 v_1 v_2 v_3 v_4)] [⟨v_0, v.fChart.fPlaces⟩, ⟨v_1, v.fChart.fMarks⟩, ⟨v_2, v.fStates⟩, ⟨v_3, v.fRights⟩, ⟨v_4, v.fAges⟩, ⟨s_0, S.fAccounts⟩, ⟨s_1, S.fMarks⟩, ⟨s_2, S.fWaits⟩, ⟨s_3, S.fDeals⟩, ⟨s_4, S.fEnds⟩, ⟨s_5, S.fImage⟩] (fun (_ : Value) u => u = .tuple #[]) (fun y _ => [lpk ll dd r, bl bv 45 [y], row 37 y (xs ++ dealL v S.fDeals S.fDeals.length), bl b1 55 (cState S s_0 s_1 s_2 s_3 s_4 s_5), bl b2 32 (cScene v v_0 v_1 v_2 v_3 v_4)]) (fun _ _ => []) := by
 refine Fnc.proof Tryz.func109 G 29 G G fun X w => qg<|rl 2 [3] G G<|lnP 8 G G Tryz.underlying52 G fun l10 => mv G G<|nl<|nx<|bk ?_
 rw [show row 37 rv xs = row 37 rv (xs ++ dealL v S.fDeals 0) from by rw [show (xs ++ dealL v S.fDeals 0) = xs ++ [] from rfl, List.append_nil]]
 refine lpE (σ := Nat × Value) [(0, _), (2, _), (9, _), (10, _)] _ (fun s C => (11, .int .i64 (s.1 : Int)) :: C) (fun s => [lpk ll dd r, bl bv 45 [s.2], row 37 s.2 (xs ++ dealL v S.fDeals s.1), bl b1 55 (cState S s_0 s_1 s_2 s_3 s_4 s_5), bl b2 32 (cScene v v_0 v_1 v_2 v_3 v_4), fz X w]) (fun _ Dc => Dc) (fun s => s.1 ≤ S.fDeals.length) (fun s => S.fDeals.length - s.1) (0, _) (Gs G) (Sc 0 G (Sc 1 G (Sc 2 G (Sc 3 G (Sc 4 G (Sc 5 G (Sc 6 G (Sc 7 G (Sc 8 G (Sc 9 G (Sc 10 G Sn))))))))))) (Nat.zero_le _) (Gs G) G (Sc 0 G (Sc 1 G (Sc 2 G (Sc 3 G (Sc 4 G (Sc 5 G (Sc 6 G (Sc 7 G (Sc 8 G (Sc 9 G (Sc 10 G Sn))))))))))) ?_
 rintro ⟨i, ry⟩ hi
 simp only at hi
 show WC _ _ _ [(11, .int .i64 ((i : Int))), (0, _), (2, _), (9, _), (10, _)] [lpk ll dd r, bl bv 45 [ry], row 37 ry (xs ++ dealL v S.fDeals i), bl b1 55 (cState S s_0 s_1 s_2 s_3 s_4 s_5), bl b2 32 (cScene v v_0 v_1 v_2 v_3 v_4), fz X w] _
 refine sa 1 G<|sq<|cdP G (fun h12 => ?_) (fun h12 => ?_)
 ·
  refine sk<|nx<|sq<|bk<|qg<|ixP 8 G G G slt_52 (by omega) (gE (by omega)) G fun v13 => ldS 0 G G (Rg G) G fun q14 w14 => al zero_126 G fun b5 => stW 0 (us := (cDeal ((S.fDeals.getD i default)))) G G G (Rg G) G G<|nl<|nx<|qg<|ldM 5 (cScene v v_0 v_1 v_2 v_3 v_4) G G (Rg G) G G<|ldM 0 (cDeal ((S.fDeals.getD i default))) G G (Rg G) G G<|cfv (decide_c _ _ _ _ _ _ _ (stAt v (whoseP v (S.fDeals.getD i default).fOther)) G h_v w14 hp (hwv _).1 (hwv _).2 hl (hbv _)) ok_110 G (Si [2,3,4,5,6] G) G<|ru 3 G<|al zero_37 G fun b6 => stW 0 (us := (cCommand ((decC v (S.fDeals.getD i default) (stAt v (whoseP v (S.fDeals.getD i default).fOther)))) nS)) G G G (Rg G) G G<|ru 1 G<|nl<|nx<|sq<|rgI<|hdI [_, _] G<|ru 2 G<|mtL 4 G<|mtL 4 G<|mtL 4 G<|nlI<|spA (i := 22) G (fun h22 => ?_) (fun h22 => ?_)
  ·
   refine ru 1 G<|gY G G G<|ldM 3 (cCommand ((decC v (S.fDeals.getD i default) (stAt v (whoseP v (S.fDeals.getD i default).fOther)))) nS) G G (Rg G) G G<|gY G G G<|emL (α := UInt8)<|yfI G G (hY ry (xs ++ dealL v S.fDeals i) (decC v (S.fDeals.getD i default) (stAt v (whoseP v (S.fDeals.getD i default).fOther))) nS (decC_wf w14) (by have := dealL_len v S.fDeals i; simp only [List.length_append]; omega)) G (Sc 0 (by rw [decC_img]; rfl) Sn) G fun y25 v25 h25 => ?_
   obtain rfl : v25 = .bool true := h25
   refine ru 2 G<|eI<|nx<|cdF G<|sk<|bN<|nx<|rg<|adI G G (inI (by omega) (by omega)) G<|mv G G<|nl<|mtQ 3 G<|dpQ<|mtQ 3 G<|dpQ ?_
   rw [show xs ++ dealL v S.fDeals i ++ [decC v (S.fDeals.getD i default) (stAt v (whoseP v (S.fDeals.getD i default).fOther))] = xs ++ dealL v S.fDeals (i + 1) from by rw [dealL, dealF, if_pos h22, List.append_assoc]]
   exact ag ((i + 1, y25) : Nat × Value) (by show i + 1 ≤ S.fDeals.length; omega) (by show S.fDeals.length - (i + 1) < S.fDeals.length - i; omega) (Gs G) G (Si [3,4,5,6,7,8,9,10,11,12,13] G)
  ·
   refine gN G G G G G<|gN G G G G G<|gN G G G G G<|gN G G G G G<|ru 1 G<|eI<|nx<|cdF G<|sk<|bN<|nx<|rg<|adI G G (inI (by omega) (by omega)) G<|mv G G<|nl<|mtQ 3 G<|dpQ<|mtQ 3 G<|dpQ ?_
   rw [show dealL v S.fDeals i = dealL v S.fDeals (i + 1) from by rw [dealL, dealF, if_neg (by rw [h22]; decide), List.append_nil]]
   exact ag ((i + 1, ry) : Nat × Value) (by show i + 1 ≤ S.fDeals.length; omega) (by show S.fDeals.length - (i + 1) < S.fDeals.length - i; omega) (Gs G) G (Si [2,3,4,5,6,7,8,9,10,11,12] G)
 ·
  obtain rfl : i = S.fDeals.length := by omega
  exact ex<|tE<|tE<|bE<|fR0N ry G G G Sn
theorem sides_it (r : Loop) (hY : ∀ (rv : Value) (xs : List TCommand) (c : TCommand) (cv : Value), c.wf → xs.length ≤ 100000 → FncY Pg ll [.agg (cCommand c cv).toArray] [lpk ll dd r, bl bv 45 [rv], row 37 rv xs] [⟨cv, c.fImage⟩] (fun (_ : Value) u => u = .bool true) (fun y _ => [lpk ll dd r, bl bv 45 [y], row 37 y (xs ++ [c])]) (fun _ _ => [])) (rv : Value) (xs : List TCommand) (b1 b2 : Nat) (h_v : v.wf) (h_S : S.wf) (hn : xs.length ≤ 50000) (hd : ∀ j, (v.fStates.getD j default).fDeals.length ≤ 4) (hp : 0 < v.fChart.fPlaces.length) (hl : v.fStates.length = 7) (hwv : ∀ key, 1 ≤ whoseP v key ∧ whoseP v key < 8) (hbv : ∀ j, HolS (v.fStates.getD j default)) (hS : HolS S) : Fnc Pg 111 [.func (.yield ll) #[] #[], .pointer (some ⟨b1, 0, none⟩), .pointer (some ⟨b2, 0, none⟩)] [lpk ll dd r, bl bv 45 [rv], row 37 rv xs, bl b1 32 (cScene v v_0 v_1 v_2 v_3 v_4), bl b2 55 (cState S s_0 s_1 s_2 s_3 s_4 s_5)] [⟨v_0, v.fChart.fPlaces⟩, ⟨v_1, v.fChart.fMarks⟩, ⟨v_2, v.fStates⟩, ⟨v_3, v.fRights⟩, ⟨v_4, v.fAges⟩, ⟨s_0, S.fAccounts⟩, ⟨s_1, S.fMarks⟩, ⟨s_2, S.fWaits⟩, ⟨s_3, S.fDeals⟩, ⟨s_4, S.fEnds⟩, ⟨s_5, S.fImage⟩] (fun (_ : Value) u => u = .tuple #[]) (fun y _ => [lpk ll dd r, bl bv 45 [y], row 37 y (xs ++ sidesL v S v.fStates v.fStates.length), bl b1 32 (cScene v v_0 v_1 v_2 v_3 v_4), bl b2 55 (cState S s_0 s_1 s_2 s_3 s_4 s_5)]) (fun _ _ => []) := by
 refine Fnc.proof Tryz.func111 G 48 G G fun X w => qg<|rl 2 [3] G G<|lnP 2 G G Tryz.underlying28 G fun l12 => mv G G<|nl<|nx<|bk ?_
 rw [show row 37 rv xs = row 37 rv (xs ++ sidesL v S v.fStates 0) from by rw [show (xs ++ sidesL v S v.fStates 0) = xs ++ [] from rfl, List.append_nil]]
 refine lpE (σ := Nat × Value) [(0, _), (1, _), (2, _), (11, _), (12, _)] _ (fun s C => (13, .int .i64 (s.1 : Int)) :: C) (fun s => [lpk ll dd r, bl bv 45 [s.2], row 37 s.2 (xs ++ sidesL v S v.fStates s.1), bl b1 32 (cScene v v_0 v_1 v_2 v_3 v_4), bl b2 55 (cState S s_0 s_1 s_2 s_3 s_4 s_5), fz X w]) (fun _ Dc => Dc) (fun s => s.1 ≤ v.fStates.length) (fun s => v.fStates.length - s.1) (0, _) (Gs G) (Sc 0 G (Sc 1 G (Sc 2 G (Sc 3 G (Sc 4 G (Sc 5 G (Sc 6 G (Sc 7 G (Sc 8 G (Sc 9 G (Sc 10 G Sn))))))))))) (Nat.zero_le _) (Gs G) G (Sc 0 G (Sc 1 G (Sc 2 G (Sc 3 G (Sc 4 G (Sc 5 G (Sc 6 G (Sc 7 G (Sc 8 G (Sc 9 G (Sc 10 G Sn))))))))))) ?_
 rintro ⟨i, ry⟩ hi
 simp only at hi
 show WC _ _ _ [(13, .int .i64 ((i : Int))), (0, _), (1, _), (2, _), (11, _), (12, _)] [lpk ll dd r, bl bv 45 [ry], row 37 ry (xs ++ sidesL v S v.fStates i), bl b1 32 (cScene v v_0 v_1 v_2 v_3 v_4), bl b2 55 (cState S s_0 s_1 s_2 s_3 s_4 s_5), fz X w] _
 refine sa 1 G<|sq<|cdP G (fun h14 => ?_) (fun h14 => ?_)
 ·
  refine sk<|nx<|sq<|bk<|qg<|ixP 2 G G G slt_28 (by omega) (gE (by omega)) G fun v15 => ldS 0 G G (Rg G) G fun q16 w16 => ?_
  obtain ⟨q16_0, q16_1, q16_2, q16_3, q16_4, q16_5⟩ := q16
  refine al zero_55 G fun b5 => oc 1 G fun o_q16_0 => oc 2 G fun o_q16_1 => oc 3 G fun o_q16_2 => oc 4 G fun o_q16_3 => oc 5 G fun o_q16_4 => oc 6 G fun o_q16_5 => stW 0 (us := (cState ((v.fStates.getD i default)) q16_0 q16_1 q16_2 q16_3 q16_4 q16_5)) G G G (Rg G) (by simp only [List.all_cons, List.all_nil, Bool.and_true, o_q16_0, o_q16_1, o_q16_2, o_q16_3, o_q16_4, o_q16_5]; rfl) G<|nl<|nx<|qg<|rl 2 [0] G G<|lnP 4 G G Tryz.underlying52 G fun l19 => mv G G<|nl<|nx<|bk ?_
  rw [show row 37 ry (xs ++ sidesL v S v.fStates i) = row 37 ry (xs ++ sidesL v S v.fStates i ++ sideL v S (v.fStates.getD i default).fGroup (v.fStates.getD i default).fDeals 0) from by rw [show (xs ++ sidesL v S v.fStates i ++ sideL v S (v.fStates.getD i default).fGroup (v.fStates.getD i default).fDeals 0) = (xs ++ sidesL v S v.fStates i) ++ [] from rfl, List.append_nil]]
  refine lpE (σ := Nat × Value) [(0, _), (1, _), (2, _), (5, _), (11, _), (12, _), (13, _), (18, _), (19, _)] _ (fun s C => (20, .int .i64 (s.1 : Int)) :: C) (fun s => [bl b5 55 (cState (v.fStates.getD i default) q16_0 q16_1 q16_2 q16_3 q16_4 q16_5), lpk ll dd r, bl bv 45 [s.2], row 37 s.2 (xs ++ sidesL v S v.fStates i ++ sideL v S (v.fStates.getD i default).fGroup (v.fStates.getD i default).fDeals s.1), bl b1 32 (cScene v v_0 v_1 v_2 v_3 v_4), bl b2 55 (cState S s_0 s_1 s_2 s_3 s_4 s_5), fz X w]) (fun _ Dc => Dc) (fun s => s.1 ≤ (v.fStates.getD i default).fDeals.length) (fun s => (v.fStates.getD i default).fDeals.length - s.1) (0, _) (Gs G) (Sc 1 G (Sc 2 G (Sc 3 G (Sc 4 G (Sc 5 G (Sc 6 G (Sc 8 G (Sc 9 G (Sc 10 G (Sc 11 G (Sc 12 G (Sc 13 G (Sc 14 G (Sc 15 G (Sc 16 G (Sc 17 G (Sc 18 G Sn))))))))))))))))) (Nat.zero_le _) (Gs G) G (Sc 1 G (Sc 2 G (Sc 3 G (Sc 4 G (Sc 5 G (Sc 6 G (Sc 8 G (Sc 9 G (Sc 10 G (Sc 11 G (Sc 12 G (Sc 13 G (Sc 14 G (Sc 15 G (Sc 16 G (Sc 17 G (Sc 18 G Sn))))))))))))))))) ?_
  rintro ⟨k, ry⟩ hi_k
  simp only at hi_k
  show WC _ _ _ [(20, .int .i64 ((k : Int))), (0, _), (1, _), (2, _), (5, _), (11, _), (12, _), (13, _), (18, _), (19, _)] [bl b5 55 (cState (v.fStates.getD i default) q16_0 q16_1 q16_2 q16_3 q16_4 q16_5), lpk ll dd r, bl bv 45 [ry], row 37 ry (xs ++ sidesL v S v.fStates i ++ sideL v S (v.fStates.getD i default).fGroup (v.fStates.getD i default).fDeals k), bl b1 32 (cScene v v_0 v_1 v_2 v_3 v_4), bl b2 55 (cState S s_0 s_1 s_2 s_3 s_4 s_5), fz X w] _
  refine sa 1 G<|sq<|cdP G (fun h21 => ?_) (fun h21 => ?_)
  ·
   have hk : k < (v.fStates.getD i default).fDeals.length := by
    have q : (k : Int) < ((v.fStates.getD i default).fDeals.length : Int) := h21
    omega
   refine sk<|nx<|sq<|bk<|qg<|ixP 3 G G G slt_52 (by omega) (gE (by omega)) G fun v22 => ldS 0 G G (Rg G) G fun q23 w23 => al zero_126 G fun b7 => stW 0 (us := (cDeal (((v.fStates.getD i default).fDeals.getD k default)))) G G G (Rg G) G G<|nl<|nx<|sq<|sq<|rgQ mixed (by kernel_rfl)<|ldM 5 (cScene v v_0 v_1 v_2 v_3 v_4) G G (Rg G) G G<|rl 2 [0] G G<|cfq (whose_c _ _ _ _ _ _ _ h_v (by assumption)) ok_112 G (Si [8,9,10,11,12] G) G<|rl 3 [6] G G<|nlQ<|nx<|cdN G (fun h30 => ?_) (fun h30 => ?_)
   ·
    refine ex<|tE<|bE<|nx<|rg<|adI G G (inI (by omega) (by omega)) G<|mv G G<|nl<|dpQ ?_
    rw [show sideL v S (v.fStates.getD i default).fGroup (v.fStates.getD i default).fDeals k = sideL v S (v.fStates.getD i default).fGroup (v.fStates.getD i default).fDeals (k + 1) from by rw [sideL, sideF, if_neg (by simpa using h30), List.append_nil]]
    exact ag ((k + 1, ry) : Nat × Value) (by show k + 1 ≤ (v.fStates.getD i default).fDeals.length; omega) (by show (v.fStates.getD i default).fDeals.length - (k + 1) < (v.fStates.getD i default).fDeals.length - k; omega) (Gs G) G (Si [2,3,4,5,6,7,8,9,10,11,12,13,14,15,16,17,18] G)
   ·
    refine sk<|nx<|qg<|ldM 6 (cState S s_0 s_1 s_2 s_3 s_4 s_5) G G (Rg G) G G<|rl 2 [1] G G<|ldM 0 (cDeal (((v.fStates.getD i default).fDeals.getD k default))) G G (Rg G) G G<|cfv (side_c _ _ _ _ _ _ _ _ _ h_S w16.1 w23 hS) ok_113 G (Si [13,14,15,16,17,18] G) G<|ru 3 G<|al zero_37 G fun b8 => stW 0 (us := (cCommand ((sideC S (v.fStates.getD i default).fGroup ((v.fStates.getD i default).fDeals.getD k default))) nS)) G G G (Rg G) G G<|ru 1 G<|nl<|nx<|sq<|rgI<|hdI [_, _] G<|ru 2 G<|mtL 5 G<|mtL 5 G<|mtL 5 G<|nlI<|spA (i := 40) G (fun h40 => ?_) (fun h40 => ?_)
    ·
     have q40 : sideB S ((v.fStates.getD i default).fDeals.getD k default) = true := h40
     refine ru 1 G<|gY G G G<|ldM 3 (cCommand ((sideC S (v.fStates.getD i default).fGroup ((v.fStates.getD i default).fDeals.getD k default))) nS) G G (Rg G) G G<|gY G G G<|emL (α := UInt8)<|yfI G G (hY ry (xs ++ sidesL v S v.fStates i ++ sideL v S (v.fStates.getD i default).fGroup (v.fStates.getD i default).fDeals k) (sideC S (v.fStates.getD i default).fGroup ((v.fStates.getD i default).fDeals.getD k default)) nS (sideC_wf w23 w16.1 h_S) (by have := sidesL_len v S v.fStates hd i; have := sideL_len v S (v.fStates.getD i default).fGroup (v.fStates.getD i default).fDeals k; have := hd i; simp only [List.length_append]; omega)) G (Sc 0 (by rw [sideC_img]; rfl) Sn) G fun y43 v43 h43 => ?_
     obtain rfl : v43 = .bool true := h43
     refine ru 2 G<|eI<|nx<|cdF G<|sk<|bN<|nx<|rg<|adI G G (inI (by omega) (by omega)) G<|mv G G<|nl<|mtQ 3 G<|dpQ<|mtQ 3 G<|dpQ<|mtQ 5 G<|mtQ 5 G<|mtQ 4 G<|mtQ 4 G<|mtQ 4 G<|mtQ 5 G ?_
     rw [show xs ++ sidesL v S v.fStates i ++ sideL v S (v.fStates.getD i default).fGroup (v.fStates.getD i default).fDeals k ++ [sideC S (v.fStates.getD i default).fGroup ((v.fStates.getD i default).fDeals.getD k default)] = xs ++ sidesL v S v.fStates i ++ sideL v S (v.fStates.getD i default).fGroup (v.fStates.getD i default).fDeals (k + 1) from by rw [sideL, sideF, if_pos (by simpa using h30), if_pos q40, List.append_assoc _ (sideL v S (v.fStates.getD i default).fGroup (v.fStates.getD i default).fDeals k)]]
     exact ag ((k + 1, y43) : Nat × Value) (by show k + 1 ≤ (v.fStates.getD i default).fDeals.length; omega) (by show (v.fStates.getD i default).fDeals.length - (k + 1) < (v.fStates.getD i default).fDeals.length - k; omega) (Gs G) G (Si [3,4,5,6,7,8,9,10,11,12,13,14,15,16,17,18,19] G)
    ·
     have q40 : sideB S ((v.fStates.getD i default).fDeals.getD k default) = false := h40
     refine gN G G G G G<|gN G G G G G<|gN G G G G G<|gN G G G G G<|ru 1 G<|eI<|nx<|cdF G<|sk<|bN<|nx<|rg<|adI G G (inI (by omega) (by omega)) G<|mv G G<|nl<|mtQ 3 G<|dpQ<|mtQ 3 G<|dpQ<|mtQ 5 G<|mtQ 5 G<|mtQ 4 G<|mtQ 4 G<|mtQ 4 G<|mtQ 5 G ?_
     rw [show sideL v S (v.fStates.getD i default).fGroup (v.fStates.getD i default).fDeals k = sideL v S (v.fStates.getD i default).fGroup (v.fStates.getD i default).fDeals (k + 1) from by rw [sideL, sideF, if_pos (by simpa using h30), if_neg (by rw [q40]; decide), List.append_nil]]
     exact ag ((k + 1, ry) : Nat × Value) (by show k + 1 ≤ (v.fStates.getD i default).fDeals.length; omega) (by show (v.fStates.getD i default).fDeals.length - (k + 1) < (v.fStates.getD i default).fDeals.length - k; omega) (Gs G) G (Si [2,3,4,5,6,7,8,9,10,11,12,13,14,15,16,17,18] G)
  ·
   obtain rfl : k = (v.fStates.getD i default).fDeals.length := by
    have q : ¬ (k : Int) < ((v.fStates.getD i default).fDeals.length : Int) := h21
    omega
   refine ex<|tE<|tE<|bE<|bN<|nx<|rg<|adI G G (inI (by omega) (by omega)) G<|mv G G<|nl<|dpQ ?_
   rw [show xs ++ sidesL v S v.fStates i ++ sideL v S (v.fStates.getD i default).fGroup (v.fStates.getD i default).fDeals (v.fStates.getD i default).fDeals.length = xs ++ sidesL v S v.fStates (i + 1) from by rw [sidesL, List.append_assoc]]
   exact ag ((i + 1, ry) : Nat × Value) (by show i + 1 ≤ v.fStates.length; omega) (by show v.fStates.length - (i + 1) < v.fStates.length - i; omega) (Gs G) G (Si [6,7,8,9,10,11,12,13,14,15,16] G)
 ·
  obtain rfl : i = v.fStates.length := by omega
  exact ex<|tE<|tE<|bE<|fR0N ry G G G Sn
theorem moves_it (r : Loop) (hY : ∀ (rv : Value) (xs : List TCommand) (c : TCommand) (cv : Value), c.wf → xs.length ≤ 100000 → FncY Pg ll [.agg (cCommand c cv).toArray] [lpk ll dd r, bl bv 45 [rv], row 37 rv xs] [⟨cv, c.fImage⟩] (fun (_ : Value) u => u = .bool true) (fun y _ => [lpk ll dd r, bl bv 45 [y], row 37 y (xs ++ [c])]) (fun _ _ => [])) (rv : Value) (xs : List TCommand) (b1 b2 : Nat) (h_v : v.wf) (h_S : S.wf) (hn : xs.length ≤ 50000) (hpl : v.fChart.fPlan ≠ zpl → 1 ≤ v.fChart.fPlan.fFrom ∧ v.fChart.fPlan.fFrom < 8) (hto : S.fOut ≠ zpl → 1 ≤ S.fOut.fTo ∧ S.fOut.fTo < 8) (hl : v.fStates.length = 7) (hp : v.fChart.fPlaces.length ≤ 7) (hec : InI (epochC v.fChart)) (he1 : InI (epochP v.fChart.fPlaces + 1)) (heo : InI (epoO v S)) (hi : ∀ j, (v.fStates.getD j default).fImage.length ≤ 140737488355328) : Fnc Pg 104 [.func (.yield ll) #[] #[], .pointer (some ⟨b1, 0, none⟩), .pointer (some ⟨b2, 0, none⟩)] [lpk ll dd r, bl bv 45 [rv], row 37 rv xs, bl b1 32 (cScene v v_0 v_1 v_2 v_3 v_4), bl b2 55 (cState S s_0 s_1 s_2 s_3 s_4 s_5)] [⟨v_0, v.fChart.fPlaces⟩, ⟨v_1, v.fChart.fMarks⟩, ⟨v_2, v.fStates⟩, ⟨v_3, v.fRights⟩, ⟨v_4, v.fAges⟩, ⟨s_0, S.fAccounts⟩, ⟨s_1, S.fMarks⟩, ⟨s_2, S.fWaits⟩, ⟨s_3, S.fDeals⟩, ⟨s_4, S.fEnds⟩, ⟨s_5, S.fImage⟩] (fun (_ : Value) u => u = .tuple #[]) (fun y _ => [lpk ll dd r, bl bv 45 [y], row 37 y (xs ++ movesL v S), bl b1 32 (cScene v v_0 v_1 v_2 v_3 v_4), bl b2 55 (cState S s_0 s_1 s_2 s_3 s_4 s_5)]) (fun _ _ => []) := by
 refine Fnc.proof Tryz.func104 G 118 G G fun X w => qg<|ru 2 G<|ldM 3 (cPlan v.fChart.fPlan) G G (Rg G) G G<|al zero_24 G fun b4 => stW 0 (us := (cPlan v.fChart.fPlan)) G G G (Rg G) G G<|nl<|nx<|qg<|ldM 0 (cPlan v.fChart.fPlan) G G (Rg G) G G<|bd (ps := []) (cs := (cPlan (pZ))) (by rfl) (by kernel_rfl) G<|neT eq_Plan (v.fChart.fPlan) (pZ) G G G<|ru 1 G<|nl<|nx<|sq<|qg<|ru 2 G<|ja 16 6 [0,5] [0,1,2,4,5] G G G<|mv G G<|ja 23 7 [5,0] [0,1,2,4,5] G G G<|mv G G<|ja 31 7 [5,0] [0,1,2,4,5] G G G<|mv G G<|ja 39 6 [5,0] [0,1,2,4,5] G G G<|nl<|nx<|jnC (σ := Value) [(0, _), (1, _), (2, _), (4, _), (5, _)] _ (fun s C => C) (fun s => [bl b4 24 (cPlan v.fChart.fPlan), lpk ll dd r, bl bv 45 [s], row 37 s (xs ++ mv1 v S), bl b1 32 (cScene v v_0 v_1 v_2 v_3 v_4), bl b2 55 (cState S s_0 s_1 s_2 s_3 s_4 s_5), fz X w]) (fun s => True) (Gs G) (Sc 0 G (Sc 1 G (Sc 2 G (Sc 3 G (Sc 4 G (Sc 5 G (Sc 6 G (Sc 7 G (Sc 8 G (Sc 9 G (Sc 10 G Sn))))))))))) ?_ ?_
 ·
  refine cdB G (fun h45 => ?_) (fun h45 => ?_)
  ·
   have q45 : m1 v S = true := h45
   refine sq<|rgI<|hdI [_, _, _, _, _] G<|mv G G<|ldM 0 (cPlan v.fChart.fPlan) G G (Rg G) G G<|rl 2 [5] G G<|bd (ps := [(0, .const (.int .i64 8)), (12, .tmp 47), (3, .tmp 49)]) (cs := (cCommand ((⟨8, 0, 0, S.fEpoch, 0, 0, ByteArray.empty, 0, 0, 0, false, oZ, v.fChart.fPlan, []⟩ : TCommand)) nS)) (by rfl) (by kernel_rfl) G<|mtL 3 G<|mtL 3 G<|mtL 3 G<|nlI<|emL (α := UInt8)<|yfI G G (hY rv xs ({ zcmd with fKind := 8, fPlan := v.fChart.fPlan, fEpoch := S.fEpoch }) nS ⟨show InI 8 from ⟨by decide, by decide⟩, I0, I0, h_S.2.2.2.2.2.1, I0, I0, Eb0, I0, I0, I0, trivial, ⟨I0, Eb0, Eb0, I0, I0, I0⟩, h_v.2.2.1.2.2.2.2.1, trivial⟩ (by omega)) G (Sc 0 G Sn) G fun y51 v51 h51 => ?_
   obtain rfl : v51 = .bool true := h51
   refine nt G G<|eI<|nx<|cdF G<|sk<|mtQ 5 G<|mtQ 5 G<|mtQ 4 G<|mtQ 4 G<|mtQ 4 G<|mtQ 5 G ?_
   rw [show row 37 y51 (xs ++ [{ zcmd with fKind := 8, fPlan := v.fChart.fPlan, fEpoch := S.fEpoch }]) = row 37 y51 (xs ++ mv1 v S) from by rw [mv1, if_pos q45]]
   exact jx y51 trivial (Gs G) G (Si [1,2,3,4,5,6,7,8,9,10,11] G)
  ·
   have q45 : m1 v S = false := h45
   refine sk ?_
   rw [show row 37 rv xs = row 37 rv (xs ++ mv1 v S) from by rw [mv1, if_neg (by rw [q45]; decide), List.append_nil]]
   exact jx rv trivial (Gs G) G (Si [0,1,2,3,4,5,6,7,8,9,10] G)
 ·
  rintro r1 _
  show WQ _ _ _ [(0, _), (1, _), (2, _), (4, _), (5, _)] [bl b4 24 (cPlan v.fChart.fPlan), lpk ll dd r, bl bv 45 [r1], row 37 r1 (xs ++ mv1 v S), bl b1 32 (cScene v v_0 v_1 v_2 v_3 v_4), bl b2 55 (cState S s_0 s_1 s_2 s_3 s_4 s_5), fz X w] _
  refine nx<|sq<|sq<|jnC (σ := Value) [(0, _), (1, _), (2, _), (4, _), (5, _)] _ (fun s C => (69, .bool false) :: C) (fun s => [bl b4 24 (cPlan v.fChart.fPlan), lpk ll dd r, bl bv 45 [s], row 37 s (xs ++ mv1 v S ++ mv2 v S), bl b1 32 (cScene v v_0 v_1 v_2 v_3 v_4), bl b2 55 (cState S s_0 s_1 s_2 s_3 s_4 s_5), fz X w]) (fun s => True) (Gs G) (Sc 0 G (Sc 1 G (Sc 2 G (Sc 3 G (Sc 4 G (Sc 5 G (Sc 6 G (Sc 7 G (Sc 8 G (Sc 9 G (Sc 10 G Sn))))))))))) ?_ ?_
  ·
   refine rgI<|hdI [_, _, _, _, _, _, _, _, _, _] G<|ru 1 G<|ldM 5 (cPlan S.fSeal) G G (Rg G) G G<|bd (ps := []) (cs := (cPlan (pZ))) (by rfl) (by kernel_rfl) G<|neT eq_Plan (S.fSeal) (pZ) G G G<|mv G G ?_
   refine jy 57 4 [0,1,2,4,5] G G (fun h57 K61 => by
    have p57 := h57
    simp only [Bool.not_eq_true', decide_eq_false_iff_not] at p57
    exact gY G G G<|ldM 4 (cScene v v_0 v_1 v_2 v_3 v_4) G G (Rg G) G G<|gY G G G<|cfv (age_c _ _ _ _ _ _ _ _ h_v (inI (by omega) (by omega)) (inI (by omega) (by omega))) ok_105 G (Si [0,1,2,3,4] G) G<|ru 2 G<|K61 G Sr) ?_
   refine mv G G<|mtL 3 G<|mtL 3 G<|mtL 3 G<|nlI<|spA (i := 62) G (fun h62 => ?_) (fun h62 => ?_)
   ·
    have q62 : m2 v S = true := h62
    refine ru 2 G<|gY G G G<|ldM 5 (cPlan S.fSeal) G G (Rg G) G G<|gY G G G<|bdJ (ps := [(0, .const (.int .i64 9)), (12, .tmp 65)]) (cs := (cCommand ((⟨9, 0, 0, 0, 0, 0, ByteArray.empty, 0, 0, 0, false, oZ, S.fSeal, []⟩ : TCommand)) nS)) (by rfl) (by kernel_rfl) G<|gY G G G<|emL (α := UInt8)<|yfI G G (hY r1 (xs ++ mv1 v S) ({ zcmd with fKind := 9, fPlan := S.fSeal }) nS ⟨show InI 9 from ⟨by decide, by decide⟩, I0, I0, I0, I0, I0, Eb0, I0, I0, I0, trivial, ⟨I0, Eb0, Eb0, I0, I0, I0⟩, h_S.2.2.2.2.2.2.2.2.2.2.2.1, trivial⟩ (by have := mv_len v S S S; simp only [List.length_append]; omega)) G (Sc 0 G Sn) G fun y67 v67 h67 => ?_
    obtain rfl : v67 = .bool true := h67
    refine ru 2 G<|eI<|mtQ 5 G<|mtQ 5 G<|mtQ 4 G<|mtQ 4 G<|mtQ 4 G<|mtQ 5 G ?_
    rw [show row 37 y67 (xs ++ mv1 v S ++ [{ zcmd with fKind := 9, fPlan := S.fSeal }]) = row 37 y67 (xs ++ mv1 v S ++ mv2 v S) from by rw [mv2, if_pos q62]]
    exact jx y67 trivial (Gs G) G (Si [1,2,3,4,5,6,7,8,9,10,11] G)
   ·
    have q62 : m2 v S = false := h62
    refine gN G G G G G<|gN G G G G G<|gN G G G G G<|gN G G G G G<|gN G G G G G<|gN G G G G G<|ru 1 G<|eI<|mtQ 5 G<|mtQ 5 G<|mtQ 4 G<|mtQ 4 G<|mtQ 4 G<|mtQ 5 G ?_
    rw [show row 37 r1 (xs ++ mv1 v S) = row 37 r1 (xs ++ mv1 v S ++ mv2 v S) from by rw [mv2, if_neg (by rw [q62]; decide), List.append_nil]]
    exact jx r1 trivial (Gs G) G (Si [0,1,2,3,4,5,6,7,8,9,10] G)
  ·
   rintro r2 _
   show WQ _ _ _ [(69, .bool false), (0, _), (1, _), (2, _), (4, _), (5, _)] [bl b4 24 (cPlan v.fChart.fPlan), lpk ll dd r, bl bv 45 [r2], row 37 r2 (xs ++ mv1 v S ++ mv2 v S), bl b1 32 (cScene v v_0 v_1 v_2 v_3 v_4), bl b2 55 (cState S s_0 s_1 s_2 s_3 s_4 s_5), fz X w] _
   refine nx<|cdF G<|sk<|nx<|sq<|qg<|ru 2 G<|ja 71 6 [0,5] [0,1,2,4] G G G<|mv G G<|ja 78 6 [5,0] [0,1,2,4] G G G<|nl<|nx<|jnC (σ := Value) [(0, _), (1, _), (2, _)] _ (fun s C => C) (fun s => [bl b4 24 (cPlan v.fChart.fPlan), lpk ll dd r, bl bv 45 [s], row 37 s (xs ++ mv1 v S ++ mv2 v S ++ mv3 v S (stAt v v.fChart.fPlan.fFrom)), bl b1 32 (cScene v v_0 v_1 v_2 v_3 v_4), bl b2 55 (cState S s_0 s_1 s_2 s_3 s_4 s_5), fz X w]) (fun s => True) (Gs G) (Sc 0 G (Sc 1 G (Sc 2 G (Sc 3 G (Sc 4 G (Sc 5 G (Sc 6 G (Sc 7 G (Sc 8 G (Sc 9 G (Sc 10 G Sn))))))))))) ?_ ?_
   ·
    refine cdB G (fun h84 => ?_) (fun h84 => ?_)
    ·
     have q84 : m3 v S = true := h84
     have hz : v.fChart.fPlan ≠ zpl := by
      intro e
      simp [m3, e] at q84
     obtain ⟨hf1, hf2⟩ := hpl hz
     obtain ⟨F, hF⟩ : ∃ F, stAt v v.fChart.fPlan.fFrom = F := ⟨_, rfl⟩
     have hiF : F.fImage.length ≤ 140737488355328 := hF ▸ hi _
     refine rawNC (s := sState) 2 (v.fChart.fPlan.fFrom - 1).toNat G (by omega) ?_
     rw [show v.fStates.getD (v.fChart.fPlan.fFrom - 1).toNat default = F from hF]
     rintro ys ⟨f_0, f_1, f_2, f_3, f_4, f_5⟩ hy_f h_F
     refine qg<|ldM 4 (cScene v v_0 v_1 v_2 v_3 v_4) G G (Rg G) G G<|rl 2 [0] G G<|cfv (state_r v v_0 v_1 v_2 v_3 v_4 v.fChart.fPlan.fFrom F f_0 f_1 f_2 f_3 f_4 f_5 ys h_v (by omega) (by omega) hy_f) ok_45 G (Si [0,1,2,3,4,5,6] G) G<|al zero_55 G fun b6 => oc 1 G fun o_f_0 => oc 2 G fun o_f_1 => oc 3 G fun o_f_2 => oc 4 G fun o_f_3 => oc 5 G fun o_f_4 => oc 6 G fun o_f_5 => stW 0 (us := (cState F f_0 f_1 f_2 f_3 f_4 f_5)) G G G (Rg G) (by simp only [List.all_cons, List.all_nil, Bool.and_true, o_f_0, o_f_1, o_f_2, o_f_3, o_f_4, o_f_5]; rfl) G<|nl<|nx<|sq ?_
     by_cases hF7 : F.fOut.fNumber = v.fChart.fPlan.fNumber
     ·
      refine rgHTI 16 (s := ⟨fun q_ => ([[], [0], [1], [], [3], [2, 4], [5], [6], [6], [6], [9, 6], [10, 6], [6], [12, 6], [13, 6], [8, 11, 14, 6], [], [], []] : List (List Nat)).getD q_ [], fun q_ => ([fun _ => True, fun _ => True, fun _ => True, fun _ => True, fun _ => True, fun _ => True, fun _ => True, fun _ => True, fun _ => True, fun _ => True, fun _ => True, fun _ => True, fun _ => True, fun _ => True, fun _ => True, fun u => u = .agg (cCommand (m3c v F) (cel u 24)).toArray, fun _ => True, fun _ => True, fun _ => True] : List (Value → Prop)).getD q_ (fun _ => True), fun q_ => ([fun _ => [], fun _ => [], fun _ => [], fun _ => [], fun _ => [], fun _ => [], fun _ => [], fun _ => [], fun _ => [], fun _ => [], fun _ => [], fun _ => [], fun _ => [], fun _ => [], fun u => [⟨u, F.fImage⟩], fun u => [⟨cel u 24, F.fImage⟩], fun _ => [], fun _ => [], fun _ => []] : List (Value → List Atom)).getD q_ (fun _ => []), fun q_ => ([some (.pointer (some ⟨b6, 18, none⟩)), some (.pointer (some ⟨b6, 18, none⟩)), some (.int .i64 F.fOut.fNumber), some (.pointer (some ⟨b4, 0, none⟩)), some (.int .i64 v.fChart.fPlan.fNumber), some (.bool true), some (.bool true), some (.func (.yield ll) #[] #[]), some (.agg (cPlan v.fChart.fPlan).toArray), some (.pointer (some ⟨b1, 2, none⟩)), some (.agg (cChart v.fChart v_0 v_1).toArray), some (.int .i64 ((epochC v.fChart))), some (.pointer (some ⟨b6, 25, none⟩)), some (f_5), none, none, none, none, none] : List (Option Value)).getD q_ none, fun _ _ => _, [], [[]]⟩) G mixed (by kernel_rfl) (Nat.le_of_ble_eq_true G) G ?_ ?_
      ·
       refine ⟨fun V De _=>aP1 (fa G (Fg G) G<|oh G G G G),fun V De _=>aP1 (fa G (Fg G) G<|oh G G G G),fun V De _=>aP1 (ldB 0 G G (Og G) G G<|oh G G G G),fun V De _=>aP1 (fa G (Fg G) G<|oh G G G G),fun V De _=>aP1 (ldB 1 G G (Og G) G G<|oh G G G G),fun V De _=>aP1 (eqI G G G<|nl (odH G G G (congrArg Value.bool (decide_eq_true hF7)) Sn Sr)),fun V De _=>aP1 (mv G G<|oh G G G G),fun V De _=>aP1 (gY G G G<|mv G G<|oh G G G G),?_⟩
       refine ⟨fun V De _=>aP1 (gY G G G<|ldM 1 (cPlan v.fChart.fPlan) G G (Rg G) G G<|oh G G G G),fun V De _=>aP1 (gY G G G<|fa G (Fg G) G<|oh G G G G),fun V De _=>aP1 (gY G G G<|ldM 5 (cChart v.fChart v_0 v_1) G G (Rg G) G G<|oh G G G G),fun V De _=>aP1 (gY G G G<|cfv (pepoch_c _ _ _ h_v.2.2.1 hp he1) ok_106 G (Si [7,8] G) G<|oh G G G G),fun V De _=>aP1 (gY G G G<|fa G (Fg G) G<|oh G G G G),fun V De _=>aP1 (gY G G G<|ldB 0 G G (Og G) G G<|oh G G G G),fun V De _=>aP1 (gY G G G<|cf (Rdr.clone_c _ _ hiF) ok_107 G (Sc 6 G Sn) G fun _ v103 _ => nl (odH G G G trivial (Sc 0 G Sn) (SubD.tail Sr))),?_⟩
       refine ⟨fun V De _ => (show AllP _ [[]] from ⟨?_, trivial⟩), ?_⟩
       ·
        show WL _ _ _ _ _ _ _
        refine wkL [(95, .bool true), (97, .agg (cPlan v.fChart.fPlan).toArray), (100, .int .i64 ((epochC v.fChart))), (103, V 14)] _ ?hE Sr ?hk
        case hE => exact ⟨rfl, rfl, rfl, rfl, trivial⟩
        refine adL (⟨V 14, F.fImage⟩ : Atom) (fun S_ w_ h_ => h_ _ (List.mem_of_getElem? (i := 0) G))<|asSl 0 G fun hs => ?_
        obtain ⟨A14, cc14, e14⟩ := hs
        rw [e14]
        exact gY G G G<|bd (ps := [(0, .const (.int .i64 10)), (12, .tmp 97), (3, .tmp 100), (13, .tmp 103)]) (cs := (cCommand ((⟨10, 0, 0, (epochC v.fChart), 0, 0, ByteArray.empty, 0, 0, 0, false, oZ, v.fChart.fPlan, F.fImage⟩ : TCommand)) (.slice A14 F.fImage.length cc14))) (by rfl) (by kernel_rfl) G<|nl (odH G G G G (Sc 0 G Sn) (SubD.tail (SubD.tail Sr)))
       trivial
      ·
       intro V hV
       refine wkI [(95, .bool true), (96, .func (.yield ll) #[] #[]), (104, V 15), (0, _), (1, _), (2, _)] [(⟨(V 14), F.fImage⟩ : Atom), (⟨cel (V 15) 24, F.fImage⟩ : Atom), _, _, _, _, _, _, _, _, _, _, _, _, _, _, _, _, _, _] (Gs G) Sr ?_
       obtain ⟨c104, e104⟩ : ∃ c, V 15 = .agg (cCommand (m3c v F) c).toArray := ⟨_, hV.mem 15 (by decide) rfl rfl⟩
       rw [e104]
       refine mtI 4 G<|mtI 4 G<|mtI 4 G<|gY G G G<|yfI G G (hY r2 (xs ++ mv1 v S ++ mv2 v S) (m3c v F) c104 ⟨show InI 10 from ⟨by decide, by decide⟩, I0, I0, hec, I0, I0, Eb0, I0, I0, I0, trivial, ⟨I0, Eb0, Eb0, I0, I0, I0⟩, h_v.2.2.1.2.2.2.2.1, trivial⟩ (by have := mv_len v S F F; simp only [List.length_append]; omega)) G (Sc 1 G Sn) G fun y105 v105 h105 => ?_
       obtain rfl : v105 = .bool true := h105
       refine ru 2 G<|eI<|nx<|cdF G<|sk<|mtQ 3 G<|dpQ<|mtQ 5 G<|mtQ 5 G<|mtQ 4 G<|mtQ 4 G<|mtQ 4 G<|mtQ 5 G ?_
       rw [show row 37 y105 (xs ++ mv1 v S ++ mv2 v S ++ [m3c v F]) = row 37 y105 (xs ++ mv1 v S ++ mv2 v S ++ mv3 v S (stAt v v.fChart.fPlan.fFrom)) from by rw [mv3, if_pos q84, hF, if_pos hF7]]
       exact jx y105 trivial (Gs G) G (Si [9,10,11,12,13,14,15,16,17,18,19] G)
     ·
      refine rgQ mixed (by kernel_rfl)<|rl 6 [0,1] G G ?_
      rw [decide_eq_false hF7]
      refine mv G G<|gN G G G G G<|gN G G G G G<|gN G G G G G<|gN G G G G G<|gN G G G G G<|gN G G G G G<|gN G G G G G<|gN G G G G G<|gN G G G G G<|gN G G G G G<|gN G G G G G<|ru 1 G<|nlQ<|nx<|cdF G<|sk<|dpQ ?_
      rw [show row 37 r2 (xs ++ mv1 v S ++ mv2 v S) = row 37 r2 (xs ++ mv1 v S ++ mv2 v S ++ mv3 v S (stAt v v.fChart.fPlan.fFrom)) from by rw [mv3, if_pos q84, hF, if_neg hF7, List.append_nil]]
      exact jx r2 trivial (Gs G) G (Si [7,8,9,10,11,12,13,14,15,16,17] G)
    ·
     have q84 : m3 v S = false := h84
     refine sk ?_
     rw [show row 37 r2 (xs ++ mv1 v S ++ mv2 v S) = row 37 r2 (xs ++ mv1 v S ++ mv2 v S ++ mv3 v S (stAt v v.fChart.fPlan.fFrom)) from by rw [mv3, if_neg (by rw [q84]; decide), List.append_nil]]
     exact jx r2 trivial (Gs G) G (Si [0,1,2,3,4,5,6,7,8,9,10] G)
   ·
    rintro r3 _
    show WQ _ _ _ [(0, _), (1, _), (2, _)] [bl b4 24 (cPlan v.fChart.fPlan), lpk ll dd r, bl bv 45 [r3], row 37 r3 (xs ++ mv1 v S ++ mv2 v S ++ mv3 v S (stAt v v.fChart.fPlan.fFrom)), bl b1 32 (cScene v v_0 v_1 v_2 v_3 v_4), bl b2 55 (cState S s_0 s_1 s_2 s_3 s_4 s_5), fz X w] _
    refine nx<|qg<|ldM 4 (cScene v v_0 v_1 v_2 v_3 v_4) G G (Rg G) G G<|ldM 5 (cState S s_0 s_1 s_2 s_3 s_4 s_5) G G (Rg G) G G<|cfv (out_c _ _ _ _ _ _ _ _ _ _ _ _ _ (stAt v S.fOut.fTo) G h_v h_S hto hl hp) ok_108 G (Si [0,1,2,3,4,5,6,7,8,9,10] G) G<|ru 3 G<|al zero_37 G fun b7 => stW 0 (us := (cCommand ((outC v S (stAt v S.fOut.fTo))) nS)) G G G (Rg G) G G<|ru 1 G<|nl<|nx<|qg<|mv G G<|nl<|nx<|cdB G (fun h114 => ?_) (fun h114 => ?_)
    ·
     refine rgI<|hdI [_, _] G<|mv G G<|ldM 0 (cCommand ((outC v S (stAt v S.fOut.fTo))) nS) G G (Rg G) G G<|mtL 4 G<|mtL 4 G<|mtL 4 G<|nlI<|emL (α := UInt8)<|yfI G G (hY r3 (xs ++ mv1 v S ++ mv2 v S ++ mv3 v S (stAt v v.fChart.fPlan.fFrom)) (outC v S (stAt v S.fOut.fTo)) nS (outC_wf h_S heo) (by have := mv_len v S (stAt v v.fChart.fPlan.fFrom) S; simp only [List.length_append]; omega)) G (Sc 0 (by rw [outC_img]; rfl) Sn) G fun y117 v117 h117 => ?_
     obtain rfl : v117 = .bool true := h117
     refine eI<|mtQ 3 G<|dpQ<|mtQ 3 G<|dpQ ?_
     rw [show row 37 y117 (xs ++ mv1 v S ++ mv2 v S ++ mv3 v S (stAt v v.fChart.fPlan.fFrom) ++ [outC v S (stAt v S.fOut.fTo)]) = row 37 y117 (xs ++ movesL v S) from by rw [movesL, mv4, if_pos h114, ← List.append_assoc, ← List.append_assoc, ← List.append_assoc]]
     exact fR0N y117 G G G Sn
    ·
     refine sk<|dpQ<|dpQ ?_
     rw [show row 37 r3 (xs ++ mv1 v S ++ mv2 v S ++ mv3 v S (stAt v v.fChart.fPlan.fFrom)) = row 37 r3 (xs ++ movesL v S) from by rw [movesL, mv4, if_neg (by rw [h114]; decide), List.append_nil, ← List.append_assoc, ← List.append_assoc]]
     exact fR0N r3 G G G Sn
end
theorem wkW {ds : List Deferred} {c : Cx} {x : Code} {Q : Exit → Act → World → Prop} {env : Env} {L : Go.Eng.Own} {D : List Atom} (env' : Env) (hE : Go.Eng.Sub env' env) (h : WLoD ds c x Q env' L D) : WLoD ds c x Q env L D := fun a w f st d => h a w (f.sub hE) st d
end Go.Proofs.YtmpoffijcfaalaaGreat
namespace Go.Eng
section
section
variable {P : Program} {fn : Func} {n m : Nat} {env : Env} {L : Own} {D : List Atom} {X : List Nat} {w0 : World} {β : Type} {R : β → Value → Prop} {out : β → Value → List Atom}
theorem fR1Z (y : β) (A : Own) {t : Nat} {v : Value} (hr : fn.results = #[.tmp t]) (hv : lk env t = some v) (hR : R y v) (hL : L = A ++ [fz X w0]) (hD : SubD (out y v) D) : WQ ⟨P, n, w0, [] ++ X⟩ (PostG m P fn X w0 R out) .ret env L D := by
 intro a w f st d
 subst hL
 refine (show LeavesInM Fence.wide m P fn _ _ a.defers .returning w from ?_)
 rw [f.dn]
 refine ⟨_, results_tmp hr _ _ _, _, rfl, ?_⟩
 have e1 := f.at_ t v hv
 rw [show a.tmps.getD t undef = v by simp [e1]]
 exact Fnc.post (L0 := []) (L1 := fun _ _ => []) y hR rfl hD st.dropA d.dropA (by simp [Own.bs, bsOf])
theorem fR1D (y : β) (ks : List Nat) (A : Own) {t : Nat} {v : Value} (hr : fn.results = #[.tmp t]) (hv : lk env t = some v) (hR : R y v) (hL : L = ks.map dk ++ (A ++ [fz X w0])) (hD : SubD (out y v) D) : WQD (ks.map mk) ⟨P, n, w0, [] ++ X⟩ (PostG m P fn X w0 R out) .ret env L D := by
 intro a w f st d
 subst hL
 have hbs : Own.bs (ks.map dk) = ks := by
  have : ∀ l : List Nat, bsOf (l.map dk) = l := fun l => by
   induction l with
   | nil => rfl
   | cons k l ih => simp [bsOf, ih]
  exact this ks
 refine (show LeavesInM Fence.wide m P fn _ _ (ks.map mk) .returning w from ?_)
 refine leavesM ks w (fun k hk => st.own (dk k) (List.mem_append.2 (.inl (List.mem_map.2 ⟨k, hk, rfl⟩)))) ?_ fun W' hs => ⟨_, results_tmp hr _ _ _, _, rfl, ?_⟩
 · have := st.nd
   rw [Own.bs, bsOf_append] at this
   have := (List.nodup_append.1 this).1
   rwa [← Own.bs, hbs] at this
 · have e1 := f.at_ t v hv
   rw [show a.tmps.getD t undef = v by simp [e1]]
   have hz := st.own (fz X w0) (by simp)
   have hks : ∀ k ∈ ks, w0.heap.size ≤ k ∧ k ∉ X := fun k hk => by
    have hm : k ∈ Own.bs (ks.map dk) := by rw [hbs]; exact hk
    have hkx : k ∉ X := fun hx => by
     have hnd := st.nd
     rw [Own.bs, bsOf_append] at hnd
     exact (List.nodup_append.1 hnd).2.2 k hm k (by rw [bsOf_append]; exact List.mem_append.2 (.inr (by simpa [bsOf] using hx))) rfl
    refine ⟨?_, hkx⟩
    rcases st.new k (by rw [Own.bs, bsOf_append]; exact List.mem_append.2 (.inl hm)) with h | h
    · exact absurd (by simpa using h) hkx
    · exact h
   refine ⟨⟨hs.os.trans st.stp.os, hs.tape.trans st.stp.tape, hs.output.trans st.stp.output, Nat.le_trans st.stp.size hs.size, fun k hk _ => ?_⟩, y, hR, by simp, by simp [Own.bs, bsOf], by simp [Own.bs, bsOf], fun t ht => ?_⟩
   · have e : W'.heap[k]? = w.heap[k]? := hs.block k (Nat.lt_of_lt_of_le hk st.stp.size) (fun hm => by have := (hks k hm).1; omega)
     by_cases hkx : k ∈ X
     · exact e.trans (hz.1 k hkx)
     · exact e.trans (st.stp.block k hk (by simpa using hkx))
   · refine Atom.keep (d t (hD t ht)) (fun b hb => ⟨Nat.lt_of_lt_of_le hb.1 hs.size, fun hx => hb.2 ?_⟩) (fun b hb => hs.block b hb.1 (fun hm => hb.2 ?_))
     · have hx : b ∈ X := by simpa [Own.bs, bsOf] using hx
       exact mem_bsOf.2 ⟨fz X w0, by simp, hx⟩
     · rw [Own.bs, bsOf_append]; exact List.mem_append.2 (.inl (by rw [← Own.bs, hbs]; exact hm))
end
end
end Go.Eng
namespace Go.Proofs.YtmpoffijcfaalaaGreat
open Go.Eng Go.YtmpoffijcfaalaaGreat
theorem duties_round (ll dd b6 : Nat) (r : Loop) (h1 : r.state = .ready) (h2 : r.pending = none) (h3 : r.params = #[48]) (h4 : r.assign = .region 11 [⟨some 9, .alloc 37, 0, "duty.go:85", #[], none⟩, ⟨none, .store 37 (.tmp 9) (.tmp 48), 0, "duty.go:85", #[⟨0, .data⟩, ⟨0, .phase⟩], none⟩].toArray false) (h5 : r.body = .block 3 (.region 12 [⟨some 49, .load 45 (.tmp 6), 45, "duty.go:86", #[], none⟩, ⟨some 50, .load 37 (.tmp 9), 37, "duty.go:86", #[], none⟩, ⟨some 51, .buildSlice 45 1 #[⟨0, .tmp 50⟩], 45, "duty.go:86", #[⟨1, .data⟩], none⟩, ⟨some 52, .call ⟨.builtin .append, #[.tmp 49, .tmp 51], #[45, 45]⟩, 45, "duty.go:86", #[⟨0, .data⟩, ⟨2, .data⟩], none⟩, ⟨none, .store 45 (.tmp 6) (.tmp 52), 0, "duty.go:86", #[⟨3, .data⟩, ⟨3, .chain⟩, ⟨0, .phase⟩, ⟨1, .phase⟩, ⟨2, .phase⟩, ⟨3, .phase⟩], none⟩].toArray false)) (f0 : Fr 55 { tmps := r.tmps, defers := [] } [(6, .pointer (some ⟨b6, 0, none⟩))])
  (rv : Value) (xs : List TCommand) (c : TCommand) (cv : Value) (hc : c.wf) (hx : xs.length ≤ 100000) : FncY Pg ll [.agg (cCommand c cv).toArray] [lpk ll dd r, bl b6 45 [rv], row 37 rv xs] [⟨cv, c.fImage⟩] (fun (_ : Value) u => u = .bool true) (fun y _ => [lpk ll dd r, bl b6 45 [y], row 37 y (xs ++ [c])]) (fun _ _ => []) := by
 refine FncY.proof h1 h2 h3 h4 G f0 G fun X w => al zero_37 G fun b9 => oc 0 G fun o_cv => stW 0 (us := (cCommand c cv)) G G G (Rg G) (by simp only [List.all_cons, List.all_nil, Bool.and_true, o_cv]; rfl) G<|bgR 1 G h5 G<|rl 1 [2] G G<|ldM 0 (cCommand c cv) G G (Rg G) G G<|bsM G app_45 G G G G fun b51 => ?_
 refine frS1 (α := TCommand) c (fun S w h => ⟨cv, G, fun t ht => by
   simp only [List.mem_cons, List.not_mem_nil, or_false] at ht
   subst ht
   · exact h _ (List.mem_of_getElem? (i := 0) G), hc⟩) ?_
 exact ap 3 0 G G G G app_45 (by simp only [List.length_cons, List.length_nil]; omega) (by simp only [List.length_cons, List.length_nil]; omega) G fun v52 => stR 2 3 G G G G (Og G) (nlt G)<|dpL<|enR 0 _ G G G Sn
theorem duties_c (v : TScene) (v_0 v_1 v_2 v_3 v_4 : Value) (n : Int) (h_v : v.wf) (h_n : InI n) (hw : ∀ s ∈ v.fStates, ∀ a ∈ s.fAccounts, a.wf) (hbk : BkV v) : Fnc Pg 15 [.agg (cScene v v_0 v_1 v_2 v_3 v_4).toArray, .int .i64 n] [] [⟨v_0, v.fChart.fPlaces⟩, ⟨v_1, v.fChart.fMarks⟩, ⟨v_2, v.fStates⟩, ⟨v_3, v.fRights⟩, ⟨v_4, v.fAges⟩] (fun (_ : Unit) _ => True) (fun _ _ => []) (fun _ u => [⟨u, dutiesL v n⟩]) := by
 refine Fnc.proofZ 2 Tryz.func15 G 55 G G fun X w => ?_
 obtain ⟨h_n1, h_n2⟩ := id h_n
 refine qg<|bx G G G fun b2 => ru 1 G<|nl<|nx<|sq<|qg<|ru 3 G ?_
 refine jy 12 4 [1,2] G G (fun h12 K16 => by
  have p12 := h12
  simp only [Bool.not_eq_true', decide_eq_false_iff_not] at p12
  exact ru 1 G<|gY G G G<|cfv (shards_c _ h_n) ok_44 G Sn G<|ru 2 G<|K16 G Sr) ?_
 refine mv G G<|jz 17 4 [1,2] G G (fun h17 K21 => gY G G G<|ldM 0 (cScene v v_0 v_1 v_2 v_3 v_4) G G (Rg G) G G<|gY G G G<|cfv (dright_c _ _ _ _ _ _ h_v) ok_17 G (Si [0,1,2,3,4] G) G<|ru 2 G<|K21 G Sr)<|nl<|nx<|cdB G (fun h21 => ?_) (fun h21 => ?_)
 ·
  have q0 : (((!decide (n = 0)) && !okGroup n) || !right22 v) = true := by rw [← scene_eq hw]; exact h21
  have eD : dutiesL v n = [] := by rw [dutiesL, if_pos q0]
  exact emC (α := TCommand)<|sa 1 G<|rt<|tR<|dpQ<|fR1Z () [] G G trivial G (by rw [eD]; exact (SubD.cons 0 rfl SubD.nil))
 ·
  have q0 : ¬ (((!decide (n = 0)) && !okGroup n) || !right22 v) = true := by rw [← scene_eq hw, Bool.not_eq_true]; exact h21
  have q := q0
  simp only [Bool.or_eq_true, not_or, Bool.not_eq_true', Bool.not_eq_false] at q
  have hc := scene_has q.2
  have hl := hc.len
  refine sk<|nx<|sq<|sa 2 G<|cdP G (fun h23 => ?_) (fun h23 => ?_)
  ·
   have eD : dutiesL v n = chL v (stAt v v.fChart.fPlan.fTo) (stAt v v.fChart.fPlan.fFrom) := by rw [dutiesL, if_neg q0, if_pos h23]
   exact qg<|ldM 0 (cScene v v_0 v_1 v_2 v_3 v_4) G G (Rg G) G G<|cf (charted_c v v_0 v_1 v_2 v_3 v_4 _ _ G G h_v (fun h => ⟨(hc.plan h).2.2.2.1, (hc.plan h).2.2.2.2, (hc.plan h).2.1, (hc.plan h).2.2.1⟩) hc.len) ok_48 G (Si [0,1,2,3,4] G) G fun y25 v25 h25 => ru 1 G<|nl<|nx<|rt<|tR<|dpQ<|fR1Z () [] G G trivial G (by rw [eD]; exact (SubD.cons 0 rfl SubD.nil))
  ·
   have hg : 1 ≤ n ∧ n < 8 := by
    have q1 := q.1
    simp only [Bool.and_eq_true, Bool.not_eq_true', decide_eq_false_iff_not, not_and, Bool.not_eq_false, okGroup, decide_eq_true_eq] at q1
    exact q1 h23
   obtain ⟨S, hS0⟩ : ∃ S, stAt v n = S := ⟨_, rfl⟩
   refine rawNC (s := sState) 2 (n - 1).toNat G (by omega) ?_
   rw [show v.fStates.getD (n - 1).toNat default = S from hS0]
   rintro ys ⟨s_0, s_1, s_2, s_3, s_4, s_5⟩ hy_s h_S
   have eD : dutiesL v n = (movesL v S ++ dealL v S.fDeals S.fDeals.length ++ sidesL v S v.fStates v.fStates.length ++ lateL v S.fWaits S.fWaits.length) := by rw [dutiesL, if_neg q0, if_neg h23, hS0]
   have hS : Ss S := hS0 ▸ (hc.st (n - 1).toNat (by omega)).1
   have l1 : (movesL v S).length ≤ 4 := by
    have := mv_len v S (stAt v v.fChart.fPlan.fFrom) (stAt v S.fOut.fTo)
    simp only [movesL, List.length_append]
    omega
   have l2 := dealL_len v S.fDeals S.fDeals.length
   have l3 := sidesL_len v S v.fStates hc.deals v.fStates.length
   have l4 := hS.deals4
   have hwS : S.wf := h_S
   refine sk<|nx<|qg<|ldM 0 (cScene v v_0 v_1 v_2 v_3 v_4) G G (Rg G) G G<|mv G G<|cfv (state_r v v_0 v_1 v_2 v_3 v_4 n S s_0 s_1 s_2 s_3 s_4 s_5 ys h_v (by omega) (by omega) hy_s) ok_45 G (Si [0,1,2,3,4,5,6] G) G<|al zero_55 G fun b5 => oc 1 G fun o_s_0 => oc 2 G fun o_s_1 => oc 3 G fun o_s_2 => oc 4 G fun o_s_3 => oc 5 G fun o_s_4 => oc 6 G fun o_s_5 => stW 0 (us := (cState S s_0 s_1 s_2 s_3 s_4 s_5)) G G G (Rg G) (by simp only [List.all_cons, List.all_nil, Bool.and_true, o_s_0, o_s_1, o_s_2, o_s_3, o_s_4, o_s_5]; rfl) G<|nl<|nx<|qg<|al zero_45 G fun b6 => nl<|nx<|sq<|sq ?_
   refine rgH ⟨fun q_ => ([[], [], [0, 1], [], [], [3, 4], [], [], [6, 7], [], [], [9, 10], [2, 5, 8, 11], [12], []] : List (List Nat)).getD q_ [], fun q_ => ([fun _ => True, fun _ => True, isCl 104, fun _ => True, fun _ => True, isCl 109, fun _ => True, fun _ => True, isCl 111, fun _ => True, fun _ => True, isCl 114, fun u => u = .slice (some ⟨ptrS u, 0, none⟩) 4 4, fun _ => True, fun _ => True] : List (Value → Prop)).getD q_ (fun _ => True), fun _ _ => [], fun q_ => ([some (.agg (cScene v v_0 v_1 v_2 v_3 v_4).toArray), some (.agg (cState S s_0 s_1 s_2 s_3 s_4 s_5).toArray), none, some (.agg (cScene v v_0 v_1 v_2 v_3 v_4).toArray), some (.agg (cState S s_0 s_1 s_2 s_3 s_4 s_5).toArray), none, some (.agg (cScene v v_0 v_1 v_2 v_3 v_4).toArray), some (.agg (cState S s_0 s_1 s_2 s_3 s_4 s_5).toArray), none, some (.agg (cScene v v_0 v_1 v_2 v_3 v_4).toArray), some (.agg (cState S s_0 s_1 s_2 s_3 s_4 s_5).toArray), none, none, some (.int .i64 4), some (.int .i64 0)] : List (Option Value)).getD q_ none, fun h_ => match h_ with
     | [] => fun vs_ => [bl b6 45 [.slice none 0 0], bl b5 55 (cState S s_0 s_1 s_2 s_3 s_4 s_5), bl b2 32 (cScene v v_0 v_1 v_2 v_3 v_4), fz X w]
     | [2] => fun vs_ => [bl (fb1 (vs_.getD 0 undef)) 32 (cScene v v_0 v_1 v_2 v_3 v_4), bl (fb2 (vs_.getD 0 undef)) 55 (cState S s_0 s_1 s_2 s_3 s_4 s_5), bl b6 45 [.slice none 0 0], bl b5 55 (cState S s_0 s_1 s_2 s_3 s_4 s_5), bl b2 32 (cScene v v_0 v_1 v_2 v_3 v_4), fz X w]
     | [2, 5] => fun vs_ => [bl (fb1 (vs_.getD 1 undef)) 55 (cState S s_0 s_1 s_2 s_3 s_4 s_5), bl (fb2 (vs_.getD 1 undef)) 32 (cScene v v_0 v_1 v_2 v_3 v_4), bl (fb1 (vs_.getD 0 undef)) 32 (cScene v v_0 v_1 v_2 v_3 v_4), bl (fb2 (vs_.getD 0 undef)) 55 (cState S s_0 s_1 s_2 s_3 s_4 s_5), bl b6 45 [.slice none 0 0], bl b5 55 (cState S s_0 s_1 s_2 s_3 s_4 s_5), bl b2 32 (cScene v v_0 v_1 v_2 v_3 v_4), fz X w]
     | [2, 5, 8] => fun vs_ => [bl (fb1 (vs_.getD 2 undef)) 32 (cScene v v_0 v_1 v_2 v_3 v_4), bl (fb2 (vs_.getD 2 undef)) 55 (cState S s_0 s_1 s_2 s_3 s_4 s_5), bl (fb1 (vs_.getD 1 undef)) 55 (cState S s_0 s_1 s_2 s_3 s_4 s_5), bl (fb2 (vs_.getD 1 undef)) 32 (cScene v v_0 v_1 v_2 v_3 v_4), bl (fb1 (vs_.getD 0 undef)) 32 (cScene v v_0 v_1 v_2 v_3 v_4), bl (fb2 (vs_.getD 0 undef)) 55 (cState S s_0 s_1 s_2 s_3 s_4 s_5), bl b6 45 [.slice none 0 0], bl b5 55 (cState S s_0 s_1 s_2 s_3 s_4 s_5), bl b2 32 (cScene v v_0 v_1 v_2 v_3 v_4), fz X w]
     | [2, 5, 8, 11] => fun vs_ => [bl (fb1 (vs_.getD 3 undef)) 55 (cState S s_0 s_1 s_2 s_3 s_4 s_5), bl (fb2 (vs_.getD 3 undef)) 32 (cScene v v_0 v_1 v_2 v_3 v_4), bl (fb1 (vs_.getD 2 undef)) 32 (cScene v v_0 v_1 v_2 v_3 v_4), bl (fb2 (vs_.getD 2 undef)) 55 (cState S s_0 s_1 s_2 s_3 s_4 s_5), bl (fb1 (vs_.getD 1 undef)) 55 (cState S s_0 s_1 s_2 s_3 s_4 s_5), bl (fb2 (vs_.getD 1 undef)) 32 (cScene v v_0 v_1 v_2 v_3 v_4), bl (fb1 (vs_.getD 0 undef)) 32 (cScene v v_0 v_1 v_2 v_3 v_4), bl (fb2 (vs_.getD 0 undef)) 55 (cState S s_0 s_1 s_2 s_3 s_4 s_5), bl b6 45 [.slice none 0 0], bl b5 55 (cState S s_0 s_1 s_2 s_3 s_4 s_5), bl b2 32 (cScene v v_0 v_1 v_2 v_3 v_4), fz X w]
     | [2, 5, 8, 11, 12] => fun vs_ => [bl (ptrS (vs_.getD 4 undef)) 103 [(vs_.getD 0 undef), (vs_.getD 1 undef), (vs_.getD 2 undef), (vs_.getD 3 undef)], bl (fb1 (vs_.getD 3 undef)) 55 (cState S s_0 s_1 s_2 s_3 s_4 s_5), bl (fb2 (vs_.getD 3 undef)) 32 (cScene v v_0 v_1 v_2 v_3 v_4), bl (fb1 (vs_.getD 2 undef)) 32 (cScene v v_0 v_1 v_2 v_3 v_4), bl (fb2 (vs_.getD 2 undef)) 55 (cState S s_0 s_1 s_2 s_3 s_4 s_5), bl (fb1 (vs_.getD 1 undef)) 55 (cState S s_0 s_1 s_2 s_3 s_4 s_5), bl (fb2 (vs_.getD 1 undef)) 32 (cScene v v_0 v_1 v_2 v_3 v_4), bl (fb1 (vs_.getD 0 undef)) 32 (cScene v v_0 v_1 v_2 v_3 v_4), bl (fb2 (vs_.getD 0 undef)) 55 (cState S s_0 s_1 s_2 s_3 s_4 s_5), bl b6 45 [.slice none 0 0], bl b5 55 (cState S s_0 s_1 s_2 s_3 s_4 s_5), bl b2 32 (cScene v v_0 v_1 v_2 v_3 v_4), fz X w]
     | _ => fun _ => [], [2, 5, 8, 11, 12], [[], [2], [2, 5], [2, 5, 8], [2, 5, 8, 11], [2, 5, 8, 11, 12]]⟩ (fun V => [bl (ptrS (V 12)) 103 [(V 2), (V 5), (V 8), (V 11)], bl (fb1 (V 11)) 55 (cState S s_0 s_1 s_2 s_3 s_4 s_5), bl (fb2 (V 11)) 32 (cScene v v_0 v_1 v_2 v_3 v_4), bl (fb1 (V 8)) 32 (cScene v v_0 v_1 v_2 v_3 v_4), bl (fb2 (V 8)) 55 (cState S s_0 s_1 s_2 s_3 s_4 s_5), bl (fb1 (V 5)) 55 (cState S s_0 s_1 s_2 s_3 s_4 s_5), bl (fb2 (V 5)) 32 (cScene v v_0 v_1 v_2 v_3 v_4), bl (fb1 (V 2)) 32 (cScene v v_0 v_1 v_2 v_3 v_4), bl (fb2 (V 2)) 55 (cState S s_0 s_1 s_2 s_3 s_4 s_5), bl b6 45 [.slice none 0 0], bl b5 55 (cState S s_0 s_1 s_2 s_3 s_4 s_5), bl b2 32 (cScene v v_0 v_1 v_2 v_3 v_4), fz X w]) mixed rfl rfl (show AllP _ [[2, 5, 8, 11, 12]] from ⟨fun _ => rfl, trivial⟩) ?_ ?_
   ·
    refine ⟨fun V De _=>aP1 (ldM 2 (cScene v v_0 v_1 v_2 v_3 v_4) G G (Rg G) G G<|oh G G G G),fun V De _=>aP1 (ldM 1 (cState S s_0 s_1 s_2 s_3 s_4 s_5) G G (Rg G) G G<|oh G G G G),fun V De _=>aP1 (cf (mkmoves_c _ _ _ _ _ _ _ _ _ _ _ _ _) ok_49 G (Si [7,8,9,10,11,1,2,3,4,5,6] G) G fun y31 v31 h31 => nl (odH G G G h31 Sn Sr)),fun V De _=>aP2 (ldM 2 (cScene v v_0 v_1 v_2 v_3 v_4) G G (Rg G) G G<|oh G G G G) (ldM 4 (cScene v v_0 v_1 v_2 v_3 v_4) G G (Rg G) G G<|oh G G G G),fun V De _=>aP2 (ldM 1 (cState S s_0 s_1 s_2 s_3 s_4 s_5) G G (Rg G) G G<|oh G G G G) (ldM 3 (cState S s_0 s_1 s_2 s_3 s_4 s_5) G G (Rg G) G G<|oh G G G G),fun V De _=>aP1 (cf (mkdeals_c _ _ _ _ _ _ _ _ _ _ _ _ _) ok_50 G (Si [7,8,9,10,11,1,2,3,4,5,6] G) G fun y34 v34 h34 => nl (odH G G G h34 Sn Sr)),fun V De _=>aP3 (ldM 2 (cScene v v_0 v_1 v_2 v_3 v_4) G G (Rg G) G G<|oh G G G G) (ldM 4 (cScene v v_0 v_1 v_2 v_3 v_4) G G (Rg G) G G<|oh G G G G) (ldM 6 (cScene v v_0 v_1 v_2 v_3 v_4) G G (Rg G) G G<|oh G G G G),fun V De _=>aP3 (ldM 1 (cState S s_0 s_1 s_2 s_3 s_4 s_5) G G (Rg G) G G<|oh G G G G) (ldM 3 (cState S s_0 s_1 s_2 s_3 s_4 s_5) G G (Rg G) G G<|oh G G G G) (ldM 5 (cState S s_0 s_1 s_2 s_3 s_4 s_5) G G (Rg G) G G<|oh G G G G),?_⟩
    refine ⟨fun V De _=>aP1 (cf (mksides_c _ _ _ _ _ _ _ _ _ _ _ _ _) ok_51 G (Si [7,8,9,10,11,1,2,3,4,5,6] G) G fun y37 v37 h37 => nl (odH G G G h37 Sn Sr)),fun V De _=>aP4 (ldM 2 (cScene v v_0 v_1 v_2 v_3 v_4) G G (Rg G) G G<|oh G G G G) (ldM 4 (cScene v v_0 v_1 v_2 v_3 v_4) G G (Rg G) G G<|oh G G G G) (ldM 6 (cScene v v_0 v_1 v_2 v_3 v_4) G G (Rg G) G G<|oh G G G G) (ldM 8 (cScene v v_0 v_1 v_2 v_3 v_4) G G (Rg G) G G<|oh G G G G),fun V De _=>aP4 (ldM 1 (cState S s_0 s_1 s_2 s_3 s_4 s_5) G G (Rg G) G G<|oh G G G G) (ldM 3 (cState S s_0 s_1 s_2 s_3 s_4 s_5) G G (Rg G) G G<|oh G G G G) (ldM 5 (cState S s_0 s_1 s_2 s_3 s_4 s_5) G G (Rg G) G G<|oh G G G G) (ldM 7 (cState S s_0 s_1 s_2 s_3 s_4 s_5) G G (Rg G) G G<|oh G G G G),fun V De _=>aP1 (cf (mklate_c _ _ _ _ _ _ _ _ _ _ _ _ _) ok_52 G (Si [7,8,9,10,11,1,2,3,4,5,6] G) G fun y40 v40 h40 => nl (odH G G G h40 Sn Sr)),?_⟩
    refine ⟨fun V De hV => (show AllP _ [[2, 5, 8, 11]] from ⟨?_, trivial⟩), ?_⟩
    · exact bs1 (E := 103) (bytes := 8) (n := 4) (xs := [.tmp 31, .tmp 34, .tmp 37, .tmp 40]) (us := [V 2, V 5, V 8, V 11]) G (by exact app_105) (by simp only [List.all_cons, List.all_nil, Bool.and_true, isCl_one (hV.mem 2 (show 2 ∈ [2, 5, 8, 11] from by decide) rfl), isCl_one (hV.mem 5 (show 5 ∈ [2, 5, 8, 11] from by decide) rfl), isCl_one (hV.mem 8 (show 8 ∈ [2, 5, 8, 11] from by decide) rfl), isCl_one (hV.mem 11 (show 11 ∈ [2, 5, 8, 11] from by decide) rfl)]) G G G G G fun b41 => oh G G G G
    refine ⟨fun V De hV => (show AllP _ [[2, 5, 8, 11, 12]] from ⟨?_, trivial⟩), ?_⟩
    · exact lnV (congrArg some (hV.mem 12 (show 12 ∈ [12] from by decide) G)) Tryz.underlying105 G<|oh G G G G
    exact ⟨fun V De _=>aP6 (mv G G<|oh G G G G) (mv G G<|oh G G G G) (mv G G<|oh G G G G) (mv G G<|oh G G G G) (mv G G<|oh G G G G) (mv G G<|oh G G G G),trivial⟩
   ·
    intro V hV
    have e2 : isCl 104 (V 2) := hV.mem 2 (by decide) rfl rfl
    have e5 : isCl 109 (V 5) := hV.mem 5 (by decide) rfl rfl
    have e8 : isCl 111 (V 8) := hV.mem 8 (by decide) rfl rfl
    have e11 : isCl 114 (V 11) := hV.mem 11 (by decide) rfl rfl
    have e12 : V 12 = .slice (some ⟨ptrS (V 12), 0, none⟩) 4 4 := hV.mem 12 (by decide) rfl rfl
    refine wkQ (L := [bl (ptrS (V 12)) 103 [(V 2), (V 5), (V 8), (V 11)], bl (fb1 (V 11)) 55 (cState S s_0 s_1 s_2 s_3 s_4 s_5), bl (fb2 (V 11)) 32 (cScene v v_0 v_1 v_2 v_3 v_4), bl (fb1 (V 8)) 32 (cScene v v_0 v_1 v_2 v_3 v_4), bl (fb2 (V 8)) 55 (cState S s_0 s_1 s_2 s_3 s_4 s_5), bl (fb1 (V 5)) 55 (cState S s_0 s_1 s_2 s_3 s_4 s_5), bl (fb2 (V 5)) 32 (cScene v v_0 v_1 v_2 v_3 v_4), bl (fb1 (V 2)) 32 (cScene v v_0 v_1 v_2 v_3 v_4), bl (fb2 (V 2)) 55 (cState S s_0 s_1 s_2 s_3 s_4 s_5), bl b6 45 [.slice none 0 0], bl b5 55 (cState S s_0 s_1 s_2 s_3 s_4 s_5), bl b2 32 (cScene v v_0 v_1 v_2 v_3 v_4), fz X w]) [(6, _), (41, V 12), (42, .int .i64 4), (43, .int .i64 0)] [_, _, _, _, _, _, _, _, _, _, _, _] (Gs G) (Sc 0 G (Sc 1 G (Sc 2 G (Sc 3 G (Sc 4 G (Sc 5 G (Sc 6 G (Sc 7 G (Sc 8 G (Sc 9 G (Sc 10 G (Sc 11 G Sn)))))))))))) ?_
    generalize V 2 = u2 at e2 ⊢
    generalize V 5 = u5 at e5 ⊢
    generalize V 8 = u8 at e8 ⊢
    generalize V 11 = u11 at e11 ⊢
    generalize hb : ptrS (V 12) = b41 at e12 ⊢
    rw [e12]
    exact nx<|wcD<|rwCD TCommand 37<|bkD<|lu0D<|lu1D<|sqD<|rgM<|ru 1 G<|nlD<|nxD<|sqD<|cdTD G<|skD<|nxD<|sqD<|bkD<|sqD<|rgM<|ixV (m := 0) G G slt_105 (by decide) (by decide) G<|rl 2 [1] G G<|nlD<|nxD<|sqD<|rgM<|mv G G<|nlD<|nxD<|bkD<|mtCD 9 G<|mtCD 9 G<|mtCD 2 G<|mtCD 10 G<|rfY (fun ll dd r h1 h2 h3 h4 h5 f => moves_it v v_0 v_1 v_2 v_3 v_4 S s_0 s_1 s_2 s_3 s_4 s_5 ll dd b6 r (fun rv xs c cv hc hx => duties_round ll dd b6 r h1 h2 h3 h4 h5 (f.sub ⟨G, trivial⟩) rv xs c cv hc hx) nS [] (fb1 u2) (fb2 u2) h_v hwS (by simp) (fun h => ⟨(hc.plan h).2.1, (hc.plan h).2.2.1⟩) (fun h => ⟨(plan_in (hS.out h)).2.2.2.1, (plan_in (hS.out h)).2.2.2.2⟩) hc.len (places_le hc.places) hc.hec hc.he1 (hc.heo S) hbk.img) ok_104 (congrArg some e2) G (Sc 7 G (Sc 8 G (Sc 9 G (Sc 10 G (Sc 11 G (Sc 1 G (Sc 2 G (Sc 3 G (Sc 4 G (Sc 5 G (Sc 6 G Sn))))))))))) fun m0 y0 z0 q0 => bND<|bND<|nxD<|rgM<|adI G G (inI (by omega) (by omega)) G<|mv G G<|nlD<|lunD<|wkW [(6, _), (41, _), (42, _), (43, .int .i64 1)] (Gs G)<|lu1D<|sqD<|rgM<|ru 1 G<|nlD<|nxD<|sqD<|cdTD G<|skD<|nxD<|sqD<|bkD<|sqD<|rgM<|ixV (m := 1) G G slt_105 (by decide) (by decide) G<|rl 2 [5] G G<|nlD<|nxD<|sqD<|rgM<|mv G G<|nlD<|nxD<|bkD<|mtCD 11 G<|mtCD 11 G<|mtCD 4 G<|mtCD 4 G<|rfY (fun ll dd r h1 h2 h3 h4 h5 f => deals_it v v_0 v_1 v_2 v_3 v_4 S s_0 s_1 s_2 s_3 s_4 s_5 ll dd b6 r (fun rv xs c cv hc hx => duties_round ll dd b6 r h1 h2 h3 h4 h5 (f.sub ⟨G, trivial⟩) rv xs c cv hc hx) y0 (movesL v S) (fb1 u5) (fb2 u5) h_v hwS (by omega) hS.deals4 (places17_pos hc.places) hc.len hc.whose hc.holS) ok_109 (congrArg some e5) G (Sc 7 G (Sc 8 G (Sc 9 G (Sc 10 G (Sc 11 G (Sc 1 G (Sc 2 G (Sc 3 G (Sc 4 G (Sc 5 G (Sc 6 G Sn))))))))))) fun m1 y1 z1 q1 => bND<|bND<|nxD<|rgM<|adI G G (inI (by omega) (by omega)) G<|mv G G<|nlD<|lunD<|wkW [(6, _), (41, _), (42, _), (43, .int .i64 2)] (Gs G)<|lu1D<|sqD<|rgM<|ru 1 G<|nlD<|nxD<|sqD<|cdTD G<|skD<|nxD<|sqD<|bkD<|sqD<|rgM<|ixV (m := 2) G G slt_105 (by decide) (by decide) G<|rl 2 [8] G G<|nlD<|nxD<|sqD<|rgM<|mv G G<|nlD<|nxD<|bkD<|mtCD 12 G<|mtCD 12 G<|mtCD 4 G<|mtCD 4 G<|rfY (fun ll dd r h1 h2 h3 h4 h5 f => sides_it v v_0 v_1 v_2 v_3 v_4 S s_0 s_1 s_2 s_3 s_4 s_5 ll dd b6 r (fun rv xs c cv hc hx => duties_round ll dd b6 r h1 h2 h3 h4 h5 (f.sub ⟨G, trivial⟩) rv xs c cv hc hx) y1 (movesL v S ++ dealL v S.fDeals S.fDeals.length) (fb1 u8) (fb2 u8) h_v hwS (by simp only [List.length_append]; omega) hc.deals (places17_pos hc.places) hc.len hc.whose hc.holS hS.holS) ok_111 (congrArg some e8) G (Sc 7 G (Sc 8 G (Sc 9 G (Sc 10 G (Sc 11 G (Sc 1 G (Sc 2 G (Sc 3 G (Sc 4 G (Sc 5 G (Sc 6 G Sn))))))))))) fun m2 y2 z2 q2 => bND<|bND<|nxD<|rgM<|adI G G (inI (by omega) (by omega)) G<|mv G G<|nlD<|lunD<|wkW [(6, _), (41, _), (42, _), (43, .int .i64 3)] (Gs G)<|lu1D<|sqD<|rgM<|ru 1 G<|nlD<|nxD<|sqD<|cdTD G<|skD<|nxD<|sqD<|bkD<|sqD<|rgM<|ixV (m := 3) G G slt_105 (by decide) (by decide) G<|rl 2 [11] G G<|nlD<|nxD<|sqD<|rgM<|mv G G<|nlD<|nxD<|bkD<|mtCD 13 G<|mtCD 13 G<|mtCD 4 G<|mtCD 4 G<|rfY (fun ll dd r h1 h2 h3 h4 h5 f => late_it v v_0 v_1 v_2 v_3 v_4 S s_0 s_1 s_2 s_3 s_4 s_5 ll dd b6 r (fun rv xs c cv hc hx => duties_round ll dd b6 r h1 h2 h3 h4 h5 (f.sub ⟨G, trivial⟩) rv xs c cv hc hx) y2 (movesL v S ++ dealL v S.fDeals S.fDeals.length ++ sidesL v S v.fStates v.fStates.length) (fb1 u11) (fb2 u11) h_v hwS (by simp only [List.length_append]; omega) hS.waits) ok_114 (congrArg some e11) G (Sc 7 G (Sc 8 G (Sc 9 G (Sc 10 G (Sc 11 G (Sc 1 G (Sc 2 G (Sc 3 G (Sc 4 G (Sc 5 G (Sc 6 G Sn))))))))))) fun m3 y3 z3 q3 => bND<|bND<|nxD<|rgM<|adI G G (inI (by omega) (by omega)) G<|mv G G<|nlD<|lunD<|wkW [(6, _), (41, _), (42, _), (43, .int .i64 4)] (Gs G)<|lu1D<|sqD<|rgM<|ru 1 G<|nlD<|nxD<|sqD<|cdFD G<|exD<|tED<|tED<|bED<|nxD<|sqD<|rgM<|rl 2 [1] G G<|nlD<|nxD<|rtD<|mtQD 2 G<|frRQD<|mtQD 10 G<|mtQD 8 G<|mtQD 6 G<|mtQD 3 G<|fR1D () [m3, m2, m1, m0] [_, _, _, _, _, _, _, _, _, _, _, _] G G trivial G (by rw [eD]; exact (SubD.cons 0 rfl SubD.nil))
theorem reports_c (v : TScene) (v_0 v_1 v_2 v_3 v_4 : Value) (n : Int) (h_v : v.wf) (h_n : InI n) (hw : ∀ s ∈ v.fStates, ∀ a ∈ s.fAccounts, a.wf) : Fnc Pg 13 [.agg (cScene v v_0 v_1 v_2 v_3 v_4).toArray, .int .i64 n] [] [⟨v_0, v.fChart.fPlaces⟩, ⟨v_1, v.fChart.fMarks⟩, ⟨v_2, v.fStates⟩, ⟨v_3, v.fRights⟩, ⟨v_4, v.fAges⟩] (fun (_ : Unit) _ => True) (fun _ _ => []) (fun _ u => [⟨u, reportsL v n⟩]) := by
 refine Fnc.proof Tryz.func13 G 44 G G fun X w => ?_
 obtain ⟨h_n1, h_n2⟩ := id h_n
 refine gtC (q := ∀ x ∈ v.fRights, x.wf) (fun S w h => list_wf (s := sRight) (h _ (List.mem_of_getElem? (i := 3) G))) fun hwR => qg<|bx G G G fun b2 => ru 1 G<|nl<|nx<|sq<|qg<|mv G G<|cfv (shards_c _ h_n) ok_44 G Sn G<|ru 2 G<|jz 13 4 [1,2] G G (fun h13 K17 => gY G G G<|ldM 0 (cScene v v_0 v_1 v_2 v_3 v_4) G G (Rg G) G G<|gY G G G<|cfv (dright_c _ _ _ _ _ _ h_v) ok_17 G (Si [0,1,2,3,4] G) G<|ru 2 G<|K17 G Sr)<|nl<|nx<|cdB G (fun h17 => ?_) (fun h17 => ?_)
 ·
  have q0 : (!okGroup n || !right22 v) = true := by rw [← scene_eq hw]; exact h17
  have eD : reportsL v n = [] := by rw [reportsL, if_pos q0]
  exact emC (α := TCommand)<|sa 1 G<|rt<|tR<|dpQ<|fR1 () G G trivial G (by rw [eD]; exact (SubD.cons 0 rfl SubD.nil))
 ·
  have q0 : ¬ (!okGroup n || !right22 v) = true := by rw [← scene_eq hw, Bool.not_eq_true]; exact h17
  have q := q0
  simp only [Bool.or_eq_true, not_or, Bool.not_eq_true', Bool.not_eq_false, okGroup, Bool.and_eq_true, decide_eq_true_eq] at q
  have hc := scene_has q.2
  have hl := hc.len
  have hg := q.1
  obtain ⟨S, hS0⟩ : ∃ S, stAt v n = S := ⟨_, rfl⟩
  refine rawNC (s := sState) 2 (n - 1).toNat G (by omega) ?_
  rw [show v.fStates.getD (n - 1).toNat default = S from hS0]
  rintro ys ⟨s_0, s_1, s_2, s_3, s_4, s_5⟩ hy_s h_S
  have eD : reportsL v n = (repL v n S.fAccounts S.fAccounts.length) := by rw [reportsL, if_neg q0, hS0]
  have hS : Ss S := hS0 ▸ (hc.st (n - 1).toNat (by omega)).1
  have l12 := hS.accs
  refine sk<|nx<|sa 1 G<|sq<|qg<|ldM 0 (cScene v v_0 v_1 v_2 v_3 v_4) G G (Rg G) G G<|mv G G<|cfv (state_r v v_0 v_1 v_2 v_3 v_4 n S s_0 s_1 s_2 s_3 s_4 s_5 ys h_v (by omega) (by omega) hy_s) ok_45 G (Si [0,1,2,3,4,5,6] G) G<|fd G fdv_55_6 G G<|lnP 1 G G Tryz.underlying50 G fun l22 => mv G G<|nl<|nx<|bk<|rwC TCommand 37<|lpE (σ := Nat × Value) [(1, _), (2, _), (21, _), (22, _)] _ (fun s C => (23, .int .i64 (s.1 : Int)) :: (5, s.2) :: C) (fun s => [row 37 s.2 (repL v n S.fAccounts s.1), bl b2 32 (cScene v v_0 v_1 v_2 v_3 v_4), fz X w]) (fun _ Dc => Dc) (fun s => s.1 ≤ S.fAccounts.length) (fun s => S.fAccounts.length - s.1) (0, _) (Gs G) (Sc 1 G (Sc 7 G (Sc 8 G (Sc 9 G (Sc 10 G (Sc 11 G Sn)))))) (Nat.zero_le _) (Gs G) G (Sc 1 G (Sc 7 G (Sc 8 G (Sc 9 G (Sc 10 G (Sc 11 G Sn)))))) ?_
  rintro ⟨i, rv⟩ hi
  simp only at hi
  show WC _ _ _ [(23, .int .i64 ((i : Int))), (5, _), (1, _), (2, _), (21, _), (22, _)] [row 37 rv (repL v n S.fAccounts i), bl b2 32 (cScene v v_0 v_1 v_2 v_3 v_4), fz X w] _
  refine sa 1 G<|sq<|cdP G (fun h24 => ?_) (fun h24 => ?_)
  ·
   refine sk<|nx<|sq<|bk<|qg<|ixP 0 G G G slt_50 (by omega) (gE (by omega)) G fun v25 => ldS 0 G G (Rg G) G fun q26 w26 => ?_
   refine al zero_70 G fun b7 => oc 1 G fun o_q26 => stW 0 (us := (cAccount ((S.fAccounts.getD i default)) q26)) G G G (Rg G) (by simp only [List.all_cons, List.all_nil, Bool.and_true, o_q26]; rfl) G<|nl<|nx<|sq<|gtC (q := ∀ x ∈ (S.fAccounts.getD i default).fHolders, x.wf) (fun S w h => list_wf (s := sHolder) (h _ (List.mem_of_getElem? (i := 1) G))) fun hwH => rg<|rl 3 [2] G G<|ldM 0 (cAccount ((S.fAccounts.getD i default)) q26) G G (Rg G) G G<|rl 2 [2] G G<|cfv (report_c _ _ n _ _ v.fNode w26 h_n h_v.1) ok_46 G (Si [7,1] G) G<|ru 3 G<|al zero_37 G fun b8 => stW 0 (us := (cCommand ((repC v.fRights n (S.fAccounts.getD i default) v.fNode)) nS)) G G G (Rg G) G G<|ru 1 G<|nl<|nx<|qg<|mv G G<|nl<|nx<|cdB G (fun h37 => ?_) (fun h37 => ?_)
   ·
    refine rg<|mv G G<|ldM 0 (cCommand ((repC v.fRights n (S.fAccounts.getD i default) v.fNode)) nS) G G (Rg G) G G<|bsM G app_45 G G G G fun b40 => ?_
    refine frS1 (α := TCommand) (repC v.fRights n (S.fAccounts.getD i default) v.fNode) (fun S w h => ⟨nS, G, fun t ht => by
      simp only [List.mem_cons, List.not_mem_nil, or_false] at ht
      subst ht
      ·
       rw [repC_img]; exact nil_list S w, (repC_wf h_v.1 w26 hwR hwH)⟩) ?_
    refine ap 2 0 G G G G app_45 (by have := repL_len v n S.fAccounts i; simp only [List.length_cons, List.length_nil]; omega) (by have := repL_len v n S.fAccounts i; simp only [List.length_cons, List.length_nil]; omega) G fun v41 => ru 1 G<|nl<|bN<|nx<|rg<|adI G G (inI (by omega) (by omega)) G<|mv G G<|nl<|dpQ<|dpQ ?_
    rw [show (repL v n S.fAccounts i) ++ [repC v.fRights n (S.fAccounts.getD i default) v.fNode] = repL v n S.fAccounts (i + 1) from by rw [repL, repF, if_pos (by simpa using h37)]]
    exact ag ((i + 1, v41) : Nat × Value) (by show i + 1 ≤ S.fAccounts.length; omega) (by show S.fAccounts.length - (i + 1) < S.fAccounts.length - i; omega) (Gs G) G (Si [4,5,6,7,8,9] G)
   ·
    refine sk<|bN<|nx<|rg<|adI G G (inI (by omega) (by omega)) G<|mv G G<|nl<|dpQ<|dpQ ?_
    rw [show (repL v n S.fAccounts i) = repL v n S.fAccounts (i + 1) from by rw [repL, repF, if_neg (by simpa using h37), List.append_nil]]
    exact ag ((i + 1, rv) : Nat × Value) (by show i + 1 ≤ S.fAccounts.length; omega) (by show S.fAccounts.length - (i + 1) < S.fAccounts.length - i; omega) (Gs G) G (Si [3,4,5,6,7,8] G)
  ·
   obtain rfl : i = S.fAccounts.length := by omega
   exact ex<|tE<|tE<|bE<|nx<|sa 2 G<|rt<|frRQ<|dpQ<|fR1 () G G trivial G (by rw [eD]; exact (SubD.cons 0 rfl SubD.nil))
end Go.Proofs.YtmpoffijcfaalaaGreat
namespace Go.Proofs.YtmpoffijcfaalaaGreat
open Go.Eng
theorem ok_12 : FnOk Pg 12 := ⟨⟨_, Tryz.func12, by kernel_rfl, rfl⟩⟩
theorem ok_14 : FnOk Pg 14 := ⟨⟨_, Tryz.func14, by kernel_rfl, rfl⟩⟩
theorem ok_16 : FnOk Pg 16 := ⟨⟨_, Tryz.func16, by kernel_rfl, rfl⟩⟩
theorem ok_19 : FnOk Pg 19 := ⟨⟨_, Tryz.func19, by kernel_rfl, rfl⟩⟩
theorem ok_20 : FnOk Pg 20 := ⟨⟨_, Tryz.func20, by kernel_rfl, rfl⟩⟩
theorem ok_21 : FnOk Pg 21 := ⟨⟨_, Tryz.func21, by kernel_rfl, rfl⟩⟩
theorem ok_22 : FnOk Pg 22 := ⟨⟨_, Tryz.func22, by kernel_rfl, rfl⟩⟩
theorem ok_23 : FnOk Pg 23 := ⟨⟨_, Tryz.func23, by kernel_rfl, rfl⟩⟩
end Go.Proofs.YtmpoffijcfaalaaGreat
namespace Go.YtmpoffijcfaalaaGreat
open Go.Eng
end Go.YtmpoffijcfaalaaGreat
namespace Go.Proofs.YtmpoffijcfaalaaGreat
open Go.Eng Go.YtmpoffijcfaalaaGreat
theorem dutyPlays_c (v : TScene) (v_0 v_1 v_2 v_3 v_4 : Value) (n : Int) (h_v : v.wf) (h_n : InI n) (hw : ∀ s ∈ v.fStates, ∀ a ∈ s.fAccounts, a.wf) (hbk : BkV v) : FnV Pg 4 [.agg (cScene v v_0 v_1 v_2 v_3 v_4).toArray, .int .i64 n] [⟨v_0, v.fChart.fPlaces⟩, ⟨v_1, v.fChart.fMarks⟩, ⟨v_2, v.fStates⟩, ⟨v_3, v.fRights⟩, ⟨v_4, v.fAges⟩] (.bool true) := by
 refine Fnc.proof Tryz.func4 G 91 G G fun X w => ?_
 obtain ⟨h_n1, h_n2⟩ := id h_n
 have hi2 := hbk.img2
 refine gtC (q := v.fStates.length ≤ 9223372036854775807) (fun S w h => list_len (h _ (List.mem_of_getElem? (i := 2) G))) fun hlst => qg<|bx G G G fun b2 => ru 1 G<|nl<|nx<|qg<|ldM 0 (cScene v v_0 v_1 v_2 v_3 v_4) G G (Rg G) G G<|cf (copyScene_c v v_0 v_1 v_2 v_3 v_4 h_v hbk) ok_12 G (Si [0,1,2,3,4] G) G fun ⟨k_0, k_1, k_2, k_3, k_4⟩ v12 h12 => ?_
 subst h12
 refine al zero_32 G fun b5 => oc 0 G fun o_k_0 => oc 1 G fun o_k_1 => oc 2 G fun o_k_2 => oc 3 G fun o_k_3 => oc 4 G fun o_k_4 => stW 0 (us := (cScene v k_0 k_1 k_2 k_3 k_4)) G G G (Rg G) (by simp only [List.all_cons, List.all_nil, Bool.and_true, o_k_0, o_k_1, o_k_2, o_k_3, o_k_4]; rfl) G<|nl<|nx<|sq<|rgZ [(0,.ld 0),(3,.ld 1)] [(2,⟨none,fun u => [⟨u, reportsL v n⟩],false⟩),(5,⟨none,fun u => [⟨u, reportsL v n⟩],false⟩),(6,⟨none,fun u => [⟨u, reportsL v n⟩],false⟩),(7,⟨none,fun u => [⟨u, reportsL v n⟩],false⟩)] [] [] [] (fun _ => G) (fun _ => by kernel_rfl) ⟨fun V De _=>aP1 (cf (reports_c v k_0 k_1 k_2 k_3 k_4 n h_v h_n hw) ok_13 G (Si [0,1,2,3,4] G) G fun y15 v15 h15 => nl (odH G G G trivial (Sc 0 G Sn) (SubD.tail Sr))),fun V De _=>aP1 (cf (reports22_c v v_0 v_1 v_2 v_3 v_4 n h_v h_n) ok_14 G (Si [5,6,7,8,9] G) G fun y18 v18 h18 => nl (odH G G G trivial (Sc 0 G Sn) (SubD.tail Sr))),fun V De _=>aP1 (asg G G<|nl (odH G G G trivial (Sc 0 G Sn) (SubD.tail Sr))),fun V De _=>aP1 (asg G G<|nl (odH G G G trivial (Sc 0 G Sn) (SubD.tail Sr))),trivial⟩ fun V _ => nx<|sq<|rgZ [(0,.ld 0),(3,.ld 1)] [(2,⟨none,fun u => [⟨u, dutiesL v n⟩],false⟩),(5,⟨none,fun u => [⟨u, dutiesL v n⟩],false⟩),(6,⟨none,fun u => [⟨u, dutiesL v n⟩],false⟩),(7,⟨none,fun u => [⟨u, dutiesL v n⟩],false⟩)] [] [] [] (fun _ => G) (fun _ => by kernel_rfl) ⟨fun V De _=>aP1 (cf (duties_c v k_0 k_1 k_2 k_3 k_4 n h_v h_n hw hbk) ok_15 G (Si [4,5,6,7,8] G) G fun y21 v21 h21 => nl (odH G G G trivial (Sc 0 G Sn) (SubD.tail Sr))),fun V De _=>aP1 (cf (duties22_c v v_0 v_1 v_2 v_3 v_4 n h_v h_n hi2) ok_16 G (Si [9,10,11,12,13] G) G fun y24 v24 h24 => nl (odH G G G trivial (Sc 0 G Sn) (SubD.tail Sr))),fun V De _=>aP1 (asg G G<|nl (odH G G G trivial (Sc 0 G Sn) (SubD.tail Sr))),fun V De _=>aP1 (asg G G<|nl (odH G G G trivial (Sc 0 G Sn) (SubD.tail Sr))),trivial⟩ fun V _ => nx<|sq<|sq<|rgQ mixed (by kernel_rfl)<|cfq (awake_c ) ok_10 G Sn G<|ru 2 G<|jz 27 6 [2,5,6,7,8,9] G G (fun h27 K33 => gY G G G<|ldM 0 (cScene v k_0 k_1 k_2 k_3 k_4) G G (Rg G) G G<|gY G G G<|cfq (dright_c _ _ _ _ _ _ h_v) ok_17 G (Si [8,9,10,11,12] G) G<|gY G G G<|ldM 1 (cScene v v_0 v_1 v_2 v_3 v_4) G G (Rg G) G G<|gY G G G<|cfq (right22_c _ _ _ _ _ _ h_v) ok_18 G (Si [13,14,15,16,17] G) G<|gY G G G<|neBo Tryz.underlying4 G G G<|ru 1 G<|K33 G Sr)<|mv G G<|jz 34 5 [2,5,8,9] G G (fun h34 K39 => ru 2 G<|gY G G G<|cfq (commands_c _ _ _ _) ok_19 G (Si [6,7] G) G<|ru 2 G<|K39 G Sr)<|mv G G<|jz 40 5 [2,5] G G (fun h40 K45 => ru 2 G<|gY G G G<|cfq (commands_c _ _ _ _) ok_19 G (Si [2,3] G) G<|ru 2 G<|K45 G Sr)<|nlQ<|nx<|cdB G (fun h45 => ?_) (fun h45 => ?_)
 · exact absurd h45 (by rw [awake_true, scene_eq hw, all_self sameCmd_self, all_self sameCmd_self]; simp) --#done
 ·
  refine sk<|nx<|sq<|sa 1 G<|bk<|lpC (σ := Nat) [(2, _), (5, _)] _ (fun i C => (10, .int .i64 (i : Int)) :: C) (fun i => i ≤ v.fStates.length) (fun i => v.fStates.length - i) 0 (Gs G) (Sc 8 G (Sc 9 G (Sc 10 G (Sc 11 G (Sc 12 G (Sc 13 G (Sc 14 G (Sc 15 G (Sc 16 G (Sc 17 G Sn)))))))))) (Nat.zero_le _) (Gs G) ?_
  intro i hi
  refine sq<|qg<|rl 3 [1] G G<|lnP 7 G G Tryz.underlying28 G fun l49 => ru 2 G ?_
  refine jy 51 6 [2,5,10] G G (fun h51 K57 => by
   have p51 := of_decide_eq_true h51
   exact rl 3 [0] G G<|gY G G G<|lnP 2 G G Tryz.underlying28 G fun l55 => ru 2 G<|K57 G Sr) ?_
  refine nl<|nx<|cdB G (fun h57 => ?_) (fun h57 => ?_)
  ·
   have hil : i < v.fStates.length := by
    have hh := h57
    simp only [Bool.and_eq_true, decide_eq_true_eq] at hh
    omega
   refine sk<|nx<|sq<|bk<|sq<|rawNC (s := sState) 7 i G (by omega) ?_
   rintro ysb ⟨b_0, b_1, b_2, b_3, b_4, b_5⟩ hyb h_Tb
   refine rawNC (s := sState) 9 i G (by omega) ?_
   rintro ysa ⟨a_0, a_1, a_2, a_3, a_4, a_5⟩ hya h_Ta
   refine rgQ mixed (by kernel_rfl)<|rl 3 [0] G G<|ixP 0 G G G slt_28 (by omega) hya G fun v63 => ldRaw (s := sState) (ov := (v.fStates.getD i default)) (hh := ⟨a_0, a_1, a_2, a_3, a_4, a_5⟩) 0 G G (Rg G) G fun w64 => rl 3 [1] G G<|ixP 8 G G G slt_28 (by omega) hyb G fun v68 => ldRaw (s := sState) (ov := (v.fStates.getD i default)) (hh := ⟨b_0, b_1, b_2, b_3, b_4, b_5⟩) 0 G G (Rg G) G fun w69 => cfq (sameState_c _ _ _ _ _ _ _ _ _ _ _ _ _ _ h_Ta h_Tb) ok_20 G (Si [3,4,5,6,7,8,10,11,12,13,14,15] G) G<|nt G G<|nlQ<|nx<|cdB G (fun h71 => ?_) (fun h71 => ?_)
   · exact absurd h71 (by rw [sameState_self]; decide) --#done
   ·
    refine sk<|bN<|nx<|rg<|mv G G<|adI G G (inI (by omega) (by omega)) G<|ru 1 G<|nl ?_
    exact ag (i + 1) (by omega) (by omega) (Gs G) G (Si [16,17,18,19,20,21,22,23,24,25] G)
  · exact ex<|tE<|tE<|bE<|nx<|qg<|ru 1 G<|ldM 0 (cChart v.fChart k_0 k_1) G G (Rg G) G G<|ru 1 G<|ldM 1 (cChart v.fChart v_0 v_1) G G (Rg G) G G<|cfv (sameChart_c _ _ _ _ _ _ h_v.2.2.1 h_v.2.2.1) ok_21 G (Si [0,1,5,6] G) G<|mv G G<|jy 77 6 [2,5] G G (fun h77 K83 => rl 4 [0,1] G G<|gY G G G<|cfv (plainRight_c _ _ _ _) ok_22 G (Si [3,8] G) G<|ru 1 G<|K83 G Sr)<|mv G G<|jy 84 6 [] G G (fun h84 K90 => rl 4 [0,1] G G<|gY G G G<|cfv (plainAge_c _ _ _ _) ok_23 G (Si [4,9] G) G<|ru 1 G<|K90 G Sr)<|ru 1 G<|nl<|nx<|rt<|dpQ<|dpQ<|fR1 () G G (by simp [sameChart_self]) G Sn
end Go.Proofs.YtmpoffijcfaalaaGreat
