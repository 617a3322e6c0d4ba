/- Part 15 of dutyPlays_holds. -/
import Derived.Test.YtmpoffijcfaalaaGreatPl14

set_option maxRecDepth 20000
set_option maxHeartbeats 1000000
namespace Go.Proofs.YtmpoffijcfaalaaGreat
open Go.Eng
theorem fld_55_0 : FieldAt Tryz.prog 55 0 0 := FieldAt.mk Tryz.underlying55 rfl (by kernel_rfl) rfl
theorem fld_55_1 : FieldAt Tryz.prog 55 1 1 := FieldAt.mk Tryz.underlying55 rfl (by kernel_rfl) rfl
theorem fld_55_10 : FieldAt Tryz.prog 55 10 10 := FieldAt.mk Tryz.underlying55 rfl (by kernel_rfl) rfl
theorem fld_55_12 : FieldAt Tryz.prog 55 12 18 := FieldAt.mk Tryz.underlying55 rfl (by kernel_rfl) rfl
theorem fld_55_13 : FieldAt Tryz.prog 55 13 25 := FieldAt.mk Tryz.underlying55 rfl (by kernel_rfl) rfl
theorem fld_55_14 : FieldAt Tryz.prog 55 14 26 := FieldAt.mk Tryz.underlying55 rfl (by kernel_rfl) rfl
theorem fld_55_15 : FieldAt Tryz.prog 55 15 27 := FieldAt.mk Tryz.underlying55 rfl (by kernel_rfl) rfl
theorem fld_55_16 : FieldAt Tryz.prog 55 16 28 := FieldAt.mk Tryz.underlying55 rfl (by kernel_rfl) rfl
theorem fld_55_7 : FieldAt Tryz.prog 55 7 7 := FieldAt.mk Tryz.underlying55 rfl (by kernel_rfl) rfl
theorem fld_55_9 : FieldAt Tryz.prog 55 9 9 := FieldAt.mk Tryz.underlying55 rfl (by kernel_rfl) rfl
theorem ok_122 : FnOk Pg 122 := ⟨⟨_, Tryz.func122, by kernel_rfl, rfl⟩⟩
theorem ok_159 : FnOk Pg 159 := ⟨⟨_, Tryz.func159, by kernel_rfl, rfl⟩⟩
theorem ok_179 : FnOk Pg 179 := ⟨⟨_, Tryz.func179, by kernel_rfl, rfl⟩⟩
theorem ok_180 : FnOk Pg 180 := ⟨⟨_, Tryz.func180, by kernel_rfl, rfl⟩⟩
theorem ok_181 : FnOk Pg 181 := ⟨⟨_, Tryz.func181, by kernel_rfl, rfl⟩⟩
theorem ok_183 : FnOk Pg 183 := ⟨⟨_, Tryz.func183, by kernel_rfl, rfl⟩⟩
theorem ok_184 : FnOk Pg 184 := ⟨⟨_, Tryz.func184, by kernel_rfl, rfl⟩⟩
theorem ok_185 : FnOk Pg 185 := ⟨⟨_, Tryz.func185, by kernel_rfl, rfl⟩⟩
theorem ok_186 : FnOk Pg 186 := ⟨⟨_, Tryz.func186, by kernel_rfl, rfl⟩⟩
theorem ok_57 : FnOk Pg 57 := ⟨⟨_, Tryz.func57, by kernel_rfl, rfl⟩⟩
theorem ok_58 : FnOk Pg 58 := ⟨⟨_, Tryz.func58, by kernel_rfl, rfl⟩⟩
theorem ok_59 : FnOk Pg 59 := ⟨⟨_, Tryz.func59, by kernel_rfl, rfl⟩⟩
theorem one_35 : OneTy Tryz.prog 35 := ⟨⟨_, Tryz.underlying35, rfl⟩, by kernel_rfl⟩
theorem one_52 : OneTy Tryz.prog 52 := ⟨⟨_, Tryz.underlying52, rfl⟩, by kernel_rfl⟩
theorem one_53 : OneTy Tryz.prog 53 := ⟨⟨_, Tryz.underlying53, rfl⟩, by kernel_rfl⟩
theorem row_108 : RowTy Tryz.prog 108 11 := ⟨⟨_, Tryz.underlying108, rfl⟩, by kernel_rfl⟩
theorem slt_28 : SliceTy Tryz.prog 28 55 29 := ⟨Tryz.underlying28, by kernel_rfl⟩
theorem slt_51 : SliceTy Tryz.prog 51 108 11 := ⟨Tryz.underlying51, by kernel_rfl⟩
theorem zero_108 : ZeroOf Tryz.prog 108 [.int .i64 0, .int .i64 0, .int .i64 0, .int .i64 0, .int .i64 0, .int .i64 0, .string ByteArray.empty, .string ByteArray.empty, .int .i64 0, .int .i64 0, .int .i64 0] := ZeroOf.mk (by kernel_rfl)
theorem zero_55 : ZeroOf Tryz.prog 55 [.int .i64 0, .int .i64 0, .bool false, .string ByteArray.empty, .string ByteArray.empty, .int .i64 0, .slice none 0 0, .slice none 0 0, .slice none 0 0, .slice none 0 0, .slice none 0 0, .int .i64 0, .int .i64 0, .int .i64 0, .string ByteArray.empty, .string ByteArray.empty, .int .i64 0, .int .i64 0, .int .i64 0, .int .i64 0, .int .i64 0, .string ByteArray.empty, .string ByteArray.empty, .int .i64 0, .int .i64 0, .slice none 0 0, .int .i64 0, .int .i64 0, .int .i64 0] := ZeroOf.mk (by kernel_rfl)
end Go.Proofs.YtmpoffijcfaalaaGreat
namespace Go.Proofs.YtmpoffijcfaalaaGreat
open Go.Eng Go.YtmpoffijcfaalaaGreat
theorem sright_c (s : TState) (s_0 s_1 s_2 s_3 s_4 s_5 : Value) (h_s : s.wf) : FnV Pg 122 [.agg (cState s s_0 s_1 s_2 s_3 s_4 s_5).toArray] [⟨s_0, s.fAccounts⟩, ⟨s_1, s.fMarks⟩, ⟨s_2, s.fWaits⟩, ⟨s_3, s.fDeals⟩, ⟨s_4, s.fEnds⟩, ⟨s_5, s.fImage⟩] (.bool (srightP s)) := by
 refine Fnc.proof Tryz.func122 G 133 G G fun X w => qg<|bx G G G fun b1 => ru 1 G<|nl<|nx<|sq<|qg<|rl 2 [0] G G<|cfv (sgroup_c _ h_s.1) ok_169 G Sn G<|ru 2 G ?_
 refine jz 11 14 [1] G G (fun h11 K25 => by
  exact rl 7 [0,0,0] G G<|rl 3 [0,0] G G<|gY G G G<|bs1 (xs := [.tmp 13, .tmp 15, .tmp 17, .tmp 19, .tmp 21]) (us := [.int .i64 s.fIndex, .int .i64 s.fEpoch, .int .i64 s.fAbsorbed, .int .i64 s.fRefused, .int .i64 s.fUndone]) (E := 3) (bytes := 8) (n := 5) G (by exact app_220) G G G G G G fun b22 => frS (α := Int) [s.fIndex, s.fEpoch, s.fAbsorbed, s.fRefused, s.fUndone] [[.int .i64 s.fIndex], [.int .i64 s.fEpoch], [.int .i64 s.fAbsorbed], [.int .i64 s.fRefused], [.int .i64 s.fUndone]] G (fun S w h => ⟨⟨G, h_s.2.1⟩, ⟨G, h_s.2.2.2.2.2.1⟩, ⟨G, h_s.2.2.2.2.2.2.2.2.2.2.2.2.2.2.1⟩, ⟨G, h_s.2.2.2.2.2.2.2.2.2.2.2.2.2.2.2.1⟩, ⟨G, h_s.2.2.2.2.2.2.2.2.2.2.2.2.2.2.2.2⟩, trivial⟩) (Nat.le_of_ble_eq_true G)<|gY G G G<|cfv (counts_c _ _) ok_179 G (Sc 0 G Sn) G<|ru 2 G<|K25 G (SubD.tail Sr)) ?_
 refine mv G G<|jz 26 4 [1] G G (fun h26 K30 => gY G G G<|ldM 0 (cState s s_0 s_1 s_2 s_3 s_4 s_5) G G (Rg G) G G<|gY G G G<|cfv (owned_c _ _ _ _ _ _ _ h_s) ok_180 G (Si [0,1,2,3,4,5] G) G<|ru 2 G<|K30 G Sr)<|mv G G<|jz 31 4 [1] G G (fun h31 K35 => gY G G G<|ldM 0 (cState s s_0 s_1 s_2 s_3 s_4 s_5) G G (Rg G) G G<|gY G G G<|cfv (saccs_c _ _ _ _ _ _ _ h_s) ok_181 G (Si [0,1,2,3,4,5] G) G<|ru 2 G<|K35 G Sr)<|nl<|nx<|cdB G (fun h35 => ?_) (fun h35 => ?_)
 ·
  have e35 : (sright1 s) = true := h35
  exact sa 1 G<|rt<|tR<|dpQ<|fR1 () G G (by rw [srightP, if_pos e35]) G Sn
 ·
  have e35 : (sright1 s) = false := h35
  refine sk<|nx<|sq<|qg<|rl 2 [0] G G<|cfv (scheck_c _ _) ok_182 G (Sc 1 G Sn) G<|ru 2 G ?_
  refine jz 40 5 [1] G G (fun h40 K45 => by
   have p40 := h40
   simp only [Bool.not_eq_false', decide_eq_true_eq] at p40
   exact rl 2 [0] G G<|gY G G G<|cfv (deals_c _ _) ok_183 G (Sc 3 G Sn) G<|ru 2 G<|K45 G Sr) ?_
  refine mv G G<|jz 46 5 [1] G G (fun h46 K51 => rl 2 [0] G G<|gY G G G<|cfv (dends_c _ _) ok_184 G (Sc 4 G Sn) G<|ru 2 G<|K51 G Sr)<|mv G G<|jz 52 5 [1] G G (fun h52 K57 => rl 2 [0] G G<|gY G G G<|lnP 2 G G Tryz.underlying51 G fun l55 => ru 2 G<|K57 G Sr)<|nl<|nx<|cdB G (fun h57 => ?_) (fun h57 => ?_)
  ·
   have e57 : (sright2 s) = true := h57
   exact sa 1 G<|rt<|tR<|dpQ<|fR1 () G G (by rw [srightP, if_neg (by rw [e35]; decide), if_pos e57]) G Sn
  ·
   have e57 : (sright2 s) = false := h57
   refine sk<|nx<|sq<|qg<|rl 2 [0] G G<|lnP 2 G G Tryz.underlying51 G fun l60 => mv G G<|nl<|nx<|bk<|lpC (σ := Nat) [(1, _), (59, _), (60, _)] _ (fun i C => (61, .int .i64 (i : Int)) :: C) (fun i => i ≤ s.fWaits.length ∧ (∀ j, j < i → waitP s (s.fWaits.getD j default) = true)) (fun i => s.fWaits.length - i) 0 (Gs G) (Sc 0 G (Sc 1 G (Sc 2 G (Sc 3 G (Sc 4 G (Sc 5 G Sn)))))) ⟨Nat.zero_le _, fun j hj => absurd hj (Nat.not_lt_zero j)⟩ (Gs G) ?_
   rintro i ⟨hi, hall⟩
   refine sa 1 G<|sq<|cdP G (fun h62 => ?_) (fun h62 => ?_)
   ·
    refine sk<|nx<|sq<|bk<|qg<|ixP 2 G G G slt_51 (by omega) (gE (by omega)) G fun v63 => ldS 0 G G (Rg G) G fun q64 w64 => al zero_108 G fun b4 => stW 0 (us := (cWait ((s.fWaits.getD i default)))) G G G (Rg G) G G<|nl<|nx<|qg<|ldM 1 (cState s s_0 s_1 s_2 s_3 s_4 s_5) G G (Rg G) G G<|ldM 0 (cWait ((s.fWaits.getD i default))) G G (Rg G) G G<|cfv (waiting_c _ _ _ _ _ _ _ _ h_s w64) ok_185 G (Si [2,3,4,5,6,7] G) G<|nt G G<|nl<|nx<|cdB G (fun h68 => ?_) (fun h68 => ?_)
    · exact sa 1 G<|rt<|bR<|tR<|tR<|bR<|tR<|dpQ<|dpQ<|fR1 () G G (by rw [srightP, if_neg (by rw [e35]; decide), if_neg (by rw [e57]; decide), if_neg (by rw [srightW, allI_false i (by omega) (by simpa using h68)]; decide)]) G Sn
    ·
     refine sk<|bN<|nx<|rg<|adI G G (inI (by omega) (by omega)) G<|mv G G<|nl<|dpQ ?_
     exact ag (i + 1) ⟨(by omega), (all_snoc hall (by simpa using h68))⟩ (by omega) (Gs G) G (Si [2,3,4,5,6,7] G)
   ·
    have eW : srightW s = true := allI_true (fun j hj => hall j (by omega))
    refine ex<|tE<|tE<|bE<|nx<|sq<|qg<|ru 1 G<|ldM 0 (cPlan s.fSeal) G G (Rg G) G G<|bd (ps := []) (cs := (cPlan (pZ))) (by rfl) (by kernel_rfl) G<|neT eq_Plan (s.fSeal) (pZ) G G G<|mv G G ?_
    refine jy 74 29 [1] G G (fun h74 K103 => by
     have p74 := h74
     simp only [Bool.not_eq_true', decide_eq_false_iff_not] at p74
     refine ru 1 G<|gY G G G<|ldM 0 (cPlan s.fSeal) G G (Rg G) G G<|gY G G G<|cfv (planned_c _ h_s.2.2.2.2.2.2.2.2.2.2.2.1) ok_186 G Sn G<|ru 2 G ?_
     refine jz 79 7 [1,74] G G (fun h79 K86 => by
      exact rl 7 [0,0] G G<|K86 G Sr) ?_
     refine ru 1 G ?_
     refine jz 87 7 [1,74] G G (fun h87 K94 => by
      exact rl 7 [0,0] G G<|K94 G Sr) ?_
     refine ru 1 G ?_
     refine jz 95 7 [1,74] G G (fun h95 K102 => by
      exact gY G G G<|ldM 0 (cState s s_0 s_1 s_2 s_3 s_4 s_5) G G (Rg G) G G<|rl 3 [0] G G<|gY G G G<|cfv (owns_c _ _ _ _ _ _ _ _ h_s) ok_78 G (Si [0,1,2,3,4,5] G) G<|ru 2 G<|K102 G Sr) ?_
     exact ru 1 G<|K103 G Sr) ?_
    refine nl<|nx<|cdB G (fun h103 => ?_) (fun h103 => ?_)
    ·
     have e103 : (sright3 s) = true := h103
     exact sa 1 G<|rt<|tR<|dpQ<|fR1 () G G (by rw [srightP, if_neg (by rw [e35]; decide), if_neg (by rw [e57]; decide), if_pos eW, e103]; first | (rw [e107]; try rfl) | (try rfl)) G Sn
    ·
     have e103 : (sright3 s) = false := h103
     refine sk<|nx<|sq<|qg<|ru 1 G<|ldM 0 (cPlan s.fOut) G G (Rg G) G G<|bd (ps := []) (cs := (cPlan (pZ))) (by rfl) (by kernel_rfl) G<|eqT eq_Plan (s.fOut) (pZ) G G G<|nl<|nx<|cdP G (fun h107 => ?_) (fun h107 => ?_)
     ·
      have e107 : (decide (s.fOut = ⟨0, 0, 0, ByteArray.empty, ByteArray.empty, 0, 0⟩)) = true := (decide_eq_true h107)
      exact qg<|rl 2 [0] G G<|lnP 5 G G Tryz.underlying35 G fun l110 => ru 2 G<|nl<|nx<|rt<|tR<|dpQ<|fR1 () G G (by rw [srightP, if_neg (by rw [e35]; decide), if_neg (by rw [e57]; decide), if_pos eW, e103]; first | (rw [e107]; try rfl) | (try rfl)) G Sn
     ·
      have e107 : (decide (s.fOut = ⟨0, 0, 0, ByteArray.empty, ByteArray.empty, 0, 0⟩)) = false := (decide_eq_false h107)
      refine sk<|nx<|qg<|rl 2 [0] G G<|cf (rs_c _ _) ok_159 G (Sc 5 G Sn) G fun y115 v115 h115 => ?_
      obtain ⟨y115_0, y115_1, y115_2, y115_3, y115_4, y115_5⟩ := y115
      replace h115 : v115 = .tuple #[.agg (cState (rdState _).1 y115_0 y115_1 y115_2 y115_3 y115_4 y115_5).toArray, .int .i64 (rdState _).2] := h115
      subst h115
      exact ru 3 G<|al zero_55 G fun b5 => oc 0 G fun o_y115_0 => oc 1 G fun o_y115_1 => oc 2 G fun o_y115_2 => oc 3 G fun o_y115_3 => oc 4 G fun o_y115_4 => oc 5 G fun o_y115_5 => stW 0 (us := (cState ((rdState s.fImage).1) y115_0 y115_1 y115_2 y115_3 y115_4 y115_5)) G G G (Rg G) (by simp only [List.all_cons, List.all_nil, Bool.and_true, o_y115_0, o_y115_1, o_y115_2, o_y115_3, o_y115_4, o_y115_5]; rfl) G<|ru 1 G<|nl<|nx<|qg<|ru 1 G<|ldM 1 (cPlan s.fOut) G G (Rg G) G G<|cfv (planned_c _ h_s.2.2.2.2.2.2.2.2.2.2.2.2.1) ok_186 G Sn G<|mv G G<|ja 121 7 [1,1] [6] G G G<|mv G G<|ja 129 3 [] [] G G G<|ru 1 G<|nl<|nx<|rt<|dpQ<|dpQ<|fR1 () G G (by rw [srightP, if_neg (by rw [e35]; decide), if_neg (by rw [e57]; decide), if_pos eW, e103]; first | (rw [e107]; try rfl) | (try rfl)) G Sn
theorem shcheck_c (s : TState) (s_0 s_1 s_2 s_3 s_4 s_5 : Value) (h_s : s.wf) : FnV Pg 57 [.agg (cState s s_0 s_1 s_2 s_3 s_4 s_5).toArray] [⟨s_0, s.fAccounts⟩, ⟨s_1, s.fMarks⟩, ⟨s_2, s.fWaits⟩, ⟨s_3, s.fDeals⟩, ⟨s_4, s.fEnds⟩, ⟨s_5, s.fImage⟩] (.int .i64 (errF (srightP s))) := by
 refine Fnc.proof Tryz.func57 G 6 G G fun X w => qg<|bx G G G fun b1 => ru 1 G<|nl<|nx<|sq<|qg<|ldM 0 (cState s s_0 s_1 s_2 s_3 s_4 s_5) G G (Rg G) G G<|cfv (sright_c _ _ _ _ _ _ _ h_s) ok_122 G (Si [0,1,2,3,4,5] G) G<|nt G G<|nl<|nx<|cdB G (fun h5 => ?_) (fun h5 => ?_)
 · exact sa 1 G<|rt<|tR<|dpQ<|fR1 () G G (by rw [errF, if_neg (by have q := h5; rw [Bool.not_eq_true'] at q; rw [q]; decide)]) G Sn
 · exact sk<|nx<|sa 1 G<|rt<|dpQ<|fR1 () G G (by rw [errF, if_pos (by have q := h5; rw [Bool.not_eq_false'] at q; exact q)]) G Sn
theorem dright_c (v : TScene) (v_0 v_1 v_2 v_3 v_4 : Value) (h_v : v.wf) : FnV Pg 17 [.agg (cScene v v_0 v_1 v_2 v_3 v_4).toArray] [⟨v_0, v.fChart.fPlaces⟩, ⟨v_1, v.fChart.fMarks⟩, ⟨v_2, v.fStates⟩, ⟨v_3, v.fRights⟩, ⟨v_4, v.fAges⟩] (.bool (drightP v)) := by
 refine Fnc.proof Tryz.func17 G 65 G G fun X w => qg<|bx G G G fun b1 => ru 1 G<|nl<|nx<|sq<|qg<|rl 4 [0] G G<|ja 8 4 [0] [1] G G G<|mv G G<|ja 13 4 [0] [1] G G G<|mv G G<|jb 18 4 [0] [1] G G G<|mv G G<|jb 23 6 [0,0] [1] G G G<|mv G G<|jz 30 5 [1] G G (fun h30 K35 => rl 2 [0] G G<|gY G G G<|lnP 2 G G Tryz.underlying28 G fun l33 => ru 2 G<|K35 G Sr)<|nl<|nx<|cdB G (fun h35 => ?_) (fun h35 => ?_)
 ·
  have e35 : (dright1 v) = true := h35
  exact sa 1 G<|rt<|tR<|dpQ<|fR1 () G G (by rw [drightP, if_pos e35]) G Sn
 ·
  have e35 : (dright1 v) = false := h35
  refine sk<|nx<|sq<|qg<|rl 2 [0] G G<|lnP 2 G G Tryz.underlying28 G fun l38 => mv G G<|nl<|nx<|bk<|lpC (σ := Nat) [(1, _), (37, _), (38, _)] _ (fun i C => (39, .int .i64 (i : Int)) :: C) (fun i => i ≤ v.fStates.length ∧ (∀ j, j < i → (!drightj v j) = true)) (fun i => v.fStates.length - i) 0 (Gs G) (Sc 0 G (Sc 1 G (Sc 2 G (Sc 3 G (Sc 4 G Sn))))) ⟨Nat.zero_le _, fun j hj => absurd hj (Nat.not_lt_zero j)⟩ (Gs G) ?_
  rintro i ⟨hi, hall⟩
  refine sa 1 G<|sq<|cdP G (fun h40 => ?_) (fun h40 => ?_)
  ·
   refine sk<|nx<|sq<|bk<|qg<|mv G G<|ixP 2 G G G slt_28 (by omega) (gE (by omega)) G fun v42 => ldS 0 G G (Rg G) G fun q43 w43 => ?_
   obtain ⟨q43_0, q43_1, q43_2, q43_3, q43_4, q43_5⟩ := q43
   refine al zero_55 G fun b4 => ru 1 G<|oc 1 G fun o_q43_0 => oc 2 G fun o_q43_1 => oc 3 G fun o_q43_2 => oc 4 G fun o_q43_3 => oc 5 G fun o_q43_4 => oc 6 G fun o_q43_5 => stW 0 (us := (cState ((v.fStates.getD i default)) q43_0 q43_1 q43_2 q43_3 q43_4 q43_5)) G G G (Rg G) (by simp only [List.all_cons, List.all_nil, Bool.and_true, o_q43_0, o_q43_1, o_q43_2, o_q43_3, o_q43_4, o_q43_5]; rfl) G<|nl<|nx<|qg<|ru 1 G<|rl 2 [0] G G<|adI G G (inI (by omega) (by omega)) G<|ru 2 G ?_
   refine jz 49 4 [1,37,38,39] G G (fun h49 K53 => by
    have p49 := h49
    simp only [Bool.not_eq_false', decide_eq_true_eq] at p49
    exact gY G G G<|ldM 0 (cState ((v.fStates.getD i default)) q43_0 q43_1 q43_2 q43_3 q43_4 q43_5) G G (Rg G) G G<|gY G G G<|cfv (shcheck_c _ _ _ _ _ _ _ w43) ok_57 G (Si [1,2,3,4,5,6] G) G<|ru 2 G<|K53 G Sr) ?_
   refine nl<|nx<|cdB G (fun h53 => ?_) (fun h53 => ?_)
   · exact sa 1 G<|rt<|bR<|tR<|tR<|bR<|tR<|dpQ<|dpQ<|fR1 () G G (by rw [drightP, if_neg (by rw [e35]; decide), if_neg (by rw [allI_false i (by omega) (not_t h53)]; decide)]) G Sn
   ·
    refine sk<|bN<|nx<|rg<|adI G G (inI (by omega) (by omega)) G<|mv G G<|nl<|dpQ ?_
    exact ag (i + 1) ⟨(by omega), (all_snoc hall (not_f h53))⟩ (by omega) (Gs G) G (Si [8,9,10,11,12] G)
  ·
   refine ex<|tE<|tE<|bE<|nx<|qg<|ru 1 G<|ldM 0 (cChart v.fChart v_0 v_1) G G (Rg G) G G<|cfv (pcheck_c _ _ _ h_v.2.2.1) ok_58 G (Si [0,1] G) G<|ru 2 G ?_
   refine jy 59 5 [] G G (fun h59 K64 => by
    have p59 := of_decide_eq_true h59
    exact rl 2 [0] G G<|gY G G G<|cfv (lcheck_c _ _) ok_59 G (Sc 3 G Sn) G<|ru 2 G<|K64 G Sr) ?_
   exact ru 1 G<|nl<|nx<|rt<|dpQ<|fR1 () G G (by rw [drightP, if_neg (by rw [e35]; decide), if_pos (allI_true (fun j hj => hall j (by omega)))]) G Sn
end Go.Proofs.YtmpoffijcfaalaaGreat
namespace Go.Proofs.YtmpoffijcfaalaaGreat
open Go.Eng
theorem ok_211 : FnOk Pg 211 := ⟨⟨_, Tryz.func211, by kernel_rfl, rfl⟩⟩
theorem ok_229 : FnOk Pg 229 := ⟨⟨_, Tryz.func229, by kernel_rfl, rfl⟩⟩
theorem one_209 : OneTy Tryz.prog 209 := ⟨⟨_, Tryz.underlying209, rfl⟩, by kernel_rfl⟩
theorem zero_211 : ZeroOf Tryz.prog 211 [.int .i64 0, .int .u64 0] := ZeroOf.mk (by kernel_rfl)
end Go.Proofs.YtmpoffijcfaalaaGreat
namespace Go.Proofs.YtmpoffijcfaalaaGreat
open Go.Eng Go.YtmpoffijcfaalaaGreat
theorem plus_c (S : Int) (n : Int) (hS : BW S) (h_n : InI n) : FnV Pg 211 [.agg (cWide (wide S)).toArray, .int .i64 n] [] (.agg (cWide (wide (S + n))).toArray) := by
 refine Fnc.proof Tryz.func211 G 28 G G fun X w => ?_
 obtain ⟨h_n1, h_n2⟩ := id h_n
 obtain ⟨hS1, hS2⟩ := id hS
 refine qg<|bx G G G fun b2 => al zero_211 G fun b4 => nl<|nx<|qg<|rl 3 [1] G G<|cv Tryz.underlying3 Tryz.underlying209 G (wrapu _) G ?_
 have hx13 := fun w => add64_ok (P := Tryz.prog) (S % 18446744073709551616) (n % 18446744073709551616) 0 (by omega) (by omega) (by omega) (by omega) w
 refine cx ext_222 hx13 G G<|ru 5 G<|nl<|nx<|qg<|rl 3 [1] G G<|cv Tryz.underlying209 Tryz.underlying2 G (wrap_i64_in (inI (by omega) (by omega))) G<|adI G G (show InI (S / 18446744073709551616 + ((S % 18446744073709551616 + n % 18446744073709551616 + 0) / 18446744073709551616)) from inI (by omega) (by omega)) G<|ru 1 G<|nl<|nx<|sq<|sa 2 G<|cdP G (fun h22 => ?_) (fun h22 => ?_)
 · exact rg<|mv G G<|sbI G G (show InI (S / 18446744073709551616 + ((S % 18446744073709551616 + n % 18446744073709551616 + 0) / 18446744073709551616) - 1) from inI (by omega) (by omega)) G<|ru 1 G<|nl<|nx<|qg<|ru 2 G<|bd (ps := [(0, .tmp 25), (1, .tmp 26)]) (cs := (cWide ((⟨(S / 18446744073709551616 + ((S % 18446744073709551616 + n % 18446744073709551616 + 0) / 18446744073709551616) - 1), ((S % 18446744073709551616 + n % 18446744073709551616 + 0) % 18446744073709551616)⟩ : TWide)))) (by rfl) (by kernel_rfl) G<|stW 0 (us := (cWide ((⟨(S / 18446744073709551616 + ((S % 18446744073709551616 + n % 18446744073709551616 + 0) / 18446744073709551616) - 1), ((S % 18446744073709551616 + n % 18446744073709551616 + 0) % 18446744073709551616)⟩ : TWide)))) G G G (Rg G) G G<|nl<|nx<|rt<|fRG () [_, _] (rC 0 G G G (Rg G)) (by exact wide_eq (wideN h22 h_n)) G Sn
 · exact sk<|nx<|qg<|ru 2 G<|bd (ps := [(0, .tmp 25), (1, .tmp 26)]) (cs := (cWide ((⟨(S / 18446744073709551616 + ((S % 18446744073709551616 + n % 18446744073709551616 + 0) / 18446744073709551616)), ((S % 18446744073709551616 + n % 18446744073709551616 + 0) % 18446744073709551616)⟩ : TWide)))) (by rfl) (by kernel_rfl) G<|stW 0 (us := (cWide ((⟨(S / 18446744073709551616 + ((S % 18446744073709551616 + n % 18446744073709551616 + 0) / 18446744073709551616)), ((S % 18446744073709551616 + n % 18446744073709551616 + 0) % 18446744073709551616)⟩ : TWide)))) G G G (Rg G) G G<|nl<|nx<|rt<|fRG () [_, _] (rC 0 G G G (Rg G)) (by exact wide_eq (wideP h22 h_n)) G Sn
theorem less_c (S : Int) (n : Int) (hS : BV S) (h_n : InI n) : FnV Pg 229 [.agg (cWide (wide S)).toArray, .int .i64 n] [] (.agg (cWide (wide (S - n))).toArray) := by
 refine Fnc.proof Tryz.func229 G 10 G G fun X w => ?_
 obtain ⟨h_n1, h_n2⟩ := id h_n
 obtain ⟨hS1, hS2⟩ := id hS
 exact qg<|bx G G G fun b2 => al zero_211 G fun b4 => nl<|nx<|qg<|ldM 1 (cWide ((wide S))) G G (Rg G) G G<|mv G G<|cpW G (cplI h_n) G<|cfv (plus_c S (-n - 1) hS.w (inI (by omega) (by omega))) ok_211 G Sn G<|cfv (plus_c (S + (-n - 1)) 1 (by unfold BW; omega) (inI (by omega) (by omega))) ok_211 G Sn G<|stW 0 (us := (cWide ((wide (S + (-n - 1) + 1))))) G G G (Rg G) G G<|nl<|nx<|rt<|fRG () [_, _] (rC 0 G G G (Rg G)) (by exact wide_eq (congrArg wide (by omega))) G Sn
theorem above_c (S : Int) (n : Int) (hS : BV S) (h_n : InI n) : FnV Pg 228 [.agg (cWide (wide S)).toArray, .int .i64 n] [] (.bool (aboveP S n)) := by
 refine Fnc.proof Tryz.func228 G 22 G G fun X w => ?_
 obtain ⟨h_n1, h_n2⟩ := id h_n
 obtain ⟨hS1, hS2⟩ := id hS
 refine qg<|bx G G G fun b2 => ru 1 G<|nl<|nx<|qg<|ldM 0 (cWide ((wide S))) G G (Rg G) G G<|mv G G<|cfv (less_c S n hS h_n) ok_229 G Sn G<|al zero_211 G fun b5 => stW 0 (us := (cWide ((wide (S - n))))) G G G (Rg G) G G<|nl<|nx<|qg<|rl 4 [0] G G ?_
 refine jz 12 9 [] G G (fun h12 K21 => by
  have p12 := of_decide_eq_false h12
  exact rl 4 [0] G G<|ja 16 4 [0] [12] G G G<|ru 1 G<|K21 G Sr) ?_
 exact ru 1 G<|nl<|nx<|rt<|dpQ<|dpQ<|fR1 () G G (by exact congrArg Value.bool (above_w hS.w h_n)) G Sn
theorem wint_c (S : Int) (hS : BW S) : FnV Pg 152 [.agg (cWide (wide S)).toArray] [] (.tuple #[.int .i64 (IntKind.i64.wrap (S % 18446744073709551616)), .bool (sumOk S)]) := by
 refine Fnc.proof Tryz.func152 G 25 G G fun X w => ?_
 obtain ⟨hS1, hS2⟩ := id hS
 refine qg<|bx G G G fun b1 => ru 2 G<|nl<|nx<|sq<|rgQ mixed (by kernel_rfl)<|rl 2 [0] G G<|cv Tryz.underlying209 Tryz.underlying3 G G G<|rl 2 [0] G G<|ru 2 G<|ja 10 4 [0] [1,6] G G G<|mv G G ?_
 refine jz 15 9 [6] G G (fun h15 K24 => by
  exact rl 4 [0] G G<|ja 19 4 [0] [6,15] G G G<|ru 1 G<|K24 G Sr) ?_
 exact ru 2 G<|nlQ<|nx<|rt<|dpQ<|fR2 () G G G (by exact congrArg (fun b => Value.tuple #[.int .i64 (IntKind.i64.wrap (S % 18446744073709551616)), .bool b]) (int_w hS)) G Sn
theorem wof_c (v_l : Value) (l : List Int) (hl : l.length ≤ 1000) : FnV Pg 210 [v_l] [⟨v_l, l⟩] (.agg (cWide (wide l.sum)).toArray) := by
 refine Fnc.proof Tryz.func210 G 19 G G fun X w => gtC (q := allIn l) (fun S w h => ints_all (h _ (List.mem_cons_self ..))) fun hA => ?_
 have hB := sum_BW hA hl
 refine qg<|al zero_211 G fun b2 => nl<|nx<|qg<|bd (ps := []) (cs := cWide (wide 0)) (by rfl) (by kernel_rfl) G<|al zero_211 G fun b3 => stW 0 (us := (cWide ((wide 0)))) G G G (Rg G) G G<|nl<|nx<|sq<|sa 1 G<|bk<|lpE (σ := Nat) [(0, _), (2, _), (3, _)] _ (fun i C => (4, .int .i64 (i : Int)) :: C) (fun i => [bl b3 211 (cWide (wide (l.take i).sum)), bl b2 211 zv7, fz X w]) (fun _ Dc => Dc) (fun i => i ≤ l.length) (fun i => l.length - i) 0 (Gs G) (Sc 0 G Sn) (Nat.zero_le _) (Gs G) G (Sc 0 G Sn) ?_
 intro i hi
 refine sq<|qg<|ru 2 G<|lnP 0 G G Tryz.underlying220 G fun l8 => ru 1 G<|nl<|nx<|cdP G (fun h9 => ?_) (fun h9 => ?_)
 ·
  have hb := hB i hi
  have hx := getD_InI hA (i := i) (by omega)
  refine sk<|nx<|sq<|bk<|rgT 6 mixed (by kernel_rfl)<|ldM 0 (cWide ((wide (l.take i).sum))) G G (Rg G) G G<|ru 2 G<|ixP 0 G G G slt_220 (by omega) (gE (by omega)) G fun v15 => ldV 0 G G (Og G) G fun w16 => cfq (plus_c (l.take i).sum (l.getD i default) (by unfold BW; omega) hx) ok_211 G Sn G<|nlT<|stW 0 (us := (cWide ((wide ((l.take i).sum + l.getD i default))))) G G G (Rg G) G G<|nl<|bN<|nx<|rg<|mv G G<|adI G G (inI (by omega) (by omega)) G<|ru 1 G<|nl ?_
  exact ag (i + 1) (by omega) (by omega) (Gs G) (by rw [sum_take (l := l) (i := i) (by omega)]; rfl) (Sc 1 G Sn)
 · exact ex<|tE<|tE<|bE<|nx<|qg<|ldM 0 (cWide ((wide (l.take i).sum))) G G (Rg G) G G<|stW 1 (us := (cWide ((wide (l.take i).sum)))) G G G (Rg G) G G<|nl<|nx<|rt<|fRG () [_, _] (rC 1 G G G (Rg G)) (by have e : i = l.length := (by omega); rw [e, List.take_length]) G Sn
end Go.Proofs.YtmpoffijcfaalaaGreat
namespace Go.Proofs.YtmpoffijcfaalaaGreat
open Go.Eng
theorem app_22 : AppTy Tryz.prog 22 90 3 32 := AppTy.mk Tryz.underlying22 (by kernel_rfl) (by decide)
theorem app_28 : AppTy Tryz.prog 28 55 29 376 := AppTy.mk Tryz.underlying28 (by kernel_rfl) (by decide)
theorem fdv_211_0 : FieldV Tryz.prog 211 0 0 := ⟨_, _, _, Tryz.underlying211, rfl, rfl, Tryz.underlying2, rfl⟩
theorem fld_34_2 : FieldAt Tryz.prog 34 2 2 := FieldAt.mk Tryz.underlying34 rfl (by kernel_rfl) rfl
theorem fld_34_4 : FieldAt Tryz.prog 34 4 4 := FieldAt.mk Tryz.underlying34 rfl (by kernel_rfl) rfl
theorem fld_34_5 : FieldAt Tryz.prog 34 5 5 := FieldAt.mk Tryz.underlying34 rfl (by kernel_rfl) rfl
theorem ok_10 : FnOk Pg 10 := ⟨⟨_, Tryz.func10, by kernel_rfl, rfl⟩⟩
theorem ok_11 : FnOk Pg 11 := ⟨⟨_, Tryz.func11, by kernel_rfl, rfl⟩⟩
theorem ok_135 : FnOk Pg 135 := ⟨⟨_, Tryz.func135, by kernel_rfl, rfl⟩⟩
theorem ok_136 : FnOk Pg 136 := ⟨⟨_, Tryz.func136, by kernel_rfl, rfl⟩⟩
theorem ok_137 : FnOk Pg 137 := ⟨⟨_, Tryz.func137, by kernel_rfl, rfl⟩⟩
theorem ok_138 : FnOk Pg 138 := ⟨⟨_, Tryz.func138, by kernel_rfl, rfl⟩⟩
theorem ok_139 : FnOk Pg 139 := ⟨⟨_, Tryz.func139, by kernel_rfl, rfl⟩⟩
theorem ok_140 : FnOk Pg 140 := ⟨⟨_, Tryz.func140, by kernel_rfl, rfl⟩⟩
theorem ok_142 : FnOk Pg 142 := ⟨⟨_, Tryz.func142, by kernel_rfl, rfl⟩⟩
theorem ok_152 : FnOk Pg 152 := ⟨⟨_, Tryz.func152, by kernel_rfl, rfl⟩⟩
theorem ok_153 : FnOk Pg 153 := ⟨⟨_, Tryz.func153, by kernel_rfl, rfl⟩⟩
theorem ok_17 : FnOk Pg 17 := ⟨⟨_, Tryz.func17, by kernel_rfl, rfl⟩⟩
theorem ok_171 : FnOk Pg 171 := ⟨⟨_, Tryz.func171, by kernel_rfl, rfl⟩⟩
theorem ok_18 : FnOk Pg 18 := ⟨⟨_, Tryz.func18, by kernel_rfl, rfl⟩⟩
theorem ok_193 : FnOk Pg 193 := ⟨⟨_, Tryz.func193, by kernel_rfl, rfl⟩⟩
theorem ok_197 : FnOk Pg 197 := ⟨⟨_, Tryz.func197, by kernel_rfl, rfl⟩⟩
theorem ok_210 : FnOk Pg 210 := ⟨⟨_, Tryz.func210, by kernel_rfl, rfl⟩⟩
theorem ok_227 : FnOk Pg 227 := ⟨⟨_, Tryz.func227, by kernel_rfl, rfl⟩⟩
theorem ok_228 : FnOk Pg 228 := ⟨⟨_, Tryz.func228, by kernel_rfl, rfl⟩⟩
theorem ok_230 : FnOk Pg 230 := ⟨⟨_, Tryz.func230, by kernel_rfl, rfl⟩⟩
theorem ok_236 : FnOk Pg 236 := ⟨⟨_, Tryz.func236, by kernel_rfl, rfl⟩⟩
theorem ok_34 : FnOk Pg 34 := ⟨⟨_, Tryz.func34, by kernel_rfl, rfl⟩⟩
theorem ok_40 : FnOk Pg 40 := ⟨⟨_, Tryz.func40, by kernel_rfl, rfl⟩⟩
theorem ok_41 : FnOk Pg 41 := ⟨⟨_, Tryz.func41, by kernel_rfl, rfl⟩⟩
theorem ok_60 : FnOk Pg 60 := ⟨⟨_, Tryz.func60, by kernel_rfl, rfl⟩⟩
theorem ok_61 : FnOk Pg 61 := ⟨⟨_, Tryz.func61, by kernel_rfl, rfl⟩⟩
theorem ok_62 : FnOk Pg 62 := ⟨⟨_, Tryz.func62, by kernel_rfl, rfl⟩⟩
theorem ok_8 : FnOk Pg 8 := ⟨⟨_, Tryz.func8, by kernel_rfl, rfl⟩⟩
theorem ok_90 : FnOk Pg 90 := ⟨⟨_, Tryz.func90, by kernel_rfl, rfl⟩⟩
theorem ok_93 : FnOk Pg 93 := ⟨⟨_, Tryz.func93, by kernel_rfl, rfl⟩⟩
theorem ok_94 : FnOk Pg 94 := ⟨⟨_, Tryz.func94, by kernel_rfl, rfl⟩⟩
theorem ok_95 : FnOk Pg 95 := ⟨⟨_, Tryz.func95, by kernel_rfl, rfl⟩⟩
theorem one_5 : OneTy Tryz.prog 5 := ⟨⟨_, Tryz.underlying5, rfl⟩, by kernel_rfl⟩
theorem slt_35 : SliceTy Tryz.prog 35 5 1 := ⟨Tryz.underlying35, by kernel_rfl⟩
theorem zero_27 : ZeroOf Tryz.prog 27 [.int .i64 0, .slice none 0 0, .int .i64 0, .int .i64 0, .int .i64 0, .int .i64 0, .int .i64 0, .string ByteArray.empty, .string ByteArray.empty, .int .i64 0, .int .i64 0, .slice none 0 0] := ZeroOf.mk (by kernel_rfl)
theorem zero_32 : ZeroOf Tryz.prog 32 [.int .i64 0, .int .i64 0, .int .i64 0, .slice none 0 0, .int .i64 0, .int .i64 0, .int .i64 0, .int .i64 0, .int .i64 0, .string ByteArray.empty, .string ByteArray.empty, .int .i64 0, .int .i64 0, .slice none 0 0, .slice none 0 0, .slice none 0 0, .slice none 0 0] := ZeroOf.mk (by kernel_rfl)
theorem zero_37 : ZeroOf Tryz.prog 37 [.int .i64 0, .int .i64 0, .int .i64 0, .int .i64 0, .int .i64 0, .int .i64 0, .string ByteArray.empty, .int .i64 0, .int .i64 0, .int .i64 0, .bool false, .int .i64 0, .string ByteArray.empty, .string ByteArray.empty, .int .i64 0, .int .i64 0, .int .i64 0, .int .i64 0, .int .i64 0, .int .i64 0, .string ByteArray.empty, .string ByteArray.empty, .int .i64 0, .int .i64 0, .slice none 0 0] := ZeroOf.mk (by kernel_rfl)
end Go.Proofs.YtmpoffijcfaalaaGreat
namespace Go.Proofs.YtmpoffijcfaalaaGreat
open Go.Eng Go.YtmpoffijcfaalaaGreat
theorem eq_Holder : EqTy Tryz.prog 165 cHolder := by
 refine ⟨by kernel_rfl, fun a b w => ?_⟩
 rw [run_equalIn_struct w 9999 165 _ _ (by simp only [Program.fieldsOf, Tryz.underlying165]) (by kernel_rfl)]
 simp only [Program.fieldsOf, Tryz.underlying165]
 refine Eq.trans (eqG G Tryz.underlying3 G G G (eqFi Tryz.underlying3 _ _) (fun w => eqG G Tryz.underlying3 G G G (eqFi Tryz.underlying3 _ _) (fun w => eqG G Tryz.underlying3 G G G (eqFi Tryz.underlying3 _ _) (fun w => eqG G Tryz.underlying3 G G G (eqFi Tryz.underlying3 _ _) (fun w => eqF0 w))))) ?_
 congr 1
 obtain ⟨a0, a1, a2, a3⟩ := a
 obtain ⟨b0, b1, b2, b3⟩ := b
 simp [THolder.mk.injEq]
theorem locked15_c (l : TLock) (h_l : l.wf) : FnV Pg 230 [.agg (cLock l).toArray] [] (.bool (keeperP l)) := by
 exact Fnc.proof Tryz.func230 G 21 G G fun X w => qg<|bx G G G fun b1 => ru 1 G<|nl<|nx<|qg<|rl 4 [0] G G<|ja 6 4 [0] [1] G G G<|mv G G<|ja 11 4 [0] [1] G G G<|mv G G<|ja 16 4 [0] [] G G G<|ru 1 G<|nl<|nx<|rt<|dpQ<|fR1 () G G (by rfl) G Sn
theorem plainHolder_c (v_x : Value) (x : List THolder) (v_y : Value) (y : List THolder) : FnV Pg 197 [v_x, v_y] [⟨v_x, x⟩, ⟨v_y, y⟩] (.bool (decide (x = y))) := by
 refine Fnc.proof Tryz.func197 G 26 G G fun X w => gtC (q := x.length ≤ 9223372036854775807) (fun S w h => list_len (h _ (List.mem_of_getElem? (i := 0) G))) fun hlx => gtC (q := y.length ≤ 9223372036854775807) (fun S w h => list_len (h _ (List.mem_of_getElem? (i := 1) G))) fun hly => sa 1 G<|sq<|qg<|mv G G<|lnP 0 G G Tryz.underlying66 G fun l7 => mv G G<|lnP 1 G G Tryz.underlying66 G fun l9 => ru 1 G<|nl<|nx<|cdN G (fun h10 => ?_) (fun h10 => ?_)
 · exact sa 1 G<|rt<|tR<|fR1 () G G (by rw [plain_len (by omega)]) G Sn
 ·
  have hl : x.length = y.length := by omega
  refine sk<|nx<|sq<|sa 1 G<|bk<|lpC (σ := Nat) [(0, _), (1, _)] _ (fun i C => (5, .int .i64 (i : Int)) :: C) (fun i => i ≤ x.length ∧ (∀ j, j < i → x.getD j default = y.getD j default)) (fun i => x.length - i) 0 (Gs G) (Sc 0 G (Sc 1 G Sn)) ⟨Nat.zero_le _, fun j hj => absurd hj (Nat.not_lt_zero j)⟩ (Gs G) ?_
  rintro i ⟨hi, hall⟩
  refine sq<|qg<|ru 2 G<|lnP 0 G G Tryz.underlying66 G fun l13 => ru 1 G<|nl<|nx<|cdP G (fun h14 => ?_) (fun h14 => ?_)
  ·
   refine sk<|nx<|sq<|bk<|sq<|rgQ mixed (by kernel_rfl)<|ru 2 G<|ixP 0 G G G slt_66 (by omega) (gE (by omega)) G fun v19 => ldS 0 G G (Rg G) G fun q20 w20 => ru 2 G<|ixP 3 G G G slt_66 (by omega) (gE (by omega)) G fun v23 => ldS 0 G G (Rg G) G fun q24 w24 => neT eq_Holder ((x.getD i default)) ((y.getD i default)) G G G<|nlQ<|nx<|cdN G (fun h25 => ?_) (fun h25 => ?_)
   · exact sa 1 G<|rt<|bR<|tR<|tR<|bR<|tR<|fR1 () G G (by rw [plain_at i (by simpa using h25)]) G Sn
   ·
    refine sk<|bN<|nx<|rg<|mv G G<|adI G G (inI (by omega) (by omega)) G<|ru 1 G<|nl ?_
    exact ag (i + 1) ⟨(by omega), (all_snoc hall (by simpa using h25))⟩ (by omega) (Gs G) G (Si [4,5] G)
  · exact ex<|tE<|tE<|bE<|nx<|sa 1 G<|rt<|fR1 () G G (by rw [plain_all hl (fun j hj => hall j (by omega))]) G Sn
theorem plainByte_c (v_x : Value) (x : List UInt8) (v_y : Value) (y : List UInt8) : FnV Pg 95 [v_x, v_y] [⟨v_x, x⟩, ⟨v_y, y⟩] (.bool (decide (x = y))) := by
 refine Fnc.proof Tryz.func95 G 26 G G fun X w => gtC (q := x.length ≤ 9223372036854775807) (fun S w h => list_len (h _ (List.mem_of_getElem? (i := 0) G))) fun hlx => gtC (q := y.length ≤ 9223372036854775807) (fun S w h => list_len (h _ (List.mem_of_getElem? (i := 1) G))) fun hly => sa 1 G<|sq<|qg<|mv G G<|lnP 0 G G Tryz.underlying35 G fun l7 => mv G G<|lnP 1 G G Tryz.underlying35 G fun l9 => ru 1 G<|nl<|nx<|cdN G (fun h10 => ?_) (fun h10 => ?_)
 · exact sa 1 G<|rt<|tR<|fR1 () G G (by rw [plain_len (by omega)]) G Sn
 ·
  have hl : x.length = y.length := by omega
  refine sk<|nx<|sq<|sa 1 G<|bk<|lpC (σ := Nat) [(0, _), (1, _)] _ (fun i C => (5, .int .i64 (i : Int)) :: C) (fun i => i ≤ x.length ∧ (∀ j, j < i → x.getD j default = y.getD j default)) (fun i => x.length - i) 0 (Gs G) (Sc 0 G (Sc 1 G Sn)) ⟨Nat.zero_le _, fun j hj => absurd hj (Nat.not_lt_zero j)⟩ (Gs G) ?_
  rintro i ⟨hi, hall⟩
  refine sq<|qg<|ru 2 G<|lnP 0 G G Tryz.underlying35 G fun l13 => ru 1 G<|nl<|nx<|cdP G (fun h14 => ?_) (fun h14 => ?_)
  ·
   refine sk<|nx<|sq<|bk<|sq<|rgQ mixed (by kernel_rfl)<|ru 2 G<|ixP 0 G G G slt_35 (by omega) (gE (by omega)) G fun v19 => ldV 0 G G (Og G) G fun w20 => ru 2 G<|ixP 2 G G G slt_35 (by omega) (gE (by omega)) G fun v23 => ldV 0 G G (Og G) G fun w24 => ru 1 G<|nlQ<|nx<|cdN G (fun h25 => ?_) (fun h25 => ?_)
   · exact sa 1 G<|rt<|bR<|tR<|tR<|bR<|tR<|fR1 () G G (by rw [plain_at i (fun e => h25 (by simp only [Int.toNat_natCast, e]))]) G Sn
   ·
    refine sk<|bN<|nx<|rg<|mv G G<|adI G G (inI (by omega) (by omega)) G<|ru 1 G<|nl ?_
    exact ag (i + 1) ⟨(by omega), (all_snoc hall (UInt8.toNat_inj.1 (by have q := h25; simp only [Int.toNat_natCast] at q; omega)))⟩ (by omega) (Gs G) G (Si [2,3] G)
  · exact ex<|tE<|tE<|bE<|nx<|sa 1 G<|rt<|fR1 () G G (by rw [plain_all hl (fun j hj => hall j (by omega))]) G Sn
theorem sameBytes_c (v_x : Value) (x : List UInt8) (v_y : Value) (y : List UInt8) : FnV Pg 41 [v_x, v_y] [⟨v_x, x⟩, ⟨v_y, y⟩] (.bool (decide (x = y))) := by
 exact Fnc.proof Tryz.func41 G 8 G G fun X w => sa 1 G<|qg<|ru 2 G<|cfv (plainByte_c _ _ _ _) ok_95 G (Si [0,1] G) G<|ru 1 G<|nl<|nx<|rt<|fR1 () G G (by rfl) G Sn
theorem sameAcc_c (x : TAccount) (x_0 : Value) (y : TAccount) (y_0 : Value) (h_x : x.wf) (h_y : y.wf) : FnV Pg 142 [.agg (cAccount x x_0).toArray, .agg (cAccount y y_0).toArray] [⟨x_0, x.fHolders⟩, ⟨y_0, y.fHolders⟩] (.bool (sameAcc x y)) := by
 refine Fnc.proof Tryz.func142 G 45 G G fun X w => qg<|bx G G G fun b2 => bx G G G fun b3 => ru 1 G<|nl<|nx<|qg<|rl 4 [1,0] G G<|ru 2 G ?_
 refine jy 10 6 [2,3] G G (fun h10 K16 => by
  have p10 := of_decide_eq_true h10
  exact ru 1 G<|gY G G G<|ldM 1 (cSpan x.fSpan) G G (Rg G) G G<|ru 1 G<|gY G G G<|ldM 0 (cSpan y.fSpan) G G (Rg G) G G<|gY G G G<|eqT eq_Span (x.fSpan) (y.fSpan) G G G<|ru 1 G<|K16 G Sr) ?_
 exact mv G G<|ja 17 6 [1,0] [2,3] G G G<|mv G G<|ja 24 6 [1,0] [2,3] G G G<|mv G G<|jy 31 6 [2,3] G G (fun h31 K37 => rl 4 [1,0] G G<|gY G G G<|cfv (plainHolder_c _ _ _ _) ok_197 G (Si [0,1] G) G<|ru 1 G<|K37 G Sr)<|mv G G<|jy 38 6 [] G G (fun h38 K44 => ru 1 G<|gY G G G<|ldM 1 (cLock x.fLock) G G (Rg G) G G<|ru 1 G<|gY G G G<|ldM 0 (cLock y.fLock) G G (Rg G) G G<|gY G G G<|eqT eq_Lock (x.fLock) (y.fLock) G G G<|ru 1 G<|K44 G Sr)<|ru 1 G<|nl<|nx<|rt<|dpQ<|dpQ<|fR1 () G G (by rfl) G Sn
theorem new15_c (k : ByteArray) : FnV Pg 236 [.string k] [] (.tuple #[.agg (cAccount (new15 k) nS).toArray, .int .i64 (newE k)]) := by
 refine Fnc.proof Tryz.func236 G 10 G G fun X w => qg<|al zero_70 G fun b2 => ru 1 G<|nl<|nx<|sq<|qg<|mv G G<|cfv (key15_c _) ok_168 G Sn G<|nt G G<|nl<|nx<|cdB G (fun h6 => ?_) (fun h6 => ?_)
 · exact qg<|bd (ps := []) (cs := (cAccount ((⟨ByteArray.empty, (⟨0, 0⟩ : TSpan), 0, 0, [], (⟨0, 0, 0, 0⟩ : TLock)⟩ : TAccount)) nS)) (by rfl) (by kernel_rfl) G<|stW 0 (us := (cAccount ((⟨ByteArray.empty, (⟨0, 0⟩ : TSpan), 0, 0, [], (⟨0, 0, 0, 0⟩ : TLock)⟩ : TAccount)) nS)) G G G (Rg G) G G<|ru 1 G<|nl<|nx<|rt<|tR<|fRG () [_] (rCT 0 G G G G (Rg G)) (by have q : okKey k = false := (by simpa using h6); rw [new15, newE, q]; rfl) G Sn
 · exact sk<|nx<|qg<|mv G G<|bd (ps := [(0, .tmp 8)]) (cs := (cAccount ((⟨k, (⟨0, 0⟩ : TSpan), 0, 0, [], (⟨0, 0, 0, 0⟩ : TLock)⟩ : TAccount)) nS)) (by rfl) (by kernel_rfl) G<|stW 0 (us := (cAccount ((⟨k, (⟨0, 0⟩ : TSpan), 0, 0, [], (⟨0, 0, 0, 0⟩ : TLock)⟩ : TAccount)) nS)) G G G (Rg G) G G<|ru 1 G<|nl<|nx<|rt<|fRG () [_] (rCT 0 G G G G (Rg G)) (by have q : okKey k = true := (by simpa using h6); rw [new15, newE, q]; rfl) G Sn
theorem plain15_c (a : TAccount) (a_0 : Value) (h_a : a.wf) : FnV Pg 193 [.agg (cAccount a a_0).toArray] [⟨a_0, a.fHolders⟩] (.bool (plain15 a)) := by
 refine Fnc.proof Tryz.func193 G 18 G G fun X w => qg<|bx G G G fun b1 => ru 1 G<|nl<|nx<|qg<|rl 2 [0] G G<|cfv (new15_c _) ok_236 G Sn G<|ru 2 G<|ru 1 G<|al zero_70 G fun b3 => stW 0 (us := (cAccount ((new15 a.fKey)) nS)) G G G (Rg G) G G<|ru 1 G<|nl<|nx<|qg<|ru 3 G ?_
 refine jy 13 4 [] G G (fun h13 K17 => by
  have p13 := of_decide_eq_true h13
  exact gY G G G<|ldM 1 (cAccount a a_0) G G (Rg G) G G<|gY G G G<|ldM 0 (cAccount ((new15 a.fKey)) nS) G G (Rg G) G G<|gY G G G<|emL (α := THolder)<|cfv (sameAcc_c _ _ _ _ h_a (new15_wf _)) ok_142 G (Si [1,0] G) G<|ru 1 G<|K17 G (SubD.tail Sr)) ?_
 exact ru 1 G<|nl<|nx<|rt<|dpQ<|dpQ<|fR1 () G G (by rfl) G Sn
theorem wof1 (v : Value) (n : Int) : FnV Pg 210 [v] [⟨v, [n]⟩] (.agg (cWide (wide n)).toArray) := by
 have := wof_c v [n] (by simp)
 rwa [show [n].sum = n by simp] at this
theorem wof2 (v : Value) (m n : Int) : FnV Pg 210 [v] [⟨v, [m, n]⟩] (.agg (cWide (wide (m + n))).toArray) := by
 have := wof_c v [m, n] (by simp)
 rwa [show [m, n].sum = m + n by simp] at this
theorem ends15_c (a : TAccount) (a_0 : Value) (h_a : a.wf) (hh : holdersP a.fHolders = true) : FnV Pg 227 [.agg (cAccount a a_0).toArray] [⟨a_0, a.fHolders⟩] (.tuple #[.agg (cWide (wide (downsS a))).toArray, .agg (cWide (wide (upsS a))).toArray]) := by
 refine Fnc.proof Tryz.func227 G 40 G G fun X w => gtC (q := ∀ x ∈ a.fHolders, x.wf) (fun S w h => list_wf (s := sHolder) (h _ (List.mem_of_getElem? (i := 0) G))) fun hW => ?_
 have hl5 := hold_len hh
 refine qg<|bx G G G fun b1 => al zero_211 G fun b2 => al zero_211 G fun b3 => nl<|nx<|sq<|rgZ (L := [bl b3 211 zv7, bl b2 211 zv7, bl b1 70 (cAccount a a_0), fz X w]) [] [(1,⟨some (.int .i64 a.fBase),fun _ => [],false⟩),(2,⟨none,fun u => [⟨u, [a.fBase]⟩],false⟩),(3,⟨some (.agg (cWide ((wide (a.fBase)))).toArray),fun _ => [],false⟩),(4,⟨some (.pointer (some ⟨b1, 3, none⟩)),fun _ => [],false⟩),(5,⟨some (.int .i64 a.fBase),fun _ => [],false⟩),(6,⟨none,fun u => [⟨u, [a.fBase]⟩],false⟩),(7,⟨some (.agg (cWide ((wide (a.fBase)))).toArray),fun _ => [],false⟩),(8,⟨none,fun _ => [],true⟩),(9,⟨none,fun _ => [],true⟩),(10,⟨none,fun _ => [],true⟩),(11,⟨none,fun _ => [],true⟩)] [(8,fun u => u = .pointer (some ⟨ptrB u, 0, none⟩)),(9,fun u => u = .pointer (some ⟨ptrB u, 0, none⟩))] [[],[8],[9],[8,9],[9,8],[8,9,10],[9,8,10],[8,9,10,11],[9,8,10,11]] [(8,fun L zz => inE 4 (bl (ptrB (zz 8)) 211 zv7) L),(9,fun L zz => (bl (ptrB (zz 9)) 211 zv7) :: L),(10,fun L zz => rpE 4 (bl (ptrB (zz 8)) 211 (cWide ((wide (a.fBase))))) L),(11,fun L zz => rpE 5 (bl (ptrB (zz 9)) 211 (cWide ((wide (a.fBase))))) L)] (fun _ => G) (fun _ => by kernel_rfl) ?_ fun V hV => ?_
 ·
  refine ⟨fun V De _=>aP5 (ldB 2 G G (Og G) G G<|oh G G G G) (ldB 3 G G (Og G) G G<|oh G G G G) (ldB 3 G G (Og G) G G<|oh G G G G) (ldB 4 G G (Og G) G G<|oh G G G G) (ldB 4 G G (Og G) G G<|oh G G G G),fun V De _=>(by (repeat (refine aC ?_ ?_; exact bs1 (xs := [.tmp 8]) (us := [.int .i64 a.fBase]) (E := 3) (bytes := 8) (n := 1) G (by exact app_220) G G G G G G fun b9 => frS (α := Int) [a.fBase] [[.int .i64 (a.fBase)]] G (fun S w h => ⟨⟨G, h_a.2.2.1⟩, trivial⟩) (Nat.le_of_ble_eq_true G)<|nl (odH G G G trivial (Sc 0 G Sn) (SubD.tail Sr)))); trivial),fun V De _=>(by (repeat (refine aC ?_ ?_; exact cfv (wof1 _ a.fBase) ok_210 G (Sc 0 G Sn) G<|nl (odH G G G G Sn (SubD.tail Sr)))); trivial),?_⟩
  refine ⟨fun V De _=>?_,?_⟩
  ·
   repeat
    refine aC ?_ ?_
    · exact ru 1 G<|oh G G G G
   trivial
  refine ⟨fun V De _=>aP7 ?_ ?_ ?_ ?_ ?_ ?_ ?_,?_⟩
  · exact rl 1 [2] G G<|oh G G G G
  · exact rl 1 [3] G G<|oh G G G G
  · exact rl 1 [3] G G<|oh G G G G
  · exact rl 1 [4] G G<|oh G G G G
  · exact rl 1 [4] G G<|oh G G G G
  · exact rl 1 [4] G G<|oh G G G G
  · exact rl 1 [4] G G<|oh G G G G
  refine ⟨fun V De _=>?_,?_⟩
  ·
   repeat
    refine aC ?_ ?_
    · exact bs1 (xs := [.tmp 12]) (us := [.int .i64 a.fBase]) (E := 3) (bytes := 8) (n := 1) G (by exact app_220) G G G G G G fun b13 => frS (α := Int) [a.fBase] [[.int .i64 (a.fBase)]] G (fun S w h => ⟨⟨G, h_a.2.2.1⟩, trivial⟩) (Nat.le_of_ble_eq_true G)<|nl (odH G G G trivial (Sc 0 G Sn) (SubD.tail Sr))
   trivial
  refine ⟨fun V De _=>(by (repeat (refine aC ?_ ?_; exact cfv (wof1 _ a.fBase) ok_210 G (Sc 0 G Sn) G<|nl (odH G G G G Sn (SubD.tail Sr)))); trivial),fun V De _=>aP2 (al zero_211 G fun b4 => oh G G G G) (al zero_211 G fun b4 => mtL 4 G<|mtL 4 G<|mtL 4 G<|mtL 3 G<|mtL 4 G<|oh G G G G),fun V De _=>aP2 (al zero_211 G fun b5 => oh G G G G) (al zero_211 G fun b5 => oh G G G G),?_⟩
  refine ⟨fun V De hV=>?_,?_⟩
  ·
   repeat
    refine aC ?_ ?_
    · exact stW 1 (us := (cWide ((wide (a.fBase))))) (congrArg some (hV.mem 8 (mE G) G)) G G (Rg G) G G<|oh0 G G
   trivial
  refine ⟨fun V De hV=>?_,?_⟩
  ·
   repeat
    refine aC ?_ ?_
    · exact stW 0 (us := (cWide ((wide (a.fBase))))) (congrArg some (hV.mem 9 (mE G) G)) G G (Rg G) G G<|oh0 G G
   trivial
  trivial
 ·
  refine wD [2] G<|?_
  obtain ⟨b4, hb4⟩ : ∃ b, V 8 = .pointer (some ⟨b, 0, none⟩) := ⟨_, hV.mem 8 (by decide) rfl rfl⟩
  obtain ⟨b5, hb5⟩ : ∃ b, V 9 = .pointer (some ⟨b, 0, none⟩) := ⟨_, hV.mem 9 (by decide) rfl rfl⟩
  simp only [hb4, hb5, ptrB_mk]
  refine nx<|sq<|sa 1 G<|bk<|lpE (σ := Nat) [(1, _), (2, _), (3, _), (4, _), (5, _)] _ (fun i C => (6, .int .i64 (i : Int)) :: C) (fun i => [bl b5 211 (cWide (wide (accS (fun h => h.fUp) a.fBase a.fHolders i))), bl b4 211 (cWide (wide (accN (fun h => h.fDown) a.fBase a.fHolders i))), bl b3 211 zv7, bl b2 211 zv7, bl b1 70 (cAccount a a_0), fz X w]) (fun _ Dc => Dc) (fun i => i ≤ a.fHolders.length) (fun i => a.fHolders.length - i) 0 (Gs G) (Sc 0 G Sn) (Nat.zero_le _) (Gs G) G (Sc 0 G Sn) ?_
  intro i hi
  refine sq<|qg<|rl 3 [4] G G<|lnP 0 G G Tryz.underlying66 G fun l18 => ru 1 G<|nl<|nx<|cdP G (fun h19 => ?_) (fun h19 => ?_)
  ·
   have hwi := hW _ (getD_mem (l := a.fHolders) (i := i) (by omega))
   have hb1 := lim6 (i := i) (by omega) (accN_bd (l := a.fHolders) h_a.2.2.1 (fun x hx => (hW x hx).2.2.2) i hi)
   have hb2 := lim6 (i := i) (by omega) (accS_bd (l := a.fHolders) h_a.2.2.1 (fun x hx => (hW x hx).2.2.1) i hi)
   refine sk<|nx<|sq<|bk<|rgZ (L := [bl b5 211 (cWide ((wide (accS (fun h => h.fUp) a.fBase a.fHolders i)))), bl b4 211 (cWide ((wide (accN (fun h => h.fDown) a.fBase a.fHolders i)))), bl b3 211 zv7, bl b2 211 zv7, bl b1 70 (cAccount a a_0), fz X w]) [(0,.ld 1),(2,.ld 4),(7,.cv [] ⟨_,_,_,_,less_c (accN (fun h => h.fDown) a.fBase a.fHolders i) (a.fHolders.getD i default).fDown hb1 hwi.2.2.2,ok_229⟩),(8,.ld 0),(10,.ld 4),(15,.cv [] ⟨_,_,_,_,plus_c (accS (fun h => h.fUp) a.fBase a.fHolders i) (a.fHolders.getD i default).fUp hb2.w hwi.2.2.1,ok_211⟩)] [(4,⟨none,fun u => [⟨u, (⟨(a.fHolders.getD i default)⟩ : Pt THolder)⟩],false⟩),(5,⟨none,fun u => [⟨u, (⟨(a.fHolders.getD i default).fDown⟩ : Pt Int)⟩],false⟩),(6,⟨some (.int .i64 ((a.fHolders.getD i default).fDown)),fun _ => [],false⟩),(12,⟨none,fun u => [⟨u, (⟨(a.fHolders.getD i default)⟩ : Pt THolder)⟩],false⟩),(13,⟨none,fun u => [⟨u, (⟨(a.fHolders.getD i default).fUp⟩ : Pt Int)⟩],false⟩),(14,⟨some (.int .i64 ((a.fHolders.getD i default).fUp)),fun _ => [],false⟩),(16,⟨none,fun _ => [],true⟩),(17,⟨none,fun _ => [],true⟩)] [] [] [(16,fun L _ => rpE 4 (bl b4 211 (cWide ((wide ((accN (fun h => h.fDown) a.fBase a.fHolders i) - (a.fHolders.getD i default).fDown))))) L),(17,fun L _ => rpE 5 (bl b5 211 (cWide ((wide ((accS (fun h => h.fUp) a.fBase a.fHolders i) + (a.fHolders.getD i default).fUp))))) L)] (fun _ => G) (fun _ => by kernel_rfl) ?_ fun V _ => ?_
   ·
    refine ⟨fun V De _=>aP1 (ixP 0 G G G slt_66 (by omega) (gE (by omega)) G fun v26 => nl (odH G G G trivial (Sc 0 G Sn) (SubD.tail Sr))),fun V De _=>aP1 (faP (α := THolder) (β := Int) 0 (fun x : THolder => x.fDown) G G (Fg G) pHolder_3 G fun v27 => nl (odH G G G trivial (Sc 0 G Sn) (SubD.tail (SubD.tail Sr)))),?_⟩
    refine ⟨fun V De _=>aP1 ?_,?_⟩
    ·
     refine ldV 0 G G (Og G) G fun w28 => ?_
     exact nl (odH G G G G Sn (SubD.tail Sr))
    refine ⟨fun V De _=>(by (repeat (refine aC ?_ ?_; exact ixP 0 G G G slt_66 (by omega) (gE (by omega)) G fun v34 => nl (odH G G G trivial (Sc 0 G Sn) (SubD.tail Sr)))); trivial),fun V De _=>(by (repeat (refine aC ?_ ?_; exact faP (α := THolder) (β := Int) 0 (fun x : THolder => x.fUp) G G (Fg G) pHolder_2 G fun v35 => nl (odH G G G trivial (Sc 0 G Sn) (SubD.tail (SubD.tail Sr))))); trivial),?_⟩
    refine ⟨fun V De _=>?_,?_⟩
    ·
     repeat
      refine aC ?_ ?_
      ·
       refine ldV 0 G G (Og G) G fun w36 => ?_
       exact nl (odH G G G G Sn (SubD.tail Sr))
     trivial
    exact ⟨fun V De _=>aP1 (stW 1 (us := (cWide ((wide ((accN (fun h => h.fDown) a.fBase a.fHolders i) - (a.fHolders.getD i default).fDown))))) G G G (Rg G) G G<|oh0 G G),fun V De _=>aP1 (stW 0 (us := (cWide ((wide ((accS (fun h => h.fUp) a.fBase a.fHolders i) + (a.fHolders.getD i default).fUp))))) G G G (Rg G) G G<|oh0 G G),trivial⟩
   ·
    refine wD [4] G<|bN<|nx<|rg<|mv G G<|adI G G (inI (by omega) (by omega)) G<|ru 1 G<|nl ?_
    exact ag (i + 1) (by omega) (by omega) (Gs G) G (Sc 0 G Sn)
  · exact ex<|tE<|tE<|bE<|nx<|sq<|rgX [(0,.ld 1),(1,.ld 0),(2,.st 3),(3,.st 2)] G (by kernel_rfl)<|nx<|rt<|fRG () [_, _, _, _, _] (rCC 3 2 G G G G G (Rg G) (Rg G)) (by have e : i = a.fHolders.length := (by omega); subst e; rw [accS_ups, accN_downs]; try rfl) G Sn
theorem right15_c (a : TAccount) (a_0 : Value) (h_a : a.wf) : FnV Pg 171 [.agg (cAccount a a_0).toArray] [⟨a_0, a.fHolders⟩] (.bool (right15 a)) := by
 refine Fnc.proof Tryz.func171 G 121 G G fun X w => gtC (q := ∀ x ∈ a.fHolders, x.wf) (fun S w h => list_wf (s := sHolder) (h _ (List.mem_of_getElem? (i := 0) G))) fun hW => qg<|bx G G G fun b1 => ru 1 G<|nl<|nx<|sq<|qg<|rl 2 [0] G G<|cfv (key15_c _) ok_168 G Sn G<|ru 2 G<|jz 14 7 [1] G G (fun h14 K21 => ru 1 G<|gY G G G<|ldM 0 (cSpan a.fSpan) G G (Rg G) G G<|rl 2 [0] G G<|gY G G G<|cfv (has01_c _ _ h_a.2.1 h_a.2.2.1) ok_153 G Sn G<|ru 2 G<|K21 G Sr)<|mv G G<|jb 22 4 [0] [1] G G G<|nl<|nx<|cdB G (fun h26 => ?_) (fun h26 => ?_)
 ·
  have e26 : (r15a a) = true := h26
  exact sa 1 G<|rt<|tR<|dpQ<|fR1 () G G (by rw [right15, if_pos e26]) G Sn
 ·
  have e26 : (r15a a) = false := h26
  refine sk<|nx<|sa 1 G<|sq<|sa 1 G<|bk<|lpC (σ := Nat) [(1, _)] _ (fun i C => (4, .int .i64 (i : Int)) :: (3, .int .i64 (prevI (fun k => (a.fHolders.getD k default).fNode) i)) :: C) (fun i => i ≤ a.fHolders.length ∧ (∀ j, j < i → (!holdP (prevI (fun k => (a.fHolders.getD k default).fNode) j) (a.fHolders.getD j default)) = true)) (fun i => a.fHolders.length - i) 0 ⟨G, trivial⟩ (Sc 0 G Sn) ⟨Nat.zero_le _, fun j hj => absurd hj (Nat.not_lt_zero j)⟩ (Gs G) ?_
  rintro i ⟨hi, hall⟩
  refine sq<|qg<|rl 3 [0] G G<|lnP 0 G G Tryz.underlying66 G fun l30 => ru 1 G<|nl<|nx<|cdP G (fun h31 => ?_) (fun h31 => ?_)
  ·
   refine sk<|nx<|sq<|bk<|qg<|rl 3 [0] G G<|ixP 0 G G G slt_66 (by omega) (gE (by omega)) G fun v37 => ldS 0 G G (Rg G) G fun q38 w38 => al zero_165 G fun b5 => stW 0 (us := (cHolder ((a.fHolders.getD i default)))) G G G (Rg G) G G<|nl<|nx<|sq<|qg<|rl 5 [0] G G<|jb 43 4 [0] [1,4,5] G G G<|mv G G<|jb 48 4 [0] [1,4,5] G G G<|mv G G<|jb 53 4 [0] [1,4,5] G G G<|mv G G<|jb 58 4 [0] [1,4,5] G G G<|nl<|nx<|cdB G (fun h62 => ?_) (fun h62 => ?_)
   · exact sa 1 G<|rt<|tR<|bR<|tR<|tR<|bR<|tR<|dpQ<|dpQ<|fR1 () G G (by rw [right15, if_neg (by rw [e26]; decide), if_neg (by rw [holdersP, allI_false i (by omega) (not_t h62)]; decide)]) G Sn
   ·
    refine sk<|nx<|rb 3 [0] G G<|bN<|nx<|rg<|mv G G<|adI G G (inI (by omega) (by omega)) G<|ru 1 G<|nl<|dpQ ?_
    exact ag (i + 1) ⟨(by omega), (all_snoc hall (not_f h62))⟩ (by omega) (Gs G) G (Sc 2 G Sn)
  ·
   have hh : holdersP a.fHolders = true := allI_true (fun j hj => hall j (by omega))
   have hb1 := ups_BV h_a hW hh
   have hb2 := downs_BV h_a hW hh
   refine ex<|tE<|tE<|bE<|nx<|qg<|ldM 0 (cAccount a a_0) G G (Rg G) G G<|cfv (ends15_c a a_0 h_a hh) ok_227 G (Sc 0 G Sn) G<|ru 3 G<|al zero_211 G fun b6 => al zero_211 G fun b7 => stW 1 (us := (cWide ((wide (downsS a))))) G G G (Rg G) G G<|stW 0 (us := (cWide ((wide (upsS a))))) G G G (Rg G) G G<|nl<|nx<|sq<|qg<|ldM 0 (cWide ((wide (upsS a)))) G G (Rg G) G G<|rl 3 [2] G G<|cfv (above_c (upsS a) a.fSpan.fHi hb1 h_a.2.1.2) ok_228 G Sn G<|mv G G ?_
   refine jz 75 8 [1] G G (fun h75 K83 => by
    exact gY G G G<|ldM 1 (cWide ((wide (downsS a)))) G G (Rg G) G G<|rl 3 [2] G G<|gY G G G<|cfv (less_c (downsS a) a.fSpan.fLo hb2 h_a.2.1.1) ok_229 G Sn G<|gY G G G<|fd G fdv_211_0 G G<|ru 1 G<|ru 1 G<|K83 G Sr) ?_
   refine nl<|nx<|cdB G (fun h83 => ?_) (fun h83 => ?_)
   ·
    have e83 : (r15b a) = true := h83
    exact sa 1 G<|rt<|tR<|dpQ<|dpQ<|dpQ<|fR1 () G G (by rw [right15, if_neg (by rw [e26]; decide), if_pos hh, if_pos e83]) G Sn
   ·
    have e83 : (r15b a) = false := h83
    refine sk<|nx<|sq<|sb 4 [2] G G<|cdP G (fun h87 => ?_) (fun h87 => ?_)
    ·
     have e87 : (decide (a.fLock.fClient = 0)) = true := (decide_eq_true h87)
     exact qg<|ru 1 G<|ldM 2 (cLock a.fLock) G G (Rg G) G G<|bd (ps := []) (cs := (cLock ((⟨0, 0, 0, 0⟩ : TLock)))) (by rfl) (by kernel_rfl) G<|eqT eq_Lock (a.fLock) ((⟨0, 0, 0, 0⟩ : TLock)) G G G<|ru 1 G<|nl<|nx<|rt<|tR<|dpQ<|dpQ<|dpQ<|fR1 () G G (by rw [right15, if_neg (by rw [e26]; decide), if_pos hh, if_neg (by rw [e83]; decide), if_pos e87]; try rfl) G Sn
    ·
     have e87 : (decide (a.fLock.fClient = 0)) = false := (decide_eq_false h87)
     exact sk<|nx<|qg<|rl 5 [2,2] G G<|bs1 (xs := [.tmp 94, .tmp 97]) (us := [.int .i64 a.fBase, .int .i64 a.fLock.fN]) (E := 3) (bytes := 8) (n := 2) G (by exact app_220) G G G G G G fun b98 => frS (α := Int) [a.fBase, a.fLock.fN] [[.int .i64 (a.fBase)], [.int .i64 (a.fLock.fN)]] G (fun S w h => ⟨⟨G, h_a.2.2.1⟩, ⟨G, h_a.2.2.2.2.2.2.2.2⟩, trivial⟩) (Nat.le_of_ble_eq_true G)<|cfv (wof2 _ a.fBase a.fLock.fN) ok_210 G (Sc 0 G Sn) G<|cfv (wint_c (a.fBase + a.fLock.fN) (sum2_BW h_a)) ok_152 G Sn G<|mv G G<|ru 4 G<|nl<|nx<|qg<|ru 1 G<|ldM 2 (cLock a.fLock) G G (Rg G) G G<|cfv (locked15_c _ h_a.2.2.2.2.2) ok_230 G Sn G<|mv G G<|jy 106 5 [1,8,9] G G (fun h106 K111 => rl 2 [2] G G<|gY G G G<|lnP 1 G G Tryz.underlying66 G fun l109 => ru 2 G<|K111 G Sr)<|mv G G<|ja 112 2 [] [1,8] G G G<|mv G G<|jy 115 5 [] G G (fun h115 K120 => ru 1 G<|gY G G G<|ldM 2 (cSpan a.fSpan) G G (Rg G) G G<|ru 1 G<|gY G G G<|cfv (has01_c _ _ h_a.2.1 (wrapi_in _)) ok_153 G Sn G<|ru 1 G<|K120 G Sr)<|ru 1 G<|nl<|nx<|rt<|dpQ<|dpQ<|dpQ<|fR1 () G G (by rw [right15, if_neg (by rw [e26]; decide), if_pos hh, if_neg (by rw [e83]; decide), if_neg (by rw [e87]; decide)]; try rfl) G Sn
theorem rising19_c (v_l : Value) (l : List TAccount) : FnV Pg 135 [v_l] [⟨v_l, l⟩] (.bool (rising19 l)) := by
 refine Fnc.proof Tryz.func135 G 44 G G fun X w => gtC (q := l.length ≤ 9223372036854775807) (fun S w h => list_len (h _ (List.mem_of_getElem? (i := 0) G))) fun hlen => sa 1 G<|sq<|sa 1 G<|bk<|lpC (σ := Nat) [(0, _)] _ (fun i C => (3, .int .i64 (i : Int)) :: C) (fun i => i ≤ l.length ∧ (∀ j, j < i → (!risj l j) = true)) (fun i => l.length - i) 0 ⟨G, trivial⟩ (Sc 0 G Sn) ⟨Nat.zero_le _, fun j hj => absurd hj (Nat.not_lt_zero j)⟩ (Gs G) ?_
 rintro i ⟨hi, hall⟩
 refine sq<|qg<|ru 2 G<|lnP 0 G G Tryz.underlying50 G fun l6 => ru 1 G<|nl<|nx<|cdP G (fun h7 => ?_) (fun h7 => ?_)
 ·
  refine sk<|nx<|sq<|bk<|sq<|rgQ mixed (by kernel_rfl)<|ru 2 G<|ixP 0 G G G slt_50 (by omega) (gE (by omega)) G fun v12 => ldS 0 G G (Rg G) G fun q13 w13 => cfq (right15_c _ _ w13) ok_171 G (Sc 1 G Sn) G<|ru 2 G ?_
  refine jz 16 6 [0,3] G G (fun h16 K22 => by
   have p16 := h16
   try simp only [Bool.not_eq_false'] at p16
   exact ru 2 G<|gY G G G<|ixP 3 G G G slt_50 (by omega) (gE (by omega)) G fun v19 => gY G G G<|ldS 0 G G (Rg G) G fun q20 w20 => gY G G G<|cfq (plain15_c _ _ w20) ok_193 G (Sc 1 G Sn) G<|ru 1 G<|K22 G (SubD.tail (SubD.tail (SubD.tail Sr)))) ?_
  refine mv G G ?_
  refine jz 23 17 [0,3] G G (fun h23 K40 => by
   have p23 := h23
   try simp only [Bool.or_eq_false_iff, Bool.not_eq_false'] at p23
   refine ru 3 G ?_
   refine jy 26 13 [0,3,23] G G (fun h26 K39 => by
    have p26 := of_decide_eq_true h26
    exact ru 2 G<|gY G G G<|ixP 3 G G G slt_50 (by omega) (gE (by omega)) G fun v29 => gY G G G<|faP (α := TAccount) (β := ByteArray) 0 (fun x : TAccount => x.fKey) G G (Fg G) pAccount_0 G fun v30 => gY G G G<|ldV 0 G G (Og G) G fun w31 => ru 2 G<|gY G G G<|sbI G G (inI (by omega) (by omega)) G<|gY G G G<|ixP 5 G G G slt_50 (by omega) (gE (by omega)) G fun v35 => gY G G G<|faP (α := TAccount) (β := ByteArray) 0 (fun x : TAccount => x.fKey) G G (Fg G) pAccount_0 G fun v36 => gY G G G<|ldV 0 G G (Og G) G fun w37 => gY G G G<|leS G G G<|ru 1 G<|K39 G (SubD.tail (SubD.tail (SubD.tail (SubD.tail Sr))))) ?_
   exact ru 1 G<|K40 G Sr) ?_
  refine nlQ<|nx<|cdB G (fun h40 => ?_) (fun h40 => ?_)
  · exact sa 1 G<|rt<|bR<|tR<|tR<|bR<|tR<|fR1 () G G (by rw [rising19, if_neg (by rw [allI_false i (by omega) (not_t h40)]; decide)]) G Sn
  ·
   refine sk<|bN<|nx<|rg<|mv G G<|adI G G (inI (by omega) (by omega)) G<|ru 1 G<|nl ?_
   exact ag (i + 1) ⟨(by omega), (all_snoc hall (not_f h40))⟩ (by omega) (Gs G) G (Sc 3 G Sn)
 · exact ex<|tE<|tE<|bE<|nx<|qg<|mv G G<|lnP 0 G G Tryz.underlying50 G fun l42 => ru 2 G<|nl<|nx<|rt<|fR1 () G G (by rw [rising19, if_pos (allI_true (fun j hj => hall j (by omega)))]; try rfl) G Sn
theorem sright19_c (s : TState) (s_0 s_1 s_2 s_3 s_4 s_5 : Value) (h_s : s.wf) : FnV Pg 62 [.agg (cState s s_0 s_1 s_2 s_3 s_4 s_5).toArray] [⟨s_0, s.fAccounts⟩, ⟨s_1, s.fMarks⟩, ⟨s_2, s.fWaits⟩, ⟨s_3, s.fDeals⟩, ⟨s_4, s.fEnds⟩, ⟨s_5, s.fImage⟩] (.bool (sright19 s)) := by
 refine Fnc.proof Tryz.func62 G 210 G G fun X w => qg<|bx G G G fun b1 => ru 1 G<|nl<|nx<|sq<|qg<|rl 2 [0] G G<|cfv (group19_c _ h_s.1) ok_132 G Sn G<|ru 2 G<|jz 11 5 [1] G G (fun h11 K16 => rl 2 [0] G G<|gY G G G<|cfv (number19_c _ h_s.2.1) ok_133 G Sn G<|ru 2 G<|K16 G Sr)<|mv G G<|jz 17 5 [1] G G (fun h17 K22 => rl 2 [0] G G<|gY G G G<|cfv (number19_c _ h_s.2.2.2.2.2.1) ok_133 G Sn G<|ru 2 G<|K22 G Sr)<|mv G G<|jz 23 5 [1] G G (fun h23 K28 => rl 2 [0] G G<|gY G G G<|cfv (number19_c _ h_s.2.2.2.2.2.2.2.2.2.2.2.2.2.2.1) ok_133 G Sn G<|ru 2 G<|K28 G Sr)<|mv G G<|jz 29 5 [1] G G (fun h29 K34 => rl 2 [0] G G<|gY G G G<|cfv (number19_c _ h_s.2.2.2.2.2.2.2.2.2.2.2.2.2.2.2.1) ok_133 G Sn G<|ru 2 G<|K34 G Sr)<|mv G G<|jz 35 5 [1] G G (fun h35 K40 => rl 2 [0] G G<|gY G G G<|cfv (number19_c _ h_s.2.2.2.2.2.2.2.2.2.2.2.2.2.2.2.2) ok_133 G Sn G<|ru 2 G<|K40 G Sr)<|nl<|nx<|cdB G (fun h40 => ?_) (fun h40 => ?_)
 ·
  have e40 : (q19a s) = true := h40
  exact sa 1 G<|rt<|tR<|dpQ<|fR1 () G G (by rw [sright19, if_pos e40]) G Sn
 ·
  have e40 : (q19a s) = false := h40
  refine sk<|nx<|sq<|qg<|rl 4 [0] G G ?_
  refine jy 44 27 [1] G G (fun h44 K71 => by
   exact rl 4 [0] G G<|jb 48 4 [0] [1,44] G G G<|ru 1 G<|jz 53 5 [1,44] G G (fun h53 K58 => rl 2 [0] G G<|gY G G G<|lnP 0 G G Tryz.underlying50 G fun l56 => ru 2 G<|K58 G Sr)<|ru 1 G<|jz 59 5 [1,44] G G (fun h59 K64 => rl 2 [0] G G<|gY G G G<|lnP 2 G G Tryz.underlying51 G fun l62 => ru 2 G<|K64 G Sr)<|ru 1 G<|jz 65 5 [1,44] G G (fun h65 K70 => ru 1 G<|gY G G G<|ldM 0 (cPlan s.fSeal) G G (Rg G) G G<|gY G G G<|bd (ps := []) (cs := (cPlan (pZ))) (by rfl) (by kernel_rfl) G<|gY G G G<|neT eq_Plan (s.fSeal) (pZ) G G G<|ru 1 G<|K70 G Sr)<|ru 1 G<|K71 G Sr) ?_
  refine mv G G ?_
  refine jz 72 16 [1] G G (fun h72 K88 => by
   refine rl 3 [0] G G ?_
   refine jy 75 12 [1,72] G G (fun h75 K87 => by
    refine rl 4 [0] G G ?_
    refine jz 79 7 [1,72,75] G G (fun h79 K86 => by
     have p79 := of_decide_eq_false h79
     exact rl 4 [0,0] G G<|gY G G G<|cfv (span19_c _ _) ok_134 G Sn G<|ru 2 G<|K86 G Sr) ?_
    exact ru 1 G<|K87 G Sr) ?_
   exact ru 1 G<|K88 G Sr) ?_
  refine nl<|nx<|cdB G (fun h88 => ?_) (fun h88 => ?_)
  ·
   have e88 : (q19b s) = true := h88
   exact sa 1 G<|rt<|tR<|dpQ<|fR1 () G G (by rw [sright19, if_neg (by rw [e40]; decide), if_pos e88]) G Sn
  ·
   have e88 : (q19b s) = false := h88
   refine sk<|nx<|sq<|qg<|rl 2 [0] G G<|cfv (rising19_c _ _) ok_135 G (Sc 0 G Sn) G<|ru 2 G<|jz 93 5 [1] G G (fun h93 K98 => rl 2 [0] G G<|gY G G G<|cfv (right14_c _ _) ok_128 G (Sc 1 G Sn) G<|ru 2 G<|K98 G Sr)<|mv G G<|jz 99 5 [1] G G (fun h99 K104 => rl 2 [0] G G<|gY G G G<|cfv (right18_c _ _) ok_136 G (Sc 3 G Sn) G<|ru 2 G<|K104 G Sr)<|mv G G<|jz 105 5 [1] G G (fun h105 K110 => rl 2 [0] G G<|gY G G G<|cfv (ends18_c _ _) ok_137 G (Sc 4 G Sn) G<|ru 2 G<|K110 G Sr)<|mv G G<|jz 111 5 [1] G G (fun h111 K116 => rl 2 [0] G G<|gY G G G<|lnP 2 G G Tryz.underlying51 G fun l114 => ru 2 G<|K116 G Sr)<|nl<|nx<|cdB G (fun h116 => ?_) (fun h116 => ?_)
   ·
    have e116 : (q19c s) = true := h116
    exact sa 1 G<|rt<|tR<|dpQ<|fR1 () G G (by rw [sright19, if_neg (by rw [e40]; decide), if_neg (by rw [e88]; decide), if_pos e116]) G Sn
   ·
    have e116 : (q19c s) = false := h116
    refine sk<|nx<|sq<|sa 1 G<|bk<|lpC (σ := Nat) [(1, _)] _ (fun i C => (3, .int .i64 (i : Int)) :: C) (fun i => i ≤ s.fAccounts.length ∧ (∀ j, j < i → ownsP s (s.fAccounts.getD j default).fKey = true)) (fun i => s.fAccounts.length - i) 0 ⟨G, trivial⟩ (Sc 0 G (Sc 1 G (Sc 2 G (Sc 3 G (Sc 4 G (Sc 5 G Sn)))))) ⟨Nat.zero_le _, fun j hj => absurd hj (Nat.not_lt_zero j)⟩ (Gs G) ?_
    rintro i ⟨hi, hall⟩
    refine sq<|qg<|rl 3 [0] G G<|lnP 0 G G Tryz.underlying50 G fun l120 => ru 1 G<|nl<|nx<|cdP G (fun h121 => ?_) (fun h121 => ?_)
    ·
     refine sk<|nx<|sq<|bk<|sq<|rgQ mixed (by kernel_rfl)<|ldM 0 (cState s s_0 s_1 s_2 s_3 s_4 s_5) G G (Rg G) G G<|rl 3 [0] G G<|ixP 0 G G G slt_50 (by omega) (gE (by omega)) G fun v128 => faP (α := TAccount) (β := ByteArray) 0 (fun x : TAccount => x.fKey) G G (Fg G) pAccount_0 G fun v129 => ldV 0 G G (Og G) G fun w130 => cfq (owns19_c _ _ _ _ _ _ _ _ h_s) ok_81 G (Si [2,3,4,5,6,7] G) G<|nt G G<|nlQ<|nx<|cdB G (fun h132 => ?_) (fun h132 => ?_)
     · exact sa 1 G<|rt<|bR<|tR<|tR<|bR<|tR<|dpQ<|fR1 () G G (by rw [sright19, if_neg (by rw [e40]; decide), if_neg (by rw [e88]; decide), if_neg (by rw [e116]; decide), if_neg (by rw [accs19, allI_false i (by omega) (by simpa using h132)]; decide)]) G Sn
     ·
      refine sk<|bN<|nx<|rg<|mv G G<|adI G G (inI (by omega) (by omega)) G<|ru 1 G<|nl ?_
      exact ag (i + 1) ⟨(by omega), (all_snoc hall (by simpa using h132))⟩ (by omega) (Gs G) G (Si [2,3,4,5,6,7] G)
    ·
     have eA : accs19 s = true := allI_true (fun j hj => hall j (by omega))
     refine ex<|tE<|tE<|bE<|nx<|sq<|sa 1 G<|bk<|lpC (σ := Nat) [(1, _)] _ (fun k C => (4, .int .i64 (k : Int)) :: C) (fun k => k ≤ s.fWaits.length ∧ (∀ j, j < k → wait19 s (s.fWaits.getD j default) = true)) (fun k => s.fWaits.length - k) 0 ⟨G, trivial⟩ (Sc 0 G (Sc 1 G (Sc 2 G (Sc 3 G (Sc 4 G (Sc 5 G Sn)))))) ⟨Nat.zero_le _, fun j hj => absurd hj (Nat.not_lt_zero j)⟩ (Gs G) ?_
     rintro k ⟨hi_k, hall_k⟩
     refine sq<|qg<|rl 3 [0] G G<|lnP 2 G G Tryz.underlying51 G fun l136 => ru 1 G<|nl<|nx<|cdP G (fun h137 => ?_) (fun h137 => ?_)
     ·
      refine sk<|nx<|sq<|bk<|sq<|rgQ mixed (by kernel_rfl)<|ldM 0 (cState s s_0 s_1 s_2 s_3 s_4 s_5) G G (Rg G) G G<|rl 3 [0] G G<|ixP 2 G G G slt_51 (by omega) (gE (by omega)) G fun v144 => ldS 0 G G (Rg G) G fun q145 w145 => cfq (wait19_c _ _ _ _ _ _ _ _ h_s w145) ok_138 G (Si [2,3,4,5,6,7] G) G<|nt G G<|nlQ<|nx<|cdB G (fun h147 => ?_) (fun h147 => ?_)
      · exact sa 1 G<|rt<|bR<|tR<|tR<|bR<|tR<|dpQ<|fR1 () G G (by rw [sright19, if_neg (by rw [e40]; decide), if_neg (by rw [e88]; decide), if_neg (by rw [e116]; decide), if_pos eA, if_neg (by rw [waits19, allI_false k (by omega) (by simpa using h147)]; decide)]) G Sn
      ·
       refine sk<|bN<|nx<|rg<|mv G G<|adI G G (inI (by omega) (by omega)) G<|ru 1 G<|nl ?_
       exact ag (k + 1) ⟨(by omega), (all_snoc hall_k (by simpa using h147))⟩ (by omega) (Gs G) G (Si [2,3,4,5,6,7] G)
     ·
      have eW : waits19 s = true := allI_true (fun j hj => hall_k j (by omega))
      refine ex<|tE<|tE<|bE<|nx<|sq<|qg<|ru 1 G<|ldM 0 (cPlan s.fSeal) G G (Rg G) G G<|bd (ps := []) (cs := (cPlan (pZ))) (by rfl) (by kernel_rfl) G<|neT eq_Plan (s.fSeal) (pZ) G G G<|mv G G ?_
      refine jy 152 29 [1] G G (fun h152 K181 => by
       have p152 := h152
       simp only [Bool.not_eq_true', decide_eq_false_iff_not] at p152
       refine ru 1 G<|gY G G G<|ldM 0 (cPlan s.fSeal) G G (Rg G) G G<|gY G G G<|cfv (plan19_c _ h_s.2.2.2.2.2.2.2.2.2.2.2.1) ok_139 G Sn G<|ru 2 G ?_
       refine jz 157 7 [1,152] G G (fun h157 K164 => by
        exact rl 7 [0,0] G G<|K164 G Sr) ?_
       refine ru 1 G ?_
       refine jz 165 7 [1,152] G G (fun h165 K172 => by
        exact rl 7 [0,0] G G<|K172 G Sr) ?_
       refine ru 1 G ?_
       refine jz 173 7 [1,152] G G (fun h173 K180 => by
        exact gY G G G<|ldM 0 (cState s s_0 s_1 s_2 s_3 s_4 s_5) G G (Rg G) G G<|rl 3 [0] G G<|gY G G G<|cfv (owns19_c _ _ _ _ _ _ _ _ h_s) ok_81 G (Si [0,1,2,3,4,5] G) G<|ru 2 G<|K180 G Sr) ?_
       exact ru 1 G<|K181 G Sr) ?_
      refine nl<|nx<|cdB G (fun h181 => ?_) (fun h181 => ?_)
      ·
       have e181 : (q19d s) = true := h181
       exact sa 1 G<|rt<|tR<|dpQ<|fR1 () G G (by rw [sright19, if_neg (by rw [e40]; decide), if_neg (by rw [e88]; decide), if_neg (by rw [e116]; decide), if_pos eA, if_pos eW, if_pos e181]) G Sn
      ·
       have e181 : (q19d s) = false := h181
       refine sk<|nx<|sq<|qg<|ru 1 G<|ldM 0 (cPlan s.fOut) G G (Rg G) G G<|bd (ps := []) (cs := (cPlan (pZ))) (by rfl) (by kernel_rfl) G<|eqT eq_Plan (s.fOut) (pZ) G G G<|nl<|nx<|cdP G (fun h185 => ?_) (fun h185 => ?_)
       ·
        have e185 : (decide (s.fOut = ⟨0, 0, 0, ByteArray.empty, ByteArray.empty, 0, 0⟩)) = true := (decide_eq_true h185)
        exact qg<|rl 2 [0] G G<|lnP 5 G G Tryz.underlying35 G fun l188 => ru 2 G<|nl<|nx<|rt<|tR<|dpQ<|fR1 () G G (by rw [sright19, if_neg (by rw [e40]; decide), if_neg (by rw [e88]; decide), if_neg (by rw [e116]; decide), if_pos eA, if_pos eW, if_neg (by rw [e181]; decide), if_pos e185]; try rfl) G Sn
       ·
        have e185 : (decide (s.fOut = ⟨0, 0, 0, ByteArray.empty, ByteArray.empty, 0, 0⟩)) = false := (decide_eq_false h185)
        refine sk<|nx<|qg<|rl 2 [0] G G<|cf (image19_c _ _) ok_140 G (Sc 5 G Sn) G fun y193 v193 h193 => ?_
        obtain ⟨y193_0, y193_1, y193_2, y193_3, y193_4, y193_5⟩ := y193
        replace h193 : v193 = .tuple #[.agg (cState (rdState _).1 y193_0 y193_1 y193_2 y193_3 y193_4 y193_5).toArray, .bool (decide ((rdState _).2 = 0))] := h193
        subst h193
        refine ru 3 G<|al zero_55 G fun b5 => oc 0 G fun o_y193_0 => oc 1 G fun o_y193_1 => oc 2 G fun o_y193_2 => oc 3 G fun o_y193_3 => oc 4 G fun o_y193_4 => oc 5 G fun o_y193_5 => stW 0 (us := (cState ((rdState s.fImage).1) y193_0 y193_1 y193_2 y193_3 y193_4 y193_5)) G G G (Rg G) (by simp only [List.all_cons, List.all_nil, Bool.and_true, o_y193_0, o_y193_1, o_y193_2, o_y193_3, o_y193_4, o_y193_5]; rfl) G<|ru 1 G<|nl<|nx<|qg<|ru 2 G ?_
        refine jy 197 4 [1] G G (fun h197 K201 => by
         have p197 := of_decide_eq_true h197
         exact ru 1 G<|gY G G G<|ldM 1 (cPlan s.fOut) G G (Rg G) G G<|gY G G G<|cfv (plan19_c _ h_s.2.2.2.2.2.2.2.2.2.2.2.2.1) ok_139 G Sn G<|ru 1 G<|K201 G Sr) ?_
        exact mv G G<|ja 202 7 [1,1] [] G G G<|ru 1 G<|nl<|nx<|rt<|dpQ<|dpQ<|fR1 () G G (by rw [sright19, if_neg (by rw [e40]; decide), if_neg (by rw [e88]; decide), if_neg (by rw [e116]; decide), if_pos eA, if_pos eW, if_neg (by rw [e181]; decide), if_neg (by rw [e185]; decide)]; try rfl) G Sn
theorem right22_c (v : TScene) (v_0 v_1 v_2 v_3 v_4 : Value) (h_v : v.wf) : FnV Pg 18 [.agg (cScene v v_0 v_1 v_2 v_3 v_4).toArray] [⟨v_0, v.fChart.fPlaces⟩, ⟨v_1, v.fChart.fMarks⟩, ⟨v_2, v.fStates⟩, ⟨v_3, v.fRights⟩, ⟨v_4, v.fAges⟩] (.bool (right22 v)) := by
 refine Fnc.proof Tryz.func18 G 72 G G fun X w => gtC (q := v.fStates.length ≤ 9223372036854775807) (fun S w h => list_len (h _ (List.mem_of_getElem? (i := 2) G))) fun hlst => qg<|bx G G G fun b1 => ru 1 G<|nl<|nx<|sq<|qg<|rl 3 [0] G G<|mv G G<|ja 7 4 [0] [1] G G G<|mv G G<|ja 12 4 [0] [1] G G G<|mv G G<|jb 17 4 [0] [1] G G G<|mv G G<|jb 22 6 [0,0] [1] G G G<|mv G G<|jz 29 5 [1] G G (fun h29 K34 => ru 1 G<|gY G G G<|ldM 0 (cChart v.fChart v_0 v_1) G G (Rg G) G G<|gY G G G<|cfv (right20_c _ _ _ h_v.2.2.1) ok_60 G (Si [0,1] G) G<|ru 2 G<|K34 G Sr)<|mv G G<|jz 35 5 [1] G G (fun h35 K40 => rl 2 [0] G G<|gY G G G<|lnP 2 G G Tryz.underlying28 G fun l38 => ru 2 G<|K40 G Sr)<|mv G G ?_
 refine jz 41 5 [1] G G (fun h41 K46 => rl 2 [0] G G<|gY G G G<|cfv (right16_c _ _) ok_61 G (Sc 3 G Sn) G<|ru 2 G<|K46 G Sr)<|nl<|nx<|cdB G (fun h46 => ?_) (fun h46 => ?_)
 ·
  have e46 : (r22a v) = true := h46
  exact sa 1 G<|rt<|tR<|dpQ<|fR1 () G G (by rw [right22, if_pos e46]) G Sn
 ·
  have e46 : (r22a v) = false := h46
  refine sk<|nx<|sq<|sa 1 G<|bk<|lpC (σ := Nat) [(1, _)] _ (fun i C => (3, .int .i64 (i : Int)) :: C) (fun i => i ≤ v.fStates.length ∧ (∀ j, j < i → (!r22j v j) = true)) (fun i => v.fStates.length - i) 0 ⟨G, trivial⟩ (Sc 0 G (Sc 1 G (Sc 2 G (Sc 3 G (Sc 4 G Sn))))) ⟨Nat.zero_le _, fun j hj => absurd hj (Nat.not_lt_zero j)⟩ (Gs G) ?_
  rintro i ⟨hi, hall⟩
  refine sq<|qg<|rl 3 [0] G G<|lnP 2 G G Tryz.underlying28 G fun l50 => ru 1 G<|nl<|nx<|cdP G (fun h51 => ?_) (fun h51 => ?_)
  ·
   refine sk<|nx<|sq<|bk<|qg<|rl 3 [0] G G<|ixP 2 G G G slt_28 (by omega) (gE (by omega)) G fun v57 => faP (α := TState) (β := Int) 0 (fun x : TState => x.fGroup) G G (Fg G) pState_0 G fun v58 => ldV 0 G G (Og G) G fun w59 => mv G G<|adI G G (inI (by omega) (by omega)) G<|ru 2 G ?_
   refine jz 63 8 [1,3] G G (fun h63 K71 => by
    have p63 := h63
    simp only [Bool.not_eq_false', decide_eq_true_eq] at p63
    refine rl 3 [0] G G<|gY G G G<|ixP 4 G G G slt_28 (by omega) (gE (by omega)) G fun v67 => gY G G G<|ldS 0 G G (Rg G) G fun q68 w68 => ?_
    obtain ⟨q68_0, q68_1, q68_2, q68_3, q68_4, q68_5⟩ := q68
    exact gY G G G<|cfv (sright19_c _ _ _ _ _ _ _ w68) ok_62 G (Si [1,2,3,4,5,6] G) G<|ru 2 G<|K71 G (SubD.tail (SubD.tail (SubD.tail (SubD.tail (SubD.tail (SubD.tail (SubD.tail (SubD.tail Sr))))))))) ?_
   refine nl<|nx<|cdB G (fun h71 => ?_) (fun h71 => ?_)
   · exact sa 1 G<|rt<|bR<|tR<|tR<|bR<|tR<|dpQ<|fR1 () G G (by rw [right22, if_neg (by rw [e46]; decide), allI_false i (by omega) (not_t h71)]) G Sn
   ·
    refine sk<|bN<|nx<|rg<|mv G G<|adI G G (inI (by omega) (by omega)) G<|ru 1 G<|nl ?_
    exact ag (i + 1) ⟨(by omega), (all_snoc hall (not_f h71))⟩ (by omega) (Gs G) G (Si [2,3,4,5,6] G)
  · exact ex<|tE<|tE<|bE<|nx<|sa 1 G<|rt<|dpQ<|fR1 () G G (by rw [right22, if_neg (by rw [e46]; decide), allI_true (fun j hj => hall j (by omega))]) G Sn
end Go.Proofs.YtmpoffijcfaalaaGreat
