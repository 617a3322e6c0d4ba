/- Part 28 of the proof of auditOrder_holds: AudW7, AudW9. Every text below begins with what it shows. -/
import Derived.Test.YtmpoffijcfaalaaGreatAu27

/- What is sound: written by specs10.py. -/

namespace Go.Proofs.YtmpoffijcfaalaaGreat
open Go.Eng Go.YtmpoffijcfaalaaGreat

theorem ofS_c (v_ss : Value) (ss : List TState) (gr : Int) (S : TState) (hS : stOf ss gr = S) : Fnc Tryz.prog 154 [v_ss, .int .i64 gr] [] [⟨v_ss, ss⟩] (fun (y : sState.H) u => u = .tuple #[.agg (cState S (y.1) (y.2.1) (y.2.2.1) (y.2.2.2.1) (y.2.2.2.2.1) (y.2.2.2.2.2)).toArray, .bool (isOf ss gr)] ∧ S.wf) (fun _ _ => []) (fun y _ => [⟨y.1, S.fAccounts⟩, ⟨y.2.1, S.fMarks⟩, ⟨y.2.2.1, S.fWaits⟩, ⟨y.2.2.2.1, S.fDeals⟩, ⟨y.2.2.2.2.1, S.fEnds⟩, ⟨y.2.2.2.2.2, S.fImage⟩]) := by
  refine Fnc.proof Tryz.func154 rfl 21 rfl rfl fun X w => sq<|rg<|al zero_55 rfl fun b4 => asg rfl rfl<|nl<|nx<|sq<|sq<|rg<|mv rfl rfl<|lnP 0 rfl rfl Tryz.underlying28 rfl fun l9 => mv rfl rfl<|nl ?_
  refine nx<|bk<|lpC (σ := Nat) [(1, _), (4, _), (8, _), (9, _)] _ (fun i C => (10, .int .i64 (i : Int)) :: C) (fun i => i ≤ ss.length ∧ (∀ j, j < i → decide ((ss.getD j default).fGroup = gr) = false)) (fun i => ss.length - i) 0 ⟨rfl, rfl, rfl, rfl, trivial⟩ (SubD.cons 0 rfl SubD.nil) ⟨Nat.zero_le _, fun j hj => absurd hj (Nat.not_lt_zero j)⟩ ⟨rfl, rfl, rfl, rfl, rfl, trivial⟩ ?_
  rintro i ⟨hi, hall⟩
  refine sq<|rg<|ltI rfl rfl rfl<|nl<|nx<|sq<|cdP rfl (fun h11 => ?_) (fun h11 => ?_)
  ·
    refine sk<|nx<|sq<|bk<|sq<|rg<|ixP 0 rfl rfl rfl slt_28 (by omega) (getDE (d := default) (by omega)) rfl fun v12 => ldS 0 rfl rfl row_55 rfl fun q13 w13 => ?_
    obtain ⟨q13_0, q13_1, q13_2, q13_3, q13_4, q13_5⟩ := q13
    refine al zero_55 rfl fun b7 => gtL (q := q13_0.oneCell' = true) (fun S w h => oneCell_of_list (h _ (List.mem_of_getElem? (i := 1) rfl))) fun o_q13_0 => gtL (q := q13_1.oneCell' = true) (fun S w h => oneCell_of_list (h _ (List.mem_of_getElem? (i := 2) rfl))) fun o_q13_1 => gtL (q := q13_2.oneCell' = true) (fun S w h => oneCell_of_list (h _ (List.mem_of_getElem? (i := 3) rfl))) fun o_q13_2 => gtL (q := q13_3.oneCell' = true) (fun S w h => oneCell_of_list (h _ (List.mem_of_getElem? (i := 4) rfl))) fun o_q13_3 => gtL (q := q13_4.oneCell' = true) (fun S w h => oneCell_of_list (h _ (List.mem_of_getElem? (i := 5) rfl))) fun o_q13_4 => gtL (q := q13_5.oneCell' = true) (fun S w h => oneCell_of_list (h _ (List.mem_of_getElem? (i := 6) rfl))) fun o_q13_5 => stW 0 (us := (cState ((ss.getD i default)) q13_0 q13_1 q13_2 q13_3 q13_4 q13_5)) rfl rfl rfl row_55 (by simp only [List.all_cons, List.all_nil, Bool.and_true, o_q13_0, o_q13_1, o_q13_2, o_q13_3, o_q13_4, o_q13_5]; rfl) rfl<|nl<|nx<|sq<|rg<|fa rfl fld_55_0 rfl<|ldB 0 rfl rfl one_3 rfl rfl ?_
    refine mv rfl rfl<|eqI rfl rfl rfl<|nl<|nx<|cdP rfl (fun h17 => ?_) (fun h17 => ?_)
    ·
      have e1 : firstI ss.length (fun j => decide ((ss.getD j default).fGroup = gr)) = some i := firstI_some (by omega) hall (decide_eq_true h17)
      have hS2 : ss.getD i default = S := by
        rw [← hS, stOf, e1]
        rfl
      subst hS2
      refine sq<|rg<|ldM 0 (cState ((ss.getD i default)) q13_0 q13_1 q13_2 q13_3 q13_4 q13_5) rfl rfl row_55 rfl rfl<|gtL (q := q13_0.oneCell' = true) (fun S w h => oneCell_of_list (h _ (List.mem_of_getElem? (i := 1) rfl))) fun o_q13_0 => gtL (q := q13_1.oneCell' = true) (fun S w h => oneCell_of_list (h _ (List.mem_of_getElem? (i := 2) rfl))) fun o_q13_1 => gtL (q := q13_2.oneCell' = true) (fun S w h => oneCell_of_list (h _ (List.mem_of_getElem? (i := 3) rfl))) fun o_q13_2 => gtL (q := q13_3.oneCell' = true) (fun S w h => oneCell_of_list (h _ (List.mem_of_getElem? (i := 4) rfl))) fun o_q13_3 => gtL (q := q13_4.oneCell' = true) (fun S w h => oneCell_of_list (h _ (List.mem_of_getElem? (i := 5) rfl))) fun o_q13_4 => gtL (q := q13_5.oneCell' = true) (fun S w h => oneCell_of_list (h _ (List.mem_of_getElem? (i := 6) rfl))) fun o_q13_5 => stW 1 (us := (cState ((ss.getD i default)) q13_0 q13_1 q13_2 q13_3 q13_4 q13_5)) rfl rfl rfl row_55 (by simp only [List.all_cons, List.all_nil, Bool.and_true, o_q13_0, o_q13_1, o_q13_2, o_q13_3, o_q13_4, o_q13_5]; rfl) rfl<|asg rfl rfl<|nl<|nx<|rt ?_
      exact bR<|tR<|tR<|bR<|tR<|fRG ⟨q13_0, q13_1, q13_2, q13_3, q13_4, q13_5⟩ [_, _] (rCT 1 rfl rfl rfl rfl row_55) (by rw [isOf, e1]; exact ⟨rfl, w13⟩) rfl (SubD.cons 1 rfl (SubD.cons 2 rfl (SubD.cons 3 rfl (SubD.cons 4 rfl (SubD.cons 5 rfl (SubD.cons 6 rfl SubD.nil))))))
    ·
      refine sk<|bN<|nx<|rg<|adI rfl rfl (inI (by omega) (by omega)) rfl<|mv rfl rfl<|nl<|dpQ ?_
      exact ag (i + 1) ⟨(by omega), (all_snoc hall (decide_eq_false h17))⟩ (by omega) ⟨rfl, rfl, rfl, rfl, rfl, trivial⟩ rfl (SubD.cons 8 rfl SubD.nil)
  ·
    have e1 : firstI ss.length (fun j => decide ((ss.getD j default).fGroup = gr)) = none := firstI_none (fun k hk => hall k (by omega))
    have hS2 : zeroState = S := by
      rw [← hS, stOf, e1]
      rfl
    subst hS2
    refine emC (α := TAccount)<|emC (α := TMark)<|emC (α := TWait)<|emC (α := TDeal)<|emC (α := TEnd)<|emC (α := UInt8)<|ex<|tE<|tE<|bE<|nx<|sq<|rg<|bd (ps := []) (cs := (cState (({ fGroup := 0, fIndex := 0, fOwns := false, fLo := ByteArray.empty, fHi := ByteArray.empty, fEpoch := 0, fAccounts := [], fMarks := [], fWaits := [], fDeals := [], fEnds := [], fSeal := ({ fNumber := 0, fFrom := 0, fTo := 0, fLo := ByteArray.empty, fHi := ByteArray.empty, fClient := 0, fSeq := 0 } : TPlan), fOut := ({ fNumber := 0, fFrom := 0, fTo := 0, fLo := ByteArray.empty, fHi := ByteArray.empty, fClient := 0, fSeq := 0 } : TPlan), fImage := [], fAbsorbed := 0, fRefused := 0, fUndone := 0 } : TState)) (.slice none 0 0) (.slice none 0 0) (.slice none 0 0) (.slice none 0 0) (.slice none 0 0) (.slice none 0 0))) (by rfl) (by kernel_rfl) rfl ?_
    exact stW 0 (us := (cState (({ fGroup := 0, fIndex := 0, fOwns := false, fLo := ByteArray.empty, fHi := ByteArray.empty, fEpoch := 0, fAccounts := [], fMarks := [], fWaits := [], fDeals := [], fEnds := [], fSeal := ({ fNumber := 0, fFrom := 0, fTo := 0, fLo := ByteArray.empty, fHi := ByteArray.empty, fClient := 0, fSeq := 0 } : TPlan), fOut := ({ fNumber := 0, fFrom := 0, fTo := 0, fLo := ByteArray.empty, fHi := ByteArray.empty, fClient := 0, fSeq := 0 } : TPlan), fImage := [], fAbsorbed := 0, fRefused := 0, fUndone := 0 } : TState)) (.slice none 0 0) (.slice none 0 0) (.slice none 0 0) (.slice none 0 0) (.slice none 0 0) (.slice none 0 0))) rfl rfl rfl row_55 rfl rfl<|asg rfl rfl<|nl<|nx<|rt<|fRG ⟨(.slice none 0 0), (.slice none 0 0), (.slice none 0 0), (.slice none 0 0), (.slice none 0 0), (.slice none 0 0)⟩ [_] (rCT 0 rfl rfl rfl rfl row_55) (by rw [isOf, e1]; exact ⟨rfl, zeroState_wf⟩) rfl (SubD.cons 5 rfl (SubD.cons 4 rfl (SubD.cons 3 rfl (SubD.cons 2 rfl (SubD.cons 1 rfl (SubD.cons 0 rfl SubD.nil))))))

theorem waits_c (v_ss : Value) (ss : List TState) (S : TState) (s_0 s_1 s_2 s_3 s_4 s_5 : Value) (h_S : S.wf) : FnV Tryz.prog 79 [v_ss, .agg (cState S s_0 s_1 s_2 s_3 s_4 s_5).toArray] [⟨v_ss, ss⟩, ⟨s_0, S.fAccounts⟩, ⟨s_1, S.fMarks⟩, ⟨s_2, S.fWaits⟩, ⟨s_3, S.fDeals⟩, ⟨s_4, S.fEnds⟩, ⟨s_5, S.fImage⟩] (.bool (waitsP ss S)) := by
  refine Fnc.proof Tryz.func79 rfl 37 rfl rfl fun X w => sq<|rg<|bx rfl rfl rfl fun b3 => asg rfl rfl<|nl<|nx<|sq<|sq<|rg<|fa rfl fld_55_12 rfl<|fa rfl fld_24_0 rfl<|ldB 0 rfl rfl one_3 rfl rfl<|eqI rfl rfl rfl ?_
  refine nl<|nx<|cdP rfl (fun h10 => ?_) (fun h10 => ?_)
  ·
    refine sq<|rg<|asg rfl rfl<|nl<|nx<|rt<|tR<|dpQ ?_
    exact fR1 () rfl rfl (by rw [waitsP, if_pos h10]) rfl SubD.nil
  ·
    refine sk<|nx<|sq<|rg<|mv rfl rfl<|fa rfl fld_55_12 rfl<|fa rfl fld_24_2 rfl<|ldB 0 rfl rfl one_3 rfl rfl<|cf (ofS_c _ _ _ (stOf ss S.fOut.fTo) rfl) ok_154 rfl (SubD.cons 0 rfl SubD.nil) rfl fun y16 v16 h16 => ?_
    obtain ⟨e16, w16⟩ := h16
    subst e16
    obtain ⟨z16_0, z16_1, z16_2, z16_3, z16_4, z16_5⟩ := y16
    refine mv rfl rfl<|xt rfl rfl rfl<|xt rfl rfl rfl<|al zero_55 rfl fun b5 => gtL (q := z16_0.oneCell' = true) (fun S w h => oneCell_of_list (h _ (List.mem_of_getElem? (i := 0) rfl))) fun o_z16_0 => gtL (q := z16_1.oneCell' = true) (fun S w h => oneCell_of_list (h _ (List.mem_of_getElem? (i := 1) rfl))) fun o_z16_1 => gtL (q := z16_2.oneCell' = true) (fun S w h => oneCell_of_list (h _ (List.mem_of_getElem? (i := 2) rfl))) fun o_z16_2 => gtL (q := z16_3.oneCell' = true) (fun S w h => oneCell_of_list (h _ (List.mem_of_getElem? (i := 3) rfl))) fun o_z16_3 => gtL (q := z16_4.oneCell' = true) (fun S w h => oneCell_of_list (h _ (List.mem_of_getElem? (i := 4) rfl))) fun o_z16_4 => gtL (q := z16_5.oneCell' = true) (fun S w h => oneCell_of_list (h _ (List.mem_of_getElem? (i := 5) rfl))) fun o_z16_5 => stW 0 (us := (cState ((stOf ss S.fOut.fTo)) z16_0 z16_1 z16_2 z16_3 z16_4 z16_5)) rfl rfl rfl row_55 (by simp only [List.all_cons, List.all_nil, Bool.and_true, o_z16_0, o_z16_1, o_z16_2, o_z16_3, o_z16_4, o_z16_5]; rfl) rfl<|asg rfl rfl<|nl<|nx ?_
    refine sq<|rg<|mv rfl rfl<|nt rfl rfl<|mv rfl rfl ?_
    apply jo [(3, _), (5, _)] ⟨rfl, rfl, trivial⟩
    ·
      intro K28
      refine spO (i := 21) rfl (fun h21 => ?_) (fun h21 => ?_)
      ·
        exact gY rfl rfl rfl<|fa rfl fld_55_14 rfl<|gY rfl rfl rfl<|ldB 0 rfl rfl one_3 rfl rfl<|gY rfl rfl rfl<|fa rfl fld_55_12 rfl<|gY rfl rfl rfl<|fa rfl fld_24_0 rfl<|gY rfl rfl rfl<|ldB 1 rfl rfl one_3 rfl rfl<|gY rfl rfl rfl<|ltI rfl rfl rfl<|pkF rfl rfl rfl<|jR K28 h21 ⟨rfl, rfl, trivial⟩ SubD.refl
      ·
        exact gS (g := [_, _, _, _, _, _]) rfl<|pkT rfl rfl rfl<|jR0 K28 h21 ⟨rfl, rfl, trivial⟩ SubD.refl
    refine mv rfl rfl ?_
    apply jo [] trivial
    ·
      intro K36
      refine spO (i := 29) rfl (fun h29 => ?_) (fun h29 => ?_)
      ·
        exact gY rfl rfl rfl<|fa rfl fld_55_15 rfl<|gY rfl rfl rfl<|ldB 0 rfl rfl one_3 rfl rfl<|gY rfl rfl rfl<|fa rfl fld_55_12 rfl<|gY rfl rfl rfl<|fa rfl fld_24_0 rfl<|gY rfl rfl rfl<|ldB 1 rfl rfl one_3 rfl rfl<|gY rfl rfl rfl<|eqI rfl rfl rfl<|pkF rfl rfl rfl<|jR K36 h29 trivial SubD.refl
      ·
        exact gS (g := [_, _, _, _, _, _]) rfl<|pkT rfl rfl rfl<|jR0 K36 h29 trivial SubD.refl
    refine asg rfl rfl<|nl<|nx<|rt<|dpQ<|dpQ ?_
    exact fR1 () rfl rfl (by rw [waitsP, if_neg h10]; try rfl) rfl SubD.nil

theorem imaged_c (S : TState) (s_0 s_1 s_2 s_3 s_4 s_5 : Value) (h_S : S.wf) : FnV Tryz.prog 155 [.agg (cState S s_0 s_1 s_2 s_3 s_4 s_5).toArray] [⟨s_0, S.fAccounts⟩, ⟨s_1, S.fMarks⟩, ⟨s_2, S.fWaits⟩, ⟨s_3, S.fDeals⟩, ⟨s_4, S.fEnds⟩, ⟨s_5, S.fImage⟩] (.bool (imagedP S)) := by
  refine Fnc.proof Tryz.func155 rfl 84 rfl rfl fun X w => sq<|rg<|bx rfl rfl rfl fun b1 => asg rfl rfl<|nl<|nx<|sq<|sq<|rg<|fa rfl fld_55_12 rfl<|fa rfl fld_24_0 rfl<|ldB 0 rfl rfl one_3 rfl rfl<|eqI rfl rfl rfl ?_
  refine nl<|nx<|cdP rfl (fun h10 => ?_) (fun h10 => ?_)
  ·
    refine sq<|rg<|asg rfl rfl<|nl<|nx<|rt<|tR<|dpQ ?_
    exact fR1 () rfl rfl (by rw [imagedP, if_pos h10]) rfl SubD.nil
  ·
    refine sk<|nx<|sq<|rg<|fa rfl fld_55_13 rfl<|ldB 0 rfl rfl one_35 rfl rfl<|cf (rs_c _ _) ok_159 rfl (SubD.cons 5 rfl SubD.nil) rfl fun y14 v14 h14 => ?_
    obtain ⟨y14_0, y14_1, y14_2, y14_3, y14_4, y14_5⟩ := y14
    replace h14 : v14 = .tuple #[.agg (cState (rdState _).1 y14_0 y14_1 y14_2 y14_3 y14_4 y14_5).toArray, .int .i64 (rdState _).2] := h14
    subst h14
    refine mv rfl rfl<|xt rfl rfl rfl<|xt rfl rfl rfl<|al zero_55 rfl fun b3 => gtL (q := y14_0.oneCell' = true) (fun S w h => oneCell_of_list (h _ (List.mem_of_getElem? (i := 0) rfl))) fun o_y14_0 => gtL (q := y14_1.oneCell' = true) (fun S w h => oneCell_of_list (h _ (List.mem_of_getElem? (i := 1) rfl))) fun o_y14_1 => gtL (q := y14_2.oneCell' = true) (fun S w h => oneCell_of_list (h _ (List.mem_of_getElem? (i := 2) rfl))) fun o_y14_2 => gtL (q := y14_3.oneCell' = true) (fun S w h => oneCell_of_list (h _ (List.mem_of_getElem? (i := 3) rfl))) fun o_y14_3 => gtL (q := y14_4.oneCell' = true) (fun S w h => oneCell_of_list (h _ (List.mem_of_getElem? (i := 4) rfl))) fun o_y14_4 => gtL (q := y14_5.oneCell' = true) (fun S w h => oneCell_of_list (h _ (List.mem_of_getElem? (i := 5) rfl))) fun o_y14_5 => stW 0 (us := (cState ((rdState S.fImage).1) y14_0 y14_1 y14_2 y14_3 y14_4 y14_5)) rfl rfl rfl row_55 (by simp only [List.all_cons, List.all_nil, Bool.and_true, o_y14_0, o_y14_1, o_y14_2, o_y14_3, o_y14_4, o_y14_5]; rfl) rfl<|asg rfl rfl<|nl<|nx ?_
    refine sq<|sq<|rg<|mv rfl rfl<|neI rfl rfl rfl<|mv rfl rfl ?_
    apply jo [(1, _), (3, _)] ⟨rfl, rfl, trivial⟩
    ·
      intro K24
      refine spO (i := 19) rfl (fun h19 => ?_) (fun h19 => ?_)
      ·
        have p19 := h19
        simp only [Bool.not_eq_true', Bool.not_eq_false', decide_eq_true_eq, decide_eq_false_iff_not] at p19
        exact gY rfl rfl rfl<|fa rfl fld_55_6 rfl<|gY rfl rfl rfl<|ldB 0 rfl rfl one_50 rfl rfl<|gY rfl rfl rfl<|lnP 0 rfl rfl Tryz.underlying50 rfl fun l22 => gY rfl rfl rfl<|gtI rfl rfl rfl<|pkF rfl rfl rfl<|jR K24 h19 ⟨rfl, rfl, trivial⟩ SubD.refl
      ·
        exact gS (g := [_, _, _, _]) rfl<|pkT rfl rfl rfl<|jR0 K24 h19 ⟨rfl, rfl, trivial⟩ SubD.refl
    refine nl<|nx<|cdB rfl (fun h24 => ?_) (fun h24 => ?_)
    ·
      refine sq<|rg<|asg rfl rfl<|nl<|nx<|rt<|tR<|dpQ<|dpQ ?_
      exact fR1 () rfl rfl (by rw [imagedP, if_neg h10, if_pos h24]) rfl SubD.nil
    ·
      refine sk<|nx<|sq<|sq<|rg<|fa rfl fld_55_6 rfl<|ldB 0 rfl rfl one_50 rfl rfl<|lnP 0 rfl rfl Tryz.underlying50 rfl fun l27 => mv rfl rfl<|nl<|nx<|bk<|lpC (σ := Nat) [(1, _), (3, _), (26, _), (27, _)] _ (fun i C => (28, .int .i64 (i : Int)) :: C) (fun i => i ≤ (rdState S.fImage).1.fAccounts.length ∧ (∀ j, j < i → (!imgA ((rdState S.fImage).1.fAccounts.getD j default) && !imgB S (rdState S.fImage).1.fAccounts j) = true)) (fun i => (rdState S.fImage).1.fAccounts.length - i) 0 ⟨rfl, rfl, rfl, rfl, trivial⟩ (SubD.cons 0 rfl (SubD.cons 1 rfl (SubD.cons 2 rfl (SubD.cons 3 rfl (SubD.cons 4 rfl (SubD.cons 5 rfl (SubD.cons 6 rfl (SubD.cons 7 rfl (SubD.cons 8 rfl (SubD.cons 9 rfl (SubD.cons 10 rfl (SubD.cons 11 rfl SubD.nil)))))))))))) ⟨Nat.zero_le _, fun j hj => absurd hj (Nat.not_lt_zero j)⟩ ⟨rfl, rfl, rfl, rfl, rfl, trivial⟩ ?_
      rintro i ⟨hi, hall⟩
      refine sq<|rg<|ltI rfl rfl rfl<|nl<|nx<|sq<|cdP rfl (fun h29 => ?_) (fun h29 => ?_)
      ·
        refine sk<|nx<|sq<|bk<|sq<|rg<|mv rfl rfl<|ixP 0 rfl rfl rfl slt_50 (by omega) (getDE (d := default) (by omega)) rfl fun v31 => ldS 0 rfl rfl row_70 rfl fun q32 w32 => ?_
        refine al zero_70 rfl fun b6 => asg rfl rfl<|gtL (q := q32.oneCell' = true) (fun S w h => oneCell_of_list (h _ (List.mem_of_getElem? (i := 1) rfl))) fun o_q32 => stW 0 (us := (cAccount (((rdState S.fImage).1.fAccounts.getD i default)) q32)) rfl rfl rfl row_70 (by simp only [List.all_cons, List.all_nil, Bool.and_true, o_q32]; rfl) rfl<|nl<|nx<|sq<|sq<|rg<|ldM 0 (cAccount (((rdState S.fImage).1.fAccounts.getD i default)) q32) rfl rfl row_70 rfl rfl<|cfv (acheck_c _ _ w32) ok_97 rfl (SubD.cons 1 rfl SubD.nil) rfl<|neI rfl rfl rfl<|mv rfl rfl ?_
        apply jo [(1, _), (3, _), (5, _), (6, _), (26, _), (27, _), (28, _)] ⟨rfl, rfl, rfl, rfl, rfl, rfl, rfl, trivial⟩
        ·
          intro K39
          refine spO (i := 36) rfl (fun h36 => ?_) (fun h36 => ?_)
          ·
            have p36 := h36
            simp only [Bool.not_eq_true', Bool.not_eq_false', decide_eq_true_eq, decide_eq_false_iff_not] at p36
            exact gY rfl rfl rfl<|ldM 0 (cAccount (((rdState S.fImage).1.fAccounts.getD i default)) q32) rfl rfl row_70 rfl rfl<|gY rfl rfl rfl<|cfv (aplain_c _ _ w32) ok_89 rfl (SubD.cons 1 rfl SubD.nil) rfl<|pkF rfl rfl rfl<|jR K39 h36 ⟨rfl, rfl, rfl, rfl, rfl, rfl, rfl, trivial⟩ SubD.refl
          ·
            exact gS (g := [_, _]) rfl<|pkT rfl rfl rfl<|jR0 K39 h36 ⟨rfl, rfl, rfl, rfl, rfl, rfl, rfl, trivial⟩ SubD.refl
        refine mv rfl rfl ?_
        apply jo [(1, _), (3, _), (5, _), (6, _), (26, _), (27, _), (28, _)] ⟨rfl, rfl, rfl, rfl, rfl, rfl, rfl, trivial⟩
        ·
          intro K45
          refine spO (i := 40) rfl (fun h40 => ?_) (fun h40 => ?_)
          ·
            exact gY rfl rfl rfl<|fa rfl fld_70_5 rfl<|gY rfl rfl rfl<|fa rfl fld_68_0 rfl<|gY rfl rfl rfl<|ldB 0 rfl rfl one_3 rfl rfl<|gY rfl rfl rfl<|neI rfl rfl rfl<|pkF rfl rfl rfl<|jR K45 h40 ⟨rfl, rfl, rfl, rfl, rfl, rfl, rfl, trivial⟩ SubD.refl
          ·
            exact gS (g := [_, _, _, _]) rfl<|pkT rfl rfl rfl<|jR0 K45 h40 ⟨rfl, rfl, rfl, rfl, rfl, rfl, rfl, trivial⟩ SubD.refl
        refine mv rfl rfl ?_
        apply jo [(1, _), (3, _), (5, _), (6, _), (26, _), (27, _), (28, _)] ⟨rfl, rfl, rfl, rfl, rfl, rfl, rfl, trivial⟩
        ·
          intro K51
          refine spO (i := 46) rfl (fun h46 => ?_) (fun h46 => ?_)
          ·
            exact gY rfl rfl rfl<|fa rfl fld_70_4 rfl<|gY rfl rfl rfl<|ldB 0 rfl rfl one_66 rfl rfl<|gY rfl rfl rfl<|lnP 1 rfl rfl Tryz.underlying66 rfl fun l49 => gY rfl rfl rfl<|gtI rfl rfl rfl<|pkF rfl rfl rfl<|jR K51 h46 ⟨rfl, rfl, rfl, rfl, rfl, rfl, rfl, trivial⟩ SubD.refl
          ·
            exact gS (g := [_, _, _, _]) rfl<|pkT rfl rfl rfl<|jR0 K51 h46 ⟨rfl, rfl, rfl, rfl, rfl, rfl, rfl, trivial⟩ SubD.refl
        refine mv rfl rfl ?_
        apply jo [(1, _), (3, _), (5, _), (6, _), (26, _), (27, _), (28, _)] ⟨rfl, rfl, rfl, rfl, rfl, rfl, rfl, trivial⟩
        ·
          intro K56
          refine spO (i := 52) rfl (fun h52 => ?_) (fun h52 => ?_)
          ·
            exact gY rfl rfl rfl<|fa rfl fld_70_3 rfl<|gY rfl rfl rfl<|ldB 0 rfl rfl one_3 rfl rfl<|gY rfl rfl rfl<|neI rfl rfl rfl<|pkF rfl rfl rfl<|jR K56 h52 ⟨rfl, rfl, rfl, rfl, rfl, rfl, rfl, trivial⟩ SubD.refl
          ·
            exact gS (g := [_, _, _]) rfl<|pkT rfl rfl rfl<|jR0 K56 h52 ⟨rfl, rfl, rfl, rfl, rfl, rfl, rfl, trivial⟩ SubD.refl
        refine nl<|nx<|cdB rfl (fun h56 => ?_) (fun h56 => ?_)
        ·
          refine sq<|rg<|asg rfl rfl<|nl<|nx<|rt<|tR<|bR<|tR<|tR<|bR<|tR<|dpQ<|dpQ ?_
          refine dpQ ?_
          exact fR1 () rfl rfl (by rw [imagedP, if_neg h10, if_neg (by rw [h24]; decide), imgAll, allI_false i (by omega) (by rw [show imgA ((rdState S.fImage).1.fAccounts.getD i default) = true from h56]; rfl)]) rfl SubD.nil
        ·
          refine sk<|nx<|sq<|rgQ mixed (by kernel_rfl)<|fa rfl fld_55_12 rfl<|fa rfl fld_24_3 rfl<|ldB 2 rfl rfl one_9 rfl rfl<|fa rfl fld_55_12 rfl<|fa rfl fld_24_4 rfl<|ldB 2 rfl rfl one_9 rfl rfl<|fa rfl fld_70_0 rfl<|ldB 0 rfl rfl one_9 rfl rfl<|cfq (within_c _ _ _) ok_80 rfl SubD.nil rfl<|nt rfl rfl ?_
          refine mv rfl rfl ?_
          apply jo [(1, _), (3, _), (26, _), (27, _), (28, _)] ⟨rfl, rfl, rfl, rfl, rfl, trivial⟩
          ·
            intro K82
            refine spO (i := 67) rfl (fun h67 => ?_) (fun h67 => ?_)
            ·
              have p67 := h67
              try simp only [Bool.or_eq_false_iff, Bool.and_eq_true, decide_eq_true_eq, decide_eq_false_iff_not, Bool.not_eq_true', Bool.not_eq_false'] at p67
              refine gY rfl rfl rfl<|mv rfl rfl<|gY rfl rfl rfl<|gtI rfl rfl rfl<|gY rfl rfl rfl<|mv rfl rfl ?_
              apply jo [(1, _), (3, _), (26, _), (27, _), (28, _), (67, _)] ⟨rfl, rfl, rfl, rfl, rfl, rfl, trivial⟩
              ·
                intro K81
                refine spA (i := 70) rfl (fun h70 => ?_) (fun h70 => ?_)
                ·
                  have p70 := of_decide_eq_true h70
                  refine gY rfl rfl rfl<|fa rfl fld_70_0 rfl<|gY rfl rfl rfl<|ldB 0 rfl rfl one_9 rfl rfl<|gY rfl rfl rfl<|fa rfl fld_55_6 rfl<|gY rfl rfl rfl<|ldB 1 rfl rfl one_50 rfl rfl<|gY rfl rfl rfl<|mv rfl rfl<|gY rfl rfl rfl<|sbI rfl rfl (inI (by omega) (by omega)) rfl<|gY rfl rfl rfl<|ixP 3 rfl rfl rfl slt_50 (by omega) (getDE (d := default) (by omega)) rfl fun v77 => ?_
                  refine gY rfl rfl rfl<|faP (α := TAccount) (β := ByteArray) 0 (fun x : TAccount => x.fKey) rfl rfl fld_70_0 pAccount_0 rfl fun v78 => gY rfl rfl rfl<|ldV 0 rfl rfl one_9 rfl fun w79 => ?_
                  exact gY rfl rfl rfl<|leS rfl rfl rfl<|gY rfl rfl rfl<|pkT rfl rfl rfl<|jA K81 h70 ⟨rfl, rfl, rfl, rfl, rfl, rfl, trivial⟩ (SubD.tail (SubD.tail SubD.refl))
                ·
                  exact gS (g := [_, _, _, _, _, _, _, _, _, _]) rfl<|gY rfl rfl rfl<|pkF rfl rfl rfl<|jA0 K81 h70 ⟨rfl, rfl, rfl, rfl, rfl, rfl, trivial⟩ SubD.refl
              exact pkF rfl rfl rfl<|jR K82 h67 ⟨rfl, rfl, rfl, rfl, rfl, trivial⟩ SubD.refl
            ·
              exact gS (g := [_, _, _, _, _, _, _, _, _, _, _, _, _, _]) rfl<|pkT rfl rfl rfl<|jR0 K82 h67 ⟨rfl, rfl, rfl, rfl, rfl, trivial⟩ SubD.refl
          refine nlQ<|nx<|cdB rfl (fun h82 => ?_) (fun h82 => ?_)
          ·
            refine sq<|rg<|asg rfl rfl<|nl<|nx<|rt<|bR<|tR<|tR<|bR<|tR<|dpQ<|dpQ<|dpQ ?_
            exact fR1 () rfl rfl (by rw [imagedP, if_neg h10, if_neg (by rw [h24]; decide), imgAll, allI_false i (by omega) (by rw [show imgB S (rdState S.fImage).1.fAccounts i = true from h82]; exact Bool.and_false _)]) rfl SubD.nil
          ·
            refine sk<|bN<|nx<|rg<|adI rfl rfl (inI (by omega) (by omega)) rfl<|mv rfl rfl<|nl<|dpQ ?_
            exact ag (i + 1) ⟨(by omega), (all_snoc hall (by rw [show imgA ((rdState S.fImage).1.fAccounts.getD i default) = false from h56, show imgB S (rdState S.fImage).1.fAccounts i = false from h82]; rfl))⟩ (by omega) ⟨rfl, rfl, rfl, rfl, rfl, trivial⟩ rfl (SubD.cons 3 rfl (SubD.cons 4 rfl (SubD.cons 5 rfl (SubD.cons 6 rfl (SubD.cons 7 rfl (SubD.cons 8 rfl (SubD.cons 9 rfl (SubD.cons 10 rfl (SubD.cons 11 rfl (SubD.cons 12 rfl (SubD.cons 13 rfl (SubD.cons 14 rfl SubD.nil))))))))))))
      ·
        refine ex<|tE<|tE<|bE<|nx<|sq<|rg<|asg rfl rfl<|nl<|nx<|rt<|dpQ<|dpQ ?_
        exact fR1 () rfl rfl (by rw [imagedP, if_neg h10, if_neg (by rw [h24]; decide), imgAll, allI_true (fun j hj => hall j (by omega))]) rfl SubD.nil

theorem sound1_c (v_l : Value) (l : List TRight) : FnV Tryz.prog 157 [v_l] [⟨v_l, l⟩] (.bool (!decide (errF (ledgerP l) = 0))) := by
  refine Fnc.proof Tryz.func157 rfl 6 rfl rfl fun X w => sq<|rg<|asg rfl rfl<|nl<|nx<|sq<|rg<|mv rfl rfl<|cfv (lcheck_c _ _) ok_59 rfl (SubD.cons 0 rfl SubD.nil) rfl<|neI rfl rfl rfl<|asg rfl rfl<|nl<|nx ?_
  refine rt ?_
  exact fR1 () rfl rfl (by rfl) rfl SubD.nil

theorem indexF_c (v_rr : Value) (rr : List (List TRight)) : FnV Tryz.prog 213 [v_rr, .func (.func 157) #[] #[]] [⟨v_rr, rr⟩] (.int .i64 (placeI (firstI rr.length (fun j => badR (rr.getD j default))))) := by
  refine Fnc.proof Tryz.func213 rfl 19 rfl rfl fun X w => sq<|rg<|asg rfl rfl<|nl<|nx<|sq<|sq<|rg<|mv rfl rfl<|lnP 0 rfl rfl Tryz.underlying71 rfl fun l7 => mv rfl rfl<|nl<|nx ?_
  refine bk<|lpC (σ := Nat) [(0, _), (1, _), (7, _)] _ (fun i C => (8, .int .i64 (i : Int)) :: C) (fun i => i ≤ rr.length ∧ (∀ j, j < i → badR (rr.getD j default) = false)) (fun i => rr.length - i) 0 ⟨rfl, rfl, rfl, trivial⟩ (SubD.cons 0 rfl SubD.nil) ⟨Nat.zero_le _, fun j hj => absurd hj (Nat.not_lt_zero j)⟩ ⟨rfl, rfl, rfl, rfl, trivial⟩ ?_
  rintro i ⟨hi, hall⟩
  refine sq<|rg<|ltI rfl rfl rfl<|nl<|nx<|sq<|cdP rfl (fun h9 => ?_) (fun h9 => ?_)
  ·
    refine sk<|nx<|sq<|bk<|sq<|rg<|mv rfl rfl<|asg rfl rfl<|nl<|nx<|sq<|rg<|mv rfl rfl<|mv rfl rfl ?_
    refine mv rfl rfl<|ixP 0 rfl rfl rfl slt_71 (by omega) (getDE (d := default) (by omega)) rfl fun v14 => ldL 0 rfl rfl one_29 rfl fun v15 => cfc (sound1_c _ _) ok_157 rfl rfl rfl (SubD.cons 0 rfl SubD.nil) rfl fun y16 v16 h16 => ?_
    subst h16
    refine nl<|nx<|cdB rfl (fun h16 => ?_) (fun h16 => ?_)
    ·
      refine sq<|rg<|mv rfl rfl<|asg rfl rfl<|nl<|nx<|rt<|bR<|tR<|tR<|bR<|tR ?_
      exact fR1 () rfl rfl (by rw [firstI_some (j := i) (by omega) hall h16]; try rfl) rfl SubD.nil
    ·
      refine sk<|bN<|nx<|rg<|adI rfl rfl (inI (by omega) (by omega)) rfl<|mv rfl rfl<|nl ?_
      exact ag (i + 1) ⟨(by omega), (all_snoc hall (h16))⟩ (by omega) ⟨rfl, rfl, rfl, rfl, trivial⟩ rfl (SubD.cons 2 rfl SubD.nil)
  ·
    refine ex<|tE<|tE<|bE<|nx<|sq<|rg<|asg rfl rfl<|nl<|nx<|rt ?_
    exact fR1 () rfl rfl (by rw [firstI_none (fun k hk => hall k (by omega))]; try rfl) rfl SubD.nil

theorem containsF_c (v_rr : Value) (rr : List (List TRight)) : FnV Tryz.prog 156 [v_rr, .func (.func 157) #[] #[]] [⟨v_rr, rr⟩] (.bool (decide (placeI (firstI rr.length (fun j => badR (rr.getD j default))) ≥ 0))) := by
  refine Fnc.proof Tryz.func156 rfl 9 rfl rfl fun X w => sq<|rg<|asg rfl rfl<|nl<|nx<|sq<|rg<|mv rfl rfl<|mv rfl rfl<|cfv (indexF_c _ _) ok_213 rfl (SubD.cons 0 rfl SubD.nil) rfl<|geI rfl rfl rfl<|asg rfl rfl<|nl ?_
  refine nx<|rt ?_
  exact fR1 () rfl rfl (by rfl) rfl SubD.nil

theorem sound_c (c : TChart) (c_0 c_1 : Value) (v_ss : Value) (ss : List TState) (v_rr : Value) (rr : List (List TRight)) (h_c : c.wf) : FnV Tryz.prog 83 [.agg (cChart c c_0 c_1).toArray, v_ss, v_rr] [⟨c_0, c.fPlaces⟩, ⟨c_1, c.fMarks⟩, ⟨v_ss, ss⟩, ⟨v_rr, rr⟩] (.bool (soundP c ss rr)) := by
  refine Fnc.proof Tryz.func83 rfl 48 rfl rfl fun X w => sq<|rg<|bx rfl rfl rfl fun b3 => asg rfl rfl<|nl<|nx<|sq<|sq<|rg<|mv rfl rfl<|lnP 2 rfl rfl Tryz.underlying28 rfl fun l10 => neI rfl rfl rfl<|mv rfl rfl ?_
  apply jo [(1, _), (2, _), (3, _)] ⟨rfl, rfl, rfl, trivial⟩
  ·
    intro K16
    refine spO (i := 12) rfl (fun h12 => ?_) (fun h12 => ?_)
    ·
      have p12 := h12
      simp only [Bool.not_eq_true', Bool.not_eq_false', decide_eq_true_eq, decide_eq_false_iff_not] at p12
      exact gY rfl rfl rfl<|mv rfl rfl<|gY rfl rfl rfl<|lnP 3 rfl rfl Tryz.underlying71 rfl fun l14 => gY rfl rfl rfl<|gtI rfl rfl rfl<|pkF rfl rfl rfl<|jR K16 h12 ⟨rfl, rfl, rfl, trivial⟩ SubD.refl
    ·
      exact gS (g := [_, _, _]) rfl<|pkT rfl rfl rfl<|jR0 K16 h12 ⟨rfl, rfl, rfl, trivial⟩ SubD.refl
  refine mv rfl rfl ?_
  apply jo [(1, _), (2, _)] ⟨rfl, rfl, trivial⟩
  ·
    intro K21
    refine spO (i := 17) rfl (fun h17 => ?_) (fun h17 => ?_)
    ·
      exact gY rfl rfl rfl<|ldM 0 (cChart c c_0 c_1) rfl rfl row_27 rfl rfl<|gY rfl rfl rfl<|cfv (pcheck_c _ _ _ h_c) ok_58 rfl (SubD.cons 0 rfl (SubD.cons 1 rfl SubD.nil)) rfl<|gY rfl rfl rfl<|neI rfl rfl rfl<|pkF rfl rfl rfl<|jR K21 h17 ⟨rfl, rfl, trivial⟩ SubD.refl
    ·
      exact gS (g := [_, _, _]) rfl<|pkT rfl rfl rfl<|jR0 K21 h17 ⟨rfl, rfl, trivial⟩ SubD.refl
  refine nl<|nx<|cdB rfl (fun h21 => ?_) (fun h21 => ?_)
  ·
    have e21 : (sndA c ss rr) = true := h21
    refine sq<|rg<|asg rfl rfl<|nl<|nx<|rt<|tR<|dpQ ?_
    exact fR1 () rfl rfl (by rw [soundP, if_pos e21]) rfl SubD.nil
  ·
    have e21 : (sndA c ss rr) = false := h21
    refine sk<|nx<|sq<|sq<|rg<|mv rfl rfl<|lnP 2 rfl rfl Tryz.underlying28 rfl fun l23 => mv rfl rfl<|nl<|nx<|bk<|lpC (σ := Nat) [(2, _), (22, _), (23, _)] _ (fun i C => (24, .int .i64 (i : Int)) :: C) (fun i => i ≤ ss.length ∧ (∀ j, j < i → (!sndB ss j) = true)) (fun i => ss.length - i) 0 ⟨rfl, rfl, rfl, trivial⟩ (SubD.cons 0 rfl (SubD.cons 1 rfl (SubD.cons 2 rfl (SubD.cons 3 rfl SubD.nil)))) ⟨Nat.zero_le _, fun j hj => absurd hj (Nat.not_lt_zero j)⟩ ⟨rfl, rfl, rfl, rfl, trivial⟩ ?_
    rintro i ⟨hi, hall⟩
    refine sq<|rg<|ltI rfl rfl rfl<|nl<|nx<|sq<|cdP rfl (fun h25 => ?_) (fun h25 => ?_)
    ·
      refine sk<|nx<|sq<|bk<|sq<|rg<|mv rfl rfl<|ixP 2 rfl rfl rfl slt_28 (by omega) (getDE (d := default) (by omega)) rfl fun v27 => ldS 0 rfl rfl row_55 rfl fun q28 w28 => ?_
      obtain ⟨q28_0, q28_1, q28_2, q28_3, q28_4, q28_5⟩ := q28
      refine al zero_55 rfl fun b8 => asg rfl rfl<|gtL (q := q28_0.oneCell' = true) (fun S w h => oneCell_of_list (h _ (List.mem_of_getElem? (i := 1) rfl))) fun o_q28_0 => gtL (q := q28_1.oneCell' = true) (fun S w h => oneCell_of_list (h _ (List.mem_of_getElem? (i := 2) rfl))) fun o_q28_1 => gtL (q := q28_2.oneCell' = true) (fun S w h => oneCell_of_list (h _ (List.mem_of_getElem? (i := 3) rfl))) fun o_q28_2 => gtL (q := q28_3.oneCell' = true) (fun S w h => oneCell_of_list (h _ (List.mem_of_getElem? (i := 4) rfl))) fun o_q28_3 => gtL (q := q28_4.oneCell' = true) (fun S w h => oneCell_of_list (h _ (List.mem_of_getElem? (i := 5) rfl))) fun o_q28_4 => gtL (q := q28_5.oneCell' = true) (fun S w h => oneCell_of_list (h _ (List.mem_of_getElem? (i := 6) rfl))) fun o_q28_5 => stW 0 (us := (cState ((ss.getD i default)) q28_0 q28_1 q28_2 q28_3 q28_4 q28_5)) rfl rfl rfl row_55 (by simp only [List.all_cons, List.all_nil, Bool.and_true, o_q28_0, o_q28_1, o_q28_2, o_q28_3, o_q28_4, o_q28_5]; rfl) rfl<|nl<|nx<|sq<|rg<|fa rfl fld_55_0 rfl ?_
      refine ldB 0 rfl rfl one_3 rfl rfl<|mv rfl rfl<|adI rfl rfl (inI (by omega) (by omega)) rfl<|neI rfl rfl rfl<|mv rfl rfl ?_
      apply jo [(2, _), (8, _), (22, _), (23, _), (24, _)] ⟨rfl, rfl, rfl, rfl, rfl, trivial⟩
      ·
        intro K38
        refine spO (i := 34) rfl (fun h34 => ?_) (fun h34 => ?_)
        ·
          have p34 := h34
          simp only [Bool.not_eq_true', Bool.not_eq_false', decide_eq_true_eq, decide_eq_false_iff_not] at p34
          exact gY rfl rfl rfl<|ldM 0 (cState ((ss.getD i default)) q28_0 q28_1 q28_2 q28_3 q28_4 q28_5) rfl rfl row_55 rfl rfl<|gY rfl rfl rfl<|cfv (shcheck_c _ _ _ _ _ _ _ w28) ok_57 rfl (SubD.cons 1 rfl (SubD.cons 2 rfl (SubD.cons 3 rfl (SubD.cons 4 rfl (SubD.cons 5 rfl (SubD.cons 6 rfl SubD.nil)))))) rfl<|gY rfl rfl rfl<|neI rfl rfl rfl<|pkF rfl rfl rfl<|jR K38 h34 ⟨rfl, rfl, rfl, rfl, rfl, trivial⟩ SubD.refl
        ·
          exact gS (g := [_, _, _]) rfl<|pkT rfl rfl rfl<|jR0 K38 h34 ⟨rfl, rfl, rfl, rfl, rfl, trivial⟩ SubD.refl
      refine mv rfl rfl ?_
      apply jo [(2, _), (22, _), (23, _), (24, _)] ⟨rfl, rfl, rfl, rfl, trivial⟩
      ·
        intro K43
        refine spO (i := 39) rfl (fun h39 => ?_) (fun h39 => ?_)
        ·
          exact gY rfl rfl rfl<|ldM 0 (cState ((ss.getD i default)) q28_0 q28_1 q28_2 q28_3 q28_4 q28_5) rfl rfl row_55 rfl rfl<|gY rfl rfl rfl<|cfv (imaged_c _ _ _ _ _ _ _ w28) ok_155 rfl (SubD.cons 1 rfl (SubD.cons 2 rfl (SubD.cons 3 rfl (SubD.cons 4 rfl (SubD.cons 5 rfl (SubD.cons 6 rfl SubD.nil)))))) rfl<|gY rfl rfl rfl<|nt rfl rfl<|pkF rfl rfl rfl<|jR K43 h39 ⟨rfl, rfl, rfl, rfl, trivial⟩ SubD.refl
        ·
          exact gS (g := [_, _, _]) rfl<|pkT rfl rfl rfl<|jR0 K43 h39 ⟨rfl, rfl, rfl, rfl, trivial⟩ SubD.refl
      refine nl<|nx<|cdB rfl (fun h43 => ?_) (fun h43 => ?_)
      ·
        refine sq<|rg<|asg rfl rfl<|nl<|nx<|rt<|bR<|tR<|tR<|bR<|tR<|dpQ<|dpQ ?_
        exact fR1 () rfl rfl (by rw [soundP, if_neg (by rw [e21]; decide), if_neg (by rw [allI_false i (by omega) (by rw [show sndB ss i = true from h43]; rfl)]; decide)]) rfl SubD.nil
      ·
        refine sk<|bN<|nx<|rg<|adI rfl rfl (inI (by omega) (by omega)) rfl<|mv rfl rfl<|nl<|dpQ ?_
        exact ag (i + 1) ⟨(by omega), (all_snoc hall (by rw [show sndB ss i = false from h43]; rfl))⟩ (by omega) ⟨rfl, rfl, rfl, rfl, trivial⟩ rfl (SubD.cons 8 rfl (SubD.cons 9 rfl (SubD.cons 10 rfl (SubD.cons 11 rfl SubD.nil))))
    ·
      refine ex<|tE<|tE<|bE<|nx<|sq<|rg<|mv rfl rfl<|cfv (containsF_c _ _) ok_156 rfl (SubD.cons 3 rfl SubD.nil) rfl<|nt rfl rfl<|asg rfl rfl<|nl<|nx<|rt ?_
      refine dpQ ?_
      exact fR1 () rfl rfl (by rw [soundP, if_neg (by rw [e21]; decide), if_pos (allI_true (fun j hj => hall j (by omega)))]; try rfl) rfl SubD.nil
end Go.Proofs.YtmpoffijcfaalaaGreat

/- What accounts have: written by specs10.py. -/

namespace Go.Proofs.YtmpoffijcfaalaaGreat
open Go.Eng Go.YtmpoffijcfaalaaGreat

theorem eq_Right : EqTy Tryz.prog 59 cRight := by
  refine ⟨by kernel_rfl, fun a b w => ?_⟩
  rw [run_equalIn_struct w 9999 59 _ _ (by simp only [Program.fieldsOf, Tryz.underlying59]) (by kernel_rfl)]
  simp only [Program.fieldsOf, Tryz.underlying59]
  refine Eq.trans (eqG rfl Tryz.underlying3 rfl rfl rfl (eqFi Tryz.underlying3 _ _) (fun w => eqG rfl Tryz.underlying9 rfl rfl rfl (eqFs Tryz.underlying9 _ _) (fun w => eqG rfl Tryz.underlying3 rfl rfl rfl (eqFi Tryz.underlying3 _ _) (fun w => eqG rfl Tryz.underlying3 rfl rfl rfl (eqFi Tryz.underlying3 _ _) (fun w => eqF0 w))))) ?_
  congr 1
  obtain ⟨a0, a1, a2, a3⟩ := a
  obtain ⟨b0, b1, b2, b3⟩ := b
  simp [TRight.mk.injEq, Bool.and_assoc]

theorem eq_Total : EqTy Tryz.prog 78 cTotal := by
  refine ⟨by kernel_rfl, fun a b w => ?_⟩
  rw [run_equalIn_struct w 9999 78 _ _ (by simp only [Program.fieldsOf, Tryz.underlying78]) (by kernel_rfl)]
  simp only [Program.fieldsOf, Tryz.underlying78]
  refine Eq.trans (eqG rfl Tryz.underlying9 rfl rfl rfl (eqFs Tryz.underlying9 _ _) (fun w => eqGr (m := 2) (zs1 := #[.int .i64 a.fSpan.fLo, .int .i64 a.fSpan.fHi]) (zs2 := #[.int .i64 b.fSpan.fLo, .int .i64 b.fSpan.fHi]) (r := decide (a.fSpan.fLo = b.fSpan.fLo) && (decide (a.fSpan.fHi = b.fSpan.fHi) && true)) rfl Tryz.underlying65 rfl (by kernel_rfl) (by simp) (by simp) (fun w => ?_) (fun w => eqG rfl Tryz.underlying3 rfl rfl rfl (eqFi Tryz.underlying3 _ _) (fun w => eqF0 w)))) ?_
  · rw [run_equalIn_struct w 9998 65 _ _ (by simp only [Program.fieldsOf, Tryz.underlying65]) (by kernel_rfl)]
    simp only [Program.fieldsOf, Tryz.underlying65]
    exact eqG rfl Tryz.underlying3 rfl rfl rfl (eqFi Tryz.underlying3 _ _) (fun w => eqG rfl Tryz.underlying3 rfl rfl rfl (eqFi Tryz.underlying3 _ _) (fun w => eqF0 w))
  congr 1
  obtain ⟨a0, ⟨a1, a2⟩, a3⟩ := a
  obtain ⟨b0, ⟨b1, b2⟩, b3⟩ := b
  simp [TTotal.mk.injEq, TSpan.mk.injEq, Bool.and_assoc]

theorem net_c (v_l : Value) (l : List TRight) (gr : Int) (key : ByteArray) (n : Int) : FnV Tryz.prog 100 [v_l, .int .i64 gr, .string key, .int .i64 n] [⟨v_l, l⟩] (.int .i64 (netP l gr key n)) := by
  refine Fnc.proof Tryz.func100 rfl 31 rfl rfl fun X w => sq<|rg<|asg rfl rfl<|nl<|nx<|sq<|sq<|rg<|mv rfl rfl<|cfv (lcheck_c _ _) ok_59 rfl (SubD.cons 0 rfl SubD.nil) rfl<|neI rfl rfl rfl<|nl<|nx ?_
  refine cdN rfl (fun h13 => ?_) (fun h13 => ?_)
  ·
    refine sq<|rg<|asg rfl rfl<|nl<|nx<|rt<|tR ?_
    exact fR1 () rfl rfl (by rw [netP, if_pos h13]) rfl SubD.nil
  ·
    refine sk<|nx<|sq<|sq<|rg<|mv rfl rfl<|lnP 0 rfl rfl Tryz.underlying29 rfl fun l15 => mv rfl rfl<|nl<|nx<|bk<|lpC (σ := Nat) [(1, _), (2, _), (3, _), (14, _), (15, _)] _ (fun i C => (16, .int .i64 (i : Int)) :: C) (fun i => i ≤ l.length ∧ (∀ j, j < i → decide (l.getD j default = ({ fGroup := gr, fKey := key, fLease := n, fNet := (l.getD j default).fNet } : TRight)) = false)) (fun i => l.length - i) 0 ⟨rfl, rfl, rfl, rfl, rfl, trivial⟩ (SubD.cons 0 rfl SubD.nil) ⟨Nat.zero_le _, fun j hj => absurd hj (Nat.not_lt_zero j)⟩ ⟨rfl, rfl, rfl, rfl, rfl, rfl, trivial⟩ ?_
    rintro i ⟨hi, hall⟩
    refine sq<|rg<|ltI rfl rfl rfl<|nl<|nx<|sq<|cdP rfl (fun h17 => ?_) (fun h17 => ?_)
    ·
      refine sk<|nx<|sq<|bk<|sq<|rg<|ixP 0 rfl rfl rfl slt_29 (by omega) (getDE (d := default) (by omega)) rfl fun v18 => ldS 0 rfl rfl row_59 rfl fun q19 w19 => ?_
      refine al zero_59 rfl fun b10 => stW 0 (us := (cRight ((l.getD i default)))) rfl rfl rfl row_59 rfl rfl<|nl<|nx<|sq<|rg<|ldM 0 (cRight ((l.getD i default))) rfl rfl row_59 rfl rfl<|mv rfl rfl<|mv rfl rfl<|mv rfl rfl<|fa rfl fld_59_3 rfl<|ldB 0 rfl rfl one_3 rfl rfl<|bd (ps := [(0, .tmp 21), (1, .tmp 22), (2, .tmp 23), (3, .tmp 25)]) (cs := (cRight (({ fGroup := gr, fKey := key, fLease := n, fNet := (l.getD i default).fNet } : TRight)))) (by rfl) (by kernel_rfl) rfl<|eqT eq_Right ((l.getD i default)) (({ fGroup := gr, fKey := key, fLease := n, fNet := (l.getD i default).fNet } : TRight)) rfl rfl rfl ?_
      refine nl<|nx<|cdP rfl (fun h27 => ?_) (fun h27 => ?_)
      ·
        refine sq<|rg<|fa rfl fld_59_3 rfl<|ldB 0 rfl rfl one_3 rfl rfl<|asg rfl rfl<|nl<|nx<|rt<|bR<|tR<|tR<|bR<|tR<|dpQ ?_
        exact fR1 () rfl rfl (by rw [netP, if_neg (not_not_intro h13), firstI_some (j := i) (by omega) hall (decide_eq_true h27)]; try rfl) rfl SubD.nil
      ·
        refine sk<|bN<|nx<|rg<|adI rfl rfl (inI (by omega) (by omega)) rfl<|mv rfl rfl<|nl<|dpQ ?_
        exact ag (i + 1) ⟨(by omega), (all_snoc hall (decide_eq_false h27))⟩ (by omega) ⟨rfl, rfl, rfl, rfl, rfl, rfl, trivial⟩ rfl (SubD.cons 2 rfl SubD.nil)
    ·
      refine ex<|tE<|tE<|bE<|nx<|sq<|rg<|asg rfl rfl<|nl<|nx<|rt ?_
      exact fR1 () rfl rfl (by rw [netP, if_neg (not_not_intro h13), firstI_none (fun k hk => hall k (by omega))]; try rfl) rfl SubD.nil

theorem findD_c (v_l : Value) (l : List TDeal) (c q : Int) (h_c : InI c) (h_q : InI q) : FnV Tryz.prog 163 [v_l, .int .i64 c, .int .i64 q] [⟨v_l, l⟩] (.tuple #[.agg (cDeal (findD l c q)).toArray, .bool (isD l c q)]) := by
  refine Fnc.proof Tryz.func163 rfl 25 rfl rfl fun X w => ?_
  obtain ⟨h_c1, h_c2⟩ := id h_c
  obtain ⟨h_q1, h_q2⟩ := id h_q
  refine sq<|rg<|al zero_126 rfl fun b6 => asg rfl rfl<|nl<|nx<|sq<|rg<|mv rfl rfl<|mv rfl rfl<|mv rfl rfl<|cfv (place_c _ _ _ _ h_c h_q) ok_221 rfl (SubD.cons 0 rfl SubD.nil) rfl<|asg rfl rfl<|nl ?_
  refine nx<|sq<|sq<|rg<|mv rfl rfl<|ltI rfl rfl rfl<|mv rfl rfl ?_
  apply jo [(0, _), (6, _), (8, _)] ⟨rfl, rfl, rfl, trivial⟩
  ·
    intro K19
    refine spO (i := 15) rfl (fun h15 => ?_) (fun h15 => ?_)
    ·
      have p15 := of_decide_eq_false h15
      exact gY rfl rfl rfl<|mv rfl rfl<|gY rfl rfl rfl<|cfv (deals_c _ _) ok_183 rfl (SubD.cons 0 rfl SubD.nil) rfl<|gY rfl rfl rfl<|neI rfl rfl rfl<|pkF rfl rfl rfl<|jR K19 h15 ⟨rfl, rfl, rfl, trivial⟩ SubD.refl
    ·
      exact gS (g := [_, _, _]) rfl<|pkT rfl rfl rfl<|jR0 K19 h15 ⟨rfl, rfl, rfl, trivial⟩ SubD.refl
  refine nl<|nx<|cdB rfl (fun h19 => ?_) (fun h19 => ?_)
  ·
    exact sq<|rg<|bd (ps := []) (cs := (cDeal (({ fClient := 0, fSeq := 0, fKey := ByteArray.empty, fOther := ByteArray.empty, fN := 0, fMine := 0, fTheirs := 0, fFate := 0 } : TDeal)))) (by rfl) (by kernel_rfl) rfl<|stW 0 (us := (cDeal (({ fClient := 0, fSeq := 0, fKey := ByteArray.empty, fOther := ByteArray.empty, fN := 0, fMine := 0, fTheirs := 0, fFate := 0 } : TDeal)))) rfl rfl rfl row_126 rfl rfl<|asg rfl rfl<|nl<|nx<|rt<|tR<|fRG () [_] (rCT 0 rfl rfl rfl rfl row_126) (by rw [findD, isD, if_pos h19, if_pos h19]; rfl) rfl SubD.nil
  ·
    obtain ⟨k, hk, hkl⟩ := placeO_ok h19
    refine sk<|nx<|sq<|rg<|mv rfl rfl<|mv (v := .int .i64 ((k : Nat) : Int)) (congrArg (fun x => some (Value.int .i64 x)) (by rw [hk]; rfl)) rfl<|ixP 0 rfl rfl rfl slt_52 (by omega) (getDE (d := default) (by omega)) rfl fun v23 => ldS 0 rfl rfl row_126 rfl fun q24 w24 => ?_
    exact stW 0 (us := (cDeal ((l.getD k default)))) rfl rfl rfl row_126 rfl rfl<|asg rfl rfl<|nl<|nx<|rt<|fRG () [_] (rCT 0 rfl rfl rfl rfl row_126) (by rw [findD, isD, if_neg (by rw [h19]; decide), if_neg (by rw [h19]; decide), hk]; try rfl) rfl SubD.nil

theorem plainT_c (v_x : Value) (x : List TTotal) (v_y : Value) : FnV Tryz.prog 26 [v_x, v_y] [⟨v_x, x⟩, ⟨v_y, x⟩] (.bool true) := by
  refine Fnc.proof Tryz.func26 rfl 26 rfl rfl fun X w => sq<|rg<|asg rfl rfl<|nl<|nx<|sq<|sq<|rg<|mv rfl rfl<|lnP 0 rfl rfl Tryz.underlying72 rfl fun l7 => mv rfl rfl<|lnP 1 rfl rfl Tryz.underlying72 rfl fun l9 => neI rfl rfl rfl ?_
  refine nl<|nx<|cdN rfl (fun h10 => ?_) (fun h10 => ?_)
  ·
    exact absurd rfl h10 --#done
  ·
    refine sk<|nx<|sq<|sq<|rg<|asg rfl rfl<|nl<|nx<|bk<|lpC (σ := Nat) [(0, _), (1, _)] _ (fun i C => (5, .int .i64 (i : Int)) :: C) (fun i => i ≤ x.length) (fun i => x.length - i) 0 ⟨rfl, rfl, trivial⟩ (SubD.cons 0 rfl (SubD.cons 1 rfl SubD.nil)) (Nat.zero_le _) ⟨rfl, rfl, rfl, trivial⟩ ?_
    intro i hi
    refine sq<|sq<|rg<|mv rfl rfl<|mv rfl rfl<|lnP 0 rfl rfl Tryz.underlying72 rfl fun l13 => ltI rfl rfl rfl<|nl<|nx<|cdP rfl (fun h14 => ?_) (fun h14 => ?_)
    ·
      refine sk<|nx<|sq<|bk<|sq<|rgQ mixed (by kernel_rfl)<|mv rfl rfl<|mv rfl rfl<|ixP 0 rfl rfl rfl slt_72 (by omega) (getDE (d := default) (by omega)) rfl fun v19 => ldS 0 rfl rfl row_78 rfl fun q20 w20 => ?_
      refine mv rfl rfl<|mv rfl rfl<|ixP 3 rfl rfl rfl slt_72 (by omega) (getDE (d := default) (by omega)) rfl fun v23 => ldS 0 rfl rfl row_78 rfl fun q24 w24 => ?_
      refine neT eq_Total ((x.getD i default)) ((x.getD i default)) rfl rfl rfl<|nlQ<|nx<|cdN rfl (fun h25 => ?_) (fun h25 => ?_)
      ·
        exact absurd rfl h25 --#done
      ·
        refine sk<|bN<|nx<|rg<|mv rfl rfl<|adI rfl rfl (inI (by omega) (by omega)) rfl<|asg rfl rfl<|nl ?_
        exact ag (i + 1) (by omega) (by omega) ⟨rfl, rfl, rfl, trivial⟩ rfl (SubD.cons 4 rfl (SubD.cons 5 rfl SubD.nil))
    ·
      refine ex<|tE<|tE<|bE<|nx<|sq<|rg<|asg rfl rfl<|nl<|nx<|rt ?_
      exact fR1 () rfl rfl (by rfl) rfl SubD.nil
end Go.Proofs.YtmpoffijcfaalaaGreat
