/- Part 17 of dutyPlays_holds. -/
import Derived.Test.YtmpoffijcfaalaaGreatPl16

set_option maxRecDepth 20000
set_option maxHeartbeats 1000000
namespace Go.Proofs.YtmpoffijcfaalaaGreat
open Go.Eng Go.YtmpoffijcfaalaaGreat
section
theorem eq_Mark : EqTy Tryz.prog 122 cMark := by
 refine ⟨by kernel_rfl, fun a b w => ?_⟩
 rw [run_equalIn_struct w 9999 122 _ _ (by simp only [Program.fieldsOf, Tryz.underlying122]) (by kernel_rfl)]
 simp only [Program.fieldsOf, Tryz.underlying122]
 refine Eq.trans (eqG G Tryz.underlying3 G G G (eqFi Tryz.underlying3 _ _) (fun w => eqG G Tryz.underlying3 G G G (eqFi Tryz.underlying3 _ _) (fun w => eqG G Tryz.underlying4 G G G (eqFb Tryz.underlying4 _ _) (fun w => eqGr (m := 4) (zs1 := #[.int .i64 a.fAnswer.fErr, .int .i64 a.fAnswer.fValue, .int .i64 a.fAnswer.fLeast, .int .i64 a.fAnswer.fMost]) (zs2 := #[.int .i64 b.fAnswer.fErr, .int .i64 b.fAnswer.fValue, .int .i64 b.fAnswer.fLeast, .int .i64 b.fAnswer.fMost]) (r := (decide (a.fAnswer.fErr = b.fAnswer.fErr) && (decide (a.fAnswer.fValue = b.fAnswer.fValue) && (decide (a.fAnswer.fLeast = b.fAnswer.fLeast) && (decide (a.fAnswer.fMost = b.fAnswer.fMost) && true))))) G Tryz.underlying120 G (by kernel_rfl) (by simp) (by simp) (fun w => ?_) (fun w => eqF0 w))))) ?_
 ·
  rw [run_equalIn_struct w 9998 120 _ _ (by simp only [Program.fieldsOf, Tryz.underlying120]) (by kernel_rfl)]
  simp only [Program.fieldsOf, Tryz.underlying120]
  exact eqG G Tryz.underlying38 G G G (eqFi Tryz.underlying38 _ _) (fun w => eqG G Tryz.underlying3 G G G (eqFi Tryz.underlying3 _ _) (fun w => eqG G Tryz.underlying3 G G G (eqFi Tryz.underlying3 _ _) (fun w => eqG G Tryz.underlying3 G G G (eqFi Tryz.underlying3 _ _) (fun w => eqF0 w))))
 congr 1
 obtain ⟨a0, a1, a2, ⟨a3_0, a3_1, a3_2, a3_3⟩⟩ := a
 obtain ⟨b0, b1, b2, ⟨b3_0, b3_1, b3_2, b3_3⟩⟩ := b
 simp [TMark.mk.injEq, TAnswer.mk.injEq]
theorem eq_Wait : EqTy Tryz.prog 108 cWait := by
 refine ⟨by kernel_rfl, fun a b w => ?_⟩
 rw [run_equalIn_struct w 9999 108 _ _ (by simp only [Program.fieldsOf, Tryz.underlying108]) (by kernel_rfl)]
 simp only [Program.fieldsOf, Tryz.underlying108]
 refine Eq.trans (eqG G Tryz.underlying3 G G G (eqFi Tryz.underlying3 _ _) (fun w => eqG G Tryz.underlying3 G G G (eqFi Tryz.underlying3 _ _) (fun w => eqG G Tryz.underlying3 G G G (eqFi Tryz.underlying3 _ _) (fun w => eqG G Tryz.underlying3 G G G (eqFi Tryz.underlying3 _ _) (fun w => eqG G Tryz.underlying3 G G G (eqFi Tryz.underlying3 _ _) (fun w => eqGr (m := 6) (zs1 := #[.int .i64 a.fOp.fKind, .string a.fOp.fKey, .string a.fOp.fOther, .int .i64 a.fOp.fN, .int .i64 a.fOp.fLo, .int .i64 a.fOp.fHi]) (zs2 := #[.int .i64 b.fOp.fKind, .string b.fOp.fKey, .string b.fOp.fOther, .int .i64 b.fOp.fN, .int .i64 b.fOp.fLo, .int .i64 b.fOp.fHi]) (r := (decide (a.fOp.fKind = b.fOp.fKind) && (decide (a.fOp.fKey = b.fOp.fKey) && (decide (a.fOp.fOther = b.fOp.fOther) && (decide (a.fOp.fN = b.fOp.fN) && (decide (a.fOp.fLo = b.fOp.fLo) && (decide (a.fOp.fHi = b.fOp.fHi) && true))))))) G Tryz.underlying34 G (by kernel_rfl) (by simp) (by simp) (fun w => ?_) (fun w => eqF0 w))))))) ?_
 ·
  rw [run_equalIn_struct w 9998 34 _ _ (by simp only [Program.fieldsOf, Tryz.underlying34]) (by kernel_rfl)]
  simp only [Program.fieldsOf, Tryz.underlying34]
  exact eqG G Tryz.underlying3 G G G (eqFi Tryz.underlying3 _ _) (fun w => eqG G Tryz.underlying9 G G G (eqFs Tryz.underlying9 _ _) (fun w => eqG G Tryz.underlying9 G G G (eqFs Tryz.underlying9 _ _) (fun w => eqG G Tryz.underlying3 G G G (eqFi Tryz.underlying3 _ _) (fun w => eqG G Tryz.underlying3 G G G (eqFi Tryz.underlying3 _ _) (fun w => eqG G Tryz.underlying3 G G G (eqFi Tryz.underlying3 _ _) (fun w => eqF0 w))))))
 congr 1
 obtain ⟨a0, a1, a2, a3, a4, ⟨a5_0, a5_1, a5_2, a5_3, a5_4, a5_5⟩⟩ := a
 obtain ⟨b0, b1, b2, b3, b4, ⟨b5_0, b5_1, b5_2, b5_3, b5_4, b5_5⟩⟩ := b
 simp [TWait.mk.injEq, TOp.mk.injEq]
theorem eq_Deal : EqTy Tryz.prog 126 cDeal := by
 refine ⟨by kernel_rfl, fun a b w => ?_⟩
 rw [run_equalIn_struct w 9999 126 _ _ (by simp only [Program.fieldsOf, Tryz.underlying126]) (by kernel_rfl)]
 simp only [Program.fieldsOf, Tryz.underlying126]
 refine Eq.trans (eqG G Tryz.underlying3 G G G (eqFi Tryz.underlying3 _ _) (fun w => eqG G Tryz.underlying3 G G G (eqFi Tryz.underlying3 _ _) (fun w => eqG G Tryz.underlying9 G G G (eqFs Tryz.underlying9 _ _) (fun w => eqG G Tryz.underlying9 G G G (eqFs Tryz.underlying9 _ _) (fun w => eqG G Tryz.underlying3 G G G (eqFi Tryz.underlying3 _ _) (fun w => eqG G Tryz.underlying3 G G G (eqFi Tryz.underlying3 _ _) (fun w => eqG G Tryz.underlying3 G G G (eqFi Tryz.underlying3 _ _) (fun w => eqG G Tryz.underlying3 G G G (eqFi Tryz.underlying3 _ _) (fun w => eqF0 w))))))))) ?_
 congr 1
 obtain ⟨a0, a1, a2, a3, a4, a5, a6, a7⟩ := a
 obtain ⟨b0, b1, b2, b3, b4, b5, b6, b7⟩ := b
 simp [TDeal.mk.injEq]
theorem eq_End : EqTy Tryz.prog 129 cEnd := by
 refine ⟨by kernel_rfl, fun a b w => ?_⟩
 rw [run_equalIn_struct w 9999 129 _ _ (by simp only [Program.fieldsOf, Tryz.underlying129]) (by kernel_rfl)]
 simp only [Program.fieldsOf, Tryz.underlying129]
 refine Eq.trans (eqG G Tryz.underlying3 G G G (eqFi Tryz.underlying3 _ _) (fun w => eqG G Tryz.underlying3 G G G (eqFi Tryz.underlying3 _ _) (fun w => eqF0 w))) ?_
 congr 1
 obtain ⟨a0, a1⟩ := a
 obtain ⟨b0, b1⟩ := b
 simp [TEnd.mk.injEq]
theorem eq_Place : EqTy Tryz.prog 90 cPlace := by
 refine ⟨by kernel_rfl, fun a b w => ?_⟩
 rw [run_equalIn_struct w 9999 90 _ _ (by simp only [Program.fieldsOf, Tryz.underlying90]) (by kernel_rfl)]
 simp only [Program.fieldsOf, Tryz.underlying90]
 refine Eq.trans (eqG G Tryz.underlying3 G G G (eqFi Tryz.underlying3 _ _) (fun w => eqG G Tryz.underlying9 G G G (eqFs Tryz.underlying9 _ _) (fun w => eqG G Tryz.underlying3 G G G (eqFi Tryz.underlying3 _ _) (fun w => eqF0 w)))) ?_
 congr 1
 obtain ⟨a0, a1, a2⟩ := a
 obtain ⟨b0, b1, b2⟩ := b
 simp [TPlace.mk.injEq]
theorem eq_Age : EqTy Tryz.prog 62 cAge := by
 refine ⟨by kernel_rfl, fun a b w => ?_⟩
 rw [run_equalIn_struct w 9999 62 _ _ (by simp only [Program.fieldsOf, Tryz.underlying62]) (by kernel_rfl)]
 simp only [Program.fieldsOf, Tryz.underlying62]
 refine Eq.trans (eqG G Tryz.underlying3 G G G (eqFi Tryz.underlying3 _ _) (fun w => eqG G Tryz.underlying3 G G G (eqFi Tryz.underlying3 _ _) (fun w => eqG G Tryz.underlying3 G G G (eqFi Tryz.underlying3 _ _) (fun w => eqF0 w)))) ?_
 congr 1
 obtain ⟨a0, a1, a2⟩ := a
 obtain ⟨b0, b1, b2⟩ := b
 simp [TAge.mk.injEq]
variable (v_x : Value) (x : List TAccount) (v_y : Value) (y : List TAccount)
theorem plainMark_c (x : List TMark) (v_y : Value) (y : List TMark) : FnV Pg 65 [v_x, v_y] [⟨v_x, x⟩, ⟨v_y, y⟩] (.bool (decide (x = y))) := by
 refine Fnc.proof Tryz.func65 G 26 G G fun X w => gtC (q := x.length ≤ 9223372036854775807) (fun S w h => list_len (h _ (List.mem_of_getElem? (i := 0) G))) fun hlx => gtC (q := y.length ≤ 9223372036854775807) (fun S w h => list_len (h _ (List.mem_of_getElem? (i := 1) G))) fun hly => sa 1 G<|sq<|qg<|mv G G<|lnP 0 G G Tryz.underlying25 G fun l7 => mv G G<|lnP 1 G G Tryz.underlying25 G fun l9 => ru 1 G<|nl<|nx<|cdN G (fun h10 => ?_) (fun h10 => ?_)
 · exact sa 1 G<|rt<|tR<|fR1 () G G (by rw [plain_len (by omega)]) G Sn
 ·
  have hl : x.length = y.length := by omega
  refine sk<|nx<|sq<|sa 1 G<|bk<|lpC (σ := Nat) [(0, _), (1, _)] _ (fun i C => (5, .int .i64 (i : Int)) :: C) (fun i => i ≤ x.length ∧ (∀ j, j < i → x.getD j default = y.getD j default)) (fun i => x.length - i) 0 (Gs G) (Sc 0 G (Sc 1 G Sn)) ⟨Nat.zero_le _, fun j hj => absurd hj (Nat.not_lt_zero j)⟩ (Gs G) ?_
  rintro i ⟨hi, hall⟩
  refine sq<|qg<|ru 2 G<|lnP 0 G G Tryz.underlying25 G fun l13 => ru 1 G<|nl<|nx<|cdP G (fun h14 => ?_) (fun h14 => ?_)
  ·
   refine sk<|nx<|sq<|bk<|sq<|rgQ mixed (by kernel_rfl)<|ru 2 G<|ixP 0 G G G slt_25 (by omega) (gE (by omega)) G fun v19 => ldS 0 G G (Rg G) G fun q20 w20 => ru 2 G<|ixP 3 G G G slt_25 (by omega) (gE (by omega)) G fun v23 => ldS 0 G G (Rg G) G fun q24 w24 => neT eq_Mark ((x.getD i default)) ((y.getD i default)) G G G<|nlQ<|nx<|cdN G (fun h25 => ?_) (fun h25 => ?_)
   · exact sa 1 G<|rt<|bR<|tR<|tR<|bR<|tR<|fR1 () G G (by rw [plain_at i (by simpa using h25)]) G Sn
   ·
    refine sk<|bN<|nx<|rg<|mv G G<|adI G G (inI (by omega) (by omega)) G<|ru 1 G<|nl ?_
    exact ag (i + 1) ⟨(by omega), (all_snoc hall (by simpa using h25))⟩ (by omega) (Gs G) G (Si [4,5] G)
  · exact ex<|tE<|tE<|bE<|nx<|sa 1 G<|rt<|fR1 () G G (by rw [plain_all hl (fun j hj => hall j (by omega))]) G Sn
theorem plainWait_c (x : List TWait) (v_y : Value) (y : List TWait) : FnV Pg 66 [v_x, v_y] [⟨v_x, x⟩, ⟨v_y, y⟩] (.bool (decide (x = y))) := by
 refine Fnc.proof Tryz.func66 G 26 G G fun X w => gtC (q := x.length ≤ 9223372036854775807) (fun S w h => list_len (h _ (List.mem_of_getElem? (i := 0) G))) fun hlx => gtC (q := y.length ≤ 9223372036854775807) (fun S w h => list_len (h _ (List.mem_of_getElem? (i := 1) G))) fun hly => sa 1 G<|sq<|qg<|mv G G<|lnP 0 G G Tryz.underlying51 G fun l7 => mv G G<|lnP 1 G G Tryz.underlying51 G fun l9 => ru 1 G<|nl<|nx<|cdN G (fun h10 => ?_) (fun h10 => ?_)
 · exact sa 1 G<|rt<|tR<|fR1 () G G (by rw [plain_len (by omega)]) G Sn
 ·
  have hl : x.length = y.length := by omega
  refine sk<|nx<|sq<|sa 1 G<|bk<|lpC (σ := Nat) [(0, _), (1, _)] _ (fun i C => (5, .int .i64 (i : Int)) :: C) (fun i => i ≤ x.length ∧ (∀ j, j < i → x.getD j default = y.getD j default)) (fun i => x.length - i) 0 (Gs G) (Sc 0 G (Sc 1 G Sn)) ⟨Nat.zero_le _, fun j hj => absurd hj (Nat.not_lt_zero j)⟩ (Gs G) ?_
  rintro i ⟨hi, hall⟩
  refine sq<|qg<|ru 2 G<|lnP 0 G G Tryz.underlying51 G fun l13 => ru 1 G<|nl<|nx<|cdP G (fun h14 => ?_) (fun h14 => ?_)
  ·
   refine sk<|nx<|sq<|bk<|sq<|rgQ mixed (by kernel_rfl)<|ru 2 G<|ixP 0 G G G slt_51 (by omega) (gE (by omega)) G fun v19 => ldS 0 G G (Rg G) G fun q20 w20 => ru 2 G<|ixP 3 G G G slt_51 (by omega) (gE (by omega)) G fun v23 => ldS 0 G G (Rg G) G fun q24 w24 => neT eq_Wait ((x.getD i default)) ((y.getD i default)) G G G<|nlQ<|nx<|cdN G (fun h25 => ?_) (fun h25 => ?_)
   · exact sa 1 G<|rt<|bR<|tR<|tR<|bR<|tR<|fR1 () G G (by rw [plain_at i (by simpa using h25)]) G Sn
   ·
    refine sk<|bN<|nx<|rg<|mv G G<|adI G G (inI (by omega) (by omega)) G<|ru 1 G<|nl ?_
    exact ag (i + 1) ⟨(by omega), (all_snoc hall (by simpa using h25))⟩ (by omega) (Gs G) G (Si [4,5] G)
  · exact ex<|tE<|tE<|bE<|nx<|sa 1 G<|rt<|fR1 () G G (by rw [plain_all hl (fun j hj => hall j (by omega))]) G Sn
theorem plainDeal_c (x : List TDeal) (v_y : Value) (y : List TDeal) : FnV Pg 67 [v_x, v_y] [⟨v_x, x⟩, ⟨v_y, y⟩] (.bool (decide (x = y))) := by
 refine Fnc.proof Tryz.func67 G 26 G G fun X w => gtC (q := x.length ≤ 9223372036854775807) (fun S w h => list_len (h _ (List.mem_of_getElem? (i := 0) G))) fun hlx => gtC (q := y.length ≤ 9223372036854775807) (fun S w h => list_len (h _ (List.mem_of_getElem? (i := 1) G))) fun hly => sa 1 G<|sq<|qg<|mv G G<|lnP 0 G G Tryz.underlying52 G fun l7 => mv G G<|lnP 1 G G Tryz.underlying52 G fun l9 => ru 1 G<|nl<|nx<|cdN G (fun h10 => ?_) (fun h10 => ?_)
 · exact sa 1 G<|rt<|tR<|fR1 () G G (by rw [plain_len (by omega)]) G Sn
 ·
  have hl : x.length = y.length := by omega
  refine sk<|nx<|sq<|sa 1 G<|bk<|lpC (σ := Nat) [(0, _), (1, _)] _ (fun i C => (5, .int .i64 (i : Int)) :: C) (fun i => i ≤ x.length ∧ (∀ j, j < i → x.getD j default = y.getD j default)) (fun i => x.length - i) 0 (Gs G) (Sc 0 G (Sc 1 G Sn)) ⟨Nat.zero_le _, fun j hj => absurd hj (Nat.not_lt_zero j)⟩ (Gs G) ?_
  rintro i ⟨hi, hall⟩
  refine sq<|qg<|ru 2 G<|lnP 0 G G Tryz.underlying52 G fun l13 => ru 1 G<|nl<|nx<|cdP G (fun h14 => ?_) (fun h14 => ?_)
  ·
   refine sk<|nx<|sq<|bk<|sq<|rgQ mixed (by kernel_rfl)<|ru 2 G<|ixP 0 G G G slt_52 (by omega) (gE (by omega)) G fun v19 => ldS 0 G G (Rg G) G fun q20 w20 => ru 2 G<|ixP 3 G G G slt_52 (by omega) (gE (by omega)) G fun v23 => ldS 0 G G (Rg G) G fun q24 w24 => neT eq_Deal ((x.getD i default)) ((y.getD i default)) G G G<|nlQ<|nx<|cdN G (fun h25 => ?_) (fun h25 => ?_)
   · exact sa 1 G<|rt<|bR<|tR<|tR<|bR<|tR<|fR1 () G G (by rw [plain_at i (by simpa using h25)]) G Sn
   ·
    refine sk<|bN<|nx<|rg<|mv G G<|adI G G (inI (by omega) (by omega)) G<|ru 1 G<|nl ?_
    exact ag (i + 1) ⟨(by omega), (all_snoc hall (by simpa using h25))⟩ (by omega) (Gs G) G (Si [4,5] G)
  · exact ex<|tE<|tE<|bE<|nx<|sa 1 G<|rt<|fR1 () G G (by rw [plain_all hl (fun j hj => hall j (by omega))]) G Sn
theorem plainEnd_c (x : List TEnd) (v_y : Value) (y : List TEnd) : FnV Pg 68 [v_x, v_y] [⟨v_x, x⟩, ⟨v_y, y⟩] (.bool (decide (x = y))) := by
 refine Fnc.proof Tryz.func68 G 26 G G fun X w => gtC (q := x.length ≤ 9223372036854775807) (fun S w h => list_len (h _ (List.mem_of_getElem? (i := 0) G))) fun hlx => gtC (q := y.length ≤ 9223372036854775807) (fun S w h => list_len (h _ (List.mem_of_getElem? (i := 1) G))) fun hly => sa 1 G<|sq<|qg<|mv G G<|lnP 0 G G Tryz.underlying53 G fun l7 => mv G G<|lnP 1 G G Tryz.underlying53 G fun l9 => ru 1 G<|nl<|nx<|cdN G (fun h10 => ?_) (fun h10 => ?_)
 · exact sa 1 G<|rt<|tR<|fR1 () G G (by rw [plain_len (by omega)]) G Sn
 ·
  have hl : x.length = y.length := by omega
  refine sk<|nx<|sq<|sa 1 G<|bk<|lpC (σ := Nat) [(0, _), (1, _)] _ (fun i C => (5, .int .i64 (i : Int)) :: C) (fun i => i ≤ x.length ∧ (∀ j, j < i → x.getD j default = y.getD j default)) (fun i => x.length - i) 0 (Gs G) (Sc 0 G (Sc 1 G Sn)) ⟨Nat.zero_le _, fun j hj => absurd hj (Nat.not_lt_zero j)⟩ (Gs G) ?_
  rintro i ⟨hi, hall⟩
  refine sq<|qg<|ru 2 G<|lnP 0 G G Tryz.underlying53 G fun l13 => ru 1 G<|nl<|nx<|cdP G (fun h14 => ?_) (fun h14 => ?_)
  ·
   refine sk<|nx<|sq<|bk<|sq<|rgQ mixed (by kernel_rfl)<|ru 2 G<|ixP 0 G G G slt_53 (by omega) (gE (by omega)) G fun v19 => ldS 0 G G (Rg G) G fun q20 w20 => ru 2 G<|ixP 3 G G G slt_53 (by omega) (gE (by omega)) G fun v23 => ldS 0 G G (Rg G) G fun q24 w24 => neT eq_End ((x.getD i default)) ((y.getD i default)) G G G<|nlQ<|nx<|cdN G (fun h25 => ?_) (fun h25 => ?_)
   · exact sa 1 G<|rt<|bR<|tR<|tR<|bR<|tR<|fR1 () G G (by rw [plain_at i (by simpa using h25)]) G Sn
   ·
    refine sk<|bN<|nx<|rg<|mv G G<|adI G G (inI (by omega) (by omega)) G<|ru 1 G<|nl ?_
    exact ag (i + 1) ⟨(by omega), (all_snoc hall (by simpa using h25))⟩ (by omega) (Gs G) G (Si [4,5] G)
  · exact ex<|tE<|tE<|bE<|nx<|sa 1 G<|rt<|fR1 () G G (by rw [plain_all hl (fun j hj => hall j (by omega))]) G Sn
theorem plainPlace_c (x : List TPlace) (v_y : Value) (y : List TPlace) : FnV Pg 69 [v_x, v_y] [⟨v_x, x⟩, ⟨v_y, y⟩] (.bool (decide (x = y))) := by
 refine Fnc.proof Tryz.func69 G 26 G G fun X w => gtC (q := x.length ≤ 9223372036854775807) (fun S w h => list_len (h _ (List.mem_of_getElem? (i := 0) G))) fun hlx => gtC (q := y.length ≤ 9223372036854775807) (fun S w h => list_len (h _ (List.mem_of_getElem? (i := 1) G))) fun hly => sa 1 G<|sq<|qg<|mv G G<|lnP 0 G G Tryz.underlying22 G fun l7 => mv G G<|lnP 1 G G Tryz.underlying22 G fun l9 => ru 1 G<|nl<|nx<|cdN G (fun h10 => ?_) (fun h10 => ?_)
 · exact sa 1 G<|rt<|tR<|fR1 () G G (by rw [plain_len (by omega)]) G Sn
 ·
  have hl : x.length = y.length := by omega
  refine sk<|nx<|sq<|sa 1 G<|bk<|lpC (σ := Nat) [(0, _), (1, _)] _ (fun i C => (5, .int .i64 (i : Int)) :: C) (fun i => i ≤ x.length ∧ (∀ j, j < i → x.getD j default = y.getD j default)) (fun i => x.length - i) 0 (Gs G) (Sc 0 G (Sc 1 G Sn)) ⟨Nat.zero_le _, fun j hj => absurd hj (Nat.not_lt_zero j)⟩ (Gs G) ?_
  rintro i ⟨hi, hall⟩
  refine sq<|qg<|ru 2 G<|lnP 0 G G Tryz.underlying22 G fun l13 => ru 1 G<|nl<|nx<|cdP G (fun h14 => ?_) (fun h14 => ?_)
  ·
   refine sk<|nx<|sq<|bk<|sq<|rgQ mixed (by kernel_rfl)<|ru 2 G<|ixP 0 G G G slt_22 (by omega) (gE (by omega)) G fun v19 => ldS 0 G G (Rg G) G fun q20 w20 => ru 2 G<|ixP 3 G G G slt_22 (by omega) (gE (by omega)) G fun v23 => ldS 0 G G (Rg G) G fun q24 w24 => neT eq_Place ((x.getD i default)) ((y.getD i default)) G G G<|nlQ<|nx<|cdN G (fun h25 => ?_) (fun h25 => ?_)
   · exact sa 1 G<|rt<|bR<|tR<|tR<|bR<|tR<|fR1 () G G (by rw [plain_at i (by simpa using h25)]) G Sn
   ·
    refine sk<|bN<|nx<|rg<|mv G G<|adI G G (inI (by omega) (by omega)) G<|ru 1 G<|nl ?_
    exact ag (i + 1) ⟨(by omega), (all_snoc hall (by simpa using h25))⟩ (by omega) (Gs G) G (Si [4,5] G)
  · exact ex<|tE<|tE<|bE<|nx<|sa 1 G<|rt<|fR1 () G G (by rw [plain_all hl (fun j hj => hall j (by omega))]) G Sn
theorem plainRight_c (x : List TRight) (v_y : Value) (y : List TRight) : FnV Pg 22 [v_x, v_y] [⟨v_x, x⟩, ⟨v_y, y⟩] (.bool (decide (x = y))) := by
 refine Fnc.proof Tryz.func22 G 26 G G fun X w => gtC (q := x.length ≤ 9223372036854775807) (fun S w h => list_len (h _ (List.mem_of_getElem? (i := 0) G))) fun hlx => gtC (q := y.length ≤ 9223372036854775807) (fun S w h => list_len (h _ (List.mem_of_getElem? (i := 1) G))) fun hly => sa 1 G<|sq<|qg<|mv G G<|lnP 0 G G Tryz.underlying29 G fun l7 => mv G G<|lnP 1 G G Tryz.underlying29 G fun l9 => ru 1 G<|nl<|nx<|cdN G (fun h10 => ?_) (fun h10 => ?_)
 · exact sa 1 G<|rt<|tR<|fR1 () G G (by rw [plain_len (by omega)]) G Sn
 ·
  have hl : x.length = y.length := by omega
  refine sk<|nx<|sq<|sa 1 G<|bk<|lpC (σ := Nat) [(0, _), (1, _)] _ (fun i C => (5, .int .i64 (i : Int)) :: C) (fun i => i ≤ x.length ∧ (∀ j, j < i → x.getD j default = y.getD j default)) (fun i => x.length - i) 0 (Gs G) (Sc 0 G (Sc 1 G Sn)) ⟨Nat.zero_le _, fun j hj => absurd hj (Nat.not_lt_zero j)⟩ (Gs G) ?_
  rintro i ⟨hi, hall⟩
  refine sq<|qg<|ru 2 G<|lnP 0 G G Tryz.underlying29 G fun l13 => ru 1 G<|nl<|nx<|cdP G (fun h14 => ?_) (fun h14 => ?_)
  ·
   refine sk<|nx<|sq<|bk<|sq<|rgQ mixed (by kernel_rfl)<|ru 2 G<|ixP 0 G G G slt_29 (by omega) (gE (by omega)) G fun v19 => ldS 0 G G (Rg G) G fun q20 w20 => ru 2 G<|ixP 3 G G G slt_29 (by omega) (gE (by omega)) G fun v23 => ldS 0 G G (Rg G) G fun q24 w24 => neT eq_Right ((x.getD i default)) ((y.getD i default)) G G G<|nlQ<|nx<|cdN G (fun h25 => ?_) (fun h25 => ?_)
   · exact sa 1 G<|rt<|bR<|tR<|tR<|bR<|tR<|fR1 () G G (by rw [plain_at i (by simpa using h25)]) G Sn
   ·
    refine sk<|bN<|nx<|rg<|mv G G<|adI G G (inI (by omega) (by omega)) G<|ru 1 G<|nl ?_
    exact ag (i + 1) ⟨(by omega), (all_snoc hall (by simpa using h25))⟩ (by omega) (Gs G) G (Si [4,5] G)
  · exact ex<|tE<|tE<|bE<|nx<|sa 1 G<|rt<|fR1 () G G (by rw [plain_all hl (fun j hj => hall j (by omega))]) G Sn
theorem plainAge_c (x : List TAge) (v_y : Value) (y : List TAge) : FnV Pg 23 [v_x, v_y] [⟨v_x, x⟩, ⟨v_y, y⟩] (.bool (decide (x = y))) := by
 refine Fnc.proof Tryz.func23 G 26 G G fun X w => gtC (q := x.length ≤ 9223372036854775807) (fun S w h => list_len (h _ (List.mem_of_getElem? (i := 0) G))) fun hlx => gtC (q := y.length ≤ 9223372036854775807) (fun S w h => list_len (h _ (List.mem_of_getElem? (i := 1) G))) fun hly => sa 1 G<|sq<|qg<|mv G G<|lnP 0 G G Tryz.underlying30 G fun l7 => mv G G<|lnP 1 G G Tryz.underlying30 G fun l9 => ru 1 G<|nl<|nx<|cdN G (fun h10 => ?_) (fun h10 => ?_)
 · exact sa 1 G<|rt<|tR<|fR1 () G G (by rw [plain_len (by omega)]) G Sn
 ·
  have hl : x.length = y.length := by omega
  refine sk<|nx<|sq<|sa 1 G<|bk<|lpC (σ := Nat) [(0, _), (1, _)] _ (fun i C => (5, .int .i64 (i : Int)) :: C) (fun i => i ≤ x.length ∧ (∀ j, j < i → x.getD j default = y.getD j default)) (fun i => x.length - i) 0 (Gs G) (Sc 0 G (Sc 1 G Sn)) ⟨Nat.zero_le _, fun j hj => absurd hj (Nat.not_lt_zero j)⟩ (Gs G) ?_
  rintro i ⟨hi, hall⟩
  refine sq<|qg<|ru 2 G<|lnP 0 G G Tryz.underlying30 G fun l13 => ru 1 G<|nl<|nx<|cdP G (fun h14 => ?_) (fun h14 => ?_)
  ·
   refine sk<|nx<|sq<|bk<|sq<|rgQ mixed (by kernel_rfl)<|ru 2 G<|ixP 0 G G G slt_30 (by omega) (gE (by omega)) G fun v19 => ldS 0 G G (Rg G) G fun q20 w20 => ru 2 G<|ixP 3 G G G slt_30 (by omega) (gE (by omega)) G fun v23 => ldS 0 G G (Rg G) G fun q24 w24 => neT eq_Age ((x.getD i default)) ((y.getD i default)) G G G<|nlQ<|nx<|cdN G (fun h25 => ?_) (fun h25 => ?_)
   · exact sa 1 G<|rt<|bR<|tR<|tR<|bR<|tR<|fR1 () G G (by rw [plain_at i (by simpa using h25)]) G Sn
   ·
    refine sk<|bN<|nx<|rg<|mv G G<|adI G G (inI (by omega) (by omega)) G<|ru 1 G<|nl ?_
    exact ag (i + 1) ⟨(by omega), (all_snoc hall (by simpa using h25))⟩ (by omega) (Gs G) G (Si [4,5] G)
  · exact ex<|tE<|tE<|bE<|nx<|sa 1 G<|rt<|fR1 () G G (by rw [plain_all hl (fun j hj => hall j (by omega))]) G Sn
theorem sameAccs_c : FnV Pg 141 [v_x, v_y, .func (.func 142) #[] #[]] [⟨v_x, x⟩, ⟨v_y, y⟩] (.bool (allSame sameAcc x y)) := by
 refine Fnc.proof Tryz.func141 G 30 G G fun X w => gtC (q := x.length ≤ 9223372036854775807) (fun S w h => list_len (h _ (List.mem_of_getElem? (i := 0) G))) fun hlx => gtC (q := y.length ≤ 9223372036854775807) (fun S w h => list_len (h _ (List.mem_of_getElem? (i := 1) G))) fun hly => sa 1 G<|sq<|qg<|mv G G<|lnP 0 G G Tryz.underlying50 G fun l9 => mv G G<|lnP 1 G G Tryz.underlying50 G fun l11 => ru 1 G<|nl<|nx<|cdN G (fun h12 => ?_) (fun h12 => ?_)
 · exact sa 1 G<|rt<|tR<|fR1 () G G (by rw [all_len (by omega)]) G Sn
 ·
  have hl : x.length = y.length := by omega
  refine sk<|nx<|sq<|sa 1 G<|bk<|lpC (σ := Nat) [(0, _), (1, _), (2, _)] _ (fun i C => (7, .int .i64 (i : Int)) :: C) (fun i => i ≤ x.length ∧ (∀ j, j < i → sameAcc (x.getD j default) (y.getD j default) = true)) (fun i => x.length - i) 0 (Gs G) (Sc 0 G (Sc 1 G Sn)) ⟨Nat.zero_le _, fun j hj => absurd hj (Nat.not_lt_zero j)⟩ (Gs G) ?_
  rintro i ⟨hi, hall⟩
  refine sq<|qg<|ru 2 G<|lnP 0 G G Tryz.underlying50 G fun l15 => ru 1 G<|nl<|nx<|cdP G (fun h16 => ?_) (fun h16 => ?_)
  ·
   refine sk<|nx<|sq<|bk<|sq<|rgT 9 mixed (by kernel_rfl)<|ru 3 G<|ixP 0 G G G slt_50 (by omega) (gE (by omega)) G fun v22 => ldS 0 G G (Rg G) G fun q23 w23 => ru 2 G<|ixP 4 G G G slt_50 (by omega) (gE (by omega)) G fun v26 => ldS 0 G G (Rg G) G fun q27 w27 => nlT<|cfc (sameAcc_c _ _ _ _ w23 w27) ok_142 G G G (Si [4,1] G) G fun y28 v28 h28 => ?_
   subst h28
   refine nt G G<|nl<|nx<|cdB G (fun h29 => ?_) (fun h29 => ?_)
   · exact sa 1 G<|rt<|bR<|tR<|tR<|bR<|tR<|fR1 () G G (by rw [all_no i (by omega) (not_true h29)]) G Sn
   ·
    refine sk<|bN<|nx<|rg<|mv G G<|adI G G (inI (by omega) (by omega)) G<|ru 1 G<|nl ?_
    exact ag (i + 1) ⟨(by omega), (all_snoc hall (not_false' h29))⟩ (by omega) (Gs G) G (Si [6,7] G)
  · exact ex<|tE<|tE<|bE<|nx<|sa 1 G<|rt<|fR1 () G G (by rw [all_yes hl (fun j hj => hall j (by omega))]) G Sn
theorem accounts_c : FnV Pg 64 [v_x, v_y] [⟨v_x, x⟩, ⟨v_y, y⟩] (.bool (allSame sameAcc x y)) := by
 exact Fnc.proof Tryz.func64 G 8 G G fun X w => sa 1 G<|qg<|ru 2 G<|cfv (sameAccs_c _ _ _ _) ok_141 G (Si [0,1] G) G<|ru 1 G<|nl<|nx<|rt<|fR1 () G G (by rfl) G Sn
theorem sameCmds_c (x : List TCommand) (v_y : Value) (y : List TCommand) : FnV Pg 63 [v_x, v_y, .func (.func 11) #[] #[]] [⟨v_x, x⟩, ⟨v_y, y⟩] (.bool (allSame sameCmd x y)) := by
 refine Fnc.proof Tryz.func63 G 30 G G fun X w => gtC (q := x.length ≤ 9223372036854775807) (fun S w h => list_len (h _ (List.mem_of_getElem? (i := 0) G))) fun hlx => gtC (q := y.length ≤ 9223372036854775807) (fun S w h => list_len (h _ (List.mem_of_getElem? (i := 1) G))) fun hly => sa 1 G<|sq<|qg<|mv G G<|lnP 0 G G Tryz.underlying45 G fun l9 => mv G G<|lnP 1 G G Tryz.underlying45 G fun l11 => ru 1 G<|nl<|nx<|cdN G (fun h12 => ?_) (fun h12 => ?_)
 · exact sa 1 G<|rt<|tR<|fR1 () G G (by rw [all_len (by omega)]) G Sn
 ·
  have hl : x.length = y.length := by omega
  refine sk<|nx<|sq<|sa 1 G<|bk<|lpC (σ := Nat) [(0, _), (1, _), (2, _)] _ (fun i C => (7, .int .i64 (i : Int)) :: C) (fun i => i ≤ x.length ∧ (∀ j, j < i → sameCmd (x.getD j default) (y.getD j default) = true)) (fun i => x.length - i) 0 (Gs G) (Sc 0 G (Sc 1 G Sn)) ⟨Nat.zero_le _, fun j hj => absurd hj (Nat.not_lt_zero j)⟩ (Gs G) ?_
  rintro i ⟨hi, hall⟩
  refine sq<|qg<|ru 2 G<|lnP 0 G G Tryz.underlying45 G fun l15 => ru 1 G<|nl<|nx<|cdP G (fun h16 => ?_) (fun h16 => ?_)
  ·
   refine sk<|nx<|sq<|bk<|sq<|rgT 9 mixed (by kernel_rfl)<|ru 3 G<|ixP 0 G G G slt_45 (by omega) (gE (by omega)) G fun v22 => ldS 0 G G (Rg G) G fun q23 w23 => ru 2 G<|ixP 4 G G G slt_45 (by omega) (gE (by omega)) G fun v26 => ldS 0 G G (Rg G) G fun q27 w27 => nlT<|cfc (sameCmd_c _ _ _ _) ok_11 G G G (Si [4,1] G) G fun y28 v28 h28 => ?_
   subst h28
   refine nt G G<|nl<|nx<|cdB G (fun h29 => ?_) (fun h29 => ?_)
   · exact sa 1 G<|rt<|bR<|tR<|tR<|bR<|tR<|fR1 () G G (by rw [all_no i (by omega) (not_true h29)]) G Sn
   ·
    refine sk<|bN<|nx<|rg<|mv G G<|adI G G (inI (by omega) (by omega)) G<|ru 1 G<|nl ?_
    exact ag (i + 1) ⟨(by omega), (all_snoc hall (not_false' h29))⟩ (by omega) (Gs G) G (Si [6,7] G)
  · exact ex<|tE<|tE<|bE<|nx<|sa 1 G<|rt<|fR1 () G G (by rw [all_yes hl (fun j hj => hall j (by omega))]) G Sn
theorem commands_c (x : List TCommand) (v_y : Value) (y : List TCommand) : FnV Pg 19 [v_x, v_y] [⟨v_x, x⟩, ⟨v_y, y⟩] (.bool (allSame sameCmd x y)) := by
 exact Fnc.proof Tryz.func19 G 8 G G fun X w => sa 1 G<|qg<|ru 2 G<|cfv (sameCmds_c _ _ _ _) ok_63 G (Si [0,1] G) G<|ru 1 G<|nl<|nx<|rt<|fR1 () G G (by rfl) G Sn
theorem sameState_c (x : TState) (x_0 x_1 x_2 x_3 x_4 x_5 : Value) (y : TState) (y_0 y_1 y_2 y_3 y_4 y_5 : Value) (h_x : x.wf) (h_y : y.wf) : FnV Pg 20 [.agg (cState x x_0 x_1 x_2 x_3 x_4 x_5).toArray, .agg (cState y y_0 y_1 y_2 y_3 y_4 y_5).toArray] [⟨x_0, x.fAccounts⟩, ⟨x_1, x.fMarks⟩, ⟨x_2, x.fWaits⟩, ⟨x_3, x.fDeals⟩, ⟨x_4, x.fEnds⟩, ⟨x_5, x.fImage⟩, ⟨y_0, y.fAccounts⟩, ⟨y_1, y.fMarks⟩, ⟨y_2, y.fWaits⟩, ⟨y_3, y.fDeals⟩, ⟨y_4, y.fEnds⟩, ⟨y_5, y.fImage⟩] (.bool (sameState x y)) := by
 refine Fnc.proof Tryz.func20 G 123 G G fun X w => qg<|bx G G G fun b2 => bx G G G fun b3 => ru 1 G<|nl<|nx<|sq<|qg<|rl 3 [1] G G<|rl 3 [0] G G<|jb 10 6 [1,0] [2,3] G G G<|mv G G<|jz 17 6 [2,3] G G (fun h17 K23 => rl 4 [1,0] G G<|gY G G G<|neBo Tryz.underlying4 G G G<|ru 1 G<|K23 G Sr)<|mv G G<|jb 24 6 [1,0] [2,3] G G G<|mv G G<|jb 31 6 [1,0] [2,3] G G G<|mv G G<|jb 38 6 [1,0] [2,3] G G G<|mv G G<|jz 45 7 [2,3] G G (fun h45 K52 => rl 4 [1,0] G G<|gY G G G<|cfv (accounts_c _ _ _ _) ok_64 G (Si [0,6] G) G<|ru 2 G<|K52 G Sr)<|mv G G ?_
 refine jz 53 7 [2,3] G G (fun h53 K60 => rl 4 [1,0] G G<|gY G G G<|cfv (plainMark_c _ _ _ _) ok_65 G (Si [1,7] G) G<|ru 2 G<|K60 G Sr)<|mv G G<|jz 61 7 [2,3] G G (fun h61 K68 => rl 4 [1,0] G G<|gY G G G<|cfv (plainWait_c _ _ _ _) ok_66 G (Si [2,8] G) G<|ru 2 G<|K68 G Sr)<|nl<|nx<|cdB G (fun h68 => ?_) (fun h68 => ?_)
 ·
  have e68 : (sameState1 x y) = true := h68
  exact sa 1 G<|rt<|tR<|dpQ<|dpQ<|fR1 () G G (by rw [sameState, e68]; try rfl) G Sn
 ·
  have e68 : (sameState1 x y) = false := h68
  refine sk<|nx<|qg<|rl 4 [1,0] G G<|cfv (plainDeal_c _ _ _ _) ok_67 G (Si [3,9] G) G<|mv G G<|jy 74 6 [2,3] G G (fun h74 K80 => rl 4 [1,0] G G<|gY G G G<|cfv (plainEnd_c _ _ _ _) ok_68 G (Si [4,10] G) G<|ru 1 G<|K80 G Sr)<|mv G G<|jy 81 6 [2,3] G G (fun h81 K87 => ru 1 G<|gY G G G<|ldM 1 (cPlan x.fSeal) G G (Rg G) G G<|ru 1 G<|gY G G G<|ldM 0 (cPlan y.fSeal) G G (Rg G) G G<|gY G G G<|eqT eq_Plan (x.fSeal) (y.fSeal) G G G<|ru 1 G<|K87 G Sr)<|mv G G<|jy 88 6 [2,3] G G (fun h88 K94 => ru 1 G<|gY G G G<|ldM 1 (cPlan x.fOut) G G (Rg G) G G<|ru 1 G<|gY G G G<|ldM 0 (cPlan y.fOut) G G (Rg G) G G<|gY G G G<|eqT eq_Plan (x.fOut) (y.fOut) G G G<|ru 1 G<|K94 G Sr)<|mv G G<|jy 95 6 [2,3] G G (fun h95 K101 => rl 4 [1,0] G G<|gY G G G<|cfv (sameBytes_c _ _ _ _) ok_41 G (Si [5,11] G) G<|ru 1 G<|K101 G Sr)<|mv G G<|ja 102 6 [1,0] [2,3] G G G<|mv G G<|ja 109 6 [1,0] [2,3] G G G<|mv G G<|ja 116 6 [1,0] [] G G G ?_
  exact ru 1 G<|nl<|nx<|rt<|dpQ<|dpQ<|fR1 () G G (by rw [sameState, e68]; try rfl) G Sn
theorem sameChart_c (x : TChart) (x_0 x_1 : Value) (y : TChart) (y_0 y_1 : Value) (h_x : x.wf) (h_y : y.wf) : FnV Pg 21 [.agg (cChart x x_0 x_1).toArray, .agg (cChart y y_0 y_1).toArray] [⟨x_0, x.fPlaces⟩, ⟨x_1, x.fMarks⟩, ⟨y_0, y.fPlaces⟩, ⟨y_1, y.fMarks⟩] (.bool (sameChart x y)) := by
 refine Fnc.proof Tryz.func21 G 45 G G fun X w => qg<|bx G G G fun b2 => bx G G G fun b3 => ru 1 G<|nl<|nx<|qg<|rl 4 [1,0] G G<|ru 2 G ?_
 refine jy 10 6 [2,3] G G (fun h10 K16 => by
  have p10 := of_decide_eq_true h10
  exact rl 4 [1,0] G G<|gY G G G<|cfv (plainPlace_c _ _ _ _) ok_69 G (Si [0,2] G) G<|ru 1 G<|K16 G Sr) ?_
 exact mv G G<|ja 17 6 [1,0] [2,3] G G G<|mv G G<|ja 24 6 [1,0] [2,3] G G G<|mv G G<|jy 31 6 [2,3] G G (fun h31 K37 => ru 1 G<|gY G G G<|ldM 1 (cPlan x.fPlan) G G (Rg G) G G<|ru 1 G<|gY G G G<|ldM 0 (cPlan y.fPlan) G G (Rg G) G G<|gY G G G<|eqT eq_Plan (x.fPlan) (y.fPlan) G G G<|ru 1 G<|K37 G Sr)<|mv G G<|jy 38 6 [] G G (fun h38 K44 => rl 4 [1,0] G G<|gY G G G<|cfv (plainMark_c _ _ _ _) ok_65 G (Si [1,3] G) G<|ru 1 G<|K44 G Sr)<|ru 1 G<|nl<|nx<|rt<|dpQ<|dpQ<|fR1 () G G (by rfl) G Sn
end
theorem copyAcc_c (a : TAccount) (a_0 : Value) (h_a : a.wf) (hb : a.fHolders.length ≤ 1048576) : Fnc Pg 170 [.agg (cAccount a a_0).toArray] [] [⟨a_0, a.fHolders⟩] (fun (y : Value) u => u = .agg (cAccount a y).toArray) (fun _ _ => []) (fun y _ => [⟨y, a.fHolders⟩]) := by
 exact Fnc.proof Tryz.func170 G 8 G G fun X w => qg<|bx G G G fun b1 => al zero_70 G fun b2 => nl<|nx<|qg<|rl 2 [1] G G<|rwL THolder 165<|ap 0 0 G G G G app_66 (by simp only [List.length_nil]; omega) (by simp only [List.length_nil]; omega) G fun v5 => frRL<|ru 1 G<|stL 1 0 G G G G (Og G) (nlt G)<|nl<|nx<|qg<|ldM 1 (cAccount ((⟨a.fKey, (⟨a.fSpan.fLo, a.fSpan.fHi⟩ : TSpan), a.fBase, a.fRound, a.fHolders, (⟨a.fLock.fClient, a.fLock.fSeq, a.fLock.fHome, a.fLock.fN⟩ : TLock)⟩ : TAccount)) v5) G G (Rg G) G G<|oc 0 G fun o_v5 => stW 0 (us := (cAccount ((⟨a.fKey, (⟨a.fSpan.fLo, a.fSpan.fHi⟩ : TSpan), a.fBase, a.fRound, a.fHolders, (⟨a.fLock.fClient, a.fLock.fSeq, a.fLock.fHome, a.fLock.fN⟩ : TLock)⟩ : TAccount)) v5)) G G G (Rg G) (by simp only [List.all_cons, List.all_nil, Bool.and_true, o_v5]; rfl) G<|nl<|nx<|rt<|fRG v5 [_, _] (rC 0 G G G (Rg G)) (by rfl) G (Sc 0 G Sn)
theorem copyAccs_c (v_l : Value) (l : List TAccount) (hl : l.length ≤ 1048576) (hb : ∀ j, (l.getD j default).fHolders.length ≤ 1048576) : Fnc Pg 96 [v_l] [] [⟨v_l, l⟩] (fun (_ : Unit) _ => True) (fun _ _ => []) (fun _ v => [⟨v, l⟩]) := by
 refine Fnc.proof Tryz.func96 G 20 G G fun X w => sa 1 G<|sa 1 G<|sq<|sa 1 G<|bk<|rwC TAccount 70<|lpE (σ := Nat × Value) [(0, _)] _ (fun s C => (4, .int .i64 (s.1 : Int)) :: (3, s.2) :: C) (fun s => [row 70 s.2 (l.take s.1), fz X w]) (fun _ Dc => Dc) (fun s => s.1 ≤ l.length) (fun s => l.length - s.1) (0, _) ⟨G, trivial⟩ (Sc 0 G Sn) (Nat.zero_le _) (Gs G) G (Sc 0 G Sn) ?_
 rintro ⟨i, rv⟩ hi
 simp only at hi
 show WC _ _ _ [(4, .int .i64 ((i : Int))), (3, _), (0, _)] [row 70 rv (l.take i), fz X w] _
 refine sq<|qg<|ru 2 G<|lnP 0 G G Tryz.underlying50 G fun l7 => ru 1 G<|nl<|nx<|cdP G (fun h8 => ?_) (fun h8 => ?_)
 ·
  refine sk<|nx<|sq<|bk<|rg<|ru 3 G<|ixP 0 G G G slt_50 (by omega) (gE (by omega)) G fun v14 => ldS 0 G G (Rg G) G fun q15 w15 => cf (copyAcc_c _ _ w15 (hb i)) ok_170 G (Sc 1 G Sn) G fun y16 v16 h16 => ?_
  subst h16
  refine bsM G app_50 G G G G fun b17 => ?_
  refine frS1 (α := TAccount) (l.getD i default) (fun S w h => ⟨y16, G, fun t ht => by
    simp only [List.mem_cons, List.not_mem_nil, or_false] at ht
    subst ht
    · exact h _ (List.mem_of_getElem? (i := 0) G), w15⟩) ?_
  refine ap 0 0 G G G G app_50 (by have := List.length_take_le i l; simp only [List.length_cons, List.length_nil]; omega) (by have := List.length_take_le i l; simp only [List.length_cons, List.length_nil]; omega) G fun v18 => ru 1 G<|nl<|bN<|nx<|rg<|mv G G<|adI G G (inI (by omega) (by omega)) G<|ru 1 G<|nl ?_
  rw [take_snoc (by omega)]
  exact ag ((i + 1, v18) : Nat × Value) (by show i + 1 ≤ l.length; omega) (by show l.length - (i + 1) < l.length - i; omega) (Gs G) G (Sc 5 G Sn)
 ·
  obtain rfl : i = l.length := by omega
  rw [List.take_length]
  exact ex<|tE<|tE<|bE<|nx<|sa 2 G<|rt<|frRQ<|fR1 () G G trivial G (Sc 0 G Sn)
theorem copyChart_c (c : TChart) (c_0 c_1 : Value) (h_c : c.wf) (h1 : c.fPlaces.length ≤ 1048576) (h2 : c.fMarks.length ≤ 1048576) : Fnc Pg 42 [.agg (cChart c c_0 c_1).toArray] [] [⟨c_0, c.fPlaces⟩, ⟨c_1, c.fMarks⟩] (fun (y : Value × Value) u => u = .agg (cChart c y.1 y.2).toArray) (fun _ _ => []) (fun y _ => [⟨y.1, c.fPlaces⟩, ⟨y.2, c.fMarks⟩]) := by
 exact Fnc.proof Tryz.func42 G 12 G G fun X w => qg<|bx G G G fun b1 => al zero_27 G fun b2 => nl<|nx<|qg<|rl 2 [1] G G<|rwL TPlace 90<|ap 0 0 G G G G app_22 (by simp only [List.length_nil]; omega) (by simp only [List.length_nil]; omega) G fun v5 => frRL<|ru 1 G<|stL 1 0 G G G G (Og G) (nlt G)<|nl<|nx<|qg<|rl 2 [1] G G<|rwL TMark 122<|ap 0 2 G G G G app_25 (by simp only [List.length_nil]; omega) (by simp only [List.length_nil]; omega) G fun v9 => frRL<|ru 1 G<|stL 1 0 G G G G (Og G) (nlt G)<|nl<|nx<|qg<|ldM 1 (cChart ((⟨c.fIndex, c.fPlaces, c.fNext, c.fLast, (⟨c.fPlan.fNumber, c.fPlan.fFrom, c.fPlan.fTo, c.fPlan.fLo, c.fPlan.fHi, c.fPlan.fClient, c.fPlan.fSeq⟩ : TPlan), c.fMarks⟩ : TChart)) v5 v9) G G (Rg G) G G<|oc 1 G fun o_v5 => oc 0 G fun o_v9 => stW 0 (us := (cChart ((⟨c.fIndex, c.fPlaces, c.fNext, c.fLast, (⟨c.fPlan.fNumber, c.fPlan.fFrom, c.fPlan.fTo, c.fPlan.fLo, c.fPlan.fHi, c.fPlan.fClient, c.fPlan.fSeq⟩ : TPlan), c.fMarks⟩ : TChart)) v5 v9)) G G G (Rg G) (by simp only [List.all_cons, List.all_nil, Bool.and_true, o_v5, o_v9]; rfl) G<|nl<|nx<|rt<|fRG ⟨v5, v9⟩ [_, _] (rC 0 G G G (Rg G)) (by rfl) G (Sc 1 G (Sc 0 G Sn))
theorem bkA {n k : Nat} (h : n ≤ 1048576) (hk : k ≤ 1000000) : (0 + n) * k ≤ 140737488355328 := by
 have := Nat.mul_le_mul h hk
 rw [Nat.zero_add]
 omega
theorem bkB {n : Nat} (h : n ≤ 1048576) : 0 + n ≤ 140737488355328 := by omega
theorem copyState_c (S : TState) (s_0 s_1 s_2 s_3 s_4 s_5 : Value) (h_S : S.wf) (hb : BkS S) : Fnc Pg 43 [.agg (cState S s_0 s_1 s_2 s_3 s_4 s_5).toArray] [] [⟨s_0, S.fAccounts⟩, ⟨s_1, S.fMarks⟩, ⟨s_2, S.fWaits⟩, ⟨s_3, S.fDeals⟩, ⟨s_4, S.fEnds⟩, ⟨s_5, S.fImage⟩] (fun (y : sState.H) u => u = .agg (cState S (y.1) (y.2.1) (y.2.2.1) (y.2.2.2.1) (y.2.2.2.2.1) (y.2.2.2.2.2)).toArray) (fun _ _ => []) (fun y _ => [⟨y.1, S.fAccounts⟩, ⟨y.2.1, S.fMarks⟩, ⟨y.2.2.1, S.fWaits⟩, ⟨y.2.2.2.1, S.fDeals⟩, ⟨y.2.2.2.2.1, S.fEnds⟩, ⟨y.2.2.2.2.2, S.fImage⟩]) := by
 refine Fnc.proof Tryz.func43 G 28 G G fun X w => ?_
 obtain ⟨hb1, hb2, hb3, hb4, hb5, hb6, hb7⟩ := hb
 refine qg<|bx G G G fun b1 => al zero_55 G fun b2 => nl<|nx<|qg<|rl 2 [1] G G<|cf (copyAccs_c _ _ hb1 hb2) ok_96 G (Sc 0 G Sn) G fun _ v5 _ => ru 1 G<|stL 1 0 G G G G (Og G) (nlt G)<|nl<|nx<|qg<|rl 2 [1] G G<|rwL TMark 122<|ap 0 2 G G G G app_25 (by first | exact bkA hb3 (by decide) | exact bkB hb3) (by first | exact bkA hb3 (by decide) | exact bkB hb3) G fun v9 => frRL<|ru 1 G<|stL 1 0 G G G G (Og G) (nlt G)<|nl<|nx<|qg<|rl 2 [1] G G<|rwL TWait 108<|ap 0 4 G G G G app_51 (by first | exact bkA hb4 (by decide) | exact bkB hb4) (by first | exact bkA hb4 (by decide) | exact bkB hb4) G fun v13 => frRL<|ru 1 G<|stL 1 0 G G G G (Og G) (nlt G)<|nl<|nx<|qg<|rl 2 [1] G G<|rwL TDeal 126<|ap 0 6 G G G G app_52 (by first | exact bkA hb5 (by decide) | exact bkB hb5) (by first | exact bkA hb5 (by decide) | exact bkB hb5) G fun v17 => frRL<|ru 1 G<|stL 1 0 G G G G (Og G) (nlt G)<|nl<|nx<|qg<|rl 2 [1] G G<|rwL TEnd 129<|ap 0 8 G G G G app_53 (by first | exact bkA hb6 (by decide) | exact bkB hb6) (by first | exact bkA hb6 (by decide) | exact bkB hb6) G fun v21 => frRL<|ru 1 G<|stL 1 0 G G G G (Og G) (nlt G)<|nl<|nx<|qg<|rl 2 [1] G G<|rwL UInt8 5<|ap 0 10 G G G G app_35 (by first | exact bkA hb7 (by decide) | exact bkB hb7) (by first | exact bkA hb7 (by decide) | exact bkB hb7) G fun v25 => frRL<|ru 1 G<|stL 1 0 G G G G (Og G) (nlt G)<|nl<|nx<|qg ?_
 have hbr := hb1
 exact ldM 1 (cState ((⟨S.fGroup, S.fIndex, S.fOwns, S.fLo, S.fHi, S.fEpoch, S.fAccounts, S.fMarks, S.fWaits, S.fDeals, S.fEnds, (⟨S.fSeal.fNumber, S.fSeal.fFrom, S.fSeal.fTo, S.fSeal.fLo, S.fSeal.fHi, S.fSeal.fClient, S.fSeal.fSeq⟩ : TPlan), (⟨S.fOut.fNumber, S.fOut.fFrom, S.fOut.fTo, S.fOut.fLo, S.fOut.fHi, S.fOut.fClient, S.fOut.fSeq⟩ : TPlan), S.fImage, S.fAbsorbed, S.fRefused, S.fUndone⟩ : TState)) v5 v9 v13 v17 v21 v25) G G (Rg G) G G<|oc 5 G fun o_v5 => oc 4 G fun o_v9 => oc 3 G fun o_v13 => oc 2 G fun o_v17 => oc 1 G fun o_v21 => oc 0 G fun o_v25 => stW 0 (us := (cState ((⟨S.fGroup, S.fIndex, S.fOwns, S.fLo, S.fHi, S.fEpoch, S.fAccounts, S.fMarks, S.fWaits, S.fDeals, S.fEnds, (⟨S.fSeal.fNumber, S.fSeal.fFrom, S.fSeal.fTo, S.fSeal.fLo, S.fSeal.fHi, S.fSeal.fClient, S.fSeal.fSeq⟩ : TPlan), (⟨S.fOut.fNumber, S.fOut.fFrom, S.fOut.fTo, S.fOut.fLo, S.fOut.fHi, S.fOut.fClient, S.fOut.fSeq⟩ : TPlan), S.fImage, S.fAbsorbed, S.fRefused, S.fUndone⟩ : TState)) v5 v9 v13 v17 v21 v25)) G G G (Rg G) (by simp only [List.all_cons, List.all_nil, Bool.and_true, o_v5, o_v9, o_v13, o_v17, o_v21, o_v25]; rfl) G<|nl<|nx<|rt<|fRG ⟨v5, v9, v13, v17, v21, v25⟩ [_, _] (rC 0 G G G (Rg G)) (by rfl) G (Sc 5 G (Sc 4 G (Sc 3 G (Sc 2 G (Sc 1 G (Sc 0 G Sn))))))
theorem copyScene_c (v : TScene) (v_0 v_1 v_2 v_3 v_4 : Value) (h_v : v.wf) (hb : BkV v) : Fnc Pg 12 [.agg (cScene v v_0 v_1 v_2 v_3 v_4).toArray] [] [⟨v_0, v.fChart.fPlaces⟩, ⟨v_1, v.fChart.fMarks⟩, ⟨v_2, v.fStates⟩, ⟨v_3, v.fRights⟩, ⟨v_4, v.fAges⟩] (fun (y : sScene.H) u => u = .agg (cScene v (y.1) (y.2.1) (y.2.2.1) (y.2.2.2.1) (y.2.2.2.2)).toArray) (fun _ _ => []) (fun y _ => [⟨y.1, v.fChart.fPlaces⟩, ⟨y.2.1, v.fChart.fMarks⟩, ⟨y.2.2.1, v.fStates⟩, ⟨y.2.2.2.1, v.fRights⟩, ⟨y.2.2.2.2, v.fAges⟩]) := by
 refine Fnc.proof Tryz.func12 G 36 G G fun X w => ?_
 obtain ⟨hb1, hb2, hb3, hb4, hb5, hb6⟩ := hb
 refine qg<|bx G G G fun b1 => al zero_32 G fun b2 => nl<|nx<|qg<|ru 1 G<|ldM 1 (cChart v.fChart v_0 v_1) G G (Rg G) G G<|cf (copyChart_c _ _ _ h_v.2.2.1 hb1 hb2) ok_42 G (Si [0,1] G) G fun ⟨q7_0, q7_1⟩ v7 h7 => ?_
 subst h7
 refine ru 1 G<|oc 0 G fun o_q7_0 => oc 1 G fun o_q7_1 => stM 1 (us := (cChart v.fChart q7_0 q7_1)) G G G (Rg G) (by simp only [List.all_cons, List.all_nil, Bool.and_true, o_q7_0, o_q7_1]; rfl) (Nat.le_of_ble_eq_true G)<|nl<|nx<|sa 1 G<|sq<|sa 1 G<|bk<|rwC TState 55<|lpE (σ := Nat × Value) [(1, _), (2, _)] _ (fun s C => (4, .int .i64 (s.1 : Int)) :: (3, s.2) :: C) (fun s => [row 55 s.2 (v.fStates.take s.1), bl b2 32 zv11, bl b1 32 (cScene v q7_0 q7_1 v_2 v_3 v_4), fz X w]) (fun _ Dc => Dc) (fun s => s.1 ≤ v.fStates.length) (fun s => v.fStates.length - s.1) (0, _) (Gs G) (Sc 0 G (Sc 1 G (Sc 4 G (Sc 5 G (Sc 6 G Sn))))) (Nat.zero_le _) (Gs G) G (Sc 0 G (Sc 1 G (Sc 4 G (Sc 5 G (Sc 6 G Sn))))) ?_
 rintro ⟨i, rv⟩ hi
 simp only at hi
 show WC _ _ _ [(4, .int .i64 ((i : Int))), (3, _), (1, _), (2, _)] [row 55 rv (v.fStates.take i), bl b2 32 zv11, bl b1 32 (cScene v q7_0 q7_1 v_2 v_3 v_4), fz X w] _
 refine sq<|qg<|rl 3 [2] G G<|lnP 2 G G Tryz.underlying28 G fun l12 => ru 1 G<|nl<|nx<|cdP G (fun h13 => ?_) (fun h13 => ?_)
 ·
  refine sk<|nx<|sq<|bk<|rg<|rl 4 [2] G G<|ixP 2 G G G slt_28 (by omega) (gE (by omega)) G fun v20 => ldS 0 G G (Rg G) G fun q21 w21 => ?_
  obtain ⟨q21_0, q21_1, q21_2, q21_3, q21_4, q21_5⟩ := q21
  refine cf (copyState_c _ _ _ _ _ _ _ w21 (hb4 i (by omega))) ok_43 G (Si [1,2,3,4,5,6] G) G fun ⟨q22_0, q22_1, q22_2, q22_3, q22_4, q22_5⟩ v22 h22 => ?_
  subst h22
  refine bsM G app_28 G G G G fun b23 => ?_
  refine frS1 (α := TState) (v.fStates.getD i default) (fun S w h => ⟨⟨q22_0, q22_1, q22_2, q22_3, q22_4, q22_5⟩, G, fun t ht => by
    simp only [List.mem_cons, List.not_mem_nil, or_false] at ht
    rcases ht with rfl | rfl | rfl | rfl | rfl | rfl
    · exact h _ (List.mem_of_getElem? (i := 0) G)
    · exact h _ (List.mem_of_getElem? (i := 1) G)
    · exact h _ (List.mem_of_getElem? (i := 2) G)
    · exact h _ (List.mem_of_getElem? (i := 3) G)
    · exact h _ (List.mem_of_getElem? (i := 4) G)
    · exact h _ (List.mem_of_getElem? (i := 5) G), w21⟩) ?_
  refine ap 0 0 G G G G app_28 (by have := List.length_take_le i v.fStates; simp only [List.length_cons, List.length_nil]; omega) (by have := List.length_take_le i v.fStates; simp only [List.length_cons, List.length_nil]; omega) G fun v24 => ru 1 G<|nl<|bN<|nx<|rg<|mv G G<|adI G G (inI (by omega) (by omega)) G<|ru 1 G<|nl ?_
  rw [take_snoc (by omega)]
  exact ag ((i + 1, v24) : Nat × Value) (by show i + 1 ≤ v.fStates.length; omega) (by show v.fStates.length - (i + 1) < v.fStates.length - i; omega) (Gs G) G (Si [15,16,17,18,19] G)
 ·
  obtain rfl : i = v.fStates.length := by omega
  rw [List.take_length]
  exact ex<|tE<|tE<|bE<|nx<|sq<|frR<|rg<|ru 2 G<|stL 1 0 G G G G (Og G) (nlt G)<|nl<|nx<|qg<|rl 2 [1] G G<|rwL TRight 59<|ap 0 4 G G G G app_29 (by simp only [List.length_nil]; omega) (by simp only [List.length_nil]; omega) G fun v29 => frRL<|ru 1 G<|stL 1 0 G G G G (Og G) (nlt G)<|nl<|nx<|qg<|rl 2 [1] G G<|rwL TAge 62<|ap 0 6 G G G G app_30 (by simp only [List.length_nil]; omega) (by simp only [List.length_nil]; omega) G fun v33 => frRL<|ru 1 G<|stL 1 0 G G G G (Og G) (nlt G)<|nl<|nx<|qg<|ldM 1 (cScene ((⟨v.fNode, v.fNodes, (⟨v.fChart.fIndex, v.fChart.fPlaces, v.fChart.fNext, v.fChart.fLast, (⟨v.fChart.fPlan.fNumber, v.fChart.fPlan.fFrom, v.fChart.fPlan.fTo, v.fChart.fPlan.fLo, v.fChart.fPlan.fHi, v.fChart.fPlan.fClient, v.fChart.fPlan.fSeq⟩ : TPlan), v.fChart.fMarks⟩ : TChart), v.fStates, v.fRights, v.fAges⟩ : TScene)) q7_0 q7_1 rv v29 v33) G G (Rg G) G G<|oc 3 G fun o_q7_0 => oc 4 G fun o_q7_1 => oc 2 G fun o_rv => oc 1 G fun o_v29 => oc 0 G fun o_v33 => stW 0 (us := (cScene ((⟨v.fNode, v.fNodes, (⟨v.fChart.fIndex, v.fChart.fPlaces, v.fChart.fNext, v.fChart.fLast, (⟨v.fChart.fPlan.fNumber, v.fChart.fPlan.fFrom, v.fChart.fPlan.fTo, v.fChart.fPlan.fLo, v.fChart.fPlan.fHi, v.fChart.fPlan.fClient, v.fChart.fPlan.fSeq⟩ : TPlan), v.fChart.fMarks⟩ : TChart), v.fStates, v.fRights, v.fAges⟩ : TScene)) q7_0 q7_1 rv v29 v33)) G G G (Rg G) (by simp only [List.all_cons, List.all_nil, Bool.and_true, o_q7_0, o_q7_1, o_rv, o_v29, o_v33]; rfl) G<|nl<|nx<|rt<|fRG ⟨q7_0, q7_1, rv, v29, v33⟩ [_, _] (rC 0 G G G (Rg G)) (by rfl) G (Sc 3 G (Sc 4 G (Sc 2 G (Sc 1 G (Sc 0 G Sn)))))
end Go.Proofs.YtmpoffijcfaalaaGreat
namespace Go.Eng
open Go.RowKit
section
section
variable {P : Program} {ops : Array Oper} {md : Region.Mode} {C : World → Prop} {m : Nat} {Q : Exit → Act → World → Prop}
theorem opIn_of_op {i : Nat} {a : Act} {w : World} {K : Act → World → Prop} (h : wpOp P ops (fun _ _ _ => False) i K a w) : wpOpIn Fence.wide m P ops Q i K a w := by
 have hno : ¬ LetsOut (fun (_ : Exit) (_ : Act) (_ : World) => False) := fun ⟨_, _, h⟩ => h
 unfold wpOp at h
 unfold wpOpIn
 cases ho : ops[i]? with
 | none => simpa only [ho] using h
 | some o =>
  simp only [ho] at h ⊢
  by_cases hw : Region.wanted o (yielded ops a.tmps) = true
  · rw [if_pos hw] at h ⊢
    have h := h.elim id fun h => absurd h.2 hno
    refine ⟨fun _ _ => trivial, ?_⟩
    unfold Oper.wp at h
    have hs : Oper.semAt Fence.wide.round a.eval o = execOp a.eval o := rfl
    rw [hs]
    generalize (execOp a.eval o).run P w = r at *
    cases r with
    | ok nx w' =>
     cases nx <;> simp only [Oper.upon, Oper.uponIn] at h ⊢ <;> try exact h
     · refine ⟨(fun hd => by cases hd), callsIn_wide.2 (Calls.mono h fun e w'' he => ?_)⟩
       cases e with
       | returned v => exact he
       | panicked ch => exact he.elim
       | outgrown => exact absurd he hno
     · exact ⟨(fun hd => by cases hd), fun c cs _ => by obtain ⟨v, w', hR, hs⟩ := h c cs; exact ⟨v, w', hR, stepsIn_wide.2 hs⟩⟩
    | halt x w' => cases x <;> simp only [Oper.upon] at h ⊢ <;> first | exact h | exact h.elim
  · rw [if_neg hw] at h ⊢
    exact ⟨fun _ _ => trivial, h⟩
theorem anyIn_of_seq : ∀ (l : List Oper) (k : Nat) (listed : Array Bool) (a : Act) (w : World), (∀ j, l[j]? = ops[k + j]?) →
 Region.seqB md ops l.length k listed = true → wpListIn Fence.wide m P ops Q l a w → wpAnyIn Fence.wide m P md ops Q l.length listed a w
 | [], _, _, _, _, _, hB, h => ⟨by simpa [Region.seqB] using hB, h⟩
 | o :: l, k, listed, a, w, hl, hB, h => by
  have h0 : ops[k]? = some o := by simpa using (hl 0).symm
  simp only [List.length_cons, Region.seqB, Bool.and_eq_true, decide_eq_true_eq] at hB
  refine ⟨fun h1 => (by rw [hB.1] at h1; cases h1), fun i hi => ?_⟩
  rw [hB.1] at hi
  have hik : i = k := by simpa using hi
  subst hik
  have hw : wpOpIn Fence.wide m P ops Q i (wpListIn Fence.wide m P ops Q l) a w := by
   unfold wpOpIn
   simp only [h0]
   exact h
  exact wpOpIn_mono (fun a' w' h' => anyIn_of_seq l (i + 1) _ a' w' (fun j => by have := hl (j + 1); simpa [Nat.add_assoc, Nat.add_comm 1 j] using this) hB.2 h') hw
end
theorem rawNC {c : Cx} {x : Code} {Q : Exit → Act → World → Prop} {env : Env} {L : Own} {D : List Atom} {α : Type} [Inhabited α] {s : Shape α} (i n : Nat) {v : Value} {xs : List α} (hi : D[i]? = some (@Atom.mk (List α) (@repList α (Rep.ofShape s)) v xs)) (hn : n < xs.length)
 (k : ∀ (ys : List (α × s.H)) (h : s.H), ys[n]? = some (xs.getD n default, h) → s.wf (xs.getD n default) → WC c x Q env L (rawA s v ys :: (s.sub (xs.getD n default) h ++ D))) : WC c x Q env L D := by
 intro a w f st dh
 have hd := dh.at_ i hi
 obtain ⟨ys, h1, h2, h3⟩ := raw_of hd
 have hw := list_wf hd _ (getD_mem hn)
 have hl : n < ys.length := by rw [← h1] at hn; simpa using hn
 have hy : ys[n]? = some (ys[n]) := List.getElem?_eq_getElem hl
 have he : (ys[n]).1 = xs.getD n default := by
  have : (ys.map Prod.fst)[n]? = some (ys[n]).1 := by simp [hy]
  rw [h1] at this
  simp [List.getD, this]
 refine k ys (ys[n]).2 (by rw [hy, ← he]) hw a w f st (DH.cons h2 (DH.app (fun t ht => ?_) dh))
 rw [← he] at ht
 exact h3 _ (List.getElem_mem hl) t ht
end
end Go.Eng
namespace Go.YtmpoffijcfaalaaGreat
open Go.Eng
theorem allI_ind {n : Nat} {p q : Nat → Bool} (h : ∀ j, j < n → (∀ k, k < j → q k = true) → p j = q j) : allI n p = allI n q := by
 rw [Bool.eq_iff_iff, allI_iff, allI_iff]
 constructor
 · intro hp j
   induction j using Nat.strongRecOn with
   | _ j ih =>
    intro hj
    rw [← h j hj fun k hk => ih k hk (by omega)]
    exact hp j hj
 · intro hq j hj
   rw [h j hj fun k hk => hq k (by omega)]
   exact hq j hj
theorem allI_and {n : Nat} {p q : Nat → Bool} : (allI n p && allI n q) = allI n (fun j => p j && q j) := by
 rw [Bool.eq_iff_iff, Bool.and_eq_true, allI_iff, allI_iff, allI_iff]
 constructor
 · rintro ⟨h1, h2⟩ j hj; rw [h1 j hj, h2 j hj]; rfl
 · intro h
   exact ⟨fun j hj => (Bool.and_eq_true .. ▸ h j hj).1, fun j hj => (Bool.and_eq_true .. ▸ h j hj).2⟩
theorem mark_eq (p : Int) (m : TMark) : markP p m = mark14 p m := by
 unfold markP mark14
 by_cases h : m.fSeq < 0
 · simp [h]
 · rw [show decide (m.fSeq = 0) = decide (m.fSeq < 1) from decide_eq_decide.2 (by omega)]
theorem marks_eq (l : List TMark) : marksP l = marks14 l := allI_congr fun j _ => by rw [mark_eq]
theorem prev_nn {f : Nat → Int} : ∀ {j : Nat}, (∀ k, k < j → prevI f k < f k) → 0 ≤ prevI f j
 | 0, _ => by simp [prevI]
 | j + 1, h => by
  have ih := prev_nn (f := f) (j := j) fun k hk => h k (by omega)
  have := h j (by omega)
  simp only [prevI]
  omega
theorem ends_eq (l : List TEnd) : endsP l = ends18 l := allI_ind fun j hj hk => by
 have hp : 0 ≤ prevI (fun k => (l.getD k default).fClient) j := prev_nn fun k hkj => by
  have := hk k hkj
  simp only [Bool.not_eq_true', Bool.or_eq_false_iff, decide_eq_false_iff_not] at this
  omega
 rw [Bool.eq_iff_iff]
 simp only [okWhose, okSeq, Bool.not_eq_true', Bool.or_eq_false_iff, decide_eq_false_iff_not, Bool.not_eq_false', Bool.and_eq_true, decide_eq_true_eq]
 omega
theorem fate_eq (m t : Int) : fateP m t = fate18 m t := by
 unfold fateP fate18
 by_cases h1 : m = 1 <;> by_cases h2 : t = 1 <;> by_cases h3 : m = 2 <;> by_cases h4 : t = 2 <;> simp_all
theorem dmay_eq (d : TDeal) : dmayP d = may18 d := by
 unfold dmayP may18
 rw [fate_eq]
 have key : (dmay1 d || dmay2 d) = may18a d := by
  rw [Bool.eq_iff_iff]
  by_cases hk : d.fKey = d.fOther
  · simp [dmay1, may18a, hk]
  · simp only [dmay1, dmay2, may18a, okKey, okWhose, okClient, okSeq, hk, decide_false, Bool.or_false, Bool.or_eq_true, Bool.not_eq_true', Bool.and_eq_false_iff, decide_eq_true_eq, decide_eq_false_iff_not]
    omega
 rw [← key]
 cases dmay1 d <;> cases dmay2 d <;> rfl
theorem deals_eq (l : List TDeal) : dealsP l = books18 l := by
 unfold dealsP books18 books18a
 by_cases h : (l.length : Int) > 4
 · rw [if_pos (decide_eq_true h), decide_eq_false (show ¬ (l.length : Int) ≤ 4 by omega), Bool.and_false]
 · rw [if_neg (by simpa using h), decide_eq_true (show (l.length : Int) ≤ 4 by omega), Bool.and_true]
   exact allI_congr fun j _ => by unfold dealsj; rw [dmay_eq]
theorem waitP0_eq (s : TState) (w : TWait) : waitP0 s w = wait19a s w := by
 unfold waitP0 wait19a
 rw [show okWhose w.fClient w.fSeq = (okClient w.fClient && okSeq w.fSeq) by simp only [okWhose, okClient, okSeq, Bool.and_assoc], Bool.not_and]
theorem wait_eq (s : TState) (w : TWait) : waitP s w = wait19 s w := by
 unfold waitP wait19
 rw [waitP0_eq, show waitPrep w = wait19p w by unfold waitPrep wait19p; rw [Bool.and_assoc (decide _ && _), Bool.and_assoc (decide _ && _), Bool.and_comm (!decide _)]]
 rfl
theorem planned_eq (p : TPlan) : plannedP p = plan19 p := by
 unfold plannedP plan19 okNum
 rw [show (decide (p.fNumber ≥ 1) && decide (p.fNumber ≤ far)) = (decide (p.fNumber ≥ 0) && decide (p.fNumber ≤ far) && decide (p.fNumber > 0)) by
  rw [Bool.eq_iff_iff]
  simp only [Bool.and_eq_true, decide_eq_true_eq]
  omega]
theorem lmay_eq (r : TRight) : lmayP r = lmay16 r := by
 unfold lmayP lmay16 okKey
 simp only [Bool.and_assoc]
theorem order_eq (x y : TRight) : decide (orderP x y ≥ 0) = !belowP x y := by
 unfold orderP belowP
 by_cases h : x.fGroup = y.fGroup
 · have h1 : ¬ x.fGroup < y.fGroup := by omega
   rw [← cmp_lt]
   simp only [h, decide_true, Bool.not_true, Bool.false_eq_true, if_false, Bool.true_and, Int.lt_irrefl, decide_false, Bool.false_or]
   rw [← decide_not]
   exact decide_eq_decide.2 (by omega)
 · by_cases h1 : x.fGroup < y.fGroup
   · simp [h, h1]
   · simp [h, h1]
theorem ledger_eq (l : List TRight) : ledgerP l = rights16 l := allI_congr fun j _ => by
 unfold ledgerj right16j
 rw [lmay_eq, order_eq]
theorem isNil_size (k : ByteArray) : isNil k = decide ((k.size : Int) < 1) := by
 unfold isNil
 refine decide_eq_decide.2 ⟨fun h => by rw [h]; decide, fun h => ?_⟩
 have h0 : k.size = 0 := by omega
 rcases k with ⟨a⟩
 have : a.size = 0 := h0
 rw [Array.size_eq_zero_iff] at this
 rw [this]
 rfl
theorem owned_eq (s : TState) : ownedP s = !q19b s := by
 unfold ownedP q19b isNil
 cases s.fOwns with
 | false =>
  rw [show decide ((s.fAccounts.length : Int) = 0) = !decide ((s.fAccounts.length : Int) > 0) by rw [← decide_not]; exact decide_eq_decide.2 (by omega),
   show decide ((s.fWaits.length : Int) = 0) = !decide ((s.fWaits.length : Int) > 0) by rw [← decide_not]; exact decide_eq_decide.2 (by omega)]
  simp [Bool.and_assoc]
 | true =>
  rw [show decide (s.fEpoch ≥ 1) = !decide (s.fEpoch < 1) by rw [← decide_not]; exact decide_eq_decide.2 (by omega)]
  simp
theorem counts_eq (a b c d e : Int) : countsP [a, b, c, d, e] = (okNum a && okNum b && okNum c && okNum d && okNum e) := by
 rw [Bool.eq_iff_iff]
 unfold countsP
 rw [allI_iff]
 simp only [okNum, Bool.and_eq_true, decide_eq_true_eq, List.length_cons, List.length_nil, Bool.not_eq_true', Bool.or_eq_false_iff, decide_eq_false_iff_not]
 constructor
 · intro h
   have h0 := h 0 (by omega)
   have h1 := h 1 (by omega)
   have h2 := h 2 (by omega)
   have h3 := h 3 (by omega)
   have h4 := h 4 (by omega)
   simp only [List.getD_cons_zero, List.getD_cons_succ] at h0 h1 h2 h3 h4
   omega
 · intro h j hj
   match j, hj with
   | 0, _ => simp only [List.getD_cons_zero]; omega
   | 1, _ => simp only [List.getD_cons_zero, List.getD_cons_succ]; omega
   | 2, _ => simp only [List.getD_cons_zero, List.getD_cons_succ]; omega
   | 3, _ => simp only [List.getD_cons_zero, List.getD_cons_succ]; omega
   | 4, _ => simp only [List.getD_cons_zero, List.getD_cons_succ]; omega
theorem awake_true : awakeB = true := by kernel_rfl
theorem sum_nn : ∀ {l : List Int}, (∀ x ∈ l, 0 ≤ x) → 0 ≤ l.sum
 | [], _ => by simp
 | x :: r, h => by
  have ih := sum_nn (l := r) fun y hy => h y (List.mem_cons_of_mem _ hy)
  have := h x (List.mem_cons_self ..)
  simp only [List.sum_cons]
  omega
theorem hold_mem {l : List THolder} (hh : holdersP l = true) {x : THolder} (hx : x ∈ l) : 0 ≤ x.fUp ∧ 0 ≤ x.fDown := by
 obtain ⟨i, hi, rfl⟩ := List.getElem_of_mem hx
 have := hold_at hh hi
 rw [getD_at hi] at this
 exact ⟨this.2.2.2.1, this.2.2.2.2⟩
theorem ups_ge {a : TAccount} (hh : holdersP a.fHolders = true) : a.fBase ≤ upsS a := by
 unfold upsS
 have := sum_nn (l := a.fHolders.map (·.fUp)) fun x hx => by
  obtain ⟨y, hy, rfl⟩ := List.mem_map.1 hx
  exact (hold_mem hh hy).1
 omega
theorem downs_le {a : TAccount} (hh : holdersP a.fHolders = true) : downsS a ≤ a.fBase := by
 unfold downsS
 have := sum_nn (l := a.fHolders.map (·.fDown)) fun x hx => by
  obtain ⟨y, hy, rfl⟩ := List.mem_map.1 hx
  exact (hold_mem hh hy).2
 omega
theorem sum_ok {x : Int} (h : sumOk x = true) : sumI x = x ∧ sumE x = 0 := by unfold sumI sumE; rw [if_pos h, if_pos h]; exact ⟨rfl, rfl⟩
theorem sum_no {x : Int} (h : sumOk x = false) : sumI x = 0 ∧ sumE x = 10 := by unfold sumI sumE; rw [h]; exact ⟨rfl, rfl⟩
theorem acc2_eq {a : TAccount} (hw : a.wf) (hh : holdersP a.fHolders = true) : acc2 a = r15b a := by
 have h1 := ups_ge hh
 have h2 := downs_le hh
 obtain ⟨hs1, hs2⟩ := hw.2.1
 obtain ⟨l1, l2⟩ := hs1
 obtain ⟨u1, u2⟩ := hs2
 obtain ⟨b1, b2⟩ := hw.2.2.1
 have hd : decide ((wide (downsS a - a.fSpan.fLo)).fHi < 0) = decide (downsS a < a.fSpan.fLo) := decide_eq_decide.2 (by
  show (downsS a - a.fSpan.fLo) / 18446744073709551616 < 0 ↔ _
  omega)
 have hu : aboveP (upsS a) a.fSpan.fHi = decide (upsS a > a.fSpan.fHi) := decide_eq_decide.2 (by omega)
 unfold acc2 r15b
 rw [hd, hu]
 cases e1 : sumOk (upsS a) with
 | true =>
  rw [(sum_ok e1).1, (sum_ok e1).2]
  cases e2 : sumOk (downsS a) with
  | true => rw [(sum_ok e2).1, (sum_ok e2).2]; simp
  | false =>
   rw [(sum_no e2).1, (sum_no e2).2]
   have : downsS a < a.fSpan.fLo := by
    simp only [sumOk, Bool.and_eq_false_iff, decide_eq_false_iff_not] at e2
    omega
   simp [this]
 | false =>
  rw [(sum_no e1).1, (sum_no e1).2]
  have : upsS a > a.fSpan.fHi := by
   simp only [sumOk, Bool.and_eq_false_iff, decide_eq_false_iff_not] at e1
   omega
  simp [this]
theorem fits_eq {a : TAccount} : (sumOk (a.fBase + a.fLock.fN) && fits15 a) = fitsP a a.fLock := by
 unfold fitsP fits15
 cases e : sumOk (a.fBase + a.fLock.fN) with
 | true =>
  rw [(sum_ok e).1, (sum_ok e).2]
  have : IntKind.i64.wrap ((a.fBase + a.fLock.fN) % 18446744073709551616) = a.fBase + a.fLock.fN := by
   rw [wrapi]
   simp only [sumOk, Bool.and_eq_true, decide_eq_true_eq] at e
   omega
  rw [this]
  simp
 | false => rw [(sum_no e).1, (sum_no e).2]; simp
theorem acc1_eq (a : TAccount) : acc1 a = (r15a a || !holdersP a.fHolders) := by
 unfold acc1 r15a okKey
 rw [show (decide ((a.fKey.size : Int) < 1) || decide ((a.fKey.size : Int) > 16)) = !(decide ((a.fKey.size : Int) ≥ 1) && decide ((a.fKey.size : Int) ≤ 16)) by
  rw [Bool.eq_iff_iff]
  simp only [Bool.or_eq_true, Bool.not_eq_true', Bool.and_eq_false_iff, decide_eq_true_eq, decide_eq_false_iff_not]
  omega]
theorem acc_eq {a : TAccount} (hw : a.wf) : accP a = right15 a := by
 unfold accP right15
 rw [acc1_eq]
 cases r15a a with
 | true => rfl
 | false =>
  cases hh : holdersP a.fHolders with
  | false => rfl
  | true =>
   simp only [Bool.not_true, Bool.or_false, Bool.false_eq_true, if_false, if_true]
   rw [acc2_eq hw hh, Bool.and_assoc _ (sumOk _), fits_eq]
theorem acc_key {a : TAccount} (h : accP a = true) : okKey a.fKey = true ∧ (a.fLock.fClient = 0 → a.fLock = ⟨0, 0, 0, 0⟩) := by
 unfold accP at h
 split at h
 · cases h
 · rename_i h1
   rw [acc1_eq] at h1
   simp only [Bool.or_eq_true, not_or, r15a, Bool.not_eq_true', Bool.not_eq_false] at h1
   refine ⟨h1.1.1.1, fun hc => ?_⟩
   split at h
   · cases h
   · rw [if_pos (decide_eq_true hc)] at h
     exact of_decide_eq_true h
theorem plain_eq {a : TAccount} (h : accP a = true) : aplainP a = plain15 a := by
 obtain ⟨hk, hl⟩ := acc_key h
 unfold aplainP plain15 sameAcc new15 newE lockedP
 rw [h, hk]
 simp only [if_true, decide_true, Bool.true_and, Bool.not_not]
 rw [show decide (a.fHolders = []) = decide ((a.fHolders.length : Int) = 0) from decide_eq_decide.2 (by
  rw [← List.length_eq_zero_iff]
  omega)]
 rw [show decide (a.fLock = ⟨0, 0, 0, 0⟩) = decide (a.fLock.fClient = 0) from decide_eq_decide.2 ⟨fun e => by rw [e], hl⟩]
 cases decide (a.fSpan = ⟨0, 0⟩) <;> cases decide (a.fBase = 0) <;> cases decide ((a.fHolders.length : Int) = 0) <;> cases decide (a.fRound = 0) <;> cases decide (a.fLock.fClient = 0) <;> rfl
theorem accs_eq {s : TState} (hw : ∀ a ∈ s.fAccounts, a.wf) : accsP s = (rising19 s.fAccounts && accs19 s) := by
 unfold accsP rising19 accs19
 by_cases h : (s.fAccounts.length : Int) > 12
 · rw [if_pos (decide_eq_true h), decide_eq_false (show ¬ (s.fAccounts.length : Int) ≤ 12 by omega)]
   split <;> rfl
 · rw [if_neg (by simpa using h), decide_eq_true (show (s.fAccounts.length : Int) ≤ 12 by omega)]
   have e : ∀ b : Bool, (if b = true then true else false) = b := fun b => by cases b <;> rfl
   rw [e, allI_and]
   refine allI_congr fun j hj => ?_
   have hm := hw _ (getD_mem (l := s.fAccounts) hj)
   unfold accsj risj
   rw [errF_ok, ← acc_eq hm]
   cases ha : accP (s.fAccounts.getD j default) with
   | false => rfl
   | true =>
    rw [plain_eq ha]
    cases plain15 (s.fAccounts.getD j default) <;> cases ownsP s (s.fAccounts.getD j default).fKey <;> simp
theorem state_eq {s : TState} (hw : ∀ a ∈ s.fAccounts, a.wf) : srightP s = sright19 s := by
 unfold srightP sright19
 have h1 : sright1 s = (q19a s || q19b s || !(rising19 s.fAccounts && accs19 s)) := by
  unfold sright1 q19a
  rw [counts_eq, owned_eq, accs_eq hw]
  simp only [Bool.not_and, Bool.not_not, Bool.or_assoc]
 have h2 : (sright2 s || !rising19 s.fAccounts) = q19c s := by
  unfold sright2 q19c
  rw [errF_ok, errF_ok, errF_ok, marks_eq, deals_eq, ends_eq]
  cases rising19 s.fAccounts <;> simp
 have h3 : sright3 s = q19d s := by unfold sright3 q19d; rw [planned_eq]
 have h4 : srightW s = waits19 s := by unfold srightW waits19; exact allI_congr fun j _ => wait_eq _ _
 have h5 : sright5 s = q19e s := by
  unfold sright5 q19e
  rw [planned_eq]
  cases plan19 s.fOut <;> cases decide (s.fOut.fFrom = s.fGroup) <;> cases decide ((rdState s.fImage).2 = 0) <;> rfl
 rw [h1, h3, h4, h5, ← h2]
 cases q19a s <;> cases q19b s <;> cases rising19 s.fAccounts <;> cases accs19 s <;> cases sright2 s <;> cases waits19 s <;> rfl
theorem rplj_eq (l : List TPlace) (j : Nat) : (!rplj l j) = (!place17b l j && place17c l j) := by
 unfold rplj place17b
 by_cases hg : okGroup (l.getD j default).fGroup = true
 · have hg2 := hg
   simp only [okGroup, Bool.and_eq_true, decide_eq_true_eq] at hg2
   have hs : seenB l j (l.getD j default).fGroup.toNat = !place17c l j := by
    rw [Bool.eq_iff_iff, seen_iff]
    unfold place17c
    rw [Bool.not_eq_true', ← Bool.not_eq_true, allI_iff]
    constructor
    · rintro ⟨k, hk, e⟩ h
      have := h k hk
      simp only [Bool.not_eq_true', decide_eq_false_iff_not] at this
      omega
    · intro h
      refine Classical.byContradiction fun hn => h fun k hk => ?_
      simp only [Bool.not_eq_true', decide_eq_false_iff_not]
      intro e
      exact hn ⟨k, hk, by omega⟩
   rw [hs, hg, decide_eq_false (show ¬ (l.getD j default).fGroup < 1 by omega), decide_eq_false (show ¬ (l.getD j default).fGroup ≥ 8 by omega)]
   cases place17c l j <;> simp
 · have hg2 := hg
   simp only [okGroup, Bool.and_eq_true, decide_eq_true_eq, not_and] at hg2
   rw [Bool.not_eq_true] at hg
   simp only [hg]
   by_cases h1 : (l.getD j default).fGroup < 1
   · simp only [h1, decide_true, Bool.true_or, Bool.not_true, Bool.not_false, Bool.false_and]
   · have h2 : (l.getD j default).fGroup ≥ 8 := by have := hg2 (by omega); omega
     simp only [h2, decide_true, Bool.true_or, Bool.or_true, Bool.not_true, Bool.not_false, Bool.false_and]
theorem places_eq (l : List TPlace) : rplacesP l = places17 l := by
 unfold rplacesP places17
 have e : allI l.length (fun j => !rplj l j) = allI l.length (fun j => !place17b l j && place17c l j) := allI_congr fun j _ => rplj_eq l j
 have h1 : place17a l = (rpl1 l || decide ((l.length : Int) > 7)) := by
  unfold place17a rpl1
  cases decide ((l.length : Int) < 1) <;> cases decide ((l.length : Int) > 7) <;> cases isNil (l.getD 0 default).fFrom <;> rfl
 rw [h1, ← e]
 by_cases hr : rpl1 l = true
 · rw [hr]; rfl
 · rw [Bool.not_eq_true] at hr
   rw [hr]
   by_cases h7 : (l.length : Int) > 7
   · simp only [h7, decide_true, Bool.or_true, if_true, Bool.false_eq_true, if_false]
     rw [← Bool.not_eq_true, e, allI_iff]
     intro h
     have := pigeon 7 l.length (fun i => (l.getD i default).fGroup.toNat - 1) (fun i hi => by
      have := h i hi
      simp only [Bool.and_eq_true, Bool.not_eq_true', place17b, Bool.or_eq_false_iff, decide_eq_false_iff_not] at this
      show (l.getD i default).fGroup.toNat - 1 < 7
      omega) (fun i j hi hj ee => by
      have hgi := h i hi
      have hgj := h j hj
      simp only [Bool.and_eq_true, Bool.not_eq_true', place17b, Bool.or_eq_false_iff, decide_eq_false_iff_not] at hgi hgj
      have ei : (l.getD i default).fGroup = (l.getD j default).fGroup := by
       have ee : (l.getD i default).fGroup.toNat - 1 = (l.getD j default).fGroup.toNat - 1 := ee
       omega
      rcases Nat.lt_trichotomy i j with hlt | hlt | hlt
      · have := allI_iff.1 hgj.2 i hlt
        simp only [Bool.not_eq_true', decide_eq_false_iff_not] at this
        exact absurd ei this
      · exact hlt
      · have := allI_iff.1 hgi.2 j hlt
        simp only [Bool.not_eq_true', decide_eq_false_iff_not] at this
        exact absurd ei.symm this)
     omega
   · simp only [h7, decide_false, Bool.or_false]
theorem places_at {l : List TPlace} (h : places17 l = true) : isNil (l.getD 0 default).fFrom = true ∧ ∀ j, j + 1 < l.length → ltB (l.getD j default).fFrom (l.getD (j + 1) default).fFrom = true := by
 unfold places17 at h
 split at h
 · cases h
 · rename_i hn
   simp only [place17a, Bool.or_eq_true, not_or, Bool.not_eq_true', Bool.not_eq_false] at hn
   refine ⟨hn.2, fun j hj => ?_⟩
   have := allI_iff.1 h (j + 1) hj
   simp only [Bool.and_eq_true, Bool.not_eq_true', place17b, Bool.or_eq_false_iff, Bool.and_eq_false_iff, decide_eq_false_iff_not] at this
   have h2 := this.1.2
   have h3 : leB (l.getD (j + 1) default).fFrom (l.getD j default).fFrom = false := by
    rcases h2 with h2 | h2
    · omega
    · rwa [show (((j + 1 : Nat) : Int) - 1).toNat = j by omega] at h2
   unfold leB at h3
   rw [le_ge] at h3
   simpa using h3
theorem mono_lt {l : List TPlace} (h : ∀ j, j + 1 < l.length → ltB (l.getD j default).fFrom (l.getD (j + 1) default).fFrom = true) : ∀ (d i : Nat), i + d + 1 < l.length → ltB (l.getD i default).fFrom (l.getD (i + d + 1) default).fFrom = true
 | 0, i, hi => h i hi
 | d + 1, i, hi => lt_trans (mono_lt h d i (by omega)) (h (i + d + 1) (by omega))
theorem lastI_at : ∀ {n : Nat} {p : Nat → Bool}, p 0 = true → 0 < n → p (lastI n p) = true ∧ ∀ k, lastI n p < k → k < n → p k = false
 | n + 1, p, h0, _ => by
  unfold lastI
  split
  · rename_i h
    exact ⟨h, fun k h1 h2 => by omega⟩
  · rename_i h
    rcases Nat.eq_zero_or_pos n with hn | hn
    · subst hn; exact absurd h0 h
    · obtain ⟨a, b⟩ := lastI_at (n := n) h0 hn
      refine ⟨a, fun k h1 h2 => ?_⟩
      rcases Nat.lt_or_ge k n with hk | hk
      · exact b k h1 hk
      · have : k = n := by omega
        subst this
        simpa using h
theorem end_at {l : List TPlace} {j : Nat} : endP l (j : Int) = if j + 1 < l.length then (l.getD (j + 1) default).fFrom else ByteArray.empty := by
 unfold endP
 by_cases h : j + 1 < l.length
 · rw [if_pos h, if_neg (by simp only [Bool.or_eq_true, decide_eq_true_eq]; omega), show ((j : Int) + 1).toNat = j + 1 by omega]
 · rw [if_neg h, if_pos (by simp only [Bool.or_eq_true, decide_eq_true_eq]; omega)]
theorem find_eq {l : List TPlace} (h : places17 l = true) (key : ByteArray) : find17 l key = findP l key := by
 obtain ⟨h0, hm⟩ := places_at h
 have hpos := places17_pos h
 have hp0 : (!ltB key (l.getD 0 default).fFrom) = true := by
  rw [of_decide_eq_true h0, lt_empty]; rfl
 obtain ⟨ha, hb⟩ := lastI_at (p := fun j => !ltB key (l.getD j default).fFrom) hp0 hpos
 have hlt : findP l key < l.length := findP_lt hpos
 have ne : ∀ k, k + 1 < l.length → isNil (l.getD (k + 1) default).fFrom = false := fun k hk => by
  refine decide_eq_false fun e => ?_
  have := hm k hk
  rw [e, lt_empty] at this
  cases this
 unfold find17
 have : firstI l.length (fun j => within (l.getD j default).fFrom (endP l j) key) = some (findP l key) := by
  refine firstI_some hlt (fun k hk => ?_) ?_
  · show within _ (endP l k) key = false
    rw [end_at, if_pos (by omega)]
    unfold within
    rw [ne k (by omega)]
    have h1 : ltB key (l.getD (k + 1) default).fFrom = false := by
     have hf : ltB key (l.getD (findP l key) default).fFrom = false := by
      have q : (!ltB key (l.getD (findP l key) default).fFrom) = true := ha
      rwa [Bool.not_eq_true'] at q
     rcases Nat.lt_or_ge (k + 1) (findP l key) with hlt2 | hge
     · have hlt3 : ltB (l.getD (k + 1) default).fFrom (l.getD (findP l key) default).fFrom = true := by
        have := mono_lt hm (findP l key - (k + 1) - 1) (k + 1) (by omega)
        rwa [show k + 1 + (findP l key - (k + 1) - 1) + 1 = findP l key by omega] at this
       rw [← Bool.not_eq_true]
       intro hc
       rw [lt_trans hc hlt3] at hf
       cases hf
     · rw [show k + 1 = findP l key by omega]; exact hf
    rw [h1]
    simp
  · show within _ (endP l _) key = true
    unfold within
    rw [le_ge]
    have ha' : (!ltB key (l.getD (findP l key) default).fFrom) = true := ha
    rw [ha', Bool.true_and, end_at]
    split
    · rename_i hk
      have := hb (findP l key + 1) (Nat.lt_succ_self _) hk
      rw [Bool.not_eq_false'] at this
      rw [this, Bool.or_true]
    · rfl
 rw [this]
 rfl
theorem okKey_nil (k : ByteArray) : okKey k = !(isNil k || decide ((k.size : Int) > 16)) := by
 rw [isNil_size]
 unfold okKey
 rw [Bool.eq_iff_iff]
 simp only [Bool.and_eq_true, decide_eq_true_eq, Bool.not_eq_true', Bool.or_eq_false_iff, decide_eq_false_iff_not]
 omega
theorem chart_eq (c : TChart) : planP c = right20 c := by
 unfold planP right20
 have h1 : (plan1 c || plan2 c) = right20a c := by
  unfold plan1 plan2 right20a okNum
  rw [errF_ok, errF_ok, places_eq, marks_eq,
   show decide (c.fIndex < 0) = !decide (c.fIndex ≥ 0) by rw [← decide_not]; exact decide_eq_decide.2 (by omega),
   show decide (c.fIndex > far) = !decide (c.fIndex ≤ far) by rw [← decide_not]; exact decide_eq_decide.2 (by omega),
   show decide (c.fLast < 0) = !decide (c.fLast ≥ 0) by rw [← decide_not]; exact decide_eq_decide.2 (by omega),
   show decide (c.fLast > far) = !decide (c.fLast ≤ far) by rw [← decide_not]; exact decide_eq_decide.2 (by omega)]
  cases decide (c.fIndex ≥ 0) <;> cases decide (c.fIndex ≤ far) <;> cases decide (c.fLast ≥ 0) <;> cases decide (c.fLast ≤ far) <;> cases places17 c.fPlaces <;> cases decide (c.fNext < 2) <;> cases decide (c.fNext > 8) <;> cases marks14 c.fMarks <;> rfl
 have h2 : plan3 c = !right20b c := by
  unfold plan3 right20b
  cases e : firstI c.fPlaces.length (fun j => decide ((c.fPlaces.getD j default).fGroup ≥ c.fNext)) with
  | none =>
   rw [show allI c.fPlaces.length (fun j => !decide ((c.fPlaces.getD j default).fGroup ≥ c.fNext)) = true from allI_true fun j hj => by
    have := List.find?_eq_none.1 e j (List.mem_range.2 hj)
    simpa using this]
   rfl
  | some j =>
   have hj := firstI_lt e
   have hp := List.find?_some e
   rw [allI_false j hj (by have hp : decide ((c.fPlaces.getD j default).fGroup ≥ c.fNext) = true := hp; rw [hp]; rfl)]
   show decide ((j : Int) ≥ 0) = _
   simp
 rw [← h1, h2]
 cases ha : plan1 c with
 | true => rfl
 | false =>
  cases hb : plan2 c with
  | true => rfl
  | false =>
   have hpl : places17 c.fPlaces = true := by
    have := hb
    unfold plan2 at this
    rw [errF_ok, places_eq] at this
    simp only [Bool.or_eq_false_iff, Bool.not_eq_false'] at this
    exact this.1
   have hl : 0 ≤ c.fLast := by
    simp only [plan1, Bool.or_eq_false_iff, decide_eq_false_iff_not] at ha
    omega
   have h5 : plan5 c = goesP c := by
    unfold plan5 goesP
    have hg : goes1 c = !(decide (c.fPlan.fNumber = c.fLast) && (!decide (c.fPlan.fNumber = 0)) && okWhose c.fPlan.fClient c.fPlan.fSeq && decide (epochP c.fPlaces < far)) := by
     unfold goes1 okWhose okClient okSeq
     rw [Bool.eq_iff_iff]
     simp only [Bool.or_eq_true, Bool.not_eq_true', Bool.and_eq_false_iff, decide_eq_true_eq, decide_eq_false_iff_not, Bool.not_eq_false']
     omega
    simp only [hg]
    cases hX : (decide (c.fPlan.fNumber = c.fLast) && (!decide (c.fPlan.fNumber = 0)) && okWhose c.fPlan.fClient c.fPlan.fSeq && decide (epochP c.fPlaces < far)) with
    | false => rfl
    | true =>
     simp only [Bool.true_and, Bool.not_true, Bool.false_eq_true, if_false]
     unfold splitsP mergesP split1 merge1
     cases ho : (ofP c.fPlaces c.fPlan.fTo).isSome with
     | true =>
      simp only [Bool.true_or, if_true, Bool.not_true, Bool.false_or, Bool.false_eq_true, if_false]
      unfold merge2 goes3
      by_cases hn : nxt c ≥ (c.fPlaces.length : Int)
      · rw [if_pos (decide_eq_true hn), decide_eq_false (show ¬ nxt c < (c.fPlaces.length : Int) by omega)]
        rfl
      · rw [if_neg (by simpa using hn), decide_eq_true (show nxt c < (c.fPlaces.length : Int) by omega), Bool.true_and]
        rw [show decide (c.fPlan.fFrom = (c.fPlaces.getD (nxt c).toNat default).fGroup) = decide ((c.fPlaces.getD (nxt c).toNat default).fGroup = c.fPlan.fFrom) from decide_eq_decide.2 eq_comm,
         show decide (c.fPlan.fLo = (c.fPlaces.getD (nxt c).toNat default).fFrom) = decide ((c.fPlaces.getD (nxt c).toNat default).fFrom = c.fPlan.fLo) from decide_eq_decide.2 eq_comm,
         show decide (c.fPlan.fHi = endP c.fPlaces (nxt c)) = decide (endP c.fPlaces (nxt c) = c.fPlan.fHi) from decide_eq_decide.2 eq_comm]
     | false =>
      simp only [Bool.false_or, Bool.not_false, Bool.true_or, if_true, Bool.or_false]
      unfold split2 goes2
      rw [find_eq hpl, okKey_nil,
       show decide (c.fPlan.fFrom = (c.fPlaces.getD (findP c.fPlaces c.fPlan.fLo) default).fGroup) = decide ((c.fPlaces.getD (findP c.fPlaces c.fPlan.fLo) default).fGroup = c.fPlan.fFrom) from decide_eq_decide.2 eq_comm,
       show decide (c.fPlan.fLo = (c.fPlaces.getD (findP c.fPlaces c.fPlan.fLo) default).fFrom) = decide ((c.fPlaces.getD (findP c.fPlaces c.fPlan.fLo) default).fFrom = c.fPlan.fLo) from decide_eq_decide.2 eq_comm,
       show decide ((c.fPlaces.length : Int) ≥ 7) = !decide ((c.fPlaces.length : Int) < 7) by rw [← decide_not]; exact decide_eq_decide.2 (by omega)]
      cases decide (c.fPlan.fTo = c.fNext - 1) <;> cases decide ((c.fPlaces.length : Int) < 7) <;> cases isNil c.fPlan.fLo <;> cases decide ((c.fPlan.fLo.size : Int) > 16) <;> simp
   rw [h5]
   unfold plan4
   cases right20b c <;> cases decide (c.fPlan = ⟨0, 0, 0, ByteArray.empty, ByteArray.empty, 0, 0⟩) <;> rfl
theorem scene_eq {v : TScene} (hw : ∀ s ∈ v.fStates, ∀ a ∈ s.fAccounts, a.wf) : drightP v = right22 v := by
 unfold drightP right22
 have h1 : r22a v = (dright1 v || !right20 v.fChart || !rights16 v.fRights) := by
  unfold r22a dright1
  cases ((!decide (v.fNodes = 1)) && (!decide (v.fNodes = 3)) && (!decide (v.fNodes = 5))) <;> cases decide (v.fNode < 1) <;> cases decide (v.fNode > v.fNodes) <;> cases right20 v.fChart <;> cases decide ((v.fStates.length : Int) = 7) <;> cases rights16 v.fRights <;> rfl
 have h2 : allI v.fStates.length (fun j => !drightj v j) = allI v.fStates.length (fun j => !r22j v j) := allI_congr fun j hj => by
  unfold drightj r22j
  rw [errF_ok, state_eq (hw _ (getD_mem hj))]
 rw [h1, h2, errF_ok, errF_ok, chart_eq, ledger_eq]
 cases dright1 v <;> cases right20 v.fChart <;> cases rights16 v.fRights <;> cases allI v.fStates.length (fun j => !r22j v j) <;> rfl
theorem sameCmd_self (x : TCommand) : sameCmd x x = true := by unfold sameCmd; simp
end Go.YtmpoffijcfaalaaGreat
namespace Go.Proofs.YtmpoffijcfaalaaGreat
open Go.Eng Go.YtmpoffijcfaalaaGreat
theorem cloneHo_c (sv : Value) (l : List THolder) (hlen : l.length ≤ 100000) : Fnc Pg 144 [sv] [] [⟨sv, l⟩] (fun (_ : Unit) _ => True) (fun _ _ => []) (fun _ v => [⟨v, l⟩]) := by
 refine Fnc.proof Tryz.func144 G 8 G G fun X w => sa 1 G<|sq<|qg<|mv G G<|eqN 0 Tryz.underlying66 G G G G fun q4 n4 => nl<|nx<|cdB G (fun h4 => ?_) (fun h4 => ?_)
 ·
  have hx : l = [] := n4 h4
  subst hx
  exact emC (α := THolder)<|sa 1 G<|rt<|tR<|fR1 () G G trivial G (Sc 0 G Sn)
 · exact sk<|nx<|qg<|bs0 app_66 G fun b5 => rwB (α := THolder) [] [] G G (fun _ _ _ => trivial) G<|mv G G<|ap 0 0 G G G G app_66 (by simp only [List.length_nil]; omega) (by simp only [List.length_nil]; omega) G fun v7 => ru 1 G<|nl<|nx<|rt<|frRQ<|fR1 () G G trivial G (Sc 0 G Sn)
end Go.Proofs.YtmpoffijcfaalaaGreat
