/- Part 34 of the proof of auditOrder_holds: AudW12. Every text below begins with what it shows. -/
import Derived.Test.YtmpoffijcfaalaaGreatAu33

/- The furthest of some scenes: written by specs10.py. -/

namespace Go.Proofs.YtmpoffijcfaalaaGreat
open Go.Eng Go.YtmpoffijcfaalaaGreat

theorem fur_c (v_l : Value) (l : List TScene) (C : TChart) (Sx : List TState) (Ex : Int) (hC : furC l = C) (hS : furS l = Sx) (hE : furE l = Ex) : Fnc Tryz.prog 27 [v_l] [] [⟨v_l, l⟩] (fun (y : Value × Value × Value) u => u = .tuple #[.agg (cChart C y.1 y.2.1).toArray, y.2.2, .int .i64 Ex] ∧ C.wf) (fun _ _ => []) (fun y _ => [⟨y.1, C.fPlaces⟩, ⟨y.2.1, C.fMarks⟩, ⟨y.2.2, Sx⟩]) := by
  refine Fnc.proof Tryz.func27 rfl 99 rfl rfl fun X w => sq<|rg<|al zero_27 rfl fun b2 => asg rfl rfl<|asg rfl rfl<|nl<|nx<|sq<|sq<|rg<|mv rfl rfl<|lnP 0 rfl rfl Tryz.underlying75 rfl fun l16 => eqI rfl rfl rfl ?_
  refine nl<|nx<|cdP rfl (fun h17 => ?_) (fun h17 => ?_)
  ·
    have hl0 : l.length = 0 := by omega
    have e1 : zchart = C := by rw [← hC, furC, if_pos hl0]
    have e2 : ([] : List TState) = Sx := by rw [← hS, furS, if_pos hl0]
    have e3 : (1 : Int) = Ex := by rw [← hE, furE, if_pos hl0]
    subst e1 e2 e3
    exact emC (α := TPlace)<|emC (α := TMark)<|emC (α := TState)<|sq<|rg<|bd (ps := []) (cs := (cChart (({ fIndex := 0, fPlaces := [], fNext := 0, fLast := 0, fPlan := ({ fNumber := 0, fFrom := 0, fTo := 0, fLo := ByteArray.empty, fHi := ByteArray.empty, fClient := 0, fSeq := 0 } : TPlan), fMarks := [] } : TChart)) (.slice none 0 0) (.slice none 0 0))) (by rfl) (by kernel_rfl) rfl<|stW 0 (us := (cChart (({ fIndex := 0, fPlaces := [], fNext := 0, fLast := 0, fPlan := ({ fNumber := 0, fFrom := 0, fTo := 0, fLo := ByteArray.empty, fHi := ByteArray.empty, fClient := 0, fSeq := 0 } : TPlan), fMarks := [] } : TChart)) (.slice none 0 0) (.slice none 0 0))) rfl rfl rfl row_27 rfl rfl<|asg rfl rfl<|asg rfl rfl<|nl<|nx<|rt<|tR<|fRG ⟨(.slice none 0 0), (.slice none 0 0), (.slice none 0 0)⟩ [_] (rCTT 0 rfl rfl rfl rfl rfl row_27) (by exact ⟨rfl, zchart_wf⟩) rfl (SubD.cons 2 rfl (SubD.cons 1 rfl (SubD.cons 0 rfl SubD.nil)))
  ·
    have hn0 : ¬ l.length = 0 := by omega
    refine sk<|nx<|sq<|sq<|rg<|mv rfl rfl<|lnP 0 rfl rfl Tryz.underlying75 rfl fun l20 => mv rfl rfl<|nl<|nx<|bk<|lpC (σ := Nat) [(0, _), (2, _), (19, _), (20, _)] _ (fun i C => (21, .int .i64 (i : Int)) :: C) (fun i => i ≤ l.length ∧ (∀ j, j < i → drightP (l.getD j default) = true)) (fun i => l.length - i) 0 ⟨rfl, rfl, rfl, rfl, trivial⟩ (SubD.cons 0 rfl SubD.nil) ⟨Nat.zero_le _, fun j hj => absurd hj (Nat.not_lt_zero j)⟩ ⟨rfl, rfl, rfl, rfl, rfl, trivial⟩ ?_
    rintro i ⟨hi, hall⟩
    refine sq<|rg<|ltI rfl rfl rfl<|nl<|nx<|sq<|cdP rfl (fun h22 => ?_) (fun h22 => ?_)
    ·
      refine sk<|nx<|sq<|bk<|sq<|rg<|ixP 0 rfl rfl rfl slt_75 (by omega) (getDE (d := default) (by omega)) rfl fun v23 => ldS 0 rfl rfl row_32 rfl fun q24 w24 => ?_
      obtain ⟨q24_0, q24_1, q24_2, q24_3, q24_4⟩ := q24
      refine al zero_32 rfl fun b6 => gtL (q := q24_0.oneCell' = true) (fun S w h => oneCell_of_list (h _ (List.mem_of_getElem? (i := 1) rfl))) fun o_q24_0 => gtL (q := q24_1.oneCell' = true) (fun S w h => oneCell_of_list (h _ (List.mem_of_getElem? (i := 2) rfl))) fun o_q24_1 => gtL (q := q24_2.oneCell' = true) (fun S w h => oneCell_of_list (h _ (List.mem_of_getElem? (i := 3) rfl))) fun o_q24_2 => gtL (q := q24_3.oneCell' = true) (fun S w h => oneCell_of_list (h _ (List.mem_of_getElem? (i := 4) rfl))) fun o_q24_3 => gtL (q := q24_4.oneCell' = true) (fun S w h => oneCell_of_list (h _ (List.mem_of_getElem? (i := 5) rfl))) fun o_q24_4 => stW 0 (us := (cScene ((l.getD i default)) q24_0 q24_1 q24_2 q24_3 q24_4)) rfl rfl rfl row_32 (by simp only [List.all_cons, List.all_nil, Bool.and_true, o_q24_0, o_q24_1, o_q24_2, o_q24_3, o_q24_4]; rfl) rfl<|nl<|nx<|sq<|rg<|ldM 0 (cScene ((l.getD i default)) q24_0 q24_1 q24_2 q24_3 q24_4) rfl rfl row_32 rfl rfl<|cfv (dright_c _ _ _ _ _ _ w24) ok_17 rfl (SubD.cons 1 rfl (SubD.cons 2 rfl (SubD.cons 3 rfl (SubD.cons 4 rfl (SubD.cons 5 rfl SubD.nil))))) rfl<|nt rfl rfl ?_
      refine nl<|nx<|cdB rfl (fun h27 => ?_) (fun h27 => ?_)
      ·
        have hr : ¬ rightAll l = true := by rw [rightAll, allI_false i (by omega) (by simpa using h27)]; decide
        have e1 : zchart = C := by rw [← hC, furC, if_neg hn0, if_neg hr]
        have e2 : ([] : List TState) = Sx := by rw [← hS, furS, if_neg hn0, if_neg hr]
        have e3 : (21 : Int) = Ex := by rw [← hE, furE, if_neg hn0, if_neg hr]
        subst e1 e2 e3
        refine emC (α := TPlace)<|emC (α := TMark)<|emC (α := TState)<|sq<|rg<|bd (ps := []) (cs := (cChart (({ fIndex := 0, fPlaces := [], fNext := 0, fLast := 0, fPlan := ({ fNumber := 0, fFrom := 0, fTo := 0, fLo := ByteArray.empty, fHi := ByteArray.empty, fClient := 0, fSeq := 0 } : TPlan), fMarks := [] } : TChart)) (.slice none 0 0) (.slice none 0 0))) (by rfl) (by kernel_rfl) rfl<|stW 1 (us := (cChart (({ fIndex := 0, fPlaces := [], fNext := 0, fLast := 0, fPlan := ({ fNumber := 0, fFrom := 0, fTo := 0, fLo := ByteArray.empty, fHi := ByteArray.empty, fClient := 0, fSeq := 0 } : TPlan), fMarks := [] } : TChart)) (.slice none 0 0) (.slice none 0 0))) rfl rfl rfl row_27 rfl rfl<|asg rfl rfl<|asg rfl rfl<|nl<|nx<|rt<|bR<|tR ?_
        exact tR<|bR<|tR<|fRG ⟨(.slice none 0 0), (.slice none 0 0), (.slice none 0 0)⟩ [_, _] (rCTT 1 rfl rfl rfl rfl rfl row_27) (by exact ⟨rfl, zchart_wf⟩) rfl (SubD.cons 2 rfl (SubD.cons 1 rfl (SubD.cons 0 rfl SubD.nil)))
      ·
        refine sk<|bN<|nx<|rg<|adI rfl rfl (inI (by omega) (by omega)) rfl<|mv rfl rfl<|nl<|dpQ ?_
        exact ag (i + 1) ⟨(by omega), (all_snoc hall ((by simpa using h27)))⟩ (by omega) ⟨rfl, rfl, rfl, rfl, rfl, trivial⟩ rfl (SubD.cons 7 rfl SubD.nil)
    ·
      have hr : rightAll l = true := allI_true (fun k hk => hall k (by omega))
      have hrm := right_mem hr
      have hl7 : ∀ v ∈ l, v.fStates.length = 7 := fun v hv => dright_len (hrm v hv)
      have h07 : (l.getD 0 default).fStates.length = 7 := hl7 _ (getD_mem (by omega))
      have hsl : ∀ k, (stF l k).length = 7 := fun k => (stF_len l k).trans h07
      refine ex<|tE<|tE<|bE<|nx<|sq ?_
      refine rgH ⟨fun q_ => ([[], [0], [1], [2], [], [4], [5], [6], [7], [], [9, 3], [8]] : List (List Nat)).getD q_ [], fun q_ => ([fun _ => True, fun _ => True, fun _ => True, fun u => u = .agg (cChart (l.getD 0 default).fChart (cel u 1) (cel u 11)).toArray ∧ (cel u 1).oneCell' = true ∧ (cel u 11).oneCell' = true ∧ (l.getD 0 default).fChart.wf, fun _ => True, fun _ => True, fun _ => True, fun _ => True, fun _ => True, fun u => u = .pointer (some ⟨ptrB u, 0, none⟩), fun _ => True, fun _ => True] : List (Value → Prop)).getD q_ (fun _ => True), fun q_ => ([fun _ => [], fun u => [⟨u, (⟨(l.getD 0 default)⟩ : Pt TScene)⟩], fun u => [⟨u, (⟨(l.getD 0 default).fChart⟩ : Pt TChart)⟩], fun u => [⟨cel u 1, (l.getD 0 default).fChart.fPlaces⟩, ⟨cel u 11, (l.getD 0 default).fChart.fMarks⟩], fun _ => [], fun u => [⟨u, (⟨(l.getD 0 default)⟩ : Pt TScene)⟩], fun u => [⟨u, (⟨(l.getD 0 default).fStates⟩ : Pt (List TState))⟩], fun u => [⟨u, (l.getD 0 default).fStates⟩], fun _ => [], fun _ => [], fun _ => [], fun _ => []] : List (Value → List Atom)).getD q_ (fun _ => []), fun q_ => ([some (v_l), none, none, none, some (v_l), none, none, none, none, none, none, none] : List (Option Value)).getD q_ none, fun h_ => match h_ with
          | [] => fun vs_ => [bl b2 27 [.int .i64 0, .slice none 0 0, .int .i64 0, .int .i64 0, .int .i64 0, .int .i64 0, .int .i64 0, .string ByteArray.empty, .string ByteArray.empty, .int .i64 0, .int .i64 0, .slice none 0 0], fz X w]
          | [3] => fun vs_ => [bl b2 27 [.int .i64 0, .slice none 0 0, .int .i64 0, .int .i64 0, .int .i64 0, .int .i64 0, .int .i64 0, .string ByteArray.empty, .string ByteArray.empty, .int .i64 0, .int .i64 0, .slice none 0 0], fz X w]
          | [8] => fun vs_ => [row 55 (vs_.getD 0 undef) (l.getD 0 default).fStates, bl b2 27 [.int .i64 0, .slice none 0 0, .int .i64 0, .int .i64 0, .int .i64 0, .int .i64 0, .int .i64 0, .string ByteArray.empty, .string ByteArray.empty, .int .i64 0, .int .i64 0, .slice none 0 0], fz X w]
          | [9] => fun vs_ => [bl (ptrB (vs_.getD 0 undef)) 27 [.int .i64 0, .slice none 0 0, .int .i64 0, .int .i64 0, .int .i64 0, .int .i64 0, .int .i64 0, .string ByteArray.empty, .string ByteArray.empty, .int .i64 0, .int .i64 0, .slice none 0 0], bl b2 27 [.int .i64 0, .slice none 0 0, .int .i64 0, .int .i64 0, .int .i64 0, .int .i64 0, .int .i64 0, .string ByteArray.empty, .string ByteArray.empty, .int .i64 0, .int .i64 0, .slice none 0 0], fz X w]
          | [3, 8] => fun vs_ => [row 55 (vs_.getD 1 undef) (l.getD 0 default).fStates, bl b2 27 [.int .i64 0, .slice none 0 0, .int .i64 0, .int .i64 0, .int .i64 0, .int .i64 0, .int .i64 0, .string ByteArray.empty, .string ByteArray.empty, .int .i64 0, .int .i64 0, .slice none 0 0], fz X w]
          | [3, 9] => fun vs_ => [bl (ptrB (vs_.getD 1 undef)) 27 [.int .i64 0, .slice none 0 0, .int .i64 0, .int .i64 0, .int .i64 0, .int .i64 0, .int .i64 0, .string ByteArray.empty, .string ByteArray.empty, .int .i64 0, .int .i64 0, .slice none 0 0], bl b2 27 [.int .i64 0, .slice none 0 0, .int .i64 0, .int .i64 0, .int .i64 0, .int .i64 0, .int .i64 0, .string ByteArray.empty, .string ByteArray.empty, .int .i64 0, .int .i64 0, .slice none 0 0], fz X w]
          | [8, 3] => fun vs_ => [row 55 (vs_.getD 0 undef) (l.getD 0 default).fStates, bl b2 27 [.int .i64 0, .slice none 0 0, .int .i64 0, .int .i64 0, .int .i64 0, .int .i64 0, .int .i64 0, .string ByteArray.empty, .string ByteArray.empty, .int .i64 0, .int .i64 0, .slice none 0 0], fz X w]
          | [8, 9] => fun vs_ => [row 55 (vs_.getD 0 undef) (l.getD 0 default).fStates, bl (ptrB (vs_.getD 1 undef)) 27 [.int .i64 0, .slice none 0 0, .int .i64 0, .int .i64 0, .int .i64 0, .int .i64 0, .int .i64 0, .string ByteArray.empty, .string ByteArray.empty, .int .i64 0, .int .i64 0, .slice none 0 0], bl b2 27 [.int .i64 0, .slice none 0 0, .int .i64 0, .int .i64 0, .int .i64 0, .int .i64 0, .int .i64 0, .string ByteArray.empty, .string ByteArray.empty, .int .i64 0, .int .i64 0, .slice none 0 0], fz X w]
          | [9, 3] => fun vs_ => [bl (ptrB (vs_.getD 0 undef)) 27 [.int .i64 0, .slice none 0 0, .int .i64 0, .int .i64 0, .int .i64 0, .int .i64 0, .int .i64 0, .string ByteArray.empty, .string ByteArray.empty, .int .i64 0, .int .i64 0, .slice none 0 0], bl b2 27 [.int .i64 0, .slice none 0 0, .int .i64 0, .int .i64 0, .int .i64 0, .int .i64 0, .int .i64 0, .string ByteArray.empty, .string ByteArray.empty, .int .i64 0, .int .i64 0, .slice none 0 0], fz X w]
          | [9, 8] => fun vs_ => [row 55 (vs_.getD 1 undef) (l.getD 0 default).fStates, bl (ptrB (vs_.getD 0 undef)) 27 [.int .i64 0, .slice none 0 0, .int .i64 0, .int .i64 0, .int .i64 0, .int .i64 0, .int .i64 0, .string ByteArray.empty, .string ByteArray.empty, .int .i64 0, .int .i64 0, .slice none 0 0], bl b2 27 [.int .i64 0, .slice none 0 0, .int .i64 0, .int .i64 0, .int .i64 0, .int .i64 0, .int .i64 0, .string ByteArray.empty, .string ByteArray.empty, .int .i64 0, .int .i64 0, .slice none 0 0], fz X w]
          | [3, 8, 9] => fun vs_ => [row 55 (vs_.getD 1 undef) (l.getD 0 default).fStates, bl (ptrB (vs_.getD 2 undef)) 27 [.int .i64 0, .slice none 0 0, .int .i64 0, .int .i64 0, .int .i64 0, .int .i64 0, .int .i64 0, .string ByteArray.empty, .string ByteArray.empty, .int .i64 0, .int .i64 0, .slice none 0 0], bl b2 27 [.int .i64 0, .slice none 0 0, .int .i64 0, .int .i64 0, .int .i64 0, .int .i64 0, .int .i64 0, .string ByteArray.empty, .string ByteArray.empty, .int .i64 0, .int .i64 0, .slice none 0 0], fz X w]
          | [3, 9, 8] => fun vs_ => [row 55 (vs_.getD 2 undef) (l.getD 0 default).fStates, bl (ptrB (vs_.getD 1 undef)) 27 [.int .i64 0, .slice none 0 0, .int .i64 0, .int .i64 0, .int .i64 0, .int .i64 0, .int .i64 0, .string ByteArray.empty, .string ByteArray.empty, .int .i64 0, .int .i64 0, .slice none 0 0], bl b2 27 [.int .i64 0, .slice none 0 0, .int .i64 0, .int .i64 0, .int .i64 0, .int .i64 0, .int .i64 0, .string ByteArray.empty, .string ByteArray.empty, .int .i64 0, .int .i64 0, .slice none 0 0], fz X w]
          | [8, 3, 9] => fun vs_ => [row 55 (vs_.getD 0 undef) (l.getD 0 default).fStates, bl (ptrB (vs_.getD 2 undef)) 27 [.int .i64 0, .slice none 0 0, .int .i64 0, .int .i64 0, .int .i64 0, .int .i64 0, .int .i64 0, .string ByteArray.empty, .string ByteArray.empty, .int .i64 0, .int .i64 0, .slice none 0 0], bl b2 27 [.int .i64 0, .slice none 0 0, .int .i64 0, .int .i64 0, .int .i64 0, .int .i64 0, .int .i64 0, .string ByteArray.empty, .string ByteArray.empty, .int .i64 0, .int .i64 0, .slice none 0 0], fz X w]
          | [8, 9, 3] => fun vs_ => [row 55 (vs_.getD 0 undef) (l.getD 0 default).fStates, bl (ptrB (vs_.getD 1 undef)) 27 [.int .i64 0, .slice none 0 0, .int .i64 0, .int .i64 0, .int .i64 0, .int .i64 0, .int .i64 0, .string ByteArray.empty, .string ByteArray.empty, .int .i64 0, .int .i64 0, .slice none 0 0], bl b2 27 [.int .i64 0, .slice none 0 0, .int .i64 0, .int .i64 0, .int .i64 0, .int .i64 0, .int .i64 0, .string ByteArray.empty, .string ByteArray.empty, .int .i64 0, .int .i64 0, .slice none 0 0], fz X w]
          | [9, 3, 8] => fun vs_ => [row 55 (vs_.getD 2 undef) (l.getD 0 default).fStates, bl (ptrB (vs_.getD 0 undef)) 27 [.int .i64 0, .slice none 0 0, .int .i64 0, .int .i64 0, .int .i64 0, .int .i64 0, .int .i64 0, .string ByteArray.empty, .string ByteArray.empty, .int .i64 0, .int .i64 0, .slice none 0 0], bl b2 27 [.int .i64 0, .slice none 0 0, .int .i64 0, .int .i64 0, .int .i64 0, .int .i64 0, .int .i64 0, .string ByteArray.empty, .string ByteArray.empty, .int .i64 0, .int .i64 0, .slice none 0 0], fz X w]
          | [9, 8, 3] => fun vs_ => [row 55 (vs_.getD 1 undef) (l.getD 0 default).fStates, bl (ptrB (vs_.getD 0 undef)) 27 [.int .i64 0, .slice none 0 0, .int .i64 0, .int .i64 0, .int .i64 0, .int .i64 0, .int .i64 0, .string ByteArray.empty, .string ByteArray.empty, .int .i64 0, .int .i64 0, .slice none 0 0], bl b2 27 [.int .i64 0, .slice none 0 0, .int .i64 0, .int .i64 0, .int .i64 0, .int .i64 0, .int .i64 0, .string ByteArray.empty, .string ByteArray.empty, .int .i64 0, .int .i64 0, .slice none 0 0], fz X w]
          | [3, 8, 9, 10] => fun vs_ => [row 55 (vs_.getD 1 undef) (l.getD 0 default).fStates, bl (ptrB (vs_.getD 2 undef)) 27 (cChart ((l.getD 0 default).fChart) (cel (vs_.getD 0 undef) 1) (cel (vs_.getD 0 undef) 11)), bl b2 27 [.int .i64 0, .slice none 0 0, .int .i64 0, .int .i64 0, .int .i64 0, .int .i64 0, .int .i64 0, .string ByteArray.empty, .string ByteArray.empty, .int .i64 0, .int .i64 0, .slice none 0 0], fz X w]
          | [3, 9, 8, 10] => fun vs_ => [row 55 (vs_.getD 2 undef) (l.getD 0 default).fStates, bl (ptrB (vs_.getD 1 undef)) 27 (cChart ((l.getD 0 default).fChart) (cel (vs_.getD 0 undef) 1) (cel (vs_.getD 0 undef) 11)), bl b2 27 [.int .i64 0, .slice none 0 0, .int .i64 0, .int .i64 0, .int .i64 0, .int .i64 0, .int .i64 0, .string ByteArray.empty, .string ByteArray.empty, .int .i64 0, .int .i64 0, .slice none 0 0], fz X w]
          | [8, 3, 9, 10] => fun vs_ => [row 55 (vs_.getD 0 undef) (l.getD 0 default).fStates, bl (ptrB (vs_.getD 2 undef)) 27 (cChart ((l.getD 0 default).fChart) (cel (vs_.getD 1 undef) 1) (cel (vs_.getD 1 undef) 11)), bl b2 27 [.int .i64 0, .slice none 0 0, .int .i64 0, .int .i64 0, .int .i64 0, .int .i64 0, .int .i64 0, .string ByteArray.empty, .string ByteArray.empty, .int .i64 0, .int .i64 0, .slice none 0 0], fz X w]
          | [8, 9, 3, 10] => fun vs_ => [row 55 (vs_.getD 0 undef) (l.getD 0 default).fStates, bl (ptrB (vs_.getD 1 undef)) 27 (cChart ((l.getD 0 default).fChart) (cel (vs_.getD 2 undef) 1) (cel (vs_.getD 2 undef) 11)), bl b2 27 [.int .i64 0, .slice none 0 0, .int .i64 0, .int .i64 0, .int .i64 0, .int .i64 0, .int .i64 0, .string ByteArray.empty, .string ByteArray.empty, .int .i64 0, .int .i64 0, .slice none 0 0], fz X w]
          | [9, 3, 8, 10] => fun vs_ => [row 55 (vs_.getD 2 undef) (l.getD 0 default).fStates, bl (ptrB (vs_.getD 0 undef)) 27 (cChart ((l.getD 0 default).fChart) (cel (vs_.getD 1 undef) 1) (cel (vs_.getD 1 undef) 11)), bl b2 27 [.int .i64 0, .slice none 0 0, .int .i64 0, .int .i64 0, .int .i64 0, .int .i64 0, .int .i64 0, .string ByteArray.empty, .string ByteArray.empty, .int .i64 0, .int .i64 0, .slice none 0 0], fz X w]
          | [9, 8, 3, 10] => fun vs_ => [row 55 (vs_.getD 1 undef) (l.getD 0 default).fStates, bl (ptrB (vs_.getD 0 undef)) 27 (cChart ((l.getD 0 default).fChart) (cel (vs_.getD 2 undef) 1) (cel (vs_.getD 2 undef) 11)), bl b2 27 [.int .i64 0, .slice none 0 0, .int .i64 0, .int .i64 0, .int .i64 0, .int .i64 0, .int .i64 0, .string ByteArray.empty, .string ByteArray.empty, .int .i64 0, .int .i64 0, .slice none 0 0], fz X w]
          | [3, 8, 9, 10, 11] => fun vs_ => [row 55 (vs_.getD 4 undef) (l.getD 0 default).fStates, bl (ptrB (vs_.getD 2 undef)) 27 (cChart ((l.getD 0 default).fChart) (cel (vs_.getD 0 undef) 1) (cel (vs_.getD 0 undef) 11)), bl b2 27 [.int .i64 0, .slice none 0 0, .int .i64 0, .int .i64 0, .int .i64 0, .int .i64 0, .int .i64 0, .string ByteArray.empty, .string ByteArray.empty, .int .i64 0, .int .i64 0, .slice none 0 0], fz X w]
          | [3, 9, 8, 10, 11] => fun vs_ => [row 55 (vs_.getD 4 undef) (l.getD 0 default).fStates, bl (ptrB (vs_.getD 1 undef)) 27 (cChart ((l.getD 0 default).fChart) (cel (vs_.getD 0 undef) 1) (cel (vs_.getD 0 undef) 11)), bl b2 27 [.int .i64 0, .slice none 0 0, .int .i64 0, .int .i64 0, .int .i64 0, .int .i64 0, .int .i64 0, .string ByteArray.empty, .string ByteArray.empty, .int .i64 0, .int .i64 0, .slice none 0 0], fz X w]
          | [8, 3, 9, 10, 11] => fun vs_ => [row 55 (vs_.getD 4 undef) (l.getD 0 default).fStates, bl (ptrB (vs_.getD 2 undef)) 27 (cChart ((l.getD 0 default).fChart) (cel (vs_.getD 1 undef) 1) (cel (vs_.getD 1 undef) 11)), bl b2 27 [.int .i64 0, .slice none 0 0, .int .i64 0, .int .i64 0, .int .i64 0, .int .i64 0, .int .i64 0, .string ByteArray.empty, .string ByteArray.empty, .int .i64 0, .int .i64 0, .slice none 0 0], fz X w]
          | [8, 9, 3, 10, 11] => fun vs_ => [row 55 (vs_.getD 4 undef) (l.getD 0 default).fStates, bl (ptrB (vs_.getD 1 undef)) 27 (cChart ((l.getD 0 default).fChart) (cel (vs_.getD 2 undef) 1) (cel (vs_.getD 2 undef) 11)), bl b2 27 [.int .i64 0, .slice none 0 0, .int .i64 0, .int .i64 0, .int .i64 0, .int .i64 0, .int .i64 0, .string ByteArray.empty, .string ByteArray.empty, .int .i64 0, .int .i64 0, .slice none 0 0], fz X w]
          | [9, 3, 8, 10, 11] => fun vs_ => [row 55 (vs_.getD 4 undef) (l.getD 0 default).fStates, bl (ptrB (vs_.getD 0 undef)) 27 (cChart ((l.getD 0 default).fChart) (cel (vs_.getD 1 undef) 1) (cel (vs_.getD 1 undef) 11)), bl b2 27 [.int .i64 0, .slice none 0 0, .int .i64 0, .int .i64 0, .int .i64 0, .int .i64 0, .int .i64 0, .string ByteArray.empty, .string ByteArray.empty, .int .i64 0, .int .i64 0, .slice none 0 0], fz X w]
          | [9, 8, 3, 10, 11] => fun vs_ => [row 55 (vs_.getD 4 undef) (l.getD 0 default).fStates, bl (ptrB (vs_.getD 0 undef)) 27 (cChart ((l.getD 0 default).fChart) (cel (vs_.getD 2 undef) 1) (cel (vs_.getD 2 undef) 11)), bl b2 27 [.int .i64 0, .slice none 0 0, .int .i64 0, .int .i64 0, .int .i64 0, .int .i64 0, .int .i64 0, .string ByteArray.empty, .string ByteArray.empty, .int .i64 0, .int .i64 0, .slice none 0 0], fz X w]
          | _ => fun _ => [], [3, 8, 9, 10, 11], [[], [3], [8], [9], [3, 8], [3, 9], [8, 3], [8, 9], [9, 3], [9, 8], [3, 8, 9], [3, 9, 8], [8, 3, 9], [8, 9, 3], [9, 3, 8], [9, 8, 3], [3, 8, 9, 10], [3, 9, 8, 10], [8, 3, 9, 10], [8, 9, 3, 10], [9, 3, 8, 10], [9, 8, 3, 10], [3, 8, 9, 10, 11], [3, 9, 8, 10, 11], [8, 3, 9, 10, 11], [8, 9, 3, 10, 11], [9, 3, 8, 10, 11], [9, 8, 3, 10, 11]]⟩ (fun V => [row 55 (V 11) (l.getD 0 default).fStates, bl (ptrB (V 9)) 27 (cChart ((l.getD 0 default).fChart) (cel (V 3) 1) (cel (V 3) 11)), bl b2 27 [.int .i64 0, .slice none 0 0, .int .i64 0, .int .i64 0, .int .i64 0, .int .i64 0, .int .i64 0, .string ByteArray.empty, .string ByteArray.empty, .int .i64 0, .int .i64 0, .slice none 0 0], fz X w]) mixed rfl rfl (show AllP _ [[3, 8, 9, 10, 11], [3, 9, 8, 10, 11], [8, 3, 9, 10, 11], [8, 9, 3, 10, 11], [9, 3, 8, 10, 11], [9, 8, 3, 10, 11]] from ⟨fun _ => rfl, fun _ => rfl, fun _ => rfl, fun _ => rfl, fun _ => rfl, fun _ => rfl, trivial⟩) ?_ ?_
      ·
        refine ⟨fun V De _ => (show AllP _ [[], [3], [8], [9], [3, 8], [3, 9], [8, 3], [8, 9], [9, 3], [9, 8], [3, 8, 9], [3, 9, 8], [8, 3, 9], [8, 9, 3], [9, 3, 8], [9, 8, 3]] from ⟨?_, ?_, ?_, ?_, ?_, ?_, ?_, ?_, ?_, ?_, ?_, ?_, ?_, ?_, ?_, ?_, trivial⟩), ?_⟩
        ·
          exact mv rfl rfl<|nl (odH rfl rfl rfl rfl SubD.nil SubD.refl)
        ·
          exact mv rfl rfl<|nl (odH rfl rfl rfl rfl SubD.nil SubD.refl)
        ·
          exact mv rfl rfl<|nl (odH rfl rfl rfl rfl SubD.nil SubD.refl)
        ·
          exact mv rfl rfl<|nl (odH rfl rfl rfl rfl SubD.nil SubD.refl)
        ·
          exact mv rfl rfl<|nl (odH rfl rfl rfl rfl SubD.nil SubD.refl)
        ·
          exact mv rfl rfl<|nl (odH rfl rfl rfl rfl SubD.nil SubD.refl)
        ·
          exact mv rfl rfl<|nl (odH rfl rfl rfl rfl SubD.nil SubD.refl)
        ·
          exact mv rfl rfl<|nl (odH rfl rfl rfl rfl SubD.nil SubD.refl)
        ·
          exact mv rfl rfl<|nl (odH rfl rfl rfl rfl SubD.nil SubD.refl)
        ·
          exact mv rfl rfl<|nl (odH rfl rfl rfl rfl SubD.nil SubD.refl)
        ·
          exact mv rfl rfl<|nl (odH rfl rfl rfl rfl SubD.nil SubD.refl)
        ·
          exact mv rfl rfl<|nl (odH rfl rfl rfl rfl SubD.nil SubD.refl)
        ·
          exact mv rfl rfl<|nl (odH rfl rfl rfl rfl SubD.nil SubD.refl)
        ·
          exact mv rfl rfl<|nl (odH rfl rfl rfl rfl SubD.nil SubD.refl)
        ·
          exact mv rfl rfl<|nl (odH rfl rfl rfl rfl SubD.nil SubD.refl)
        ·
          exact mv rfl rfl<|nl (odH rfl rfl rfl rfl SubD.nil SubD.refl)
        refine ⟨fun V De _ => (show AllP _ [[], [3], [8], [9], [3, 8], [3, 9], [8, 3], [8, 9], [9, 3], [9, 8], [3, 8, 9], [3, 9, 8], [8, 3, 9], [8, 9, 3], [9, 3, 8], [9, 8, 3]] from ⟨?_, ?_, ?_, ?_, ?_, ?_, ?_, ?_, ?_, ?_, ?_, ?_, ?_, ?_, ?_, ?_, trivial⟩), ?_⟩
        ·
          exact ixP 0 rfl rfl rfl slt_75 (by omega) (getDE (d := default) (by omega)) rfl fun v31 => nl (odH rfl rfl rfl trivial (SubD.cons 0 rfl SubD.nil) (SubD.tail SubD.refl))
        ·
          exact ixP 0 rfl rfl rfl slt_75 (by omega) (getDE (d := default) (by omega)) rfl fun v31 => nl (odH rfl rfl rfl trivial (SubD.cons 0 rfl SubD.nil) (SubD.tail SubD.refl))
        ·
          exact ixP 0 rfl rfl rfl slt_75 (by omega) (getDE (d := default) (by omega)) rfl fun v31 => nl (odH rfl rfl rfl trivial (SubD.cons 0 rfl SubD.nil) (SubD.tail SubD.refl))
        ·
          exact ixP 0 rfl rfl rfl slt_75 (by omega) (getDE (d := default) (by omega)) rfl fun v31 => nl (odH rfl rfl rfl trivial (SubD.cons 0 rfl SubD.nil) (SubD.tail SubD.refl))
        ·
          exact ixP 0 rfl rfl rfl slt_75 (by omega) (getDE (d := default) (by omega)) rfl fun v31 => nl (odH rfl rfl rfl trivial (SubD.cons 0 rfl SubD.nil) (SubD.tail SubD.refl))
        ·
          exact ixP 0 rfl rfl rfl slt_75 (by omega) (getDE (d := default) (by omega)) rfl fun v31 => nl (odH rfl rfl rfl trivial (SubD.cons 0 rfl SubD.nil) (SubD.tail SubD.refl))
        ·
          exact ixP 0 rfl rfl rfl slt_75 (by omega) (getDE (d := default) (by omega)) rfl fun v31 => nl (odH rfl rfl rfl trivial (SubD.cons 0 rfl SubD.nil) (SubD.tail SubD.refl))
        ·
          exact ixP 0 rfl rfl rfl slt_75 (by omega) (getDE (d := default) (by omega)) rfl fun v31 => nl (odH rfl rfl rfl trivial (SubD.cons 0 rfl SubD.nil) (SubD.tail SubD.refl))
        ·
          exact ixP 0 rfl rfl rfl slt_75 (by omega) (getDE (d := default) (by omega)) rfl fun v31 => nl (odH rfl rfl rfl trivial (SubD.cons 0 rfl SubD.nil) (SubD.tail SubD.refl))
        ·
          exact ixP 0 rfl rfl rfl slt_75 (by omega) (getDE (d := default) (by omega)) rfl fun v31 => nl (odH rfl rfl rfl trivial (SubD.cons 0 rfl SubD.nil) (SubD.tail SubD.refl))
        ·
          exact ixP 0 rfl rfl rfl slt_75 (by omega) (getDE (d := default) (by omega)) rfl fun v31 => nl (odH rfl rfl rfl trivial (SubD.cons 0 rfl SubD.nil) (SubD.tail SubD.refl))
        ·
          exact ixP 0 rfl rfl rfl slt_75 (by omega) (getDE (d := default) (by omega)) rfl fun v31 => nl (odH rfl rfl rfl trivial (SubD.cons 0 rfl SubD.nil) (SubD.tail SubD.refl))
        ·
          exact ixP 0 rfl rfl rfl slt_75 (by omega) (getDE (d := default) (by omega)) rfl fun v31 => nl (odH rfl rfl rfl trivial (SubD.cons 0 rfl SubD.nil) (SubD.tail SubD.refl))
        ·
          exact ixP 0 rfl rfl rfl slt_75 (by omega) (getDE (d := default) (by omega)) rfl fun v31 => nl (odH rfl rfl rfl trivial (SubD.cons 0 rfl SubD.nil) (SubD.tail SubD.refl))
        ·
          exact ixP 0 rfl rfl rfl slt_75 (by omega) (getDE (d := default) (by omega)) rfl fun v31 => nl (odH rfl rfl rfl trivial (SubD.cons 0 rfl SubD.nil) (SubD.tail SubD.refl))
        ·
          exact ixP 0 rfl rfl rfl slt_75 (by omega) (getDE (d := default) (by omega)) rfl fun v31 => nl (odH rfl rfl rfl trivial (SubD.cons 0 rfl SubD.nil) (SubD.tail SubD.refl))
        refine ⟨fun V De _ => (show AllP _ [[], [8], [9], [8, 9], [9, 8]] from ⟨?_, ?_, ?_, ?_, ?_, trivial⟩), ?_⟩
        ·
          exact faP (α := TScene) (β := TChart) 0 (fun x : TScene => x.fChart) rfl rfl fld_32_2 pScene_2 rfl fun v32 => nl (odH rfl rfl rfl trivial (SubD.cons 0 rfl SubD.nil) (SubD.tail (SubD.tail SubD.refl)))
        ·
          exact faP (α := TScene) (β := TChart) 0 (fun x : TScene => x.fChart) rfl rfl fld_32_2 pScene_2 rfl fun v32 => nl (odH rfl rfl rfl trivial (SubD.cons 0 rfl SubD.nil) (SubD.tail (SubD.tail SubD.refl)))
        ·
          exact faP (α := TScene) (β := TChart) 0 (fun x : TScene => x.fChart) rfl rfl fld_32_2 pScene_2 rfl fun v32 => nl (odH rfl rfl rfl trivial (SubD.cons 0 rfl SubD.nil) (SubD.tail (SubD.tail SubD.refl)))
        ·
          exact faP (α := TScene) (β := TChart) 0 (fun x : TScene => x.fChart) rfl rfl fld_32_2 pScene_2 rfl fun v32 => nl (odH rfl rfl rfl trivial (SubD.cons 0 rfl SubD.nil) (SubD.tail (SubD.tail SubD.refl)))
        ·
          exact faP (α := TScene) (β := TChart) 0 (fun x : TScene => x.fChart) rfl rfl fld_32_2 pScene_2 rfl fun v32 => nl (odH rfl rfl rfl trivial (SubD.cons 0 rfl SubD.nil) (SubD.tail (SubD.tail SubD.refl)))
        refine ⟨fun V De _ => (show AllP _ [[], [8], [9], [8, 9], [9, 8]] from ⟨?_, ?_, ?_, ?_, ?_, trivial⟩), ?_⟩
        ·
          refine ldS 0 rfl rfl row_27 rfl fun q33 w33 => ?_
          obtain ⟨q33_0, q33_1⟩ := q33
          exact gtL (q := q33_0.oneCell' = true) (fun S w h => oneCell_of_list (h _ (List.mem_of_getElem? (i := 1) rfl))) fun o33_0 => gtL (q := q33_1.oneCell' = true) (fun S w h => oneCell_of_list (h _ (List.mem_of_getElem? (i := 2) rfl))) fun o33_1 => nl (odH rfl rfl rfl ⟨rfl, o33_0, o33_1, w33⟩ (SubD.cons 1 rfl (SubD.cons 2 rfl SubD.nil)) (SubD.tail (SubD.tail (SubD.tail (SubD.tail SubD.refl)))))
        ·
          refine ldS 0 rfl rfl row_27 rfl fun q33 w33 => ?_
          obtain ⟨q33_0, q33_1⟩ := q33
          exact gtL (q := q33_0.oneCell' = true) (fun S w h => oneCell_of_list (h _ (List.mem_of_getElem? (i := 1) rfl))) fun o33_0 => gtL (q := q33_1.oneCell' = true) (fun S w h => oneCell_of_list (h _ (List.mem_of_getElem? (i := 2) rfl))) fun o33_1 => nl (odH rfl rfl rfl ⟨rfl, o33_0, o33_1, w33⟩ (SubD.cons 1 rfl (SubD.cons 2 rfl SubD.nil)) (SubD.tail (SubD.tail (SubD.tail (SubD.tail SubD.refl)))))
        ·
          refine ldS 0 rfl rfl row_27 rfl fun q33 w33 => ?_
          obtain ⟨q33_0, q33_1⟩ := q33
          exact gtL (q := q33_0.oneCell' = true) (fun S w h => oneCell_of_list (h _ (List.mem_of_getElem? (i := 1) rfl))) fun o33_0 => gtL (q := q33_1.oneCell' = true) (fun S w h => oneCell_of_list (h _ (List.mem_of_getElem? (i := 2) rfl))) fun o33_1 => nl (odH rfl rfl rfl ⟨rfl, o33_0, o33_1, w33⟩ (SubD.cons 1 rfl (SubD.cons 2 rfl SubD.nil)) (SubD.tail (SubD.tail (SubD.tail (SubD.tail SubD.refl)))))
        ·
          refine ldS 0 rfl rfl row_27 rfl fun q33 w33 => ?_
          obtain ⟨q33_0, q33_1⟩ := q33
          exact gtL (q := q33_0.oneCell' = true) (fun S w h => oneCell_of_list (h _ (List.mem_of_getElem? (i := 1) rfl))) fun o33_0 => gtL (q := q33_1.oneCell' = true) (fun S w h => oneCell_of_list (h _ (List.mem_of_getElem? (i := 2) rfl))) fun o33_1 => nl (odH rfl rfl rfl ⟨rfl, o33_0, o33_1, w33⟩ (SubD.cons 1 rfl (SubD.cons 2 rfl SubD.nil)) (SubD.tail (SubD.tail (SubD.tail (SubD.tail SubD.refl)))))
        ·
          refine ldS 0 rfl rfl row_27 rfl fun q33 w33 => ?_
          obtain ⟨q33_0, q33_1⟩ := q33
          exact gtL (q := q33_0.oneCell' = true) (fun S w h => oneCell_of_list (h _ (List.mem_of_getElem? (i := 1) rfl))) fun o33_0 => gtL (q := q33_1.oneCell' = true) (fun S w h => oneCell_of_list (h _ (List.mem_of_getElem? (i := 2) rfl))) fun o33_1 => nl (odH rfl rfl rfl ⟨rfl, o33_0, o33_1, w33⟩ (SubD.cons 1 rfl (SubD.cons 2 rfl SubD.nil)) (SubD.tail (SubD.tail (SubD.tail (SubD.tail SubD.refl)))))
        refine ⟨fun V De _ => (show AllP _ [[], [3], [8], [9], [3, 8], [3, 9], [8, 3], [8, 9], [9, 3], [9, 8], [3, 8, 9], [3, 9, 8], [8, 3, 9], [8, 9, 3], [9, 3, 8], [9, 8, 3], [3, 8, 9, 10], [3, 9, 8, 10], [8, 3, 9, 10], [8, 9, 3, 10], [9, 3, 8, 10], [9, 8, 3, 10]] from ⟨?_, ?_, ?_, ?_, ?_, ?_, ?_, ?_, ?_, ?_, ?_, ?_, ?_, ?_, ?_, ?_, ?_, ?_, ?_, ?_, ?_, ?_, trivial⟩), ?_⟩
        ·
          exact mv rfl rfl<|nl (odH rfl rfl rfl rfl SubD.nil SubD.refl)
        ·
          exact mv rfl rfl<|nl (odH rfl rfl rfl rfl SubD.nil SubD.refl)
        ·
          exact mv rfl rfl<|nl (odH rfl rfl rfl rfl SubD.nil SubD.refl)
        ·
          exact mv rfl rfl<|nl (odH rfl rfl rfl rfl SubD.nil SubD.refl)
        ·
          exact mv rfl rfl<|nl (odH rfl rfl rfl rfl SubD.nil SubD.refl)
        ·
          exact mv rfl rfl<|nl (odH rfl rfl rfl rfl SubD.nil SubD.refl)
        ·
          exact mv rfl rfl<|nl (odH rfl rfl rfl rfl SubD.nil SubD.refl)
        ·
          exact mv rfl rfl<|nl (odH rfl rfl rfl rfl SubD.nil SubD.refl)
        ·
          exact mv rfl rfl<|nl (odH rfl rfl rfl rfl SubD.nil SubD.refl)
        ·
          exact mv rfl rfl<|nl (odH rfl rfl rfl rfl SubD.nil SubD.refl)
        ·
          exact mv rfl rfl<|nl (odH rfl rfl rfl rfl SubD.nil SubD.refl)
        ·
          exact mv rfl rfl<|nl (odH rfl rfl rfl rfl SubD.nil SubD.refl)
        ·
          exact mv rfl rfl<|nl (odH rfl rfl rfl rfl SubD.nil SubD.refl)
        ·
          exact mv rfl rfl<|nl (odH rfl rfl rfl rfl SubD.nil SubD.refl)
        ·
          exact mv rfl rfl<|nl (odH rfl rfl rfl rfl SubD.nil SubD.refl)
        ·
          exact mv rfl rfl<|nl (odH rfl rfl rfl rfl SubD.nil SubD.refl)
        ·
          exact mv rfl rfl<|nl (odH rfl rfl rfl rfl SubD.nil SubD.refl)
        ·
          exact mv rfl rfl<|nl (odH rfl rfl rfl rfl SubD.nil SubD.refl)
        ·
          exact mv rfl rfl<|nl (odH rfl rfl rfl rfl SubD.nil SubD.refl)
        ·
          exact mv rfl rfl<|nl (odH rfl rfl rfl rfl SubD.nil SubD.refl)
        ·
          exact mv rfl rfl<|nl (odH rfl rfl rfl rfl SubD.nil SubD.refl)
        ·
          exact mv rfl rfl<|nl (odH rfl rfl rfl rfl SubD.nil SubD.refl)
        refine ⟨fun V De _ => (show AllP _ [[], [3], [8], [9], [3, 8], [3, 9], [8, 3], [8, 9], [9, 3], [9, 8], [3, 8, 9], [3, 9, 8], [8, 3, 9], [8, 9, 3], [9, 3, 8], [9, 8, 3], [3, 8, 9, 10], [3, 9, 8, 10], [8, 3, 9, 10], [8, 9, 3, 10], [9, 3, 8, 10], [9, 8, 3, 10]] from ⟨?_, ?_, ?_, ?_, ?_, ?_, ?_, ?_, ?_, ?_, ?_, ?_, ?_, ?_, ?_, ?_, ?_, ?_, ?_, ?_, ?_, ?_, trivial⟩), ?_⟩
        ·
          exact ixP 0 rfl rfl rfl slt_75 (by omega) (getDE (d := default) (by omega)) rfl fun v35 => nl (odH rfl rfl rfl trivial (SubD.cons 0 rfl SubD.nil) (SubD.tail SubD.refl))
        ·
          exact ixP 0 rfl rfl rfl slt_75 (by omega) (getDE (d := default) (by omega)) rfl fun v35 => nl (odH rfl rfl rfl trivial (SubD.cons 0 rfl SubD.nil) (SubD.tail SubD.refl))
        ·
          exact ixP 0 rfl rfl rfl slt_75 (by omega) (getDE (d := default) (by omega)) rfl fun v35 => nl (odH rfl rfl rfl trivial (SubD.cons 0 rfl SubD.nil) (SubD.tail SubD.refl))
        ·
          exact ixP 0 rfl rfl rfl slt_75 (by omega) (getDE (d := default) (by omega)) rfl fun v35 => nl (odH rfl rfl rfl trivial (SubD.cons 0 rfl SubD.nil) (SubD.tail SubD.refl))
        ·
          exact ixP 0 rfl rfl rfl slt_75 (by omega) (getDE (d := default) (by omega)) rfl fun v35 => nl (odH rfl rfl rfl trivial (SubD.cons 0 rfl SubD.nil) (SubD.tail SubD.refl))
        ·
          exact ixP 0 rfl rfl rfl slt_75 (by omega) (getDE (d := default) (by omega)) rfl fun v35 => nl (odH rfl rfl rfl trivial (SubD.cons 0 rfl SubD.nil) (SubD.tail SubD.refl))
        ·
          exact ixP 0 rfl rfl rfl slt_75 (by omega) (getDE (d := default) (by omega)) rfl fun v35 => nl (odH rfl rfl rfl trivial (SubD.cons 0 rfl SubD.nil) (SubD.tail SubD.refl))
        ·
          exact ixP 0 rfl rfl rfl slt_75 (by omega) (getDE (d := default) (by omega)) rfl fun v35 => nl (odH rfl rfl rfl trivial (SubD.cons 0 rfl SubD.nil) (SubD.tail SubD.refl))
        ·
          exact ixP 0 rfl rfl rfl slt_75 (by omega) (getDE (d := default) (by omega)) rfl fun v35 => nl (odH rfl rfl rfl trivial (SubD.cons 0 rfl SubD.nil) (SubD.tail SubD.refl))
        ·
          exact ixP 0 rfl rfl rfl slt_75 (by omega) (getDE (d := default) (by omega)) rfl fun v35 => nl (odH rfl rfl rfl trivial (SubD.cons 0 rfl SubD.nil) (SubD.tail SubD.refl))
        ·
          exact ixP 0 rfl rfl rfl slt_75 (by omega) (getDE (d := default) (by omega)) rfl fun v35 => nl (odH rfl rfl rfl trivial (SubD.cons 0 rfl SubD.nil) (SubD.tail SubD.refl))
        ·
          exact ixP 0 rfl rfl rfl slt_75 (by omega) (getDE (d := default) (by omega)) rfl fun v35 => nl (odH rfl rfl rfl trivial (SubD.cons 0 rfl SubD.nil) (SubD.tail SubD.refl))
        ·
          exact ixP 0 rfl rfl rfl slt_75 (by omega) (getDE (d := default) (by omega)) rfl fun v35 => nl (odH rfl rfl rfl trivial (SubD.cons 0 rfl SubD.nil) (SubD.tail SubD.refl))
        ·
          exact ixP 0 rfl rfl rfl slt_75 (by omega) (getDE (d := default) (by omega)) rfl fun v35 => nl (odH rfl rfl rfl trivial (SubD.cons 0 rfl SubD.nil) (SubD.tail SubD.refl))
        ·
          exact ixP 0 rfl rfl rfl slt_75 (by omega) (getDE (d := default) (by omega)) rfl fun v35 => nl (odH rfl rfl rfl trivial (SubD.cons 0 rfl SubD.nil) (SubD.tail SubD.refl))
        ·
          exact ixP 0 rfl rfl rfl slt_75 (by omega) (getDE (d := default) (by omega)) rfl fun v35 => nl (odH rfl rfl rfl trivial (SubD.cons 0 rfl SubD.nil) (SubD.tail SubD.refl))
        ·
          exact ixP 0 rfl rfl rfl slt_75 (by omega) (getDE (d := default) (by omega)) rfl fun v35 => nl (odH rfl rfl rfl trivial (SubD.cons 0 rfl SubD.nil) (SubD.tail SubD.refl))
        ·
          exact ixP 0 rfl rfl rfl slt_75 (by omega) (getDE (d := default) (by omega)) rfl fun v35 => nl (odH rfl rfl rfl trivial (SubD.cons 0 rfl SubD.nil) (SubD.tail SubD.refl))
        ·
          exact ixP 0 rfl rfl rfl slt_75 (by omega) (getDE (d := default) (by omega)) rfl fun v35 => nl (odH rfl rfl rfl trivial (SubD.cons 0 rfl SubD.nil) (SubD.tail SubD.refl))
        ·
          exact ixP 0 rfl rfl rfl slt_75 (by omega) (getDE (d := default) (by omega)) rfl fun v35 => nl (odH rfl rfl rfl trivial (SubD.cons 0 rfl SubD.nil) (SubD.tail SubD.refl))
        ·
          exact ixP 0 rfl rfl rfl slt_75 (by omega) (getDE (d := default) (by omega)) rfl fun v35 => nl (odH rfl rfl rfl trivial (SubD.cons 0 rfl SubD.nil) (SubD.tail SubD.refl))
        ·
          exact ixP 0 rfl rfl rfl slt_75 (by omega) (getDE (d := default) (by omega)) rfl fun v35 => nl (odH rfl rfl rfl trivial (SubD.cons 0 rfl SubD.nil) (SubD.tail SubD.refl))
        refine ⟨fun V De _ => (show AllP _ [[], [3], [8], [9], [3, 8], [3, 9], [8, 3], [8, 9], [9, 3], [9, 8], [3, 8, 9], [3, 9, 8], [8, 3, 9], [8, 9, 3], [9, 3, 8], [9, 8, 3], [3, 8, 9, 10], [3, 9, 8, 10], [8, 3, 9, 10], [8, 9, 3, 10], [9, 3, 8, 10], [9, 8, 3, 10]] from ⟨?_, ?_, ?_, ?_, ?_, ?_, ?_, ?_, ?_, ?_, ?_, ?_, ?_, ?_, ?_, ?_, ?_, ?_, ?_, ?_, ?_, ?_, trivial⟩), ?_⟩
        ·
          exact faP (α := TScene) (β := List TState) 0 (fun x : TScene => x.fStates) rfl rfl fld_32_3 pScene_3 rfl fun v36 => nl (odH rfl rfl rfl trivial (SubD.cons 0 rfl SubD.nil) (SubD.tail (SubD.tail SubD.refl)))
        ·
          exact faP (α := TScene) (β := List TState) 0 (fun x : TScene => x.fStates) rfl rfl fld_32_3 pScene_3 rfl fun v36 => nl (odH rfl rfl rfl trivial (SubD.cons 0 rfl SubD.nil) (SubD.tail (SubD.tail SubD.refl)))
        ·
          exact faP (α := TScene) (β := List TState) 0 (fun x : TScene => x.fStates) rfl rfl fld_32_3 pScene_3 rfl fun v36 => nl (odH rfl rfl rfl trivial (SubD.cons 0 rfl SubD.nil) (SubD.tail (SubD.tail SubD.refl)))
        ·
          exact faP (α := TScene) (β := List TState) 0 (fun x : TScene => x.fStates) rfl rfl fld_32_3 pScene_3 rfl fun v36 => nl (odH rfl rfl rfl trivial (SubD.cons 0 rfl SubD.nil) (SubD.tail (SubD.tail SubD.refl)))
        ·
          exact faP (α := TScene) (β := List TState) 0 (fun x : TScene => x.fStates) rfl rfl fld_32_3 pScene_3 rfl fun v36 => nl (odH rfl rfl rfl trivial (SubD.cons 0 rfl SubD.nil) (SubD.tail (SubD.tail SubD.refl)))
        ·
          exact faP (α := TScene) (β := List TState) 0 (fun x : TScene => x.fStates) rfl rfl fld_32_3 pScene_3 rfl fun v36 => nl (odH rfl rfl rfl trivial (SubD.cons 0 rfl SubD.nil) (SubD.tail (SubD.tail SubD.refl)))
        ·
          exact faP (α := TScene) (β := List TState) 0 (fun x : TScene => x.fStates) rfl rfl fld_32_3 pScene_3 rfl fun v36 => nl (odH rfl rfl rfl trivial (SubD.cons 0 rfl SubD.nil) (SubD.tail (SubD.tail SubD.refl)))
        ·
          exact faP (α := TScene) (β := List TState) 0 (fun x : TScene => x.fStates) rfl rfl fld_32_3 pScene_3 rfl fun v36 => nl (odH rfl rfl rfl trivial (SubD.cons 0 rfl SubD.nil) (SubD.tail (SubD.tail SubD.refl)))
        ·
          exact faP (α := TScene) (β := List TState) 0 (fun x : TScene => x.fStates) rfl rfl fld_32_3 pScene_3 rfl fun v36 => nl (odH rfl rfl rfl trivial (SubD.cons 0 rfl SubD.nil) (SubD.tail (SubD.tail SubD.refl)))
        ·
          exact faP (α := TScene) (β := List TState) 0 (fun x : TScene => x.fStates) rfl rfl fld_32_3 pScene_3 rfl fun v36 => nl (odH rfl rfl rfl trivial (SubD.cons 0 rfl SubD.nil) (SubD.tail (SubD.tail SubD.refl)))
        ·
          exact faP (α := TScene) (β := List TState) 0 (fun x : TScene => x.fStates) rfl rfl fld_32_3 pScene_3 rfl fun v36 => nl (odH rfl rfl rfl trivial (SubD.cons 0 rfl SubD.nil) (SubD.tail (SubD.tail SubD.refl)))
        ·
          exact faP (α := TScene) (β := List TState) 0 (fun x : TScene => x.fStates) rfl rfl fld_32_3 pScene_3 rfl fun v36 => nl (odH rfl rfl rfl trivial (SubD.cons 0 rfl SubD.nil) (SubD.tail (SubD.tail SubD.refl)))
        ·
          exact faP (α := TScene) (β := List TState) 0 (fun x : TScene => x.fStates) rfl rfl fld_32_3 pScene_3 rfl fun v36 => nl (odH rfl rfl rfl trivial (SubD.cons 0 rfl SubD.nil) (SubD.tail (SubD.tail SubD.refl)))
        ·
          exact faP (α := TScene) (β := List TState) 0 (fun x : TScene => x.fStates) rfl rfl fld_32_3 pScene_3 rfl fun v36 => nl (odH rfl rfl rfl trivial (SubD.cons 0 rfl SubD.nil) (SubD.tail (SubD.tail SubD.refl)))
        ·
          exact faP (α := TScene) (β := List TState) 0 (fun x : TScene => x.fStates) rfl rfl fld_32_3 pScene_3 rfl fun v36 => nl (odH rfl rfl rfl trivial (SubD.cons 0 rfl SubD.nil) (SubD.tail (SubD.tail SubD.refl)))
        ·
          exact faP (α := TScene) (β := List TState) 0 (fun x : TScene => x.fStates) rfl rfl fld_32_3 pScene_3 rfl fun v36 => nl (odH rfl rfl rfl trivial (SubD.cons 0 rfl SubD.nil) (SubD.tail (SubD.tail SubD.refl)))
        ·
          exact faP (α := TScene) (β := List TState) 0 (fun x : TScene => x.fStates) rfl rfl fld_32_3 pScene_3 rfl fun v36 => nl (odH rfl rfl rfl trivial (SubD.cons 0 rfl SubD.nil) (SubD.tail (SubD.tail SubD.refl)))
        ·
          exact faP (α := TScene) (β := List TState) 0 (fun x : TScene => x.fStates) rfl rfl fld_32_3 pScene_3 rfl fun v36 => nl (odH rfl rfl rfl trivial (SubD.cons 0 rfl SubD.nil) (SubD.tail (SubD.tail SubD.refl)))
        ·
          exact faP (α := TScene) (β := List TState) 0 (fun x : TScene => x.fStates) rfl rfl fld_32_3 pScene_3 rfl fun v36 => nl (odH rfl rfl rfl trivial (SubD.cons 0 rfl SubD.nil) (SubD.tail (SubD.tail SubD.refl)))
        ·
          exact faP (α := TScene) (β := List TState) 0 (fun x : TScene => x.fStates) rfl rfl fld_32_3 pScene_3 rfl fun v36 => nl (odH rfl rfl rfl trivial (SubD.cons 0 rfl SubD.nil) (SubD.tail (SubD.tail SubD.refl)))
        ·
          exact faP (α := TScene) (β := List TState) 0 (fun x : TScene => x.fStates) rfl rfl fld_32_3 pScene_3 rfl fun v36 => nl (odH rfl rfl rfl trivial (SubD.cons 0 rfl SubD.nil) (SubD.tail (SubD.tail SubD.refl)))
        ·
          exact faP (α := TScene) (β := List TState) 0 (fun x : TScene => x.fStates) rfl rfl fld_32_3 pScene_3 rfl fun v36 => nl (odH rfl rfl rfl trivial (SubD.cons 0 rfl SubD.nil) (SubD.tail (SubD.tail SubD.refl)))
        refine ⟨fun V De _ => (show AllP _ [[], [3], [9], [3, 9], [9, 3]] from ⟨?_, ?_, ?_, ?_, ?_, trivial⟩), ?_⟩
        ·
          exact ldL 0 rfl rfl one_28 rfl fun v37 => nl (odH rfl rfl rfl trivial (SubD.cons 0 rfl SubD.nil) (SubD.tail (SubD.tail SubD.refl)))
        ·
          exact ldL 0 rfl rfl one_28 rfl fun v37 => nl (odH rfl rfl rfl trivial (SubD.cons 0 rfl SubD.nil) (SubD.tail (SubD.tail SubD.refl)))
        ·
          exact ldL 0 rfl rfl one_28 rfl fun v37 => nl (odH rfl rfl rfl trivial (SubD.cons 0 rfl SubD.nil) (SubD.tail (SubD.tail SubD.refl)))
        ·
          exact ldL 0 rfl rfl one_28 rfl fun v37 => nl (odH rfl rfl rfl trivial (SubD.cons 0 rfl SubD.nil) (SubD.tail (SubD.tail SubD.refl)))
        ·
          exact ldL 0 rfl rfl one_28 rfl fun v37 => nl (odH rfl rfl rfl trivial (SubD.cons 0 rfl SubD.nil) (SubD.tail (SubD.tail SubD.refl)))
        refine ⟨fun V De _ => (show AllP _ [[], [3], [9], [3, 9], [9, 3]] from ⟨?_, ?_, ?_, ?_, ?_, trivial⟩), ?_⟩
        ·
          exact cf (cloneSt_c _ _ (by omega)) ok_70 rfl (SubD.cons 0 rfl SubD.nil) rfl fun _ v38 _ => nl (odH rfl rfl rfl trivial SubD.nil (SubD.tail SubD.refl))
        ·
          exact cf (cloneSt_c _ _ (by omega)) ok_70 rfl (SubD.cons 0 rfl SubD.nil) rfl fun _ v38 _ => nl (odH rfl rfl rfl trivial SubD.nil (SubD.tail SubD.refl))
        ·
          exact cf (cloneSt_c _ _ (by omega)) ok_70 rfl (SubD.cons 0 rfl SubD.nil) rfl fun _ v38 _ => nl (odH rfl rfl rfl trivial SubD.nil (SubD.tail SubD.refl))
        ·
          exact cf (cloneSt_c _ _ (by omega)) ok_70 rfl (SubD.cons 0 rfl SubD.nil) rfl fun _ v38 _ => nl (odH rfl rfl rfl trivial SubD.nil (SubD.tail SubD.refl))
        ·
          exact cf (cloneSt_c _ _ (by omega)) ok_70 rfl (SubD.cons 0 rfl SubD.nil) rfl fun _ v38 _ => nl (odH rfl rfl rfl trivial SubD.nil (SubD.tail SubD.refl))
        refine ⟨fun V De _ => (show AllP _ [[], [3], [8], [3, 8], [8, 3]] from ⟨?_, ?_, ?_, ?_, ?_, trivial⟩), ?_⟩
        ·
          exact al zero_27 rfl fun b7 => nl (odH rfl rfl rfl rfl SubD.nil SubD.refl)
        ·
          exact al zero_27 rfl fun b7 => nl (odH rfl rfl rfl rfl SubD.nil SubD.refl)
        ·
          exact al zero_27 rfl fun b7 => mtL 2 rfl<|mtL 1 rfl<|mtL 2 rfl<|nl (odH rfl rfl rfl rfl SubD.nil SubD.refl)
        ·
          exact al zero_27 rfl fun b7 => mtL 2 rfl<|mtL 1 rfl<|mtL 2 rfl<|nl (odH rfl rfl rfl rfl SubD.nil SubD.refl)
        ·
          exact al zero_27 rfl fun b7 => mtL 2 rfl<|mtL 1 rfl<|mtL 2 rfl<|nl (odH rfl rfl rfl rfl SubD.nil SubD.refl)
        refine ⟨fun V De hV => (show AllP _ [[3, 8, 9], [3, 9, 8], [8, 3, 9], [8, 9, 3], [9, 3, 8], [9, 8, 3]] from ⟨?_, ?_, ?_, ?_, ?_, ?_, trivial⟩), ?_⟩
        ·
          obtain ⟨e3, o30, o31, _⟩ := hV.mem 3 (show 3 ∈ [9, 3] from by decide) rfl
          exact stW 1 (us := cChart (l.getD 0 default).fChart (cel (V 3) 1) (cel (V 3) 11)) (congrArg some (hV.mem 9 (show 9 ∈ [9, 3] from by decide) rfl)) (congrArg some e3) rfl row_27 (by simp only [List.all_cons, List.all_nil, Bool.and_true, o30, o31]; rfl) rfl<|nl (od0H rfl rfl (SubD.tail (SubD.tail SubD.refl)))
        ·
          obtain ⟨e3, o30, o31, _⟩ := hV.mem 3 (show 3 ∈ [9, 3] from by decide) rfl
          exact stW 1 (us := cChart (l.getD 0 default).fChart (cel (V 3) 1) (cel (V 3) 11)) (congrArg some (hV.mem 9 (show 9 ∈ [9, 3] from by decide) rfl)) (congrArg some e3) rfl row_27 (by simp only [List.all_cons, List.all_nil, Bool.and_true, o30, o31]; rfl) rfl<|nl (od0H rfl rfl (SubD.tail (SubD.tail SubD.refl)))
        ·
          obtain ⟨e3, o30, o31, _⟩ := hV.mem 3 (show 3 ∈ [9, 3] from by decide) rfl
          exact stW 1 (us := cChart (l.getD 0 default).fChart (cel (V 3) 1) (cel (V 3) 11)) (congrArg some (hV.mem 9 (show 9 ∈ [9, 3] from by decide) rfl)) (congrArg some e3) rfl row_27 (by simp only [List.all_cons, List.all_nil, Bool.and_true, o30, o31]; rfl) rfl<|nl (od0H rfl rfl (SubD.tail (SubD.tail SubD.refl)))
        ·
          obtain ⟨e3, o30, o31, _⟩ := hV.mem 3 (show 3 ∈ [9, 3] from by decide) rfl
          exact stW 1 (us := cChart (l.getD 0 default).fChart (cel (V 3) 1) (cel (V 3) 11)) (congrArg some (hV.mem 9 (show 9 ∈ [9, 3] from by decide) rfl)) (congrArg some e3) rfl row_27 (by simp only [List.all_cons, List.all_nil, Bool.and_true, o30, o31]; rfl) rfl<|nl (od0H rfl rfl (SubD.tail (SubD.tail SubD.refl)))
        ·
          obtain ⟨e3, o30, o31, _⟩ := hV.mem 3 (show 3 ∈ [9, 3] from by decide) rfl
          exact stW 1 (us := cChart (l.getD 0 default).fChart (cel (V 3) 1) (cel (V 3) 11)) (congrArg some (hV.mem 9 (show 9 ∈ [9, 3] from by decide) rfl)) (congrArg some e3) rfl row_27 (by simp only [List.all_cons, List.all_nil, Bool.and_true, o30, o31]; rfl) rfl<|nl (od0H rfl rfl (SubD.tail (SubD.tail SubD.refl)))
        ·
          obtain ⟨e3, o30, o31, _⟩ := hV.mem 3 (show 3 ∈ [9, 3] from by decide) rfl
          exact stW 1 (us := cChart (l.getD 0 default).fChart (cel (V 3) 1) (cel (V 3) 11)) (congrArg some (hV.mem 9 (show 9 ∈ [9, 3] from by decide) rfl)) (congrArg some e3) rfl row_27 (by simp only [List.all_cons, List.all_nil, Bool.and_true, o30, o31]; rfl) rfl<|nl (od0H rfl rfl (SubD.tail (SubD.tail SubD.refl)))
        refine ⟨fun V De _ => (show AllP _ [[3, 8, 9, 10], [3, 9, 8, 10], [8, 3, 9, 10], [8, 9, 3, 10], [9, 3, 8, 10], [9, 8, 3, 10]] from ⟨?_, ?_, ?_, ?_, ?_, ?_, trivial⟩), ?_⟩
        ·
          exact asg rfl rfl<|nl (odH rfl rfl rfl trivial SubD.nil SubD.refl)
        ·
          exact asg rfl rfl<|nl (odH rfl rfl rfl trivial SubD.nil SubD.refl)
        ·
          exact asg rfl rfl<|nl (odH rfl rfl rfl trivial SubD.nil SubD.refl)
        ·
          exact asg rfl rfl<|nl (odH rfl rfl rfl trivial SubD.nil SubD.refl)
        ·
          exact asg rfl rfl<|nl (odH rfl rfl rfl trivial SubD.nil SubD.refl)
        ·
          exact asg rfl rfl<|nl (odH rfl rfl rfl trivial SubD.nil SubD.refl)
        trivial
      ·
        intro V hV
        obtain ⟨e3, o30, o31, wC⟩ := hV.mem 3 (by decide) rfl rfl
        have e9 : V 9 = .pointer (some ⟨ptrB (V 9), 0, none⟩) := hV.mem 9 (by decide) rfl rfl
        refine wkQ (L := [row 55 (V 11) (l.getD 0 default).fStates, bl (ptrB (V 9)) 27 (cChart ((l.getD 0 default).fChart) (cel (V 3) 1) (cel (V 3) 11)), bl b2 27 [.int .i64 0, .slice none 0 0, .int .i64 0, .int .i64 0, .int .i64 0, .int .i64 0, .int .i64 0, .string ByteArray.empty, .string ByteArray.empty, .int .i64 0, .int .i64 0, .slice none 0 0], fz X w]) [(7, V 9), (8, V 11), (0, _), (2, _)] [⟨cel (V 3) 1, (l.getD 0 default).fChart.fPlaces⟩, ⟨cel (V 3) 11, (l.getD 0 default).fChart.fMarks⟩, _] ⟨rfl, rfl, rfl, rfl, trivial⟩ (SubD.cons 2 rfl (SubD.cons 3 rfl (SubD.cons 7 rfl SubD.nil))) ?_
        generalize ptrB (V 9) = b7 at e9 ⊢
        rw [e9]
        generalize cel (V 3) 1 = k0
        generalize cel (V 3) 11 = k1
        generalize V 11 = v38
        refine nx<|sq<|sq<|rg<|mv rfl rfl<|slF 2 1 rfl rfl slt_75 rfl rfl (by omega) rfl fun v40 => lnP 0 rfl rfl Tryz.underlying75 rfl fun l41 => mv rfl rfl<|nl<|nx<|bk<|lpE (σ := Nat × Value × Value) [(2, _), (7, _), (8, _), (40, _), (41, _)] _ (fun s C => (42, .int .i64 (s.1 : Int)) :: C) (fun s => [row 55 v38 (stF l s.1), bl b7 27 (cChart (chF l s.1) s.2.1 s.2.2), bl b2 27 (cChart zchart (.slice none 0 0) (.slice none 0 0)), fz X w]) (fun s Dc => ⟨s.2.1, (chF l s.1).fPlaces⟩ :: ⟨s.2.2, (chF l s.1).fMarks⟩ :: Dc) (fun s => s.1 ≤ (l.drop 1).length ∧ (chF l s.1).wf) (fun s => (l.drop 1).length - s.1) (0, k0, k1) ⟨rfl, rfl, rfl, rfl, rfl, trivial⟩ (SubD.cons 0 rfl (SubD.cons 3 rfl SubD.nil)) ⟨Nat.zero_le _, wC⟩ ⟨rfl, rfl, rfl, rfl, rfl, rfl, trivial⟩ rfl (SubD.cons 1 rfl (SubD.cons 2 rfl (SubD.cons 0 rfl (SubD.cons 3 rfl SubD.nil)))) ?_
        rintro ⟨j, k0, k1⟩ ⟨hj, wC⟩
        simp only at hj wC
        show WC _ _ _ [(42, .int .i64 ((j : Int))), (2, _), (7, _), (8, _), (40, _), (41, _)] [row 55 v38 (stF l j), bl b7 27 (cChart (chF l j) k0 k1), bl b2 27 (cChart zchart (.slice none 0 0) (.slice none 0 0)), fz X w] _
        refine sq<|rg<|ltI rfl rfl rfl<|nl<|nx<|sq<|cdP rfl (fun h43 => ?_) (fun h43 => ?_)
        ·
          have he7 : ((l.drop 1).getD j default).fStates.length = 7 := hl7 _ (drop_getD (by omega))
          have he8 : ((l.drop 1).getD (j : Int).toNat default).fStates.length = 7 := he7
          have hul : ∀ k, (upS ((l.drop 1).getD j default) (stF l j) k).length = 7 := fun k => (upS_len _ _ k).trans (hsl j)
          refine sk<|nx<|sq<|bk<|sq<|rg<|ixP 2 rfl rfl rfl slt_75 (by omega) (show (l.drop 1)[(j : Int).toNat]? = some ((l.drop 1).getD j default) from getDE (d := default) (by omega)) rfl fun v44 => ldS 0 rfl rfl row_32 rfl fun q45 w45 => ?_
          obtain ⟨q45_0, q45_1, q45_2, q45_3, q45_4⟩ := q45
          refine al zero_32 rfl fun b10 => gtL (q := q45_0.oneCell' = true) (fun S w h => oneCell_of_list (h _ (List.mem_of_getElem? (i := 1) rfl))) fun o_q45_0 => gtL (q := q45_1.oneCell' = true) (fun S w h => oneCell_of_list (h _ (List.mem_of_getElem? (i := 2) rfl))) fun o_q45_1 => gtL (q := q45_2.oneCell' = true) (fun S w h => oneCell_of_list (h _ (List.mem_of_getElem? (i := 3) rfl))) fun o_q45_2 => gtL (q := q45_3.oneCell' = true) (fun S w h => oneCell_of_list (h _ (List.mem_of_getElem? (i := 4) rfl))) fun o_q45_3 => gtL (q := q45_4.oneCell' = true) (fun S w h => oneCell_of_list (h _ (List.mem_of_getElem? (i := 5) rfl))) fun o_q45_4 => stW 0 (us := (cScene (((l.drop 1).getD j default)) q45_0 q45_1 q45_2 q45_3 q45_4)) rfl rfl rfl row_32 (by simp only [List.all_cons, List.all_nil, Bool.and_true, o_q45_0, o_q45_1, o_q45_2, o_q45_3, o_q45_4]; rfl) rfl<|nl<|nx<|sq<|sq<|rg<|fa rfl fld_32_2 rfl<|fa rfl fld_27_0 rfl ?_
          refine ldB 0 rfl rfl one_3 rfl rfl<|fa rfl fld_27_0 rfl<|ldB 2 rfl rfl one_3 rfl rfl<|gtI rfl rfl rfl<|nl<|nx<|cdP rfl (fun h51 => ?_) (fun h51 => ?_)
          ·
            refine rg<|fa rfl fld_32_2 rfl<|ldM 0 (cChart (((l.drop 1).getD j default).fChart) q45_0 q45_1) rfl rfl row_27 rfl rfl<|gtL (q := q45_0.oneCell' = true) (fun S w h => oneCell_of_list (h _ (List.mem_of_getElem? (i := 1) rfl))) fun o_q45_0 => gtL (q := q45_1.oneCell' = true) (fun S w h => oneCell_of_list (h _ (List.mem_of_getElem? (i := 2) rfl))) fun o_q45_1 => stW 2 (us := (cChart (((l.drop 1).getD j default).fChart) q45_0 q45_1)) rfl rfl rfl row_27 (by simp only [List.all_cons, List.all_nil, Bool.and_true, o_q45_0, o_q45_1]; rfl) rfl<|nl<|nx<|sq<|rg<|fa rfl fld_32_3 rfl<|ldB 0 rfl rfl one_28 rfl rfl<|lnP 3 rfl rfl Tryz.underlying28 rfl fun l56 => mv rfl rfl ?_
            refine nl<|nx<|bk<|lpE (σ := Nat) [(2, _), (7, _), (8, _), (40, _), (41, _), (42, _), (55, _), (56, _)] _ (fun s C => (57, .int .i64 (s : Int)) :: C) (fun s => [bl b10 32 (cScene ((l.drop 1).getD j default) q45_0 q45_1 q45_2 q45_3 q45_4), row 55 v38 (upS ((l.drop 1).getD j default) (stF l j) s), bl b7 27 (cChart ((l.drop 1).getD j default).fChart q45_0 q45_1), bl b2 27 (cChart zchart (.slice none 0 0) (.slice none 0 0)), fz X w]) (fun _ Dc => Dc) (fun s => s ≤ ((l.drop 1).getD j default).fStates.length) (fun s => ((l.drop 1).getD j default).fStates.length - s) 0 ⟨rfl, rfl, rfl, rfl, rfl, rfl, rfl, rfl, trivial⟩ (SubD.cons 1 rfl (SubD.cons 2 rfl (SubD.cons 3 rfl (SubD.cons 4 rfl (SubD.cons 5 rfl (SubD.cons 9 rfl (SubD.cons 7 rfl (SubD.cons 8 rfl (SubD.cons 10 rfl SubD.nil))))))))) (Nat.zero_le _) ⟨rfl, rfl, rfl, rfl, rfl, rfl, rfl, rfl, rfl, trivial⟩ rfl (SubD.cons 1 rfl (SubD.cons 2 rfl (SubD.cons 3 rfl (SubD.cons 4 rfl (SubD.cons 5 rfl (SubD.cons 9 rfl (SubD.cons 7 rfl (SubD.cons 8 rfl (SubD.cons 10 rfl SubD.nil))))))))) ?_
            intro i hi
            show WC _ _ _ [(57, .int .i64 ((i : Int))), (2, _), (7, _), (8, _), (40, _), (41, _), (42, _), (55, _), (56, _)] [bl b10 32 (cScene ((l.drop 1).getD j default) q45_0 q45_1 q45_2 q45_3 q45_4), row 55 v38 (upS ((l.drop 1).getD j default) (stF l j) i), bl b7 27 (cChart ((l.drop 1).getD j default).fChart q45_0 q45_1), bl b2 27 (cChart zchart (.slice none 0 0) (.slice none 0 0)), fz X w] _
            refine sq<|rg<|ltI rfl rfl rfl<|nl<|nx<|sq<|cdP rfl (fun h58 => ?_) (fun h58 => ?_)
            ·
              have hui := hul i
              refine sk<|nx<|sq<|bk<|sq<|rg<|mv rfl rfl<|ixP 2 rfl rfl rfl slt_28 (by omega) (getDE (d := default) (by omega)) rfl fun v60 => ldS 0 rfl rfl row_55 rfl fun q61 w61 => ?_
              obtain ⟨q61_0, q61_1, q61_2, q61_3, q61_4, q61_5⟩ := q61
              refine al zero_55 rfl fun b12 => asg rfl rfl<|gtL (q := q61_0.oneCell' = true) (fun S w h => oneCell_of_list (h _ (List.mem_of_getElem? (i := 1) rfl))) fun o_q61_0 => gtL (q := q61_1.oneCell' = true) (fun S w h => oneCell_of_list (h _ (List.mem_of_getElem? (i := 2) rfl))) fun o_q61_1 => gtL (q := q61_2.oneCell' = true) (fun S w h => oneCell_of_list (h _ (List.mem_of_getElem? (i := 3) rfl))) fun o_q61_2 => gtL (q := q61_3.oneCell' = true) (fun S w h => oneCell_of_list (h _ (List.mem_of_getElem? (i := 4) rfl))) fun o_q61_3 => gtL (q := q61_4.oneCell' = true) (fun S w h => oneCell_of_list (h _ (List.mem_of_getElem? (i := 5) rfl))) fun o_q61_4 => gtL (q := q61_5.oneCell' = true) (fun S w h => oneCell_of_list (h _ (List.mem_of_getElem? (i := 6) rfl))) fun o_q61_5 => stW 0 (us := (cState ((((l.drop 1).getD j default).fStates.getD i default)) q61_0 q61_1 q61_2 q61_3 q61_4 q61_5)) rfl rfl rfl row_55 (by simp only [List.all_cons, List.all_nil, Bool.and_true, o_q61_0, o_q61_1, o_q61_2, o_q61_3, o_q61_4, o_q61_5]; rfl) rfl<|nl<|nx<|sq<|rgQ mixed (by kernel_rfl)<|fa rfl fld_55_1 rfl ?_
              refine ldB 0 rfl rfl one_3 rfl rfl<|mv rfl rfl<|mv rfl rfl<|ixN 2 (i) rfl rfl rfl slt_28 (by omega) (by omega) rfl<|faE 2 rfl rfl (by omega) fld_55_1 rfl<|ldE (s := sState) 2 (i) 1 (fun _ => .int .i64 ((upS ((l.drop 1).getD j default) (stF l j) i).getD (i) default).fIndex) rfl rfl (getDE (d := default) (by omega)) (fun _ => rfl) one_3 rfl fun q68 w68 => ?_
              obtain ⟨q68_0, q68_1, q68_2, q68_3, q68_4, q68_5⟩ := q68
              refine gtI rfl rfl rfl<|nlQ<|nx<|cdP rfl (fun h69 => ?_) (fun h69 => ?_)
              ·
                refine rg<|mv rfl rfl<|mv rfl rfl<|ldM 0 (cState ((((l.drop 1).getD j default).fStates.getD i default)) q61_0 q61_1 q61_2 q61_3 q61_4 q61_5) rfl rfl row_55 rfl rfl<|ixN 2 (i) rfl rfl rfl slt_28 (by omega) (by omega) rfl<|stE (s := sState) 2 (i) (ov := (((l.drop 1).getD j default).fStates.getD i default)) ⟨q61_0, q61_1, q61_2, q61_3, q61_4, q61_5⟩ rfl rfl rfl (by omega) row_55 (SubD.cons 7 rfl (SubD.cons 8 rfl (SubD.cons 9 rfl (SubD.cons 10 rfl (SubD.cons 11 rfl (SubD.cons 12 rfl SubD.nil)))))) w61<|nl<|bN<|nx<|rg<|adI rfl rfl (inI (by omega) (by omega)) rfl<|mv rfl rfl<|nl<|dpQ ?_
                rw [show (upS ((l.drop 1).getD j default) (stF l j) i).set i (((l.drop 1).getD j default).fStates.getD i default) = upS ((l.drop 1).getD j default) (stF l j) (i + 1) from by rw [upS, if_pos h69]]
                exact ag (i + 1) (by omega) (by omega) ⟨rfl, rfl, rfl, rfl, rfl, rfl, rfl, rfl, rfl, trivial⟩ rfl (SubD.cons 14 rfl (SubD.cons 15 rfl (SubD.cons 16 rfl (SubD.cons 17 rfl (SubD.cons 18 rfl (SubD.cons 19 rfl (SubD.cons 20 rfl (SubD.cons 21 rfl (SubD.cons 22 rfl SubD.nil)))))))))
              ·
                refine sk<|bN<|nx<|rg<|adI rfl rfl (inI (by omega) (by omega)) rfl<|mv rfl rfl<|nl<|dpQ ?_
                rw [show upS ((l.drop 1).getD j default) (stF l j) i = upS ((l.drop 1).getD j default) (stF l j) (i + 1) from by rw [upS, if_neg h69]]
                exact ag (i + 1) (by omega) (by omega) ⟨rfl, rfl, rfl, rfl, rfl, rfl, rfl, rfl, rfl, trivial⟩ rfl (SubD.cons 14 rfl (SubD.cons 15 rfl (SubD.cons 16 rfl (SubD.cons 17 rfl (SubD.cons 18 rfl (SubD.cons 19 rfl (SubD.cons 20 rfl (SubD.cons 21 rfl (SubD.cons 22 rfl SubD.nil)))))))))
            ·
              obtain rfl : i = ((l.drop 1).getD j default).fStates.length := by omega
              refine ex<|tE<|tE<|bE<|bN<|nx<|rg<|adI rfl rfl (inI (by omega) (by omega)) rfl<|mv rfl rfl<|nl<|dpQ ?_
              rw [show ((l.drop 1).getD j default).fChart = chF l (j + 1) from by rw [chF, upC, if_pos h51]]
              exact ag ((j + 1, q45_0, q45_1) : Nat × Value × Value) ⟨by show j + 1 ≤ (l.drop 1).length; omega, by show (chF l (j + 1)).wf; rw [chF, upC, if_pos h51]; exact w45.2.2.1⟩ (by show (l.drop 1).length - (j + 1) < (l.drop 1).length - j; omega) ⟨rfl, rfl, rfl, rfl, rfl, rfl, trivial⟩ rfl (SubD.cons 0 rfl (SubD.cons 1 rfl (SubD.cons 5 rfl (SubD.cons 8 rfl SubD.nil))))
          ·
            refine sk<|nx<|sq<|rg<|fa rfl fld_32_3 rfl<|ldB 0 rfl rfl one_28 rfl rfl<|lnP 3 rfl rfl Tryz.underlying28 rfl fun l56 => mv rfl rfl<|nl<|nx<|bk<|lpE (σ := Nat) [(2, _), (7, _), (8, _), (40, _), (41, _), (42, _), (55, _), (56, _)] _ (fun s C => (57, .int .i64 (s : Int)) :: C) (fun s => [bl b10 32 (cScene ((l.drop 1).getD j default) q45_0 q45_1 q45_2 q45_3 q45_4), row 55 v38 (upS ((l.drop 1).getD j default) (stF l j) s), bl b7 27 (cChart (chF l j) k0 k1), bl b2 27 (cChart zchart (.slice none 0 0) (.slice none 0 0)), fz X w]) (fun _ Dc => Dc) (fun s => s ≤ ((l.drop 1).getD j default).fStates.length) (fun s => ((l.drop 1).getD j default).fStates.length - s) 0 ⟨rfl, rfl, rfl, rfl, rfl, rfl, rfl, rfl, trivial⟩ (SubD.cons 1 rfl (SubD.cons 2 rfl (SubD.cons 3 rfl (SubD.cons 4 rfl (SubD.cons 5 rfl (SubD.cons 9 rfl (SubD.cons 7 rfl (SubD.cons 8 rfl (SubD.cons 10 rfl SubD.nil))))))))) (Nat.zero_le _) ⟨rfl, rfl, rfl, rfl, rfl, rfl, rfl, rfl, rfl, trivial⟩ rfl (SubD.cons 1 rfl (SubD.cons 2 rfl (SubD.cons 3 rfl (SubD.cons 4 rfl (SubD.cons 5 rfl (SubD.cons 9 rfl (SubD.cons 7 rfl (SubD.cons 8 rfl (SubD.cons 10 rfl SubD.nil))))))))) ?_
            intro i hi
            show WC _ _ _ [(57, .int .i64 ((i : Int))), (2, _), (7, _), (8, _), (40, _), (41, _), (42, _), (55, _), (56, _)] [bl b10 32 (cScene ((l.drop 1).getD j default) q45_0 q45_1 q45_2 q45_3 q45_4), row 55 v38 (upS ((l.drop 1).getD j default) (stF l j) i), bl b7 27 (cChart (chF l j) k0 k1), bl b2 27 (cChart zchart (.slice none 0 0) (.slice none 0 0)), fz X w] _
            refine sq<|rg<|ltI rfl rfl rfl<|nl<|nx<|sq<|cdP rfl (fun h58 => ?_) (fun h58 => ?_)
            ·
              have hui := hul i
              refine sk<|nx<|sq<|bk<|sq<|rg<|mv rfl rfl<|ixP 2 rfl rfl rfl slt_28 (by omega) (getDE (d := default) (by omega)) rfl fun v60 => ldS 0 rfl rfl row_55 rfl fun q61 w61 => ?_
              obtain ⟨q61_0, q61_1, q61_2, q61_3, q61_4, q61_5⟩ := q61
              refine al zero_55 rfl fun b12 => asg rfl rfl<|gtL (q := q61_0.oneCell' = true) (fun S w h => oneCell_of_list (h _ (List.mem_of_getElem? (i := 1) rfl))) fun o_q61_0 => gtL (q := q61_1.oneCell' = true) (fun S w h => oneCell_of_list (h _ (List.mem_of_getElem? (i := 2) rfl))) fun o_q61_1 => gtL (q := q61_2.oneCell' = true) (fun S w h => oneCell_of_list (h _ (List.mem_of_getElem? (i := 3) rfl))) fun o_q61_2 => gtL (q := q61_3.oneCell' = true) (fun S w h => oneCell_of_list (h _ (List.mem_of_getElem? (i := 4) rfl))) fun o_q61_3 => gtL (q := q61_4.oneCell' = true) (fun S w h => oneCell_of_list (h _ (List.mem_of_getElem? (i := 5) rfl))) fun o_q61_4 => gtL (q := q61_5.oneCell' = true) (fun S w h => oneCell_of_list (h _ (List.mem_of_getElem? (i := 6) rfl))) fun o_q61_5 => stW 0 (us := (cState ((((l.drop 1).getD j default).fStates.getD i default)) q61_0 q61_1 q61_2 q61_3 q61_4 q61_5)) rfl rfl rfl row_55 (by simp only [List.all_cons, List.all_nil, Bool.and_true, o_q61_0, o_q61_1, o_q61_2, o_q61_3, o_q61_4, o_q61_5]; rfl) rfl<|nl<|nx<|sq<|rgQ mixed (by kernel_rfl)<|fa rfl fld_55_1 rfl ?_
              refine ldB 0 rfl rfl one_3 rfl rfl<|mv rfl rfl<|mv rfl rfl<|ixN 2 (i) rfl rfl rfl slt_28 (by omega) (by omega) rfl<|faE 2 rfl rfl (by omega) fld_55_1 rfl<|ldE (s := sState) 2 (i) 1 (fun _ => .int .i64 ((upS ((l.drop 1).getD j default) (stF l j) i).getD (i) default).fIndex) rfl rfl (getDE (d := default) (by omega)) (fun _ => rfl) one_3 rfl fun q68 w68 => ?_
              obtain ⟨q68_0, q68_1, q68_2, q68_3, q68_4, q68_5⟩ := q68
              refine gtI rfl rfl rfl<|nlQ<|nx<|cdP rfl (fun h69 => ?_) (fun h69 => ?_)
              ·
                refine rg<|mv rfl rfl<|mv rfl rfl<|ldM 0 (cState ((((l.drop 1).getD j default).fStates.getD i default)) q61_0 q61_1 q61_2 q61_3 q61_4 q61_5) rfl rfl row_55 rfl rfl<|ixN 2 (i) rfl rfl rfl slt_28 (by omega) (by omega) rfl<|stE (s := sState) 2 (i) (ov := (((l.drop 1).getD j default).fStates.getD i default)) ⟨q61_0, q61_1, q61_2, q61_3, q61_4, q61_5⟩ rfl rfl rfl (by omega) row_55 (SubD.cons 7 rfl (SubD.cons 8 rfl (SubD.cons 9 rfl (SubD.cons 10 rfl (SubD.cons 11 rfl (SubD.cons 12 rfl SubD.nil)))))) w61<|nl<|bN<|nx<|rg<|adI rfl rfl (inI (by omega) (by omega)) rfl<|mv rfl rfl<|nl<|dpQ ?_
                rw [show (upS ((l.drop 1).getD j default) (stF l j) i).set i (((l.drop 1).getD j default).fStates.getD i default) = upS ((l.drop 1).getD j default) (stF l j) (i + 1) from by rw [upS, if_pos h69]]
                exact ag (i + 1) (by omega) (by omega) ⟨rfl, rfl, rfl, rfl, rfl, rfl, rfl, rfl, rfl, trivial⟩ rfl (SubD.cons 14 rfl (SubD.cons 15 rfl (SubD.cons 16 rfl (SubD.cons 17 rfl (SubD.cons 18 rfl (SubD.cons 19 rfl (SubD.cons 20 rfl (SubD.cons 21 rfl (SubD.cons 22 rfl SubD.nil)))))))))
              ·
                refine sk<|bN<|nx<|rg<|adI rfl rfl (inI (by omega) (by omega)) rfl<|mv rfl rfl<|nl<|dpQ ?_
                rw [show upS ((l.drop 1).getD j default) (stF l j) i = upS ((l.drop 1).getD j default) (stF l j) (i + 1) from by rw [upS, if_neg h69]]
                exact ag (i + 1) (by omega) (by omega) ⟨rfl, rfl, rfl, rfl, rfl, rfl, rfl, rfl, rfl, trivial⟩ rfl (SubD.cons 14 rfl (SubD.cons 15 rfl (SubD.cons 16 rfl (SubD.cons 17 rfl (SubD.cons 18 rfl (SubD.cons 19 rfl (SubD.cons 20 rfl (SubD.cons 21 rfl (SubD.cons 22 rfl SubD.nil)))))))))
            ·
              obtain rfl : i = ((l.drop 1).getD j default).fStates.length := by omega
              refine ex<|tE<|tE<|bE<|bN<|nx<|rg<|adI rfl rfl (inI (by omega) (by omega)) rfl<|mv rfl rfl<|nl<|dpQ ?_
              rw [show chF l j = chF l (j + 1) from by rw [chF, upC, if_neg h51]]
              exact ag ((j + 1, k0, k1) : Nat × Value × Value) ⟨by show j + 1 ≤ (l.drop 1).length; omega, by show (chF l (j + 1)).wf; rw [chF, upC, if_neg h51]; exact wC⟩ (by show (l.drop 1).length - (j + 1) < (l.drop 1).length - j; omega) ⟨rfl, rfl, rfl, rfl, rfl, rfl, trivial⟩ rfl (SubD.cons 6 rfl (SubD.cons 7 rfl (SubD.cons 5 rfl (SubD.cons 8 rfl SubD.nil))))
        ·
          have hjn : j = (l.drop 1).length := by omega
          have hpl := plan_parts (chF_mem (P := fun c => planP c = true) (fun v hv => (dright_parts (hrm v hv)).2) (by omega) j hj)
          have hSR := stF_mem (P := fun s => srightP s = true) (fun v hv => (dright_parts (hrm v hv)).1) (by omega) j hj
          have hs7 := hsl j
          refine ex<|tE<|tE<|bE<|nx<|sq ?_
          refine rgH ⟨fun q_ => ([[], [0], [1], [], [3], [4], [], [6, 2], [], [8, 5]] : List (List Nat)).getD q_ [], fun _ _ => True, fun q_ => ([fun _ => [], fun _ => [], fun u => [⟨u, (chF l j).fPlaces⟩], fun _ => [], fun _ => [], fun u => [⟨u, (chF l j).fMarks⟩], fun _ => [], fun _ => [], fun _ => [], fun _ => []] : List (Value → List Atom)).getD q_ (fun _ => []), fun q_ => ([some (.pointer (some ⟨b7, 1, none⟩)), some (k0), none, some (.pointer (some ⟨b7, 11, none⟩)), some (k1), none, some (.pointer (some ⟨b7, 1, none⟩)), none, some (.pointer (some ⟨b7, 11, none⟩)), none] : List (Option Value)).getD q_ none, fun h_ => match h_ with
              | [] => fun vs_ => [row 55 v38 (stF l j), bl b7 27 (cChart ((chF l j)) k0 k1), bl b2 27 [.int .i64 0, .slice none 0 0, .int .i64 0, .int .i64 0, .int .i64 0, .int .i64 0, .int .i64 0, .string ByteArray.empty, .string ByteArray.empty, .int .i64 0, .int .i64 0, .slice none 0 0], fz X w]
              | [2] => fun vs_ => [row 55 v38 (stF l j), bl b7 27 (cChart ((chF l j)) k0 k1), bl b2 27 [.int .i64 0, .slice none 0 0, .int .i64 0, .int .i64 0, .int .i64 0, .int .i64 0, .int .i64 0, .string ByteArray.empty, .string ByteArray.empty, .int .i64 0, .int .i64 0, .slice none 0 0], fz X w]
              | [2, 5] => fun vs_ => [row 55 v38 (stF l j), bl b7 27 (cChart ((chF l j)) k0 k1), bl b2 27 [.int .i64 0, .slice none 0 0, .int .i64 0, .int .i64 0, .int .i64 0, .int .i64 0, .int .i64 0, .string ByteArray.empty, .string ByteArray.empty, .int .i64 0, .int .i64 0, .slice none 0 0], fz X w]
              | [2, 5, 7] => fun vs_ => [row 55 v38 (stF l j), bl b7 27 [.int .i64 ((chF l j).fIndex), (vs_.getD 0 undef), .int .i64 ((chF l j).fNext), .int .i64 ((chF l j).fLast), .int .i64 ((chF l j).fPlan.fNumber), .int .i64 ((chF l j).fPlan.fFrom), .int .i64 ((chF l j).fPlan.fTo), .string (chF l j).fPlan.fLo, .string (chF l j).fPlan.fHi, .int .i64 ((chF l j).fPlan.fClient), .int .i64 ((chF l j).fPlan.fSeq), k1], bl b2 27 [.int .i64 0, .slice none 0 0, .int .i64 0, .int .i64 0, .int .i64 0, .int .i64 0, .int .i64 0, .string ByteArray.empty, .string ByteArray.empty, .int .i64 0, .int .i64 0, .slice none 0 0], fz X w]
              | [2, 5, 7, 9] => fun vs_ => [row 55 v38 (stF l j), bl b7 27 [.int .i64 ((chF l j).fIndex), (vs_.getD 0 undef), .int .i64 ((chF l j).fNext), .int .i64 ((chF l j).fLast), .int .i64 ((chF l j).fPlan.fNumber), .int .i64 ((chF l j).fPlan.fFrom), .int .i64 ((chF l j).fPlan.fTo), .string (chF l j).fPlan.fLo, .string (chF l j).fPlan.fHi, .int .i64 ((chF l j).fPlan.fClient), .int .i64 ((chF l j).fPlan.fSeq), (vs_.getD 1 undef)], bl b2 27 [.int .i64 0, .slice none 0 0, .int .i64 0, .int .i64 0, .int .i64 0, .int .i64 0, .int .i64 0, .string ByteArray.empty, .string ByteArray.empty, .int .i64 0, .int .i64 0, .slice none 0 0], fz X w]
              | _ => fun _ => [], [2, 5, 7, 9], [[], [2], [2, 5], [2, 5, 7], [2, 5, 7, 9]]⟩ (fun V => [row 55 v38 (stF l j), bl b7 27 [.int .i64 ((chF l j).fIndex), (V 2), .int .i64 ((chF l j).fNext), .int .i64 ((chF l j).fLast), .int .i64 ((chF l j).fPlan.fNumber), .int .i64 ((chF l j).fPlan.fFrom), .int .i64 ((chF l j).fPlan.fTo), .string (chF l j).fPlan.fLo, .string (chF l j).fPlan.fHi, .int .i64 ((chF l j).fPlan.fClient), .int .i64 ((chF l j).fPlan.fSeq), (V 5)], bl b2 27 [.int .i64 0, .slice none 0 0, .int .i64 0, .int .i64 0, .int .i64 0, .int .i64 0, .int .i64 0, .string ByteArray.empty, .string ByteArray.empty, .int .i64 0, .int .i64 0, .slice none 0 0], fz X w]) mixed rfl rfl (show AllP _ [[2, 5, 7, 9]] from ⟨fun _ => rfl, trivial⟩) ?_ ?_
          ·
            refine ⟨fun V De _ => (show AllP _ [[], [2], [2, 5]] from ⟨?_, ?_, ?_, trivial⟩), ?_⟩
            ·
              exact fa rfl fld_27_1 rfl<|nl (odH rfl rfl rfl rfl SubD.nil SubD.refl)
            ·
              exact fa rfl fld_27_1 rfl<|nl (odH rfl rfl rfl rfl SubD.nil SubD.refl)
            ·
              exact fa rfl fld_27_1 rfl<|nl (odH rfl rfl rfl rfl SubD.nil SubD.refl)
            refine ⟨fun V De _ => (show AllP _ [[]] from ⟨?_, trivial⟩), ?_⟩
            ·
              exact ldB 1 rfl rfl one_22 rfl rfl<|nl (odH rfl rfl rfl rfl SubD.nil SubD.refl)
            refine ⟨fun V De _ => (show AllP _ [[]] from ⟨?_, trivial⟩), ?_⟩
            ·
              exact cf (Ep.clonePl_c _ _ hpl.1) ok_71 rfl (SubD.cons 0 rfl SubD.nil) rfl fun _ v78 _ => nl (odH rfl rfl rfl trivial (SubD.cons 0 rfl SubD.nil) (SubD.tail SubD.refl))
            refine ⟨fun V De _ => (show AllP _ [[], [2], [2, 5]] from ⟨?_, ?_, ?_, trivial⟩), ?_⟩
            ·
              exact fa rfl fld_27_5 rfl<|nl (odH rfl rfl rfl rfl SubD.nil SubD.refl)
            ·
              exact fa rfl fld_27_5 rfl<|nl (odH rfl rfl rfl rfl SubD.nil SubD.refl)
            ·
              exact fa rfl fld_27_5 rfl<|nl (odH rfl rfl rfl rfl SubD.nil SubD.refl)
            refine ⟨fun V De _ => (show AllP _ [[], [2]] from ⟨?_, ?_, trivial⟩), ?_⟩
            ·
              exact ldB 1 rfl rfl one_25 rfl rfl<|nl (odH rfl rfl rfl rfl SubD.nil SubD.refl)
            ·
              exact ldB 1 rfl rfl one_25 rfl rfl<|nl (odH rfl rfl rfl rfl SubD.nil SubD.refl)
            refine ⟨fun V De _ => (show AllP _ [[2]] from ⟨?_, trivial⟩), ?_⟩
            ·
              exact cf (cloneMk_c _ _ (Nat.le_trans hpl.2 (by decide))) ok_72 rfl (SubD.cons 1 rfl SubD.nil) rfl fun _ v81 _ => nl (odH rfl rfl rfl trivial (SubD.cons 0 rfl SubD.nil) (SubD.tail SubD.refl))
            refine ⟨fun V De _ => (show AllP _ [[2], [2, 5]] from ⟨?_, ?_, trivial⟩), ?_⟩
            ·
              exact fa rfl fld_27_1 rfl<|nl (odH rfl rfl rfl rfl SubD.nil SubD.refl)
            ·
              exact fa rfl fld_27_1 rfl<|nl (odH rfl rfl rfl rfl SubD.nil SubD.refl)
            refine ⟨fun V De _ => (show AllP _ [[2, 5]] from ⟨?_, trivial⟩), ?_⟩
            ·
              exact stL 1 0 rfl rfl rfl rfl one_22 (Nat.lt_of_lt_of_le (Nat.lt_succ_self _) (Nat.le_of_ble_eq_true rfl))<|nl (od0H rfl rfl (SubD.tail SubD.refl))
            refine ⟨fun V De _ => (show AllP _ [[2, 5, 7]] from ⟨?_, trivial⟩), ?_⟩
            ·
              exact fa rfl fld_27_5 rfl<|nl (odH rfl rfl rfl rfl SubD.nil SubD.refl)
            refine ⟨fun V De _ => (show AllP _ [[2, 5, 7]] from ⟨?_, trivial⟩), ?_⟩
            ·
              exact stL 1 0 rfl rfl rfl rfl one_25 (Nat.lt_of_lt_of_le (Nat.lt_succ_self _) (Nat.le_of_ble_eq_true rfl))<|nl (od0H rfl rfl (SubD.tail SubD.refl))
            trivial
          ·
            intro V _
            refine wkQ (L := [row 55 v38 (stF l j), bl b7 27 [.int .i64 ((chF l j).fIndex), (V 2), .int .i64 ((chF l j).fNext), .int .i64 ((chF l j).fLast), .int .i64 ((chF l j).fPlan.fNumber), .int .i64 ((chF l j).fPlan.fFrom), .int .i64 ((chF l j).fPlan.fTo), .string (chF l j).fPlan.fLo, .string (chF l j).fPlan.fHi, .int .i64 ((chF l j).fPlan.fClient), .int .i64 ((chF l j).fPlan.fSeq), (V 5)], bl b2 27 [.int .i64 0, .slice none 0 0, .int .i64 0, .int .i64 0, .int .i64 0, .int .i64 0, .int .i64 0, .string ByteArray.empty, .string ByteArray.empty, .int .i64 0, .int .i64 0, .slice none 0 0], fz X w]) [(2, _), (7, _), (8, _)] [(⟨(V 2), (chF l j).fPlaces⟩ : Atom), (⟨(V 5), (chF l j).fMarks⟩ : Atom), _, _, _, _] ⟨rfl, rfl, rfl, trivial⟩ (SubD.cons 0 rfl (SubD.cons 1 rfl (SubD.cons 2 rfl (SubD.cons 3 rfl (SubD.cons 4 rfl (SubD.cons 5 rfl SubD.nil)))))) ?_
            generalize V 2 = v2
            generalize V 5 = v5
            refine nx<|sq<|sq<|rg<|mv rfl rfl<|lnR 0 rfl rfl Tryz.underlying28 rfl fun l85 => mv rfl rfl<|nl<|nx<|bk<|lpC (σ := Nat) [(2, _), (7, _), (8, _), (84, _), (85, _)] _ (fun i C => (86, .int .i64 (i : Int)) :: C) (fun i => i ≤ (stF l j).length) (fun i => (stF l j).length - i) 0 ⟨rfl, rfl, rfl, rfl, rfl, trivial⟩ (SubD.cons 0 rfl (SubD.cons 1 rfl (SubD.cons 5 rfl SubD.nil))) (Nat.zero_le _) ⟨rfl, rfl, rfl, rfl, rfl, rfl, trivial⟩ ?_
            intro i hi
            refine sq<|rg<|ltI rfl rfl rfl<|nl<|nx<|sq<|cdP rfl (fun h87 => ?_) (fun h87 => ?_)
            ·
              refine sk<|nx<|sq<|bk<|sq<|rg<|mv rfl rfl<|ixN 0 (i) rfl rfl rfl slt_28 (by omega) (by omega) rfl<|ldR (s := sState) 0 (i) rfl rfl (getDE (d := default) (by omega)) row_55 rfl fun q90 w90 => ?_
              obtain ⟨q90_0, q90_1, q90_2, q90_3, q90_4, q90_5⟩ := q90
              refine al zero_55 rfl fun b14 => asg rfl rfl<|gtL (q := q90_0.oneCell' = true) (fun S w h => oneCell_of_list (h _ (List.mem_of_getElem? (i := 1) rfl))) fun o_q90_0 => gtL (q := q90_1.oneCell' = true) (fun S w h => oneCell_of_list (h _ (List.mem_of_getElem? (i := 2) rfl))) fun o_q90_1 => gtL (q := q90_2.oneCell' = true) (fun S w h => oneCell_of_list (h _ (List.mem_of_getElem? (i := 3) rfl))) fun o_q90_2 => gtL (q := q90_3.oneCell' = true) (fun S w h => oneCell_of_list (h _ (List.mem_of_getElem? (i := 4) rfl))) fun o_q90_3 => gtL (q := q90_4.oneCell' = true) (fun S w h => oneCell_of_list (h _ (List.mem_of_getElem? (i := 5) rfl))) fun o_q90_4 => gtL (q := q90_5.oneCell' = true) (fun S w h => oneCell_of_list (h _ (List.mem_of_getElem? (i := 6) rfl))) fun o_q90_5 => stW 0 (us := (cState (((stF l j).getD (i) default)) q90_0 q90_1 q90_2 q90_3 q90_4 q90_5)) rfl rfl rfl row_55 (by simp only [List.all_cons, List.all_nil, Bool.and_true, o_q90_0, o_q90_1, o_q90_2, o_q90_3, o_q90_4, o_q90_5]; rfl) rfl<|nl<|nx<|rg<|mv rfl rfl<|mv rfl rfl ?_
              refine ldM 0 (cState (((stF l j).getD (i) default)) q90_0 q90_1 q90_2 q90_3 q90_4 q90_5) rfl rfl row_55 rfl rfl<|cf (own_c _ _ _ _ _ _ _ w90 (bigS (hSR _ (getD_mem (by omega))))) ok_73 rfl (SubD.cons 1 rfl (SubD.cons 2 rfl (SubD.cons 3 rfl (SubD.cons 4 rfl (SubD.cons 5 rfl (SubD.cons 6 rfl SubD.nil)))))) rfl fun y94 v94 h94 => ?_
              obtain ⟨e94, w94⟩ := h94
              subst e94
              obtain ⟨z_0, z_1, z_2, z_3, z_4, z_5⟩ := y94
              refine ixN 1 (i) rfl rfl rfl slt_28 (by omega) (by omega) rfl<|stE (s := sState) 1 (i) (ov := ((stF l j).getD i default)) ⟨z_0, z_1, z_2, z_3, z_4, z_5⟩ rfl rfl rfl (by omega) row_55 (SubD.cons 0 rfl (SubD.cons 1 rfl (SubD.cons 2 rfl (SubD.cons 3 rfl (SubD.cons 4 rfl (SubD.cons 5 rfl SubD.nil)))))) w94<|nl<|bN<|nx<|rg<|adI rfl rfl (inI (by omega) (by omega)) rfl<|mv rfl rfl<|nl<|dpQ ?_
              rw [show (stF l j).set i ((stF l j).getD i default) = (stF l j) from set_getD_self (by omega)]
              exact ag (i + 1) (by omega) (by omega) ⟨rfl, rfl, rfl, rfl, rfl, rfl, trivial⟩ rfl (SubD.cons 13 rfl (SubD.cons 14 rfl (SubD.cons 15 rfl SubD.nil)))
            ·
              have e1 : chF l j = C := by rw [← hC, hjn, furC, if_neg hn0, if_pos hr]
              have e2 : stF l j = Sx := by rw [← hS, hjn, furS, if_neg hn0, if_pos hr]
              have e3 : (0 : Int) = Ex := by rw [← hE, furE, if_neg hn0, if_pos hr]
              subst e1 e2 e3
              refine ex<|tE<|tE<|bE<|nx<|sq<|frR<|rg<|ldM 0 (cChart (({ fIndex := (chF l j).fIndex, fPlaces := (chF l j).fPlaces, fNext := (chF l j).fNext, fLast := (chF l j).fLast, fPlan := ({ fNumber := (chF l j).fPlan.fNumber, fFrom := (chF l j).fPlan.fFrom, fTo := (chF l j).fPlan.fTo, fLo := (chF l j).fPlan.fLo, fHi := (chF l j).fPlan.fHi, fClient := (chF l j).fPlan.fClient, fSeq := (chF l j).fPlan.fSeq } : TPlan), fMarks := (chF l j).fMarks } : TChart)) v2 v5) rfl rfl row_27 rfl rfl<|mv rfl rfl<|gtL (q := v2.oneCell' = true) (fun S w h => oneCell_of_list (h _ (List.mem_of_getElem? (i := 1) rfl))) fun o_v2 => gtL (q := v5.oneCell' = true) (fun S w h => oneCell_of_list (h _ (List.mem_of_getElem? (i := 2) rfl))) fun o_v5 => stW 1 (us := (cChart (({ fIndex := (chF l j).fIndex, fPlaces := (chF l j).fPlaces, fNext := (chF l j).fNext, fLast := (chF l j).fLast, fPlan := ({ fNumber := (chF l j).fPlan.fNumber, fFrom := (chF l j).fPlan.fFrom, fTo := (chF l j).fPlan.fTo, fLo := (chF l j).fPlan.fLo, fHi := (chF l j).fPlan.fHi, fClient := (chF l j).fPlan.fClient, fSeq := (chF l j).fPlan.fSeq } : TPlan), fMarks := (chF l j).fMarks } : TChart)) v2 v5)) rfl rfl rfl row_27 (by simp only [List.all_cons, List.all_nil, Bool.and_true, o_v2, o_v5]; rfl) rfl<|asg rfl rfl ?_
              exact asg rfl rfl<|nl<|nx<|rt<|fRG ⟨v2, v5, v38⟩ [_, _] (rCTT 1 rfl rfl rfl rfl rfl row_27) (by exact ⟨rfl, wC⟩) rfl (SubD.cons 1 rfl (SubD.cons 2 rfl (SubD.cons 0 rfl SubD.nil)))
end Go.Proofs.YtmpoffijcfaalaaGreat
