/- Part 16 of dutyPlays_holds. -/
import Derived.Test.YtmpoffijcfaalaaGreatPl15

set_option maxRecDepth 20000
set_option maxHeartbeats 1000000
namespace Go.Proofs.YtmpoffijcfaalaaGreat
open Go.Eng Go.YtmpoffijcfaalaaGreat
theorem plain_c (o : TOp) (h_o : o.wf) : FnV Pg 34 [.agg (cOp o).toArray] [] (.tuple #[.agg (cOp (plainO o)).toArray, .bool (plainB o)]) := by
 refine Fnc.proof Tryz.func34 G 67 G G fun X w => ?_
 obtain ⟨ho0, ho1, ho2, ho3, ho4, ho5⟩ := id h_o
 refine qg<|bx G G G fun b1 => al zero_34 G fun b2 => ru 1 G<|nl<|nx<|sq<|qg<|rl 2 [1] G G<|cfv (dkeyed_c _) ok_90 G Sn G<|nt G G<|nl<|nx<|cdB G (fun h8 => ?_) (fun h8 => ?_)
 · exact qg<|bd (ps := []) (cs := (cOp (oZ))) (by rfl) (by kernel_rfl) G<|stW 0 (us := (cOp (oZ))) G G G (Rg G) G G<|ru 1 G<|nl<|nx<|rt<|tR<|fRG () [_, _] (rCT 0 G G G G (Rg G)) (by simp only [Bool.not_eq_true'] at h8; rw [plainO, plainB, h8]; (repeat' split) <;> first | rfl | (exfalso; omega) | contradiction | (simp [hN, hK]; done) | (simp [hN]; done)) G Sn
 ·
  refine sk<|nx<|qg<|rl 4 [1,1] G G<|bd (ps := [(0, .tmp 11), (1, .tmp 13)]) (cs := (cOp ((⟨o.fKind, o.fKey, ByteArray.empty, 0, 0, 0⟩ : TOp)))) (by rfl) (by kernel_rfl) G<|al zero_34 G fun b4 => stW 0 (us := (cOp ((⟨o.fKind, o.fKey, ByteArray.empty, 0, 0, 0⟩ : TOp)))) G G G (Rg G) G G<|nl<|nx<|sq<|sb 2 [2] G G<|bk<|sq<|sa 2 G<|cdP G (fun h17 => ?_) (fun h17 => ?_)
  ·
   refine sk<|nx<|cdP G (fun h17 => ?_) (fun h17 => ?_)
   · exact qg<|rl 3 [2] G G<|stB 0 G G G (Og G) G (nlt G)<|nl<|nx<|sq<|wkC [(1, _), (2, _), (4, _)] _ (Gs G) Sr<|rgX [(0,.ld 0),(2,.ld 2),(4,.st 1)] G (by kernel_rfl)<|nx<|rt<|bR<|tR<|fRG () [_, _, _] (rCT 1 G G G G (Rg G)) (by simp only [Bool.not_eq_false'] at h8; rw [plainO, plainB, h8]; (repeat' split) <;> first | rfl | (exfalso; omega) | contradiction | (simp [hN, hK]; done) | (simp [hN]; done)) G Sn
   ·
    refine sa 2 G<|cdP G (fun h27 => ?_) (fun h27 => ?_)
    ·
     refine sq<|rgX [(1,.ld 2),(3,.ld 2),(5,.st 0),(7,.st 0)] G (by kernel_rfl)<|nx<|sq ?_
     by_cases hN : o.fN ≥ 1
     ·
      rcases Bool.eq_false_or_eq_true (okKey o.fOther) with hK | hK
      · exact rgX [(0,.ld 0),(2,.ld 2),(3,.eq _ _ (congrArg Value.bool (decide_eq_true hN))),(6,.ld 2),(7,.cv [] ⟨_,_,_,_,fvE (dkeyed_c _) (congrArg Value.bool hK),ok_90⟩),(11,.ld 2),(13,.ld 2),(16,.st 1)] G (by kernel_rfl)<|nx<|rt<|bR<|tR<|fRG () [_, _, _] (rCT 1 G G G G (Rg G)) (by simp only [Bool.not_eq_false'] at h8; rw [plainO, plainB, h8]; (repeat' split) <;> first | rfl | (exfalso; omega) | contradiction | (simp [hN, hK]; done) | (simp [hN]; done)) G Sn
      · exact rgX [(0,.ld 0),(2,.ld 2),(3,.eq _ _ (congrArg Value.bool (decide_eq_true hN))),(6,.ld 2),(7,.cv [] ⟨_,_,_,_,fvE (dkeyed_c _) (congrArg Value.bool hK),ok_90⟩),(16,.st 1)] G (by kernel_rfl)<|nx<|rt<|bR<|tR<|fRG () [_, _, _] (rCT 1 G G G G (Rg G)) (by simp only [Bool.not_eq_false'] at h8; rw [plainO, plainB, h8]; (repeat' split) <;> first | rfl | (exfalso; omega) | contradiction | (simp [hN, hK]; done) | (simp [hN]; done)) G Sn
     · exact rgX [(0,.ld 0),(2,.ld 2),(3,.eq _ _ (congrArg Value.bool (decide_eq_false hN))),(16,.st 1)] G (by kernel_rfl)<|nx<|rt<|bR<|tR<|fRG () [_, _, _] (rCT 1 G G G G (Rg G)) (by simp only [Bool.not_eq_false'] at h8; rw [plainO, plainB, h8]; (repeat' split) <;> first | rfl | (exfalso; omega) | contradiction | (simp [hN, hK]; done) | (simp [hN]; done)) G Sn
    ·
     refine sa 2 G<|cdP G (fun h51 => ?_) (fun h51 => ?_)
     · exact sq<|rgX [(1,.ld 2),(3,.ld 2),(5,.st 0),(7,.st 0)] G (by kernel_rfl)<|nx<|qg<|ldM 0 (cOp ((⟨o.fKind, o.fKey, ByteArray.empty, 0, o.fLo, o.fHi⟩ : TOp))) G G (Rg G) G G<|stW 1 (us := (cOp ((⟨o.fKind, o.fKey, ByteArray.empty, 0, o.fLo, o.fHi⟩ : TOp)))) G G G (Rg G) G G<|ru 1 G<|nl<|nx<|rt<|bR<|tR<|fRG () [_, _, _] (rCT 1 G G G G (Rg G)) (by simp only [Bool.not_eq_false'] at h8; rw [plainO, plainB, h8]; (repeat' split) <;> first | rfl | (exfalso; omega) | contradiction | (simp [hN, hK]; done) | (simp [hN]; done)) G Sn
     ·
      refine sq<|sa 2 G<|cdP G (fun h60 => ?_) (fun h60 => ?_)
      ·
       refine sk<|nx<|cdP G (fun h60 => ?_) (fun h60 => ?_)
       · exact qg<|ldM 0 (cOp ((⟨o.fKind, o.fKey, ByteArray.empty, 0, 0, 0⟩ : TOp))) G G (Rg G) G G<|stW 1 (us := (cOp ((⟨o.fKind, o.fKey, ByteArray.empty, 0, 0, 0⟩ : TOp)))) G G G (Rg G) G G<|ru 1 G<|nl<|nx<|rt<|bR<|tR<|fRG () [_, _, _] (rCT 1 G G G G (Rg G)) (by simp only [Bool.not_eq_false'] at h8; rw [plainO, plainB, h8]; (repeat' split) <;> first | rfl | (exfalso; omega) | contradiction | (simp [hN, hK]; done) | (simp [hN]; done)) G Sn
       · exact sk<|bN<|nx<|qg<|bd (ps := []) (cs := (cOp (oZ))) (by rfl) (by kernel_rfl) G<|stW 1 (us := (cOp (oZ))) G G G (Rg G) G G<|ru 1 G<|nl<|nx<|rt<|fRG () [_, _, _] (rCT 1 G G G G (Rg G)) (by simp only [Bool.not_eq_false'] at h8; rw [plainO, plainB, h8]; (repeat' split) <;> first | rfl | (exfalso; omega) | contradiction | (simp [hN, hK]; done) | (simp [hN]; done)) G Sn
      ·
       refine sa 2 G<|cdP G (fun h60 => ?_) (fun h60 => ?_)
       ·
        refine sk<|nx<|cdP G (fun h60 => ?_) (fun h60 => ?_)
        · exact qg<|ldM 0 (cOp ((⟨o.fKind, o.fKey, ByteArray.empty, 0, 0, 0⟩ : TOp))) G G (Rg G) G G<|stW 1 (us := (cOp ((⟨o.fKind, o.fKey, ByteArray.empty, 0, 0, 0⟩ : TOp)))) G G G (Rg G) G G<|ru 1 G<|nl<|nx<|rt<|bR<|tR<|fRG () [_, _, _] (rCT 1 G G G G (Rg G)) (by simp only [Bool.not_eq_false'] at h8; rw [plainO, plainB, h8]; (repeat' split) <;> first | rfl | (exfalso; omega) | contradiction | (simp [hN, hK]; done) | (simp [hN]; done)) G Sn
        · exact sk<|bN<|nx<|qg<|bd (ps := []) (cs := (cOp (oZ))) (by rfl) (by kernel_rfl) G<|stW 1 (us := (cOp (oZ))) G G G (Rg G) G G<|ru 1 G<|nl<|nx<|rt<|fRG () [_, _, _] (rCT 1 G G G G (Rg G)) (by simp only [Bool.not_eq_false'] at h8; rw [plainO, plainB, h8]; (repeat' split) <;> first | rfl | (exfalso; omega) | contradiction | (simp [hN, hK]; done) | (simp [hN]; done)) G Sn
       ·
        refine sa 2 G<|cdP G (fun h60 => ?_) (fun h60 => ?_)
        ·
         refine sk<|nx<|cdP G (fun h60 => ?_) (fun h60 => ?_)
         · exact qg<|ldM 0 (cOp ((⟨o.fKind, o.fKey, ByteArray.empty, 0, 0, 0⟩ : TOp))) G G (Rg G) G G<|stW 1 (us := (cOp ((⟨o.fKind, o.fKey, ByteArray.empty, 0, 0, 0⟩ : TOp)))) G G G (Rg G) G G<|ru 1 G<|nl<|nx<|rt<|bR<|tR<|fRG () [_, _, _] (rCT 1 G G G G (Rg G)) (by simp only [Bool.not_eq_false'] at h8; rw [plainO, plainB, h8]; (repeat' split) <;> first | rfl | (exfalso; omega) | contradiction | (simp [hN, hK]; done) | (simp [hN]; done)) G Sn
         · exact sk<|bN<|nx<|qg<|bd (ps := []) (cs := (cOp (oZ))) (by rfl) (by kernel_rfl) G<|stW 1 (us := (cOp (oZ))) G G G (Rg G) G G<|ru 1 G<|nl<|nx<|rt<|fRG () [_, _, _] (rCT 1 G G G G (Rg G)) (by simp only [Bool.not_eq_false'] at h8; rw [plainO, plainB, h8]; (repeat' split) <;> first | rfl | (exfalso; omega) | contradiction | (simp [hN, hK]; done) | (simp [hN]; done)) G Sn
        ·
         refine ra 2 G<|nx<|cdP G (fun h60 => ?_) (fun h60 => ?_)
         · exact qg<|ldM 0 (cOp ((⟨o.fKind, o.fKey, ByteArray.empty, 0, 0, 0⟩ : TOp))) G G (Rg G) G G<|stW 1 (us := (cOp ((⟨o.fKind, o.fKey, ByteArray.empty, 0, 0, 0⟩ : TOp)))) G G G (Rg G) G G<|ru 1 G<|nl<|nx<|rt<|bR<|tR<|fRG () [_, _, _] (rCT 1 G G G G (Rg G)) (by simp only [Bool.not_eq_false'] at h8; rw [plainO, plainB, h8]; (repeat' split) <;> first | rfl | (exfalso; omega) | contradiction | (simp [hN, hK]; done) | (simp [hN]; done)) G Sn
         · exact sk<|bN<|nx<|qg<|bd (ps := []) (cs := (cOp (oZ))) (by rfl) (by kernel_rfl) G<|stW 1 (us := (cOp (oZ))) G G G (Rg G) G G<|ru 1 G<|nl<|nx<|rt<|fRG () [_, _, _] (rCT 1 G G G G (Rg G)) (by simp only [Bool.not_eq_false'] at h8; rw [plainO, plainB, h8]; (repeat' split) <;> first | rfl | (exfalso; omega) | contradiction | (simp [hN, hK]; done) | (simp [hN]; done)) G Sn
  ·
   refine ra 2 G<|nx<|cdP G (fun h17 => ?_) (fun h17 => ?_)
   · exact qg<|rl 3 [2] G G<|stB 0 G G G (Og G) G (nlt G)<|nl<|nx<|sq<|wkC [(1, _), (2, _), (4, _)] _ (Gs G) Sr<|rgX [(0,.ld 0),(2,.ld 2),(4,.st 1)] G (by kernel_rfl)<|nx<|rt<|bR<|tR<|fRG () [_, _, _] (rCT 1 G G G G (Rg G)) (by simp only [Bool.not_eq_false'] at h8; rw [plainO, plainB, h8]; (repeat' split) <;> first | rfl | (exfalso; omega) | contradiction | (simp [hN, hK]; done) | (simp [hN]; done)) G Sn
   ·
    refine sa 2 G<|cdP G (fun h27 => ?_) (fun h27 => ?_)
    ·
     refine sq<|rgX [(1,.ld 2),(3,.ld 2),(5,.st 0),(7,.st 0)] G (by kernel_rfl)<|nx<|sq ?_
     by_cases hN : o.fN ≥ 1
     ·
      rcases Bool.eq_false_or_eq_true (okKey o.fOther) with hK | hK
      · exact rgX [(0,.ld 0),(2,.ld 2),(3,.eq _ _ (congrArg Value.bool (decide_eq_true hN))),(6,.ld 2),(7,.cv [] ⟨_,_,_,_,fvE (dkeyed_c _) (congrArg Value.bool hK),ok_90⟩),(11,.ld 2),(13,.ld 2),(16,.st 1)] G (by kernel_rfl)<|nx<|rt<|bR<|tR<|fRG () [_, _, _] (rCT 1 G G G G (Rg G)) (by simp only [Bool.not_eq_false'] at h8; rw [plainO, plainB, h8]; (repeat' split) <;> first | rfl | (exfalso; omega) | contradiction | (simp [hN, hK]; done) | (simp [hN]; done)) G Sn
      · exact rgX [(0,.ld 0),(2,.ld 2),(3,.eq _ _ (congrArg Value.bool (decide_eq_true hN))),(6,.ld 2),(7,.cv [] ⟨_,_,_,_,fvE (dkeyed_c _) (congrArg Value.bool hK),ok_90⟩),(16,.st 1)] G (by kernel_rfl)<|nx<|rt<|bR<|tR<|fRG () [_, _, _] (rCT 1 G G G G (Rg G)) (by simp only [Bool.not_eq_false'] at h8; rw [plainO, plainB, h8]; (repeat' split) <;> first | rfl | (exfalso; omega) | contradiction | (simp [hN, hK]; done) | (simp [hN]; done)) G Sn
     · exact rgX [(0,.ld 0),(2,.ld 2),(3,.eq _ _ (congrArg Value.bool (decide_eq_false hN))),(16,.st 1)] G (by kernel_rfl)<|nx<|rt<|bR<|tR<|fRG () [_, _, _] (rCT 1 G G G G (Rg G)) (by simp only [Bool.not_eq_false'] at h8; rw [plainO, plainB, h8]; (repeat' split) <;> first | rfl | (exfalso; omega) | contradiction | (simp [hN, hK]; done) | (simp [hN]; done)) G Sn
    ·
     refine sa 2 G<|cdP G (fun h51 => ?_) (fun h51 => ?_)
     · exact sq<|rgX [(1,.ld 2),(3,.ld 2),(5,.st 0),(7,.st 0)] G (by kernel_rfl)<|nx<|qg<|ldM 0 (cOp ((⟨o.fKind, o.fKey, ByteArray.empty, 0, o.fLo, o.fHi⟩ : TOp))) G G (Rg G) G G<|stW 1 (us := (cOp ((⟨o.fKind, o.fKey, ByteArray.empty, 0, o.fLo, o.fHi⟩ : TOp)))) G G G (Rg G) G G<|ru 1 G<|nl<|nx<|rt<|bR<|tR<|fRG () [_, _, _] (rCT 1 G G G G (Rg G)) (by simp only [Bool.not_eq_false'] at h8; rw [plainO, plainB, h8]; (repeat' split) <;> first | rfl | (exfalso; omega) | contradiction | (simp [hN, hK]; done) | (simp [hN]; done)) G Sn
     ·
      refine sq<|sa 2 G<|cdP G (fun h60 => ?_) (fun h60 => ?_)
      ·
       refine sk<|nx<|cdP G (fun h60 => ?_) (fun h60 => ?_)
       · exact qg<|ldM 0 (cOp ((⟨o.fKind, o.fKey, ByteArray.empty, 0, 0, 0⟩ : TOp))) G G (Rg G) G G<|stW 1 (us := (cOp ((⟨o.fKind, o.fKey, ByteArray.empty, 0, 0, 0⟩ : TOp)))) G G G (Rg G) G G<|ru 1 G<|nl<|nx<|rt<|bR<|tR<|fRG () [_, _, _] (rCT 1 G G G G (Rg G)) (by simp only [Bool.not_eq_false'] at h8; rw [plainO, plainB, h8]; (repeat' split) <;> first | rfl | (exfalso; omega) | contradiction | (simp [hN, hK]; done) | (simp [hN]; done)) G Sn
       · exact sk<|bN<|nx<|qg<|bd (ps := []) (cs := (cOp (oZ))) (by rfl) (by kernel_rfl) G<|stW 1 (us := (cOp (oZ))) G G G (Rg G) G G<|ru 1 G<|nl<|nx<|rt<|fRG () [_, _, _] (rCT 1 G G G G (Rg G)) (by simp only [Bool.not_eq_false'] at h8; rw [plainO, plainB, h8]; (repeat' split) <;> first | rfl | (exfalso; omega) | contradiction | (simp [hN, hK]; done) | (simp [hN]; done)) G Sn
      ·
       refine sa 2 G<|cdP G (fun h60 => ?_) (fun h60 => ?_)
       ·
        refine sk<|nx<|cdP G (fun h60 => ?_) (fun h60 => ?_)
        · exact qg<|ldM 0 (cOp ((⟨o.fKind, o.fKey, ByteArray.empty, 0, 0, 0⟩ : TOp))) G G (Rg G) G G<|stW 1 (us := (cOp ((⟨o.fKind, o.fKey, ByteArray.empty, 0, 0, 0⟩ : TOp)))) G G G (Rg G) G G<|ru 1 G<|nl<|nx<|rt<|bR<|tR<|fRG () [_, _, _] (rCT 1 G G G G (Rg G)) (by simp only [Bool.not_eq_false'] at h8; rw [plainO, plainB, h8]; (repeat' split) <;> first | rfl | (exfalso; omega) | contradiction | (simp [hN, hK]; done) | (simp [hN]; done)) G Sn
        · exact sk<|bN<|nx<|qg<|bd (ps := []) (cs := (cOp (oZ))) (by rfl) (by kernel_rfl) G<|stW 1 (us := (cOp (oZ))) G G G (Rg G) G G<|ru 1 G<|nl<|nx<|rt<|fRG () [_, _, _] (rCT 1 G G G G (Rg G)) (by simp only [Bool.not_eq_false'] at h8; rw [plainO, plainB, h8]; (repeat' split) <;> first | rfl | (exfalso; omega) | contradiction | (simp [hN, hK]; done) | (simp [hN]; done)) G Sn
       ·
        refine sa 2 G<|cdP G (fun h60 => ?_) (fun h60 => ?_)
        ·
         refine sk<|nx<|cdP G (fun h60 => ?_) (fun h60 => ?_)
         · exact qg<|ldM 0 (cOp ((⟨o.fKind, o.fKey, ByteArray.empty, 0, 0, 0⟩ : TOp))) G G (Rg G) G G<|stW 1 (us := (cOp ((⟨o.fKind, o.fKey, ByteArray.empty, 0, 0, 0⟩ : TOp)))) G G G (Rg G) G G<|ru 1 G<|nl<|nx<|rt<|bR<|tR<|fRG () [_, _, _] (rCT 1 G G G G (Rg G)) (by simp only [Bool.not_eq_false'] at h8; rw [plainO, plainB, h8]; (repeat' split) <;> first | rfl | (exfalso; omega) | contradiction | (simp [hN, hK]; done) | (simp [hN]; done)) G Sn
         · exact sk<|bN<|nx<|qg<|bd (ps := []) (cs := (cOp (oZ))) (by rfl) (by kernel_rfl) G<|stW 1 (us := (cOp (oZ))) G G G (Rg G) G G<|ru 1 G<|nl<|nx<|rt<|fRG () [_, _, _] (rCT 1 G G G G (Rg G)) (by simp only [Bool.not_eq_false'] at h8; rw [plainO, plainB, h8]; (repeat' split) <;> first | rfl | (exfalso; omega) | contradiction | (simp [hN, hK]; done) | (simp [hN]; done)) G Sn
        ·
         refine ra 2 G<|nx<|cdP G (fun h60 => ?_) (fun h60 => ?_)
         · exact qg<|ldM 0 (cOp ((⟨o.fKind, o.fKey, ByteArray.empty, 0, 0, 0⟩ : TOp))) G G (Rg G) G G<|stW 1 (us := (cOp ((⟨o.fKind, o.fKey, ByteArray.empty, 0, 0, 0⟩ : TOp)))) G G G (Rg G) G G<|ru 1 G<|nl<|nx<|rt<|bR<|tR<|fRG () [_, _, _] (rCT 1 G G G G (Rg G)) (by simp only [Bool.not_eq_false'] at h8; rw [plainO, plainB, h8]; (repeat' split) <;> first | rfl | (exfalso; omega) | contradiction | (simp [hN, hK]; done) | (simp [hN]; done)) G Sn
         · exact sk<|bN<|nx<|qg<|bd (ps := []) (cs := (cOp (oZ))) (by rfl) (by kernel_rfl) G<|stW 1 (us := (cOp (oZ))) G G G (Rg G) G G<|ru 1 G<|nl<|nx<|rt<|fRG () [_, _, _] (rCT 1 G G G G (Rg G)) (by simp only [Bool.not_eq_false'] at h8; rw [plainO, plainB, h8]; (repeat' split) <;> first | rfl | (exfalso; omega) | contradiction | (simp [hN, hK]; done) | (simp [hN]; done)) G Sn
theorem sameCmd_c (x : TCommand) (x_0 : Value) (y : TCommand) (y_0 : Value) : FnV Pg 11 [.agg (cCommand x x_0).toArray, .agg (cCommand y y_0).toArray] [⟨x_0, x.fImage⟩, ⟨y_0, y.fImage⟩] (.bool (sameCmd x y)) := by
 refine Fnc.proof Tryz.func11 G 101 G G fun X w => qg<|bx G G G fun b2 => bx G G G fun b3 => ru 1 G<|nl<|nx<|qg<|rl 4 [1,0] G G<|ru 2 G<|ja 10 6 [1,0] [2,3] G G G<|mv G G<|ja 17 6 [1,0] [2,3] G G G<|mv G G<|ja 24 6 [1,0] [2,3] G G G<|mv G G<|ja 31 6 [1,0] [2,3] G G G<|mv G G<|ja 38 6 [1,0] [2,3] G G G<|mv G G<|ja 45 6 [1,0] [2,3] G G G<|mv G G ?_
 refine ja 52 6 [1,0] [2,3] G G G<|mv G G<|ja 59 6 [1,0] [2,3] G G G<|mv G G<|ja 66 6 [1,0] [2,3] G G G<|mv G G<|jy 73 6 [2,3] G G (fun h73 K79 => rl 4 [1,0] G G<|gY G G G<|eqBo (T := 0) Tryz.underlying4 G G G<|ru 1 G<|K79 G Sr)<|mv G G<|jy 80 6 [2,3] G G (fun h80 K86 => ru 1 G<|gY G G G<|ldM 1 (cOp x.fOp) G G (Rg G) G G<|ru 1 G<|gY G G G<|ldM 0 (cOp y.fOp) G G (Rg G) G G<|gY G G G<|eqT eq_Op (x.fOp) (y.fOp) G G G<|ru 1 G<|K86 G Sr)<|mv G G<|jy 87 6 [2,3] G G (fun h87 K93 => ru 1 G<|gY G G G<|ldM 1 (cPlan x.fPlan) G G (Rg G) G G<|ru 1 G<|gY G G G<|ldM 0 (cPlan y.fPlan) G G (Rg G) G G<|gY G G G<|eqT eq_Plan (x.fPlan) (y.fPlan) G G G<|ru 1 G<|K93 G Sr)<|mv G G<|jy 94 6 [] G G (fun h94 K100 => rl 4 [1,0] G G<|gY G G G<|cfv (sameBytes_c _ _ _ _) ok_41 G (Si [0,1] G) G<|ru 1 G<|K100 G Sr)<|ru 1 G<|nl<|nx<|rt<|dpQ<|dpQ ?_
 exact fR1 () G G (by rfl) G Sn
theorem route_c (v : TScene) (v_0 v_1 v_2 v_3 v_4 : Value) (c : Int) (q : Int) (o : TOp) (h_v : v.wf) (h_c : InI c) (h_q : InI q) (h_o : o.wf) : FnV Pg 8 [.agg (cScene v v_0 v_1 v_2 v_3 v_4).toArray, .int .i64 c, .int .i64 q, .agg (cOp o).toArray] [⟨v_0, v.fChart.fPlaces⟩, ⟨v_1, v.fChart.fMarks⟩, ⟨v_2, v.fStates⟩, ⟨v_3, v.fRights⟩, ⟨v_4, v.fAges⟩] (.tuple #[.int .i64 (routeG v c q o), .agg (cCommand (routeC v c q o) nS).toArray, .int .i64 (routeE v c q o)]) := by
 refine Fnc.proof Tryz.func8 G 77 G G fun X w => ?_
 obtain ⟨h_c1, h_c2⟩ := id h_c
 obtain ⟨h_q1, h_q2⟩ := id h_q
 refine qg<|bx G G G fun b4 => bx G G G fun b7 => ru 1 G<|al zero_37 G fun b9 => ru 1 G<|nl<|nx<|sq<|qg<|ldM 2 (cScene v v_0 v_1 v_2 v_3 v_4) G G (Rg G) G G<|cfv (dright_c _ _ _ _ _ _ h_v) ok_17 G (Si [0,1,2,3,4] G) G<|nt G G<|nl<|nx<|cdB G (fun h17 => ?_) (fun h17 => ?_)
 ·
  have hR : drightP v = false := (by simpa using h17)
  exact qg<|bd (ps := []) (cs := (cCommand ((⟨0, 0, 0, 0, 0, 0, ByteArray.empty, 0, 0, 0, false, oZ, pZ, []⟩ : TCommand)) nS)) (by rfl) (by kernel_rfl) G<|ru 1 G<|stW 0 (us := (cCommand ((⟨0, 0, 0, 0, 0, 0, ByteArray.empty, 0, 0, 0, false, oZ, pZ, []⟩ : TCommand)) nS)) G G G (Rg G) G G<|ru 1 G<|nl<|nx<|rt<|tR<|fRG () [_, _, _] (rTCT 0 G G G G G (Rg G)) (by rw [routeG, routeC, routeE, hR]; try rfl) G Sn
 ·
  have hR : drightP v = true := (by simpa using h17)
  have hpl := dright_places hR
  obtain ⟨N, hN⟩ : ∃ N, N = findP v.fChart.fPlaces (plainO o).fKey := ⟨_, rfl⟩
  have hlt : N < v.fChart.fPlaces.length := by rw [hN]; exact findP_lt hpl
  have hfc : FnV Pg 35 [v_0, .string (plainO o).fKey] [⟨v_0, v.fChart.fPlaces⟩] (.int .i64 (N : Int)) := by rw [hN]; exact find_c v_0 v.fChart.fPlaces (plainO o).fKey
  refine sk<|nx<|qg<|ldM 1 (cOp o) G G (Rg G) G G<|cfv (plain_c _ h_o) ok_34 G Sn G<|ru 3 G<|al zero_34 G fun b11 => stW 0 (us := (cOp ((plainO o)))) G G G (Rg G) G G<|ru 1 G<|nl<|nx<|sq<|qg<|ru 3 G<|jb 26 3 [] [1,2,4,9,11] G G G<|mv G G<|jb 30 3 [] [1,2,4,9,11] G G G<|mv G G<|jb 34 3 [] [1,2,4,9,11] G G G<|mv G G<|jb 38 3 [] [1,2,4,9,11] G G G<|nl<|nx<|cdB G (fun h41 => ?_) (fun h41 => ?_)
  ·
   have e41 : (dr1 c q o) = true := h41
   exact qg<|bd (ps := []) (cs := (cCommand ((⟨0, 0, 0, 0, 0, 0, ByteArray.empty, 0, 0, 0, false, oZ, pZ, []⟩ : TCommand)) nS)) (by rfl) (by kernel_rfl) G<|ru 1 G<|stW 1 (us := (cCommand ((⟨0, 0, 0, 0, 0, 0, ByteArray.empty, 0, 0, 0, false, oZ, pZ, []⟩ : TCommand)) nS)) G G G (Rg G) G G<|ru 1 G<|nl<|nx<|rt<|tR<|fRG () [_, _, _, _] (rTCT 1 G G G G G (Rg G)) (by rw [routeG, routeC, routeE, hR, e41]; try rfl) G Sn
  ·
   have e41 : (dr1 c q o) = false := h41
   refine sk<|nx<|qg<|ru 2 G<|ldM 0 (cOp ((plainO o))) G G (Rg G) G G<|bd (ps := [(0, .const (.int .i64 12)), (1, .tmp 43), (2, .tmp 44), (11, .tmp 45)]) (cs := (cCommand ((⟨12, c, q, 0, 0, 0, ByteArray.empty, 0, 0, 0, false, (plainO o), pZ, []⟩ : TCommand)) nS)) (by rfl) (by kernel_rfl) G<|al zero_37 G fun b13 => stW 0 (us := (cCommand ((⟨12, c, q, 0, 0, 0, ByteArray.empty, 0, 0, 0, false, (plainO o), pZ, []⟩ : TCommand)) nS)) G G G (Rg G) G G<|nl<|nx<|sq<|qg<|rl 4 [1] G G<|jb 50 4 [1] [4,9,11,13] G G G<|nl<|nx<|cdB G (fun h54 => ?_) (fun h54 => ?_)
   ·
    have e54 : (isPlan (plainO o)) = true := h54
    exact sq<|rgX [(0,.ld 0),(2,.st 2)] G (by kernel_rfl)<|nx<|rt<|tR<|fRG () [_, _, _, _, _] (rTCT 2 G G G G G (Rg G)) (by rw [routeG, routeC, routeE, hR, e41, e54]; try rfl) G Sn
   ·
    have e54 : (isPlan (plainO o)) = false := h54
    refine sk<|nx<|sq<|rgZ (L := [bl b13 37 (cCommand ((⟨12, c, q, 0, 0, 0, ByteArray.empty, 0, 0, 0, false, (plainO o), pZ, []⟩ : TCommand)) nS), bl b11 34 (cOp ((plainO o))), bl b9 37 zv9, bl b7 34 (cOp o), bl b4 32 (cScene v v_0 v_1 v_2 v_3 v_4), fz X w]) [(8,.cv [0] ⟨_,_,_,_,hfc,ok_35⟩)] [(2,⟨some (v_0),fun _ => [],false⟩),(5,⟨some (v_0),fun _ => [],false⟩),(7,⟨some (.string (plainO o).fKey),fun _ => [],false⟩),(9,⟨none,fun u => [⟨u, (⟨(v.fChart.fPlaces.getD N default)⟩ : Pt TPlace)⟩],false⟩),(10,⟨some (.agg (cPlace ((v.fChart.fPlaces.getD N default))).toArray),fun _ => [],false⟩),(11,⟨none,fun _ => [],true⟩),(12,⟨none,fun _ => [],true⟩)] [(11,fun u => u = .pointer (some ⟨ptrB u, 0, none⟩))] [] [(11,fun L zz => (bl (ptrB (zz 11)) 90 zv10) :: L),(12,fun L zz => rpE 6 (bl (ptrB (zz 11)) 90 (cPlace ((v.fChart.fPlaces.getD N default)))) L)] (fun _ => G) (fun _ => by kernel_rfl) ?_ fun V hV => ?_
    ·
     refine ⟨fun V De _=>aP2 (ldB 4 G G (Og G) G G<|oh G G G G) (ldB 5 G G (Og G) G G<|oh G G G G),fun V De _=>aP2 (ldB 4 G G (Og G) G G<|oh G G G G) (ldB 5 G G (Og G) G G<|oh G G G G),fun V De _=>aP2 (ldB 1 G G (Og G) G G<|oh G G G G) (ldB 2 G G (Og G) G G<|oh G G G G),fun V De _=>(by (repeat (refine aC ?_ ?_; exact ixP 0 G G G slt_22 (by omega) (gE (by omega)) G fun v65 => nl (odH G G G trivial (Sc 0 G Sn) (SubD.tail Sr)))); trivial),?_⟩
     refine ⟨fun V De _=>?_,?_⟩
     ·
      repeat
       refine aC ?_ ?_
       ·
        refine ldS 0 G G (Rg G) G fun q66 w66 => ?_
        exact nl (odH G G G G Sn (SubD.tail (SubD.tail Sr)))
      trivial
     refine ⟨fun V De _=>aP1 (al zero_90 G fun b14 => oh G G G G),?_⟩
     refine ⟨fun V De hV=>aP1 ?_,?_⟩
     · exact stW 0 (us := (cPlace ((v.fChart.fPlaces.getD N default)))) (congrArg some (hV.mem 11 (mE G) G)) G G (Rg G) G G<|oh0 G G
     trivial
    ·
     refine wD [1,2,3,4,5] G<|?_
     obtain ⟨b14, hb14⟩ : ∃ b, V 11 = .pointer (some ⟨b, 0, none⟩) := ⟨_, hV.mem 11 (by decide) rfl rfl⟩
     simp only [hb14, ptrB_mk]
     exact nx<|sq<|rgX [(1,.ld 0),(3,.ld 5),(5,.st 1),(7,.st 1),(9,.st 1)] G (by kernel_rfl)<|nx<|sq<|rgX [(1,.ld 0),(2,.ld 1),(4,.st 3)] G (by kernel_rfl)<|nx<|rt<|fRG () [_, _, _, _, _, _] (rTCT 3 G G G G G (Rg G)) (by rw [routeG, routeC, routeE, hR, e41, e54, ← hN]; try rfl) G Sn
theorem pnew_c : Fnc Pg 93 [] [] [] (fun (y : Value) v => v = .agg (cChart chart1 y nS).toArray) (fun _ _ => []) (fun y _ => [⟨y, chart1.fPlaces⟩]) := by
 exact Fnc.proof Tryz.func93 G 4 G G fun X w => qg<|al zero_27 G fun b0 => nl<|nx<|qg<|bd (ps := [(0, .const (.int .i64 1)), (2, .const (.int .i64 1))]) (cs := (cPlace ((⟨1, ByteArray.empty, 1⟩ : TPlace)))) (by rfl) (by kernel_rfl) G<|bsM G app_22 G G G G fun b2 => frS1 (α := TPlace) place1 (fun S w h => ⟨(), G, by simp, place1_wf⟩)<|bd (ps := [(1, .tmp 2), (2, .const (.int .i64 2))]) (cs := (cChart ((⟨0, [place1], 2, 0, pZ, []⟩ : TChart)) (.slice (some ⟨b2, 0, none⟩) 1 1) nS)) (by rfl) (by kernel_rfl) G<|stW 0 (us := (cChart ((⟨0, [place1], 2, 0, pZ, []⟩ : TChart)) (.slice (some ⟨b2, 0, none⟩) 1 1) nS)) G G G (Rg G) G G<|nl<|nx<|rt<|fRG (.slice (some ⟨b2, 0, none⟩) 1 1) [_] (rC 0 G G G (Rg G)) (by rfl) G (Sc 0 G Sn)
theorem snew_c (n : Int) (h_n : InI n) : FnV Pg 94 [.int .i64 n] [] (.tuple #[.agg (cState (newS n) nS nS nS nS nS nS).toArray, .int .i64 (if okGroup n = true then 0 else 1)]) := by
 refine Fnc.proof Tryz.func94 G 16 G G fun X w => ?_
 obtain ⟨h_n1, h_n2⟩ := id h_n
 refine qg<|al zero_55 G fun b2 => ru 1 G<|nl<|nx<|sq<|qg<|mv G G<|cfv (sgroup_c _ h_n) ok_169 G Sn G<|nt G G<|nl<|nx<|cdB G (fun h7 => ?_) (fun h7 => ?_)
 ·
  have q : okGroup n = false := (by simpa using h7)
  exact qg<|bd (ps := []) (cs := (cState ((⟨0, 0, false, ByteArray.empty, ByteArray.empty, 0, [], [], [], [], [], pZ, pZ, [], 0, 0, 0⟩ : TState)) nS nS nS nS nS nS)) (by rfl) (by kernel_rfl) G<|stW 0 (us := (cState ((⟨0, 0, false, ByteArray.empty, ByteArray.empty, 0, [], [], [], [], [], pZ, pZ, [], 0, 0, 0⟩ : TState)) nS nS nS nS nS nS)) G G G (Rg G) G G<|ru 1 G<|nl<|nx<|rt<|tR<|fRG () [_] (rCT 0 G G G G (Rg G)) (by rw [newS, q]; rfl) G Sn
 ·
  have q : okGroup n = true := (by simpa using h7)
  refine sk<|nx<|qg<|mv G G<|bd (ps := [(0, .tmp 9)]) (cs := (cState ((⟨n, 0, false, ByteArray.empty, ByteArray.empty, 0, [], [], [], [], [], pZ, pZ, [], 0, 0, 0⟩ : TState)) nS nS nS nS nS nS)) (by rfl) (by kernel_rfl) G<|al zero_55 G fun b4 => stW 0 (us := (cState ((⟨n, 0, false, ByteArray.empty, ByteArray.empty, 0, [], [], [], [], [], pZ, pZ, [], 0, 0, 0⟩ : TState)) nS nS nS nS nS nS)) G G G (Rg G) G G<|nl<|nx<|sq<|qg<|mv G G<|ru 1 G<|nl<|nx<|cdP G (fun h12 => ?_) (fun h12 => ?_)
  · exact qg<|ru 1 G<|stB 0 G G G (Og G) G (nlt G)<|nl<|nx<|rg<|ru 1 G<|stB 0 G G G (Og G) G (nlt G)<|nl<|nx<|qg<|ldM 0 (cState ((⟨n, 0, true, ByteArray.empty, ByteArray.empty, 1, ([]), ([]), ([]), ([]), ([]), pZ, pZ, ([]), 0, 0, 0⟩ : TState)) nS nS nS nS nS nS) G G (Rg G) G G<|stW 1 (us := (cState ((⟨n, 0, true, ByteArray.empty, ByteArray.empty, 1, ([]), ([]), ([]), ([]), ([]), pZ, pZ, ([]), 0, 0, 0⟩ : TState)) nS nS nS nS nS nS)) G G G (Rg G) G G<|ru 1 G<|nl<|nx<|rt<|fRG () [_, _] (rCT 1 G G G G (Rg G)) (by rw [newS, q, if_pos rfl, if_pos rfl, if_pos rfl]; simp [h12]) G Sn
  · exact sk<|nx<|qg<|ldM 0 (cState ((⟨n, 0, false, ByteArray.empty, ByteArray.empty, 0, [], [], [], [], [], pZ, pZ, [], 0, 0, 0⟩ : TState)) nS nS nS nS nS nS) G G (Rg G) G G<|stW 1 (us := (cState ((⟨n, 0, false, ByteArray.empty, ByteArray.empty, 0, [], [], [], [], [], pZ, pZ, [], 0, 0, 0⟩ : TState)) nS nS nS nS nS nS)) G G G (Rg G) G G<|ru 1 G<|nl<|nx<|rt<|fRG () [_, _] (rCT 1 G G G G (Rg G)) (by rw [newS, q]; simp [h12]) G Sn
theorem scene_c (a b : Int) (h_a : InI a) (h_b : InI b) : Fnc Pg 40 [.int .i64 a, .int .i64 b] [] [] (fun (y : Value × Value) v => v = .tuple #[.agg (cScene (scene1 a b) y.1 nS y.2 nS nS).toArray, .bool true]) (fun _ _ => []) (fun y _ => [⟨y.1, chart1.fPlaces⟩, ⟨y.2, stsN 7⟩]) := by
 refine Fnc.proof Tryz.func40 G 33 G G fun X w => ?_
 obtain ⟨h_a1, h_a2⟩ := id h_a
 obtain ⟨h_b1, h_b2⟩ := id h_b
 refine qg<|al zero_32 G fun b4 => ru 1 G<|nl<|nx<|qg<|ru 2 G<|cf (pnew_c) ok_93 G Sn G fun y12 v12 h12 => ?_
 have h12 : v12 = .agg (cChart chart1 y12 nS).toArray := h12
 subst h12
 refine bd (ps := [(0, .tmp 10), (1, .tmp 11), (2, .tmp 12)]) (cs := (cScene ((⟨a, b, chart1, [], [], []⟩ : TScene)) y12 nS nS nS nS)) (by rfl) (by kernel_rfl) G<|al zero_32 G fun b6 => oc 0 G fun o_y12 => stW 0 (us := (cScene ((⟨a, b, chart1, [], [], []⟩ : TScene)) y12 nS nS nS nS)) G G G (Rg G) (by simp only [List.all_cons, List.all_nil, Bool.and_true, o_y12]; rfl) G<|nl<|nx<|sq<|sa 1 G<|bk<|rwC TState 55<|lpE (σ := Nat × Value) [(4, _), (6, _)] _ (fun i C => (7, .int .i64 ((i.1 : Int) + 1)) :: C) (fun i => [row 55 i.2 (stsN i.1), bl b6 32 (cScene (scene1 a b) y12 nS i.2 nS nS), bl b4 32 (cScene zscene nS nS nS nS nS), fz X w]) (fun _ Dc => Dc) (fun i => i.1 ≤ 7) (fun i => 7 - i.1) (0, nS) (Gs G) (Sc 0 G Sn) (by decide) (Gs G) G (Sc 0 G Sn) ?_
 rintro ⟨i, rv⟩ hi
 simp only at hi
 refine sq<|sa 2 G<|cdP G (fun h15 => ?_) (fun h15 => ?_)
 ·
  have hg : okGroup ((i : Int) + 1) = true := (by simp only [okGroup, Bool.and_eq_true, decide_eq_true_eq]; omega)
  refine sk<|nx<|sq<|bk<|qg<|mv G G<|cfv (snew_c _ (inI (by omega) (by omega))) ok_94 G Sn G<|ru 3 G<|al zero_55 G fun b8 => stW 0 (us := (cState ((newS ((i : Int) + 1))) nS nS nS nS nS nS)) G G G (Rg G) G G<|ru 1 G<|nl<|nx<|sq<|sa 2 G<|cdN G (fun h24 => ?_) (fun h24 => ?_)
  · exact absurd (if_pos hg) h24 --#done
  ·
   refine sk<|nx<|rg<|rl 2 [2] G G<|ldM 0 (cState ((newS ((i : Int) + 1))) nS nS nS nS nS nS) G G (Rg G) G G<|emL (α := TAccount)<|emL (α := TMark)<|emL (α := TWait)<|emL (α := TDeal)<|emL (α := TEnd)<|emL (α := UInt8)<|bsM G app_28 G G G G fun b29 => ?_
   refine frS1 (α := TState) (newS ((i : Int) + 1)) (fun S w h => ⟨(nS, nS, nS, nS, nS, nS), G, fun t ht => by
     simp only [List.mem_cons, List.not_mem_nil, or_false] at ht
     rcases ht with rfl | rfl | rfl | rfl | rfl | rfl
     · exact h _ (List.mem_of_getElem? (i := 5) G)
     · exact h _ (List.mem_of_getElem? (i := 4) G)
     · exact h _ (List.mem_of_getElem? (i := 3) G)
     · exact h _ (List.mem_of_getElem? (i := 2) G)
     · exact h _ (List.mem_of_getElem? (i := 1) G)
     · exact h _ (List.mem_of_getElem? (i := 0) G), newS_wf (inI (by omega) (by omega))⟩) ?_
   refine ap 1 0 G G G G app_28 (by simp only [stsN_len, List.length_cons, List.length_nil]; omega) (by simp only [stsN_len, List.length_cons, List.length_nil]; omega) G fun v30 => ru 1 G<|stR 2 1 G G G G (Og G) (nlt G)<|nl<|bN<|nx<|rg<|mv G G<|adI G G (inI (by omega) (by omega)) G<|ru 1 G<|nl<|dpQ ?_
   exact ag ((i + 1, v30) : Nat × Value) (by show i + 1 ≤ 7; omega) (by show 7 - (i + 1) < 7 - i; omega) (Gs G) G (Sc 7 G Sn)
 ·
  have e : i = 7 := (by omega)
  subst e
  exact ex<|tE<|tE<|bE<|nx<|sq<|frR<|rg<|ldM 0 (cScene (scene1 a b) y12 nS rv nS nS) G G (Rg G) G G<|oc 1 G fun o_y12 => oc 0 G fun o_rv => stW 1 (us := (cScene ((scene1 a b)) y12 nS rv nS nS)) G G G (Rg G) (by simp only [List.all_cons, List.all_nil, Bool.and_true, o_y12, o_rv]; rfl) G<|ru 1 G<|nl<|nx<|rt<|fRG (y12, rv) [_, _] (rCT 1 G G G G (Rg G)) (by rfl) G (Sc 1 G (Sc 0 G Sn))
theorem awake_c  : FnV Pg 10 [] [] (.bool awakeB) := by
 refine Fnc.proof Tryz.func10 G 40 G G fun X w => sa 1 G<|qg<|cf (scene_c 1 3 ⟨by decide, by decide⟩ ⟨by decide, by decide⟩) ok_40 G Sn G fun y7 v7 h7 => ?_
 obtain ⟨y0, y1⟩ := y7
 have h7 : v7 = .tuple #[.agg (cScene (scene1 1 3) y0 nS y1 nS nS).toArray, .bool true] := h7
 subst h7
 exact ru 3 G<|al zero_32 G fun b1 => oc 0 G fun o_y0 => oc 1 G fun o_y1 => stW 0 (us := (cScene ((scene1 1 3)) y0 nS y1 nS nS)) G G G (Rg G) (by simp only [List.all_cons, List.all_nil, Bool.and_true, o_y0, o_y1]; rfl) G<|ru 1 G<|nl<|nx<|qg<|ldM 0 (cScene ((scene1 1 3)) y0 nS y1 nS nS) G G (Rg G) G G<|bd (ps := [(0, .const (.int .i64 4)), (1, .const _)]) (cs := cOp opA) (by rfl) (by kernel_rfl) G<|emL (α := TMark)<|emL (α := TRight)<|emL (α := TAge)<|cfv (route_c _ _ _ _ _ _ _ _ _ (scene1_wf ⟨by decide, by decide⟩ ⟨by decide, by decide⟩) (inI (by omega) (by omega)) (inI (by omega) (by omega)) opA_wf) ok_8 G (Si [3,2,4,1,0] G) G<|ru 4 G<|al zero_37 G fun b4 => ru 1 G<|stW 0 (us := (cCommand ((routeC (scene1 1 3) 1 1 opA)) nS)) G G G (Rg G) G G<|ru 1 G<|nl<|nx<|qg<|ru 2 G<|gY G G G<|ldM 1 (cScene ((scene1 1 3)) y0 nS y1 nS nS) G G (Rg G) G G<|gY G G G<|emL (α := TMark)<|emL (α := TRight)<|emL (α := TAge)<|cfv (dright_c _ _ _ _ _ _ (scene1_wf ⟨by decide, by decide⟩ ⟨by decide, by decide⟩)) ok_17 G (Si [6,2,7,1,0] G) G<|ru 2 G<|jy 22 4 [3,4,5] G G (fun h22 K26 => gY G G G<|bd (ps := []) (cs := cScene zscene nS nS nS nS nS) (by rfl) (by kernel_rfl) G<|gY G G G<|emL (α := TPlace)<|emL (α := TMark)<|emL (α := TState)<|emL (α := TRight)<|emL (α := TAge)<|cfv (dright_c _ _ _ _ _ _ zscene_wf) ok_17 G (Si [4,3,2,1,0] G) G<|ru 2 G<|K26 G (SubD.tail (SubD.tail (SubD.tail (SubD.tail (SubD.tail Sr))))))<|mv G G<|ja 27 3 [] [4,5] G G G<|mv G G<|ja 31 4 [0] [5] G G G<|mv G G<|ja 36 3 [] [] G G G<|ru 1 G<|nl<|nx<|rt<|dpQ<|dpQ<|fR1 () G G (by rfl) G Sn
end Go.Proofs.YtmpoffijcfaalaaGreat
namespace Go.Proofs.YtmpoffijcfaalaaGreat
open Go.Eng
theorem app_105 : AppTy Tryz.prog 105 103 1 8 := AppTy.mk Tryz.underlying105 (by kernel_rfl) (by decide)
theorem fdv_55_6 : FieldV Tryz.prog 55 6 6 := ⟨_, _, _, Tryz.underlying55, rfl, rfl, Tryz.underlying50, rfl⟩
theorem ok_104 : FnOk Pg 104 := ⟨⟨_, Tryz.func104, by kernel_rfl, rfl⟩⟩
theorem ok_108 : FnOk Pg 108 := ⟨⟨_, Tryz.func108, by kernel_rfl, rfl⟩⟩
theorem ok_109 : FnOk Pg 109 := ⟨⟨_, Tryz.func109, by kernel_rfl, rfl⟩⟩
theorem ok_111 : FnOk Pg 111 := ⟨⟨_, Tryz.func111, by kernel_rfl, rfl⟩⟩
theorem ok_114 : FnOk Pg 114 := ⟨⟨_, Tryz.func114, by kernel_rfl, rfl⟩⟩
theorem ok_13 : FnOk Pg 13 := ⟨⟨_, Tryz.func13, by kernel_rfl, rfl⟩⟩
theorem ok_15 : FnOk Pg 15 := ⟨⟨_, Tryz.func15, by kernel_rfl, rfl⟩⟩
theorem ok_44 : FnOk Pg 44 := ⟨⟨_, Tryz.func44, by kernel_rfl, rfl⟩⟩
theorem ok_45 : FnOk Pg 45 := ⟨⟨_, Tryz.func45, by kernel_rfl, rfl⟩⟩
theorem ok_46 : FnOk Pg 46 := ⟨⟨_, Tryz.func46, by kernel_rfl, rfl⟩⟩
theorem ok_48 : FnOk Pg 48 := ⟨⟨_, Tryz.func48, by kernel_rfl, rfl⟩⟩
theorem ok_49 : FnOk Pg 49 := ⟨⟨_, Tryz.func49, by kernel_rfl, rfl⟩⟩
theorem ok_50 : FnOk Pg 50 := ⟨⟨_, Tryz.func50, by kernel_rfl, rfl⟩⟩
theorem ok_51 : FnOk Pg 51 := ⟨⟨_, Tryz.func51, by kernel_rfl, rfl⟩⟩
theorem ok_52 : FnOk Pg 52 := ⟨⟨_, Tryz.func52, by kernel_rfl, rfl⟩⟩
theorem slt_105 : SliceTy Tryz.prog 105 103 1 := ⟨Tryz.underlying105, by kernel_rfl⟩
theorem zero_45 : ZeroOf Tryz.prog 45 [.slice none 0 0] := ZeroOf.mk (by kernel_rfl)
end Go.Proofs.YtmpoffijcfaalaaGreat
namespace Go.Proofs.YtmpoffijcfaalaaGreat
open Go.Eng Go.YtmpoffijcfaalaaGreat
section
variable (v : TScene) (v_0 v_1 v_2 v_3 v_4 : Value) (S : TState) (s_0 s_1 s_2 s_3 s_4 s_5 : Value)
theorem shards_c (g : Int) (h_g : InI g) : FnV Pg 44 [.int .i64 g] [] (.bool (okGroup g)) := by
 refine Fnc.proof Tryz.func44 G 9 G G fun X w => ?_
 obtain ⟨h_g1, h_g2⟩ := id h_g
 exact sa 1 G<|qg<|ru 3 G<|ja 5 3 [] [] G G G<|ru 1 G<|nl<|nx<|rt<|fR1 () G G (by rfl) G Sn
theorem mkmoves_c : Fnc Pg 49 [.agg (cScene v v_0 v_1 v_2 v_3 v_4).toArray, .agg (cState S s_0 s_1 s_2 s_3 s_4 s_5).toArray] [] [⟨v_0, v.fChart.fPlaces⟩, ⟨v_1, v.fChart.fMarks⟩, ⟨v_2, v.fStates⟩, ⟨v_3, v.fRights⟩, ⟨v_4, v.fAges⟩, ⟨s_0, S.fAccounts⟩, ⟨s_1, S.fMarks⟩, ⟨s_2, S.fWaits⟩, ⟨s_3, S.fDeals⟩, ⟨s_4, S.fEnds⟩, ⟨s_5, S.fImage⟩] (fun (_ : Unit) u => isCl 104 u) (fun _ u => [bl (fb1 u) 32 (cScene v v_0 v_1 v_2 v_3 v_4), bl (fb2 u) 55 (cState S s_0 s_1 s_2 s_3 s_4 s_5)]) (fun _ _ => []) := by
 exact Fnc.proof Tryz.func49 G 6 G G fun X w => qg<|bx G G G fun b2 => bx G G G fun b3 => ru 1 G<|nl<|nx<|qg<|mf (xs := [.tmp 2, .tmp 3]) G G<|ru 1 G<|nl<|nx<|rt<|mtQ 1 G<|fR1 () G G G G Sn
theorem mkdeals_c : Fnc Pg 50 [.agg (cScene v v_0 v_1 v_2 v_3 v_4).toArray, .agg (cState S s_0 s_1 s_2 s_3 s_4 s_5).toArray] [] [⟨v_0, v.fChart.fPlaces⟩, ⟨v_1, v.fChart.fMarks⟩, ⟨v_2, v.fStates⟩, ⟨v_3, v.fRights⟩, ⟨v_4, v.fAges⟩, ⟨s_0, S.fAccounts⟩, ⟨s_1, S.fMarks⟩, ⟨s_2, S.fWaits⟩, ⟨s_3, S.fDeals⟩, ⟨s_4, S.fEnds⟩, ⟨s_5, S.fImage⟩] (fun (_ : Unit) u => isCl 109 u) (fun _ u => [bl (fb1 u) 55 (cState S s_0 s_1 s_2 s_3 s_4 s_5), bl (fb2 u) 32 (cScene v v_0 v_1 v_2 v_3 v_4)]) (fun _ _ => []) := by
 exact Fnc.proof Tryz.func50 G 6 G G fun X w => qg<|bx G G G fun b2 => bx G G G fun b3 => ru 1 G<|nl<|nx<|qg<|mf (xs := [.tmp 3, .tmp 2]) G G<|ru 1 G<|nl<|nx<|rt<|fR1 () G G G G Sn
theorem mksides_c : Fnc Pg 51 [.agg (cScene v v_0 v_1 v_2 v_3 v_4).toArray, .agg (cState S s_0 s_1 s_2 s_3 s_4 s_5).toArray] [] [⟨v_0, v.fChart.fPlaces⟩, ⟨v_1, v.fChart.fMarks⟩, ⟨v_2, v.fStates⟩, ⟨v_3, v.fRights⟩, ⟨v_4, v.fAges⟩, ⟨s_0, S.fAccounts⟩, ⟨s_1, S.fMarks⟩, ⟨s_2, S.fWaits⟩, ⟨s_3, S.fDeals⟩, ⟨s_4, S.fEnds⟩, ⟨s_5, S.fImage⟩] (fun (_ : Unit) u => isCl 111 u) (fun _ u => [bl (fb1 u) 32 (cScene v v_0 v_1 v_2 v_3 v_4), bl (fb2 u) 55 (cState S s_0 s_1 s_2 s_3 s_4 s_5)]) (fun _ _ => []) := by
 exact Fnc.proof Tryz.func51 G 6 G G fun X w => qg<|bx G G G fun b2 => bx G G G fun b3 => ru 1 G<|nl<|nx<|qg<|mf (xs := [.tmp 2, .tmp 3]) G G<|ru 1 G<|nl<|nx<|rt<|mtQ 1 G<|fR1 () G G G G Sn
theorem mklate_c : Fnc Pg 52 [.agg (cScene v v_0 v_1 v_2 v_3 v_4).toArray, .agg (cState S s_0 s_1 s_2 s_3 s_4 s_5).toArray] [] [⟨v_0, v.fChart.fPlaces⟩, ⟨v_1, v.fChart.fMarks⟩, ⟨v_2, v.fStates⟩, ⟨v_3, v.fRights⟩, ⟨v_4, v.fAges⟩, ⟨s_0, S.fAccounts⟩, ⟨s_1, S.fMarks⟩, ⟨s_2, S.fWaits⟩, ⟨s_3, S.fDeals⟩, ⟨s_4, S.fEnds⟩, ⟨s_5, S.fImage⟩] (fun (_ : Unit) u => isCl 114 u) (fun _ u => [bl (fb1 u) 55 (cState S s_0 s_1 s_2 s_3 s_4 s_5), bl (fb2 u) 32 (cScene v v_0 v_1 v_2 v_3 v_4)]) (fun _ _ => []) := by
 exact Fnc.proof Tryz.func52 G 6 G G fun X w => qg<|bx G G G fun b2 => bx G G G fun b3 => ru 1 G<|nl<|nx<|qg<|mf (xs := [.tmp 3, .tmp 2]) G G<|ru 1 G<|nl<|nx<|rt<|fR1 () G G G G Sn
end
end Go.Proofs.YtmpoffijcfaalaaGreat
namespace Go.Proofs.YtmpoffijcfaalaaGreat
open Go.Eng
theorem app_25 : AppTy Tryz.prog 25 122 7 56 := AppTy.mk Tryz.underlying25 (by kernel_rfl) (by decide)
theorem app_50 : AppTy Tryz.prog 50 70 10 104 := AppTy.mk Tryz.underlying50 (by kernel_rfl) (by decide)
theorem app_51 : AppTy Tryz.prog 51 108 11 104 := AppTy.mk Tryz.underlying51 (by kernel_rfl) (by decide)
theorem app_52 : AppTy Tryz.prog 52 126 8 80 := AppTy.mk Tryz.underlying52 (by kernel_rfl) (by decide)
theorem app_53 : AppTy Tryz.prog 53 129 2 16 := AppTy.mk Tryz.underlying53 (by kernel_rfl) (by decide)
theorem app_66 : AppTy Tryz.prog 66 165 4 32 := AppTy.mk Tryz.underlying66 (by kernel_rfl) (by decide)
theorem ok_100 : FnOk Pg 100 := ⟨⟨_, Tryz.func100, by kernel_rfl, rfl⟩⟩
theorem ok_107 : FnOk Pg 107 := ⟨⟨_, Tryz.func107, by kernel_rfl, rfl⟩⟩
theorem ok_144 : FnOk Pg 144 := ⟨⟨_, Tryz.func144, by kernel_rfl, rfl⟩⟩
end Go.Proofs.YtmpoffijcfaalaaGreat
namespace Go.Proofs.YtmpoffijcfaalaaGreat
open Go.Eng Go.YtmpoffijcfaalaaGreat
theorem eq_Right : EqTy Tryz.prog 59 cRight := by
 refine ⟨by kernel_rfl, fun a b w => ?_⟩
 rw [run_equalIn_struct w 9999 59 _ _ (by simp only [Program.fieldsOf, Tryz.underlying59]) (by kernel_rfl)]
 simp only [Program.fieldsOf, Tryz.underlying59]
 refine Eq.trans (eqG G Tryz.underlying3 G G G (eqFi Tryz.underlying3 _ _) (fun w => eqG G Tryz.underlying9 G G G (eqFs Tryz.underlying9 _ _) (fun w => eqG G Tryz.underlying3 G G G (eqFi Tryz.underlying3 _ _) (fun w => eqG G Tryz.underlying3 G G G (eqFi Tryz.underlying3 _ _) (fun w => eqF0 w))))) ?_
 congr 1
 obtain ⟨a0, a1, a2, a3⟩ := a
 obtain ⟨b0, b1, b2, b3⟩ := b
 simp [TRight.mk.injEq]
theorem net_c (v_l : Value) (l : List TRight) (gr : Int) (key : ByteArray) (n : Int) : FnV Pg 100 [v_l, .int .i64 gr, .string key, .int .i64 n] [⟨v_l, l⟩] (.int .i64 (netP l gr key n)) := by
 refine Fnc.proof Tryz.func100 G 31 G G fun X w => sa 1 G<|sq<|qg<|mv G G<|cfv (lcheck_c _ _) ok_59 G (Sc 0 G Sn) G<|ru 1 G<|nl<|nx<|cdN G (fun h13 => ?_) (fun h13 => ?_)
 · exact sa 1 G<|rt<|tR<|fR1 () G G (by rw [netP, if_pos h13]) G Sn
 ·
  refine sk<|nx<|sq<|qg<|mv G G<|lnP 0 G G Tryz.underlying29 G fun l15 => mv G G<|nl<|nx<|bk<|lpC (σ := Nat) [(1, _), (2, _), (3, _), (14, _), (15, _)] _ (fun i C => (16, .int .i64 (i : Int)) :: C) (fun i => i ≤ l.length ∧ (∀ j, j < i → decide (l.getD j default = (⟨gr, key, n, (l.getD j default).fNet⟩ : TRight)) = false)) (fun i => l.length - i) 0 (Gs G) (Sc 0 G Sn) ⟨Nat.zero_le _, fun j hj => absurd hj (Nat.not_lt_zero j)⟩ (Gs G) ?_
  rintro i ⟨hi, hall⟩
  refine sa 1 G<|sq<|cdP G (fun h17 => ?_) (fun h17 => ?_)
  ·
   refine sk<|nx<|sq<|bk<|qg<|ixP 0 G G G slt_29 (by omega) (gE (by omega)) G fun v18 => ldS 0 G G (Rg G) G fun q19 w19 => al zero_59 G fun b10 => stW 0 (us := (cRight ((l.getD i default)))) G G G (Rg G) G G<|nl<|nx<|qg<|ldM 0 (cRight ((l.getD i default))) G G (Rg G) G G<|rl 5 [0] G G<|bd (ps := [(0, .tmp 21), (1, .tmp 22), (2, .tmp 23), (3, .tmp 25)]) (cs := (cRight ((⟨gr, key, n, (l.getD i default).fNet⟩ : TRight)))) (by rfl) (by kernel_rfl) G<|eqT eq_Right ((l.getD i default)) ((⟨gr, key, n, (l.getD i default).fNet⟩ : TRight)) G G G<|nl<|nx<|cdP G (fun h27 => ?_) (fun h27 => ?_)
   · exact sb 3 [0] G G<|rt<|bR<|tR<|tR<|bR<|tR<|dpQ<|fR1 () G G (by rw [netP, if_neg (not_not_intro h13), firstI_some (j := i) (by omega) hall (decide_eq_true h27)]; try rfl) G Sn
   ·
    refine sk<|bN<|nx<|rg<|adI G G (inI (by omega) (by omega)) G<|mv G G<|nl<|dpQ ?_
    exact ag (i + 1) ⟨(by omega), (all_snoc hall (decide_eq_false h27))⟩ (by omega) (Gs G) G (Sc 2 G Sn)
  · exact ex<|tE<|tE<|bE<|nx<|sa 1 G<|rt<|fR1 () G G (by rw [netP, if_neg (not_not_intro h13), firstI_none (fun k hk => hall k (by omega))]; try rfl) G Sn
end Go.Proofs.YtmpoffijcfaalaaGreat
namespace Go.Proofs.YtmpoffijcfaalaaGreat
open Go.Eng
theorem app_29 : AppTy Tryz.prog 29 59 4 40 := AppTy.mk Tryz.underlying29 (by kernel_rfl) (by decide)
theorem app_30 : AppTy Tryz.prog 30 62 3 24 := AppTy.mk Tryz.underlying30 (by kernel_rfl) (by decide)
theorem app_35 : AppTy Tryz.prog 35 5 1 1 := AppTy.mk Tryz.underlying35 (by kernel_rfl) (by decide)
theorem app_45 : AppTy Tryz.prog 45 37 25 256 := AppTy.mk Tryz.underlying45 (by kernel_rfl) (by decide)
theorem fdv_55_16 : FieldV Tryz.prog 55 16 28 := ⟨_, _, _, Tryz.underlying55, rfl, rfl, Tryz.underlying3, rfl⟩
theorem ok_105 : FnOk Pg 105 := ⟨⟨_, Tryz.func105, by kernel_rfl, rfl⟩⟩
theorem ok_112 : FnOk Pg 112 := ⟨⟨_, Tryz.func112, by kernel_rfl, rfl⟩⟩
theorem ok_141 : FnOk Pg 141 := ⟨⟨_, Tryz.func141, by kernel_rfl, rfl⟩⟩
theorem ok_170 : FnOk Pg 170 := ⟨⟨_, Tryz.func170, by kernel_rfl, rfl⟩⟩
theorem ok_174 : FnOk Pg 174 := ⟨⟨_, Tryz.func174, by kernel_rfl, rfl⟩⟩
theorem ok_175 : FnOk Pg 175 := ⟨⟨_, Tryz.func175, by kernel_rfl, rfl⟩⟩
theorem ok_176 : FnOk Pg 176 := ⟨⟨_, Tryz.func176, by kernel_rfl, rfl⟩⟩
theorem ok_232 : FnOk Pg 232 := ⟨⟨_, Tryz.func232, by kernel_rfl, rfl⟩⟩
theorem ok_233 : FnOk Pg 233 := ⟨⟨_, Tryz.func233, by kernel_rfl, rfl⟩⟩
theorem ok_234 : FnOk Pg 234 := ⟨⟨_, Tryz.func234, by kernel_rfl, rfl⟩⟩
theorem ok_235 : FnOk Pg 235 := ⟨⟨_, Tryz.func235, by kernel_rfl, rfl⟩⟩
theorem ok_281 : FnOk Pg 281 := ⟨⟨_, Tryz.func281, by kernel_rfl, rfl⟩⟩
theorem ok_282 : FnOk Pg 282 := ⟨⟨_, Tryz.func282, by kernel_rfl, rfl⟩⟩
theorem ok_283 : FnOk Pg 283 := ⟨⟨_, Tryz.func283, by kernel_rfl, rfl⟩⟩
theorem ok_42 : FnOk Pg 42 := ⟨⟨_, Tryz.func42, by kernel_rfl, rfl⟩⟩
theorem ok_43 : FnOk Pg 43 := ⟨⟨_, Tryz.func43, by kernel_rfl, rfl⟩⟩
theorem ok_63 : FnOk Pg 63 := ⟨⟨_, Tryz.func63, by kernel_rfl, rfl⟩⟩
theorem ok_64 : FnOk Pg 64 := ⟨⟨_, Tryz.func64, by kernel_rfl, rfl⟩⟩
theorem ok_65 : FnOk Pg 65 := ⟨⟨_, Tryz.func65, by kernel_rfl, rfl⟩⟩
theorem ok_66 : FnOk Pg 66 := ⟨⟨_, Tryz.func66, by kernel_rfl, rfl⟩⟩
theorem ok_67 : FnOk Pg 67 := ⟨⟨_, Tryz.func67, by kernel_rfl, rfl⟩⟩
theorem ok_68 : FnOk Pg 68 := ⟨⟨_, Tryz.func68, by kernel_rfl, rfl⟩⟩
theorem ok_69 : FnOk Pg 69 := ⟨⟨_, Tryz.func69, by kernel_rfl, rfl⟩⟩
theorem ok_96 : FnOk Pg 96 := ⟨⟨_, Tryz.func96, by kernel_rfl, rfl⟩⟩
theorem ok_99 : FnOk Pg 99 := ⟨⟨_, Tryz.func99, by kernel_rfl, rfl⟩⟩
theorem slt_30 : SliceTy Tryz.prog 30 62 3 := ⟨Tryz.underlying30, by kernel_rfl⟩
theorem slt_45 : SliceTy Tryz.prog 45 37 25 := ⟨Tryz.underlying45, by kernel_rfl⟩
theorem zero_62 : ZeroOf Tryz.prog 62 [.int .i64 0, .int .i64 0, .int .i64 0] := ZeroOf.mk (by kernel_rfl)
end Go.Proofs.YtmpoffijcfaalaaGreat
namespace Go.Eng
open Go.RowKit
section
section
variable {ds : List Deferred} {c : Cx} {x y : Code} {Q Q' : Exit → Act → World → Prop} {env : Env} {L : Own} {D : List Atom} {ops : Array Oper}
theorem mtQD {e : Exit} (i : Nat) {q : OwnE} (hi : L[i]? = some q) (k : WQD ds c Q e env (q :: L.eraseIdx i) D) : WQD ds c Q e env L D :=
 fun a w f st dh => k a w f (st.perm (erase_perm hi)) (dh.perm (erase_perm hi))
theorem mtCD (i : Nat) {q : OwnE} (hi : L[i]? = some q) (k : WCD ds c x Q env (q :: L.eraseIdx i) D) : WCD ds c x Q env L D :=
 fun a w f st dh => k a w f (st.perm (erase_perm hi)) (dh.perm (erase_perm hi))
theorem frRQD {α : Type} {r : Rep α} {ee : Exit} {e : TypeId} {sv : Value} {xs : List α} (k : WQD ds c Q ee env L ((@Atom.mk (List α) (@repList α r) sv xs) :: D)) : WQD ds c Q ee env (@row α r e sv xs :: L) D :=
 fun a w f st dh => k a w f st.drop (DH.cons (st.freeze fun _ hb hS h => row_list h hS hb) dh.drop)
theorem rwCD (α : Type) [Rep α] (e : TypeId) (k : WCD ds c x Q env (row e (.slice none 0 0) ([] : List α) :: L) D) : WCD ds c x Q env L D := by
 intro a w f st dh
 refine k a w f (st.push (p := row e (.slice none 0 0) ([] : List α)) (Stp.refl _ _) ⟨[], World.ownsRow_nil _ _ _ _, trivial, by simp⟩ (by simp [Value.ownBlock]) (by simp [Value.ownBlock])) (dh.push (Stp.refl _ _) (by simp [Value.ownBlock]))
end
section
variable {P : Program} {fn : Func} {x : Code} {f : FuncId} {args : List Value} {As : List Atom} {n m : Nat} {env : Env} {L : Own} {D : List Atom} {X : List Nat} {w0 : World} {β : Type} {R : β → Value → Prop} {out : β → Value → List Atom}
abbrev PostG (m : Nat) (P : Program) (fn : Func) (X : List Nat) (w : World) {β : Type} (R : β → Value → Prop) (out : β → Value → List Atom) : Exit → Act → World → Prop :=
 bodyPostM Fence.wide m P fn fun e w' => ∃ v, e = .returned v ∧ FnPost X w [] R (fun _ _ => []) out v w'
theorem Fnc.proofZ (m : Nat) (hf : P.funcs[f]? = some fn) (hb : fn.body = some x) (n : Nat) (hn : n = fn.ntmps) (hargs : Nat.ble args.length n = true)
 (h : ∀ X w, WC ⟨P, n, w, [] ++ X⟩ x (PostG m P fn X w R out) (ent 0 args) ([] ++ [fz X w]) As) : Fnc P f args [] As R (fun _ _ => []) out := by
 intro X w hnd hx h0 hA
 have hbs : Own.bs ([] ++ [fz X w]) = X := by simp [Own.bs, bsOf]
 refine enterM m ([] ++ X) ([] ++ [fz X w]) As hf hb n hn (Nat.le_of_ble_eq_true hargs) ⟨Stp.refl _ _, ?_, ?_, ?_⟩ ?_ (h X w)
 · intro p hp
   have : p = fz X w := by simpa using hp
   subst this
   exact ⟨fun _ _ => rfl, hx⟩
 · rw [hbs]; exact hnd
 · rw [hbs]; exact fun b hb => .inl hb
 · intro t ht
   rw [hbs]
   exact hA t ht
end
end
section
theorem Fr.round1 {n : Nat} {a : Act} {env : Env} (f : Fr n a env) {p : Nat} (hp : p < n) (u : Value) :
 Fr n { tmps := ((#[p] : Array Tmp).zip #[u]).foldl (fun t (p, v) => t.setIfInBounds p v) a.tmps, defers := [] } ((p, u) :: env) := by
 have h := f.put (d := p) u hp
 have e : (a.put (some p) u) = { tmps := a.tmps.setIfInBounds p u, defers := [] } := by
  simp [Act.put, f.dn]
 rw [e] at h
 simpa using h
section
variable {α : Type} [Inhabited α] {lt : α → α → Bool} {P : List α → Prop} (hP : ∀ ys i j, P ys → P (swapL ys i j))
include hP
end
end
section
theorem stp_putObj (w : World) (l : Nat) (o : Obj) : Stp [l] w (w.putObj l o) := ⟨rfl, rfl, rfl, by simp [World.putObj], fun _ _ hx => World.putObj_heap_other (by simpa using hx)⟩
@[reducible] def lpk (l d : Nat) (r : Loop) : OwnE where
 bs := [l, d]
 holds _ w := w.heap[l]? = some (.loop r) ∧ w.heap[d]? = some (.deferred (some []))
 valid h b hb := by
  simp only [List.mem_cons, List.not_mem_nil, or_false] at hb
  rcases hb with rfl | rfl
  · exact lt_of_heap h.1
  · exact lt_of_heap h.2
 keep h _ hw := ⟨(hw _ (.inr (by simp))).trans h.1, (hw _ (.inr (by simp))).trans h.2⟩
def YRet (P : Program) (l : Nat) (args : List Value) (w : World) (Φ : Value → World → Prop) : Prop :=
 ∃ fn tmps assign body, (Instr.yield l args.toArray).run P w = .ok (.round l fn tmps assign body) w ∧ ∀ n, RoundIn Fence.wide n P l fn tmps assign body w fun e w' => ∃ v, e = .returned v ∧ Φ v w'
def FncT (T : World → (Value → World → Prop) → Prop) (L0 : Own) (As : List Atom) {β : Type} (R : β → Value → Prop) (L1 : β → Value → Own) (out : β → Value → List Atom) : Prop :=
 ∀ (X : List Nat) (w : World), (L0.bs ++ X).Nodup → (∀ b ∈ X, b < w.heap.size) → (∀ p ∈ L0, p.holds (Sf (L0.bs ++ X) w) w) → (∀ t ∈ As, t.holds (Sf (L0.bs ++ X) w) w) → T w (FnPost X w L0 R L1 out)
def FncY (P : Program) (l : Nat) (args : List Value) (L0 : Own) (As : List Atom) {β : Type} (R : β → Value → Prop) (L1 : β → Value → Own) (out : β → Value → List Atom) : Prop := FncT (YRet P l args) L0 As R L1 out
theorem cgY {c : Cx} {D : List Atom} {L0 Lr : Own} {l : Nat} {us : List Value} {As : List Atom} {β : Type} {R : β → Value → Prop} {L1 : β → Value → Own} {out : β → Value → List Atom} (h : FncY c.P l us L0 As R L1 out) (hA : SubD As D) {w : World} (st : St c.w0 c.M w (L0 ++ Lr)) (dh : DH D w (L0 ++ Lr)) :
 YRet c.P l us w fun v w' => ∃ y, R y v ∧ St c.w0 c.M w' (L1 y v ++ Lr) ∧ DH (out y v ++ D) w' (L1 y v ++ Lr) := by
 have hbs : ∀ A : Own, Own.bs (A ++ Lr) = A.bs ++ Lr.bs := fun A => by simp [Own.bs, bsOf_append]
 have hnd := st.nd
 rw [hbs] at hnd
 have hlt : ∀ b, b ∈ L0.bs ∨ b ∈ Lr.bs → b < w.heap.size := fun b hb => st.lt b (by rw [hbs]; exact List.mem_append.2 hb)
 obtain ⟨fn, tmps, assign, body, h1, h2⟩ := h Lr.bs w hnd (fun b hb => hlt b (.inr hb)) (fun q hq => by
  have := st.own q (List.mem_append.2 (.inl hq))
  rwa [hbs] at this) (fun t ht => by
  have := dh t (hA t ht)
  rwa [hbs] at this)
 refine ⟨fn, tmps, assign, body, h1, fun n => (h2 n).mono ?_⟩
 rintro e w' ⟨v, rfl, hs, y, hR, hL, hn, hb, ho⟩
 refine ⟨v, rfl, ?_⟩
 have hmem : ∀ b, b ∈ Own.bs (L1 y v ++ Lr) → b ∈ Own.bs (L0 ++ Lr) ∨ w.heap.size ≤ b := by
  intro b hx
  rw [hbs] at hx ⊢
  rcases List.mem_append.1 hx with hx | hx
  · exact (hb b hx).imp (fun h => List.mem_append.2 (.inl h)) id
  · exact .inl (List.mem_append.2 (.inr hx))
 have hsub : ∀ b, Sf (Own.bs (L0 ++ Lr)) w b → Sf (Own.bs (L1 y v ++ Lr)) w' b := fun b hx => ⟨Nat.lt_of_lt_of_le hx.1 hs.size, fun hy => by
  rcases hmem b hy with h1 | h1
  · exact hx.2 h1
  · have := hx.1; omega⟩
 have hdis := List.nodup_append.1 hnd
 refine ⟨y, hR, ⟨st.stp.trans_new hs (fun b hx => st.new b (by rw [hbs]; exact List.mem_append.2 (.inl hx))), ?_, ?_, ?_⟩, DH.app (fun t ht => ?_) (dh.turn (hs.mono fun b hx => by rw [hbs]; exact List.mem_append.2 (.inl hx)) hmem)⟩
 · intro q hq
   rcases List.mem_append.1 hq with hq | hq
   · rw [hbs]; exact hL q hq
   · refine q.keep (st.own q (List.mem_append.2 (.inr hq))) hsub (fun b hx => hs.block b ?_ ?_)
     · rcases hx with hx | hx
       · exact hx.1
       · exact hlt b (.inr (mem_bsOf.2 ⟨q, hq, hx⟩))
     · rcases hx with hx | hx
       · exact fun hy => hx.2 (by rw [hbs]; exact List.mem_append.2 (.inl hy))
       · exact fun hy => hdis.2.2 b hy b (mem_bsOf.2 ⟨q, hq, hx⟩) rfl
 · rw [hbs, List.nodup_append]
   refine ⟨hn, hdis.2.1, fun a ha b hb' e => ?_⟩
   subst e
   rcases hb a ha with h1 | h1
   · exact hdis.2.2 a h1 a hb' rfl
   · have := hlt a (.inr hb'); omega
 · intro b hx
   rcases hmem b hx with h1 | h1
   · exact st.new b h1
   · exact .inr (Nat.le_trans st.stp.size h1)
 · rw [hbs]; exact ho t ht
def WLI (m : Nat) (Q : Exit → Act → World → Prop) (c : Cx) (ops : Array Oper) (l : List Oper) (env : Env) (L : Own) (D : List Atom) : Prop :=
 ∀ a w, Fr c.n a env → St c.w0 c.M w L → DH D w L → wpListIn Fence.wide m c.P ops Q l a w
instance isJ_WLI (m : Nat) (Q : Exit → Act → World → Prop) : IsJ (WLI m Q) where
 read := by
  intro c ops env L D rest o dst σ hg hd env' D' hrun k a w f st dh
  obtain ⟨s, u, hr, f', dh'⟩ := hrun a w f st dh
  refine listIn_plain hg ⟨fun _ _ => trivial, ?_⟩
  have hs : Oper.semAt Fence.wide.round a.eval o = execOp a.eval o := rfl
  rw [hs, hr w (Stp.refl _ _)]
  simp only [Oper.uponIn, hd]
  exact k s _ _ f' st dh'
 wantY := by
  intro c ops env L D rest dst op t p af g hw k a w f st dh
  have := k a w f st dh
  unfold wpListIn at this ⊢
  rw [if_pos (hw a w f st dh)]
  rw [if_pos (show Region.wanted ⟨dst, op, t, p, af, none⟩ (yielded ops a.tmps) = true from rfl)] at this
  exact this
 wantN := by
  intro c ops env env' L D rest o hw k a w f st dh
  obtain ⟨h1, h2⟩ := hw a w f st dh
  unfold wpListIn
  rw [h1]
  simp only [Bool.false_eq_true, if_false]
  exact ⟨fun _ _ => trivial, k _ _ h2 st dh⟩
 mono := by
  intro c ops env env' L D D' l h k a w f st dh
  obtain ⟨h1, h2⟩ := h a w f st dh
  exact k a w h1 st h2
 fact := by
  intro c ops env L D l q h k a w f st dh
  exact k (h a w f st dh) a w f st dh
section
variable {m : Nat} {c : Cx} {ops : Array Oper} {Q : Exit → Act → World → Prop} {env : Env} {L : Own} {D : List Atom} {rest : List Oper} {d : Nat} {t : TypeId} {p : String} {af : Array Edge}
theorem rgI {id : Nat} {l : List Oper} (h : WLI 0 Q c l.toArray l env L D) : WC c (.region id l.toArray false) Q env L D := fun a w f s d => (wpIn_wide (n := 0)).1 (wpIn_region_lit (h a w f s d))
theorem hdI (hd : List Oper) {tl : List Oper} {l : List Oper} (hl : l = hd ++ tl) (h : WL (fun e a w => e = .normal ∧ wpListIn Fence.wide m c.P ops Q tl a w) c ops hd env L D) : WLI m Q c ops l env L D := by
 subst hl
 exact fun a w f s d => listIn_head hd a w (h a w f s d)
theorem nlI (h : WLI m Q c ops rest env L D) : WL (fun e a w => e = .normal ∧ wpListIn Fence.wide m c.P ops Q rest a w) c ops [] env L D := fun a w f s d => wpList_nil ⟨rfl, h a w f s d⟩
theorem eI (h : WQ c Q .normal env L D) : WLI m Q c ops [] env L D := fun a w f s d => wpListIn_nil (h a w f s d)
theorem yfI {L0 Lr : Own} {l : Nat} {vs : List Value} {As : List Atom} {β : Type} {R : β → Value → Prop} {L1 : β → Value → Own} {out : β → Value → List Atom} {x : Operand} {xs : List Operand} {ats : Array TypeId}
 (hx : ev env x = some (.func (.yield l) #[] #[])) (hxs : evs env xs = some vs) (h : FncY c.P l vs L0 As R L1 out) (hL : L = L0 ++ Lr) (hA : SubD As D) (hn : Nat.blt d c.n = true) (k : ∀ y v, R y v → WLI m Q c ops rest ((d, v) :: env) (L1 y v ++ Lr) (out y v ++ D)) :
 WLI m Q c ops (⟨some d, .call { callee := .value x, args := xs.toArray, argTypes := ats }, t, p, af, none⟩ :: rest) env L D := by
 subst hL
 intro a w f st dh
 obtain ⟨fn, tmps, assign, body, hy, hR⟩ := cgY h hA st dh
 refine listIn_plain rfl (round_in rfl rfl (fun _ => trivial) (run_round rfl (f.ev hx) (f.evs hxs) hy) ((hR _).mono ?_))
 rintro e w' ⟨v, rfl, y, hy', st', dh'⟩
 exact ⟨v, rfl, k y v hy' _ _ (f.put v (lt_blt hn)) st' dh'⟩
end
section
variable {P : Program} {n : Nat} {l dd : Nat} {r : Loop} {X : List Nat} {w0 : World} {L0 : Own} {β : Type} {R : β → Value → Prop} {L1 : β → Value → Own} {out : β → Value → List Atom} {env : Env} {L : Own} {D : List Atom} {ops opsB : List Oper} {M : List Nat}
abbrev QB (X : List Nat) (w0 : World) (L0 : Own) (l : Nat) (r : Loop) {β : Type} (R : β → Value → Prop) (L1 : β → Value → Own) (out : β → Value → List Atom) : Exit → Act → World → Prop := fun e _ w => e = .normal ∧ w.heap[l]? = some (.loop { r with state := .busy }) ∧ FnPost X w0 L0 R L1 out (.bool true) (w.putObj l (.loop r))
abbrev QA (P : Program) (X : List Nat) (w0 : World) (L0 : Own) (l : Nat) (r : Loop) {β : Type} (R : β → Value → Prop) (L1 : β → Value → Own) (out : β → Value → List Atom) : Exit → Act → World → Prop := fun e a w => e = .normal ∧ w.heap[l]? = some (.loop r) ∧ ∀ m, r.body.wpIn (Fence.wide.inRound l) m P (QB X w0 L0 l r R L1 out) a (w.putObj l (.loop { r with state := .busy }))
theorem put_lpk {M : List Nat} {r' : Loop} {w : World} (i : Nat) (hi : L[i]? = some (lpk l dd r)) (st : St w0 M w L) (dh : DH D w L) : St w0 M (w.putObj l (.loop r')) (L.set i (lpk l dd r')) ∧ DH D (w.putObj l (.loop r')) (L.set i (lpk l dd r')) := by
 have h := st.own _ (List.mem_of_getElem? hi)
 have hld : l ≠ dd := fun e => by
  have := h.1.symm.trans (e ▸ h.2)
  cases this
 have hs : Stp [l, dd] w (w.putObj l (.loop r')) := (stp_putObj w l _).mono (by simp)
 have hm : ∀ b ∈ (lpk l dd r).bs, b ∈ L.bs := fun b hb => mem_bsOf.2 ⟨_, List.mem_of_getElem? hi, hb⟩
 refine ⟨st.upd (p' := lpk l dd r') i hi hs ⟨World.putObj_heap_same (lt_of_heap h.1), (World.putObj_heap_other (Ne.symm hld)).trans h.2⟩ (by simp [hld]) (fun b hb => .inl hb), dh.turn (hs.mono hm) fun b hb => .inl ?_⟩
 rcases bs_set hi b hb with h | h
 · exact hm b h
 · exact h
theorem bgR {ib ic : Nat} {opsA : Array Oper} (i : Nat) (hi : L[i]? = some (lpk l dd r)) (hB : r.body = .block ib (.region ic opsB.toArray false)) (hd : opsB.all (fun o => match o.op with | .defer _ => false | _ => true) = true)
 (k : WL (QB X w0 L0 l r R L1 out) ⟨P, n, w0, M⟩ opsB.toArray opsB env (L.set i (lpk l dd { r with state := .busy })) D) : WL (QA P X w0 L0 l r R L1 out) ⟨P, n, w0, M⟩ opsA [] env L D := by
 intro a w f st dh
 obtain ⟨st', dh'⟩ := put_lpk (r' := { r with state := .busy }) i hi st dh
 refine wpList_nil ⟨rfl, (st.own _ (List.mem_of_getElem? hi)).1, fun m => ?_⟩
 refine (congrArg (fun x : Code => x.wpIn (Fence.wide.inRound l) m P (QB X w0 L0 l r R L1 out) a (w.putObj l (.loop { r with state := .busy }))) hB).mpr (wpIn_block (round_region (K := fun _ w => w.heap[l]? = some (.loop { r with state := .busy }) ∧ FnPost X w0 L0 R L1 out (.bool true) (w.putObj l (.loop r))) hd (fun _ _ h => ⟨rfl, h⟩) ?_))
 exact k a _ f st' dh'
theorem enR {opsA : Array Oper} (i : Nat) (y : β) (hi : L[i]? = some (lpk l dd { r with state := .busy })) (hR : R y (.bool true)) (hL : L.set i (lpk l dd r) = L1 y (.bool true) ++ [fz X w0]) (hD : SubD (out y (.bool true)) D) :
 WL (QB X w0 L0 l r R L1 out) ⟨P, n, w0, L0.bs ++ X⟩ opsA [] env L D := by
 intro a w f st dh
 obtain ⟨st', dh'⟩ := put_lpk (r' := r) i hi st dh
 refine wpList_nil ⟨rfl, (st.own _ (List.mem_of_getElem? hi)).1, ?_⟩
 rw [hL] at st' dh'
 exact Fnc.post y hR rfl hD st' dh' (new_of st')
theorem lpk_dk {M : List Nat} {w : World} (st : St w0 M w (lpk l dd r :: L)) (dh : DH D w (lpk l dd r :: L)) : St w0 M w (dk dd :: L) ∧ DH D w (dk dd :: L) := by
 have hb : ∀ b, b ∈ Own.bs (dk dd :: L) → b ∈ Own.bs (lpk l dd r :: L) := fun b hb => by
  simp only [Own.bs, bsOf, List.mem_append, List.mem_cons, List.not_mem_nil, or_false] at hb ⊢
  rcases hb with hb | hb
  · exact .inl (.inr hb)
  · exact .inr hb
 have hS : ∀ b, Sf (Own.bs (lpk l dd r :: L)) w b → Sf (Own.bs (dk dd :: L)) w b := fun b h => ⟨h.1, fun hx => h.2 (hb b hx)⟩
 refine ⟨⟨st.stp, fun q hq => ?_, ?_, fun b h => st.new b (hb b h)⟩, fun t ht => Atom.keep (dh t ht) hS (fun _ _ => rfl)⟩
 · rcases List.mem_cons.1 hq with rfl | hq
   · exact (st.own _ (List.mem_cons_self ..)).2
   · exact q.keep (st.own q (List.mem_cons_of_mem _ hq)) hS (fun _ _ => rfl)
 · exact (List.nodup_cons.1 (show (l :: (dd :: bsOf L)).Nodup from st.nd)).2
theorem FncY.proof {As : List Atom} {env0 : Env} {L0 : Own} {p ia : Nat} {u : Value} {opsA : List Oper} (hst : r.state = .ready) (hpe : r.pending = none) (hps : r.params = #[p]) (hA : r.assign = .region ia opsA.toArray false) (hd : opsA.all (fun o => match o.op with | .defer _ => false | _ => true) = true)
 (f0 : Fr n { tmps := r.tmps, defers := [] } env0) (hp : Nat.blt p n = true)
 (h : ∀ X w, WL (QA P X w (lpk l dd r :: L0) l r R L1 out) ⟨P, n, w, Own.bs (lpk l dd r :: L0) ++ X⟩ opsA.toArray opsA ((p, u) :: env0) ((lpk l dd r :: L0) ++ [fz X w]) As) : FncY P l [u] (lpk l dd r :: L0) As R L1 out := by
 intro X w hnd hx h0 hAs
 have hrec := (h0 _ (List.mem_cons_self ..)).1
 have hbs : Own.bs ((lpk l dd r :: L0) ++ [fz X w]) = Own.bs (lpk l dd r :: L0) ++ X := by simp [Own.bs, bsOf_append, bsOf]
 refine ⟨r.fn, _, r.assign, r.body, run_yield hrec (by simp [hps]), fun m => roundIn_of_wpIn trivial ?_⟩
 rw [hA, hps]
 refine round_region (K := fun a w' => w'.heap[l]? = some (.loop r) ∧ ∀ m, r.body.wpIn (Fence.wide.inRound l) m P (QB X w (lpk l dd r :: L0) l r R L1 out) a (w'.putObj l (.loop { r with state := .busy }))) hd (fun a w' hk => ⟨_, run_beginRound hk.1 hst, Code.wpIn_mono ?_ (hk.2 m)⟩) ?_
 · rintro e a3 w3 ⟨rfl, hl, hp⟩
   have := run_endRound (P := P) none hl
   refine ⟨_, _, this, .bool true, rfl, ?_⟩
   have e : ({ r with state := .ready, pending := none } : Loop) = r := by cases r; simp only at hst hpe; subst hst; subst hpe; rfl
   have e2 := congrArg (fun x => w3.putObj l (.loop x)) e
   exact e2 ▸ hp
 · refine h X w _ w (Fr.round1 f0 (lt_blt hp) u) ⟨Stp.refl _ _, ?_, ?_, ?_⟩ ?_
   · intro q hq
     rw [hbs]
     rcases List.mem_append.1 hq with hq | hq
     · exact h0 q hq
     · have : q = fz X w := by simpa using hq
       subst this
       exact ⟨fun _ _ => rfl, hx⟩
   · rw [hbs]; exact hnd
   · rw [hbs]; exact fun b hb => .inl hb
   · intro t ht
     rw [hbs]
     exact hAs t ht
end
section
variable {ds : List Deferred} {c : Cx} {Q : Exit → Act → World → Prop} {env : Env} {L : Own} {D : List Atom}
theorem rfY {g : Operand} {p : Tmp} {assign body : Code} {gf : Nat} {caps : List Value} {L0 Lr : Own} {As : List Atom} {β : Type} {R : β → Value → Prop} {L1 : β → Value → Own} {out : β → Value → List Atom}
 (hit : ∀ l dd r, r.state = .ready → r.pending = none → r.params = #[p] → r.assign = assign → r.body = body → Fr c.n { tmps := r.tmps, defers := [] } env → Fnc c.P gf (.func (.yield l) #[] #[] :: caps) (lpk l dd r :: L0) As R (fun y v => lpk l dd r :: L1 y v) out)
 (hok : FnOk c.P gf) (hg : ev env g = some (.func (.func gf) #[] caps.toArray)) (hL : L = L0 ++ Lr) (hA : SubD As D)
 (k : ∀ B y v, R y v → WQD (mk B :: ds) c Q .normal env (dk B :: L1 y v ++ Lr) (out y v ++ D)) : WCD ds c (.rangeFunc g #[p] assign body) Q env L D := by
 subst hL
 intro a w f st dh
 refine (wpIn_wide (n := 1)).1 (wpIn_rangeFunc fun fn _ => ?_)
 obtain ⟨r, hr⟩ : ∃ r : Loop, r = { state := .ready, pending := none, fn, tmps := a.tmps, params := #[p], assign, body, defers := w.heap.size } := ⟨_, rfl⟩
 obtain ⟨W1, hW⟩ : ∃ W1, W1 = (w.alloc (.deferred (some []))).alloc (.loop r) := ⟨_, rfl⟩
 have hs : Stp [] w W1 := hW ▸ (Stp.alloc [] w _).trans (Stp.alloc [] _ _)
 have hl : W1.heap[w.heap.size + 1]? = some (.loop r) := by
  have := World.alloc_heap_new (w.alloc (.deferred (some []))) (.loop r)
  rw [World.size_alloc] at this
  rwa [hW]
 have hk : W1.heap[w.heap.size]? = some (.deferred (some [])) := by
  rw [hW]
  exact (Below.heap_alloc _ _ _ (by simp)).trans (World.alloc_heap_new w _)
 have hb : ∀ b ∈ (lpk (w.heap.size + 1) w.heap.size r).bs, w.heap.size ≤ b := by simp
 have st1 := st.push (p := lpk (w.heap.size + 1) w.heap.size r) hs ⟨hl, hk⟩ (by simp) hb
 have dh1 := dh.push hs hb
 refine ⟨w.heap.size + 1, [mk w.heap.size], W1, { target := .fn (.func gf) caps.toArray, args := #[.func (.yield (w.heap.size + 1)) #[] #[]] }, W1, gf, (.func (.yield (w.heap.size + 1)) #[] #[] :: caps).toArray, W1, ?_, ?_, fun _ _ => trivial, ?_, (fun h => by cases h), ?_⟩
 · rw [hW, hr]
   exact run_enterLoop_outer _ _ _ _ _
 · have : Act.eval { a with defers := ds } g = _ := f.ev hg
   simp only [resolve, this]
   simp [go_sem]
 · simp [invoke, go_sem, run_callFunc hok]
 · refine callsIn_wide.2 (Calls.mono (cgP (L0 := lpk (w.heap.size + 1) w.heap.size r :: L0) (Lr := Lr) (hit _ _ r (by rw [hr]) (by rw [hr]) (by rw [hr]) (by rw [hr]) (by rw [hr]) ⟨by rw [hr]; exact f.size, rfl, fun i v hi => by rw [hr]; exact f.at_ i v hi⟩) hA _ st1 dh1) ?_)
   rintro e w' ⟨v, rfl, y, hy, st2, dh2⟩
   have hl2 := (st2.own (lpk (w.heap.size + 1) w.heap.size r) (by simp)).1
   have := run_endLoop (P := c.P) hl2 (by rw [hr]; simp)
   obtain ⟨st3, dh3⟩ := put_lpk (r' := { r with state := .exhausted }) 0 rfl st2 dh2
   obtain ⟨st4, dh4⟩ := lpk_dk st3 dh3
   exact ⟨_, _, this, by rw [hr]; exact k w.heap.size y v hy a _ f (by rw [hr] at st4; exact st4) (by rw [hr] at dh4; exact dh4)⟩
end
end
section
section
variable {c : Cx} {ops : Array Oper} {J : Cx → Array Oper → List Oper → Env → Own → List Atom → Prop} [iJ : IsJ J] {env : Env} {L : Own} {D : List Atom} {rest : List Oper} {d : Nat} {t : TypeId} {p : String} {af : Array Edge} {T : TypeId}
include iJ
theorem neBo {x y : Operand} {xt yt : TypeId} {b b' : Bool} (hu : c.P.underlying xt = some .bool) (hx : ev env x = some (.bool b)) (hy : ev env y = some (.bool b')) (hn : Nat.blt d c.n = true) (k : J c ops rest ((d, .bool (!decide (b = b'))) :: env) L D) :
 J c ops (⟨some d, .binOp .neq xt x y yt, t, p, af, none⟩ :: rest) env L D :=
 pu rfl rfl hn (fun a w f => by
  have h := run_eql_bool (P := c.P) w _ b b' hu
  simp [binOp] at h
  simp [execOp, f.ev hx, f.ev hy, eqGuard, binOp]
  generalize Sem.run c.P (Op.equal xt (.bool b) (.bool b')) w = r at h ⊢
  cases r with
  | ok v w' =>
   simp [Result.andThen] at h ⊢
   obtain ⟨rfl, rfl⟩ := h
   cases b <;> cases b' <;> simp
  | halt v w' => simp [Result.andThen] at h) k
theorem bdJ {ps : List (Nat × Operand)} {us : List Value} {cs : List Value} (hx : evs env (ps.map (·.2)) = some us) (hb : c.P.built T ((ps.map (·.1)).zip us) = some cs.toArray) (hn : Nat.blt d c.n = true) (k : J c ops rest ((d, .agg cs.toArray) :: env) L D) :
 J c ops (⟨some d, .build T ps.toArray, t, p, af, none⟩ :: rest) env L D :=
 pu rfl rfl hn (fun a w f => by
  have e := f.evs hx
  subst e
  have h2 : (ps.toArray.map fun (i, x) => (i, a.eval x)).toList = (ps.map (·.1)).zip ((ps.map (·.2)).map a.eval) := by
   simp only [List.map_toArray]
   clear hx hb
   induction ps with
   | nil => rfl
   | cons q r ih => simp only [List.map_cons, List.zip_cons_cons, ih]
  have := run_build (P := c.P) w T (ps.toArray.map fun (i, x) => (i, a.eval x)) cs.toArray (by rw [h2]; exact hb)
  simp only [execOp, Sem.run_bind, this, Result.andThen_ok, Sem.run_pure]) k
end
theorem eqFb {P : Program} {d : Nat} {T : TypeId} (hu : P.underlying T = some .bool) (a b : Bool) (w : World) : (Op.equalIn (d + 1) T (.bool a) (.bool b)).run P w = .ok (decide (a = b)) w := by
 rw [run_equalIn_bool w d T a b hu]
 cases a <;> cases b <;> rfl
end
end Go.Eng
