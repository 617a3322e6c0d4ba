/- Part 35 of the proof of dutyQuiet_holds: DutW16. Every text below begins with what it shows. -/
import Derived.Test.YtmpoffijcfaalaaGreatQu34

/- Walks, written by specs6.py. -/

namespace Go.Proofs.YtmpoffijcfaalaaGreat
open Go.Eng Go.YtmpoffijcfaalaaGreat
set_option maxHeartbeats 1000000

theorem sright19_c (s : TState) (s_0 s_1 s_2 s_3 s_4 s_5 : Value) (h_s : s.wf) : FnV Tryz.prog 62 [.agg (cState s s_0 s_1 s_2 s_3 s_4 s_5).toArray] [⟨s_0, s.fAccounts⟩, ⟨s_1, s.fMarks⟩, ⟨s_2, s.fWaits⟩, ⟨s_3, s.fDeals⟩, ⟨s_4, s.fEnds⟩, ⟨s_5, s.fImage⟩] (.bool (sright19 s)) := by
 refine Fnc.proof Tryz.func62 G 210 G G fun X w => sq<|rg<|bx G G G fun b1 => asg G G<|nl<|nx<|sq<|sq<|rg<|fa G fld_55_0 G<|ldB 0 G G one_3 G G<|cfv (group19_c _ h_s.1) ok_132 G Sn G<|nt G G ?_
 refine mv G G ?_
 apply jo [(1, _)] ⟨rfl, trivial⟩
 ·
  intro K16
  refine spO (i := 11) G (fun h11 => ?_) (fun h11 => ?_)
  ·
   exact gY G G G<|fa G fld_55_1 G<|gY G G G<|ldB 0 G G one_3 G G<|gY G G G<|cfv (number19_c _ h_s.2.1) ok_133 G Sn G<|gY G G G<|nt G G<|pkF G G G<|jR K16 h11 ⟨G, trivial⟩ Sr
  ·
   exact gS (g := [_, _, _, _]) G<|pkT G G G<|jR0 K16 h11 ⟨G, trivial⟩ Sr
 refine mv G G ?_
 apply jo [(1, _)] ⟨rfl, trivial⟩
 ·
  intro K22
  refine spO (i := 17) G (fun h17 => ?_) (fun h17 => ?_)
  ·
   exact gY G G G<|fa G fld_55_5 G<|gY G G G<|ldB 0 G G one_3 G G<|gY G G G<|cfv (number19_c _ h_s.2.2.2.2.2.1) ok_133 G Sn G<|gY G G G<|nt G G<|pkF G G G<|jR K22 h17 ⟨G, trivial⟩ Sr
  ·
   exact gS (g := [_, _, _, _]) G<|pkT G G G<|jR0 K22 h17 ⟨G, trivial⟩ Sr
 refine mv G G ?_
 apply jo [(1, _)] ⟨rfl, trivial⟩
 ·
  intro K28
  refine spO (i := 23) G (fun h23 => ?_) (fun h23 => ?_)
  ·
   exact gY G G G<|fa G fld_55_14 G<|gY G G G<|ldB 0 G G one_3 G G<|gY G G G<|cfv (number19_c _ h_s.2.2.2.2.2.2.2.2.2.2.2.2.2.2.1) ok_133 G Sn G<|gY G G G<|nt G G<|pkF G G G<|jR K28 h23 ⟨G, trivial⟩ Sr
  ·
   exact gS (g := [_, _, _, _]) G<|pkT G G G<|jR0 K28 h23 ⟨G, trivial⟩ Sr
 refine mv G G ?_
 apply jo [(1, _)] ⟨rfl, trivial⟩
 ·
  intro K34
  refine spO (i := 29) G (fun h29 => ?_) (fun h29 => ?_)
  ·
   exact gY G G G<|fa G fld_55_15 G<|gY G G G<|ldB 0 G G one_3 G G<|gY G G G<|cfv (number19_c _ h_s.2.2.2.2.2.2.2.2.2.2.2.2.2.2.2.1) ok_133 G Sn G<|gY G G G<|nt G G<|pkF G G G<|jR K34 h29 ⟨G, trivial⟩ Sr
  ·
   exact gS (g := [_, _, _, _]) G<|pkT G G G<|jR0 K34 h29 ⟨G, trivial⟩ Sr
 refine mv G G ?_
 apply jo [(1, _)] ⟨rfl, trivial⟩
 ·
  intro K40
  refine spO (i := 35) G (fun h35 => ?_) (fun h35 => ?_)
  ·
   exact gY G G G<|fa G fld_55_16 G<|gY G G G<|ldB 0 G G one_3 G G<|gY G G G<|cfv (number19_c _ h_s.2.2.2.2.2.2.2.2.2.2.2.2.2.2.2.2) ok_133 G Sn G<|gY G G G<|nt G G<|pkF G G G<|jR K40 h35 ⟨G, trivial⟩ Sr
  ·
   exact gS (g := [_, _, _, _]) G<|pkT G G G<|jR0 K40 h35 ⟨G, trivial⟩ Sr
 refine nl<|nx<|cdB G (fun h40 => ?_) (fun h40 => ?_)
 ·
  have e40 : (q19a s) = true := h40
  refine sq<|rg<|asg G G<|nl<|nx<|rt<|tR<|dpQ ?_
  exact fR1 () G G (by rw [sright19, if_pos e40]) G Sn
 ·
  have e40 : (q19a s) = false := h40
  refine sk<|nx<|sq<|sq<|rg<|fa G fld_55_2 G<|ldB 0 G G one_4 G G<|nt G G<|mv G G ?_
  apply jo [(1, _)] ⟨rfl, trivial⟩
  ·
   intro K71
   refine spA (i := 44) G (fun h44 => ?_) (fun h44 => ?_)
   ·
    refine gY G G G<|fa G fld_55_3 G<|gY G G G<|ldB 0 G G one_9 G G<|gY G G G<|neS G G G<|gY G G G<|mv G G ?_
    apply jo [(1, _), (44, _)] ⟨rfl, rfl, trivial⟩
    ·
     intro K52
     refine spO (i := 48) G (fun h48 => ?_) (fun h48 => ?_)
     ·
      have p48 := h48
      simp only [Bool.not_eq_true', Bool.not_eq_false', decide_eq_true_eq, decide_eq_false_iff_not] at p48
      exact gY G G G<|fa G fld_55_4 G<|gY G G G<|ldB 0 G G one_9 G G<|gY G G G<|neS G G G<|gY G G G<|pkF G G G<|jR K52 h48 ⟨G, G, trivial⟩ Sr
     ·
      exact gS (g := [_, _, _]) G<|gY G G G<|pkT G G G<|jR0 K52 h48 ⟨G, G, trivial⟩ Sr
    refine gY G G G<|mv G G ?_
    apply jo [(1, _), (44, _)] ⟨rfl, rfl, trivial⟩
    ·
     intro K58
     refine spO (i := 53) G (fun h53 => ?_) (fun h53 => ?_)
     ·
      exact gY G G G<|fa G fld_55_6 G<|gY G G G<|ldB 0 G G one_50 G G<|gY G G G<|lnP 0 G G Tryz.underlying50 G fun l56 => gY G G G<|gtI G G G<|gY G G G<|pkF G G G<|jR K58 h53 ⟨G, G, trivial⟩ Sr
     ·
      exact gS (g := [_, _, _, _]) G<|gY G G G<|pkT G G G<|jR0 K58 h53 ⟨G, G, trivial⟩ Sr
    refine gY G G G<|mv G G ?_
    apply jo [(1, _), (44, _)] ⟨rfl, rfl, trivial⟩
    ·
     intro K64
     refine spO (i := 59) G (fun h59 => ?_) (fun h59 => ?_)
     ·
      exact gY G G G<|fa G fld_55_8 G<|gY G G G<|ldB 0 G G one_51 G G<|gY G G G<|lnP 2 G G Tryz.underlying51 G fun l62 => gY G G G<|gtI G G G<|gY G G G<|pkF G G G<|jR K64 h59 ⟨G, G, trivial⟩ Sr
     ·
      exact gS (g := [_, _, _, _]) G<|gY G G G<|pkT G G G<|jR0 K64 h59 ⟨G, G, trivial⟩ Sr
    refine gY G G G<|mv G G ?_
    apply jo [(1, _), (44, _)] ⟨rfl, rfl, trivial⟩
    ·
     intro K70
     refine spO (i := 65) G (fun h65 => ?_) (fun h65 => ?_)
     ·
      exact gY G G G<|fa G fld_55_11 G<|gY G G G<|ldM 0 (cPlan s.fSeal) G G row_24 G G<|gY G G G<|bd (ps := []) (cs := (cPlan ((⟨0, 0, 0, ByteArray.empty, ByteArray.empty, 0, 0⟩ : TPlan)))) (by rfl) (by kernel_rfl) G<|gY G G G<|neT eq_Plan (s.fSeal) ((⟨0, 0, 0, ByteArray.empty, ByteArray.empty, 0, 0⟩ : TPlan)) G G G<|gY G G G<|pkF G G G<|jR K70 h65 ⟨G, G, trivial⟩ Sr
     ·
      exact gS (g := [_, _, _, _]) G<|gY G G G<|pkT G G G<|jR0 K70 h65 ⟨G, G, trivial⟩ Sr
    exact pkT G G G<|jA K71 h44 ⟨G, trivial⟩ Sr
   ·
    exact gS (g := [_, _, _, _, _, _, _, _, _, _, _, _, _, _, _, _, _, _, _, _, _, _, _, _, _, _]) G<|pkF G G G<|jA0 K71 h44 ⟨G, trivial⟩ Sr
  refine mv G G ?_
  apply jo [(1, _)] ⟨rfl, trivial⟩
  ·
   intro K88
   refine spO (i := 72) G (fun h72 => ?_) (fun h72 => ?_)
   ·
    refine gY G G G<|fa G fld_55_2 G<|gY G G G<|ldB 0 G G one_4 G G<|gY G G G<|mv G G ?_
    apply jo [(1, _), (72, _)] ⟨rfl, rfl, trivial⟩
    ·
     intro K87
     refine spA (i := 75) G (fun h75 => ?_) (fun h75 => ?_)
     ·
      refine gY G G G<|fa G fld_55_5 G<|gY G G G<|ldB 0 G G one_3 G G<|gY G G G<|ltI G G G<|gY G G G<|mv G G ?_
      apply jo [(1, _), (72, _), (75, _)] ⟨rfl, rfl, rfl, trivial⟩
      ·
       intro K86
       refine spO (i := 79) G (fun h79 => ?_) (fun h79 => ?_)
       ·
        have p79 := of_decide_eq_false h79
        refine gY G G G<|fa G fld_55_3 G<|gY G G G<|ldB 0 G G one_9 G G<|gY G G G<|fa G fld_55_4 G<|gY G G G<|ldB 0 G G one_9 G G<|gY G G G<|cfv (span19_c _ _) ok_134 G Sn G<|gY G G G<|nt G G<|gY G G G<|pkF G G G ?_
        exact jR K86 h79 ⟨G, G, G, trivial⟩ Sr
       ·
        exact gS (g := [_, _, _, _, _, _]) G<|gY G G G<|pkT G G G<|jR0 K86 h79 ⟨G, G, G, trivial⟩ Sr
      exact gY G G G<|pkT G G G<|jA K87 h75 ⟨G, G, trivial⟩ Sr
     ·
      exact gS (g := [_, _, _, _, _, _, _, _, _, _, _]) G<|gY G G G<|pkF G G G<|jA0 K87 h75 ⟨G, G, trivial⟩ Sr
    exact pkF G G G<|jR K88 h72 ⟨G, trivial⟩ Sr
   ·
    exact gS (g := [_, _, _, _, _, _, _, _, _, _, _, _, _, _, _]) G<|pkT G G G<|jR0 K88 h72 ⟨G, trivial⟩ Sr
  refine nl<|nx<|cdB G (fun h88 => ?_) (fun h88 => ?_)
  ·
   have e88 : (q19b s) = true := h88
   refine sq<|rg<|asg G G<|nl<|nx<|rt<|tR<|dpQ ?_
   exact fR1 () G G (by rw [sright19, if_neg (by rw [e40]; decide), if_pos e88]) G Sn
  ·
   have e88 : (q19b s) = false := h88
   refine sk<|nx<|sq<|sq<|rg<|fa G fld_55_6 G<|ldB 0 G G one_50 G G<|cfv (rising19_c _ _) ok_135 G (Sc 0 G Sn) G<|nt G G<|mv G G ?_
   apply jo [(1, _)] ⟨rfl, trivial⟩
   ·
    intro K98
    refine spO (i := 93) G (fun h93 => ?_) (fun h93 => ?_)
    ·
     exact gY G G G<|fa G fld_55_7 G<|gY G G G<|ldB 0 G G one_25 G G<|gY G G G<|cfv (right14_c _ _) ok_128 G (Sc 1 G Sn) G<|gY G G G<|nt G G<|pkF G G G<|jR K98 h93 ⟨G, trivial⟩ Sr
    ·
     exact gS (g := [_, _, _, _]) G<|pkT G G G<|jR0 K98 h93 ⟨G, trivial⟩ Sr
   refine mv G G ?_
   apply jo [(1, _)] ⟨rfl, trivial⟩
   ·
    intro K104
    refine spO (i := 99) G (fun h99 => ?_) (fun h99 => ?_)
    ·
     exact gY G G G<|fa G fld_55_9 G<|gY G G G<|ldB 0 G G one_52 G G<|gY G G G<|cfv (right18_c _ _) ok_136 G (Sc 3 G Sn) G<|gY G G G<|nt G G<|pkF G G G<|jR K104 h99 ⟨G, trivial⟩ Sr
    ·
     exact gS (g := [_, _, _, _]) G<|pkT G G G<|jR0 K104 h99 ⟨G, trivial⟩ Sr
   refine mv G G ?_
   apply jo [(1, _)] ⟨rfl, trivial⟩
   ·
    intro K110
    refine spO (i := 105) G (fun h105 => ?_) (fun h105 => ?_)
    ·
     exact gY G G G<|fa G fld_55_10 G<|gY G G G<|ldB 0 G G one_53 G G<|gY G G G<|cfv (ends18_c _ _) ok_137 G (Sc 4 G Sn) G<|gY G G G<|nt G G<|pkF G G G<|jR K110 h105 ⟨G, trivial⟩ Sr
    ·
     exact gS (g := [_, _, _, _]) G<|pkT G G G<|jR0 K110 h105 ⟨G, trivial⟩ Sr
   refine mv G G ?_
   apply jo [(1, _)] ⟨rfl, trivial⟩
   ·
    intro K116
    refine spO (i := 111) G (fun h111 => ?_) (fun h111 => ?_)
    ·
     exact gY G G G<|fa G fld_55_8 G<|gY G G G<|ldB 0 G G one_51 G G<|gY G G G<|lnP 2 G G Tryz.underlying51 G fun l114 => gY G G G<|gtI G G G<|pkF G G G<|jR K116 h111 ⟨G, trivial⟩ Sr
    ·
     exact gS (g := [_, _, _, _]) G<|pkT G G G<|jR0 K116 h111 ⟨G, trivial⟩ Sr
   refine nl<|nx<|cdB G (fun h116 => ?_) (fun h116 => ?_)
   ·
    have e116 : (q19c s) = true := h116
    refine sq<|rg<|asg G G<|nl<|nx<|rt<|tR<|dpQ ?_
    exact fR1 () G G (by rw [sright19, if_neg (by rw [e40]; decide), if_neg (by rw [e88]; decide), if_pos e116]) G Sn
   ·
    have e116 : (q19c s) = false := h116
    refine sk<|nx<|sq<|sq<|rg<|asg G G<|nl<|nx<|bk<|lpC (σ := Nat) [(1, _)] _ (fun i C => (3, .int .i64 (i : Int)) :: C) (fun i => i ≤ s.fAccounts.length ∧ (∀ j, j < i → ownsP s (s.fAccounts.getD j default).fKey = true)) (fun i => s.fAccounts.length - i) 0 ⟨G, trivial⟩ (Sc 0 G (Sc 1 G (Sc 2 G (Sc 3 G (Sc 4 G (Sc 5 G Sn)))))) ⟨Nat.zero_le _, fun j hj => absurd hj (Nat.not_lt_zero j)⟩ ⟨G, G, trivial⟩ ?_
    rintro i ⟨hi, hall⟩
    refine sq<|sq<|rg<|mv G G<|fa G fld_55_6 G<|ldB 0 G G one_50 G G<|lnP 0 G G Tryz.underlying50 G fun l120 => ltI G G G<|nl<|nx<|cdP G (fun h121 => ?_) (fun h121 => ?_)
    ·
     refine sk<|nx<|sq<|bk<|sq<|rgQ mixed (by kernel_rfl)<|ldM 0 (cState s s_0 s_1 s_2 s_3 s_4 s_5) G G row_55 G G<|fa G fld_55_6 G<|ldB 0 G G one_50 G G<|mv G G<|ixP 0 G G G slt_50 (by omega) (getDE (d := default) (by omega)) G fun v128 => faP (α := TAccount) (β := ByteArray) 0 (fun x : TAccount => x.fKey) G G fld_70_0 pAccount_0 G fun v129 => ldV 0 G G one_9 G fun w130 => ?_
     refine cfq (owns19_c _ _ _ _ _ _ _ _ h_s) ok_81 G (Sc 2 G (Sc 3 G (Sc 4 G (Sc 5 G (Sc 6 G (Sc 7 G Sn)))))) G<|nt G G<|nlQ<|nx<|cdB G (fun h132 => ?_) (fun h132 => ?_)
     ·
      refine sq<|rg<|asg G G<|nl<|nx<|rt<|bR<|tR<|tR<|bR<|tR<|dpQ ?_
      exact fR1 () G G (by rw [sright19, if_neg (by rw [e40]; decide), if_neg (by rw [e88]; decide), if_neg (by rw [e116]; decide), if_neg (by rw [accs19, allI_false i (by omega) (by simpa using h132)]; decide)]) G Sn
     ·
      refine sk<|bN<|nx<|rg<|mv G G<|adI G G (inI (by omega) (by omega)) G<|asg G G<|nl ?_
      exact ag (i + 1) ⟨(by omega), (all_snoc hall (by simpa using h132))⟩ (by omega) ⟨G, G, trivial⟩ G (Sc 2 G (Sc 3 G (Sc 4 G (Sc 5 G (Sc 6 G (Sc 7 G Sn))))))
    ·
     have eA : accs19 s = true := allI_true (fun j hj => hall j (by omega))
     refine ex<|tE<|tE<|bE<|nx<|sq<|sq<|rg<|asg G G<|nl<|nx<|bk<|lpC (σ := Nat) [(1, _)] _ (fun k C => (4, .int .i64 (k : Int)) :: C) (fun k => k ≤ s.fWaits.length ∧ (∀ j, j < k → wait19 s (s.fWaits.getD j default) = true)) (fun k => s.fWaits.length - k) 0 ⟨G, trivial⟩ (Sc 0 G (Sc 1 G (Sc 2 G (Sc 3 G (Sc 4 G (Sc 5 G Sn)))))) ⟨Nat.zero_le _, fun j hj => absurd hj (Nat.not_lt_zero j)⟩ ⟨G, G, trivial⟩ ?_
     rintro k ⟨hi_k, hall_k⟩
     refine sq<|sq<|rg<|mv G G<|fa G fld_55_8 G<|ldB 0 G G one_51 G G<|lnP 2 G G Tryz.underlying51 G fun l136 => ltI G G G<|nl<|nx<|cdP G (fun h137 => ?_) (fun h137 => ?_)
     ·
      refine sk<|nx<|sq<|bk<|sq<|rgQ mixed (by kernel_rfl)<|ldM 0 (cState s s_0 s_1 s_2 s_3 s_4 s_5) G G row_55 G G<|fa G fld_55_8 G<|ldB 0 G G one_51 G G<|mv G G<|ixP 2 G G G slt_51 (by omega) (getDE (d := default) (by omega)) G fun v144 => ldS 0 G G row_108 G fun q145 w145 => ?_
      refine cfq (wait19_c _ _ _ _ _ _ _ _ h_s w145) ok_138 G (Sc 2 G (Sc 3 G (Sc 4 G (Sc 5 G (Sc 6 G (Sc 7 G Sn)))))) G<|nt G G<|nlQ<|nx<|cdB G (fun h147 => ?_) (fun h147 => ?_)
      ·
       refine sq<|rg<|asg G G<|nl<|nx<|rt<|bR<|tR<|tR<|bR<|tR<|dpQ ?_
       exact fR1 () G G (by rw [sright19, if_neg (by rw [e40]; decide), if_neg (by rw [e88]; decide), if_neg (by rw [e116]; decide), if_pos eA, if_neg (by rw [waits19, allI_false k (by omega) (by simpa using h147)]; decide)]) G Sn
      ·
       refine sk<|bN<|nx<|rg<|mv G G<|adI G G (inI (by omega) (by omega)) G<|asg G G<|nl ?_
       exact ag (k + 1) ⟨(by omega), (all_snoc hall_k (by simpa using h147))⟩ (by omega) ⟨G, G, trivial⟩ G (Sc 2 G (Sc 3 G (Sc 4 G (Sc 5 G (Sc 6 G (Sc 7 G Sn))))))
     ·
      have eW : waits19 s = true := allI_true (fun j hj => hall_k j (by omega))
      refine ex<|tE<|tE<|bE<|nx<|sq<|sq<|rg<|fa G fld_55_11 G<|ldM 0 (cPlan s.fSeal) G G row_24 G G<|bd (ps := []) (cs := (cPlan ((⟨0, 0, 0, ByteArray.empty, ByteArray.empty, 0, 0⟩ : TPlan)))) (by rfl) (by kernel_rfl) G<|neT eq_Plan (s.fSeal) ((⟨0, 0, 0, ByteArray.empty, ByteArray.empty, 0, 0⟩ : TPlan)) G G G<|mv G G ?_
      apply jo [(1, _)] ⟨rfl, trivial⟩
      ·
       intro K181
       refine spA (i := 152) G (fun h152 => ?_) (fun h152 => ?_)
       ·
        have p152 := h152
        simp only [Bool.not_eq_true', Bool.not_eq_false', decide_eq_true_eq, decide_eq_false_iff_not] at p152
        refine gY G G G<|fa G fld_55_11 G<|gY G G G<|ldM 0 (cPlan s.fSeal) G G row_24 G G<|gY G G G<|cfv (plan19_c _ h_s.2.2.2.2.2.2.2.2.2.2.2.1) ok_139 G Sn G<|gY G G G<|nt G G<|gY G G G<|mv G G ?_
        apply jo [(1, _), (152, _)] ⟨rfl, rfl, trivial⟩
        ·
         intro K164
         refine spO (i := 157) G (fun h157 => ?_) (fun h157 => ?_)
         ·
          refine gY G G G<|fa G fld_55_11 G<|gY G G G<|fa G fld_24_1 G<|gY G G G<|ldB 0 G G one_3 G G<|gY G G G<|fa G fld_55_0 G<|gY G G G<|ldB 0 G G one_3 G G<|gY G G G<|neI G G G<|gY G G G<|pkF G G G ?_
          exact jR K164 h157 ⟨G, G, trivial⟩ Sr
         ·
          exact gS (g := [_, _, _, _, _, _]) G<|gY G G G<|pkT G G G<|jR0 K164 h157 ⟨G, G, trivial⟩ Sr
        refine gY G G G<|mv G G ?_
        apply jo [(1, _), (152, _)] ⟨rfl, rfl, trivial⟩
        ·
         intro K172
         refine spO (i := 165) G (fun h165 => ?_) (fun h165 => ?_)
         ·
          refine gY G G G<|fa G fld_55_11 G<|gY G G G<|fa G fld_24_4 G<|gY G G G<|ldB 0 G G one_9 G G<|gY G G G<|fa G fld_55_4 G<|gY G G G<|ldB 0 G G one_9 G G<|gY G G G<|neS G G G<|gY G G G<|pkF G G G ?_
          exact jR K172 h165 ⟨G, G, trivial⟩ Sr
         ·
          exact gS (g := [_, _, _, _, _, _]) G<|gY G G G<|pkT G G G<|jR0 K172 h165 ⟨G, G, trivial⟩ Sr
        refine gY G G G<|mv G G ?_
        apply jo [(1, _), (152, _)] ⟨rfl, rfl, trivial⟩
        ·
         intro K180
         refine spO (i := 173) G (fun h173 => ?_) (fun h173 => ?_)
         ·
          refine gY G G G<|ldM 0 (cState s s_0 s_1 s_2 s_3 s_4 s_5) G G row_55 G G<|gY G G G<|fa G fld_55_11 G<|gY G G G<|fa G fld_24_3 G<|gY G G G<|ldB 0 G G one_9 G G<|gY G G G<|cfv (owns19_c _ _ _ _ _ _ _ _ h_s) ok_81 G (Sc 0 G (Sc 1 G (Sc 2 G (Sc 3 G (Sc 4 G (Sc 5 G Sn)))))) G<|gY G G G<|nt G G<|gY G G G<|pkF G G G ?_
          exact jR K180 h173 ⟨G, G, trivial⟩ Sr
         ·
          exact gS (g := [_, _, _, _, _, _]) G<|gY G G G<|pkT G G G<|jR0 K180 h173 ⟨G, G, trivial⟩ Sr
        exact pkT G G G<|jA K181 h152 ⟨G, trivial⟩ Sr
       ·
        exact gS (g := [_, _, _, _, _, _, _, _, _, _, _, _, _, _, _, _, _, _, _, _, _, _, _, _, _, _, _, _]) G<|pkF G G G<|jA0 K181 h152 ⟨G, trivial⟩ Sr
      refine nl<|nx<|cdB G (fun h181 => ?_) (fun h181 => ?_)
      ·
       have e181 : (q19d s) = true := h181
       refine sq<|rg<|asg G G<|nl<|nx<|rt<|tR<|dpQ ?_
       exact fR1 () G G (by rw [sright19, if_neg (by rw [e40]; decide), if_neg (by rw [e88]; decide), if_neg (by rw [e116]; decide), if_pos eA, if_pos eW, if_pos e181]) G Sn
      ·
       have e181 : (q19d s) = false := h181
       refine sk<|nx<|sq<|sq<|rg<|fa G fld_55_12 G<|ldM 0 (cPlan s.fOut) G G row_24 G G<|bd (ps := []) (cs := (cPlan ((⟨0, 0, 0, ByteArray.empty, ByteArray.empty, 0, 0⟩ : TPlan)))) (by rfl) (by kernel_rfl) G<|eqT eq_Plan (s.fOut) ((⟨0, 0, 0, ByteArray.empty, ByteArray.empty, 0, 0⟩ : TPlan)) G G G<|nl<|nx<|cdP G (fun h185 => ?_) (fun h185 => ?_)
       ·
        have e185 : (decide (s.fOut = ⟨0, 0, 0, ByteArray.empty, ByteArray.empty, 0, 0⟩)) = true := (decide_eq_true h185)
        refine sq<|rg<|fa G fld_55_13 G<|ldB 0 G G one_35 G G<|lnP 5 G G Tryz.underlying35 G fun l188 => eqI G G G<|asg G G<|nl<|nx<|rt<|tR<|dpQ ?_
        exact fR1 () G G (by rw [sright19, if_neg (by rw [e40]; decide), if_neg (by rw [e88]; decide), if_neg (by rw [e116]; decide), if_pos eA, if_pos eW, if_neg (by rw [e181]; decide), if_pos e185]; try rfl) G Sn
       ·
        have e185 : (decide (s.fOut = ⟨0, 0, 0, ByteArray.empty, ByteArray.empty, 0, 0⟩)) = false := (decide_eq_false h185)
        refine sk<|nx<|sq<|rg<|fa G fld_55_13 G<|ldB 0 G G one_35 G G<|cf (image19_c _ _) ok_140 G (Sc 5 G Sn) G fun y193 v193 h193 => ?_
        obtain ⟨y193_0, y193_1, y193_2, y193_3, y193_4, y193_5⟩ := y193
        replace h193 : v193 = .tuple #[.agg (cState (rdState _).1 y193_0 y193_1 y193_2 y193_3 y193_4 y193_5).toArray, .bool (decide ((rdState _).2 = 0))] := h193
        subst h193
        refine mv G G<|xt G G G<|xt G G G<|al zero_55 G fun b5 => gtL (q := y193_0.oneCell' = true) (fun S w h => oneCell_of_list (h _ (List.mem_of_getElem? (i := 0) G))) fun o_y193_0 => gtL (q := y193_1.oneCell' = true) (fun S w h => oneCell_of_list (h _ (List.mem_of_getElem? (i := 1) G))) fun o_y193_1 => gtL (q := y193_2.oneCell' = true) (fun S w h => oneCell_of_list (h _ (List.mem_of_getElem? (i := 2) G))) fun o_y193_2 => gtL (q := y193_3.oneCell' = true) (fun S w h => oneCell_of_list (h _ (List.mem_of_getElem? (i := 3) G))) fun o_y193_3 => gtL (q := y193_4.oneCell' = true) (fun S w h => oneCell_of_list (h _ (List.mem_of_getElem? (i := 4) G))) fun o_y193_4 => gtL (q := y193_5.oneCell' = true) (fun S w h => oneCell_of_list (h _ (List.mem_of_getElem? (i := 5) G))) fun o_y193_5 => stW 0 (us := (cState ((rdState s.fImage).1) y193_0 y193_1 y193_2 y193_3 y193_4 y193_5)) G G G row_55 (by simp only [List.all_cons, List.all_nil, Bool.and_true, o_y193_0, o_y193_1, o_y193_2, o_y193_3, o_y193_4, o_y193_5]; rfl) G<|asg G G<|nl<|nx ?_
        refine sq<|rg<|mv G G<|mv G G ?_
        apply jo [(1, _)] ⟨rfl, trivial⟩
        ·
         intro K201
         refine spA (i := 197) G (fun h197 => ?_) (fun h197 => ?_)
         ·
          have p197 := of_decide_eq_true h197
          exact gY G G G<|fa G fld_55_12 G<|gY G G G<|ldM 1 (cPlan s.fOut) G G row_24 G G<|gY G G G<|cfv (plan19_c _ h_s.2.2.2.2.2.2.2.2.2.2.2.2.1) ok_139 G Sn G<|pkT G G G<|jA K201 h197 ⟨G, trivial⟩ Sr
         ·
          exact gS (g := [_, _, _]) G<|pkF G G G<|jA0 K201 h197 ⟨G, trivial⟩ Sr
        refine mv G G ?_
        apply jo [] trivial
        ·
         intro K209
         refine spA (i := 202) G (fun h202 => ?_) (fun h202 => ?_)
         ·
          exact gY G G G<|fa G fld_55_12 G<|gY G G G<|fa G fld_24_1 G<|gY G G G<|ldB 1 G G one_3 G G<|gY G G G<|fa G fld_55_0 G<|gY G G G<|ldB 1 G G one_3 G G<|gY G G G<|eqI G G G<|pkT G G G<|jA K209 h202 trivial Sr
         ·
          exact gS (g := [_, _, _, _, _, _]) G<|pkF G G G<|jA0 K209 h202 trivial Sr
        refine asg G G<|nl<|nx<|rt<|dpQ<|dpQ ?_
        exact fR1 () G G (by rw [sright19, if_neg (by rw [e40]; decide), if_neg (by rw [e88]; decide), if_neg (by rw [e116]; decide), if_pos eA, if_pos eW, if_neg (by rw [e181]; decide), if_neg (by rw [e185]; decide)]; try rfl) G Sn

theorem right22_c (v : TScene) (v_0 v_1 v_2 v_3 v_4 : Value) (h_v : v.wf) : FnV Tryz.prog 18 [.agg (cScene v v_0 v_1 v_2 v_3 v_4).toArray] [⟨v_0, v.fChart.fPlaces⟩, ⟨v_1, v.fChart.fMarks⟩, ⟨v_2, v.fStates⟩, ⟨v_3, v.fRights⟩, ⟨v_4, v.fAges⟩] (.bool (right22 v)) := by
 refine Fnc.proof Tryz.func18 G 72 G G fun X w => gtC (q := v.fStates.length ≤ 9223372036854775807) (fun S w h => list_len (h _ (List.mem_of_getElem? (i := 2) G))) fun hlst => sq<|rg<|bx G G G fun b1 => asg G G<|nl<|nx<|sq<|sq<|rg<|fa G fld_32_1 G<|ldB 0 G G one_3 G G<|neI G G G ?_
 refine mv G G ?_
 apply jo [(1, _)] ⟨rfl, trivial⟩
 ·
  intro K11
  refine spA (i := 7) G (fun h7 => ?_) (fun h7 => ?_)
  ·
   have p7 := h7
   simp only [Bool.not_eq_true', Bool.not_eq_false', decide_eq_true_eq, decide_eq_false_iff_not] at p7
   exact gY G G G<|fa G fld_32_1 G<|gY G G G<|ldB 0 G G one_3 G G<|gY G G G<|neI G G G<|pkT G G G<|jA K11 h7 ⟨G, trivial⟩ Sr
  ·
   exact gS (g := [_, _, _]) G<|pkF G G G<|jA0 K11 h7 ⟨G, trivial⟩ Sr
 refine mv G G ?_
 apply jo [(1, _)] ⟨rfl, trivial⟩
 ·
  intro K16
  refine spA (i := 12) G (fun h12 => ?_) (fun h12 => ?_)
  ·
   exact gY G G G<|fa G fld_32_1 G<|gY G G G<|ldB 0 G G one_3 G G<|gY G G G<|neI G G G<|pkT G G G<|jA K16 h12 ⟨G, trivial⟩ Sr
  ·
   exact gS (g := [_, _, _]) G<|pkF G G G<|jA0 K16 h12 ⟨G, trivial⟩ Sr
 refine mv G G ?_
 apply jo [(1, _)] ⟨rfl, trivial⟩
 ·
  intro K21
  refine spO (i := 17) G (fun h17 => ?_) (fun h17 => ?_)
  ·
   exact gY G G G<|fa G fld_32_0 G<|gY G G G<|ldB 0 G G one_3 G G<|gY G G G<|ltI G G G<|pkF G G G<|jR K21 h17 ⟨G, trivial⟩ Sr
  ·
   exact gS (g := [_, _, _]) G<|pkT G G G<|jR0 K21 h17 ⟨G, trivial⟩ Sr
 refine mv G G ?_
 apply jo [(1, _)] ⟨rfl, trivial⟩
 ·
  intro K28
  refine spO (i := 22) G (fun h22 => ?_) (fun h22 => ?_)
  ·
   exact gY G G G<|fa G fld_32_0 G<|gY G G G<|ldB 0 G G one_3 G G<|gY G G G<|fa G fld_32_1 G<|gY G G G<|ldB 0 G G one_3 G G<|gY G G G<|gtI G G G<|pkF G G G<|jR K28 h22 ⟨G, trivial⟩ Sr
  ·
   exact gS (g := [_, _, _, _, _]) G<|pkT G G G<|jR0 K28 h22 ⟨G, trivial⟩ Sr
 refine mv G G ?_
 apply jo [(1, _)] ⟨rfl, trivial⟩
 ·
  intro K34
  refine spO (i := 29) G (fun h29 => ?_) (fun h29 => ?_)
  ·
   exact gY G G G<|fa G fld_32_2 G<|gY G G G<|ldM 0 (cChart v.fChart v_0 v_1) G G row_27 G G<|gY G G G<|cfv (right20_c _ _ _ h_v.2.2.1) ok_60 G (Sc 0 G (Sc 1 G Sn)) G<|gY G G G<|nt G G<|pkF G G G<|jR K34 h29 ⟨G, trivial⟩ Sr
  ·
   exact gS (g := [_, _, _, _]) G<|pkT G G G<|jR0 K34 h29 ⟨G, trivial⟩ Sr
 refine mv G G ?_
 apply jo [(1, _)] ⟨rfl, trivial⟩
 ·
  intro K40
  refine spO (i := 35) G (fun h35 => ?_) (fun h35 => ?_)
  ·
   exact gY G G G<|fa G fld_32_3 G<|gY G G G<|ldB 0 G G one_28 G G<|gY G G G<|lnP 2 G G Tryz.underlying28 G fun l38 => gY G G G<|neI G G G<|pkF G G G<|jR K40 h35 ⟨G, trivial⟩ Sr
  ·
   exact gS (g := [_, _, _, _]) G<|pkT G G G<|jR0 K40 h35 ⟨G, trivial⟩ Sr
 refine mv G G ?_
 apply jo [(1, _)] ⟨rfl, trivial⟩
 ·
  intro K46
  refine spO (i := 41) G (fun h41 => ?_) (fun h41 => ?_)
  ·
   exact gY G G G<|fa G fld_32_4 G<|gY G G G<|ldB 0 G G one_29 G G<|gY G G G<|cfv (right16_c _ _) ok_61 G (Sc 3 G Sn) G<|gY G G G<|nt G G<|pkF G G G<|jR K46 h41 ⟨G, trivial⟩ Sr
  ·
   exact gS (g := [_, _, _, _]) G<|pkT G G G<|jR0 K46 h41 ⟨G, trivial⟩ Sr
 refine nl<|nx<|cdB G (fun h46 => ?_) (fun h46 => ?_)
 ·
  have e46 : (r22a v) = true := h46
  refine sq<|rg<|asg G G<|nl<|nx<|rt<|tR<|dpQ ?_
  exact fR1 () G G (by rw [right22, if_pos e46]) G Sn
 ·
  have e46 : (r22a v) = false := h46
  refine sk<|nx<|sq<|sq<|rg<|asg G G<|nl<|nx<|bk<|lpC (σ := Nat) [(1, _)] _ (fun i C => (3, .int .i64 (i : Int)) :: C) (fun i => i ≤ v.fStates.length ∧ (∀ j, j < i → (!r22j v j) = true)) (fun i => v.fStates.length - i) 0 ⟨G, trivial⟩ (Sc 0 G (Sc 1 G (Sc 2 G (Sc 3 G (Sc 4 G Sn))))) ⟨Nat.zero_le _, fun j hj => absurd hj (Nat.not_lt_zero j)⟩ ⟨G, G, trivial⟩ ?_
  rintro i ⟨hi, hall⟩
  refine sq<|sq<|rg<|mv G G<|fa G fld_32_3 G<|ldB 0 G G one_28 G G<|lnP 2 G G Tryz.underlying28 G fun l50 => ltI G G G<|nl<|nx<|cdP G (fun h51 => ?_) (fun h51 => ?_)
  ·
   refine sk<|nx<|sq<|bk<|sq<|rg<|fa G fld_32_3 G<|ldB 0 G G one_28 G G<|mv G G<|ixP 2 G G G slt_28 (by omega) (getDE (d := default) (by omega)) G fun v57 => faP (α := TState) (β := Int) 0 (fun x : TState => x.fGroup) G G fld_55_0 pState_0 G fun v58 => ldV 0 G G one_3 G fun w59 => ?_
   refine mv G G<|adI G G (inI (by omega) (by omega)) G<|neI G G G<|mv G G ?_
   apply jo [(1, _), (3, _)] ⟨rfl, rfl, trivial⟩
   ·
    intro K71
    refine spO (i := 63) G (fun h63 => ?_) (fun h63 => ?_)
    ·
     have p63 := h63
     simp only [Bool.not_eq_true', Bool.not_eq_false', decide_eq_true_eq, decide_eq_false_iff_not] at p63
     refine gY G G G<|fa G fld_32_3 G<|gY G G G<|ldB 0 G G one_28 G G<|gY G G G<|mv G G<|gY G G G<|ixP 4 G G G slt_28 (by omega) (getDE (d := default) (by omega)) G fun v67 => gY G G G<|ldS 0 G G row_55 G fun q68 w68 => ?_
     obtain ⟨q68_0, q68_1, q68_2, q68_3, q68_4, q68_5⟩ := q68
     exact gY G G G<|cfv (sright19_c _ _ _ _ _ _ _ w68) ok_62 G (Sc 1 G (Sc 2 G (Sc 3 G (Sc 4 G (Sc 5 G (Sc 6 G Sn)))))) G<|gY G G G<|nt G G<|pkF G G G<|jR K71 h63 ⟨G, G, trivial⟩ (SubD.tail (SubD.tail (SubD.tail (SubD.tail (SubD.tail (SubD.tail (SubD.tail (SubD.tail Sr))))))))
    ·
     exact gS (g := [_, _, _, _, _, _, _]) G<|pkT G G G<|jR0 K71 h63 ⟨G, G, trivial⟩ Sr
   refine nl<|nx<|cdB G (fun h71 => ?_) (fun h71 => ?_)
   ·
    refine sq<|rg<|asg G G<|nl<|nx<|rt<|bR<|tR<|tR<|bR<|tR<|dpQ ?_
    exact fR1 () G G (by rw [right22, if_neg (by rw [e46]; decide), allI_false i (by omega) (not_t h71)]) G Sn
   ·
    refine sk<|bN<|nx<|rg<|mv G G<|adI G G (inI (by omega) (by omega)) G<|asg G G<|nl ?_
    exact ag (i + 1) ⟨(by omega), (all_snoc hall (not_f h71))⟩ (by omega) ⟨G, G, trivial⟩ G (Sc 2 G (Sc 3 G (Sc 4 G (Sc 5 G (Sc 6 G Sn)))))
  ·
   refine ex<|tE<|tE<|bE<|nx<|sq<|rg<|asg G G<|nl<|nx<|rt<|dpQ ?_
   exact fR1 () G G (by rw [right22, if_neg (by rw [e46]; decide), allI_true (fun j hj => hall j (by omega))]) G Sn
end Go.Proofs.YtmpoffijcfaalaaGreat
