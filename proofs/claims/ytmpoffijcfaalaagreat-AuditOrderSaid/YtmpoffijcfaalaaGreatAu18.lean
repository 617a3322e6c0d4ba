/- Part 18 of the proof of auditOrder_holds: DutRF, DutR1, AudW5, DutFE, DutWA, DutWB. Every text below begins with what it shows. -/
import Derived.Test.YtmpoffijcfaalaaGreatAu17

/- Closed facts on the program: written by specs1r.py. -/

namespace Go.Proofs.YtmpoffijcfaalaaGreat.Rdr
open Go.Eng

theorem app_35 : AppTy Tryz.prog 35 5 1 1 := AppTy.mk Tryz.underlying35 (by kernel_rfl) (by decide)
theorem fld_346_0 : FieldAt Tryz.prog 346 0 0 := FieldAt.mk Tryz.underlying346 rfl (by kernel_rfl) rfl
theorem fld_346_1 : FieldAt Tryz.prog 346 1 1 := FieldAt.mk Tryz.underlying346 rfl (by kernel_rfl) rfl
theorem fld_346_2 : FieldAt Tryz.prog 346 2 2 := FieldAt.mk Tryz.underlying346 rfl (by kernel_rfl) rfl
theorem mixed : Tryz.prog.follows .mixedOrders = true := by kernel_rfl
theorem ok_107 : FnOk Tryz.prog 107 := ⟨⟨_, Tryz.func107, by kernel_rfl, rfl⟩⟩
theorem ok_312 : FnOk Tryz.prog 312 := ⟨⟨_, Tryz.func312, by kernel_rfl, rfl⟩⟩
theorem ok_313 : FnOk Tryz.prog 313 := ⟨⟨_, Tryz.func313, by kernel_rfl, rfl⟩⟩
theorem ok_314 : FnOk Tryz.prog 314 := ⟨⟨_, Tryz.func314, by kernel_rfl, rfl⟩⟩
theorem ok_315 : FnOk Tryz.prog 315 := ⟨⟨_, Tryz.func315, by kernel_rfl, rfl⟩⟩
theorem ok_316 : FnOk Tryz.prog 316 := ⟨⟨_, Tryz.func316, by kernel_rfl, rfl⟩⟩
theorem ok_317 : FnOk Tryz.prog 317 := ⟨⟨_, Tryz.func317, by kernel_rfl, rfl⟩⟩
theorem ok_318 : FnOk Tryz.prog 318 := ⟨⟨_, Tryz.func318, by kernel_rfl, rfl⟩⟩
theorem ok_319 : FnOk Tryz.prog 319 := ⟨⟨_, Tryz.func319, by kernel_rfl, rfl⟩⟩
theorem one_209 : OneTy Tryz.prog 209 := ⟨⟨_, Tryz.underlying209, rfl⟩, by kernel_rfl⟩
theorem one_3 : OneTy Tryz.prog 3 := ⟨⟨_, Tryz.underlying3, rfl⟩, by kernel_rfl⟩
theorem one_35 : OneTy Tryz.prog 35 := ⟨⟨_, Tryz.underlying35, rfl⟩, by kernel_rfl⟩
theorem one_38 : OneTy Tryz.prog 38 := ⟨⟨_, Tryz.underlying38, rfl⟩, by kernel_rfl⟩
theorem one_4 : OneTy Tryz.prog 4 := ⟨⟨_, Tryz.underlying4, rfl⟩, by kernel_rfl⟩
theorem one_5 : OneTy Tryz.prog 5 := ⟨⟨_, Tryz.underlying5, rfl⟩, by kernel_rfl⟩
theorem slt_35 : SliceTy Tryz.prog 35 5 1 := ⟨Tryz.underlying35, by kernel_rfl⟩
theorem zero_209 : ZeroOf Tryz.prog 209 [.int .u64 0] := ZeroOf.mk (by kernel_rfl)
theorem zero_3 : ZeroOf Tryz.prog 3 [.int .i64 0] := ZeroOf.mk (by kernel_rfl)
theorem zero_35 : ZeroOf Tryz.prog 35 [.slice none 0 0] := ZeroOf.mk (by kernel_rfl)
theorem zero_4 : ZeroOf Tryz.prog 4 [.bool false] := ZeroOf.mk (by kernel_rfl)
end Go.Proofs.YtmpoffijcfaalaaGreat.Rdr

/- Walks: written by specs1r.py. -/

namespace Go.Proofs.YtmpoffijcfaalaaGreat.Rdr
open Go.Eng Go.YtmpoffijcfaalaaGreat

theorem number_c (sv : Value) (bs : List UInt8) : FnV Tryz.prog 319 [sv] [⟨sv, bs⟩] (numTup (numD 0 0 bs)) := by
 refine Fnc.proof Tryz.func319 G 41 G G fun X w => sq<|rg<|asg G G<|asg G G<|asg G G<|nl<|nx<|sq<|rg<|asg G G<|nl<|nx<|sq ?_
 refine sq<|rg<|mv G G<|lnP 0 G G Tryz.underlying35 G fun l9 => mv G G<|nl<|nx<|bk<|lp (σ := Nat × Nat) (fun s => [(0, sv), (5, .int .u64 (s.2 : Int)), (8, sv), (9, .int .i64 (bs.length : Int)), (10, .int .i64 (s.1 : Int))]) (fun _ => [fz X w]) (fun _ => [⟨sv, bs⟩]) (fun s => s.1 ≤ 9 ∧ s.1 ≤ bs.length ∧ s.2 < 2 ^ (7 * s.1) ∧ numD 0 0 bs = numD s.1 s.2 (bs.drop s.1)) (fun s => bs.length - s.1) (0, 0) ⟨by decide, Nat.zero_le _, by decide, G⟩ ⟨G, G, G, G, G, trivial⟩ G Sr ?_
 rintro ⟨i, v⟩ ⟨h1, h2, h3, h4⟩
 simp only at h1 h2 h3 h4
 refine sq<|rg<|ltI G G G<|nl<|nx<|sq<|cdP G (fun h11 => ?_) (fun h11 => ?_)
 ·
  refine sk<|nx<|sq<|bk<|sq<|rg<|mv G G ?_
  obtain ⟨c, hc⟩ : ∃ c, bs[i]? = some c := ⟨_, getE (by omega)⟩
  have hd := drop_at hc
  have hcl := c.toNat_lt
  refine ixP 0 G G G slt_35 (by omega) hc G fun v13 => ldV 0 G G one_5 G fun w14 => ?_
  refine asg G G<|asg G G<|nl<|nx<|sq<|sq<|rg<|mv G G<|eqI G G G<|mv G G<|spP (i := 17) G (fun h17 => ?_) (fun h17 => ?_)
  ·
   refine gY G G G<|mv G G<|gY G G G<|gtI G G G<|pkT G G G<|nl<|nx<|cdP G (fun h20 => ?_) (fun h20 => ?_)
   ·
    refine sq<|rg<|asg G G<|asg G G<|asg G G<|nl<|nx<|rt<|tR<|bR<|tR<|tR<|bR<|tR ?_
    exact fR3 () G G G G (by have e := h4; rw [hd] at e; simp only [numD] at e; (repeat (first | rw [if_pos (by omega)] at e | rw [if_neg (by omega)] at e)); first | exact congrArg numTup e.symm | (exfalso; omega)) G Sn
   ·
    refine sk<|nx<|sq<|rg<|mv G G<|mv G G<|btA G G (and_127 c) G<|cv Tryz.underlying5 Tryz.underlying209 G (wrap_u64' (by omega)) G<|mv G G<|muI G G (inI (by omega) (by omega)) G<|shL G G (by omega) (shl_k _ (7 * i) (shl_ok h1 (by omega)) (by omega)) G<|btO G G (or_add h3 (shl_ok h1 (by omega)) (by omega)) G<|asg G G<|nl ?_
    refine nx<|sq<|sq<|rg<|mv G G<|geI G G G<|nl<|nx<|cdP G (fun h30 => ?_) (fun h30 => ?_)
    ·
     refine ex<|tE<|bE<|nx<|rg<|adI G G (inI (by omega) (by omega)) G<|mv G G<|nl ?_
     exact ag (i + 1, v + c.toNat % 128 * 2 ^ (7 * i)) ⟨by show i + 1 ≤ 9; omega, by show i + 1 ≤ bs.length; omega, shl_lt h3, by show numD 0 0 bs = _; rw [h4, hd]; simp only [numD]; rw [if_neg (by omega), if_pos (by omega)]⟩ (by show bs.length - (i + 1) < bs.length - i; omega) ⟨G, G, G, G, G, trivial⟩ G (Sc 1 G Sn)
    ·
     refine sk<|nx<|sq<|sq<|rg<|mv G G<|eqI G G G<|mv G G<|spP (i := 33) G (fun h33 => ?_) (fun h33 => ?_)
     ·
      refine gY G G G<|mv G G<|gY G G G<|gtI G G G<|pkT G G G<|nl<|nx<|cdP G (fun h36 => ?_) (fun h36 => ?_)
      ·
       refine sq<|rg<|asg G G<|asg G G<|asg G G<|nl<|nx<|rt<|tR<|bR<|tR<|tR<|bR<|tR ?_
       exact fR3 () G G G G (by have e := h4; rw [hd] at e; simp only [numD] at e; (repeat (first | rw [if_pos (by omega)] at e | rw [if_neg (by omega)] at e)); first | exact congrArg numTup e.symm | (exfalso; omega)) G Sn
      ·
       refine sk<|nx<|sq<|rg<|mv G G<|mv G G<|adI G G (inI (by omega) (by omega)) G<|asg G G<|asg G G<|asg G G<|nl<|nx<|rt<|bR ?_
       exact tR<|tR<|bR<|tR<|fR3 () G G G G (by have e := h4; rw [hd] at e; simp only [numD] at e; (repeat (first | rw [if_pos (by omega)] at e | rw [if_neg (by omega)] at e)); first | exact congrArg numTup e.symm | (exfalso; omega)) G Sn
     ·
      refine gN G G G G G<|gN G G G G G<|pkF G G G<|nl<|nx<|cdF G<|sk<|nx<|sq<|rg<|mv G G<|mv G G<|adI G G (inI (by omega) (by omega)) G<|asg G G ?_
      exact asg G G<|asg G G<|nl<|nx<|rt<|bR<|tR<|tR<|bR<|tR<|fR3 () G G G G (by have e := h4; rw [hd] at e; simp only [numD] at e; (repeat (first | rw [if_pos (by omega)] at e | rw [if_neg (by omega)] at e)); first | exact congrArg numTup e.symm | (exfalso; omega)) G Sn
  ·
   refine gN G G G G G<|gN G G G G G<|pkF G G G<|nl<|nx<|cdF G<|sk<|nx<|sq<|rg<|mv G G<|mv G G<|btA G G (and_127 c) G<|cv Tryz.underlying5 Tryz.underlying209 G (wrap_u64' (by omega)) G ?_
   refine mv G G<|muI G G (inI (by omega) (by omega)) G<|shL G G (by omega) (shl_k _ (7 * i) (shl_ok h1 (by omega)) (by omega)) G<|btO G G (or_add h3 (shl_ok h1 (by omega)) (by omega)) G<|asg G G<|nl<|nx<|sq<|sq<|rg<|mv G G<|geI G G G<|nl<|nx ?_
   refine cdP G (fun h30 => ?_) (fun h30 => ?_)
   ·
    refine ex<|tE<|bE<|nx<|rg<|adI G G (inI (by omega) (by omega)) G<|mv G G<|nl ?_
    exact ag (i + 1, v + c.toNat % 128 * 2 ^ (7 * i)) ⟨by show i + 1 ≤ 9; omega, by show i + 1 ≤ bs.length; omega, shl_lt h3, by show numD 0 0 bs = _; rw [h4, hd]; simp only [numD]; rw [if_neg (by omega), if_pos (by omega)]⟩ (by show bs.length - (i + 1) < bs.length - i; omega) ⟨G, G, G, G, G, trivial⟩ G (Sc 1 G Sn)
   ·
    refine sk<|nx<|sq<|sq<|rg<|mv G G<|eqI G G G<|mv G G<|spP (i := 33) G (fun h33 => ?_) (fun h33 => ?_)
    ·
     refine gY G G G<|mv G G<|gY G G G<|gtI G G G<|pkT G G G<|nl<|nx<|cdP G (fun h36 => ?_) (fun h36 => ?_)
     ·
      refine sq<|rg<|asg G G<|asg G G<|asg G G<|nl<|nx<|rt<|tR<|bR<|tR<|tR<|bR<|tR ?_
      exact fR3 () G G G G (by have e := h4; rw [hd] at e; simp only [numD] at e; (repeat (first | rw [if_pos (by omega)] at e | rw [if_neg (by omega)] at e)); first | exact congrArg numTup e.symm | (exfalso; omega)) G Sn
     ·
      refine sk<|nx<|sq<|rg<|mv G G<|mv G G<|adI G G (inI (by omega) (by omega)) G<|asg G G<|asg G G<|asg G G<|nl<|nx<|rt<|bR ?_
      exact tR<|tR<|bR<|tR<|fR3 () G G G G (by have e := h4; rw [hd] at e; simp only [numD] at e; (repeat (first | rw [if_pos (by omega)] at e | rw [if_neg (by omega)] at e)); first | exact congrArg numTup e.symm | (exfalso; omega)) G Sn
    ·
     refine gN G G G G G<|gN G G G G G<|pkF G G G<|nl<|nx<|cdF G<|sk<|nx<|sq<|rg<|mv G G<|mv G G<|adI G G (inI (by omega) (by omega)) G<|asg G G ?_
     exact asg G G<|asg G G<|nl<|nx<|rt<|bR<|tR<|tR<|bR<|tR<|fR3 () G G G G (by have e := h4; rw [hd] at e; simp only [numD] at e; (repeat (first | rw [if_pos (by omega)] at e | rw [if_neg (by omega)] at e)); first | exact congrArg numTup e.symm | (exfalso; omega)) G Sn
 ·
  exact ex<|tE<|tE<|bE<|nx<|sq<|rg<|asg G G<|asg G G<|asg G G<|nl<|nx<|rt<|fR3 () G G G G (by have e := h4; rw [List.drop_eq_nil_of_le (by omega)] at e; exact congrArg numTup e.symm) G Sn

theorem counted_c (sv : Value) (bs : List UInt8) (most : Int) (hm : InI most) : FnV Tryz.prog 316 [sv, .int .i64 most] [⟨sv, bs⟩] (intTup (countD bs most)) := by
 refine Fnc.proof Tryz.func316 G 31 G G fun X w => ?_
 have hb := numD_bd bs 0 0 (by decide) (by decide)
 have hN0 := number_c sv bs
 rcases hN : numD 0 0 bs with ⟨v, n, e⟩
 rw [hN] at hN0 hb
 have hN0 : FnV Tryz.prog 319 [sv] [⟨sv, bs⟩] (.tuple #[.int .u64 (v : Int), .int .i64 (n : Int), .int .i64 (e : Int)]) := hN0
 simp only at hb
 have hmx := max_in hm
 refine sq<|rg<|asg G G<|asg G G<|asg G G<|nl<|nx<|sq<|rg<|mv G G<|cfv (hN0) ok_319 G (Sc 0 G Sn) G<|mv G G<|xt G G G<|xt G G G ?_
 refine xt G G G<|asg G G<|asg G G<|asg G G<|nl<|nx<|sq<|sq<|rg<|mv G G<|eqI G G G<|mv G G<|spP (i := 18) G (fun h18 => ?_) (fun h18 => ?_)
 ·
  refine gY G G G<|mv G G<|gY G G G<|mv G G<|gY G G G<|mxI G G G G<|gY G G G<|cv Tryz.underlying3 Tryz.underlying209 G (wrap_u64_int (by omega) (by omega)) G<|gY G G G<|gtI G G G<|pkT G G G<|nl<|nx<|cdP G (fun h24 => ?_) (fun h24 => ?_)
  ·
   refine rg<|asg G G<|nl<|nx<|sq<|sq<|rg<|mv G G<|neI G G G<|nl<|nx<|cdN G (fun h26 => ?_) (fun h26 => ?_)
   ·
    exact sq<|rg<|mv G G<|asg G G<|asg G G<|asg G G<|nl<|nx<|rt<|tR<|fR3 () G G G G (by have q := countD_of (most := most) hN; (repeat (first | rw [if_pos (by omega)] at q | rw [if_neg (by omega)] at q)); first | exact congrArg intTup q.symm | (exfalso; omega)) G Sn
   ·
    exact sk<|nx<|sq<|rg<|mv G G<|cv Tryz.underlying209 Tryz.underlying3 G (i64_of_nat (by omega)) G<|mv G G<|asg G G<|asg G G<|asg G G<|nl<|nx<|rt<|fR3 () G G G G (by have q := countD_of (most := most) hN; (repeat (first | rw [if_pos (by omega)] at q | rw [if_neg (by omega)] at q)); first | exact congrArg intTup q.symm | (exfalso; omega)) G Sn
  ·
   refine sk<|nx<|sq<|sq<|rg<|mv G G<|neI G G G<|nl<|nx<|cdN G (fun h26 => ?_) (fun h26 => ?_)
   ·
    exact sq<|rg<|mv G G<|asg G G<|asg G G<|asg G G<|nl<|nx<|rt<|tR<|fR3 () G G G G (by have q := countD_of (most := most) hN; (repeat (first | rw [if_pos (by omega)] at q | rw [if_neg (by omega)] at q)); first | exact congrArg intTup q.symm | (exfalso; omega)) G Sn
   ·
    exact sk<|nx<|sq<|rg<|mv G G<|cv Tryz.underlying209 Tryz.underlying3 G (i64_of_nat (by omega)) G<|mv G G<|asg G G<|asg G G<|asg G G<|nl<|nx<|rt<|fR3 () G G G G (by have q := countD_of (most := most) hN; (repeat (first | rw [if_pos (by omega)] at q | rw [if_neg (by omega)] at q)); first | exact congrArg intTup q.symm | (exfalso; omega)) G Sn
 ·
  refine gN G G G G G<|gN G G G G G<|gN G G G G G<|gN G G G G G<|gN G G G G G<|pkF G G G<|nl<|nx<|cdF G<|sk<|nx<|sq<|sq<|rg ?_
  refine mv G G<|neI G G G<|nl<|nx<|cdN G (fun h26 => ?_) (fun h26 => ?_)
  ·
   exact sq<|rg<|mv G G<|asg G G<|asg G G<|asg G G<|nl<|nx<|rt<|tR<|fR3 () G G G G (by have q := countD_of (most := most) hN; (repeat (first | rw [if_pos (by omega)] at q | rw [if_neg (by omega)] at q)); first | exact congrArg intTup q.symm | (exfalso; omega)) G Sn
  ·
   exact sk<|nx<|sq<|rg<|mv G G<|cv Tryz.underlying209 Tryz.underlying3 G (i64_of_nat (by omega)) G<|mv G G<|asg G G<|asg G G<|asg G G<|nl<|nx<|rt<|fR3 () G G G G (by have q := countD_of (most := most) hN; (repeat (first | rw [if_pos (by omega)] at q | rw [if_neg (by omega)] at q)); first | exact congrArg intTup q.symm | (exfalso; omega)) G Sn

theorem num1_c (b : Nat) (sv : Value) (bs : List UInt8) : Fnc Tryz.prog 318 [sv, .pointer (some ⟨b, 0, none⟩)] [bl b 209 [.int .u64 0]] [⟨sv, bs⟩] (fun (_ : Unit) v => v = stepTup (numD 0 0 bs).2.1 (numD 0 0 bs).2.2) (fun _ _ => [bl b 209 [.int .u64 ((numD 0 0 bs).1 : Int)]]) (fun _ _ => []) := by
 refine Fnc.proof Tryz.func318 G 13 G G fun X w => sq<|rg<|asg G G<|asg G G<|nl<|nx<|sq<|rg<|mv G G<|cfv (number_c _ _) ok_319 G (Sc 0 G Sn) G<|mv G G<|xt G G G<|xt G G G ?_
 refine xt G G G<|stB 0 G G G one_209 G (Nat.lt_of_lt_of_le (Nat.lt_succ_self _) (Nat.le_of_ble_eq_true G))<|asg G G<|asg G G<|nl<|nx<|sq<|rg<|mv G G<|mv G G<|asg G G<|asg G G<|nl<|nx ?_
 exact rt<|fR2 () G G G G G Sn

theorem count1_c (a b : Nat) (sv : Value) (bs : List UInt8) (most : Int) (hm : InI most) : Fnc Tryz.prog 315 [sv, .pointer (some ⟨a, 0, none⟩), .pointer (some ⟨b, 0, none⟩)] [bl b 3 [.int .i64 0], bl a 3 [.int .i64 most]] [⟨sv, bs⟩] (fun (_ : Unit) v => v = stepTup (countD bs most).2.1 (countD bs most).2.2) (fun _ _ => [bl b 3 [.int .i64 ((countD bs most).1 : Int)], bl a 3 [.int .i64 most]]) (fun _ _ => []) := by
 refine Fnc.proof Tryz.func315 G 15 G G fun X w => sq<|rg<|asg G G<|asg G G<|nl<|nx<|sq<|rg<|mv G G<|ldB 1 G G one_3 G G<|cfv (counted_c _ _ _ hm) ok_316 G (Sc 0 G Sn) G<|mv G G<|xt G G G ?_
 refine xt G G G<|xt G G G<|stB 0 G G G one_3 G (Nat.lt_of_lt_of_le (Nat.lt_succ_self _) (Nat.le_of_ble_eq_true G))<|asg G G<|asg G G<|nl<|nx<|sq<|rg<|mv G G<|mv G G<|asg G G<|asg G G<|nl ?_
 exact nx<|rt<|fR2 () G G G G G Sn
end Go.Proofs.YtmpoffijcfaalaaGreat.Rdr

/- Copies: written by specs10.py. -/

namespace Go.Proofs.YtmpoffijcfaalaaGreat
open Go.Eng Go.YtmpoffijcfaalaaGreat

theorem cloneSt_c (sv : Value) (l : List TState) (hlen : l.length ≤ 100000) : Fnc Tryz.prog 70 [sv] [] [⟨sv, l⟩] (fun (_ : Unit) _ => True) (fun _ v => [@row TState rState 55 v l]) (fun _ v => []) := by
  refine Fnc.proof Tryz.func70 rfl 8 rfl rfl fun X w => sq<|rg<|asg rfl rfl<|nl<|nx<|sq<|sq<|rg<|mv rfl rfl<|eqN 0 Tryz.underlying28 rfl rfl rfl rfl fun q4 n4 => nl<|nx<|cdB rfl (fun h4 => ?_) (fun h4 => ?_)
  ·
    have hx : l = [] := n4 h4
    subst hx
    exact rwC TState 55<|sq<|rg<|asg rfl rfl<|nl<|nx<|rt<|tR<|fR1 () rfl rfl trivial rfl SubD.nil
  ·
    exact sk<|nx<|sq<|rg<|bs0 app_28 rfl fun b5 => rwB (α := TState) [] [] rfl rfl (fun _ _ _ => trivial) rfl<|mv rfl rfl<|ap 0 0 rfl rfl rfl rfl app_28 (by simp only [List.length_nil]; omega) (by simp only [List.length_nil]; omega) rfl fun v7 => asg rfl rfl<|nl<|nx<|rt<|fR1 () rfl rfl trivial rfl SubD.nil

theorem cloneAc_c (sv : Value) (l : List TAccount) (hlen : l.length ≤ 100000) : Fnc Tryz.prog 143 [sv] [] [⟨sv, l⟩] (fun (_ : Unit) _ => True) (fun _ v => [@row TAccount rAccount 70 v l]) (fun _ v => []) := by
  refine Fnc.proof Tryz.func143 rfl 8 rfl rfl fun X w => sq<|rg<|asg rfl rfl<|nl<|nx<|sq<|sq<|rg<|mv rfl rfl<|eqN 0 Tryz.underlying50 rfl rfl rfl rfl fun q4 n4 => nl<|nx<|cdB rfl (fun h4 => ?_) (fun h4 => ?_)
  ·
    have hx : l = [] := n4 h4
    subst hx
    exact rwC TAccount 70<|sq<|rg<|asg rfl rfl<|nl<|nx<|rt<|tR<|fR1 () rfl rfl trivial rfl SubD.nil
  ·
    exact sk<|nx<|sq<|rg<|bs0 app_50 rfl fun b5 => rwB (α := TAccount) [] [] rfl rfl (fun _ _ _ => trivial) rfl<|mv rfl rfl<|ap 0 0 rfl rfl rfl rfl app_50 (by simp only [List.length_nil]; omega) (by simp only [List.length_nil]; omega) rfl fun v7 => asg rfl rfl<|nl<|nx<|rt<|fR1 () rfl rfl trivial rfl SubD.nil

theorem cloneMk_c (sv : Value) (l : List TMark) (hlen : l.length ≤ 100000) : Fnc Tryz.prog 72 [sv] [] [⟨sv, l⟩] (fun (_ : Unit) _ => True) (fun _ v => []) (fun _ v => [⟨v, l⟩]) := by
  refine Fnc.proof Tryz.func72 rfl 8 rfl rfl fun X w => sq<|rg<|asg rfl rfl<|nl<|nx<|sq<|sq<|rg<|mv rfl rfl<|eqN 0 Tryz.underlying25 rfl rfl rfl rfl fun q4 n4 => nl<|nx<|cdB rfl (fun h4 => ?_) (fun h4 => ?_)
  ·
    have hx : l = [] := n4 h4
    subst hx
    exact emC (α := TMark)<|sq<|rg<|asg rfl rfl<|nl<|nx<|rt<|tR<|fR1 () rfl rfl trivial rfl (SubD.cons 0 rfl SubD.nil)
  ·
    exact sk<|nx<|sq<|rg<|bs0 app_25 rfl fun b5 => rwB (α := TMark) [] [] rfl rfl (fun _ _ _ => trivial) rfl<|mv rfl rfl<|ap 0 0 rfl rfl rfl rfl app_25 (by simp only [List.length_nil]; omega) (by simp only [List.length_nil]; omega) rfl fun v7 => asg rfl rfl<|nl<|nx<|rt<|frRQ<|fR1 () rfl rfl trivial rfl (SubD.cons 0 rfl SubD.nil)

theorem cloneWt_c (sv : Value) (l : List TWait) (hlen : l.length ≤ 100000) : Fnc Tryz.prog 145 [sv] [] [⟨sv, l⟩] (fun (_ : Unit) _ => True) (fun _ v => []) (fun _ v => [⟨v, l⟩]) := by
  refine Fnc.proof Tryz.func145 rfl 8 rfl rfl fun X w => sq<|rg<|asg rfl rfl<|nl<|nx<|sq<|sq<|rg<|mv rfl rfl<|eqN 0 Tryz.underlying51 rfl rfl rfl rfl fun q4 n4 => nl<|nx<|cdB rfl (fun h4 => ?_) (fun h4 => ?_)
  ·
    have hx : l = [] := n4 h4
    subst hx
    exact emC (α := TWait)<|sq<|rg<|asg rfl rfl<|nl<|nx<|rt<|tR<|fR1 () rfl rfl trivial rfl (SubD.cons 0 rfl SubD.nil)
  ·
    exact sk<|nx<|sq<|rg<|bs0 app_51 rfl fun b5 => rwB (α := TWait) [] [] rfl rfl (fun _ _ _ => trivial) rfl<|mv rfl rfl<|ap 0 0 rfl rfl rfl rfl app_51 (by simp only [List.length_nil]; omega) (by simp only [List.length_nil]; omega) rfl fun v7 => asg rfl rfl<|nl<|nx<|rt<|frRQ<|fR1 () rfl rfl trivial rfl (SubD.cons 0 rfl SubD.nil)

theorem cloneDl_c (sv : Value) (l : List TDeal) (hlen : l.length ≤ 100000) : Fnc Tryz.prog 146 [sv] [] [⟨sv, l⟩] (fun (_ : Unit) _ => True) (fun _ v => []) (fun _ v => [⟨v, l⟩]) := by
  refine Fnc.proof Tryz.func146 rfl 8 rfl rfl fun X w => sq<|rg<|asg rfl rfl<|nl<|nx<|sq<|sq<|rg<|mv rfl rfl<|eqN 0 Tryz.underlying52 rfl rfl rfl rfl fun q4 n4 => nl<|nx<|cdB rfl (fun h4 => ?_) (fun h4 => ?_)
  ·
    have hx : l = [] := n4 h4
    subst hx
    exact emC (α := TDeal)<|sq<|rg<|asg rfl rfl<|nl<|nx<|rt<|tR<|fR1 () rfl rfl trivial rfl (SubD.cons 0 rfl SubD.nil)
  ·
    exact sk<|nx<|sq<|rg<|bs0 app_52 rfl fun b5 => rwB (α := TDeal) [] [] rfl rfl (fun _ _ _ => trivial) rfl<|mv rfl rfl<|ap 0 0 rfl rfl rfl rfl app_52 (by simp only [List.length_nil]; omega) (by simp only [List.length_nil]; omega) rfl fun v7 => asg rfl rfl<|nl<|nx<|rt<|frRQ<|fR1 () rfl rfl trivial rfl (SubD.cons 0 rfl SubD.nil)

theorem cloneEn_c (sv : Value) (l : List TEnd) (hlen : l.length ≤ 100000) : Fnc Tryz.prog 147 [sv] [] [⟨sv, l⟩] (fun (_ : Unit) _ => True) (fun _ v => []) (fun _ v => [⟨v, l⟩]) := by
  refine Fnc.proof Tryz.func147 rfl 8 rfl rfl fun X w => sq<|rg<|asg rfl rfl<|nl<|nx<|sq<|sq<|rg<|mv rfl rfl<|eqN 0 Tryz.underlying53 rfl rfl rfl rfl fun q4 n4 => nl<|nx<|cdB rfl (fun h4 => ?_) (fun h4 => ?_)
  ·
    have hx : l = [] := n4 h4
    subst hx
    exact emC (α := TEnd)<|sq<|rg<|asg rfl rfl<|nl<|nx<|rt<|tR<|fR1 () rfl rfl trivial rfl (SubD.cons 0 rfl SubD.nil)
  ·
    exact sk<|nx<|sq<|rg<|bs0 app_53 rfl fun b5 => rwB (α := TEnd) [] [] rfl rfl (fun _ _ _ => trivial) rfl<|mv rfl rfl<|ap 0 0 rfl rfl rfl rfl app_53 (by simp only [List.length_nil]; omega) (by simp only [List.length_nil]; omega) rfl fun v7 => asg rfl rfl<|nl<|nx<|rt<|frRQ<|fR1 () rfl rfl trivial rfl (SubD.cons 0 rfl SubD.nil)

theorem cloneHo_c (sv : Value) (l : List THolder) (hlen : l.length ≤ 100000) : Fnc Tryz.prog 144 [sv] [] [⟨sv, l⟩] (fun (_ : Unit) _ => True) (fun _ v => []) (fun _ v => [⟨v, l⟩]) := by
  refine Fnc.proof Tryz.func144 rfl 8 rfl rfl fun X w => sq<|rg<|asg rfl rfl<|nl<|nx<|sq<|sq<|rg<|mv rfl rfl<|eqN 0 Tryz.underlying66 rfl rfl rfl rfl fun q4 n4 => nl<|nx<|cdB rfl (fun h4 => ?_) (fun h4 => ?_)
  ·
    have hx : l = [] := n4 h4
    subst hx
    exact emC (α := THolder)<|sq<|rg<|asg rfl rfl<|nl<|nx<|rt<|tR<|fR1 () rfl rfl trivial rfl (SubD.cons 0 rfl SubD.nil)
  ·
    exact sk<|nx<|sq<|rg<|bs0 app_66 rfl fun b5 => rwB (α := THolder) [] [] rfl rfl (fun _ _ _ => trivial) rfl<|mv rfl rfl<|ap 0 0 rfl rfl rfl rfl app_66 (by simp only [List.length_nil]; omega) (by simp only [List.length_nil]; omega) rfl fun v7 => asg rfl rfl<|nl<|nx<|rt<|frRQ<|fR1 () rfl rfl trivial rfl (SubD.cons 0 rfl SubD.nil)
end Go.Proofs.YtmpoffijcfaalaaGreat

/- Closed facts on the program, written by specs8.py. -/

namespace Go.Proofs.YtmpoffijcfaalaaGreat.Ep
open Go.Eng

theorem app_22 : AppTy Tryz.prog 22 90 3 32 := AppTy.mk Tryz.underlying22 (by kernel_rfl) (by decide)
theorem ok_71 : FnOk Tryz.prog 71 := ⟨⟨_, Tryz.func71, by kernel_rfl, rfl⟩⟩
theorem one_22 : OneTy Tryz.prog 22 := ⟨⟨_, Tryz.underlying22, rfl⟩, by kernel_rfl⟩
theorem zero_22 : ZeroOf Tryz.prog 22 [.slice none 0 0] := ZeroOf.mk (by kernel_rfl)
end Go.Proofs.YtmpoffijcfaalaaGreat.Ep

/- A copy of places, and what ranges over them: written by specs8.py. -/

namespace Go.Proofs.YtmpoffijcfaalaaGreat.Ep
open Go.Eng Go.YtmpoffijcfaalaaGreat
set_option maxHeartbeats 1000000

theorem clonePl_c (sv : Value) (l : List TPlace) (hlen : l.length ≤ 7) : Fnc Tryz.prog 71 [sv] [] [⟨sv, l⟩] (fun (_ : Unit) _ => True) (fun _ _ => []) (fun _ v => [⟨v, l⟩]) := by
 refine Fnc.proof Tryz.func71 G 8 G G fun X w => sq<|rg<|asg G G<|nl<|nx<|sq<|sq<|rg<|mv G G<|eqN 0 Tryz.underlying22 G G G G fun q4 n4 => nl<|nx<|cdB G (fun h4 => ?_) (fun h4 => ?_)
 ·
  have hx : l = [] := n4 h4
  subst hx
  exact emC (α := TPlace)<|sq<|rg<|asg G G<|nl<|nx<|rt<|tR<|fR1 () G G trivial G (Sc 0 G Sn)
 ·
  exact sk<|nx<|sq<|rg<|bs0 app_22 G fun b5 => rwB (α := TPlace) [] [] G G (fun _ _ _ => trivial) G<|mv G G<|ap 0 0 G G G G app_22 (by simp only [List.length_nil]; omega) (by simp only [List.length_nil]; omega) G fun v7 => asg G G<|nl<|nx<|rt<|frRQ<|fR1 () G G trivial G (Sc 0 G Sn)

theorem all_c (sv : Value) (l : List TPlace) (hlen : l.length ≤ 7) : Fnc Tryz.prog 231 [sv] [] [⟨sv, l⟩] (fun (y : Nat × Value) v => v = .func (.func 280) #[] #[.pointer (some ⟨y.1, 0, none⟩)]) (fun y _ => [bl y.1 22 [y.2]]) (fun y _ => [⟨y.2, l⟩]) := by
 refine Fnc.proof Tryz.func231 G 7 G G fun X w => sq<|rg<|asg G G<|nl<|nx<|sq<|rg<|mv G G<|cf (clonePl_c sv l hlen) ok_71 G (Sc 0 G Sn) G fun _ v5 _ => al zero_22 G fun b3 => stL 0 0 G G G G one_22 (Nat.lt_of_lt_of_le (Nat.lt_succ_self _) (Nat.le_of_ble_eq_true G))<|nl<|nx ?_
 exact sq<|rg<|mf (xs := [.tmp 3]) G G<|asg G G<|nl<|nx<|rt<|fR1 (b3, v5) G G G G (Sc 0 G Sn)
end Go.Proofs.YtmpoffijcfaalaaGreat.Ep

/- What ranges over places, round by round. -/

namespace Go.Proofs.YtmpoffijcfaalaaGreat.Ep
open Go.Eng Go.YtmpoffijcfaalaaGreat Go.RowKit
set_option maxHeartbeats 1000000

theorem ok_245 : FnOk Tryz.prog 245 := ⟨⟨_, Tryz.func245, by kernel_rfl, rfl⟩⟩
def item (l : List TPlace) (j : Nat) : ByteArray × TPlace := (endP l j, l.getD j default)
def upto (l : List TPlace) (k : Nat) : List (ByteArray × TPlace) := (List.range k).map (item l)
theorem upto_succ (l : List TPlace) (k : Nat) : upto l (k + 1) = upto l k ++ [item l k] := by simp [upto, List.range_succ]
theorem upto_len (l : List TPlace) (k : Nat) : (upto l k).length = k := by simp [upto]
def encs (x : ByteArray × TPlace) : Array Value := #[.string x.1, .agg (cPlace x.2).toArray]
theorem stp_own {b : Nat} {w w' : World} (h : Stp [b] w w') (hb : w'.heap[b]? = w.heap[b]?) : Stp [] w w' := ⟨h.os, h.tape, h.output, h.size, fun k hk _ => by
 by_cases e : k = b
 ·
  subst e; exact hb
 ·
  exact h.block k hk (by simpa using e)⟩
theorem bl_at {b : Nat} {cs : List Value} {T : TypeId} {w w0 : World} {L : Go.Eng.Own} {M : List Nat} (i : Nat) (hi : L[i]? = some (bl b T cs)) (st : St w0 M w L) : w.heap[b]? = some (.cells cs.toArray T (0, 0)) := st.own _ (List.mem_of_getElem? hi)
theorem start_st {b1 : Nat} {k5 : Value} {w : World} (box : w.heap[b1]? = some (.cells #[k5] 22 (0, 0))) : St w [b1] w [bl b1 22 [k5]] := ⟨Stp.refl _ _, fun p hp => by
 have : p = bl b1 22 [k5] := by simpa using hp
 subst this
 exact box, by simp [Own.bs, bsOf], fun b hb => .inl (by simpa [Own.bs, bsOf] using hb)⟩
theorem start_dh {b1 b3 n₀ : Nat} {k5 : Value} {w : World} {l : List TPlace} (hl : Atom.holds ⟨k5, l⟩ (fun b => b < n₀ ∧ b ≠ b1 ∧ b ≠ b3) w) (hn : n₀ ≤ w.heap.size) : DH [⟨k5, l⟩] w [bl b1 22 [k5]] := fun t ht => by
 have : t = ⟨k5, l⟩ := by simpa using ht
 subst this
 exact Atom.keep hl (fun b h => ⟨Nat.lt_of_lt_of_le h.1 hn, by simpa [Own.bs, bsOf] using h.2.1⟩) (fun _ _ => G)

theorem iter (n ll : Nat) (J Jx : List (ByteArray × TPlace) → World → Prop) (W : World) (b1 b3 n₀ : Nat) (k5 : Value) (l : List TPlace) (hb1 : b1 < n₀) (hne : b1 ≠ b3) (hn0 : n₀ ≤ W.heap.size)
  (box : W.heap[b1]? = some (.cells #[k5] 22 (0, 0))) (hl : Atom.holds ⟨k5, l⟩ (fun b => b < n₀ ∧ b ≠ b1 ∧ b ≠ b3) W) (hlen : l.length ≤ 7) (hJ : AbidesFrom W.heap.size J) (hJx : AbidesFrom W.heap.size Jx)
  (hY : ∀ pre x W1, J pre W1 → pre.length < l.length → YieldAt Fence.wide (n - 1) Tryz.prog ll (encs x) W1 fun e W' => (e = .returned (.bool true) ∧ J (pre ++ [x]) W' ∧ KB n₀ b3 W1 W') ∨ (e = .returned (.bool false) ∧ Jx (pre ++ [x]) W'))
  (h0 : J [] W) : Ret Tryz.prog 280 [.func (.yield ll) #[] #[], .pointer (some ⟨b1, 0, none⟩)] W (fun _ w' => J (upto l l.length) w' ∨ ∃ k, k ≤ l.length ∧ Jx (upto l k) w') := by
 have keepJ : ∀ {pre : List (ByteArray × TPlace)} {w w' : World}, J pre w → Stp [b1] w w' → w'.heap[b1]? = w.heap[b1]? → J pre w' := fun hj hs hb => hJ _ _ _ none hj (stp_own hs hb).grown (fun r h => by cases h)
 refine enter [b1] [bl b1 22 [k5]] [⟨k5, l⟩] Tryz.func280 G 20 G (Nat.le_of_ble_eq_true G) (start_st box) (start_dh hl hn0)<|sq<|rg<|ldB 0 G G one_22 G G<|lnP 0 G G Tryz.underlying22 G fun l6 => mv G G<|nl<|nx<|bk ?_
 refine lpW (σ := Nat) (fun i => [(7, .int .i64 (i : Int)), (6, .int .i64 (l.length : Int)), (5, k5), (1, .pointer (some ⟨b1, 0, none⟩)), (0, .func (.yield ll) #[] #[])])
  (fun i w => i ≤ l.length ∧ J (upto l i) w ∧ KB n₀ b3 W w) (fun i => l.length - i) 0 ⟨rfl, rfl, rfl, rfl, rfl, trivial⟩ ?_ ?_
 ·
  intro w st dh
  have hb := bl_at 0 rfl st
  refine ⟨Nat.zero_le _, keepJ h0 st.stp (hb.trans box.symm), ?_⟩
  have := stp_own st.stp (hb.trans box.symm)
  exact this.kb hn0 (by simp)
 ·
  rintro i w ⟨hi, hJw, hB⟩ a f
  have box' : w.heap[b1]? = some (.cells #[k5] 22 (0, 0)) := (hB.block b1 hb1 hne).trans box
  have hl' : Atom.holds ⟨k5, l⟩ (fun b => b < n₀ ∧ b ≠ b1 ∧ b ≠ b3) w := Atom.keep hl (fun _ h => h) (fun b h => hB.block b h.1 h.2.2)
  have hn' : n₀ ≤ w.heap.size := Nat.le_trans hn0 hB.size
  refine (show WC ⟨Tryz.prog, 20, w, [b1]⟩ _ _ _ [bl b1 22 [k5]] [⟨k5, l⟩] from ?_) a w f (start_st box') (start_dh hl' hn')
  refine sq<|rg<|ltI G G G<|nl<|nx<|sq<|cdP G (fun h8 => ?_) (fun h8 => ?_)
  ·
   refine sk<|nx<|sq<|bk<|sq<|rg<|mv G G<|ixP 0 G G G slt_22 (by omega) (getDE (d := default) (by omega)) G fun v10 => ldS 0 G G row_90 G fun q11 w11 => ?_
   refine al zero_90 G fun b4 => asg G G<|stW 0 (us := cPlace (l.getD i default)) G G G row_90 G G<|nl<|nx<|sq<|rgTail (n := n) (hd := 5) ⟨fun q_ => ([[], [], [], [1, 2], [], [], []] : List (List Nat)).getD q_ [], fun _ _ => True, fun _ _ => [], fun q_ => ([some (.func (.yield ll) #[] #[]), some k5, some (.int .i64 (i : Int)), some (.string (endP l i)), some (.agg (cPlace (l.getD i default)).toArray)] : List (Option Value)).getD q_ none, fun _ _ => [bl b4 90 (cPlace (l.getD i default)), bl b1 22 [k5]], [], [[]]⟩ ?_ mixed ?_ ?_ ?_ ?_ ?_ ?_
   ·
    rfl
   ·
    rfl
   ·
    exact Nat.le_of_ble_eq_true G
   ·
    rfl
   ·
    exact ⟨fun V De _=>aP1 (mv G G<|oh G G G G),fun V De _=>aP1 (ldB 1 G G one_22 G G<|oh G G G G),fun V De _=>aP1 (mv G G<|oh G G G G),fun V De _=>aP1 (cfv (end_c k5 l (i : Int) (inI (by omega) (by omega))) ok_245 G (Sc 2 G Sn) G<|oh G G G G),fun V De _=>aP1 (ldM 0 (cPlace (l.getD i default)) G G row_90 G G<|oh G G G G),trivial⟩
   ·
    intro listed hcl i5 h5 h7 hp
    have h7 : i5 < 7 := h7
    have : i5 = 5 ∨ i5 = 6 := by omega
    have g : listed.getD 0 false = true ∧ listed.getD 1 false = true ∧ listed.getD 2 false = true ∧ listed.getD 3 false = true ∧ listed.getD 4 false = true := by
     rcases this with rfl | rfl
     ·
      have g3 := hp 3 rfl
      exact ⟨hp 0 G, hcl 3 1 g3 G, hcl 3 2 g3 G, g3, hp 4 G⟩
     ·
      have g5 := hp 5 rfl
      have g3 := hcl 5 3 g5 rfl
      exact ⟨hcl 5 0 g5 G, hcl 3 1 g3 G, hcl 3 2 g3 G, g3, hcl 5 4 g5 G⟩
    intro k hk
    match k, hk with
    | 0, _ => exact g.1
    | 1, _ => exact g.2.1
    | 2, _ => exact g.2.2.1
    | 3, _ => exact g.2.2.2.1
    | 4, _ => exact g.2.2.2.2
   ·
    intro V _ a3 w3 f3 st3 dh3
    have hb3 := bl_at 1 rfl st3
    have hJ3 := keepJ hJw st3.stp (hb3.trans box'.symm)
    have hB3 : KB n₀ b3 w w3 := (stp_own st3.stp (hb3.trans box'.symm)).kb hn' (by simp)
    obtain ⟨fn, tmps, assign, body, hy, hR⟩ := hY (upto l i) (item l i) w3 hJ3 (by rw [upto_len]; omega)
    refine wpAnyIn_all (rs := [5]) (by kernel_rfl) (by simp) fun j hj => ?_
    have : j = 5 := by simpa using hj
    subst this
    refine wpOpIn_plain G G (round_in G G (fun _ => trivial) (run_round G (f3.ev G) (f3.evs G) hy) (hR.mono ?_))
    rintro e W' (⟨rfl, hJ4, hk4⟩ | ⟨rfl, hJ4⟩)
    ·
     refine ⟨_, G, wpAnyIn_all (rs := [6]) (by kernel_rfl) (by simp) fun j hj => ?_⟩
     have : j = 6 := by simpa using hj
     subst this
     have f4 := f3.put (d := 17) (.bool true) (by show 17 < 20; decide)
     refine wpOpIn_plain G G (not_in G G (f4.ev G) (fun _ => trivial) (wpAnyIn_done (by kernel_rfl) ?_ _))
     have f5 := f4.put (d := 18) (.bool false) (by show 18 < 20; decide)
     refine (show WC ⟨Tryz.prog, 20, W', []⟩ _ _ _ [] [] from ?_) _ W' f5 (St.start W' []) DH.nil
     refine cdF G<|sk<|bN<|nx<|rg<|adI G G (inI (by omega) (by omega)) G<|mv G G<|nl ?_
     intro a6 w6 f6 st6 _
     have e6 : Stp [] W' w6 := st6.stp
     refine ⟨i + 1, by omega, f6.sub ⟨G, G, G, G, G, trivial⟩, by omega, ?_, ?_⟩
     ·
      rw [upto_succ]
      exact hJ _ _ _ none hJ4 e6.grown (fun r h => by cases h)
     ·
      exact hB.trans (hB3.trans (hk4.trans (e6.kb (Nat.le_trans hn' (Nat.le_trans hB3.size hk4.size)) (by simp))))
    ·
     refine ⟨_, G, wpAnyIn_all (rs := [6]) (by kernel_rfl) (by simp) fun j hj => ?_⟩
     have : j = 6 := by simpa using hj
     subst this
     have f4 := f3.put (d := 17) (.bool false) (by show 17 < 20; decide)
     refine wpOpIn_plain G G (not_in G G (f4.ev G) (fun _ => trivial) (wpAnyIn_done (by kernel_rfl) ?_ _))
     have f5 := f4.put (d := 18) (.bool true) (by show 18 < 20; decide)
     refine (show WC ⟨Tryz.prog, 20, W', []⟩ _ _ _ [] [] from ?_) _ W' f5 (St.start W' []) DH.nil
     refine cdT G<|rt<|bR<|tR<|tR<|bR ?_
     intro a6 w6 f6 st6 _
     have e6 : Stp [] W' w6 := st6.stp
     refine bodyPost_ret (results_none G _ _ _) f6.dn ⟨_, G, .inr ⟨i + 1, by omega, ?_⟩⟩
     rw [upto_succ]
     exact hJx _ _ _ none hJ4 e6.grown (fun r h => by cases h)
  ·
   refine ex<|tE<|tE<|bE ?_
   intro a' w' f' st' dh'
   have e : i = l.length := by omega
   subst e
   exact bodyPost_end (results_none G _ _ _) f'.dn ⟨_, G, .inl (keepJ hJw st'.stp ((bl_at 0 G st').trans box'.symm))⟩
end Go.Proofs.YtmpoffijcfaalaaGreat.Ep
