/- Walks: written by specs1.py. -/
import Derived.Test.YtcjaodddckbciaaCodecW1
namespace Go.Proofs.Ytcjaodddckbciaa
open Go.Eng Go.Ytcjaodddckbciaa

theorem counted_c (sv : Value) (bs : List UInt8) (most : Int) (hm : InI most) : FnV Try.prog 32 [sv, .int .i64 most] [⟨sv, bs⟩] (intTup (countD bs most)) := by
  refine Fnc.proof Try.func32 rfl 31 rfl rfl fun X w => ?_
  have hb := numD_bd bs 0 0 (by decide) (by decide)
  have hN0 := number_c sv bs
  rcases hN : numD 0 0 bs with ⟨v, n, e⟩
  rw [hN] at hN0 hb
  have hN0 : FnV Try.prog 35 [sv] [⟨sv, bs⟩] (.tuple #[.int .u64 (v : Int), .int .i64 (n : Int), .int .i64 (e : Int)]) := hN0
  simp only at hb
  have hmx := max_in hm
  refine sq ?_
  refine rg ?_
  refine asg rfl rfl ?_
  refine asg rfl rfl ?_
  refine asg rfl rfl ?_
  refine nl ?_
  refine nx ?_
  refine sq ?_
  refine rg ?_
  refine mv rfl rfl ?_
  refine cfv (hN0) ok_35 rfl (SubD.cons 0 rfl SubD.nil) rfl ?_
  refine mv rfl rfl ?_
  refine xt rfl rfl rfl ?_
  refine xt rfl rfl rfl ?_
  refine xt rfl rfl rfl ?_
  refine asg rfl rfl ?_
  refine asg rfl rfl ?_
  refine asg rfl rfl ?_
  refine nl ?_
  refine nx ?_
  refine sq ?_
  refine sq ?_
  refine rg ?_
  refine mv rfl rfl ?_
  refine eqI rfl rfl rfl ?_
  refine mv rfl rfl ?_
  refine spP (i := 18) rfl (fun h18 => ?_) (fun h18 => ?_)
  ·
    refine gY rfl rfl rfl ?_
    refine mv rfl rfl ?_
    refine gY rfl rfl rfl ?_
    refine mv rfl rfl ?_
    refine gY rfl rfl rfl ?_
    refine mxI rfl rfl rfl rfl ?_
    refine gY rfl rfl rfl ?_
    refine cv Try.underlying3 Try.underlying44 rfl (wrap_u64_int (by omega) (by omega)) rfl ?_
    refine gY rfl rfl rfl ?_
    refine gtI rfl rfl rfl ?_
    refine pkT rfl rfl rfl ?_
    refine nl ?_
    refine nx ?_
    refine cdP rfl (fun h24 => ?_) (fun h24 => ?_)
    ·
      refine rg ?_
      refine asg rfl rfl ?_
      refine nl ?_
      refine nx ?_
      refine sq ?_
      refine sq ?_
      refine rg ?_
      refine mv rfl rfl ?_
      refine neI rfl rfl rfl ?_
      refine nl ?_
      refine nx ?_
      refine cdN rfl (fun h26 => ?_) (fun h26 => ?_)
      ·
        refine sq ?_
        refine rg ?_
        refine mv rfl rfl ?_
        refine asg rfl rfl ?_
        refine asg rfl rfl ?_
        refine asg rfl rfl ?_
        refine nl ?_
        refine nx ?_
        refine rt ?_
        refine tR ?_
        exact fR3 () rfl rfl rfl rfl (by have q := countD_of (most := most) hN; (repeat (first | rw [if_pos (by omega)] at q | rw [if_neg (by omega)] at q)); first | exact congrArg intTup q.symm | (exfalso; omega)) rfl SubD.nil
      ·
        refine sk ?_
        refine nx ?_
        refine sq ?_
        refine rg ?_
        refine mv rfl rfl ?_
        refine cv Try.underlying44 Try.underlying3 rfl (i64_of_nat (by omega)) rfl ?_
        refine mv rfl rfl ?_
        refine asg rfl rfl ?_
        refine asg rfl rfl ?_
        refine asg rfl rfl ?_
        refine nl ?_
        refine nx ?_
        refine rt ?_
        exact fR3 () rfl rfl rfl rfl (by have q := countD_of (most := most) hN; (repeat (first | rw [if_pos (by omega)] at q | rw [if_neg (by omega)] at q)); first | exact congrArg intTup q.symm | (exfalso; omega)) rfl SubD.nil
    ·
      refine sk ?_
      refine nx ?_
      refine sq ?_
      refine sq ?_
      refine rg ?_
      refine mv rfl rfl ?_
      refine neI rfl rfl rfl ?_
      refine nl ?_
      refine nx ?_
      refine cdN rfl (fun h26 => ?_) (fun h26 => ?_)
      ·
        refine sq ?_
        refine rg ?_
        refine mv rfl rfl ?_
        refine asg rfl rfl ?_
        refine asg rfl rfl ?_
        refine asg rfl rfl ?_
        refine nl ?_
        refine nx ?_
        refine rt ?_
        refine tR ?_
        exact fR3 () rfl rfl rfl rfl (by have q := countD_of (most := most) hN; (repeat (first | rw [if_pos (by omega)] at q | rw [if_neg (by omega)] at q)); first | exact congrArg intTup q.symm | (exfalso; omega)) rfl SubD.nil
      ·
        refine sk ?_
        refine nx ?_
        refine sq ?_
        refine rg ?_
        refine mv rfl rfl ?_
        refine cv Try.underlying44 Try.underlying3 rfl (i64_of_nat (by omega)) rfl ?_
        refine mv rfl rfl ?_
        refine asg rfl rfl ?_
        refine asg rfl rfl ?_
        refine asg rfl rfl ?_
        refine nl ?_
        refine nx ?_
        refine rt ?_
        exact fR3 () rfl rfl rfl rfl (by have q := countD_of (most := most) hN; (repeat (first | rw [if_pos (by omega)] at q | rw [if_neg (by omega)] at q)); first | exact congrArg intTup q.symm | (exfalso; omega)) rfl SubD.nil
  ·
    refine gN rfl rfl rfl rfl rfl ?_
    refine gN rfl rfl rfl rfl rfl ?_
    refine gN rfl rfl rfl rfl rfl ?_
    refine gN rfl rfl rfl rfl rfl ?_
    refine gN rfl rfl rfl rfl rfl ?_
    refine pkF rfl rfl rfl ?_
    refine nl ?_
    refine nx ?_
    refine cdF rfl ?_
    refine sk ?_
    refine nx ?_
    refine sq ?_
    refine sq ?_
    refine rg ?_
    refine mv rfl rfl ?_
    refine neI rfl rfl rfl ?_
    refine nl ?_
    refine nx ?_
    refine cdN rfl (fun h26 => ?_) (fun h26 => ?_)
    ·
      refine sq ?_
      refine rg ?_
      refine mv rfl rfl ?_
      refine asg rfl rfl ?_
      refine asg rfl rfl ?_
      refine asg rfl rfl ?_
      refine nl ?_
      refine nx ?_
      refine rt ?_
      refine tR ?_
      exact fR3 () rfl rfl rfl rfl (by have q := countD_of (most := most) hN; (repeat (first | rw [if_pos (by omega)] at q | rw [if_neg (by omega)] at q)); first | exact congrArg intTup q.symm | (exfalso; omega)) rfl SubD.nil
    ·
      refine sk ?_
      refine nx ?_
      refine sq ?_
      refine rg ?_
      refine mv rfl rfl ?_
      refine cv Try.underlying44 Try.underlying3 rfl (i64_of_nat (by omega)) rfl ?_
      refine mv rfl rfl ?_
      refine asg rfl rfl ?_
      refine asg rfl rfl ?_
      refine asg rfl rfl ?_
      refine nl ?_
      refine nx ?_
      refine rt ?_
      exact fR3 () rfl rfl rfl rfl (by have q := countD_of (most := most) hN; (repeat (first | rw [if_pos (by omega)] at q | rw [if_neg (by omega)] at q)); first | exact congrArg intTup q.symm | (exfalso; omega)) rfl SubD.nil

theorem byte1_c (b : Nat) (sv : Value) (bs : List UInt8) : Fnc Try.prog 25 [sv, .pointer (some ⟨b, 0, none⟩)] [bl b 5 [.int .u8 0]] [⟨sv, bs⟩] (fun (_ : Unit) v => v = stepTup (byteD bs).2.1 (byteD bs).2.2) (fun _ _ => [bl b 5 [.int .u8 ((byteD bs).1.toNat : Int)]]) (fun _ _ => []) := by
  refine Fnc.proof Try.func25 rfl 11 rfl rfl fun X w => ?_
  refine sq ?_
  refine rg ?_
  refine asg rfl rfl ?_
  refine asg rfl rfl ?_
  refine nl ?_
  refine nx ?_
  refine sq ?_
  refine sq ?_
  refine rg ?_
  refine mv rfl rfl ?_
  refine lnP 0 rfl rfl Try.underlying23 rfl fun l6 => ?_
  refine eqI rfl rfl rfl ?_
  refine nl ?_
  refine nx ?_
  refine cdP rfl (fun h7 => ?_) (fun h7 => ?_)
  ·
    have hx : bs = [] := List.eq_nil_of_length_eq_zero (by omega)
    subst hx
    refine sq ?_
    refine rg ?_
    refine asg rfl rfl ?_
    refine asg rfl rfl ?_
    refine nl ?_
    refine nx ?_
    refine rt ?_
    refine tR ?_
    exact fR2 () rfl rfl rfl rfl rfl SubD.nil
  ·
    obtain ⟨c, r, rfl⟩ : ∃ c r, bs = c :: r := by
      cases bs with
      | nil => exact absurd rfl h7
      | cons c r => exact ⟨c, r, rfl⟩
    refine sk ?_
    refine nx ?_
    refine sq ?_
    refine rg ?_
    refine mv rfl rfl ?_
    refine ixP 0 rfl rfl rfl slt_23 (by omega) (show (c :: r)[0]? = some c from rfl) rfl fun v9 => ?_
    refine ldV 0 rfl rfl one_5 rfl fun w10 => ?_
    refine stB 0 rfl rfl rfl one_5 rfl (Nat.lt_of_lt_of_le (Nat.lt_succ_self _) (Nat.le_of_ble_eq_true rfl)) ?_
    refine nl ?_
    refine nx ?_
    refine sq ?_
    refine rg ?_
    refine asg rfl rfl ?_
    refine asg rfl rfl ?_
    refine nl ?_
    refine nx ?_
    refine rt ?_
    exact fR2 () rfl rfl rfl rfl rfl SubD.nil

theorem num1_c (b : Nat) (sv : Value) (bs : List UInt8) : Fnc Try.prog 34 [sv, .pointer (some ⟨b, 0, none⟩)] [bl b 44 [.int .u64 0]] [⟨sv, bs⟩] (fun (_ : Unit) v => v = stepTup (numD 0 0 bs).2.1 (numD 0 0 bs).2.2) (fun _ _ => [bl b 44 [.int .u64 ((numD 0 0 bs).1 : Int)]]) (fun _ _ => []) := by
  refine Fnc.proof Try.func34 rfl 13 rfl rfl fun X w => ?_
  refine sq ?_
  refine rg ?_
  refine asg rfl rfl ?_
  refine asg rfl rfl ?_
  refine nl ?_
  refine nx ?_
  refine sq ?_
  refine rg ?_
  refine mv rfl rfl ?_
  refine cfv (number_c _ _) ok_35 rfl (SubD.cons 0 rfl SubD.nil) rfl ?_
  refine mv rfl rfl ?_
  refine xt rfl rfl rfl ?_
  refine xt rfl rfl rfl ?_
  refine xt rfl rfl rfl ?_
  refine stB 0 rfl rfl rfl one_44 rfl (Nat.lt_of_lt_of_le (Nat.lt_succ_self _) (Nat.le_of_ble_eq_true rfl)) ?_
  refine asg rfl rfl ?_
  refine asg rfl rfl ?_
  refine nl ?_
  refine nx ?_
  refine sq ?_
  refine rg ?_
  refine mv rfl rfl ?_
  refine mv rfl rfl ?_
  refine asg rfl rfl ?_
  refine asg rfl rfl ?_
  refine nl ?_
  refine nx ?_
  refine rt ?_
  exact fR2 () rfl rfl rfl rfl rfl SubD.nil

theorem count1_c (a b : Nat) (sv : Value) (bs : List UInt8) (most : Int) (hm : InI most) : Fnc Try.prog 33 [sv, .pointer (some ⟨a, 0, none⟩), .pointer (some ⟨b, 0, none⟩)] [bl b 3 [.int .i64 0], bl a 3 [.int .i64 most]] [⟨sv, bs⟩] (fun (_ : Unit) v => v = stepTup (countD bs most).2.1 (countD bs most).2.2) (fun _ _ => [bl b 3 [.int .i64 ((countD bs most).1 : Int)], bl a 3 [.int .i64 most]]) (fun _ _ => []) := by
  refine Fnc.proof Try.func33 rfl 15 rfl rfl fun X w => ?_
  refine sq ?_
  refine rg ?_
  refine asg rfl rfl ?_
  refine asg rfl rfl ?_
  refine nl ?_
  refine nx ?_
  refine sq ?_
  refine rg ?_
  refine mv rfl rfl ?_
  refine ldB 1 rfl rfl one_3 rfl rfl ?_
  refine cfv (counted_c _ _ _ hm) ok_32 rfl (SubD.cons 0 rfl SubD.nil) rfl ?_
  refine mv rfl rfl ?_
  refine xt rfl rfl rfl ?_
  refine xt rfl rfl rfl ?_
  refine xt rfl rfl rfl ?_
  refine stB 0 rfl rfl rfl one_3 rfl (Nat.lt_of_lt_of_le (Nat.lt_succ_self _) (Nat.le_of_ble_eq_true rfl)) ?_
  refine asg rfl rfl ?_
  refine asg rfl rfl ?_
  refine nl ?_
  refine nx ?_
  refine sq ?_
  refine rg ?_
  refine mv rfl rfl ?_
  refine mv rfl rfl ?_
  refine asg rfl rfl ?_
  refine asg rfl rfl ?_
  refine nl ?_
  refine nx ?_
  refine rt ?_
  exact fR2 () rfl rfl rfl rfl rfl SubD.nil
end Go.Proofs.Ytcjaodddckbciaa
