/- Walks: written by specs1.py. -/
import Derived.Test.YtcjaodddckbciaaCodecW6
namespace Go.Proofs.Ytcjaodddckbciaa
open Go.Eng Go.Ytcjaodddckbciaa

theorem plain_int (a b : Value) (xs ys : List Int) : FnV Try.prog 21 [a, b] [⟨a, xs⟩, ⟨b, ys⟩] (.bool (decide (xs = ys))) := by
  refine Fnc.proof Try.func21 rfl 26 rfl rfl fun X w => ?_
  refine sq ?_
  refine rg ?_
  refine asg rfl rfl ?_
  refine nl ?_
  refine nx ?_
  refine sq ?_
  refine sq ?_
  refine rg ?_
  refine mv rfl rfl ?_
  refine lnP 0 rfl rfl Try.underlying33 rfl fun l7 => ?_
  refine mv rfl rfl ?_
  refine lnP 1 rfl rfl Try.underlying33 rfl fun l9 => ?_
  refine neI rfl rfl rfl ?_
  refine nl ?_
  refine nx ?_
  refine cdN rfl (fun h10 => ?_) (fun h10 => ?_)
  ·
    have hl : ¬ xs.length = ys.length := by omega
    refine sq ?_
    refine rg ?_
    refine asg rfl rfl ?_
    refine nl ?_
    refine nx ?_
    refine rt ?_
    refine tR ?_
    exact fR1 () rfl rfl (by rw [decide_eq_false (fun e => hl (by rw [e]))]) rfl SubD.nil
  ·
    have hl : xs.length = ys.length := by omega
    refine sk ?_
    refine nx ?_
    refine sq ?_
    refine sq ?_
    refine rg ?_
    refine asg rfl rfl ?_
    refine nl ?_
    refine nx ?_
    refine bk ?_
    refine lp (σ := Nat) (fun i => [(0, a), (1, b), (5, .int .i64 (i : Int))]) (fun _ => [fz X w]) (fun _ => [⟨a, xs⟩, ⟨b, ys⟩]) (fun i => i ≤ xs.length ∧ xs.take i = ys.take i) (fun i => xs.length - i) 0 ⟨Nat.zero_le _, rfl⟩ ⟨rfl, rfl, rfl, trivial⟩ rfl SubD.refl ?_
    rintro i ⟨h1, h2⟩
    refine sq ?_
    refine sq ?_
    refine rg ?_
    refine mv rfl rfl ?_
    refine mv rfl rfl ?_
    refine lnP 0 rfl rfl Try.underlying33 rfl fun l13 => ?_
    refine ltI rfl rfl rfl ?_
    refine nl ?_
    refine nx ?_
    refine cdP rfl (fun h14 => ?_) (fun h14 => ?_)
    ·
      refine sk ?_
      refine nx ?_
      refine sq ?_
      refine bk ?_
      refine sq ?_
      refine rgQ mixed (by kernel_rfl) ?_
      refine mv rfl rfl ?_
      refine mv rfl rfl ?_
      obtain ⟨c, hc⟩ : ∃ c, xs[i]? = some c := ⟨_, getE (by omega)⟩
      obtain ⟨d, hd⟩ : ∃ d, ys[i]? = some d := ⟨_, getE (by omega)⟩
      refine ixP 0 rfl rfl rfl slt_33 (by omega) hc rfl fun v19 => ?_
      refine ldV 0 rfl rfl one_3 rfl fun w20 => ?_
      refine mv rfl rfl ?_
      refine mv rfl rfl ?_
      refine ixP 2 rfl rfl rfl slt_33 (by omega) hd rfl fun v23 => ?_
      refine ldV 0 rfl rfl one_3 rfl fun w24 => ?_
      refine neI rfl rfl rfl ?_
      refine nlQ ?_
      refine nx ?_
      refine cdN rfl (fun h25 => ?_) (fun h25 => ?_)
      ·
        refine sq ?_
        refine rg ?_
        refine asg rfl rfl ?_
        refine nl ?_
        refine nx ?_
        refine rt ?_
        refine bR ?_
        refine tR ?_
        refine tR ?_
        refine bR ?_
        refine tR ?_
        exact fR1 () rfl rfl (by rw [decide_eq_false (fun e => h25 (by subst e; have := hc.symm.trans hd; simp at this; rw [this]))]) rfl SubD.nil
      ·
        have h25 := h25
        refine sk ?_
        refine bN ?_
        refine nx ?_
        refine rg ?_
        refine mv rfl rfl ?_
        refine adI rfl rfl (inI (by omega) (by omega)) rfl ?_
        refine asg rfl rfl ?_
        refine nl ?_
        exact ag (i + 1) ⟨by omega, drop_two hc hd h2 (by exact h25)⟩ (by omega) ⟨rfl, rfl, rfl, trivial⟩ rfl (SubD.cons 2 rfl (SubD.cons 3 rfl SubD.nil))
    ·
      refine ex ?_
      refine tE ?_
      refine tE ?_
      refine bE ?_
      refine nx ?_
      refine sq ?_
      refine rg ?_
      refine asg rfl rfl ?_
      refine nl ?_
      refine nx ?_
      refine rt ?_
      exact fR1 () rfl rfl (by rw [decide_eq_true (by have := h2; rwa [List.take_of_length_le (by omega), List.take_of_length_le (by omega)] at this)]) rfl SubD.nil

theorem plain_byte (a b : Value) (xs ys : List UInt8) : FnV Try.prog 22 [a, b] [⟨a, xs⟩, ⟨b, ys⟩] (.bool (decide (xs = ys))) := by
  refine Fnc.proof Try.func22 rfl 26 rfl rfl fun X w => ?_
  refine sq ?_
  refine rg ?_
  refine asg rfl rfl ?_
  refine nl ?_
  refine nx ?_
  refine sq ?_
  refine sq ?_
  refine rg ?_
  refine mv rfl rfl ?_
  refine lnP 0 rfl rfl Try.underlying23 rfl fun l7 => ?_
  refine mv rfl rfl ?_
  refine lnP 1 rfl rfl Try.underlying23 rfl fun l9 => ?_
  refine neI rfl rfl rfl ?_
  refine nl ?_
  refine nx ?_
  refine cdN rfl (fun h10 => ?_) (fun h10 => ?_)
  ·
    have hl : ¬ xs.length = ys.length := by omega
    refine sq ?_
    refine rg ?_
    refine asg rfl rfl ?_
    refine nl ?_
    refine nx ?_
    refine rt ?_
    refine tR ?_
    exact fR1 () rfl rfl (by rw [decide_eq_false (fun e => hl (by rw [e]))]) rfl SubD.nil
  ·
    have hl : xs.length = ys.length := by omega
    refine sk ?_
    refine nx ?_
    refine sq ?_
    refine sq ?_
    refine rg ?_
    refine asg rfl rfl ?_
    refine nl ?_
    refine nx ?_
    refine bk ?_
    refine lp (σ := Nat) (fun i => [(0, a), (1, b), (5, .int .i64 (i : Int))]) (fun _ => [fz X w]) (fun _ => [⟨a, xs⟩, ⟨b, ys⟩]) (fun i => i ≤ xs.length ∧ xs.take i = ys.take i) (fun i => xs.length - i) 0 ⟨Nat.zero_le _, rfl⟩ ⟨rfl, rfl, rfl, trivial⟩ rfl SubD.refl ?_
    rintro i ⟨h1, h2⟩
    refine sq ?_
    refine sq ?_
    refine rg ?_
    refine mv rfl rfl ?_
    refine mv rfl rfl ?_
    refine lnP 0 rfl rfl Try.underlying23 rfl fun l13 => ?_
    refine ltI rfl rfl rfl ?_
    refine nl ?_
    refine nx ?_
    refine cdP rfl (fun h14 => ?_) (fun h14 => ?_)
    ·
      refine sk ?_
      refine nx ?_
      refine sq ?_
      refine bk ?_
      refine sq ?_
      refine rgQ mixed (by kernel_rfl) ?_
      refine mv rfl rfl ?_
      refine mv rfl rfl ?_
      obtain ⟨c, hc⟩ : ∃ c, xs[i]? = some c := ⟨_, getE (by omega)⟩
      obtain ⟨d, hd⟩ : ∃ d, ys[i]? = some d := ⟨_, getE (by omega)⟩
      refine ixP 0 rfl rfl rfl slt_23 (by omega) hc rfl fun v19 => ?_
      refine ldV 0 rfl rfl one_5 rfl fun w20 => ?_
      refine mv rfl rfl ?_
      refine mv rfl rfl ?_
      refine ixP 2 rfl rfl rfl slt_23 (by omega) hd rfl fun v23 => ?_
      refine ldV 0 rfl rfl one_5 rfl fun w24 => ?_
      refine neI rfl rfl rfl ?_
      refine nlQ ?_
      refine nx ?_
      refine cdN rfl (fun h25 => ?_) (fun h25 => ?_)
      ·
        refine sq ?_
        refine rg ?_
        refine asg rfl rfl ?_
        refine nl ?_
        refine nx ?_
        refine rt ?_
        refine bR ?_
        refine tR ?_
        refine tR ?_
        refine bR ?_
        refine tR ?_
        exact fR1 () rfl rfl (by rw [decide_eq_false (fun e => h25 (by subst e; have := hc.symm.trans hd; simp at this; rw [this]))]) rfl SubD.nil
      ·
        have h25 := h25
        refine sk ?_
        refine bN ?_
        refine nx ?_
        refine rg ?_
        refine mv rfl rfl ?_
        refine adI rfl rfl (inI (by omega) (by omega)) rfl ?_
        refine asg rfl rfl ?_
        refine nl ?_
        exact ag (i + 1) ⟨by omega, drop_two hc hd h2 (by exact UInt8.toNat_inj.1 (by omega))⟩ (by omega) ⟨rfl, rfl, rfl, trivial⟩ rfl (SubD.cons 2 rfl (SubD.cons 3 rfl SubD.nil))
    ·
      refine ex ?_
      refine tE ?_
      refine tE ?_
      refine bE ?_
      refine nx ?_
      refine sq ?_
      refine rg ?_
      refine asg rfl rfl ?_
      refine nl ?_
      refine nx ?_
      refine rt ?_
      exact fR1 () rfl rfl (by rw [decide_eq_true (by have := h2; rwa [List.take_of_length_le (by omega), List.take_of_length_le (by omega)] at this)]) rfl SubD.nil

theorem bytes_c (a b : Value) (xs ys : List UInt8) : FnV Try.prog 10 [a, b] [⟨a, xs⟩, ⟨b, ys⟩] (.bool (decide (xs = ys))) := by
  refine Fnc.proof Try.func10 rfl 8 rfl rfl fun X w => ?_
  refine sq ?_
  refine rg ?_
  refine asg rfl rfl ?_
  refine nl ?_
  refine nx ?_
  refine sq ?_
  refine rg ?_
  refine mv rfl rfl ?_
  refine mv rfl rfl ?_
  refine cfv (plain_byte _ _ _ _) ok_22 rfl (SubD.cons 0 rfl (SubD.cons 1 rfl SubD.nil)) rfl ?_
  refine asg rfl rfl ?_
  refine nl ?_
  refine nx ?_
  refine rt ?_
  exact fR1 () rfl rfl rfl rfl SubD.nil

theorem eq_32 : EqTy Try.prog 32 opCells := by
  refine ⟨by kernel_rfl, fun a b w => ?_⟩
  rw [run_equalIn_struct w 9999 32 _ _ (by simp only [Program.fieldsOf, Try.underlying32]) (by kernel_rfl)]
  simp only [Program.fieldsOf, Try.underlying32]
  refine (eqF rfl Try.underlying3 rfl rfl rfl (eqFi Try.underlying3 _ _) (eqF rfl Try.underlying9 rfl rfl rfl (eqFs Try.underlying9 _ _) (eqF rfl Try.underlying9 rfl rfl rfl (eqFs Try.underlying9 _ _) (eqF rfl Try.underlying3 rfl rfl rfl (eqFi Try.underlying3 _ _) (eqF rfl Try.underlying3 rfl rfl rfl (eqFi Try.underlying3 _ _) (eqF rfl Try.underlying3 rfl rfl rfl (eqFi Try.underlying3 _ _) (fun w => eqF0 w)))))) w).trans ?_
  congr 1
  obtain ⟨a1, a2, a3, a4, a5, a6⟩ := a
  obtain ⟨b1, b2, b3, b4, b5, b6⟩ := b
  simp [OpV.mk.injEq, Bool.and_assoc]

theorem event_eq (a b : Ev) (ka kb : Value) : FnV Try.prog 8 [.agg (evCells a ka).toArray, .agg (evCells b kb).toArray] [⟨ka, a.keep⟩, ⟨kb, b.keep⟩] (.bool (evEq a b)) := by
  refine Fnc.proof Try.func8 rfl 52 rfl rfl fun X w => ?_
  refine sq ?_
  refine rg ?_
  refine bx (cs := evCells a ka) rfl rfl rfl fun b2 => ?_
  refine bx (cs := evCells b kb) rfl rfl rfl fun b3 => ?_
  refine asg rfl rfl ?_
  refine nl ?_
  refine nx ?_
  refine sq ?_
  refine rg ?_
  refine fa rfl fld_35_0 rfl ?_
  refine ldB 1 rfl rfl one_3 rfl rfl ?_
  refine fa rfl fld_35_0 rfl ?_
  refine ldB 0 rfl rfl one_3 rfl rfl ?_
  refine eqI rfl rfl rfl ?_
  refine mv rfl rfl ?_
  refine spP (i := 10) rfl (fun h10 => ?_) (fun h10 => ?_)
  ·
    refine gY rfl rfl rfl ?_
    refine fa rfl fld_35_1 rfl ?_
    refine gY rfl rfl rfl ?_
    refine ldB 1 rfl rfl one_3 rfl rfl ?_
    refine gY rfl rfl rfl ?_
    refine fa rfl fld_35_1 rfl ?_
    refine gY rfl rfl rfl ?_
    refine ldB 0 rfl rfl one_3 rfl rfl ?_
    refine gY rfl rfl rfl ?_
    refine eqI rfl rfl rfl ?_
    refine pkT rfl rfl rfl ?_
    refine mv rfl rfl ?_
    refine spP (i := 17) rfl (fun h17 => ?_) (fun h17 => ?_)
    ·
      refine gY rfl rfl rfl ?_
      refine fa rfl fld_35_2 rfl ?_
      refine gY rfl rfl rfl ?_
      refine ldB 1 rfl rfl one_3 rfl rfl ?_
      refine gY rfl rfl rfl ?_
      refine fa rfl fld_35_2 rfl ?_
      refine gY rfl rfl rfl ?_
      refine ldB 0 rfl rfl one_3 rfl rfl ?_
      refine gY rfl rfl rfl ?_
      refine eqI rfl rfl rfl ?_
      refine pkT rfl rfl rfl ?_
      refine mv rfl rfl ?_
      refine spP (i := 24) rfl (fun h24 => ?_) (fun h24 => ?_)
      ·
        refine gY rfl rfl rfl ?_
        refine fa rfl fld_35_3 rfl ?_
        refine gY rfl rfl rfl ?_
        refine ldB 1 rfl rfl one_3 rfl rfl ?_
        refine gY rfl rfl rfl ?_
        refine fa rfl fld_35_3 rfl ?_
        refine gY rfl rfl rfl ?_
        refine ldB 0 rfl rfl one_3 rfl rfl ?_
        refine gY rfl rfl rfl ?_
        refine eqI rfl rfl rfl ?_
        refine pkT rfl rfl rfl ?_
        refine mv rfl rfl ?_
        refine spP (i := 31) rfl (fun h31 => ?_) (fun h31 => ?_)
        ·
          refine gY rfl rfl rfl ?_
          refine fa rfl fld_35_4 rfl ?_
          refine gY rfl rfl rfl ?_
          refine ldB 1 rfl rfl one_3 rfl rfl ?_
          refine gY rfl rfl rfl ?_
          refine fa rfl fld_35_4 rfl ?_
          refine gY rfl rfl rfl ?_
          refine ldB 0 rfl rfl one_3 rfl rfl ?_
          refine gY rfl rfl rfl ?_
          refine eqI rfl rfl rfl ?_
          refine pkT rfl rfl rfl ?_
          refine mv rfl rfl ?_
          refine spP (i := 38) rfl (fun h38 => ?_) (fun h38 => ?_)
          ·
            refine gY rfl rfl rfl ?_
            refine fa rfl fld_35_5 rfl ?_
            refine gY rfl rfl rfl ?_
            refine ldM 1 (opCells a.op) rfl rfl row_32 rfl rfl ?_
            refine gY rfl rfl rfl ?_
            refine fa rfl fld_35_5 rfl ?_
            refine gY rfl rfl rfl ?_
            refine ldM 0 (opCells b.op) rfl rfl row_32 rfl rfl ?_
            refine gY rfl rfl rfl ?_
            refine eqT eq_32 a.op b.op rfl rfl rfl ?_
            refine pkT rfl rfl rfl ?_
            refine mv rfl rfl ?_
            refine spP (i := 45) rfl (fun h45 => ?_) (fun h45 => ?_)
            ·
              refine gY rfl rfl rfl ?_
              refine fa rfl fld_35_6 rfl ?_
              refine gY rfl rfl rfl ?_
              refine ldB 1 rfl rfl one_33 rfl rfl ?_
              refine gY rfl rfl rfl ?_
              refine fa rfl fld_35_6 rfl ?_
              refine gY rfl rfl rfl ?_
              refine ldB 0 rfl rfl one_33 rfl rfl ?_
              refine gY rfl rfl rfl ?_
              refine cfv (plain_int _ _ _ _) ok_21 rfl (SubD.cons 0 rfl (SubD.cons 1 rfl SubD.nil)) rfl ?_
              refine pkT rfl rfl rfl ?_
              refine asg rfl rfl ?_
              refine nl ?_
              refine nx ?_
              refine rt ?_
              refine dpQ (dpQ ?_)
              exact fR1 () rfl rfl (by simp [evEq, *]) rfl SubD.nil
            ·
              refine gN rfl rfl rfl rfl rfl ?_
              refine gN rfl rfl rfl rfl rfl ?_
              refine gN rfl rfl rfl rfl rfl ?_
              refine gN rfl rfl rfl rfl rfl ?_
              refine gN rfl rfl rfl rfl rfl ?_
              refine pkF rfl rfl rfl ?_
              refine asg rfl rfl ?_
              refine nl ?_
              refine nx ?_
              refine rt ?_
              refine dpQ (dpQ ?_)
              exact fR1 () rfl rfl (by simp [evEq, *]) rfl SubD.nil
          ·
            refine gN rfl rfl rfl rfl rfl ?_
            refine gN rfl rfl rfl rfl rfl ?_
            refine gN rfl rfl rfl rfl rfl ?_
            refine gN rfl rfl rfl rfl rfl ?_
            refine gN rfl rfl rfl rfl rfl ?_
            refine pkF rfl rfl rfl ?_
            refine mv rfl rfl ?_
            refine gN rfl rfl rfl rfl rfl ?_
            refine gN rfl rfl rfl rfl rfl ?_
            refine gN rfl rfl rfl rfl rfl ?_
            refine gN rfl rfl rfl rfl rfl ?_
            refine gN rfl rfl rfl rfl rfl ?_
            refine pkF rfl rfl rfl ?_
            refine asg rfl rfl ?_
            refine nl ?_
            refine nx ?_
            refine rt ?_
            refine dpQ (dpQ ?_)
            exact fR1 () rfl rfl (by simp [evEq, *]) rfl SubD.nil
        ·
          refine gN rfl rfl rfl rfl rfl ?_
          refine gN rfl rfl rfl rfl rfl ?_
          refine gN rfl rfl rfl rfl rfl ?_
          refine gN rfl rfl rfl rfl rfl ?_
          refine gN rfl rfl rfl rfl rfl ?_
          refine pkF rfl rfl rfl ?_
          refine mv rfl rfl ?_
          refine gN rfl rfl rfl rfl rfl ?_
          refine gN rfl rfl rfl rfl rfl ?_
          refine gN rfl rfl rfl rfl rfl ?_
          refine gN rfl rfl rfl rfl rfl ?_
          refine gN rfl rfl rfl rfl rfl ?_
          refine pkF rfl rfl rfl ?_
          refine mv rfl rfl ?_
          refine gN rfl rfl rfl rfl rfl ?_
          refine gN rfl rfl rfl rfl rfl ?_
          refine gN rfl rfl rfl rfl rfl ?_
          refine gN rfl rfl rfl rfl rfl ?_
          refine gN rfl rfl rfl rfl rfl ?_
          refine pkF rfl rfl rfl ?_
          refine asg rfl rfl ?_
          refine nl ?_
          refine nx ?_
          refine rt ?_
          refine dpQ (dpQ ?_)
          exact fR1 () rfl rfl (by simp [evEq, *]) rfl SubD.nil
      ·
        refine gN rfl rfl rfl rfl rfl ?_
        refine gN rfl rfl rfl rfl rfl ?_
        refine gN rfl rfl rfl rfl rfl ?_
        refine gN rfl rfl rfl rfl rfl ?_
        refine gN rfl rfl rfl rfl rfl ?_
        refine pkF rfl rfl rfl ?_
        refine mv rfl rfl ?_
        refine gN rfl rfl rfl rfl rfl ?_
        refine gN rfl rfl rfl rfl rfl ?_
        refine gN rfl rfl rfl rfl rfl ?_
        refine gN rfl rfl rfl rfl rfl ?_
        refine gN rfl rfl rfl rfl rfl ?_
        refine pkF rfl rfl rfl ?_
        refine mv rfl rfl ?_
        refine gN rfl rfl rfl rfl rfl ?_
        refine gN rfl rfl rfl rfl rfl ?_
        refine gN rfl rfl rfl rfl rfl ?_
        refine gN rfl rfl rfl rfl rfl ?_
        refine gN rfl rfl rfl rfl rfl ?_
        refine pkF rfl rfl rfl ?_
        refine mv rfl rfl ?_
        refine gN rfl rfl rfl rfl rfl ?_
        refine gN rfl rfl rfl rfl rfl ?_
        refine gN rfl rfl rfl rfl rfl ?_
        refine gN rfl rfl rfl rfl rfl ?_
        refine gN rfl rfl rfl rfl rfl ?_
        refine pkF rfl rfl rfl ?_
        refine asg rfl rfl ?_
        refine nl ?_
        refine nx ?_
        refine rt ?_
        refine dpQ (dpQ ?_)
        exact fR1 () rfl rfl (by simp [evEq, *]) rfl SubD.nil
    ·
      refine gN rfl rfl rfl rfl rfl ?_
      refine gN rfl rfl rfl rfl rfl ?_
      refine gN rfl rfl rfl rfl rfl ?_
      refine gN rfl rfl rfl rfl rfl ?_
      refine gN rfl rfl rfl rfl rfl ?_
      refine pkF rfl rfl rfl ?_
      refine mv rfl rfl ?_
      refine gN rfl rfl rfl rfl rfl ?_
      refine gN rfl rfl rfl rfl rfl ?_
      refine gN rfl rfl rfl rfl rfl ?_
      refine gN rfl rfl rfl rfl rfl ?_
      refine gN rfl rfl rfl rfl rfl ?_
      refine pkF rfl rfl rfl ?_
      refine mv rfl rfl ?_
      refine gN rfl rfl rfl rfl rfl ?_
      refine gN rfl rfl rfl rfl rfl ?_
      refine gN rfl rfl rfl rfl rfl ?_
      refine gN rfl rfl rfl rfl rfl ?_
      refine gN rfl rfl rfl rfl rfl ?_
      refine pkF rfl rfl rfl ?_
      refine mv rfl rfl ?_
      refine gN rfl rfl rfl rfl rfl ?_
      refine gN rfl rfl rfl rfl rfl ?_
      refine gN rfl rfl rfl rfl rfl ?_
      refine gN rfl rfl rfl rfl rfl ?_
      refine gN rfl rfl rfl rfl rfl ?_
      refine pkF rfl rfl rfl ?_
      refine mv rfl rfl ?_
      refine gN rfl rfl rfl rfl rfl ?_
      refine gN rfl rfl rfl rfl rfl ?_
      refine gN rfl rfl rfl rfl rfl ?_
      refine gN rfl rfl rfl rfl rfl ?_
      refine gN rfl rfl rfl rfl rfl ?_
      refine pkF rfl rfl rfl ?_
      refine asg rfl rfl ?_
      refine nl ?_
      refine nx ?_
      refine rt ?_
      refine dpQ (dpQ ?_)
      exact fR1 () rfl rfl (by simp [evEq, *]) rfl SubD.nil
  ·
    refine gN rfl rfl rfl rfl rfl ?_
    refine gN rfl rfl rfl rfl rfl ?_
    refine gN rfl rfl rfl rfl rfl ?_
    refine gN rfl rfl rfl rfl rfl ?_
    refine gN rfl rfl rfl rfl rfl ?_
    refine pkF rfl rfl rfl ?_
    refine mv rfl rfl ?_
    refine gN rfl rfl rfl rfl rfl ?_
    refine gN rfl rfl rfl rfl rfl ?_
    refine gN rfl rfl rfl rfl rfl ?_
    refine gN rfl rfl rfl rfl rfl ?_
    refine gN rfl rfl rfl rfl rfl ?_
    refine pkF rfl rfl rfl ?_
    refine mv rfl rfl ?_
    refine gN rfl rfl rfl rfl rfl ?_
    refine gN rfl rfl rfl rfl rfl ?_
    refine gN rfl rfl rfl rfl rfl ?_
    refine gN rfl rfl rfl rfl rfl ?_
    refine gN rfl rfl rfl rfl rfl ?_
    refine pkF rfl rfl rfl ?_
    refine mv rfl rfl ?_
    refine gN rfl rfl rfl rfl rfl ?_
    refine gN rfl rfl rfl rfl rfl ?_
    refine gN rfl rfl rfl rfl rfl ?_
    refine gN rfl rfl rfl rfl rfl ?_
    refine gN rfl rfl rfl rfl rfl ?_
    refine pkF rfl rfl rfl ?_
    refine mv rfl rfl ?_
    refine gN rfl rfl rfl rfl rfl ?_
    refine gN rfl rfl rfl rfl rfl ?_
    refine gN rfl rfl rfl rfl rfl ?_
    refine gN rfl rfl rfl rfl rfl ?_
    refine gN rfl rfl rfl rfl rfl ?_
    refine pkF rfl rfl rfl ?_
    refine mv rfl rfl ?_
    refine gN rfl rfl rfl rfl rfl ?_
    refine gN rfl rfl rfl rfl rfl ?_
    refine gN rfl rfl rfl rfl rfl ?_
    refine gN rfl rfl rfl rfl rfl ?_
    refine gN rfl rfl rfl rfl rfl ?_
    refine pkF rfl rfl rfl ?_
    refine asg rfl rfl ?_
    refine nl ?_
    refine nx ?_
    refine rt ?_
    refine dpQ (dpQ ?_)
    exact fR1 () rfl rfl (by simp [evEq, *]) rfl SubD.nil

theorem plain_ev (a : Ev) (ka : Value) : FnV Try.prog 9 [.agg (evCells a ka).toArray] [⟨ka, a.keep⟩] (.agg (evCells (plainEv a) (if keeps a.kind = true then ka else .slice none 0 0)).toArray) := by
  refine Fnc.proof Try.func9 rfl 18 rfl rfl fun X w => ?_
  refine gtC (q := ka.oneCell' = true) (fun S w h => oneCell_of_list (h _ (List.mem_cons_self ..))) fun hka => ?_
  have hka : (evCells (plainEv a) (if keeps a.kind = true then ka else .slice none 0 0)).all (·.oneCell') = true := evCells_one _ (by split; exact hka; rfl)
  refine sq ?_
  refine rg ?_
  refine bx (cs := evCells a ka) rfl rfl rfl fun b1 => ?_
  refine al zero_35 rfl fun b2 => ?_
  refine nl ?_
  refine nx ?_
  refine sq ?_
  refine sq ?_
  refine rg ?_
  refine fa rfl fld_35_0 rfl ?_
  refine ldB 1 rfl rfl one_3 rfl rfl ?_
  refine neI rfl rfl rfl ?_
  refine nl ?_
  refine nx ?_
  refine cdN rfl (fun h5 => ?_) (fun h5 => ?_)
  ·
    refine rg ?_
    refine bd (ps := []) (cs := opCells OpV.none) (by rfl) (by kernel_rfl) rfl ?_
    refine fa rfl fld_35_5 rfl ?_
    refine stM 1 (us := opCells OpV.none) rfl rfl rfl row_32 rfl (Nat.le_of_ble_eq_true rfl) ?_
    refine nl ?_
    refine nx ?_
    refine sq ?_
    refine sq ?_
    refine rg ?_
    refine fa rfl fld_35_0 rfl ?_
    refine ldB 1 rfl rfl one_3 rfl rfl ?_
    refine neI rfl rfl rfl ?_
    refine mv rfl rfl ?_
    refine spN (i := 11) rfl (fun h11 => ?_) (fun h11 => ?_)
    ·
      refine gY rfl rfl rfl ?_
      refine fa rfl fld_35_0 rfl ?_
      refine gY rfl rfl rfl ?_
      refine ldB 1 rfl rfl one_3 rfl rfl ?_
      refine gY rfl rfl rfl ?_
      refine neI rfl rfl rfl ?_
      refine pkT rfl rfl rfl ?_
      refine nl ?_
      refine nx ?_
      refine cdN rfl (fun h15 => ?_) (fun h15 => ?_)
      ·
        refine rg ?_
        refine fa rfl fld_35_6 rfl ?_
        refine stB 1 rfl rfl rfl one_33 rfl (Nat.lt_of_lt_of_le (Nat.lt_succ_self _) (Nat.le_of_ble_eq_true rfl)) ?_
        refine nl ?_
        refine nx ?_
        refine sq ?_
        refine rg ?_
        refine ldM 1 (evCells (plainEv a) (if keeps a.kind = true then ka else .slice none 0 0)) rfl rfl row_35 (by first | (exfalso; omega) | simp [plainEv, keeps, spl, *]) rfl ?_
        refine stM 0 (us := evCells (plainEv a) (if keeps a.kind = true then ka else .slice none 0 0)) rfl rfl rfl row_35 hka (Nat.le_of_ble_eq_true rfl) ?_
        refine nl ?_
        refine nx ?_
        refine rt ?_
        refine mtQ 1 rfl (dpQ ?_)
        exact fRc1 () rfl rfl rfl row_35 rfl rfl SubD.nil
      ·
        refine sk ?_
        refine nx ?_
        refine sq ?_
        refine rg ?_
        refine ldM 1 (evCells (plainEv a) (if keeps a.kind = true then ka else .slice none 0 0)) rfl rfl row_35 (by first | (exfalso; omega) | simp [plainEv, keeps, spl, *]) rfl ?_
        refine stM 0 (us := evCells (plainEv a) (if keeps a.kind = true then ka else .slice none 0 0)) rfl rfl rfl row_35 hka (Nat.le_of_ble_eq_true rfl) ?_
        refine nl ?_
        refine nx ?_
        refine rt ?_
        refine mtQ 1 rfl (dpQ ?_)
        exact fRc1 () rfl rfl rfl row_35 rfl rfl SubD.nil
    ·
      refine gN rfl rfl rfl rfl rfl ?_
      refine gN rfl rfl rfl rfl rfl ?_
      refine gN rfl rfl rfl rfl rfl ?_
      refine pkF rfl rfl rfl ?_
      refine nl ?_
      refine nx ?_
      refine cdF rfl ?_
      refine sk ?_
      refine nx ?_
      refine sq ?_
      refine rg ?_
      refine ldM 1 (evCells (plainEv a) (if keeps a.kind = true then ka else .slice none 0 0)) rfl rfl row_35 (by first | (exfalso; omega) | simp [plainEv, keeps, spl, *]) rfl ?_
      refine stM 0 (us := evCells (plainEv a) (if keeps a.kind = true then ka else .slice none 0 0)) rfl rfl rfl row_35 hka (Nat.le_of_ble_eq_true rfl) ?_
      refine nl ?_
      refine nx ?_
      refine rt ?_
      refine mtQ 1 rfl (dpQ ?_)
      exact fRc1 () rfl rfl rfl row_35 rfl rfl SubD.nil
  ·
    refine sk ?_
    refine nx ?_
    refine sq ?_
    refine sq ?_
    refine rg ?_
    refine fa rfl fld_35_0 rfl ?_
    refine ldB 1 rfl rfl one_3 rfl rfl ?_
    refine neI rfl rfl rfl ?_
    refine mv rfl rfl ?_
    refine spN (i := 11) rfl (fun h11 => ?_) (fun h11 => ?_)
    ·
      refine gY rfl rfl rfl ?_
      refine fa rfl fld_35_0 rfl ?_
      refine gY rfl rfl rfl ?_
      refine ldB 1 rfl rfl one_3 rfl rfl ?_
      refine gY rfl rfl rfl ?_
      refine neI rfl rfl rfl ?_
      refine pkT rfl rfl rfl ?_
      refine nl ?_
      refine nx ?_
      refine cdN rfl (fun h15 => ?_) (fun h15 => ?_)
      ·
        refine rg ?_
        refine fa rfl fld_35_6 rfl ?_
        refine stB 1 rfl rfl rfl one_33 rfl (Nat.lt_of_lt_of_le (Nat.lt_succ_self _) (Nat.le_of_ble_eq_true rfl)) ?_
        refine nl ?_
        refine nx ?_
        refine sq ?_
        refine rg ?_
        refine ldM 1 (evCells (plainEv a) (if keeps a.kind = true then ka else .slice none 0 0)) rfl rfl row_35 (by first | (exfalso; omega) | simp [plainEv, keeps, spl, *]) rfl ?_
        refine stM 0 (us := evCells (plainEv a) (if keeps a.kind = true then ka else .slice none 0 0)) rfl rfl rfl row_35 hka (Nat.le_of_ble_eq_true rfl) ?_
        refine nl ?_
        refine nx ?_
        refine rt ?_
        refine mtQ 1 rfl (dpQ ?_)
        exact fRc1 () rfl rfl rfl row_35 rfl rfl SubD.nil
      ·
        refine sk ?_
        refine nx ?_
        refine sq ?_
        refine rg ?_
        refine ldM 1 (evCells (plainEv a) (if keeps a.kind = true then ka else .slice none 0 0)) rfl rfl row_35 (by first | (exfalso; omega) | simp [plainEv, keeps, spl, *]) rfl ?_
        refine stM 0 (us := evCells (plainEv a) (if keeps a.kind = true then ka else .slice none 0 0)) rfl rfl rfl row_35 hka (Nat.le_of_ble_eq_true rfl) ?_
        refine nl ?_
        refine nx ?_
        refine rt ?_
        refine mtQ 1 rfl (dpQ ?_)
        exact fRc1 () rfl rfl rfl row_35 rfl rfl SubD.nil
    ·
      refine gN rfl rfl rfl rfl rfl ?_
      refine gN rfl rfl rfl rfl rfl ?_
      refine gN rfl rfl rfl rfl rfl ?_
      refine pkF rfl rfl rfl ?_
      refine nl ?_
      refine nx ?_
      refine cdF rfl ?_
      refine sk ?_
      refine nx ?_
      refine sq ?_
      refine rg ?_
      refine ldM 1 (evCells (plainEv a) (if keeps a.kind = true then ka else .slice none 0 0)) rfl rfl row_35 (by first | (exfalso; omega) | simp [plainEv, keeps, spl, *]) rfl ?_
      refine stM 0 (us := evCells (plainEv a) (if keeps a.kind = true then ka else .slice none 0 0)) rfl rfl rfl row_35 hka (Nat.le_of_ble_eq_true rfl) ?_
      refine nl ?_
      refine nx ?_
      refine rt ?_
      refine mtQ 1 rfl (dpQ ?_)
      exact fRc1 () rfl rfl rfl row_35 rfl rfl SubD.nil
end Go.Proofs.Ytcjaodddckbciaa
