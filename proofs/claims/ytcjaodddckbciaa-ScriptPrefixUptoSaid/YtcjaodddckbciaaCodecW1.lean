/- Walks: written by specs1.py. -/
import Derived.Test.YtcjaodddckbciaaCodecF
namespace Go.Proofs.Ytcjaodddckbciaa
open Go.Eng Go.Ytcjaodddckbciaa

theorem keeps_c (x : Int) (hx : InI x) : FnV Try.prog 15 [.int .i64 x] [] (.bool (keeps x)) := by
  refine Fnc.proof Try.func15 rfl 9 rfl rfl fun X w => ?_
  refine sq ?_
  refine rg ?_
  refine asg rfl rfl ?_
  refine nl ?_
  refine nx ?_
  refine sq ?_
  refine rg ?_
  refine mv rfl rfl ?_
  refine eqI rfl rfl rfl ?_
  refine mv rfl rfl ?_
  refine spP (i := 5) rfl (fun h5 => ?_) (fun h5 => ?_)
  ·
    refine gN rfl rfl rfl rfl rfl ?_
    refine gN rfl rfl rfl rfl rfl ?_
    refine pkT rfl rfl rfl ?_
    refine asg rfl rfl ?_
    refine nl ?_
    refine nx ?_
    refine rt ?_
    exact fR1 () rfl rfl (by simp [keeps, *]) rfl SubD.nil
  ·
    refine gY rfl rfl rfl ?_
    refine mv rfl rfl ?_
    refine gY rfl rfl rfl ?_
    refine eqI rfl rfl rfl ?_
    refine pkF rfl rfl rfl ?_
    refine asg rfl rfl ?_
    refine nl ?_
    refine nx ?_
    refine rt ?_
    exact fR1 () rfl rfl (by simp [keeps, *]) rfl SubD.nil

theorem known_c (x : Int) (hx : InI x) : FnV Try.prog 11 [.int .i64 x] [] (.bool (known x)) := by
  refine Fnc.proof Try.func11 rfl 13 rfl rfl fun X w => ?_
  refine sq ?_
  refine rg ?_
  refine asg rfl rfl ?_
  refine nl ?_
  refine nx ?_
  refine sq ?_
  refine rg ?_
  refine mv rfl rfl ?_
  refine eqI rfl rfl rfl ?_
  refine mv rfl rfl ?_
  refine spP (i := 5) rfl (fun h5 => ?_) (fun h5 => ?_)
  ·
    refine gN rfl rfl rfl rfl rfl ?_
    refine gN rfl rfl rfl rfl rfl ?_
    refine pkT rfl rfl rfl ?_
    refine mv rfl rfl ?_
    refine gN rfl rfl rfl rfl rfl ?_
    refine gN rfl rfl rfl rfl rfl ?_
    refine pkT rfl rfl rfl ?_
    refine asg rfl rfl ?_
    refine nl ?_
    refine nx ?_
    refine rt ?_
    exact fR1 () rfl rfl (by simp [known, *]) rfl SubD.nil
  ·
    refine gY rfl rfl rfl ?_
    refine mv rfl rfl ?_
    refine gY rfl rfl rfl ?_
    refine eqI rfl rfl rfl ?_
    refine pkF rfl rfl rfl ?_
    refine mv rfl rfl ?_
    refine spP (i := 9) rfl (fun h9 => ?_) (fun h9 => ?_)
    ·
      refine gN rfl rfl rfl rfl rfl ?_
      refine gN rfl rfl rfl rfl rfl ?_
      refine pkT rfl rfl rfl ?_
      refine asg rfl rfl ?_
      refine nl ?_
      refine nx ?_
      refine rt ?_
      exact fR1 () rfl rfl (by simp [known, *]) rfl SubD.nil
    ·
      refine gY rfl rfl rfl ?_
      refine mv rfl rfl ?_
      refine gY rfl rfl rfl ?_
      refine eqI rfl rfl rfl ?_
      refine pkF rfl rfl rfl ?_
      refine asg rfl rfl ?_
      refine nl ?_
      refine nx ?_
      refine rt ?_
      exact fR1 () rfl rfl (by simp [known, *]) rfl SubD.nil

theorem number_c (sv : Value) (bs : List UInt8) : FnV Try.prog 35 [sv] [⟨sv, bs⟩] (numTup (numD 0 0 bs)) := by
  refine Fnc.proof Try.func35 rfl 41 rfl rfl fun X w => ?_
  refine sq ?_
  refine rg ?_
  refine asg rfl rfl ?_
  refine asg rfl rfl ?_
  refine asg rfl rfl ?_
  refine nl ?_
  refine nx ?_
  refine sq ?_
  refine rg ?_
  refine asg rfl rfl ?_
  refine nl ?_
  refine nx ?_
  refine sq ?_
  refine sq ?_
  refine rg ?_
  refine mv rfl rfl ?_
  refine lnP 0 rfl rfl Try.underlying23 rfl fun l9 => ?_
  refine mv rfl rfl ?_
  refine nl ?_
  refine nx ?_
  refine bk ?_
  refine lp (σ := Nat × Nat) (fun s => [(0, sv), (5, .int .u64 (s.2 : Int)), (8, sv), (9, .int .i64 (bs.length : Int)), (10, .int .i64 (s.1 : Int))]) (fun _ => [fz X w]) (fun _ => [⟨sv, bs⟩]) (fun s => s.1 ≤ 9 ∧ s.1 ≤ bs.length ∧ s.2 < 2 ^ (7 * s.1) ∧ numD 0 0 bs = numD s.1 s.2 (bs.drop s.1)) (fun s => bs.length - s.1) (0, 0) ⟨by decide, Nat.zero_le _, by decide, rfl⟩ ⟨rfl, rfl, rfl, rfl, rfl, trivial⟩ rfl SubD.refl ?_
  rintro ⟨i, v⟩ ⟨h1, h2, h3, h4⟩
  simp only at h1 h2 h3 h4
  refine sq ?_
  refine rg ?_
  refine ltI rfl rfl rfl ?_
  refine nl ?_
  refine nx ?_
  refine sq ?_
  refine cdP rfl (fun h11 => ?_) (fun h11 => ?_)
  ·
    refine sk ?_
    refine nx ?_
    refine sq ?_
    refine bk ?_
    refine sq ?_
    refine rg ?_
    refine mv rfl rfl ?_
    obtain ⟨c, hc⟩ : ∃ c, bs[i]? = some c := ⟨_, getE (by omega)⟩
    have hd := drop_at hc
    have hcl := c.toNat_lt
    refine ixP 0 rfl rfl rfl slt_23 (by omega) hc rfl fun v13 => ?_
    refine ldV 0 rfl rfl one_5 rfl fun w14 => ?_
    refine asg rfl rfl ?_
    refine asg rfl rfl ?_
    refine nl ?_
    refine nx ?_
    refine sq ?_
    refine sq ?_
    refine rg ?_
    refine mv rfl rfl ?_
    refine eqI rfl rfl rfl ?_
    refine mv rfl rfl ?_
    refine spP (i := 17) rfl (fun h17 => ?_) (fun h17 => ?_)
    ·
      refine gY rfl rfl rfl ?_
      refine mv rfl rfl ?_
      refine gY rfl rfl rfl ?_
      refine gtI rfl rfl rfl ?_
      refine pkT rfl rfl rfl ?_
      refine nl ?_
      refine nx ?_
      refine cdP rfl (fun h20 => ?_) (fun h20 => ?_)
      ·
        refine sq ?_
        refine rg ?_
        refine asg rfl rfl ?_
        refine asg rfl rfl ?_
        refine asg rfl rfl ?_
        refine nl ?_
        refine nx ?_
        refine rt ?_
        refine tR ?_
        refine bR ?_
        refine tR ?_
        refine tR ?_
        refine bR ?_
        refine tR ?_
        exact fR3 () rfl rfl rfl rfl (by have e := h4; rw [hd] at e; simp only [numD] at e; (repeat (first | rw [if_pos (by omega)] at e | rw [if_neg (by omega)] at e)); first | exact congrArg numTup e.symm | (exfalso; omega)) rfl SubD.nil
      ·
        refine sk ?_
        refine nx ?_
        refine sq ?_
        refine rg ?_
        refine mv rfl rfl ?_
        refine mv rfl rfl ?_
        refine btA rfl rfl (and_127 c) rfl ?_
        refine cv Try.underlying5 Try.underlying44 rfl (wrap_u64' (by omega)) rfl ?_
        refine mv rfl rfl ?_
        refine muI rfl rfl (inI (by omega) (by omega)) rfl ?_
        refine shL rfl rfl (by omega) (shl_k _ (7 * i) (shl_ok h1 (by omega)) (by omega)) rfl ?_
        refine btO rfl rfl (or_add h3 (shl_ok h1 (by omega)) (by omega)) rfl ?_
        refine asg rfl rfl ?_
        refine nl ?_
        refine nx ?_
        refine sq ?_
        refine sq ?_
        refine rg ?_
        refine mv rfl rfl ?_
        refine geI rfl rfl rfl ?_
        refine nl ?_
        refine nx ?_
        refine cdP rfl (fun h30 => ?_) (fun h30 => ?_)
        ·
          refine ex ?_
          refine tE ?_
          refine bE ?_
          refine nx ?_
          refine rg ?_
          refine adI rfl rfl (inI (by omega) (by omega)) rfl ?_
          refine mv rfl rfl ?_
          refine nl ?_
          exact ag (i + 1, v + c.toNat % 128 * 2 ^ (7 * i)) ⟨by show i + 1 ≤ 9; omega, by show i + 1 ≤ bs.length; omega, shl_lt h3, by show numD 0 0 bs = _; rw [h4, hd]; simp only [numD]; rw [if_neg (by omega), if_pos (by omega)]⟩ (by show bs.length - (i + 1) < bs.length - i; omega) ⟨rfl, rfl, rfl, rfl, rfl, trivial⟩ rfl (SubD.cons 1 rfl SubD.nil)
        ·
          refine sk ?_
          refine nx ?_
          refine sq ?_
          refine sq ?_
          refine rg ?_
          refine mv rfl rfl ?_
          refine eqI rfl rfl rfl ?_
          refine mv rfl rfl ?_
          refine spP (i := 33) rfl (fun h33 => ?_) (fun h33 => ?_)
          ·
            refine gY rfl rfl rfl ?_
            refine mv rfl rfl ?_
            refine gY rfl rfl rfl ?_
            refine gtI rfl rfl rfl ?_
            refine pkT rfl rfl rfl ?_
            refine nl ?_
            refine nx ?_
            refine cdP rfl (fun h36 => ?_) (fun h36 => ?_)
            ·
              refine sq ?_
              refine rg ?_
              refine asg rfl rfl ?_
              refine asg rfl rfl ?_
              refine asg rfl rfl ?_
              refine nl ?_
              refine nx ?_
              refine rt ?_
              refine tR ?_
              refine bR ?_
              refine tR ?_
              refine tR ?_
              refine bR ?_
              refine tR ?_
              exact fR3 () rfl rfl rfl rfl (by have e := h4; rw [hd] at e; simp only [numD] at e; (repeat (first | rw [if_pos (by omega)] at e | rw [if_neg (by omega)] at e)); first | exact congrArg numTup e.symm | (exfalso; omega)) rfl SubD.nil
            ·
              refine sk ?_
              refine nx ?_
              refine sq ?_
              refine rg ?_
              refine mv rfl rfl ?_
              refine mv rfl rfl ?_
              refine adI rfl rfl (inI (by omega) (by omega)) rfl ?_
              refine asg rfl rfl ?_
              refine asg rfl rfl ?_
              refine asg rfl rfl ?_
              refine nl ?_
              refine nx ?_
              refine rt ?_
              refine bR ?_
              refine tR ?_
              refine tR ?_
              refine bR ?_
              refine tR ?_
              exact fR3 () rfl rfl rfl rfl (by have e := h4; rw [hd] at e; simp only [numD] at e; (repeat (first | rw [if_pos (by omega)] at e | rw [if_neg (by omega)] at e)); first | exact congrArg numTup e.symm | (exfalso; omega)) rfl SubD.nil
          ·
            refine gN rfl rfl rfl rfl rfl ?_
            refine gN rfl rfl rfl rfl rfl ?_
            refine pkF rfl rfl rfl ?_
            refine nl ?_
            refine nx ?_
            refine cdF rfl ?_
            refine sk ?_
            refine nx ?_
            refine sq ?_
            refine rg ?_
            refine mv rfl rfl ?_
            refine mv rfl rfl ?_
            refine adI rfl rfl (inI (by omega) (by omega)) rfl ?_
            refine asg rfl rfl ?_
            refine asg rfl rfl ?_
            refine asg rfl rfl ?_
            refine nl ?_
            refine nx ?_
            refine rt ?_
            refine bR ?_
            refine tR ?_
            refine tR ?_
            refine bR ?_
            refine tR ?_
            exact fR3 () rfl rfl rfl rfl (by have e := h4; rw [hd] at e; simp only [numD] at e; (repeat (first | rw [if_pos (by omega)] at e | rw [if_neg (by omega)] at e)); first | exact congrArg numTup e.symm | (exfalso; omega)) rfl SubD.nil
    ·
      refine gN rfl rfl rfl rfl rfl ?_
      refine gN rfl rfl rfl rfl rfl ?_
      refine pkF rfl rfl rfl ?_
      refine nl ?_
      refine nx ?_
      refine cdF rfl ?_
      refine sk ?_
      refine nx ?_
      refine sq ?_
      refine rg ?_
      refine mv rfl rfl ?_
      refine mv rfl rfl ?_
      refine btA rfl rfl (and_127 c) rfl ?_
      refine cv Try.underlying5 Try.underlying44 rfl (wrap_u64' (by omega)) rfl ?_
      refine mv rfl rfl ?_
      refine muI rfl rfl (inI (by omega) (by omega)) rfl ?_
      refine shL rfl rfl (by omega) (shl_k _ (7 * i) (shl_ok h1 (by omega)) (by omega)) rfl ?_
      refine btO rfl rfl (or_add h3 (shl_ok h1 (by omega)) (by omega)) rfl ?_
      refine asg rfl rfl ?_
      refine nl ?_
      refine nx ?_
      refine sq ?_
      refine sq ?_
      refine rg ?_
      refine mv rfl rfl ?_
      refine geI rfl rfl rfl ?_
      refine nl ?_
      refine nx ?_
      refine cdP rfl (fun h30 => ?_) (fun h30 => ?_)
      ·
        refine ex ?_
        refine tE ?_
        refine bE ?_
        refine nx ?_
        refine rg ?_
        refine adI rfl rfl (inI (by omega) (by omega)) rfl ?_
        refine mv rfl rfl ?_
        refine nl ?_
        exact ag (i + 1, v + c.toNat % 128 * 2 ^ (7 * i)) ⟨by show i + 1 ≤ 9; omega, by show i + 1 ≤ bs.length; omega, shl_lt h3, by show numD 0 0 bs = _; rw [h4, hd]; simp only [numD]; rw [if_neg (by omega), if_pos (by omega)]⟩ (by show bs.length - (i + 1) < bs.length - i; omega) ⟨rfl, rfl, rfl, rfl, rfl, trivial⟩ rfl (SubD.cons 1 rfl SubD.nil)
      ·
        refine sk ?_
        refine nx ?_
        refine sq ?_
        refine sq ?_
        refine rg ?_
        refine mv rfl rfl ?_
        refine eqI rfl rfl rfl ?_
        refine mv rfl rfl ?_
        refine spP (i := 33) rfl (fun h33 => ?_) (fun h33 => ?_)
        ·
          refine gY rfl rfl rfl ?_
          refine mv rfl rfl ?_
          refine gY rfl rfl rfl ?_
          refine gtI rfl rfl rfl ?_
          refine pkT rfl rfl rfl ?_
          refine nl ?_
          refine nx ?_
          refine cdP rfl (fun h36 => ?_) (fun h36 => ?_)
          ·
            refine sq ?_
            refine rg ?_
            refine asg rfl rfl ?_
            refine asg rfl rfl ?_
            refine asg rfl rfl ?_
            refine nl ?_
            refine nx ?_
            refine rt ?_
            refine tR ?_
            refine bR ?_
            refine tR ?_
            refine tR ?_
            refine bR ?_
            refine tR ?_
            exact fR3 () rfl rfl rfl rfl (by have e := h4; rw [hd] at e; simp only [numD] at e; (repeat (first | rw [if_pos (by omega)] at e | rw [if_neg (by omega)] at e)); first | exact congrArg numTup e.symm | (exfalso; omega)) rfl SubD.nil
          ·
            refine sk ?_
            refine nx ?_
            refine sq ?_
            refine rg ?_
            refine mv rfl rfl ?_
            refine mv rfl rfl ?_
            refine adI rfl rfl (inI (by omega) (by omega)) rfl ?_
            refine asg rfl rfl ?_
            refine asg rfl rfl ?_
            refine asg rfl rfl ?_
            refine nl ?_
            refine nx ?_
            refine rt ?_
            refine bR ?_
            refine tR ?_
            refine tR ?_
            refine bR ?_
            refine tR ?_
            exact fR3 () rfl rfl rfl rfl (by have e := h4; rw [hd] at e; simp only [numD] at e; (repeat (first | rw [if_pos (by omega)] at e | rw [if_neg (by omega)] at e)); first | exact congrArg numTup e.symm | (exfalso; omega)) rfl SubD.nil
        ·
          refine gN rfl rfl rfl rfl rfl ?_
          refine gN rfl rfl rfl rfl rfl ?_
          refine pkF rfl rfl rfl ?_
          refine nl ?_
          refine nx ?_
          refine cdF rfl ?_
          refine sk ?_
          refine nx ?_
          refine sq ?_
          refine rg ?_
          refine mv rfl rfl ?_
          refine mv rfl rfl ?_
          refine adI rfl rfl (inI (by omega) (by omega)) rfl ?_
          refine asg rfl rfl ?_
          refine asg rfl rfl ?_
          refine asg rfl rfl ?_
          refine nl ?_
          refine nx ?_
          refine rt ?_
          refine bR ?_
          refine tR ?_
          refine tR ?_
          refine bR ?_
          refine tR ?_
          exact fR3 () rfl rfl rfl rfl (by have e := h4; rw [hd] at e; simp only [numD] at e; (repeat (first | rw [if_pos (by omega)] at e | rw [if_neg (by omega)] at e)); first | exact congrArg numTup e.symm | (exfalso; omega)) rfl SubD.nil
  ·
    refine ex ?_
    refine tE ?_
    refine tE ?_
    refine bE ?_
    refine nx ?_
    refine sq ?_
    refine rg ?_
    refine asg rfl rfl ?_
    refine asg rfl rfl ?_
    refine asg rfl rfl ?_
    refine nl ?_
    refine nx ?_
    refine rt ?_
    exact fR3 () rfl rfl rfl rfl (by have e := h4; rw [List.drop_eq_nil_of_le (by omega)] at e; exact congrArg numTup e.symm) rfl SubD.nil
end Go.Proofs.Ytcjaodddckbciaa
