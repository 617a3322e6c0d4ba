/- Walks: written by specs1.py. -/
import Derived.Test.YtcjaodddckbciaaCodecW5
namespace Go.Proofs.Ytcjaodddckbciaa
open Go.Eng Go.Ytcjaodddckbciaa

theorem int_r (p : Nat) (bv : Value) (bs : List UInt8) (s s' : Rd) (x : Int) (hp : s.pos ≤ bs.length) (hx : rdInt bs s = (x, s')) : Fnc Try.prog 26 [.pointer (some ⟨p, 0, none⟩)] [rdr p bv s] [⟨bv, bs⟩] (fun (_ : Unit) v => v = .int .i64 x) (fun _ _ => [rdr p bv s']) (fun _ _ => []) := by
  refine Fnc.proof Try.func26 rfl 16 rfl rfl fun X w => ?_
  obtain ⟨rfl, rfl⟩ : x = zag (rdNum bs s).1 ∧ s' = (rdNum bs s).2 := by simp only [rdInt, Prod.mk.injEq] at hx; exact ⟨hx.1.symm, hx.2.symm⟩
  have hl := rdNum_lt bs s
  refine sq ?_
  refine rg ?_
  refine asg rfl rfl ?_
  refine nl ?_
  refine nx ?_
  refine sq ?_
  refine rg ?_
  refine mv rfl rfl ?_
  refine cf1 0 (num_r _ _ _ _ hp) ok_30 rfl rfl (SubD.cons 0 rfl SubD.nil) rfl fun y5 v5 h5 => ?_
  have h5 : v5 = .int .u64 ((rdNum bs s).1 : Int) := h5
  subst h5
  refine asg rfl rfl ?_
  refine nl ?_
  refine nx ?_
  refine sq ?_
  refine sq ?_
  refine rg ?_
  refine mv rfl rfl ?_
  refine btA rfl rfl (and_1 hl) rfl ?_
  refine eqI rfl rfl rfl ?_
  refine nl ?_
  refine nx ?_
  refine cdP rfl (fun h8 => ?_) (fun h8 => ?_)
  ·
    refine sq ?_
    refine rg ?_
    refine mv rfl rfl ?_
    refine shR rfl rfl (by omega) (shr1 _) rfl ?_
    refine cv Try.underlying44 Try.underlying3 rfl (i64_of_nat (by omega)) rfl ?_
    refine cpW rfl (cpl (inI (by omega) (by omega))) rfl ?_
    refine asg rfl rfl ?_
    refine nl ?_
    refine nx ?_
    refine rt ?_
    refine tR ?_
    exact fR1 () rfl rfl (by unfold zag; rw [if_pos (by omega)]) rfl SubD.nil
  ·
    refine sk ?_
    refine nx ?_
    refine sq ?_
    refine rg ?_
    refine mv rfl rfl ?_
    refine shR rfl rfl (by omega) (shr1 _) rfl ?_
    refine cv Try.underlying44 Try.underlying3 rfl (i64_of_nat (by omega)) rfl ?_
    refine asg rfl rfl ?_
    refine nl ?_
    refine nx ?_
    refine rt ?_
    exact fR1 () rfl rfl (by unfold zag; rw [if_neg (by omega)]) rfl SubD.nil

theorem left_r (p : Nat) (bv : Value) (bs : List UInt8) (s : Rd) (hp : s.pos ≤ bs.length) : Fnc Try.prog 19 [.pointer (some ⟨p, 0, none⟩)] [rdr p bv s] [⟨bv, bs⟩] (fun (_ : Unit) v => v = .int .i64 ((bs.length - s.pos : Nat) : Int)) (fun _ _ => [rdr p bv s]) (fun _ _ => []) := by
  refine Fnc.proof Try.func19 rfl 15 rfl rfl fun X w => ?_
  refine sq ?_
  refine rg ?_
  refine asg rfl rfl ?_
  refine nl ?_
  refine nx ?_
  refine sq ?_
  refine sq ?_
  refine rg ?_
  refine mv rfl rfl ?_
  refine eqP Try.underlying45 rfl rfl rfl ?_
  refine nl ?_
  refine nx ?_
  refine cdF rfl ?_
  refine sk ?_
  refine nx ?_
  refine sq ?_
  refine rgQ mixed (by kernel_rfl) ?_
  refine mv rfl rfl ?_
  refine nc rfl rfl ?_
  refine fa rfl fld_54_0 rfl ?_
  refine ldB 0 rfl rfl one_23 rfl rfl ?_
  refine lnP 0 rfl rfl Try.underlying23 rfl fun l9 => ?_
  refine mv rfl rfl ?_
  refine nc rfl rfl ?_
  refine fa rfl fld_54_1 rfl ?_
  refine ldB 0 rfl rfl one_3 rfl rfl ?_
  refine sbI rfl rfl (inI (by omega) (by omega)) rfl ?_
  refine asg rfl rfl ?_
  refine nlQ ?_
  refine nx ?_
  refine rt ?_
  exact fR1 () rfl rfl (congrArg (Value.int .i64) (by omega)) rfl SubD.nil

theorem fault_r (p : Nat) (bv : Value) (bs : List UInt8) (s : Rd) : Fnc Try.prog 29 [.pointer (some ⟨p, 0, none⟩)] [rdr p bv s] [] (fun (_ : Unit) v => v = .tuple #[.int .i64 (s.fault : Int), .int .i64 ((if s.fault = 0 then 0 else s.pos : Nat) : Int)]) (fun _ _ => [rdr p bv s]) (fun _ _ => []) := by
  refine Fnc.proof Try.func29 rfl 19 rfl rfl fun X w => ?_
  refine sq ?_
  refine rg ?_
  refine asg rfl rfl ?_
  refine asg rfl rfl ?_
  refine nl ?_
  refine nx ?_
  refine sq ?_
  refine sq ?_
  refine rg ?_
  refine mv rfl rfl ?_
  refine eqP Try.underlying45 rfl rfl rfl ?_
  refine nl ?_
  refine nx ?_
  refine cdF rfl ?_
  refine sk ?_
  refine nx ?_
  refine sq ?_
  refine sq ?_
  refine rg ?_
  refine mv rfl rfl ?_
  refine nc rfl rfl ?_
  refine fa rfl fld_54_2 rfl ?_
  refine ldB 0 rfl rfl one_24 rfl rfl ?_
  refine eqI rfl rfl rfl ?_
  refine nl ?_
  refine nx ?_
  refine cdP rfl (fun h10 => ?_) (fun h10 => ?_)
  ·
    refine sq ?_
    refine rg ?_
    refine asg rfl rfl ?_
    refine asg rfl rfl ?_
    refine nl ?_
    refine nx ?_
    refine rt ?_
    refine tR ?_
    have e : s.fault = 0 := by omega
    rw [if_pos e]
    exact fR2 () rfl rfl rfl (by rw [e]; rfl) rfl SubD.nil
  ·
    refine sk ?_
    refine nx ?_
    refine sq ?_
    refine rgQ mixed (by kernel_rfl) ?_
    refine mv rfl rfl ?_
    refine nc rfl rfl ?_
    refine fa rfl fld_54_2 rfl ?_
    refine ldB 0 rfl rfl one_24 rfl rfl ?_
    refine mv rfl rfl ?_
    refine nc rfl rfl ?_
    refine fa rfl fld_54_1 rfl ?_
    refine ldB 0 rfl rfl one_3 rfl rfl ?_
    refine asg rfl rfl ?_
    refine asg rfl rfl ?_
    refine nlQ ?_
    refine nx ?_
    refine rt ?_
    rw [if_neg (by omega)]
    exact fR2 () rfl rfl rfl rfl rfl SubD.nil

theorem new_r (sv : Value) (bs : List UInt8) (hlen : bs.length ≤ 140737488355328) : Fnc Try.prog 17 [sv] [] [⟨sv, bs⟩] (fun (y : Nat × Value) v => v = .pointer (some ⟨y.1, 0, none⟩)) (fun y _ => [rdr y.1 y.2 ⟨0, 0⟩]) (fun y _ => [⟨y.2, bs⟩]) := by
  refine Fnc.proof Try.func17 rfl 7 rfl rfl fun X w => ?_
  refine sq ?_
  refine rg ?_
  refine asg rfl rfl ?_
  refine nl ?_
  refine nx ?_
  refine sq ?_
  refine rg ?_
  refine mv rfl rfl ?_
  refine cf (clone_c _ _ (by first | assumption | (simp only [List.length_drop, List.length_take]; omega))) ok_23 rfl (SubD.cons 0 rfl SubD.nil) rfl fun y4 v4 h4 => ?_
  refine asSl 0 rfl ?_
  rintro ⟨A, cc, rfl⟩
  refine bd (ps := [(0, .tmp 4)]) (cs := [.slice A bs.length cc, .int .i64 0, .int .i64 0]) (by rfl) (by kernel_rfl) rfl ?_
  refine bx rfl rfl rfl fun b6 => ?_
  refine asg rfl rfl ?_
  refine nl ?_
  refine nx ?_
  refine rt ?_
  exact fR1 (b6, .slice A bs.length cc) rfl rfl rfl rfl (SubD.cons 0 rfl SubD.nil)

theorem num_e (v : Nat) (hv : v < 2 ^ 64) : Fnc Try.prog 16 [.int .u64 (v : Int)] [] [] (fun (_ : Unit) _ => True) (fun _ r => [row 5 r (encNat v)]) (fun _ _ => []) := by
  refine Fnc.proof Try.func16 rfl 19 rfl rfl fun X w => ?_
  refine sq ?_
  refine rg ?_
  refine asg rfl rfl ?_
  refine nl ?_
  refine nx ?_
  refine sq ?_
  refine rg ?_
  refine asg rfl rfl ?_
  refine nl ?_
  refine nx ?_
  refine sq ?_
  refine bk ?_
  refine rwC UInt8 5 ?_
  refine lp (σ := Nat × Value × List UInt8) (fun s => [(0, .int .u64 (s.1 : Int)), (3, s.2.1)]) (fun s => [row 5 s.2.1 s.2.2, fz X w]) (fun _ => []) (fun s => s.2.2.length ≤ 9 ∧ s.1 < 2 ^ (64 - 7 * s.2.2.length) ∧ encNat v = s.2.2 ++ encNat s.1) (fun s => s.1) (v, .slice none 0 0, []) ⟨Nat.zero_le _, hv, rfl⟩ ⟨rfl, rfl, trivial⟩ rfl SubD.refl ?_
  rintro ⟨u, r, acc⟩ ⟨h1, h2, h3⟩
  simp only at h1 h2 h3
  refine sq ?_
  refine sq ?_
  refine rg ?_
  refine mv rfl rfl ?_
  refine geI rfl rfl rfl ?_
  refine nl ?_
  refine nx ?_
  refine cdP rfl (fun h5 => ?_) (fun h5 => ?_)
  ·
    refine sk ?_
    refine nx ?_
    refine bk ?_
    refine sq ?_
    refine rg ?_
    refine mv rfl rfl ?_
    refine mv rfl rfl ?_
    refine cv Try.underlying44 Try.underlying5 rfl rfl rfl ?_
    refine btO rfl rfl (or_128' u) rfl ?_
    refine bs1 (xs := [.tmp 9]) (by rfl) app_23 (by rfl) (by rfl) (by rfl) (by rfl) (by rfl) (by rfl) fun b10 => ?_
    refine frS1 (UInt8.ofNat (u % 128 + 128)) (fun S w h => by exact ⟨rfl, trivial⟩) ?_
    refine ap 0 0 rfl rfl rfl rfl app_23 (by simp; omega) (by simp; omega) rfl fun v11 => ?_
    refine asg rfl rfl ?_
    refine nl ?_
    refine nx ?_
    refine rg ?_
    refine mv rfl rfl ?_
    refine shR rfl rfl (by omega) (shr7 _) rfl ?_
    refine asg rfl rfl ?_
    refine nl ?_
    refine bN ?_
    have q := pow_step (by omega) h1 h2
    exact ag (u / 128, v11, acc ++ [UInt8.ofNat (u % 128 + 128)]) ⟨by simp; omega, by simpa using q.2, by rw [h3, encNat_big (by omega)]; simp⟩ (by show u / 128 < u; omega) ⟨rfl, rfl, trivial⟩ rfl SubD.nil
  ·
    refine ex ?_
    refine tE ?_
    refine tE ?_
    refine bE ?_
    refine nx ?_
    refine sq ?_
    refine rg ?_
    refine mv rfl rfl ?_
    refine mv rfl rfl ?_
    refine cv Try.underlying44 Try.underlying5 rfl (wrap_u8' (by omega)) rfl ?_
    refine bs1 (xs := [.tmp 16]) (by rfl) app_23 (by rfl) (by rfl) (by rfl) (by rfl) (by rfl) (by rfl) fun b17 => ?_
    refine frS1 (UInt8.ofNat u) (fun S w h => by exact ⟨rfl, trivial⟩) ?_
    refine ap 0 0 rfl rfl rfl rfl app_23 (by simp; omega) (by simp; omega) rfl fun v18 => ?_
    refine asg rfl rfl ?_
    refine nl ?_
    refine nx ?_
    refine rt ?_
    rw [h3, encNat_small (by omega)]
    exact fR1 () rfl rfl trivial rfl SubD.nil

theorem int_e (x : Int) (hx : InI x) : Fnc Try.prog 13 [.int .i64 x] [] [] (fun (_ : Unit) _ => True) (fun _ r => [row 5 r (encInt x)]) (fun _ _ => []) := by
  refine Fnc.proof Try.func13 rfl 15 rfl rfl fun X w => ?_
  obtain ⟨hx1, hx2⟩ := id hx
  refine sq ?_
  refine rg ?_
  refine asg rfl rfl ?_
  refine nl ?_
  refine nx ?_
  refine sq ?_
  refine sq ?_
  refine rg ?_
  refine mv rfl rfl ?_
  refine ltI rfl rfl rfl ?_
  refine nl ?_
  refine nx ?_
  refine cdP rfl (fun h4 => ?_) (fun h4 => ?_)
  ·
    refine sq ?_
    refine rg ?_
    refine mv rfl rfl ?_
    refine cpW rfl (cpl hx) rfl ?_
    refine cv Try.underlying3 Try.underlying44 rfl (wrap_u64_int (by omega) (by omega)) rfl ?_
    refine shL rfl rfl (by omega) (shl1 (by omega) (by omega)) rfl ?_
    refine btO rfl rfl (or_1 (by omega)) rfl ?_
    refine cf (num_e _ (by omega)) ok_16 rfl SubD.nil rfl fun y10 v10 h10 => ?_
    refine asg rfl rfl ?_
    refine nl ?_
    refine nx ?_
    refine rt ?_
    refine tR ?_
    rw [show encInt x = encNat ((-x - 1).toNat * 2 + 1) from by unfold encInt zig; rw [if_pos (by omega)]]
    exact fR1 () rfl rfl trivial rfl SubD.nil
  ·
    refine sk ?_
    refine nx ?_
    refine sq ?_
    refine rg ?_
    refine mv rfl rfl ?_
    refine cv Try.underlying3 Try.underlying44 rfl (wrap_u64_int (by omega) (by omega)) rfl ?_
    refine shL rfl rfl (by omega) (shl1 (by omega) (by omega)) rfl ?_
    refine cf (num_e _ (by omega)) ok_16 rfl SubD.nil rfl fun y14 v14 h14 => ?_
    refine asg rfl rfl ?_
    refine nl ?_
    refine nx ?_
    refine rt ?_
    rw [show encInt x = encNat (x.toNat * 2) from by unfold encInt zig; rw [if_neg (by omega)]]
    exact fR1 () rfl rfl trivial rfl SubD.nil

theorem text_e (sv : Value) (bs : List UInt8) (hl : bs.length ≤ 1000) : Fnc Try.prog 14 [sv] [] [⟨sv, bs⟩] (fun (_ : Unit) _ => True) (fun _ r => [row 5 r (encText bs)]) (fun _ _ => []) := by
  refine Fnc.proof Try.func14 rfl 9 rfl rfl fun X w => ?_
  have hq := encNat_le (v := bs.length) (by omega)
  refine sq ?_
  refine rg ?_
  refine asg rfl rfl ?_
  refine nl ?_
  refine nx ?_
  refine sq ?_
  refine rg ?_
  refine mv rfl rfl ?_
  refine lnP 0 rfl rfl Try.underlying23 rfl fun l4 => ?_
  refine cv Try.underlying3 Try.underlying44 rfl (wrap_u64_int (by omega) (by omega)) rfl ?_
  refine cf (num_e _ (by omega)) ok_16 rfl SubD.nil rfl fun y6 v6 h6 => ?_
  refine mv rfl rfl ?_
  refine ap 0 0 rfl rfl rfl rfl app_23 (by omega) (by omega) rfl fun v8 => ?_
  refine asg rfl rfl ?_
  refine nl ?_
  refine nx ?_
  refine rt ?_
  exact fR1 () rfl rfl trivial rfl SubD.nil
end Go.Proofs.Ytcjaodddckbciaa
