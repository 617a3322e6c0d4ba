/- Walks: written by specs1.py. -/
import Derived.Test.YtcjaodddckbciaaCodecW9
namespace Go.Proofs.Ytcjaodddckbciaa
open Go.Eng Go.Ytcjaodddckbciaa

theorem ints_e (q : Nat) (a rv0 : Value) (xs : List Int) (acc0 : List UInt8) (hb : acc0.length + 10 * xs.length ≤ 1000000000) : Fnc Try.prog 12 [a, .pointer (some ⟨q, 0, none⟩)] [bl q 23 [rv0], row 5 rv0 acc0] [⟨a, xs⟩] (fun (_ : Value) _ => True) (fun y _ => [bl q 23 [y], row 5 y (acc0 ++ encInts xs)]) (fun _ _ => []) := by
  refine Fnc.proof Try.func12 rfl 16 rfl rfl fun X w => ?_
  refine sq ?_
  refine rg ?_
  refine mv rfl rfl ?_
  refine lnP 0 rfl rfl Try.underlying33 rfl fun l6 => ?_
  refine mv rfl rfl ?_
  refine nl ?_
  refine nx ?_
  refine bk ?_
  refine lp (σ := Nat × Value × List UInt8) (fun s => [(1, .pointer (some ⟨q, 0, none⟩)), (5, a), (6, .int .i64 (xs.length : Int)), (7, .int .i64 (s.1 : Int))]) (fun s => [bl q 23 [s.2.1], row 5 s.2.1 s.2.2, fz X w]) (fun _ => [⟨a, xs⟩]) (fun s => s.1 ≤ xs.length ∧ s.2.2.length ≤ acc0.length + 10 * s.1 ∧ s.2.2 = acc0 ++ encInts (xs.take s.1)) (fun s => xs.length - s.1) (0, rv0, acc0) ⟨Nat.zero_le _, Nat.le_refl _, by simp [encInts]⟩ ⟨rfl, rfl, rfl, rfl, trivial⟩ rfl (SubD.cons 0 rfl SubD.nil) ?_
  rintro ⟨i, rv, acc⟩ ⟨h1, h2, h3⟩
  simp only at h1 h2 h3
  refine wkC (L := [bl q 23 [rv], row 5 rv acc, fz X w]) [(1, .pointer (some ⟨q, 0, none⟩)), (5, a), (6, .int .i64 (xs.length : Int)), (7, .int .i64 (i : Int))] [⟨a, xs⟩] ⟨rfl, rfl, rfl, rfl, trivial⟩ SubD.refl ?_
  refine sq ?_
  refine rg ?_
  refine ltI rfl rfl rfl ?_
  refine nl ?_
  refine nx ?_
  refine sq ?_
  refine cdP rfl (fun h8 => ?_) (fun h8 => ?_)
  ·
    refine sk ?_
    refine nx ?_
    refine sq ?_
    refine bk ?_
    refine sq ?_
    refine rg ?_
    obtain ⟨c, hc⟩ : ∃ c, xs[i]? = some c := ⟨_, getE (by omega)⟩
    refine ixP 0 rfl rfl rfl slt_33 (by omega) hc rfl fun v9 => ?_
    refine ldV 0 rfl rfl one_3 rfl fun w10 => ?_
    have hcI : InI c := w10
    have hcl := encInt_le hcI
    refine asg rfl rfl ?_
    refine nl ?_
    refine nx ?_
    refine rgV ⟨fun i => ([[], [], [1], [0, 2], [3]] : List (List Nat)).getD i [], fun _ _ => True, fun i => ([fun _ => [], fun _ => [], fun u => [⟨u, encInt c⟩], fun _ => [], fun _ => []] : List (Value → List Atom)).getD i (fun _ => []), fun vs => match vs with
        | [] => [bl q 23 [rv], row 5 rv acc, fz X w]
        | [v0] => [bl q 23 [rv], row 5 v0 (acc ++ encInt c), fz X w]
        | [v0, v1] => [bl q 23 [v0], row 5 v0 (acc ++ encInt c), fz X w]
        | _ => [], [3, 4]⟩ (fun i => ([some (rv), some (.int .i64 c), none, none, none] : List (Option Value)).getD i none) mixed rfl rfl ?_ ?_
    ·
      refine ⟨fun V De _ => (show AllP _ [0] from ⟨?_, trivial⟩), ?_⟩
      ·
        refine ldB 0 rfl rfl one_23 rfl rfl ?_
        exact nl (od rfl rfl rfl rfl SubD.nil SubD.refl)
      refine ⟨fun V De _ => (show AllP _ [0, 1] from ⟨?_, ?_, trivial⟩), ?_⟩
      ·
        refine mv rfl rfl ?_
        exact nl (od rfl rfl rfl rfl SubD.nil SubD.refl)
      ·
        refine mv rfl rfl ?_
        exact nl (od rfl rfl rfl rfl SubD.nil SubD.refl)
      refine ⟨fun V De _ => (show AllP _ [0] from ⟨?_, trivial⟩), ?_⟩
      ·
        refine cf (int_e _ hcI) ok_13 rfl SubD.nil rfl fun y13 v13 h13 => ?_
        refine frRL ?_
        exact nl (od rfl rfl rfl trivial (SubD.cons 0 rfl SubD.nil) (SubD.tail SubD.refl))
      refine ⟨fun V De _ => (show AllP _ [0] from ⟨?_, trivial⟩), ?_⟩
      ·
        refine ap 1 0 rfl rfl rfl rfl app_23 (by omega) (by omega) rfl fun v14 => ?_
        exact nl (od rfl rfl rfl trivial SubD.nil (SubD.tail SubD.refl))
      refine ⟨fun V De _ => (show AllP _ [1] from ⟨?_, trivial⟩), ?_⟩
      ·
        refine stR 0 1 rfl rfl rfl rfl one_23 (Nat.lt_of_lt_of_le (Nat.lt_succ_self _) (Nat.le_of_ble_eq_true rfl)) ?_
        exact nl (od0 rfl rfl SubD.refl)
      trivial
    ·
      intro V _
      refine wkQ (L := [bl q 23 [(V 3)], row 5 (V 3) (acc ++ encInt c), fz X w]) [(1, .pointer (some ⟨q, 0, none⟩)), (5, a), (6, .int .i64 (xs.length : Int)), (7, .int .i64 (i : Int))] [⟨a, xs⟩] ⟨rfl, rfl, rfl, rfl, trivial⟩ (SubD.cons 2 rfl SubD.nil) ?_
      refine bN ?_
      refine nx ?_
      refine rg ?_
      refine adI rfl rfl (inI (by omega) (by omega)) rfl ?_
      refine mv rfl rfl ?_
      refine nl ?_
      have hcl := encInt_le hcI
      exact ag (i + 1, V 3, acc ++ encInt c) ⟨by show i + 1 ≤ xs.length; omega, by simp only [List.length_append]; omega, by rw [h3, encInts_take hc, List.append_assoc]⟩ (by show xs.length - (i + 1) < xs.length - i; omega) ⟨rfl, rfl, rfl, rfl, trivial⟩ rfl (SubD.cons 0 rfl SubD.nil)
  ·
    refine ex ?_
    refine tE ?_
    refine tE ?_
    refine bE ?_
    have e : xs.take i = xs := List.take_of_length_le (by omega)
    rw [e] at h3
    subst h3
    exact fR0N rv rfl trivial rfl SubD.nil
end Go.Proofs.Ytcjaodddckbciaa
