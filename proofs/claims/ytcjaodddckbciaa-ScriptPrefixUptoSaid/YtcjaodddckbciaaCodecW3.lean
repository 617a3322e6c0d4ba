/- Walks: written by specs1.py. -/
import Derived.Test.YtcjaodddckbciaaCodecW2
namespace Go.Proofs.Ytcjaodddckbciaa
open Go.Eng Go.Ytcjaodddckbciaa

theorem clone_c (sv : Value) (bs : List UInt8) (hlen : bs.length ≤ 140737488355328) : Fnc Try.prog 23 [sv] [] [⟨sv, bs⟩] (fun (_ : Unit) _ => True) (fun _ _ => []) (fun _ v => [⟨v, bs⟩]) := by
  refine Fnc.proof Try.func23 rfl 8 rfl rfl fun X w => ?_
  refine sq ?_
  refine rg ?_
  refine asg rfl rfl ?_
  refine nl ?_
  refine nx ?_
  refine sq ?_
  refine sq ?_
  refine rg ?_
  refine mv rfl rfl ?_
  refine eqN 0 Try.underlying23 rfl rfl rfl rfl fun q4 n4 => ?_
  refine nl ?_
  refine nx ?_
  refine cdB rfl (fun h4 => ?_) (fun h4 => ?_)
  ·
    have hx : bs = [] := n4 h4
    subst hx
    refine emC (α := UInt8) ?_
    refine sq ?_
    refine rg ?_
    refine asg rfl rfl ?_
    refine nl ?_
    refine nx ?_
    refine rt ?_
    refine tR ?_
    exact fR1 () rfl rfl trivial rfl (SubD.cons 0 rfl SubD.nil)
  ·
    refine sk ?_
    refine nx ?_
    refine sq ?_
    refine rg ?_
    refine bs0 app_23 rfl fun b5 => ?_
    refine rwB (α := UInt8) [] [] rfl rfl (fun _ _ _ => trivial) rfl ?_
    refine mv rfl rfl ?_
    refine ap 0 0 rfl rfl rfl rfl app_23 (by simpa using hlen) (by simpa using hlen) rfl fun v7 => ?_
    refine asg rfl rfl ?_
    refine nl ?_
    refine nx ?_
    refine rt ?_
    refine frRQ ?_
    exact fR1 () rfl rfl trivial rfl (SubD.cons 0 rfl SubD.nil)

theorem text1_c (a b : Nat) (sv : Value) (bs : List UInt8) (most : Int) (hm : InI most) (hms : most ≤ 1000000) : Fnc Try.prog 31 [sv, .pointer (some ⟨a, 0, none⟩), .pointer (some ⟨b, 0, none⟩)] [vr b 23 ([] : List UInt8), bl a 3 [.int .i64 most]] [⟨sv, bs⟩] (fun (_ : Unit) v => v = stepTup (textD bs most).2.1 (textD bs most).2.2) (fun _ _ => [vr b 23 (textD bs most).1, bl a 3 [.int .i64 most]]) (fun _ _ => []) := by
  refine Fnc.proof Try.func31 rfl 38 rfl rfl fun X w => ?_
  have hb := countD_bd bs most
  have hN0 := counted_c sv bs most hm
  rcases hN : countD bs most with ⟨v, n, e⟩
  rw [hN] at hN0 hb
  have hN0 : FnV Try.prog 32 [sv, .int .i64 most] [⟨sv, bs⟩] (.tuple #[.int .i64 (v : Int), .int .i64 (n : Int), .int .i64 (e : Int)]) := hN0
  simp only at hb
  have hmx := max_in hm
  have hT := textD_of hN
  refine sq ?_
  refine rg ?_
  refine asg rfl rfl ?_
  refine asg rfl rfl ?_
  refine nl ?_
  refine nx ?_
  refine sq ?_
  refine rg ?_
  refine mv rfl rfl ?_
  refine ldB 1 rfl rfl one_3 rfl rfl ?_
  refine cfv (hN0) ok_32 rfl (SubD.cons 0 rfl SubD.nil) rfl ?_
  refine mv rfl rfl ?_
  refine xt rfl rfl rfl ?_
  refine xt rfl rfl rfl ?_
  refine xt rfl rfl rfl ?_
  refine asg rfl rfl ?_
  refine asg rfl rfl ?_
  refine asg rfl rfl ?_
  refine nl ?_
  refine nx ?_
  refine sq ?_
  refine sq ?_
  refine rg ?_
  refine mv rfl rfl ?_
  refine neI rfl rfl rfl ?_
  refine nl ?_
  refine nx ?_
  refine cdN rfl (fun h17 => ?_) (fun h17 => ?_)
  ·
    refine sq ?_
    refine rg ?_
    refine mv rfl rfl ?_
    refine asg rfl rfl ?_
    refine asg rfl rfl ?_
    refine nl ?_
    refine nx ?_
    refine rt ?_
    refine tR ?_
    rw [show textD bs most = ([], 0, e) from by rw [hT, if_pos (by omega)]]
    exact fR2 () rfl rfl rfl rfl rfl SubD.nil
  ·
    refine sk ?_
    refine nx ?_
    refine sq ?_
    refine sq ?_
    refine rg ?_
    refine mv rfl rfl ?_
    refine lnP 0 rfl rfl Try.underlying23 rfl fun l20 => ?_
    refine mv rfl rfl ?_
    refine sbI rfl rfl (inI (by omega) (by omega)) rfl ?_
    refine mv rfl rfl ?_
    refine ltI rfl rfl rfl ?_
    refine nl ?_
    refine nx ?_
    refine cdP rfl (fun h24 => ?_) (fun h24 => ?_)
    ·
      refine sq ?_
      refine rg ?_
      refine asg rfl rfl ?_
      refine asg rfl rfl ?_
      refine nl ?_
      refine nx ?_
      refine rt ?_
      refine tR ?_
      rw [show textD bs most = ([], 0, 20) from by rw [hT, if_neg (by omega), if_pos (by omega)]]
      exact fR2 () rfl rfl rfl rfl rfl SubD.nil
    ·
      refine sk ?_
      refine nx ?_
      refine sq ?_
      refine rg ?_
      refine mv rfl rfl ?_
      refine mv rfl rfl ?_
      refine mv rfl rfl ?_
      refine mv rfl rfl ?_
      refine adI rfl rfl (inI (by omega) (by omega)) rfl ?_
      refine mv rfl rfl ?_
      refine mv rfl rfl ?_
      refine adI rfl rfl (inI (by omega) (by omega)) rfl ?_
      refine slP3 0 rfl rfl slt_23 rfl rfl rfl (by omega) (by omega) (by omega) (by omega) rfl fun v33 => ?_
      refine cf (clone_c _ _ (by first | assumption | (simp only [List.length_drop, List.length_take]; omega))) ok_23 rfl (SubD.cons 0 rfl SubD.nil) rfl fun y34 v34 h34 => ?_
      refine opL 0 rfl fun u => ?_
      refine stL 0 1 rfl rfl rfl rfl one_23 (Nat.lt_of_lt_of_le (Nat.lt_succ_self _) (Nat.le_of_ble_eq_true rfl)) ?_
      refine nl ?_
      refine nx ?_
      refine sq ?_
      refine rg ?_
      refine mv rfl rfl ?_
      refine mv rfl rfl ?_
      refine adI rfl rfl (inI (by omega) (by omega)) rfl ?_
      refine asg rfl rfl ?_
      refine asg rfl rfl ?_
      refine nl ?_
      refine nx ?_
      refine rt ?_
      rw [show textD bs most = ((bs.drop n).take v, n + v, 0) from by rw [hT, if_neg (by omega), if_neg (by omega)]]
      refine adQ ⟨v34, (bs.drop n).take v⟩ (fun S w h => ?_) (clQ 0 0 rfl rfl (fR2 () rfl rfl rfl rfl rfl SubD.nil))
      have q := h ⟨v34, _⟩ (List.mem_of_getElem? (i := 1) rfl)
      rw [List.drop_take, show ((n : Int) + (v : Int)).toNat - (n : Int).toNat = v from by omega] at q
      exact q
end Go.Proofs.Ytcjaodddckbciaa
