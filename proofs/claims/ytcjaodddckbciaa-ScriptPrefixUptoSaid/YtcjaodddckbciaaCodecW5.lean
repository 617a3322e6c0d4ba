/- Walks: written by specs1.py. -/
import Derived.Test.YtcjaodddckbciaaCodecW4
namespace Go.Proofs.Ytcjaodddckbciaa
open Go.Eng Go.Ytcjaodddckbciaa

theorem num_r (p : Nat) (bv : Value) (bs : List UInt8) (s : Rd) (hp : s.pos ≤ bs.length) : Fnc Try.prog 30 [.pointer (some ⟨p, 0, none⟩)] [rdr p bv s] [⟨bv, bs⟩] (fun (_ : Unit) v => v = .int .u64 ((rdNum bs s).1 : Int)) (fun _ _ => [rdr p bv (rdNum bs s).2]) (fun _ _ => []) := by
  refine Fnc.proof Try.func30 rfl 9 rfl rfl fun X w => ?_
  have hN0 := fun b sv => num1_c b sv (bs.drop s.pos)
  have hb := numD_bd (bs.drop s.pos) 0 0 (by decide) (by decide)
  rcases hN : numD 0 0 (bs.drop s.pos) with ⟨x, n, e⟩
  rw [hN] at hb
  simp only [hN] at hN0
  simp only at hb
  have hr : rdNum bs s = (s.val 0 x e, s.step n e) := by simp only [rdNum, rdByte, rdCount, rdText, rdOf, hN]
  rw [hr]
  refine sq ?_
  refine rg ?_
  refine asg rfl rfl ?_
  refine nl ?_
  refine nx ?_
  refine sq ?_
  refine rg ?_
  refine al zero_44 rfl fun b3 => ?_
  refine stB 0 rfl rfl rfl one_44 rfl (Nat.lt_of_lt_of_le (Nat.lt_succ_self _) (Nat.le_of_ble_eq_true rfl)) ?_
  refine nl ?_
  refine nx ?_
  refine sq ?_
  refine sq ?_
  refine rg ?_
  refine mv rfl rfl ?_
  refine mf (xs := [.tmp 3]) rfl rfl ?_
  refine cfP (L0 := [bl b3 44 [.int .u64 0], rdr p bv s]) (Lr := [fz X w]) (thing1 p 34 bv bs s #[.pointer (some ⟨b3, 0, none⟩)] _ (bl b3 44 [.int .u64 ((s.val 0 x e : Nat) : Int)]) n e ok_34 hp (by omega) (fun h sv => ?_) (fun h => ?_)) ok_24 rfl (by rfl) (SubD.cons 0 rfl SubD.nil) (by rfl) fun y v h => ?_
  · have q := hN0 b3 sv
    have e1 : s.val 0 x e = x := by unfold Rd.val; rw [if_neg (by omega)]; split <;> omega
    rw [e1]
    exact q
  · have e1 : s.val 0 x e = 0 := by unfold Rd.val; rw [if_pos h]
    rw [e1]; rfl
  obtain rfl : v = .bool (decide (s.fault = 0 ∧ e = 0)) := h
  refine nt rfl rfl ?_
  refine nl ?_
  refine nx ?_
  refine cdN rfl (fun h7 => ?_) (fun h7 => ?_)
  ·
    refine sq ?_
    refine rg ?_
    refine asg rfl rfl ?_
    refine nl ?_
    refine nx ?_
    refine rt ?_
    refine tR ?_
    have e1 : s.val 0 x e = 0 := by unfold Rd.val; split; rfl; split; rfl; omega
    refine dpQ ?_
    exact fR1 () rfl rfl (by rw [e1]; rfl) rfl SubD.nil
  ·
    refine sk ?_
    refine nx ?_
    refine sq ?_
    refine rg ?_
    refine ldB 0 rfl rfl one_44 rfl rfl ?_
    refine asg rfl rfl ?_
    refine nl ?_
    refine nx ?_
    refine rt ?_
    refine dpQ ?_
    exact fR1 () rfl rfl rfl rfl SubD.nil

theorem byte_r (p : Nat) (bv : Value) (bs : List UInt8) (s : Rd) (hp : s.pos ≤ bs.length) : Fnc Try.prog 18 [.pointer (some ⟨p, 0, none⟩)] [rdr p bv s] [⟨bv, bs⟩] (fun (_ : Unit) v => v = .int .u8 ((rdByte bs s).1.toNat : Int)) (fun _ _ => [rdr p bv (rdByte bs s).2]) (fun _ _ => []) := by
  refine Fnc.proof Try.func18 rfl 8 rfl rfl fun X w => ?_
  have hN0 := fun b sv => byte1_c b sv (bs.drop s.pos)
  have hb := byteD_bd (bs.drop s.pos)
  rcases hN : byteD (bs.drop s.pos) with ⟨x, n, e⟩
  rw [hN] at hb
  simp only [hN] at hN0
  simp only at hb
  have hr : rdByte bs s = (s.val 0 x e, s.step n e) := by simp only [rdNum, rdByte, rdCount, rdText, rdOf, hN]
  rw [hr]
  have hb : True ∧ n ≤ (bs.drop s.pos).length ∧ (e ≠ 0 → x = 0 ∧ n = 0) := ⟨trivial, hb⟩
  refine sq ?_
  refine rg ?_
  refine asg rfl rfl ?_
  refine nl ?_
  refine nx ?_
  refine sq ?_
  refine rg ?_
  refine al zero_5 rfl fun b3 => ?_
  refine stB 0 rfl rfl rfl one_5 rfl (Nat.lt_of_lt_of_le (Nat.lt_succ_self _) (Nat.le_of_ble_eq_true rfl)) ?_
  refine nl ?_
  refine nx ?_
  refine sq ?_
  refine rg ?_
  refine mv rfl rfl ?_
  refine mf (xs := [.tmp 3]) rfl rfl ?_
  refine cfP (L0 := [bl b3 5 [.int .u8 0], rdr p bv s]) (Lr := [fz X w]) (thing1 p 25 bv bs s #[.pointer (some ⟨b3, 0, none⟩)] _ (bl b3 5 [.int .u8 ((s.val 0 x e : UInt8).toNat : Int)]) n e ok_25 hp (by omega) (fun h sv => ?_) (fun h => ?_)) ok_24 rfl (by rfl) (SubD.cons 0 rfl SubD.nil) (by rfl) fun y v h => ?_
  · have q := hN0 b3 sv
    have e1 : s.val 0 x e = x := by unfold Rd.val; rw [if_neg (by omega)]; split; exact (by simp [hb.2.2, *]); rfl
    rw [e1]
    exact q
  · have e1 : s.val 0 x e = 0 := by unfold Rd.val; rw [if_pos h]
    rw [e1]; try rfl
  obtain rfl : v = .bool (decide (s.fault = 0 ∧ e = 0)) := h
  refine nl ?_
  refine nx ?_
  refine sq ?_
  refine rg ?_
  refine ldB 0 rfl rfl one_5 rfl rfl ?_
  refine asg rfl rfl ?_
  refine nl ?_
  refine nx ?_
  refine rt ?_
  refine dpQ ?_
  exact fR1 () rfl rfl rfl rfl SubD.nil

theorem count_r (p : Nat) (bv : Value) (bs : List UInt8) (s : Rd) (most : Int) (hm : InI most) (hp : s.pos ≤ bs.length) : Fnc Try.prog 28 [.pointer (some ⟨p, 0, none⟩), .int .i64 most] [rdr p bv s] [⟨bv, bs⟩] (fun (_ : Unit) v => v = .int .i64 ((rdCount bs most s).1 : Int)) (fun _ _ => [rdr p bv (rdCount bs most s).2]) (fun _ _ => []) := by
  refine Fnc.proof Try.func28 rfl 11 rfl rfl fun X w => ?_
  have hN0 := fun a b sv => count1_c a b sv (bs.drop s.pos) most hm
  have hb := countD_bd (bs.drop s.pos) most
  rcases hN : countD (bs.drop s.pos) most with ⟨x, n, e⟩
  rw [hN] at hb
  simp only [hN] at hN0
  simp only at hb
  have hr : rdCount bs most s = (s.val 0 x e, s.step n e) := by simp only [rdNum, rdByte, rdCount, rdText, rdOf, hN]
  rw [hr]
  refine sq ?_
  refine rg ?_
  refine bx rfl rfl rfl fun b3 => ?_
  refine asg rfl rfl ?_
  refine nl ?_
  refine nx ?_
  refine sq ?_
  refine rg ?_
  refine al zero_3 rfl fun b5 => ?_
  refine stB 0 rfl rfl rfl one_3 rfl (Nat.lt_of_lt_of_le (Nat.lt_succ_self _) (Nat.le_of_ble_eq_true rfl)) ?_
  refine nl ?_
  refine nx ?_
  refine sq ?_
  refine sq ?_
  refine rg ?_
  refine mv rfl rfl ?_
  refine mf (xs := [.tmp 3, .tmp 5]) rfl rfl ?_
  refine cfP (L0 := [bl b5 3 [.int .i64 0], bl b3 3 [.int .i64 most], rdr p bv s]) (Lr := [fz X w]) (thing2 p 33 bv bs s #[.pointer (some ⟨b3, 0, none⟩), .pointer (some ⟨b5, 0, none⟩)] _ _ (bl b5 3 [.int .i64 ((s.val 0 x e : Nat) : Int)]) (bl b3 3 [.int .i64 most]) n e ok_33 hp (by omega) (fun h sv => ?_) (fun h => ?_)) ok_24 rfl (by rfl) (SubD.cons 0 rfl SubD.nil) (by rfl) fun y v h => ?_
  · have q := hN0 b3 b5 sv
    have e1 : s.val 0 x e = x := by unfold Rd.val; rw [if_neg (by omega)]; split; exact (by simp [hb.2.2, *]); rfl
    rw [e1]
    exact q
  · have e1 : s.val 0 x e = 0 := by unfold Rd.val; rw [if_pos h]
    rw [e1]; try rfl
  obtain rfl : v = .bool (decide (s.fault = 0 ∧ e = 0)) := h
  refine nt rfl rfl ?_
  refine nl ?_
  refine nx ?_
  refine cdN rfl (fun h9 => ?_) (fun h9 => ?_)
  ·
    refine sq ?_
    refine rg ?_
    refine asg rfl rfl ?_
    refine nl ?_
    refine nx ?_
    refine rt ?_
    refine tR ?_
    have e1 : s.val 0 x e = 0 := by unfold Rd.val; split; rfl; split; rfl; omega
    refine dpQ (dpQ ?_)
    exact fR1 () rfl rfl (by rw [e1]; rfl) rfl SubD.nil
  ·
    refine sk ?_
    refine nx ?_
    refine sq ?_
    refine rg ?_
    refine ldB 0 rfl rfl one_3 rfl rfl ?_
    refine asg rfl rfl ?_
    refine nl ?_
    refine nx ?_
    refine rt ?_
    refine dpQ (dpQ ?_)
    exact fR1 () rfl rfl rfl rfl SubD.nil

theorem text_r (p : Nat) (bv : Value) (bs : List UInt8) (s : Rd) (most : Int) (hm : InI most) (hms : most ≤ 1000000) (hp : s.pos ≤ bs.length) : Fnc Try.prog 27 [.pointer (some ⟨p, 0, none⟩), .int .i64 most] [rdr p bv s] [⟨bv, bs⟩] (fun (_ : Unit) _ => True) (fun _ _ => [rdr p bv (rdText bs most s).2]) (fun _ v => [⟨v, (rdText bs most s).1⟩]) := by
  refine Fnc.proof Try.func27 rfl 10 rfl rfl fun X w => ?_
  have hN0 := fun a b sv => text1_c a b sv (bs.drop s.pos) most hm hms
  have hb := textD_bd (bs.drop s.pos) most
  rcases hN : textD (bs.drop s.pos) most with ⟨x, n, e⟩
  rw [hN] at hb
  simp only [hN] at hN0
  simp only at hb
  have hr : rdText bs most s = (s.val [] x e, s.step n e) := by simp only [rdNum, rdByte, rdCount, rdText, rdOf, hN]
  rw [hr]
  have hb : True ∧ n ≤ (bs.drop s.pos).length ∧ (e ≠ 0 → x = [] ∧ n = 0) := ⟨trivial, hb.1, hb.2.1⟩
  refine sq ?_
  refine rg ?_
  refine bx rfl rfl rfl fun b3 => ?_
  refine asg rfl rfl ?_
  refine nl ?_
  refine nx ?_
  refine sq ?_
  refine rg ?_
  refine al zero_23 rfl fun b5 => ?_
  refine nl ?_
  refine nx ?_
  refine sq ?_
  refine rg ?_
  refine mv rfl rfl ?_
  refine emL (α := UInt8) ?_
  refine clL (α := List UInt8) 0 0 rfl rfl ?_
  refine mf (xs := [.tmp 3, .tmp 5]) rfl rfl ?_
  refine cfP (L0 := [vr b5 23 ([] : List UInt8), bl b3 3 [.int .i64 most], rdr p bv s]) (Lr := [fz X w]) (thing2 p 31 bv bs s #[.pointer (some ⟨b3, 0, none⟩), .pointer (some ⟨b5, 0, none⟩)] _ _ (vr b5 23 (s.val [] x e : List UInt8)) (bl b3 3 [.int .i64 most]) n e ok_31 hp (by omega) (fun h sv => ?_) (fun h => ?_)) ok_24 rfl (by rfl) (SubD.cons 1 rfl SubD.nil) (by rfl) fun y v h => ?_
  · have q := hN0 b3 b5 sv
    have e1 : s.val [] x e = x := by unfold Rd.val; rw [if_neg (by omega)]; split; exact (by simp [hb.2.2, *]); rfl
    rw [e1]
    exact q
  · have e1 : s.val [] x e = [] := by unfold Rd.val; rw [if_pos h]
    rw [e1]; try rfl
  obtain rfl : v = .bool (decide (s.fault = 0 ∧ e = 0)) := h
  refine nl ?_
  refine nx ?_
  refine sq ?_
  refine rg ?_
  refine opL 0 rfl fun u9 => ?_
  refine ldB 0 rfl rfl one_23 rfl rfl ?_
  refine asg rfl rfl ?_
  refine nl ?_
  refine nx ?_
  refine rt ?_
  refine dpQ (dpQ ?_)
  exact fR1 () rfl rfl trivial rfl (SubD.cons 0 rfl SubD.nil)
end Go.Proofs.Ytcjaodddckbciaa
