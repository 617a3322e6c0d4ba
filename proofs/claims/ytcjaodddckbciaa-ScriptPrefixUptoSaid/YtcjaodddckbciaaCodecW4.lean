/- Walks: written by specs1.py. -/
import Derived.Test.YtcjaodddckbciaaCodecW3
namespace Go.Proofs.Ytcjaodddckbciaa
open Go.Eng Go.Ytcjaodddckbciaa

theorem thing1_c (p f : Nat) (bv : Value) (bs : List UInt8) (s : Rd) (caps : Array Value) (q q' : OwnE) (n e : Nat) (hok : FnOk Try.prog f) (h0 : s.fault = 0) (hp : s.pos ≤ bs.length) (hn : n ≤ (bs.drop s.pos).length)
    (hcl : ∀ sv, Fnc Try.prog f (sv :: caps.toList) [q] [⟨sv, bs.drop s.pos⟩] (fun (_ : Unit) v => v = stepTup n e) (fun _ _ => [q']) (fun _ _ => [])) :
    Fnc Try.prog 24 [.pointer (some ⟨p, 0, none⟩), .func (.func f) #[] caps] [q, rdr p bv s] [⟨bv, bs⟩] (fun (_ : Unit) v => v = .bool (decide (e = 0))) (fun _ _ => [q', rdr p bv (s.step n e)]) (fun _ _ => []) := by
  refine Fnc.proof Try.func24 rfl 54 rfl rfl fun X w => ?_
  rw [← List.take_length (l := bs)] at hcl
  have hcl' : ∀ sv, Fnc Try.prog f (sv :: caps.toList) [q] [⟨sv, (bs.take bs.length).drop s.pos⟩] (fun (_ : Unit) v => v = stepTup n e) (fun _ _ => [q']) (fun _ _ => []) := fun sv => by have := hcl sv; simpa using this
  rw [List.length_drop] at hn
  refine gtC (q := bs.length ≤ 9223372036854775807) (fun S w h => list_len (h _ (List.mem_cons_self ..))) fun hlen => ?_
  refine sq ?_
  refine rg ?_
  refine asg rfl rfl ?_
  refine nl ?_
  refine nx ?_
  refine sq ?_
  refine sq ?_
  refine rg ?_
  refine mv rfl rfl ?_
  refine eqP Try.underlying45 rfl rfl rfl ?_
  refine mv rfl rfl ?_
  refine gY rfl rfl rfl ?_
  refine mv rfl rfl ?_
  refine gY rfl rfl rfl ?_
  refine nc rfl rfl ?_
  refine gY rfl rfl rfl ?_
  refine fa rfl fld_54_2 rfl ?_
  refine gY rfl rfl rfl ?_
  refine ldB 1 rfl rfl one_24 rfl rfl ?_
  refine gY rfl rfl rfl ?_
  refine neI rfl rfl rfl ?_
  refine pkF rfl rfl rfl ?_
  refine nl ?_
  refine nx ?_
  refine cdN rfl (fun h15 => ?_) (fun h15 => ?_)
  ·
    exact absurd (by omega) h15 --#done
  ·
    refine sk ?_
    refine nx ?_
    refine sq ?_
    refine rgV ⟨fun i => ([[], [], [1], [2], [3], [], [5], [6], [7], [], [9], [10], [11], [12], [], [14], [15], [16], [17], [4, 8, 13, 18], [0, 19], [20], [21], [21], [22], [23]] : List (List Nat)).getD i [], fun _ _ => True, fun i => ([fun _ => [], fun _ => [], fun _ => [], fun _ => [], fun _ => [], fun _ => [], fun _ => [], fun _ => [], fun _ => [], fun _ => [], fun _ => [], fun _ => [], fun _ => [], fun _ => [], fun _ => [], fun _ => [], fun _ => [], fun _ => [], fun _ => [], fun u => [⟨u, (bs.take bs.length).drop s.pos⟩], fun _ => [], fun _ => [], fun _ => [], fun _ => [], fun _ => [], fun _ => []] : List (Value → List Atom)).getD i (fun _ => []), fun vs => match vs with
        | [] => [q, rdr p bv s, fz X w]
        | [v0] => [q', rdr p bv s, fz X w]
        | _ => [], [20]⟩ (fun i => ([some (.func (.func f) #[] caps), some (.pointer (some ⟨p, 0, none⟩)), some (.pointer (some ⟨p, 0, none⟩)), some (.pointer (some ⟨p, 0, none⟩)), some (bv), some (.pointer (some ⟨p, 0, none⟩)), some (.pointer (some ⟨p, 0, none⟩)), some (.pointer (some ⟨p, 1, none⟩)), some (.int .i64 (s.pos : Int)), some (.pointer (some ⟨p, 0, none⟩)), some (.pointer (some ⟨p, 0, none⟩)), some (.pointer (some ⟨p, 0, none⟩)), some (bv), some (.int .i64 (bs.length : Int)), some (.pointer (some ⟨p, 0, none⟩)), some (.pointer (some ⟨p, 0, none⟩)), some (.pointer (some ⟨p, 0, none⟩)), some (bv), some (.int .i64 (bs.length : Int)), none, some (stepTup n e), some (stepTup n e), some (.int .i64 (n : Int)), some (.int .i64 (e : Int)), some (.int .i64 (n : Int)), some (.int .i64 (e : Int))] : List (Option Value)).getD i none) mixed rfl rfl ?_ ?_
    ·
      refine ⟨fun V De _ => (show AllP _ [0] from ⟨?_, trivial⟩), ?_⟩
      ·
        refine mv rfl rfl ?_
        exact nl (od rfl rfl rfl rfl SubD.nil SubD.refl)
      refine ⟨fun V De _ => (show AllP _ [0, 1] from ⟨?_, ?_, trivial⟩), ?_⟩
      ·
        refine mv rfl rfl ?_
        exact nl (od rfl rfl rfl rfl SubD.nil SubD.refl)
      ·
        refine mv rfl rfl ?_
        exact nl (od rfl rfl rfl rfl SubD.nil SubD.refl)
      refine ⟨fun V De _ => (show AllP _ [0, 1] from ⟨?_, ?_, trivial⟩), ?_⟩
      ·
        refine nc rfl rfl ?_
        exact nl (od rfl rfl rfl rfl SubD.nil SubD.refl)
      ·
        refine nc rfl rfl ?_
        exact nl (od rfl rfl rfl rfl SubD.nil SubD.refl)
      refine ⟨fun V De _ => (show AllP _ [0, 1] from ⟨?_, ?_, trivial⟩), ?_⟩
      ·
        refine fa rfl fld_54_0 rfl ?_
        exact nl (od rfl rfl rfl rfl SubD.nil SubD.refl)
      ·
        refine fa rfl fld_54_0 rfl ?_
        exact nl (od rfl rfl rfl rfl SubD.nil SubD.refl)
      refine ⟨fun V De _ => (show AllP _ [0, 1] from ⟨?_, ?_, trivial⟩), ?_⟩
      ·
        refine ldB 1 rfl rfl one_23 rfl rfl ?_
        exact nl (od rfl rfl rfl rfl SubD.nil SubD.refl)
      ·
        refine ldB 1 rfl rfl one_23 rfl rfl ?_
        exact nl (od rfl rfl rfl rfl SubD.nil SubD.refl)
      refine ⟨fun V De _ => (show AllP _ [0, 1] from ⟨?_, ?_, trivial⟩), ?_⟩
      ·
        refine mv rfl rfl ?_
        exact nl (od rfl rfl rfl rfl SubD.nil SubD.refl)
      ·
        refine mv rfl rfl ?_
        exact nl (od rfl rfl rfl rfl SubD.nil SubD.refl)
      refine ⟨fun V De _ => (show AllP _ [0, 1] from ⟨?_, ?_, trivial⟩), ?_⟩
      ·
        refine nc rfl rfl ?_
        exact nl (od rfl rfl rfl rfl SubD.nil SubD.refl)
      ·
        refine nc rfl rfl ?_
        exact nl (od rfl rfl rfl rfl SubD.nil SubD.refl)
      refine ⟨fun V De _ => (show AllP _ [0, 1] from ⟨?_, ?_, trivial⟩), ?_⟩
      ·
        refine fa rfl fld_54_1 rfl ?_
        exact nl (od rfl rfl rfl rfl SubD.nil SubD.refl)
      ·
        refine fa rfl fld_54_1 rfl ?_
        exact nl (od rfl rfl rfl rfl SubD.nil SubD.refl)
      refine ⟨fun V De _ => (show AllP _ [0, 1] from ⟨?_, ?_, trivial⟩), ?_⟩
      ·
        refine ldB 1 rfl rfl one_3 rfl rfl ?_
        exact nl (od rfl rfl rfl rfl SubD.nil SubD.refl)
      ·
        refine ldB 1 rfl rfl one_3 rfl rfl ?_
        exact nl (od rfl rfl rfl rfl SubD.nil SubD.refl)
      refine ⟨fun V De _ => (show AllP _ [0, 1] from ⟨?_, ?_, trivial⟩), ?_⟩
      ·
        refine mv rfl rfl ?_
        exact nl (od rfl rfl rfl rfl SubD.nil SubD.refl)
      ·
        refine mv rfl rfl ?_
        exact nl (od rfl rfl rfl rfl SubD.nil SubD.refl)
      refine ⟨fun V De _ => (show AllP _ [0, 1] from ⟨?_, ?_, trivial⟩), ?_⟩
      ·
        refine nc rfl rfl ?_
        exact nl (od rfl rfl rfl rfl SubD.nil SubD.refl)
      ·
        refine nc rfl rfl ?_
        exact nl (od rfl rfl rfl rfl SubD.nil SubD.refl)
      refine ⟨fun V De _ => (show AllP _ [0, 1] from ⟨?_, ?_, trivial⟩), ?_⟩
      ·
        refine fa rfl fld_54_0 rfl ?_
        exact nl (od rfl rfl rfl rfl SubD.nil SubD.refl)
      ·
        refine fa rfl fld_54_0 rfl ?_
        exact nl (od rfl rfl rfl rfl SubD.nil SubD.refl)
      refine ⟨fun V De _ => (show AllP _ [0, 1] from ⟨?_, ?_, trivial⟩), ?_⟩
      ·
        refine ldB 1 rfl rfl one_23 rfl rfl ?_
        exact nl (od rfl rfl rfl rfl SubD.nil SubD.refl)
      ·
        refine ldB 1 rfl rfl one_23 rfl rfl ?_
        exact nl (od rfl rfl rfl rfl SubD.nil SubD.refl)
      refine ⟨fun V De _ => (show AllP _ [0, 1] from ⟨?_, ?_, trivial⟩), ?_⟩
      ·
        refine lnP 0 rfl rfl Try.underlying23 rfl fun l30 => ?_
        exact nl (od rfl rfl rfl rfl SubD.nil SubD.refl)
      ·
        refine lnP 0 rfl rfl Try.underlying23 rfl fun l30 => ?_
        exact nl (od rfl rfl rfl rfl SubD.nil SubD.refl)
      refine ⟨fun V De _ => (show AllP _ [0, 1] from ⟨?_, ?_, trivial⟩), ?_⟩
      ·
        refine mv rfl rfl ?_
        exact nl (od rfl rfl rfl rfl SubD.nil SubD.refl)
      ·
        refine mv rfl rfl ?_
        exact nl (od rfl rfl rfl rfl SubD.nil SubD.refl)
      refine ⟨fun V De _ => (show AllP _ [0, 1] from ⟨?_, ?_, trivial⟩), ?_⟩
      ·
        refine nc rfl rfl ?_
        exact nl (od rfl rfl rfl rfl SubD.nil SubD.refl)
      ·
        refine nc rfl rfl ?_
        exact nl (od rfl rfl rfl rfl SubD.nil SubD.refl)
      refine ⟨fun V De _ => (show AllP _ [0, 1] from ⟨?_, ?_, trivial⟩), ?_⟩
      ·
        refine fa rfl fld_54_0 rfl ?_
        exact nl (od rfl rfl rfl rfl SubD.nil SubD.refl)
      ·
        refine fa rfl fld_54_0 rfl ?_
        exact nl (od rfl rfl rfl rfl SubD.nil SubD.refl)
      refine ⟨fun V De _ => (show AllP _ [0, 1] from ⟨?_, ?_, trivial⟩), ?_⟩
      ·
        refine ldB 1 rfl rfl one_23 rfl rfl ?_
        exact nl (od rfl rfl rfl rfl SubD.nil SubD.refl)
      ·
        refine ldB 1 rfl rfl one_23 rfl rfl ?_
        exact nl (od rfl rfl rfl rfl SubD.nil SubD.refl)
      refine ⟨fun V De _ => (show AllP _ [0, 1] from ⟨?_, ?_, trivial⟩), ?_⟩
      ·
        refine lnP 0 rfl rfl Try.underlying23 rfl fun l35 => ?_
        exact nl (od rfl rfl rfl rfl SubD.nil SubD.refl)
      ·
        refine lnP 0 rfl rfl Try.underlying23 rfl fun l35 => ?_
        exact nl (od rfl rfl rfl rfl SubD.nil SubD.refl)
      refine ⟨fun V De _ => (show AllP _ [0] from ⟨?_, trivial⟩), ?_⟩
      ·
        refine slP3 0 rfl rfl slt_23 rfl rfl rfl (by omega) (by omega) (by omega) (by omega) rfl fun v36 => ?_
        exact nl (od rfl rfl rfl trivial (SubD.cons 0 rfl SubD.nil) (SubD.tail SubD.refl))
      refine ⟨fun V De _ => (show AllP _ [0] from ⟨?_, trivial⟩), ?_⟩
      ·
        refine cfPc (L0 := [q]) (Lr := [rdr p bv s, fz X w]) (hcl' _) hok rfl (by rfl) (by rfl) (by rfl) (SubD.cons 0 rfl SubD.nil) (by rfl) fun y v h => ?_
        obtain rfl : v = stepTup n e := h
        exact nl (od rfl rfl rfl rfl SubD.nil (SubD.tail SubD.refl))
      refine ⟨fun V De _ => (show AllP _ [1] from ⟨?_, trivial⟩), ?_⟩
      ·
        refine mv rfl rfl ?_
        exact nl (od rfl rfl rfl rfl SubD.nil SubD.refl)
      refine ⟨fun V De _ => (show AllP _ [0, 1] from ⟨?_, ?_, trivial⟩), ?_⟩
      ·
        refine xt rfl rfl rfl ?_
        exact nl (od rfl rfl rfl rfl SubD.nil SubD.refl)
      ·
        refine xt rfl rfl rfl ?_
        exact nl (od rfl rfl rfl rfl SubD.nil SubD.refl)
      refine ⟨fun V De _ => (show AllP _ [0, 1] from ⟨?_, ?_, trivial⟩), ?_⟩
      ·
        refine xt rfl rfl rfl ?_
        exact nl (od rfl rfl rfl rfl SubD.nil SubD.refl)
      ·
        refine xt rfl rfl rfl ?_
        exact nl (od rfl rfl rfl rfl SubD.nil SubD.refl)
      refine ⟨fun V De _ => (show AllP _ [1] from ⟨?_, trivial⟩), ?_⟩
      ·
        refine asg rfl rfl ?_
        exact nl (od rfl rfl rfl rfl SubD.nil SubD.refl)
      refine ⟨fun V De _ => (show AllP _ [1] from ⟨?_, trivial⟩), ?_⟩
      ·
        refine asg rfl rfl ?_
        exact nl (od rfl rfl rfl rfl SubD.nil SubD.refl)
      trivial
    ·
      intro V _
      refine wkQ (L := [q', rdr p bv s, fz X w]) [(0, .pointer (some ⟨p, 0, none⟩)), (5, .int .i64 (n : Int)), (6, .int .i64 (e : Int))] [⟨bv, bs⟩] ⟨rfl, rfl, rfl, trivial⟩ (SubD.cons 1 rfl SubD.nil) ?_
      refine nx ?_
      refine sq ?_
      refine sq ?_
      refine rg ?_
      refine mv rfl rfl ?_
      refine neI rfl rfl rfl ?_
      refine nl ?_
      refine nx ?_
      refine cdN rfl (fun h41 => ?_) (fun h41 => ?_)
      ·
        refine sq ?_
        refine rg ?_
        refine mv rfl rfl ?_
        refine mv rfl rfl ?_
        refine nc rfl rfl ?_
        refine fa rfl fld_54_2 rfl ?_
        refine stB 1 rfl rfl rfl one_24 rfl (Nat.lt_of_lt_of_le (Nat.lt_succ_self _) (Nat.le_of_ble_eq_true rfl)) ?_
        refine nl ?_
        refine nx ?_
        refine sq ?_
        refine rg ?_
        refine asg rfl rfl ?_
        refine nl ?_
        refine nx ?_
        refine rt ?_
        refine tR ?_
        have hs : s.step n e = ⟨s.pos, e⟩ := by unfold Rd.step; rw [if_neg (by omega), if_pos (by omega)]
        rw [hs]
        exact fR1 () rfl rfl (by rw [decide_eq_false (by omega)]) rfl SubD.nil
      ·
        refine sk ?_
        refine nx ?_
        refine sq ?_
        refine rg ?_
        refine mv rfl rfl ?_
        refine nc rfl rfl ?_
        refine fa rfl fld_54_1 rfl ?_
        refine ldB 1 rfl rfl one_3 rfl rfl ?_
        refine mv rfl rfl ?_
        refine adI rfl rfl (inI (by omega) (by omega)) rfl ?_
        refine nc rfl rfl ?_
        refine fa rfl fld_54_1 rfl ?_
        refine stB 1 rfl rfl rfl one_3 rfl (Nat.lt_of_lt_of_le (Nat.lt_succ_self _) (Nat.le_of_ble_eq_true rfl)) ?_
        refine nl ?_
        refine nx ?_
        refine sq ?_
        refine rg ?_
        refine asg rfl rfl ?_
        refine nl ?_
        refine nx ?_
        refine rt ?_
        obtain rfl : e = 0 := by omega
        have hs : s.step n 0 = ⟨s.pos + n, s.fault⟩ := by unfold Rd.step; rw [if_neg (by omega), if_neg (by omega)]
        rw [hs]
        exact fR1 () rfl rfl rfl rfl SubD.nil

theorem thing2_c (p f : Nat) (bv : Value) (bs : List UInt8) (s : Rd) (caps : Array Value) (q1 q2 q1' q2' : OwnE) (n e : Nat) (hok : FnOk Try.prog f) (h0 : s.fault = 0) (hp : s.pos ≤ bs.length) (hn : n ≤ (bs.drop s.pos).length)
    (hcl : ∀ sv, Fnc Try.prog f (sv :: caps.toList) [q1, q2] [⟨sv, bs.drop s.pos⟩] (fun (_ : Unit) v => v = stepTup n e) (fun _ _ => [q1', q2']) (fun _ _ => [])) :
    Fnc Try.prog 24 [.pointer (some ⟨p, 0, none⟩), .func (.func f) #[] caps] [q1, q2, rdr p bv s] [⟨bv, bs⟩] (fun (_ : Unit) v => v = .bool (decide (e = 0))) (fun _ _ => [q1', q2', rdr p bv (s.step n e)]) (fun _ _ => []) := by
  refine Fnc.proof Try.func24 rfl 54 rfl rfl fun X w => ?_
  rw [← List.take_length (l := bs)] at hcl
  have hcl' : ∀ sv, Fnc Try.prog f (sv :: caps.toList) [q1, q2] [⟨sv, (bs.take bs.length).drop s.pos⟩] (fun (_ : Unit) v => v = stepTup n e) (fun _ _ => [q1', q2']) (fun _ _ => []) := fun sv => by have := hcl sv; simpa using this
  rw [List.length_drop] at hn
  refine gtC (q := bs.length ≤ 9223372036854775807) (fun S w h => list_len (h _ (List.mem_cons_self ..))) fun hlen => ?_
  refine sq ?_
  refine rg ?_
  refine asg rfl rfl ?_
  refine nl ?_
  refine nx ?_
  refine sq ?_
  refine sq ?_
  refine rg ?_
  refine mv rfl rfl ?_
  refine eqP Try.underlying45 rfl rfl rfl ?_
  refine mv rfl rfl ?_
  refine gY rfl rfl rfl ?_
  refine mv rfl rfl ?_
  refine gY rfl rfl rfl ?_
  refine nc rfl rfl ?_
  refine gY rfl rfl rfl ?_
  refine fa rfl fld_54_2 rfl ?_
  refine gY rfl rfl rfl ?_
  refine ldB 2 rfl rfl one_24 rfl rfl ?_
  refine gY rfl rfl rfl ?_
  refine neI rfl rfl rfl ?_
  refine pkF rfl rfl rfl ?_
  refine nl ?_
  refine nx ?_
  refine cdN rfl (fun h15 => ?_) (fun h15 => ?_)
  ·
    exact absurd (by omega) h15 --#done
  ·
    refine sk ?_
    refine nx ?_
    refine sq ?_
    refine rgV ⟨fun i => ([[], [], [1], [2], [3], [], [5], [6], [7], [], [9], [10], [11], [12], [], [14], [15], [16], [17], [4, 8, 13, 18], [0, 19], [20], [21], [21], [22], [23]] : List (List Nat)).getD i [], fun _ _ => True, fun i => ([fun _ => [], fun _ => [], fun _ => [], fun _ => [], fun _ => [], fun _ => [], fun _ => [], fun _ => [], fun _ => [], fun _ => [], fun _ => [], fun _ => [], fun _ => [], fun _ => [], fun _ => [], fun _ => [], fun _ => [], fun _ => [], fun _ => [], fun u => [⟨u, (bs.take bs.length).drop s.pos⟩], fun _ => [], fun _ => [], fun _ => [], fun _ => [], fun _ => [], fun _ => []] : List (Value → List Atom)).getD i (fun _ => []), fun vs => match vs with
        | [] => [q1, q2, rdr p bv s, fz X w]
        | [v0] => [q1', q2', rdr p bv s, fz X w]
        | _ => [], [20]⟩ (fun i => ([some (.func (.func f) #[] caps), some (.pointer (some ⟨p, 0, none⟩)), some (.pointer (some ⟨p, 0, none⟩)), some (.pointer (some ⟨p, 0, none⟩)), some (bv), some (.pointer (some ⟨p, 0, none⟩)), some (.pointer (some ⟨p, 0, none⟩)), some (.pointer (some ⟨p, 1, none⟩)), some (.int .i64 (s.pos : Int)), some (.pointer (some ⟨p, 0, none⟩)), some (.pointer (some ⟨p, 0, none⟩)), some (.pointer (some ⟨p, 0, none⟩)), some (bv), some (.int .i64 (bs.length : Int)), some (.pointer (some ⟨p, 0, none⟩)), some (.pointer (some ⟨p, 0, none⟩)), some (.pointer (some ⟨p, 0, none⟩)), some (bv), some (.int .i64 (bs.length : Int)), none, some (stepTup n e), some (stepTup n e), some (.int .i64 (n : Int)), some (.int .i64 (e : Int)), some (.int .i64 (n : Int)), some (.int .i64 (e : Int))] : List (Option Value)).getD i none) mixed rfl rfl ?_ ?_
    ·
      refine ⟨fun V De _ => (show AllP _ [0] from ⟨?_, trivial⟩), ?_⟩
      ·
        refine mv rfl rfl ?_
        exact nl (od rfl rfl rfl rfl SubD.nil SubD.refl)
      refine ⟨fun V De _ => (show AllP _ [0, 1] from ⟨?_, ?_, trivial⟩), ?_⟩
      ·
        refine mv rfl rfl ?_
        exact nl (od rfl rfl rfl rfl SubD.nil SubD.refl)
      ·
        refine mv rfl rfl ?_
        exact nl (od rfl rfl rfl rfl SubD.nil SubD.refl)
      refine ⟨fun V De _ => (show AllP _ [0, 1] from ⟨?_, ?_, trivial⟩), ?_⟩
      ·
        refine nc rfl rfl ?_
        exact nl (od rfl rfl rfl rfl SubD.nil SubD.refl)
      ·
        refine nc rfl rfl ?_
        exact nl (od rfl rfl rfl rfl SubD.nil SubD.refl)
      refine ⟨fun V De _ => (show AllP _ [0, 1] from ⟨?_, ?_, trivial⟩), ?_⟩
      ·
        refine fa rfl fld_54_0 rfl ?_
        exact nl (od rfl rfl rfl rfl SubD.nil SubD.refl)
      ·
        refine fa rfl fld_54_0 rfl ?_
        exact nl (od rfl rfl rfl rfl SubD.nil SubD.refl)
      refine ⟨fun V De _ => (show AllP _ [0, 1] from ⟨?_, ?_, trivial⟩), ?_⟩
      ·
        refine ldB 2 rfl rfl one_23 rfl rfl ?_
        exact nl (od rfl rfl rfl rfl SubD.nil SubD.refl)
      ·
        refine ldB 2 rfl rfl one_23 rfl rfl ?_
        exact nl (od rfl rfl rfl rfl SubD.nil SubD.refl)
      refine ⟨fun V De _ => (show AllP _ [0, 1] from ⟨?_, ?_, trivial⟩), ?_⟩
      ·
        refine mv rfl rfl ?_
        exact nl (od rfl rfl rfl rfl SubD.nil SubD.refl)
      ·
        refine mv rfl rfl ?_
        exact nl (od rfl rfl rfl rfl SubD.nil SubD.refl)
      refine ⟨fun V De _ => (show AllP _ [0, 1] from ⟨?_, ?_, trivial⟩), ?_⟩
      ·
        refine nc rfl rfl ?_
        exact nl (od rfl rfl rfl rfl SubD.nil SubD.refl)
      ·
        refine nc rfl rfl ?_
        exact nl (od rfl rfl rfl rfl SubD.nil SubD.refl)
      refine ⟨fun V De _ => (show AllP _ [0, 1] from ⟨?_, ?_, trivial⟩), ?_⟩
      ·
        refine fa rfl fld_54_1 rfl ?_
        exact nl (od rfl rfl rfl rfl SubD.nil SubD.refl)
      ·
        refine fa rfl fld_54_1 rfl ?_
        exact nl (od rfl rfl rfl rfl SubD.nil SubD.refl)
      refine ⟨fun V De _ => (show AllP _ [0, 1] from ⟨?_, ?_, trivial⟩), ?_⟩
      ·
        refine ldB 2 rfl rfl one_3 rfl rfl ?_
        exact nl (od rfl rfl rfl rfl SubD.nil SubD.refl)
      ·
        refine ldB 2 rfl rfl one_3 rfl rfl ?_
        exact nl (od rfl rfl rfl rfl SubD.nil SubD.refl)
      refine ⟨fun V De _ => (show AllP _ [0, 1] from ⟨?_, ?_, trivial⟩), ?_⟩
      ·
        refine mv rfl rfl ?_
        exact nl (od rfl rfl rfl rfl SubD.nil SubD.refl)
      ·
        refine mv rfl rfl ?_
        exact nl (od rfl rfl rfl rfl SubD.nil SubD.refl)
      refine ⟨fun V De _ => (show AllP _ [0, 1] from ⟨?_, ?_, trivial⟩), ?_⟩
      ·
        refine nc rfl rfl ?_
        exact nl (od rfl rfl rfl rfl SubD.nil SubD.refl)
      ·
        refine nc rfl rfl ?_
        exact nl (od rfl rfl rfl rfl SubD.nil SubD.refl)
      refine ⟨fun V De _ => (show AllP _ [0, 1] from ⟨?_, ?_, trivial⟩), ?_⟩
      ·
        refine fa rfl fld_54_0 rfl ?_
        exact nl (od rfl rfl rfl rfl SubD.nil SubD.refl)
      ·
        refine fa rfl fld_54_0 rfl ?_
        exact nl (od rfl rfl rfl rfl SubD.nil SubD.refl)
      refine ⟨fun V De _ => (show AllP _ [0, 1] from ⟨?_, ?_, trivial⟩), ?_⟩
      ·
        refine ldB 2 rfl rfl one_23 rfl rfl ?_
        exact nl (od rfl rfl rfl rfl SubD.nil SubD.refl)
      ·
        refine ldB 2 rfl rfl one_23 rfl rfl ?_
        exact nl (od rfl rfl rfl rfl SubD.nil SubD.refl)
      refine ⟨fun V De _ => (show AllP _ [0, 1] from ⟨?_, ?_, trivial⟩), ?_⟩
      ·
        refine lnP 0 rfl rfl Try.underlying23 rfl fun l30 => ?_
        exact nl (od rfl rfl rfl rfl SubD.nil SubD.refl)
      ·
        refine lnP 0 rfl rfl Try.underlying23 rfl fun l30 => ?_
        exact nl (od rfl rfl rfl rfl SubD.nil SubD.refl)
      refine ⟨fun V De _ => (show AllP _ [0, 1] from ⟨?_, ?_, trivial⟩), ?_⟩
      ·
        refine mv rfl rfl ?_
        exact nl (od rfl rfl rfl rfl SubD.nil SubD.refl)
      ·
        refine mv rfl rfl ?_
        exact nl (od rfl rfl rfl rfl SubD.nil SubD.refl)
      refine ⟨fun V De _ => (show AllP _ [0, 1] from ⟨?_, ?_, trivial⟩), ?_⟩
      ·
        refine nc rfl rfl ?_
        exact nl (od rfl rfl rfl rfl SubD.nil SubD.refl)
      ·
        refine nc rfl rfl ?_
        exact nl (od rfl rfl rfl rfl SubD.nil SubD.refl)
      refine ⟨fun V De _ => (show AllP _ [0, 1] from ⟨?_, ?_, trivial⟩), ?_⟩
      ·
        refine fa rfl fld_54_0 rfl ?_
        exact nl (od rfl rfl rfl rfl SubD.nil SubD.refl)
      ·
        refine fa rfl fld_54_0 rfl ?_
        exact nl (od rfl rfl rfl rfl SubD.nil SubD.refl)
      refine ⟨fun V De _ => (show AllP _ [0, 1] from ⟨?_, ?_, trivial⟩), ?_⟩
      ·
        refine ldB 2 rfl rfl one_23 rfl rfl ?_
        exact nl (od rfl rfl rfl rfl SubD.nil SubD.refl)
      ·
        refine ldB 2 rfl rfl one_23 rfl rfl ?_
        exact nl (od rfl rfl rfl rfl SubD.nil SubD.refl)
      refine ⟨fun V De _ => (show AllP _ [0, 1] from ⟨?_, ?_, trivial⟩), ?_⟩
      ·
        refine lnP 0 rfl rfl Try.underlying23 rfl fun l35 => ?_
        exact nl (od rfl rfl rfl rfl SubD.nil SubD.refl)
      ·
        refine lnP 0 rfl rfl Try.underlying23 rfl fun l35 => ?_
        exact nl (od rfl rfl rfl rfl SubD.nil SubD.refl)
      refine ⟨fun V De _ => (show AllP _ [0] from ⟨?_, trivial⟩), ?_⟩
      ·
        refine slP3 0 rfl rfl slt_23 rfl rfl rfl (by omega) (by omega) (by omega) (by omega) rfl fun v36 => ?_
        exact nl (od rfl rfl rfl trivial (SubD.cons 0 rfl SubD.nil) (SubD.tail SubD.refl))
      refine ⟨fun V De _ => (show AllP _ [0] from ⟨?_, trivial⟩), ?_⟩
      ·
        refine cfPc (L0 := [q1, q2]) (Lr := [rdr p bv s, fz X w]) (hcl' _) hok rfl (by rfl) (by rfl) (by rfl) (SubD.cons 0 rfl SubD.nil) (by rfl) fun y v h => ?_
        obtain rfl : v = stepTup n e := h
        exact nl (od rfl rfl rfl rfl SubD.nil (SubD.tail SubD.refl))
      refine ⟨fun V De _ => (show AllP _ [1] from ⟨?_, trivial⟩), ?_⟩
      ·
        refine mv rfl rfl ?_
        exact nl (od rfl rfl rfl rfl SubD.nil SubD.refl)
      refine ⟨fun V De _ => (show AllP _ [0, 1] from ⟨?_, ?_, trivial⟩), ?_⟩
      ·
        refine xt rfl rfl rfl ?_
        exact nl (od rfl rfl rfl rfl SubD.nil SubD.refl)
      ·
        refine xt rfl rfl rfl ?_
        exact nl (od rfl rfl rfl rfl SubD.nil SubD.refl)
      refine ⟨fun V De _ => (show AllP _ [0, 1] from ⟨?_, ?_, trivial⟩), ?_⟩
      ·
        refine xt rfl rfl rfl ?_
        exact nl (od rfl rfl rfl rfl SubD.nil SubD.refl)
      ·
        refine xt rfl rfl rfl ?_
        exact nl (od rfl rfl rfl rfl SubD.nil SubD.refl)
      refine ⟨fun V De _ => (show AllP _ [1] from ⟨?_, trivial⟩), ?_⟩
      ·
        refine asg rfl rfl ?_
        exact nl (od rfl rfl rfl rfl SubD.nil SubD.refl)
      refine ⟨fun V De _ => (show AllP _ [1] from ⟨?_, trivial⟩), ?_⟩
      ·
        refine asg rfl rfl ?_
        exact nl (od rfl rfl rfl rfl SubD.nil SubD.refl)
      trivial
    ·
      intro V _
      refine wkQ (L := [q1', q2', rdr p bv s, fz X w]) [(0, .pointer (some ⟨p, 0, none⟩)), (5, .int .i64 (n : Int)), (6, .int .i64 (e : Int))] [⟨bv, bs⟩] ⟨rfl, rfl, rfl, trivial⟩ (SubD.cons 1 rfl SubD.nil) ?_
      refine nx ?_
      refine sq ?_
      refine sq ?_
      refine rg ?_
      refine mv rfl rfl ?_
      refine neI rfl rfl rfl ?_
      refine nl ?_
      refine nx ?_
      refine cdN rfl (fun h41 => ?_) (fun h41 => ?_)
      ·
        refine sq ?_
        refine rg ?_
        refine mv rfl rfl ?_
        refine mv rfl rfl ?_
        refine nc rfl rfl ?_
        refine fa rfl fld_54_2 rfl ?_
        refine stB 2 rfl rfl rfl one_24 rfl (Nat.lt_of_lt_of_le (Nat.lt_succ_self _) (Nat.le_of_ble_eq_true rfl)) ?_
        refine nl ?_
        refine nx ?_
        refine sq ?_
        refine rg ?_
        refine asg rfl rfl ?_
        refine nl ?_
        refine nx ?_
        refine rt ?_
        refine tR ?_
        have hs : s.step n e = ⟨s.pos, e⟩ := by unfold Rd.step; rw [if_neg (by omega), if_pos (by omega)]
        rw [hs]
        exact fR1 () rfl rfl (by rw [decide_eq_false (by omega)]) rfl SubD.nil
      ·
        refine sk ?_
        refine nx ?_
        refine sq ?_
        refine rg ?_
        refine mv rfl rfl ?_
        refine nc rfl rfl ?_
        refine fa rfl fld_54_1 rfl ?_
        refine ldB 2 rfl rfl one_3 rfl rfl ?_
        refine mv rfl rfl ?_
        refine adI rfl rfl (inI (by omega) (by omega)) rfl ?_
        refine nc rfl rfl ?_
        refine fa rfl fld_54_1 rfl ?_
        refine stB 2 rfl rfl rfl one_3 rfl (Nat.lt_of_lt_of_le (Nat.lt_succ_self _) (Nat.le_of_ble_eq_true rfl)) ?_
        refine nl ?_
        refine nx ?_
        refine sq ?_
        refine rg ?_
        refine asg rfl rfl ?_
        refine nl ?_
        refine nx ?_
        refine rt ?_
        obtain rfl : e = 0 := by omega
        have hs : s.step n 0 = ⟨s.pos + n, s.fault⟩ := by unfold Rd.step; rw [if_neg (by omega), if_neg (by omega)]
        rw [hs]
        exact fR1 () rfl rfl rfl rfl SubD.nil

theorem thing1_b (p f : Nat) (bv : Value) (bs : List UInt8) (s : Rd) (caps : Array Value) (q : OwnE) (n e : Nat) (h0 : s.fault ≠ 0) :
    Fnc Try.prog 24 [.pointer (some ⟨p, 0, none⟩), .func (.func f) #[] caps] [q, rdr p bv s] [⟨bv, bs⟩] (fun (_ : Unit) v => v = .bool false) (fun _ _ => [q, rdr p bv s]) (fun _ _ => []) := by
  refine Fnc.proof Try.func24 rfl 54 rfl rfl fun X w => ?_
  refine sq ?_
  refine rg ?_
  refine asg rfl rfl ?_
  refine nl ?_
  refine nx ?_
  refine sq ?_
  refine sq ?_
  refine rg ?_
  refine mv rfl rfl ?_
  refine eqP Try.underlying45 rfl rfl rfl ?_
  refine mv rfl rfl ?_
  refine gY rfl rfl rfl ?_
  refine mv rfl rfl ?_
  refine gY rfl rfl rfl ?_
  refine nc rfl rfl ?_
  refine gY rfl rfl rfl ?_
  refine fa rfl fld_54_2 rfl ?_
  refine gY rfl rfl rfl ?_
  refine ldB 1 rfl rfl one_24 rfl rfl ?_
  refine gY rfl rfl rfl ?_
  refine neI rfl rfl rfl ?_
  refine pkF rfl rfl rfl ?_
  refine nl ?_
  refine nx ?_
  refine cdN rfl (fun h15 => ?_) (fun h15 => ?_)
  ·
    refine sq ?_
    refine rg ?_
    refine asg rfl rfl ?_
    refine nl ?_
    refine nx ?_
    refine rt ?_
    refine tR ?_
    exact fR1 () rfl rfl rfl rfl SubD.nil
  ·
    exact absurd (by omega) h0 --#done

theorem thing1 (p f : Nat) (bv : Value) (bs : List UInt8) (s : Rd) (caps : Array Value) (q q' : OwnE) (n e : Nat) (hok : FnOk Try.prog f) (hp : s.pos ≤ bs.length) (hn : n ≤ (bs.drop s.pos).length)
    (hcl : s.fault = 0 → ∀ sv, Fnc Try.prog f (sv :: caps.toList) [q] [⟨sv, bs.drop s.pos⟩] (fun (_ : Unit) v => v = stepTup n e) (fun _ _ => [q']) (fun _ _ => []))
    (hbad : s.fault ≠ 0 → [q'] = [q]) :
    Fnc Try.prog 24 [.pointer (some ⟨p, 0, none⟩), .func (.func f) #[] caps] [q, rdr p bv s] [⟨bv, bs⟩] (fun (_ : Unit) v => v = .bool (decide (s.fault = 0 ∧ e = 0))) (fun _ _ => [q', rdr p bv (s.step n e)]) (fun _ _ => []) := by
  by_cases h0 : s.fault = 0
  · have h := thing1_c p f bv bs s caps q q' n e hok h0 hp hn (hcl h0)
    simpa only [h0, true_and] using h
  · have h := thing1_b p f bv bs s caps q n e h0
    have hs : s.step n e = s := by unfold Rd.step; rw [if_pos h0]
    have hb := hbad h0
    simp only [List.cons.injEq, and_true] at hb
    rw [hs, decide_eq_false (fun hh => h0 hh.1)]
    first | (obtain ⟨e1, e2⟩ := hb; rw [e1, e2]; exact h) | (rw [hb]; exact h)

theorem thing2_b (p f : Nat) (bv : Value) (bs : List UInt8) (s : Rd) (caps : Array Value) (q1 q2 : OwnE) (n e : Nat) (h0 : s.fault ≠ 0) :
    Fnc Try.prog 24 [.pointer (some ⟨p, 0, none⟩), .func (.func f) #[] caps] [q1, q2, rdr p bv s] [⟨bv, bs⟩] (fun (_ : Unit) v => v = .bool false) (fun _ _ => [q1, q2, rdr p bv s]) (fun _ _ => []) := by
  refine Fnc.proof Try.func24 rfl 54 rfl rfl fun X w => ?_
  refine sq ?_
  refine rg ?_
  refine asg rfl rfl ?_
  refine nl ?_
  refine nx ?_
  refine sq ?_
  refine sq ?_
  refine rg ?_
  refine mv rfl rfl ?_
  refine eqP Try.underlying45 rfl rfl rfl ?_
  refine mv rfl rfl ?_
  refine gY rfl rfl rfl ?_
  refine mv rfl rfl ?_
  refine gY rfl rfl rfl ?_
  refine nc rfl rfl ?_
  refine gY rfl rfl rfl ?_
  refine fa rfl fld_54_2 rfl ?_
  refine gY rfl rfl rfl ?_
  refine ldB 2 rfl rfl one_24 rfl rfl ?_
  refine gY rfl rfl rfl ?_
  refine neI rfl rfl rfl ?_
  refine pkF rfl rfl rfl ?_
  refine nl ?_
  refine nx ?_
  refine cdN rfl (fun h15 => ?_) (fun h15 => ?_)
  ·
    refine sq ?_
    refine rg ?_
    refine asg rfl rfl ?_
    refine nl ?_
    refine nx ?_
    refine rt ?_
    refine tR ?_
    exact fR1 () rfl rfl rfl rfl SubD.nil
  ·
    exact absurd (by omega) h0 --#done

theorem thing2 (p f : Nat) (bv : Value) (bs : List UInt8) (s : Rd) (caps : Array Value) (q1 q2 q1' q2' : OwnE) (n e : Nat) (hok : FnOk Try.prog f) (hp : s.pos ≤ bs.length) (hn : n ≤ (bs.drop s.pos).length)
    (hcl : s.fault = 0 → ∀ sv, Fnc Try.prog f (sv :: caps.toList) [q1, q2] [⟨sv, bs.drop s.pos⟩] (fun (_ : Unit) v => v = stepTup n e) (fun _ _ => [q1', q2']) (fun _ _ => []))
    (hbad : s.fault ≠ 0 → [q1', q2'] = [q1, q2]) :
    Fnc Try.prog 24 [.pointer (some ⟨p, 0, none⟩), .func (.func f) #[] caps] [q1, q2, rdr p bv s] [⟨bv, bs⟩] (fun (_ : Unit) v => v = .bool (decide (s.fault = 0 ∧ e = 0))) (fun _ _ => [q1', q2', rdr p bv (s.step n e)]) (fun _ _ => []) := by
  by_cases h0 : s.fault = 0
  · have h := thing2_c p f bv bs s caps q1 q2 q1' q2' n e hok h0 hp hn (hcl h0)
    simpa only [h0, true_and] using h
  · have h := thing2_b p f bv bs s caps q1 q2 n e h0
    have hs : s.step n e = s := by unfold Rd.step; rw [if_pos h0]
    have hb := hbad h0
    simp only [List.cons.injEq, and_true] at hb
    rw [hs, decide_eq_false (fun hh => h0 hh.1)]
    first | (obtain ⟨e1, e2⟩ := hb; rw [e1, e2]; exact h) | (rw [hb]; exact h)
end Go.Proofs.Ytcjaodddckbciaa
