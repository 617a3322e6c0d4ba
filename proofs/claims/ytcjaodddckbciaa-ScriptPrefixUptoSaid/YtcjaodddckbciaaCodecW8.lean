/- Walks: written by specs1.py. -/
import Derived.Test.YtcjaodddckbciaaCodecW7
namespace Go.Proofs.Ytcjaodddckbciaa
open Go.Eng Go.Ytcjaodddckbciaa

theorem event_r (p : Nat) (bv : Value) (bs : List UInt8) (s : Rd) (hp : s.pos ≤ bs.length) : Fnc Try.prog 20 [.pointer (some ⟨p, 0, none⟩)] [rdr p bv s] [⟨bv, bs⟩] (fun (y : Value) v => v = .tuple #[.agg (evCells (rdEv bs s).1 y).toArray, .bool (decide ((rdEv bs s).2.fault = 0))]) (fun _ _ => [rdr p bv (rdEv bs s).2]) (fun y _ => [⟨y, (rdEv bs s).1.keep⟩]) := by
  refine Fnc.proof Try.func20 rfl 86 rfl rfl fun X w => ?_
  rcases h1 : rdInt bs s with ⟨x1, s1⟩
  have p1 : s1.pos ≤ bs.length := by
    have := rdInt_pos (bs := bs) hp
    rw [h1] at this
    exact this
  have i1 : InI x1 := by
    have := rdInt_in bs s
    rw [h1] at this
    exact this
  rcases h2 : rdInt bs s1 with ⟨x2, s2⟩
  have p2 : s2.pos ≤ bs.length := by
    have := rdInt_pos (bs := bs) p1
    rw [h2] at this
    exact this
  have i2 : InI x2 := by
    have := rdInt_in bs s1
    rw [h2] at this
    exact this
  rcases h3 : rdInt bs s2 with ⟨x3, s3⟩
  have p3 : s3.pos ≤ bs.length := by
    have := rdInt_pos (bs := bs) p2
    rw [h3] at this
    exact this
  have i3 : InI x3 := by
    have := rdInt_in bs s2
    rw [h3] at this
    exact this
  rcases h4 : rdInt bs s3 with ⟨x4, s4⟩
  have p4 : s4.pos ≤ bs.length := by
    have := rdInt_pos (bs := bs) p3
    rw [h4] at this
    exact this
  have i4 : InI x4 := by
    have := rdInt_in bs s3
    rw [h4] at this
    exact this
  rcases h5 : rdInt bs s4 with ⟨x5, s5⟩
  have p5 : s5.pos ≤ bs.length := by
    have := rdInt_pos (bs := bs) p4
    rw [h5] at this
    exact this
  have i5 : InI x5 := by
    have := rdInt_in bs s4
    rw [h5] at this
    exact this
  refine sq ?_
  refine rg ?_
  refine al zero_35 rfl fun b2 => ?_
  refine asg rfl rfl ?_
  refine nl ?_
  refine nx ?_
  refine sq ?_
  refine rg ?_
  refine al zero_35 rfl fun b4 => ?_
  refine nl ?_
  refine nx ?_
  refine sq ?_
  refine sq ?_
  refine rg ?_
  refine fa rfl fld_35_0 rfl ?_
  refine fa rfl fld_35_1 rfl ?_
  refine fa rfl fld_35_2 rfl ?_
  refine fa rfl fld_35_3 rfl ?_
  refine fa rfl fld_35_4 rfl ?_
  refine bs1 (xs := [.tmp 11, .tmp 12, .tmp 13, .tmp 14, .tmp 15]) (by rfl) app_58 (by rfl) (by rfl) (by rfl) (by rfl) (by rfl) (by rfl) fun b16 => ?_
  refine lnV rfl Try.underlying58 rfl ?_
  refine mv rfl rfl ?_
  refine nl ?_
  refine nx ?_
  refine bk ?_
  refine lu0 (lu1 ?_)
  refine sq ?_
  refine rg ?_
  refine ltI rfl rfl rfl ?_
  refine nl ?_
  refine nx ?_
  refine sq ?_
  refine cdP rfl (fun h19 => ?_) (fun h19 => ?_)
  ·
    refine sk ?_
    refine nx ?_
    refine sq ?_
    refine bk ?_
    refine sq ?_
    refine rg ?_
    refine ixV rfl rfl slt_58 (by omega) (by omega) rfl ?_
    refine ldB 0 rfl rfl one_57 rfl rfl ?_
    refine asg rfl rfl ?_
    refine nl ?_
    refine nx ?_
    refine rg ?_
    refine mv rfl rfl ?_
    refine mv rfl rfl ?_
    refine cf1 3 (int_r _ _ _ _ _ _ hp h1) ok_26 rfl rfl (SubD.cons 0 rfl SubD.nil) rfl fun y24 v24 h24 => ?_
    have h24 : v24 = _ := h24
    subst h24
    refine nc rfl rfl ?_
    refine stB 1 rfl rfl rfl one_3 rfl (Nat.lt_of_lt_of_le (Nat.lt_succ_self _) (Nat.le_of_ble_eq_true rfl)) ?_
    refine nl ?_
    refine bN ?_
    refine nx ?_
    refine rg ?_
    refine adI rfl rfl (inI (by omega) (by omega)) rfl ?_
    refine mv rfl rfl ?_
    refine nl ?_
    refine lun (lu1 ?_)
    refine sq ?_
    refine rg ?_
    refine ltI rfl rfl rfl ?_
    refine nl ?_
    refine nx ?_
    refine sq ?_
    refine cdP rfl (fun h19 => ?_) (fun h19 => ?_)
    ·
      refine sk ?_
      refine nx ?_
      refine sq ?_
      refine bk ?_
      refine sq ?_
      refine rg ?_
      refine ixV rfl rfl slt_58 (by omega) (by omega) rfl ?_
      refine ldB 0 rfl rfl one_57 rfl rfl ?_
      refine asg rfl rfl ?_
      refine nl ?_
      refine nx ?_
      refine rg ?_
      refine mv rfl rfl ?_
      refine mv rfl rfl ?_
      refine cf1 3 (int_r _ _ _ _ _ _ p1 h2) ok_26 rfl rfl (SubD.cons 0 rfl SubD.nil) rfl fun y24 v24 h24 => ?_
      have h24 : v24 = _ := h24
      subst h24
      refine nc rfl rfl ?_
      refine stB 1 rfl rfl rfl one_3 rfl (Nat.lt_of_lt_of_le (Nat.lt_succ_self _) (Nat.le_of_ble_eq_true rfl)) ?_
      refine nl ?_
      refine bN ?_
      refine nx ?_
      refine rg ?_
      refine adI rfl rfl (inI (by omega) (by omega)) rfl ?_
      refine mv rfl rfl ?_
      refine nl ?_
      refine lun (lu1 ?_)
      refine sq ?_
      refine rg ?_
      refine ltI rfl rfl rfl ?_
      refine nl ?_
      refine nx ?_
      refine sq ?_
      refine cdP rfl (fun h19 => ?_) (fun h19 => ?_)
      ·
        refine sk ?_
        refine nx ?_
        refine sq ?_
        refine bk ?_
        refine sq ?_
        refine rg ?_
        refine ixV rfl rfl slt_58 (by omega) (by omega) rfl ?_
        refine ldB 0 rfl rfl one_57 rfl rfl ?_
        refine asg rfl rfl ?_
        refine nl ?_
        refine nx ?_
        refine rg ?_
        refine mv rfl rfl ?_
        refine mv rfl rfl ?_
        refine cf1 3 (int_r _ _ _ _ _ _ p2 h3) ok_26 rfl rfl (SubD.cons 0 rfl SubD.nil) rfl fun y24 v24 h24 => ?_
        have h24 : v24 = _ := h24
        subst h24
        refine nc rfl rfl ?_
        refine stB 1 rfl rfl rfl one_3 rfl (Nat.lt_of_lt_of_le (Nat.lt_succ_self _) (Nat.le_of_ble_eq_true rfl)) ?_
        refine nl ?_
        refine bN ?_
        refine nx ?_
        refine rg ?_
        refine adI rfl rfl (inI (by omega) (by omega)) rfl ?_
        refine mv rfl rfl ?_
        refine nl ?_
        refine lun (lu1 ?_)
        refine sq ?_
        refine rg ?_
        refine ltI rfl rfl rfl ?_
        refine nl ?_
        refine nx ?_
        refine sq ?_
        refine cdP rfl (fun h19 => ?_) (fun h19 => ?_)
        ·
          refine sk ?_
          refine nx ?_
          refine sq ?_
          refine bk ?_
          refine sq ?_
          refine rg ?_
          refine ixV rfl rfl slt_58 (by omega) (by omega) rfl ?_
          refine ldB 0 rfl rfl one_57 rfl rfl ?_
          refine asg rfl rfl ?_
          refine nl ?_
          refine nx ?_
          refine rg ?_
          refine mv rfl rfl ?_
          refine mv rfl rfl ?_
          refine cf1 3 (int_r _ _ _ _ _ _ p3 h4) ok_26 rfl rfl (SubD.cons 0 rfl SubD.nil) rfl fun y24 v24 h24 => ?_
          have h24 : v24 = _ := h24
          subst h24
          refine nc rfl rfl ?_
          refine stB 1 rfl rfl rfl one_3 rfl (Nat.lt_of_lt_of_le (Nat.lt_succ_self _) (Nat.le_of_ble_eq_true rfl)) ?_
          refine nl ?_
          refine bN ?_
          refine nx ?_
          refine rg ?_
          refine adI rfl rfl (inI (by omega) (by omega)) rfl ?_
          refine mv rfl rfl ?_
          refine nl ?_
          refine lun (lu1 ?_)
          refine sq ?_
          refine rg ?_
          refine ltI rfl rfl rfl ?_
          refine nl ?_
          refine nx ?_
          refine sq ?_
          refine cdP rfl (fun h19 => ?_) (fun h19 => ?_)
          ·
            refine sk ?_
            refine nx ?_
            refine sq ?_
            refine bk ?_
            refine sq ?_
            refine rg ?_
            refine ixV rfl rfl slt_58 (by omega) (by omega) rfl ?_
            refine ldB 0 rfl rfl one_57 rfl rfl ?_
            refine asg rfl rfl ?_
            refine nl ?_
            refine nx ?_
            refine rg ?_
            refine mv rfl rfl ?_
            refine mv rfl rfl ?_
            refine cf1 3 (int_r _ _ _ _ _ _ p4 h5) ok_26 rfl rfl (SubD.cons 0 rfl SubD.nil) rfl fun y24 v24 h24 => ?_
            have h24 : v24 = _ := h24
            subst h24
            refine nc rfl rfl ?_
            refine stB 1 rfl rfl rfl one_3 rfl (Nat.lt_of_lt_of_le (Nat.lt_succ_self _) (Nat.le_of_ble_eq_true rfl)) ?_
            refine nl ?_
            refine bN ?_
            refine nx ?_
            refine rg ?_
            refine adI rfl rfl (inI (by omega) (by omega)) rfl ?_
            refine mv rfl rfl ?_
            refine nl ?_
            refine lun (lu1 ?_)
            refine sq ?_
            refine rg ?_
            refine ltI rfl rfl rfl ?_
            refine nl ?_
            refine nx ?_
            refine sq ?_
            refine cdP rfl (fun h19 => ?_) (fun h19 => ?_)
            ·
              exact absurd h19 (by omega)
            ·
              refine ex ?_
              refine tE ?_
              refine tE ?_
              refine bE ?_
              refine nx ?_
              refine sq ?_
              refine bk ?_
              refine sq ?_
              refine rg ?_
              refine dpL ?_
              refine fa rfl fld_35_0 rfl ?_
              refine ldB 0 rfl rfl one_3 rfl rfl ?_
              refine eqI rfl rfl rfl ?_
              refine asg rfl rfl ?_
              refine nl ?_
              refine nx ?_
              refine cdP rfl (fun h27 => ?_) (fun h27 => ?_)
              ·
                rcases h6 : rdInt bs s5 with ⟨x6, s6⟩
                have p6 : s6.pos ≤ bs.length := by
                  have := rdInt_pos (bs := bs) p5
                  rw [h6] at this
                  exact this
                have i6 : InI x6 := by
                  have := rdInt_in bs s5
                  rw [h6] at this
                  exact this
                rcases h7 : rdText bs 16 s6 with ⟨x7, s7⟩
                have p7 : s7.pos ≤ bs.length := by
                  have := rdText_pos (bs := bs) (most := 16) p6
                  rw [h7] at this
                  exact this
                rcases h8 : rdText bs 16 s7 with ⟨x8, s8⟩
                have p8 : s8.pos ≤ bs.length := by
                  have := rdText_pos (bs := bs) (most := 16) p7
                  rw [h8] at this
                  exact this
                rcases h9 : rdInt bs s8 with ⟨x9, s9⟩
                have p9 : s9.pos ≤ bs.length := by
                  have := rdInt_pos (bs := bs) p8
                  rw [h9] at this
                  exact this
                have i9 : InI x9 := by
                  have := rdInt_in bs s8
                  rw [h9] at this
                  exact this
                rcases h10 : rdInt bs s9 with ⟨x10, s10⟩
                have p10 : s10.pos ≤ bs.length := by
                  have := rdInt_pos (bs := bs) p9
                  rw [h10] at this
                  exact this
                have i10 : InI x10 := by
                  have := rdInt_in bs s9
                  rw [h10] at this
                  exact this
                rcases h11 : rdInt bs s10 with ⟨x11, s11⟩
                have p11 : s11.pos ≤ bs.length := by
                  have := rdInt_pos (bs := bs) p10
                  rw [h11] at this
                  exact this
                have i11 : InI x11 := by
                  have := rdInt_in bs s10
                  rw [h11] at this
                  exact this
                have q7 := text_r p bv bs s6 16 (inI (by omega) (by omega)) (by omega) p6
                rw [h7] at q7
                have q8 := text_r p bv bs s7 16 (inI (by omega) (by omega)) (by omega) p7
                rw [h8] at q8
                refine sq ?_
                refine rg ?_
                refine mv rfl rfl ?_
                refine cf1 2 (int_r _ _ _ _ _ _ p5 h6) ok_26 rfl rfl (SubD.cons 0 rfl SubD.nil) rfl fun y32 v32 h32 => ?_
                have h32 : v32 = _ := h32
                subst h32
                refine fa rfl fld_35_5 rfl ?_
                refine fa rfl fld_32_0 rfl ?_
                refine stB 0 rfl rfl rfl one_3 rfl (Nat.lt_of_lt_of_le (Nat.lt_succ_self _) (Nat.le_of_ble_eq_true rfl)) ?_
                refine nl ?_
                refine nx ?_
                refine sq ?_
                refine rgV ⟨fun i => ([[], [0], [1], [], [3], [4], [], [6], [7, 2], [], [9], [10, 5]] : List (List Nat)).getD i [], fun _ _ => True, fun i => ([fun _ => [], fun u => [⟨u, x7⟩], fun _ => [], fun _ => [], fun u => [⟨u, x8⟩], fun _ => [], fun _ => [], fun _ => [], fun _ => [], fun _ => [], fun _ => [], fun _ => []] : List (Value → List Atom)).getD i (fun _ => []), fun vs => match vs with
                    | [] => [bl b4 35 [.int .i64 x1, .int .i64 x2, .int .i64 x3, .int .i64 x4, .int .i64 x5, .int .i64 x6, .string ByteArray.empty, .string ByteArray.empty, .int .i64 0, .int .i64 0, .int .i64 0, .slice none 0 0], bl b2 35 [.int .i64 0, .int .i64 0, .int .i64 0, .int .i64 0, .int .i64 0, .int .i64 0, .string ByteArray.empty, .string ByteArray.empty, .int .i64 0, .int .i64 0, .int .i64 0, .slice none 0 0], rdr p bv s6, fz X w]
                    | [v0] => [bl b4 35 [.int .i64 x1, .int .i64 x2, .int .i64 x3, .int .i64 x4, .int .i64 x5, .int .i64 x6, .string ByteArray.empty, .string ByteArray.empty, .int .i64 0, .int .i64 0, .int .i64 0, .slice none 0 0], bl b2 35 [.int .i64 0, .int .i64 0, .int .i64 0, .int .i64 0, .int .i64 0, .int .i64 0, .string ByteArray.empty, .string ByteArray.empty, .int .i64 0, .int .i64 0, .int .i64 0, .slice none 0 0], rdr p bv s7, fz X w]
                    | [v0, v1] => [bl b4 35 [.int .i64 x1, .int .i64 x2, .int .i64 x3, .int .i64 x4, .int .i64 x5, .int .i64 x6, .string ByteArray.empty, .string ByteArray.empty, .int .i64 0, .int .i64 0, .int .i64 0, .slice none 0 0], bl b2 35 [.int .i64 0, .int .i64 0, .int .i64 0, .int .i64 0, .int .i64 0, .int .i64 0, .string ByteArray.empty, .string ByteArray.empty, .int .i64 0, .int .i64 0, .int .i64 0, .slice none 0 0], rdr p bv s8, fz X w]
                    | [v0, v1, v2] => [bl b4 35 [.int .i64 x1, .int .i64 x2, .int .i64 x3, .int .i64 x4, .int .i64 x5, .int .i64 x6, .string ⟨x7.toArray⟩, .string ByteArray.empty, .int .i64 0, .int .i64 0, .int .i64 0, .slice none 0 0], bl b2 35 [.int .i64 0, .int .i64 0, .int .i64 0, .int .i64 0, .int .i64 0, .int .i64 0, .string ByteArray.empty, .string ByteArray.empty, .int .i64 0, .int .i64 0, .int .i64 0, .slice none 0 0], rdr p bv s8, fz X w]
                    | [v0, v1, v2, v3] => [bl b4 35 [.int .i64 x1, .int .i64 x2, .int .i64 x3, .int .i64 x4, .int .i64 x5, .int .i64 x6, .string ⟨x7.toArray⟩, .string ⟨x8.toArray⟩, .int .i64 0, .int .i64 0, .int .i64 0, .slice none 0 0], bl b2 35 [.int .i64 0, .int .i64 0, .int .i64 0, .int .i64 0, .int .i64 0, .int .i64 0, .string ByteArray.empty, .string ByteArray.empty, .int .i64 0, .int .i64 0, .int .i64 0, .slice none 0 0], rdr p bv s8, fz X w]
                    | _ => [], [1, 4, 8, 11]⟩ (fun i => ([some (.pointer (some ⟨p, 0, none⟩)), none, some (.string ⟨x7.toArray⟩), some (.pointer (some ⟨p, 0, none⟩)), none, some (.string ⟨x8.toArray⟩), some (.pointer (some ⟨b4, 5, none⟩)), some (.pointer (some ⟨b4, 6, none⟩)), none, some (.pointer (some ⟨b4, 5, none⟩)), some (.pointer (some ⟨b4, 7, none⟩)), none] : List (Option Value)).getD i none) mixed rfl rfl ?_ ?_
                ·
                  refine ⟨fun V De _ => (show AllP _ [0] from ⟨?_, trivial⟩), ?_⟩
                  ·
                    refine mv rfl rfl ?_
                    exact nl (od rfl rfl rfl rfl SubD.nil SubD.refl)
                  refine ⟨fun V De _ => (show AllP _ [0] from ⟨?_, trivial⟩), ?_⟩
                  ·
                    refine cf1 2 (q7) ok_27 rfl rfl (SubD.cons 0 rfl SubD.nil) rfl fun y36 v36 h36 => ?_
                    exact nl (od rfl rfl rfl trivial (SubD.cons 0 rfl SubD.nil) (SubD.tail SubD.refl))
                  refine ⟨fun V De _ => (show AllP _ [1, 2] from ⟨?_, ?_, trivial⟩), ?_⟩
                  ·
                    refine cbs 0 Try.underlying23 Try.underlying5 Try.underlying9 rfl rfl rfl ?_
                    exact nl (od rfl rfl rfl rfl SubD.nil (SubD.tail SubD.refl))
                  ·
                    refine cbs 0 Try.underlying23 Try.underlying5 Try.underlying9 rfl rfl rfl ?_
                    exact nl (od rfl rfl rfl rfl SubD.nil (SubD.tail SubD.refl))
                  refine ⟨fun V De _ => (show AllP _ [0, 1] from ⟨?_, ?_, trivial⟩), ?_⟩
                  ·
                    refine mv rfl rfl ?_
                    exact nl (od rfl rfl rfl rfl SubD.nil SubD.refl)
                  ·
                    refine mv rfl rfl ?_
                    exact nl (od rfl rfl rfl rfl SubD.nil SubD.refl)
                  refine ⟨fun V De _ => (show AllP _ [1] from ⟨?_, trivial⟩), ?_⟩
                  ·
                    refine cf1 2 (q8) ok_27 rfl rfl (SubD.cons 0 rfl SubD.nil) rfl fun y39 v39 h39 => ?_
                    exact nl (od rfl rfl rfl trivial (SubD.cons 0 rfl SubD.nil) (SubD.tail SubD.refl))
                  refine ⟨fun V De _ => (show AllP _ [2] from ⟨?_, trivial⟩), ?_⟩
                  ·
                    refine cbs 0 Try.underlying23 Try.underlying5 Try.underlying9 rfl rfl rfl ?_
                    exact nl (od rfl rfl rfl rfl SubD.nil (SubD.tail SubD.refl))
                  refine ⟨fun V De _ => (show AllP _ [2, 3] from ⟨?_, ?_, trivial⟩), ?_⟩
                  ·
                    refine fa rfl fld_35_5 rfl ?_
                    exact nl (od rfl rfl rfl rfl SubD.nil SubD.refl)
                  ·
                    refine fa rfl fld_35_5 rfl ?_
                    exact nl (od rfl rfl rfl rfl SubD.nil SubD.refl)
                  refine ⟨fun V De _ => (show AllP _ [2] from ⟨?_, trivial⟩), ?_⟩
                  ·
                    refine fa rfl fld_32_1 rfl ?_
                    exact nl (od rfl rfl rfl rfl SubD.nil SubD.refl)
                  refine ⟨fun V De _ => (show AllP _ [2] from ⟨?_, trivial⟩), ?_⟩
                  ·
                    refine stB 0 rfl rfl rfl one_9 rfl (Nat.lt_of_lt_of_le (Nat.lt_succ_self _) (Nat.le_of_ble_eq_true rfl)) ?_
                    exact nl (od0 rfl rfl SubD.refl)
                  refine ⟨fun V De _ => (show AllP _ [3, 4] from ⟨?_, ?_, trivial⟩), ?_⟩
                  ·
                    refine fa rfl fld_35_5 rfl ?_
                    exact nl (od rfl rfl rfl rfl SubD.nil SubD.refl)
                  ·
                    refine fa rfl fld_35_5 rfl ?_
                    exact nl (od rfl rfl rfl rfl SubD.nil SubD.refl)
                  refine ⟨fun V De _ => (show AllP _ [3] from ⟨?_, trivial⟩), ?_⟩
                  ·
                    refine fa rfl fld_32_2 rfl ?_
                    exact nl (od rfl rfl rfl rfl SubD.nil SubD.refl)
                  refine ⟨fun V De _ => (show AllP _ [3] from ⟨?_, trivial⟩), ?_⟩
                  ·
                    refine stB 0 rfl rfl rfl one_9 rfl (Nat.lt_of_lt_of_le (Nat.lt_succ_self _) (Nat.le_of_ble_eq_true rfl)) ?_
                    exact nl (od0 rfl rfl SubD.refl)
                  trivial
                ·
                  intro V _
                  refine wkQ (L := [bl b4 35 [.int .i64 x1, .int .i64 x2, .int .i64 x3, .int .i64 x4, .int .i64 x5, .int .i64 x6, .string ⟨x7.toArray⟩, .string ⟨x8.toArray⟩, .int .i64 0, .int .i64 0, .int .i64 0, .slice none 0 0], bl b2 35 [.int .i64 0, .int .i64 0, .int .i64 0, .int .i64 0, .int .i64 0, .int .i64 0, .string ByteArray.empty, .string ByteArray.empty, .int .i64 0, .int .i64 0, .int .i64 0, .slice none 0 0], rdr p bv s8, fz X w]) [(0, .pointer (some ⟨p, 0, none⟩)), (2, .pointer (some ⟨b2, 0, none⟩)), (4, .pointer (some ⟨b4, 0, none⟩))] [⟨bv, bs⟩] ⟨rfl, rfl, rfl, trivial⟩ (SubD.cons 2 rfl SubD.nil) ?_
                  refine nx ?_
                  refine sq ?_
                  refine rg ?_
                  refine fa rfl fld_35_5 rfl ?_
                  refine fa rfl fld_32_3 rfl ?_
                  refine fa rfl fld_35_5 rfl ?_
                  refine fa rfl fld_32_4 rfl ?_
                  refine fa rfl fld_35_5 rfl ?_
                  refine fa rfl fld_32_5 rfl ?_
                  refine bs1 (xs := [.tmp 46, .tmp 48, .tmp 50]) (by rfl) app_58 (by rfl) (by rfl) (by rfl) (by rfl) (by rfl) (by rfl) fun b51 => ?_
                  refine lnV rfl Try.underlying58 rfl ?_
                  refine mv rfl rfl ?_
                  refine nl ?_
                  refine nx ?_
                  refine bk ?_
                  refine lu0 (lu1 ?_)
                  refine sq ?_
                  refine rg ?_
                  refine ltI rfl rfl rfl ?_
                  refine nl ?_
                  refine nx ?_
                  refine sq ?_
                  refine cdP rfl (fun h54 => ?_) (fun h54 => ?_)
                  ·
                    refine sk ?_
                    refine nx ?_
                    refine sq ?_
                    refine bk ?_
                    refine sq ?_
                    refine rg ?_
                    refine ixV rfl rfl slt_58 (by omega) (by omega) rfl ?_
                    refine ldB 0 rfl rfl one_57 rfl rfl ?_
                    refine asg rfl rfl ?_
                    refine nl ?_
                    refine nx ?_
                    refine rg ?_
                    refine mv rfl rfl ?_
                    refine mv rfl rfl ?_
                    refine cf1 3 (int_r _ _ _ _ _ _ p8 h9) ok_26 rfl rfl (SubD.cons 0 rfl SubD.nil) rfl fun y59 v59 h59 => ?_
                    have h59 : v59 = _ := h59
                    subst h59
                    refine nc rfl rfl ?_
                    refine stB 1 rfl rfl rfl one_3 rfl (Nat.lt_of_lt_of_le (Nat.lt_succ_self _) (Nat.le_of_ble_eq_true rfl)) ?_
                    refine nl ?_
                    refine bN ?_
                    refine nx ?_
                    refine rg ?_
                    refine adI rfl rfl (inI (by omega) (by omega)) rfl ?_
                    refine mv rfl rfl ?_
                    refine nl ?_
                    refine lun (lu1 ?_)
                    refine sq ?_
                    refine rg ?_
                    refine ltI rfl rfl rfl ?_
                    refine nl ?_
                    refine nx ?_
                    refine sq ?_
                    refine cdP rfl (fun h54 => ?_) (fun h54 => ?_)
                    ·
                      refine sk ?_
                      refine nx ?_
                      refine sq ?_
                      refine bk ?_
                      refine sq ?_
                      refine rg ?_
                      refine ixV rfl rfl slt_58 (by omega) (by omega) rfl ?_
                      refine ldB 0 rfl rfl one_57 rfl rfl ?_
                      refine asg rfl rfl ?_
                      refine nl ?_
                      refine nx ?_
                      refine rg ?_
                      refine mv rfl rfl ?_
                      refine mv rfl rfl ?_
                      refine cf1 3 (int_r _ _ _ _ _ _ p9 h10) ok_26 rfl rfl (SubD.cons 0 rfl SubD.nil) rfl fun y59 v59 h59 => ?_
                      have h59 : v59 = _ := h59
                      subst h59
                      refine nc rfl rfl ?_
                      refine stB 1 rfl rfl rfl one_3 rfl (Nat.lt_of_lt_of_le (Nat.lt_succ_self _) (Nat.le_of_ble_eq_true rfl)) ?_
                      refine nl ?_
                      refine bN ?_
                      refine nx ?_
                      refine rg ?_
                      refine adI rfl rfl (inI (by omega) (by omega)) rfl ?_
                      refine mv rfl rfl ?_
                      refine nl ?_
                      refine lun (lu1 ?_)
                      refine sq ?_
                      refine rg ?_
                      refine ltI rfl rfl rfl ?_
                      refine nl ?_
                      refine nx ?_
                      refine sq ?_
                      refine cdP rfl (fun h54 => ?_) (fun h54 => ?_)
                      ·
                        refine sk ?_
                        refine nx ?_
                        refine sq ?_
                        refine bk ?_
                        refine sq ?_
                        refine rg ?_
                        refine ixV rfl rfl slt_58 (by omega) (by omega) rfl ?_
                        refine ldB 0 rfl rfl one_57 rfl rfl ?_
                        refine asg rfl rfl ?_
                        refine nl ?_
                        refine nx ?_
                        refine rg ?_
                        refine mv rfl rfl ?_
                        refine mv rfl rfl ?_
                        refine cf1 3 (int_r _ _ _ _ _ _ p10 h11) ok_26 rfl rfl (SubD.cons 0 rfl SubD.nil) rfl fun y59 v59 h59 => ?_
                        have h59 : v59 = _ := h59
                        subst h59
                        refine nc rfl rfl ?_
                        refine stB 1 rfl rfl rfl one_3 rfl (Nat.lt_of_lt_of_le (Nat.lt_succ_self _) (Nat.le_of_ble_eq_true rfl)) ?_
                        refine nl ?_
                        refine bN ?_
                        refine nx ?_
                        refine rg ?_
                        refine adI rfl rfl (inI (by omega) (by omega)) rfl ?_
                        refine mv rfl rfl ?_
                        refine nl ?_
                        refine lun (lu1 ?_)
                        refine sq ?_
                        refine rg ?_
                        refine ltI rfl rfl rfl ?_
                        refine nl ?_
                        refine nx ?_
                        refine sq ?_
                        refine cdP rfl (fun h54 => ?_) (fun h54 => ?_)
                        ·
                          exact absurd h54 (by omega)
                        ·
                          refine ex ?_
                          refine tE ?_
                          refine tE ?_
                          refine bE ?_
                          refine bN ?_
                          refine nx ?_
                          refine sq ?_
                          refine rg ?_
                          refine mv rfl rfl ?_
                          refine cf1 3 (fault_r _ _ bs _) ok_29 rfl rfl SubD.nil rfl fun y80 v80 h80 => ?_
                          have h80 : v80 = _ := h80
                          subst h80
                          refine mv rfl rfl ?_
                          refine xt rfl rfl rfl ?_
                          refine xt rfl rfl rfl ?_
                          refine asg rfl rfl ?_
                          refine asg rfl rfl ?_
                          refine nl ?_
                          refine nx ?_
                          refine sq ?_
                          refine rg ?_
                          refine emL (α := Int) ?_
                          refine ldM 1 (evCells ⟨x1, x2, x3, x4, x5, ⟨x6, ⟨x7.toArray⟩, ⟨x8.toArray⟩, x9, x10, x11⟩, []⟩ (.slice none 0 0)) rfl rfl row_35 rfl rfl ?_
                          refine mv rfl rfl ?_
                          refine eqI rfl rfl rfl ?_
                          refine stM 2 (us := evCells ⟨x1, x2, x3, x4, x5, ⟨x6, ⟨x7.toArray⟩, ⟨x8.toArray⟩, x9, x10, x11⟩, []⟩ (.slice none 0 0)) rfl rfl rfl row_35 (evCells_one _ rfl) (Nat.le_of_ble_eq_true rfl) ?_
                          refine asg rfl rfl ?_
                          refine nl ?_
                          refine nx ?_
                          refine rt ?_
                          have hE : rdEv bs s = (⟨x1, x2, x3, x4, x5, ⟨x6, ⟨x7.toArray⟩, ⟨x8.toArray⟩, x9, x10, x11⟩, []⟩, s11) := by simp only [rdEv, h1, h2, h3, h4, h5, if_pos h27, rdOp, h6, h7, h8, h9, h10, h11]
                          rw [hE]
                          refine dpQ (dpQ ?_)
                          exact fRc2 (.slice none 0 0) rfl rfl rfl rfl row_35 (by simp; rfl) rfl (SubD.cons 0 rfl SubD.nil)
                      ·
                        exact absurd (by omega) h54
                    ·
                      exact absurd (by omega) h54
                  ·
                    exact absurd (by omega) h54
              ·
                refine sq ?_
                refine rg ?_
                refine fa rfl fld_35_0 rfl ?_
                refine ldB 0 rfl rfl one_3 rfl rfl ?_
                refine cfv (keeps_c _ i1) ok_15 rfl SubD.nil rfl ?_
                refine asg rfl rfl ?_
                refine nl ?_
                refine nx ?_
                refine cdB rfl (fun h62 => ?_) (fun h62 => ?_)
                ·
                  rcases hc : rdCount bs 64 s5 with ⟨cnt, s6⟩
                  have p6 : s6.pos ≤ bs.length := by
                    have := rdCount_pos (bs := bs) (most := 64) p5
                    rw [hc] at this
                    exact this
                  have hle : cnt ≤ 64 := by
                    have := rdCount_le bs s5
                    rw [hc] at this
                    exact this
                  have qc := count_r p bv bs s5 64 (inI (by omega) (by omega)) p5
                  rw [hc] at qc
                  refine sq ?_
                  refine rg ?_
                  refine mv rfl rfl ?_
                  refine cf1 2 (qc) ok_28 rfl rfl (SubD.cons 0 rfl SubD.nil) rfl fun y67 v67 h67 => ?_
                  have h67 : v67 = _ := h67
                  subst h67
                  refine mv rfl rfl ?_
                  refine nl ?_
                  refine nx ?_
                  refine bk ?_
                  refine rwC Int 3 ?_
                  refine lp (σ := Nat × Value × List Int × Rd) (fun s => [(0, .pointer (some ⟨p, 0, none⟩)), (2, .pointer (some ⟨b2, 0, none⟩)), (4, .pointer (some ⟨b4, 0, none⟩)), (67, .int .i64 (cnt : Int)), (68, .int .i64 (s.1 : Int))]) (fun s => [row 3 s.2.1 s.2.2.1, bl b4 35 [.int .i64 x1, .int .i64 x2, .int .i64 x3, .int .i64 x4, .int .i64 x5, .int .i64 0, .string ByteArray.empty, .string ByteArray.empty, .int .i64 0, .int .i64 0, .int .i64 0, s.2.1], bl b2 35 [.int .i64 0, .int .i64 0, .int .i64 0, .int .i64 0, .int .i64 0, .int .i64 0, .string ByteArray.empty, .string ByteArray.empty, .int .i64 0, .int .i64 0, .int .i64 0, .slice none 0 0], rdr p bv s.2.2.2, fz X w]) (fun _ => [⟨bv, bs⟩]) (fun s => s.1 ≤ cnt ∧ s.2.2.1.length = s.1 ∧ s.2.2.2.pos ≤ bs.length ∧ rdInts bs cnt s6 = (s.2.2.1 ++ (rdInts bs (cnt - s.1) s.2.2.2).1, (rdInts bs (cnt - s.1) s.2.2.2).2)) (fun s => cnt - s.1) (0, .slice none 0 0, [], s6) ⟨Nat.zero_le _, rfl, p6, rfl⟩ ⟨rfl, rfl, rfl, rfl, rfl, trivial⟩ rfl (SubD.cons 0 rfl SubD.nil) ?_
                  rintro ⟨i, rv, acc, st⟩ ⟨g1, g2, g3, g4⟩
                  simp only at g1 g2 g3 g4
                  refine sq ?_
                  refine rg ?_
                  refine ltI rfl rfl rfl ?_
                  refine nl ?_
                  refine nx ?_
                  refine sq ?_
                  refine cdP rfl (fun h69 => ?_) (fun h69 => ?_)
                  ·
                    rcases hx : rdInt bs st with ⟨x, st2⟩
                    have gp : st2.pos ≤ bs.length := by
                      have := rdInt_pos (bs := bs) g3
                      rw [hx] at this
                      exact this
                    have ix : InI x := by
                      have := rdInt_in bs st
                      rw [hx] at this
                      exact this
                    refine sk ?_
                    refine nx ?_
                    refine sq ?_
                    refine bk ?_
                    refine rgV ⟨fun i => ([[], [0], [], [2], [3], [1, 4], [], [6, 5]] : List (List Nat)).getD i [], fun _ _ => True, fun i => ([fun _ => [], fun _ => [], fun _ => [], fun _ => [], fun u => [⟨u, [x]⟩], fun _ => [], fun _ => [], fun _ => []] : List (Value → List Atom)).getD i (fun _ => []), fun vs => match vs with
                        | [] => [row 3 rv acc, bl b4 35 [.int .i64 x1, .int .i64 x2, .int .i64 x3, .int .i64 x4, .int .i64 x5, .int .i64 0, .string ByteArray.empty, .string ByteArray.empty, .int .i64 0, .int .i64 0, .int .i64 0, rv], bl b2 35 [.int .i64 0, .int .i64 0, .int .i64 0, .int .i64 0, .int .i64 0, .int .i64 0, .string ByteArray.empty, .string ByteArray.empty, .int .i64 0, .int .i64 0, .int .i64 0, .slice none 0 0], rdr p bv st, fz X w]
                        | [v0] => [row 3 rv acc, bl b4 35 [.int .i64 x1, .int .i64 x2, .int .i64 x3, .int .i64 x4, .int .i64 x5, .int .i64 0, .string ByteArray.empty, .string ByteArray.empty, .int .i64 0, .int .i64 0, .int .i64 0, rv], bl b2 35 [.int .i64 0, .int .i64 0, .int .i64 0, .int .i64 0, .int .i64 0, .int .i64 0, .string ByteArray.empty, .string ByteArray.empty, .int .i64 0, .int .i64 0, .int .i64 0, .slice none 0 0], rdr p bv st2, fz X w]
                        | [v0, v1] => [row 3 v1 (acc ++ [x]), bl b4 35 [.int .i64 x1, .int .i64 x2, .int .i64 x3, .int .i64 x4, .int .i64 x5, .int .i64 0, .string ByteArray.empty, .string ByteArray.empty, .int .i64 0, .int .i64 0, .int .i64 0, rv], bl b2 35 [.int .i64 0, .int .i64 0, .int .i64 0, .int .i64 0, .int .i64 0, .int .i64 0, .string ByteArray.empty, .string ByteArray.empty, .int .i64 0, .int .i64 0, .int .i64 0, .slice none 0 0], rdr p bv st2, fz X w]
                        | [v0, v1, v2] => [row 3 v1 (acc ++ [x]), bl b4 35 [.int .i64 x1, .int .i64 x2, .int .i64 x3, .int .i64 x4, .int .i64 x5, .int .i64 0, .string ByteArray.empty, .string ByteArray.empty, .int .i64 0, .int .i64 0, .int .i64 0, v1], bl b2 35 [.int .i64 0, .int .i64 0, .int .i64 0, .int .i64 0, .int .i64 0, .int .i64 0, .string ByteArray.empty, .string ByteArray.empty, .int .i64 0, .int .i64 0, .int .i64 0, .slice none 0 0], rdr p bv st2, fz X w]
                        | _ => [], [3, 5, 7]⟩ (fun i => ([some (.pointer (some ⟨b4, 11, none⟩)), some (rv), some (.pointer (some ⟨p, 0, none⟩)), some (.int .i64 x), none, none, some (.pointer (some ⟨b4, 11, none⟩)), none] : List (Option Value)).getD i none) mixed rfl rfl ?_ ?_
                    ·
                      refine ⟨fun V De _ => (show AllP _ [0, 1, 2] from ⟨?_, ?_, ?_, trivial⟩), ?_⟩
                      ·
                        refine fa rfl fld_35_6 rfl ?_
                        exact nl (od rfl rfl rfl rfl SubD.nil SubD.refl)
                      ·
                        refine fa rfl fld_35_6 rfl ?_
                        exact nl (od rfl rfl rfl rfl SubD.nil SubD.refl)
                      ·
                        refine fa rfl fld_35_6 rfl ?_
                        exact nl (od rfl rfl rfl rfl SubD.nil SubD.refl)
                      refine ⟨fun V De _ => (show AllP _ [0, 1] from ⟨?_, ?_, trivial⟩), ?_⟩
                      ·
                        refine ldB 1 rfl rfl one_33 rfl rfl ?_
                        exact nl (od rfl rfl rfl rfl SubD.nil SubD.refl)
                      ·
                        refine ldB 1 rfl rfl one_33 rfl rfl ?_
                        exact nl (od rfl rfl rfl rfl SubD.nil SubD.refl)
                      refine ⟨fun V De _ => (show AllP _ [0] from ⟨?_, trivial⟩), ?_⟩
                      ·
                        refine mv rfl rfl ?_
                        exact nl (od rfl rfl rfl rfl SubD.nil SubD.refl)
                      refine ⟨fun V De _ => (show AllP _ [0] from ⟨?_, trivial⟩), ?_⟩
                      ·
                        refine cf1 3 (int_r _ _ _ _ _ _ g3 hx) ok_26 rfl rfl (SubD.cons 0 rfl SubD.nil) rfl fun y73 v73 h73 => ?_
                        have h73 : v73 = _ := h73
                        subst h73
                        exact nl (od rfl rfl rfl rfl SubD.nil SubD.refl)
                      refine ⟨fun V De _ => (show AllP _ [1] from ⟨?_, trivial⟩), ?_⟩
                      ·
                        refine bs1 (xs := [.tmp 73]) (by rfl) app_33 (by rfl) (by rfl) (by rfl) (by rfl) (by rfl) (by rfl) fun b74 => ?_
                        refine frS1 x (fun S w h => by exact ⟨rfl, ix⟩) ?_
                        exact nl (od rfl rfl rfl trivial (SubD.cons 0 rfl SubD.nil) (SubD.tail SubD.refl))
                      refine ⟨fun V De _ => (show AllP _ [1] from ⟨?_, trivial⟩), ?_⟩
                      ·
                        refine ap 0 0 rfl rfl rfl rfl app_33 (by simp; omega) (by simp; omega) rfl fun v75 => ?_
                        exact nl (od rfl rfl rfl trivial SubD.nil (SubD.tail SubD.refl))
                      refine ⟨fun V De _ => (show AllP _ [2] from ⟨?_, trivial⟩), ?_⟩
                      ·
                        refine fa rfl fld_35_6 rfl ?_
                        exact nl (od rfl rfl rfl rfl SubD.nil SubD.refl)
                      refine ⟨fun V De _ => (show AllP _ [2] from ⟨?_, trivial⟩), ?_⟩
                      ·
                        refine stR 1 0 rfl rfl rfl rfl one_33 (Nat.lt_of_lt_of_le (Nat.lt_succ_self _) (Nat.le_of_ble_eq_true rfl)) ?_
                        exact nl (od0 rfl rfl SubD.refl)
                      trivial
                    ·
                      intro V _
                      refine wkQ (L := [row 3 (V 5) (acc ++ [x]), bl b4 35 [.int .i64 x1, .int .i64 x2, .int .i64 x3, .int .i64 x4, .int .i64 x5, .int .i64 0, .string ByteArray.empty, .string ByteArray.empty, .int .i64 0, .int .i64 0, .int .i64 0, (V 5)], bl b2 35 [.int .i64 0, .int .i64 0, .int .i64 0, .int .i64 0, .int .i64 0, .int .i64 0, .string ByteArray.empty, .string ByteArray.empty, .int .i64 0, .int .i64 0, .int .i64 0, .slice none 0 0], rdr p bv st2, fz X w]) [(0, .pointer (some ⟨p, 0, none⟩)), (2, .pointer (some ⟨b2, 0, none⟩)), (4, .pointer (some ⟨b4, 0, none⟩)), (67, .int .i64 (cnt : Int)), (68, .int .i64 (i : Int))] [⟨bv, bs⟩] ⟨rfl, rfl, rfl, rfl, rfl, trivial⟩ (SubD.cons 1 rfl SubD.nil) ?_
                      refine bN ?_
                      refine nx ?_
                      refine rg ?_
                      refine adI rfl rfl (inI (by omega) (by omega)) rfl ?_
                      refine mv rfl rfl ?_
                      refine nl ?_
                      refine ag (i + 1, V 5, acc ++ [x], st2) ⟨by show i + 1 ≤ cnt; omega, by simp [g2], gp, ?_⟩ (by show cnt - (i + 1) < cnt - i; omega) ⟨rfl, rfl, rfl, rfl, rfl, trivial⟩ rfl (SubD.cons 0 rfl SubD.nil)
                      show rdInts bs cnt s6 = _
                      rw [g4, show cnt - i = (cnt - (i + 1)) + 1 by omega]
                      simp only [rdInts, hx, List.append_assoc, List.singleton_append]
                  ·
                    have e0 : cnt - i = 0 := by omega
                    rw [e0] at g4
                    simp only [rdInts, List.append_nil] at g4
                    refine ex ?_
                    refine tE ?_
                    refine tE ?_
                    refine bE ?_
                    refine bN ?_
                    refine nx ?_
                    refine sq ?_
                    refine rg ?_
                    refine mv rfl rfl ?_
                    refine cf1 3 (fault_r _ _ bs _) ok_29 rfl rfl SubD.nil rfl fun y80 v80 h80 => ?_
                    have h80 : v80 = _ := h80
                    subst h80
                    refine mv rfl rfl ?_
                    refine xt rfl rfl rfl ?_
                    refine xt rfl rfl rfl ?_
                    refine asg rfl rfl ?_
                    refine asg rfl rfl ?_
                    refine nl ?_
                    refine nx ?_
                    refine sq ?_
                    refine rg ?_
                    refine frRL ?_
                    refine gtL (q := rv.oneCell' = true) (fun S w h => oneCell_of_list (h _ (List.mem_of_getElem? (i := 0) rfl))) fun hk => ?_
                    refine ldM 0 (evCells ⟨x1, x2, x3, x4, x5, OpV.none, acc⟩ rv) rfl rfl row_35 rfl rfl ?_
                    refine mv rfl rfl ?_
                    refine eqI rfl rfl rfl ?_
                    refine stM 1 (us := evCells ⟨x1, x2, x3, x4, x5, OpV.none, acc⟩ rv) rfl rfl rfl row_35 (evCells_one _ hk) (Nat.le_of_ble_eq_true rfl) ?_
                    refine asg rfl rfl ?_
                    refine nl ?_
                    refine nx ?_
                    refine rt ?_
                    have hE : rdEv bs s = (⟨x1, x2, x3, x4, x5, OpV.none, acc⟩, st) := by simp only [rdEv, h1, h2, h3, h4, h5, if_neg h27, if_pos h62, rdKeep, hc, g4]
                    rw [hE]
                    refine dpQ ?_
                    exact fRc2 rv rfl rfl rfl rfl row_35 (by simp; rfl) rfl (SubD.cons 0 rfl SubD.nil)
                ·
                  refine sk ?_
                  refine bN ?_
                  refine nx ?_
                  refine sq ?_
                  refine rg ?_
                  refine mv rfl rfl ?_
                  refine cf1 2 (fault_r _ _ bs _) ok_29 rfl rfl SubD.nil rfl fun y80 v80 h80 => ?_
                  have h80 : v80 = _ := h80
                  subst h80
                  refine mv rfl rfl ?_
                  refine xt rfl rfl rfl ?_
                  refine xt rfl rfl rfl ?_
                  refine asg rfl rfl ?_
                  refine asg rfl rfl ?_
                  refine nl ?_
                  refine nx ?_
                  refine sq ?_
                  refine rg ?_
                  refine emL (α := Int) ?_
                  refine ldM 0 (evCells ⟨x1, x2, x3, x4, x5, OpV.none, []⟩ (.slice none 0 0)) rfl rfl row_35 rfl rfl ?_
                  refine mv rfl rfl ?_
                  refine eqI rfl rfl rfl ?_
                  refine stM 1 (us := evCells ⟨x1, x2, x3, x4, x5, OpV.none, []⟩ (.slice none 0 0)) rfl rfl rfl row_35 (evCells_one _ rfl) (Nat.le_of_ble_eq_true rfl) ?_
                  refine asg rfl rfl ?_
                  refine nl ?_
                  refine nx ?_
                  refine rt ?_
                  have hE : rdEv bs s = (⟨x1, x2, x3, x4, x5, OpV.none, []⟩, s5) := by simp only [rdEv, h1, h2, h3, h4, h5, if_neg h27, h62, Bool.false_eq_true, if_false]
                  rw [hE]
                  refine dpQ ?_
                  exact fRc2 (.slice none 0 0) rfl rfl rfl rfl row_35 (by simp; rfl) rfl (SubD.cons 0 rfl SubD.nil)
          ·
            exact absurd (by omega) h19
        ·
          exact absurd (by omega) h19
      ·
        exact absurd (by omega) h19
    ·
      exact absurd (by omega) h19
  ·
    exact absurd (by omega) h19
end Go.Proofs.Ytcjaodddckbciaa
