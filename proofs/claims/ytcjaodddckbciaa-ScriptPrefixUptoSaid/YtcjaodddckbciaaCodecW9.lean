/- Walks: written by specs1.py. -/
import Derived.Test.YtcjaodddckbciaaCodecW8
namespace Go.Proofs.Ytcjaodddckbciaa
open Go.Eng Go.Ytcjaodddckbciaa

theorem decode_c (sv : Value) (bs : List UInt8) (hlen : bs.length ≤ 140737488355328) : Fnc Try.prog 7 [sv] [] [⟨sv, bs⟩] (fun (y : Value) v => v = .tuple #[.int .i64 (decS bs).1, y]) (fun _ _ => []) (fun y _ => [⟨y, (decS bs).2⟩]) := by
  refine Fnc.proof Try.func7 rfl 39 rfl rfl fun X w => ?_
  rcases hb : rdByte bs ⟨0, 0⟩ with ⟨c, s0⟩
  have hcl := c.toNat_lt
  have p0 : s0.pos ≤ bs.length := by
    have := rdByte_pos (bs := bs) (s := ⟨0, 0⟩) (Nat.zero_le _)
    rw [hb] at this
    exact this
  have hD : decS bs = (if known (c.toNat : Int) = true then (c.toNat : Int) else 3, rdEvs bs 4096 s0) := by simp only [decS, hb]
  refine sq ?_
  refine rg ?_
  refine asg rfl rfl ?_
  refine asg rfl rfl ?_
  refine nl ?_
  refine nx ?_
  refine sc ?_
  refine sq ?_
  refine rg ?_
  refine mv rfl rfl ?_
  refine cf (new_r _ _ hlen) ok_17 rfl (SubD.cons 0 rfl SubD.nil) rfl fun y10 v10 h10 => ?_
  obtain ⟨p, bv⟩ := y10
  have h10 : v10 = _ := h10
  subst h10
  have qb := byte_r p bv bs ⟨0, 0⟩ (Nat.zero_le _)
  rw [hb] at qb
  have qb : Fnc Try.prog 18 [.pointer (some ⟨p, 0, none⟩)] [rdr p bv ⟨0, 0⟩] [⟨bv, bs⟩] (fun (_ : Unit) v => v = .int .u8 (c.toNat : Int)) (fun _ _ => [rdr p bv s0]) (fun _ _ => []) := qb
  refine asg rfl rfl ?_
  refine nl ?_
  refine nx ?_
  refine sq ?_
  refine rg ?_
  refine mv rfl rfl ?_
  refine cf1 0 (qb) ok_18 rfl rfl (SubD.cons 0 rfl SubD.nil) rfl fun y12 v12 h12 => ?_
  have h12 : v12 = _ := h12
  subst h12
  refine cv Try.underlying5 Try.underlying3 rfl (i64_of_nat (by omega)) rfl ?_
  refine asg rfl rfl ?_
  refine nl ?_
  refine nx ?_
  refine sq ?_
  refine sq ?_
  refine rg ?_
  refine mv rfl rfl ?_
  refine cfv (known_c _ (inI (by omega) (by omega))) ok_11 rfl SubD.nil rfl ?_
  refine nt rfl rfl ?_
  refine nl ?_
  refine nx ?_
  refine cdB rfl (fun h16 => ?_) (fun h16 => ?_)
  ·
    refine rg ?_
    refine asg rfl rfl ?_
    refine nl ?_
    refine nx ?_
    refine sq ?_
    refine rg ?_
    refine asg rfl rfl ?_
    refine nl ?_
    refine nx ?_
    refine sq ?_
    refine lb ?_
    refine nx ?_
    refine sq ?_
    refine bk ?_
    refine rwC Ev 35 ?_
    refine lp (σ := Value × List Ev × Rd) (fun s => [(4, .pointer (some ⟨p, 0, none⟩)), (5, .int .i64 3), (6, s.1)]) (fun s => [row 35 s.1 s.2.1, rdr p bv s.2.2, fz X w]) (fun _ => [⟨bv, bs⟩]) (fun s => s.2.1.length ≤ 4096 ∧ s.2.2.pos ≤ bs.length ∧ rdEvs bs 4096 s0 = s.2.1 ++ rdEvs bs (4096 - s.2.1.length) s.2.2) (fun s => 4096 - s.2.1.length) (.slice none 0 0, [], s0) ⟨Nat.zero_le _, p0, evs_start bs s0 4096⟩ ⟨rfl, rfl, rfl, trivial⟩ rfl (SubD.cons 0 rfl SubD.nil) ?_
    rintro ⟨rv, acc, st⟩ ⟨g1, g2, g3⟩
    simp only at g1 g2 g3
    refine wkC (L := [row 35 rv acc, rdr p bv st, fz X w]) [(4, .pointer (some ⟨p, 0, none⟩)), (5, .int .i64 3), (6, rv)] [⟨bv, bs⟩] ⟨rfl, rfl, rfl, trivial⟩ SubD.refl ?_
    refine sq ?_
    refine sq ?_
    refine rg ?_
    refine mv rfl rfl ?_
    refine lnR 0 rfl rfl Try.underlying22 rfl fun l18 => ?_
    refine ltI rfl rfl rfl ?_
    refine mv rfl rfl ?_
    refine spP (i := 20) rfl (fun h20 => ?_) (fun h20 => ?_)
    ·
      refine gY rfl rfl rfl ?_
      refine mv rfl rfl ?_
      refine gY rfl rfl rfl ?_
      refine cf1 1 (left_r _ _ bs _ g2) ok_19 rfl rfl (SubD.cons 0 rfl SubD.nil) rfl fun y22 v22 h22 => ?_
      have h22 : v22 = _ := h22
      subst h22
      refine gY rfl rfl rfl ?_
      refine gtI rfl rfl rfl ?_
      refine pkT rfl rfl rfl ?_
      refine nl ?_
      refine nx ?_
      refine cdP rfl (fun h24 => ?_) (fun h24 => ?_)
      ·
        rcases he : rdEv bs st with ⟨ev, st2⟩
        have gp : st2.pos ≤ bs.length := by
          have := rdEv_pos (bs := bs) g2
          rw [he] at this
          exact this
        have hwf : ev.wf := by
          have := rdEv_wf bs st
          rw [he] at this
          exact this
        have qe := event_r p bv bs st g2
        rw [he] at qe
        have qe : Fnc Try.prog 20 [.pointer (some ⟨p, 0, none⟩)] [rdr p bv st] [⟨bv, bs⟩] (fun (y : Value) v => v = .tuple #[.agg (evCells ev y).toArray, .bool (decide (st2.fault = 0))]) (fun _ _ => [rdr p bv st2]) (fun y _ => [⟨y, ev.keep⟩]) := qe
        refine sk ?_
        refine nx ?_
        refine bk ?_
        refine sq ?_
        refine rg ?_
        refine mv rfl rfl ?_
        refine cf1 1 (qe) ok_20 rfl rfl (SubD.cons 0 rfl SubD.nil) rfl fun y27 v27 h27 => ?_
        have h27 : v27 = _ := h27
        subst h27
        refine mv rfl rfl ?_
        refine xt rfl rfl rfl ?_
        refine xt rfl rfl rfl ?_
        refine al zero_35 rfl fun b7 => ?_
        refine gtL (q := y27.oneCell' = true) (fun S w h => oneCell_of_list (h _ (List.mem_of_getElem? (i := 0) rfl))) fun hk => ?_
        refine stM 0 (us := evCells ev y27) rfl rfl rfl row_35 (evCells_one _ hk) (Nat.le_of_ble_eq_true rfl) ?_
        refine asg rfl rfl ?_
        refine nl ?_
        refine nx ?_
        refine bk ?_
        refine sq ?_
        refine rg ?_
        refine mv rfl rfl ?_
        refine nt rfl rfl ?_
        refine asg rfl rfl ?_
        refine nl ?_
        refine nx ?_
        refine cdN rfl (fun h34 => ?_) (fun h34 => ?_)
        ·
          refine ex ?_
          refine bX (by decide) ?_
          refine bX (by decide) ?_
          refine tE ?_
          refine bE ?_
          refine nx ?_
          refine sq ?_
          refine rg ?_
          refine mv rfl rfl ?_
          refine mv rfl rfl ?_
          refine asg rfl rfl ?_
          refine asg rfl rfl ?_
          refine nl ?_
          refine nx ?_
          refine rt ?_
          refine sR ?_
          have hE : decS bs = (3, acc) := by rw [hD, if_neg (by simpa using h16), g3, rdEvs_bad (by omega) he h34, List.append_nil]
          rw [hE]
          refine dpQ (frRQ (dpQ ?_))
          exact fR2 rv rfl rfl rfl rfl rfl (SubD.cons 0 rfl SubD.nil)
        ·
          refine rg ?_
          refine mv rfl rfl ?_
          refine ldM 0 (evCells ev y27) rfl rfl row_35 rfl rfl ?_
          refine bsM rfl app_22 rfl rfl rfl rfl fun b32 => ?_
          refine frS1 (α := Ev) ev (fun S w h => by exact ⟨y27, rfl, fun t ht => (List.mem_singleton.1 ht) ▸ h ⟨y27, ev.keep⟩ (List.mem_of_getElem? (i := 0) rfl), hwf⟩) ?_
          refine ap 1 0 rfl rfl rfl rfl app_22 (by simp; omega) (by simp; omega) rfl fun v33 => ?_
          refine asg rfl rfl ?_
          refine nl ?_
          refine bN ?_
          refine bN ?_
          refine dpQ ?_
          exact ag (v33, acc ++ [ev], st2) ⟨by simp; omega, gp, by rw [g3, rdEvs_more (by omega) he h34 (by omega)]; simp [Nat.sub_sub]⟩ (by show 4096 - (acc ++ [ev]).length < 4096 - acc.length; simp; omega) ⟨rfl, rfl, rfl, trivial⟩ rfl (SubD.cons 2 rfl SubD.nil)
      ·
        refine ex ?_
        refine tE ?_
        refine tE ?_
        refine bE ?_
        refine nx ?_
        refine sq ?_
        refine rg ?_
        refine mv rfl rfl ?_
        refine mv rfl rfl ?_
        refine asg rfl rfl ?_
        refine asg rfl rfl ?_
        refine nl ?_
        refine nx ?_
        refine rt ?_
        refine sR ?_
        have hE : decS bs = (3, acc) := by rw [hD, if_neg (by simpa using h16), g3, rdEvs_end (by omega), List.append_nil]
        rw [hE]
        refine frRQ (dpQ ?_)
        exact fR2 rv rfl rfl rfl rfl rfl (SubD.cons 0 rfl SubD.nil)
    ·
      refine gN rfl rfl rfl rfl rfl ?_
      refine gN rfl rfl rfl rfl rfl ?_
      refine gN rfl rfl rfl rfl rfl ?_
      refine pkF rfl rfl rfl ?_
      refine nl ?_
      refine nx ?_
      refine cdF rfl ?_
      refine ex ?_
      refine tE ?_
      refine tE ?_
      refine bE ?_
      refine nx ?_
      refine sq ?_
      refine rg ?_
      refine mv rfl rfl ?_
      refine mv rfl rfl ?_
      refine asg rfl rfl ?_
      refine asg rfl rfl ?_
      refine nl ?_
      refine nx ?_
      refine rt ?_
      refine sR ?_
      have hE : decS bs = (3, acc) := by rw [hD, if_neg (by simpa using h16), g3, show 4096 - acc.length = 0 from by omega, rdEvs_0, List.append_nil]
      rw [hE]
      refine frRQ (dpQ ?_)
      exact fR2 rv rfl rfl rfl rfl rfl (SubD.cons 0 rfl SubD.nil)
  ·
    refine sk ?_
    refine nx ?_
    refine sq ?_
    refine rg ?_
    refine asg rfl rfl ?_
    refine nl ?_
    refine nx ?_
    refine sq ?_
    refine lb ?_
    refine nx ?_
    refine sq ?_
    refine bk ?_
    refine rwC Ev 35 ?_
    refine lp (σ := Value × List Ev × Rd) (fun s => [(4, .pointer (some ⟨p, 0, none⟩)), (5, .int .i64 (c.toNat : Int)), (6, s.1)]) (fun s => [row 35 s.1 s.2.1, rdr p bv s.2.2, fz X w]) (fun _ => [⟨bv, bs⟩]) (fun s => s.2.1.length ≤ 4096 ∧ s.2.2.pos ≤ bs.length ∧ rdEvs bs 4096 s0 = s.2.1 ++ rdEvs bs (4096 - s.2.1.length) s.2.2) (fun s => 4096 - s.2.1.length) (.slice none 0 0, [], s0) ⟨Nat.zero_le _, p0, evs_start bs s0 4096⟩ ⟨rfl, rfl, rfl, trivial⟩ rfl (SubD.cons 0 rfl SubD.nil) ?_
    rintro ⟨rv, acc, st⟩ ⟨g1, g2, g3⟩
    simp only at g1 g2 g3
    refine wkC (L := [row 35 rv acc, rdr p bv st, fz X w]) [(4, .pointer (some ⟨p, 0, none⟩)), (5, .int .i64 (c.toNat : Int)), (6, rv)] [⟨bv, bs⟩] ⟨rfl, rfl, rfl, trivial⟩ SubD.refl ?_
    refine sq ?_
    refine sq ?_
    refine rg ?_
    refine mv rfl rfl ?_
    refine lnR 0 rfl rfl Try.underlying22 rfl fun l18 => ?_
    refine ltI rfl rfl rfl ?_
    refine mv rfl rfl ?_
    refine spP (i := 20) rfl (fun h20 => ?_) (fun h20 => ?_)
    ·
      refine gY rfl rfl rfl ?_
      refine mv rfl rfl ?_
      refine gY rfl rfl rfl ?_
      refine cf1 1 (left_r _ _ bs _ g2) ok_19 rfl rfl (SubD.cons 0 rfl SubD.nil) rfl fun y22 v22 h22 => ?_
      have h22 : v22 = _ := h22
      subst h22
      refine gY rfl rfl rfl ?_
      refine gtI rfl rfl rfl ?_
      refine pkT rfl rfl rfl ?_
      refine nl ?_
      refine nx ?_
      refine cdP rfl (fun h24 => ?_) (fun h24 => ?_)
      ·
        rcases he : rdEv bs st with ⟨ev, st2⟩
        have gp : st2.pos ≤ bs.length := by
          have := rdEv_pos (bs := bs) g2
          rw [he] at this
          exact this
        have hwf : ev.wf := by
          have := rdEv_wf bs st
          rw [he] at this
          exact this
        have qe := event_r p bv bs st g2
        rw [he] at qe
        have qe : Fnc Try.prog 20 [.pointer (some ⟨p, 0, none⟩)] [rdr p bv st] [⟨bv, bs⟩] (fun (y : Value) v => v = .tuple #[.agg (evCells ev y).toArray, .bool (decide (st2.fault = 0))]) (fun _ _ => [rdr p bv st2]) (fun y _ => [⟨y, ev.keep⟩]) := qe
        refine sk ?_
        refine nx ?_
        refine bk ?_
        refine sq ?_
        refine rg ?_
        refine mv rfl rfl ?_
        refine cf1 1 (qe) ok_20 rfl rfl (SubD.cons 0 rfl SubD.nil) rfl fun y27 v27 h27 => ?_
        have h27 : v27 = _ := h27
        subst h27
        refine mv rfl rfl ?_
        refine xt rfl rfl rfl ?_
        refine xt rfl rfl rfl ?_
        refine al zero_35 rfl fun b7 => ?_
        refine gtL (q := y27.oneCell' = true) (fun S w h => oneCell_of_list (h _ (List.mem_of_getElem? (i := 0) rfl))) fun hk => ?_
        refine stM 0 (us := evCells ev y27) rfl rfl rfl row_35 (evCells_one _ hk) (Nat.le_of_ble_eq_true rfl) ?_
        refine asg rfl rfl ?_
        refine nl ?_
        refine nx ?_
        refine bk ?_
        refine sq ?_
        refine rg ?_
        refine mv rfl rfl ?_
        refine nt rfl rfl ?_
        refine asg rfl rfl ?_
        refine nl ?_
        refine nx ?_
        refine cdN rfl (fun h34 => ?_) (fun h34 => ?_)
        ·
          refine ex ?_
          refine bX (by decide) ?_
          refine bX (by decide) ?_
          refine tE ?_
          refine bE ?_
          refine nx ?_
          refine sq ?_
          refine rg ?_
          refine mv rfl rfl ?_
          refine mv rfl rfl ?_
          refine asg rfl rfl ?_
          refine asg rfl rfl ?_
          refine nl ?_
          refine nx ?_
          refine rt ?_
          refine sR ?_
          have hE : decS bs = ((c.toNat : Int), acc) := by rw [hD, if_pos (by simpa using h16), g3, rdEvs_bad (by omega) he h34, List.append_nil]
          rw [hE]
          refine dpQ (frRQ (dpQ ?_))
          exact fR2 rv rfl rfl rfl rfl rfl (SubD.cons 0 rfl SubD.nil)
        ·
          refine rg ?_
          refine mv rfl rfl ?_
          refine ldM 0 (evCells ev y27) rfl rfl row_35 rfl rfl ?_
          refine bsM rfl app_22 rfl rfl rfl rfl fun b32 => ?_
          refine frS1 (α := Ev) ev (fun S w h => by exact ⟨y27, rfl, fun t ht => (List.mem_singleton.1 ht) ▸ h ⟨y27, ev.keep⟩ (List.mem_of_getElem? (i := 0) rfl), hwf⟩) ?_
          refine ap 1 0 rfl rfl rfl rfl app_22 (by simp; omega) (by simp; omega) rfl fun v33 => ?_
          refine asg rfl rfl ?_
          refine nl ?_
          refine bN ?_
          refine bN ?_
          refine dpQ ?_
          exact ag (v33, acc ++ [ev], st2) ⟨by simp; omega, gp, by rw [g3, rdEvs_more (by omega) he h34 (by omega)]; simp [Nat.sub_sub]⟩ (by show 4096 - (acc ++ [ev]).length < 4096 - acc.length; simp; omega) ⟨rfl, rfl, rfl, trivial⟩ rfl (SubD.cons 2 rfl SubD.nil)
      ·
        refine ex ?_
        refine tE ?_
        refine tE ?_
        refine bE ?_
        refine nx ?_
        refine sq ?_
        refine rg ?_
        refine mv rfl rfl ?_
        refine mv rfl rfl ?_
        refine asg rfl rfl ?_
        refine asg rfl rfl ?_
        refine nl ?_
        refine nx ?_
        refine rt ?_
        refine sR ?_
        have hE : decS bs = ((c.toNat : Int), acc) := by rw [hD, if_pos (by simpa using h16), g3, rdEvs_end (by omega), List.append_nil]
        rw [hE]
        refine frRQ (dpQ ?_)
        exact fR2 rv rfl rfl rfl rfl rfl (SubD.cons 0 rfl SubD.nil)
    ·
      refine gN rfl rfl rfl rfl rfl ?_
      refine gN rfl rfl rfl rfl rfl ?_
      refine gN rfl rfl rfl rfl rfl ?_
      refine pkF rfl rfl rfl ?_
      refine nl ?_
      refine nx ?_
      refine cdF rfl ?_
      refine ex ?_
      refine tE ?_
      refine tE ?_
      refine bE ?_
      refine nx ?_
      refine sq ?_
      refine rg ?_
      refine mv rfl rfl ?_
      refine mv rfl rfl ?_
      refine asg rfl rfl ?_
      refine asg rfl rfl ?_
      refine nl ?_
      refine nx ?_
      refine rt ?_
      refine sR ?_
      have hE : decS bs = ((c.toNat : Int), acc) := by rw [hD, if_pos (by simpa using h16), g3, show 4096 - acc.length = 0 from by omega, rdEvs_0, List.append_nil]
      rw [hE]
      refine frRQ (dpQ ?_)
      exact fR2 rv rfl rfl rfl rfl rfl (SubD.cons 0 rfl SubD.nil)
end Go.Proofs.Ytcjaodddckbciaa
