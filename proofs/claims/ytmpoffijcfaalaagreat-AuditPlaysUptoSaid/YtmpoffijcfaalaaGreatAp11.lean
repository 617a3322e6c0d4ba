/- Part 11 of auditPlays_holds. -/
import Derived.Test.YtmpoffijcfaalaaGreatAp10

set_option maxRecDepth 20000
set_option maxHeartbeats 1000000
namespace Go.Proofs.YtmpoffijcfaalaaGreat.Rdr
open Go.Eng Go.YtmpoffijcfaalaaGreat
theorem int_r (p : Nat) (bv : Value) (bs : List UInt8) (s s' : Rd) (x : Int) (hp : s.pos ≤ bs.length) (hx : rdInt bs s = (x, s')) : Fnc Pg 298 [.pointer (some ⟨p, 0, none⟩)] [rdr p bv s] [⟨bv, bs⟩] (fun (_ : Unit) v => v = .int .i64 x) (fun _ _ => [rdr p bv s']) (fun _ _ => []) := by
 refine Fnc.proof Tryz.func298 G 16 G G fun X w => ?_
 obtain ⟨rfl, rfl⟩ : x = zag (rdNum bs s).1 ∧ s' = (rdNum bs s).2 := by simp only [rdInt, Prod.mk.injEq] at hx; exact ⟨hx.1.symm, hx.2.symm⟩
 have hl := rdNum_lt bs s
 refine sa 1 G<|qg<|mv G G<|cf1 0 (num_r _ _ _ _ hp) (Kg G) G G (Sc 0 G Sn) G fun y5 v5 h5 => ?_
 have h5 : v5 = .int .u64 ((rdNum bs s).1 : Int) := h5
 subst h5
 refine ru 1 G<|nl<|nx<|sq<|qg<|mv G G<|btA G G (and_1 hl) G<|ru 1 G<|nl<|nx<|cdP G (fun h8 => ?_) (fun h8 => ?_)
 · exact qg<|mv G G<|shR G G (by omega) (shr1 _) G<|cv Tryz.underlying209 Tryz.underlying3 G (i64_of_nat (by omega)) G<|cpW G (cpl inI) G<|ru 1 G<|nl<|nx<|rt<|tR<|fR1 () G G (by unfold zag; rw [if_pos (by omega)]) G Sn
 · exact sk<|nx<|qg<|mv G G<|shR G G (by omega) (shr1 _) G<|cv Tryz.underlying209 Tryz.underlying3 G (i64_of_nat (by omega)) G<|ru 1 G<|nl<|nx<|rt<|fR1 () G G (by unfold zag; rw [if_neg (by omega)]) G Sn
theorem fault_r (p : Nat) (bv : Value) (bs : List UInt8) (s : Rd) : Fnc Pg 311 [.pointer (some ⟨p, 0, none⟩)] [rdr p bv s] [] (fun (_ : Unit) v => v = .tuple #[.int .i64 (s.fault : Int), .int .i64 ((if s.fault = 0 then 0 else s.pos : Nat) : Int)]) (fun _ _ => [rdr p bv s]) (fun _ _ => []) := by
 refine Fnc.proof Tryz.func311 G 19 G G fun X w => sa 2 G<|sq<|qg<|mv G G<|eqP Tryz.underlying311 G G G<|nl<|nx<|cdF G<|sk<|nx<|sq<|sb 5 [0] G G<|cdP G (fun h10 => ?_) (fun h10 => ?_)
 ·
  refine sa 2 G<|rt<|tR ?_
  have e : s.fault = 0 := by omega
  rw [if_pos e]
  exact fR2 () G G G (by rw [e]; rfl) G Sn
 ·
  refine sk<|nx<|sq<|rgQ mixed (by kernel_rfl)<|rl 10 [0,0] G G<|nlQ<|nx<|rt ?_
  rw [if_neg (by omega)]
  exact fR2 () G G G G G Sn
theorem new_r (sv : Value) (bs : List UInt8) (hlen : bs.length ≤ 140737488355328) : Fnc Pg 259 [sv] [] [⟨sv, bs⟩] (fun (y : Nat × Value) v => v = .pointer (some ⟨y.1, 0, none⟩)) (fun y _ => [rdr y.1 y.2 ⟨0, 0⟩]) (fun y _ => [⟨y.2, bs⟩]) := by
 refine Fnc.proof Tryz.func259 G 7 G G fun X w => sa 1 G<|qg<|mv G G<|cf (clone_c _ _ (by first | assumption | (simp only [List.length_drop, List.length_take]; omega))) (Kg G) G (Sc 0 G Sn) G fun y4 v4 h4 => asSl 0 G ?_
 rintro ⟨A, cc, rfl⟩
 exact bd (ps := [(0, .tmp 4)]) (cs := [.slice A bs.length cc, .int .i64 0, .int .i64 0]) (by rfl) (by kernel_rfl) G<|bx G G G fun b6 => ru 1 G<|nl<|nx<|rt<|fR1 (b6, .slice A bs.length cc) G G G G (Sc 0 G Sn)
theorem flag1_c (b : Nat) (sv : Value) (bs : List UInt8) : Fnc Pg 314 [sv, .pointer (some ⟨b, 0, none⟩)] [bl b 4 [.bool false]] [⟨sv, bs⟩] (fun (_ : Unit) v => v = stepTup (flagD bs).2.1 (flagD bs).2.2) (fun _ _ => [bl b 4 [.bool (flagD bs).1]]) (fun _ _ => []) := by
 refine Fnc.proof Tryz.func314 G 16 G G fun X w => sa 2 G<|sq<|qg<|mv G G<|lnP 0 G G Tryz.underlying35 G fun l6 => ru 1 G<|nl<|nx<|cdP G (fun h7 => ?_) (fun h7 => ?_)
 ·
  have hx : bs = [] := List.eq_nil_of_length_eq_zero (by omega)
  subst hx
  exact sa 2 G<|rt<|tR<|fR2 () G G G G G Sn
 ·
  obtain ⟨c, r, rfl⟩ : ∃ c r, bs = c :: r := by
   cases bs with
   | nil => exact absurd rfl h7
   | cons c r => exact ⟨c, r, rfl⟩
  refine sk<|nx<|sq<|qg<|mv G G<|ixP 0 G G G slt_35 (by omega) (show (c :: r)[0]? = some c from G) G fun v9 => ldV 0 G G (Og G) G fun w10 => ru 1 G<|nl<|nx<|cdP G (fun h11 => ?_) (fun h11 => ?_)
  ·
   have hF : flagD (c :: r) = (false, 0, 21) := by simp only [flagD]; rw [if_pos (by omega)]
   rw [hF]
   exact sa 2 G<|rt<|tR<|fR2 () G G G G G Sn
  ·
   have hF : flagD (c :: r) = (decide ((c.toNat : Int) = 1), 1, 0) := by
    simp only [flagD]
    rw [if_neg (by omega)]
    congr 1
    rw [Bool.eq_iff_iff]
    simp only [decide_eq_true_eq]
    rw [← UInt8.toNat_inj]
    show c.toNat = 1 ↔ _
    omega
   rw [hF]
   exact sk<|nx<|qg<|mv G G<|ixP 1 G G G slt_35 (by omega) (show (c :: r)[0]? = some c from G) G fun v13 => ldV 0 G G (Og G) G fun w14 => ru 1 G<|stB 0 G G G (Og G) G (nlt G)<|nl<|nx<|sa 2 G<|rt<|fR2 () G G G G G Sn
theorem flag_r (p : Nat) (bv : Value) (bs : List UInt8) (s : Rd) (hp : s.pos ≤ bs.length) : Fnc Pg 299 [.pointer (some ⟨p, 0, none⟩)] [rdr p bv s] [⟨bv, bs⟩] (fun (_ : Unit) v => v = .bool (rdFlag bs s).1) (fun _ _ => [rdr p bv (rdFlag bs s).2]) (fun _ _ => []) := by
 refine Fnc.proof Tryz.func299 G 8 G G fun X w => ?_
 have hN0 := fun b sv => flag1_c b sv (bs.drop s.pos)
 have hb := flagD_bd (bs.drop s.pos)
 rcases hN : flagD (bs.drop s.pos) with ⟨x, n, e⟩
 rw [hN] at hb
 simp only [hN] at hN0
 simp only at hb
 have hr : rdFlag bs s = (s.val false x e, s.step n e) := by simp only [rdFlag, rdOf, hN]
 rw [hr]
 have hb : True ∧ n ≤ (bs.drop s.pos).length ∧ (e ≠ 0 → x = false ∧ n = 0) := ⟨trivial, hb⟩
 refine sa 1 G<|qg<|al zero_4 G fun b3 => stB 0 G G G (Og G) G (nlt G)<|nl<|nx<|qg<|mv G G<|mf (xs := [.tmp 3]) G G<|cfP (L0 := [bl b3 4 [.bool false], rdr p bv s]) (Lr := [fz X w]) (thing1 p 314 bv bs s #[.pointer (some ⟨b3, 0, none⟩)] _ (bl b3 4 [.bool (s.val false x e : Bool)]) n e (Kg G) hp (by omega) (fun h sv => ?_) (fun h => ?_)) (Kg G) G (by rfl) (Sc 0 G Sn) (by rfl) fun y v h => ?_
 ·
  have q := hN0 b3 sv
  have e1 : s.val false x e = x := by unfold Rd.val; rw [if_neg (by omega)]; split; exact (by simp [hb.2.2, *]); rfl
  rw [e1]
  exact q
 ·
  have e1 : s.val false x e = false := by unfold Rd.val; rw [if_pos h]
  rw [e1]; try rfl
 obtain rfl : v = .bool (decide (s.fault = 0 ∧ e = 0)) := h
 exact nl<|nx<|sb 2 [0] G G<|rt<|dpQ<|fR1 () G G G G Sn
theorem end_r (p : Nat) (bv : Value) (bs : List UInt8) (s : Rd) : Fnc Pg 260 [.pointer (some ⟨p, 0, none⟩)] [rdr p bv s] [⟨bv, bs⟩] (fun (_ : Unit) v => v = .int .i64 (endE bs s)) (fun _ _ => [rdr p bv s]) (fun _ _ => []) := by
 refine Fnc.proof Tryz.func260 G 26 G G fun X w => sa 1 G<|sq<|qg<|mv G G<|eqP Tryz.underlying311 G G G<|nl<|nx<|cdF G<|sk<|nx<|sq<|sq<|rgQ mixed (by kernel_rfl)<|rl 6 [0] G G<|spP (i := 10) G (fun h10 => ?_) (fun h10 => ?_)
 ·
  refine rl 7 [0] G G<|rl 1 [0] G G<|gY G G G<|lnP 0 G G Tryz.underlying35 G fun l19 => ru 2 G<|nlQ<|nx<|cdP G (fun h21 => ?_) (fun h21 => ?_)
  · exact sa 1 G<|rt<|tR<|fR1 () G G (by unfold endE; first | rw [if_pos (by omega)] | rw [if_neg (by omega)]) G Sn
  · exact sk<|nx<|sb 5 [0] G G<|rt<|fR1 () G G (by unfold endE; first | rw [if_pos (by omega)] | rw [if_neg (by omega)]) G Sn
 · exact gN G G G G G<|gN G G G G G<|gN G G G G G<|gN G G G G G<|gN G G G G G<|gN G G G G G<|gN G G G G G<|gN G G G G G<|gN G G G G G<|gN G G G G G<|ru 1 G<|nlQ<|nx<|cdF G<|sk<|nx<|sb 5 [0] G G<|rt<|fR1 () G G (by unfold endE; first | rw [if_pos (by omega)] | rw [if_neg (by omega)]) G Sn
end Go.Proofs.YtmpoffijcfaalaaGreat.Rdr
namespace Go.Proofs.YtmpoffijcfaalaaGreat.Pen
open Go.Eng Go.YtmpoffijcfaalaaGreat
section
variable (pv bv sv : Value) (p : Nat) (bs : List UInt8) (s0 s : Rd) (b T : Nat) (cells : List Value) (offs : List Nat) (o : Nat)
theorem stopped_c : Fnc Pg 295 [pv] [rdr p bv s] [⟨pv, (⟨⟨p⟩⟩ : Pt Tpen)⟩] (fun (_ : Unit) v => v = .bool (stopB s)) (fun _ _ => [rdr p bv s]) (fun _ _ => []) := by
 refine Fnc.proof Tryz.func295 G 31 G G fun X w => sa 1 G<|sq<|qg<|mv G G<|ncP 0 G G G<|faP (α := Tpen) (β := RawP) 0 (fun x : Tpen => x.fIn) G G (Fg G) ppen_0 G fun v7 => ldV 0 G G (Og G) G fun w8 => eqP Tryz.underlying311 G G G<|nl<|nx<|cdF G<|sk<|nx<|qg<|mv G G<|ncP 1 G G G<|faP (α := Tpen) (β := RawP) 1 (fun x : Tpen => x.fIn) G G (Fg G) ppen_0 G fun v17 => ldV 0 G G (Og G) G fun w18 => cf1 0 (Rdr.fault_r p bv [] s) (Kg G) G G Sn G fun _ v19 h19 => ?_
 subst h19
 refine ru 5 G<|nl<|nx<|qg<|ru 3 G ?_
 refine jz 24 6 [] G G (fun h24 K30 => by
  have p24 := h24
  simp only [Bool.not_eq_false', decide_eq_true_eq] at p24
  exact ru 1 G<|gY G G G<|ncP 2 G G G<|gY G G G<|faP (α := Tpen) (β := Int) 2 (fun x : Tpen => x.fBad) G G (Fg G) ppen_3 G fun v27 => gY G G G<|ldV 0 G G (Og G) G fun w28 => ru 2 G<|K30 G (SubD.tail Sr)) ?_
 exact ru 1 G<|nl<|nx<|rt<|fR1 () G G G G Sn
theorem int_p (hp : s0.pos ≤ bs.length) (hz : zeroI cells offs) (hn : offs.Nodup) : Fnc Pg 261 [pv, sv] [bl b T cells, rdr p bv s0] [⟨pv, (⟨⟨p⟩⟩ : Pt Tpen)⟩, ⟨bv, bs⟩, ⟨sv, ptrs b offs⟩] (fun (_ : Unit) _ => True) (fun _ _ => [bl b T (intsP bs offs (cells, s0)).1, rdr p bv (intsP bs offs (cells, s0)).2]) (fun _ _ => []) := by
 refine Fnc.proof Tryz.func261 G 35 G G fun X w => qg<|mv G G<|lnP 2 G G Tryz.underlying297 G fun l7 => mv G G<|nl<|nx<|bk<|lpE (σ := Nat × List Value × Rd) [(0, _), (6, _), (7, _)] _ (fun i C => (8, .int .i64 (i.1 : Int)) :: C) (fun i => [bl b T i.2.1, rdr p bv i.2.2, fz X w]) (fun _ Dc => Dc) (fun i => i.1 ≤ offs.length ∧ i.2.2.pos ≤ bs.length ∧ zeroI i.2.1 (offs.drop i.1) ∧ (offs.drop i.1).Nodup ∧ intsP bs (offs.drop i.1) i.2 = intsP bs offs (cells, s0)) (fun i => offs.length - i.1) (0, cells, s0) (Gs G) (Sc 0 G (Sc 1 G (Sc 2 G Sn))) ⟨Nat.zero_le _, hp, hz, hn, G⟩ (Gs G) G (Sc 0 G (Sc 1 G (Sc 2 G Sn))) ?_
 rintro ⟨i, c, s⟩ ⟨hi, hs, hc, hd, he⟩
 simp only at hi hs hc hd he
 refine sa 1 G<|sq<|cdP G (fun h9 => ?_) (fun h9 => ?_)
 ·
  have hi2 : i < offs.length := by rw [ptrs_len] at h9; omega
  rw [drop_cons hi2] at hc hd he
  have ho := lt_of_at (hc _ (List.mem_cons_self ..))
  refine sk<|nx<|sq<|bk<|qg<|ixP 2 G G G slt_297 (by omega) (ptrs_at hi2) G fun v10 => ldV 0 G G (Og G) G fun w11 => ru 1 G<|nl<|nx<|bk<|qg<|mv G G<|cf1 1 (stopped_c pv bv p s) (Kg G) G G (Sc 1 G Sn) G fun _ v21 h21 => ?_
  have h21 : v21 = .bool (stopB s) := h21
  subst h21
  refine ru 1 G<|nl<|nx<|cdB G (fun h19 => ?_) (fun h19 => ?_)
  ·
   refine sk<|bN<|bN<|nx<|rg<|adI G G inI G<|mv G G<|nl ?_
   exact ag ((i + 1, c, s) : Nat × List Value × Rd) ⟨by omega, hs, fun x hx => hc x (List.mem_cons_of_mem _ hx), (List.nodup_cons.1 hd).2, (intsP_stop ((stopB_iff s).1 h19) (hc _ (List.mem_cons_self ..))).symm.trans he⟩ (by show _ - _ < _ - _; omega) (Gs G) G (Si [1,2,3] G)
  ·
   have hf := (stopB_not s).1 (by simpa using h19)
   refine qg<|mv G G<|ncP 1 G G G<|faP (α := Tpen) (β := RawP) 1 (fun x : Tpen => x.fIn) G G (Fg G) ppen_0 G fun v25 => ldV 0 G G (Og G) G fun w26 => eqP Tryz.underlying311 G G G<|ru 1 G<|nl<|nx<|cdF G<|rg<|ru 2 G<|ncP 2 G G G<|faP (α := Tpen) (β := RawP) 2 (fun x : Tpen => x.fIn) G G (Fg G) ppen_0 G fun v15 => ldV 0 G G (Og G) G fun w16 => cf1 1 (Rdr.int_r p bv bs s (rdInt bs s).2 (rdInt bs s).1 hs G) (Kg G) G G (Sc 4 G Sn) G fun _ v17 h17 => ?_
   have h17 : v17 = .int .i64 (rdInt bs s).1 := h17
   subst h17
   refine nc G G<|stB 0 G G G (Og G) G ho<|nl<|bN<|bN<|nx<|rg<|adI G G inI G<|mv G G<|nl ?_
   exact ag ((i + 1, c.set (offs.getD i 0) (.int .i64 (rdInt bs s).1), (rdInt bs s).2) : Nat × List Value × Rd) ⟨by omega, rdInt_pos hs, zero_set (α := Nat) hd (fun x hx => hc x (List.mem_cons_of_mem _ hx)), (List.nodup_cons.1 hd).2, he⟩ (by show _ - _ < _ - _; omega) (Gs G) G (Si [3,4,5] G)
 ·
  have hi2 : i = offs.length := by rw [ptrs_len] at h9; omega
  subst hi2
  rw [List.drop_length] at he
  have he : (c, s) = intsP bs offs (cells, s0) := he
  rw [← he]
  exact ex<|tE<|tE<|bE<|fR0N () G trivial G Sn
theorem errno_p (hp : s.pos ≤ bs.length) (hz : cells[o]? = some (.int .i64 0)) : Fnc Pg 304 [pv, .pointer (some ⟨b, o, none⟩)] [bl b T cells, rdr p bv s] [⟨pv, (⟨⟨p⟩⟩ : Pt Tpen)⟩, ⟨bv, bs⟩] (fun (_ : Unit) _ => True) (fun _ _ => [bl b T (cells.set o (.int .i64 (rdInt bs s).1)), rdr p bv (rdInt bs s).2]) (fun _ _ => []) := by
 refine Fnc.proof Tryz.func304 G 14 G G fun X w => ?_
 have ho := lt_of_at hz
 exact qg<|ru 2 G<|ldB 0 G G (Og G) hz G<|al zero_3 G fun b4 => stB 0 G G G (Og G) G (by decide)<|nl<|nx<|qg<|mv G G<|bs1 (xs := [.tmp 4]) (us := [.pointer (some ⟨b4, 0, none⟩)]) (E := 243) (bytes := 8) (n := 1) G (by exact app_297) G G G G G G fun b9 => frS (ptrs b4 [0]) ([0].map fun o => [.pointer (some ⟨b4, o, none⟩)]) G (fun S w h => ptrs_rd S w _) (Nat.le_of_ble_eq_true G)<|mtL 2 G<|mtL 1 G<|cfN 2 (int_p pv bv _ p bs s b4 3 [.int .i64 0] [0] hp (by intro o ho; simp only [List.mem_cons, List.not_mem_nil, or_false] at ho; subst ho; rfl) (by decide)) (Kg G) G G (Si [1,2,0] G) G fun _ v10 h10 => nl<|nx<|rg<|mv G G<|ldB 0 G G (Og G) (show _ = some (.int .i64 (rdInt bs s).1) from G) G<|nc G G<|stB 2 G G G (Og G) G ho<|nl<|dpQ<|mtQ 1 G<|fR0N () G trivial G Sn
theorem flag_p (hp : s.pos ≤ bs.length) (hz : cells[o]? = some (.bool false)) : Fnc Pg 262 [pv, .pointer (some ⟨b, o, none⟩)] [bl b T cells, rdr p bv s] [⟨pv, (⟨⟨p⟩⟩ : Pt Tpen)⟩, ⟨bv, bs⟩] (fun (_ : Unit) _ => True) (fun _ _ => [bl b T (cells.set o (.bool (rdFlag bs s).1)), rdr p bv (rdFlag bs s).2]) (fun _ _ => []) := by
 refine Fnc.proof Tryz.func262 G 37 G G fun X w => ?_
 have ho := lt_of_at hz
 refine bk<|qg<|mv G G<|cf1 1 (stopped_c pv bv p s) (Kg G) G G (Sc 0 G Sn) G fun _ v13 h13 => ?_
 have h13 : v13 = .bool (stopB s) := h13
 subst h13
 refine ru 1 G<|nl<|nx<|cdB G (fun h11 => ?_) (fun h11 => ?_)
 ·
  have hf := (stopB_iff s).1 h11
  exact sk<|bN<|fR0N () G trivial (by rw [rdFlag_stop1 hf, rdFlag_stop hf, set_same hz]; rfl) Sn
 ·
  refine qg<|mv G G<|ncP 0 G G G<|faP (α := Tpen) (β := RawP) 0 (fun x : Tpen => x.fIn) G G (Fg G) ppen_0 G fun v17 => ldV 0 G G (Og G) G fun w18 => eqP Tryz.underlying311 G G G<|mv G G<|gN G G G G G<|gN G G G G G<|gN G G G G G<|ru 2 G<|nl<|nx<|cdF G<|qg<|mv G G<|ncP 1 G G G<|faP (α := Tpen) (β := RawP) 1 (fun x : Tpen => x.fIn) G G (Fg G) ppen_0 G fun v31 => ldV 0 G G (Og G) G fun w32 => eqP Tryz.underlying311 G G G<|ru 1 G<|nl<|nx<|cdF G<|rg<|ru 2 G<|ncP 2 G G G<|faP (α := Tpen) (β := RawP) 2 (fun x : Tpen => x.fIn) G G (Fg G) ppen_0 G fun v7 => ldV 0 G G (Og G) G fun w8 => cf1 1 (Rdr.flag_r p bv bs s hp) (Kg G) G G (Sc 4 G Sn) G fun _ v9 h9 => ?_
  have h9 : v9 = .bool (rdFlag bs s).1 := h9
  subst h9
  exact nc G G<|stB 0 G G G (Og G) G ho<|nl<|bN<|fR0N () G trivial G Sn
theorem bytes_p (u : Value) (hp : s.pos ≤ bs.length) (hu : cells[o]? = some u) : Fnc Pg 275 [pv, .pointer (some ⟨b, o, none⟩)] [bl b T cells, rdr p bv s] [⟨pv, (⟨⟨p⟩⟩ : Pt Tpen)⟩, ⟨bv, bs⟩, ⟨u, ([] : List UInt8)⟩] (fun (_ : Value) _ => True) (fun y _ => [bl b T (cells.set o y), rdr p bv (rdText bs 65535 s).2]) (fun y _ => [⟨y, (rdText bs 65535 s).1⟩]) := by
 refine Fnc.proof Tryz.func275 G 35 G G fun X w => ?_
 have ho := lt_of_at hu
 refine bk<|qg<|mv G G<|cf1 1 (stopped_c pv bv p s) (Kg G) G G (Sc 0 G Sn) G fun _ v12 h12 => ?_
 have h12 : v12 = .bool (stopB s) := h12
 subst h12
 refine ru 1 G<|nl<|nx<|cdB G (fun h10 => ?_) (fun h10 => ?_)
 ·
  have hf := (stopB_iff s).1 h10
  exact sk<|bN<|fR0N u G trivial (by rw [rdText_stop hf, set_same hu]; rfl) (by rw [rdText_stop1 hf]; exact (SubD.cons 2 rfl SubD.nil))
 ·
  refine qg<|mv G G<|ncP 0 G G G<|faP (α := Tpen) (β := RawP) 0 (fun x : Tpen => x.fIn) G G (Fg G) ppen_0 G fun v16 => ldV 0 G G (Og G) G fun w17 => neP Tryz.underlying311 G G G<|ru 1 G<|nl<|nx<|cdT G<|rg<|ru 2 G<|ncP 1 G G G<|faP (α := Tpen) (β := RawP) 1 (fun x : Tpen => x.fIn) G G (Fg G) ppen_0 G fun v22 => ldV 0 G G (Og G) G fun w23 => cf1 1 (Rdr.text_r p bv bs s 65535 inI (by omega) hp) (Kg G) G G (Sc 3 G Sn) G fun _ v24 _ => ?_
  exact nc G G<|stL 0 0 G G G G (Og G) ho<|nl<|bN<|fR0N v24 G trivial G (Sc 0 G Sn)
theorem text_p (hp : s0.pos ≤ bs.length) (hz : zeroS cells offs) (hn : offs.Nodup) : Fnc Pg 263 [pv, sv] [bl b T cells, rdr p bv s0] [⟨pv, (⟨⟨p⟩⟩ : Pt Tpen)⟩, ⟨bv, bs⟩, ⟨sv, ptrs b offs⟩] (fun (_ : Unit) _ => True) (fun _ _ => [bl b T (textsP bs offs (cells, s0)).1, rdr p bv (textsP bs offs (cells, s0)).2]) (fun _ _ => []) := by
 refine Fnc.proof Tryz.func263 G 44 G G fun X w => qg<|mv G G<|lnP 2 G G Tryz.underlying348 G fun l8 => mv G G<|nl<|nx<|bk<|lpE (σ := Nat × List Value × Rd) [(0, _), (7, _), (8, _)] _ (fun i C => (9, .int .i64 (i.1 : Int)) :: C) (fun i => [bl b T i.2.1, rdr p bv i.2.2, fz X w]) (fun _ Dc => Dc) (fun i => i.1 ≤ offs.length ∧ i.2.2.pos ≤ bs.length ∧ zeroS i.2.1 (offs.drop i.1) ∧ (offs.drop i.1).Nodup ∧ textsP bs (offs.drop i.1) i.2 = textsP bs offs (cells, s0)) (fun i => offs.length - i.1) (0, cells, s0) (Gs G) (Sc 0 G (Sc 1 G (Sc 2 G Sn))) ⟨Nat.zero_le _, hp, hz, hn, G⟩ (Gs G) G (Sc 0 G (Sc 1 G (Sc 2 G Sn))) ?_
 rintro ⟨i, c, s⟩ ⟨hi, hs, hc, hd, he⟩
 simp only at hi hs hc hd he
 refine sa 1 G<|sq<|cdP G (fun h10 => ?_) (fun h10 => ?_)
 ·
  have hi2 : i < offs.length := by rw [ptrs_len] at h10; omega
  rw [drop_cons hi2] at hc hd he
  have ho := lt_of_at (hc _ (List.mem_cons_self ..))
  refine sk<|nx<|sq<|bk<|qg<|ixP 2 G G G slt_348 (by omega) (ptrs_at hi2) G fun v11 => ldV 0 G G (Og G) G fun w12 => ru 1 G<|nl<|nx<|sq<|qg<|mv G G<|ncP 1 G G G<|faP (α := Tpen) (β := RawP) 1 (fun x : Tpen => x.fIn) G G (Fg G) ppen_0 G fun v15 => ldV 0 G G (Og G) G fun w16 => eqP Tryz.underlying311 G G G<|mv G G<|gN G G G G G<|gN G G G G G<|gN G G G G G<|gN G G G G G<|gN G G G G G<|ru 1 G<|nl<|nx<|cdF G<|sk<|nx<|qg<|ru 2 G<|ldB 0 G G (Og G) (hc _ (List.mem_cons_self ..)) G<|csb Tryz.underlying9 Tryz.underlying35 Tryz.underlying5 G (by decide) G fun v31 => al zero_35 G fun b6 => stL 0 0 G G G G (Og G) (nlt G)<|nl<|nx<|qg<|mv G G<|mtL 2 G<|mtL 1 G<|cfN 2 (bytes_p pv bv p bs s b6 35 [v31] 0 v31 hs G) (Kg G) G G (Si [3,4,0] G) G fun y v33 h33 => ?_
  refine nl<|nx<|qg<|mv G G<|ncP 4 G G G<|faP (α := Tpen) (β := RawP) 4 (fun x : Tpen => x.fIn) G G (Fg G) ppen_0 G fun v36 => ldV 0 G G (Og G) G fun w37 => neP Tryz.underlying311 G G G<|nl<|nx<|cdT G<|rg<|mv G G<|ldB 0 G G (Og G) (show _ = some y from G) G<|cbs 1 Tryz.underlying35 Tryz.underlying5 Tryz.underlying9 G G G<|nc G G<|stB 2 G G G (Og G) G ho<|nl<|bN<|nx<|rg<|adI G G inI G<|mv G G<|nl<|dpQ<|mtQ 1 G ?_
  exact ag ((i + 1, c.set (offs.getD i 0) (.string ⟨(rdText bs 65535 s).1.toArray⟩), (rdText bs 65535 s).2) : Nat × List Value × Rd) ⟨by omega, rdText_pos hs, zero_set (α := Nat) hd (fun x hx => hc x (List.mem_cons_of_mem _ hx)), (List.nodup_cons.1 hd).2, he⟩ (by show _ - _ < _ - _; omega) (Gs G) G (Si [5,6,7] G)
 ·
  have hi2 : i = offs.length := by rw [ptrs_len] at h10; omega
  subst hi2
  rw [List.drop_length] at he
  have he : (c, s) = textsP bs offs (cells, s0) := he
  rw [← he]
  exact ex<|tE<|tE<|bE<|fR0N () G trivial G Sn
end
end Go.Proofs.YtmpoffijcfaalaaGreat.Pen
namespace Go.YtmpoffijcfaalaaGreat
open Go.Eng
theorem gdHolder_eq (bs : List UInt8) (s : Rd) : (intsP bs [0, 1, 2, 3] (([.int .i64 0, .int .i64 0, .int .i64 0, .int .i64 0] : List Value), s)) = (cHolder (gdHolder bs s).1, (gdHolder bs s).2) := by
 simp only [intsP, gdHolder, bnd, List.set_cons_zero, List.set_cons_succ]
theorem gdEnd_eq (bs : List UInt8) (s : Rd) : (intsP bs [0, 1] (([.int .i64 0, .int .i64 0] : List Value), s)) = (cEnd (gdEnd bs s).1, (gdEnd bs s).2) := by
 simp only [intsP, gdEnd, bnd, List.set_cons_zero, List.set_cons_succ]
theorem gdDeal_eq (bs : List UInt8) (s : Rd) : (intsP bs [4, 5, 6, 7] (textsP bs [2, 3] (intsP bs [0, 1] (([.int .i64 0, .int .i64 0, .string ByteArray.empty, .string ByteArray.empty, .int .i64 0, .int .i64 0, .int .i64 0, .int .i64 0] : List Value), s)))) = (cDeal (gdDeal bs s).1, (gdDeal bs s).2) := by
 simp only [intsP, textsP, gdDeal, bnd, List.set_cons_zero, List.set_cons_succ]
theorem gdMark_eq (bs : List UInt8) (s : Rd) : (intsP bs [4, 5, 6] (intsP bs [3] (flagP bs 2 (intsP bs [0, 1] (([.int .i64 0, .int .i64 0, .bool false, .int .i64 0, .int .i64 0, .int .i64 0, .int .i64 0] : List Value), s))))) = (cMark (gdMark bs s).1, (gdMark bs s).2) := by
 simp only [intsP, flagP, gdMark, gdAnswer, bnd, List.set_cons_zero, List.set_cons_succ]
theorem gdWait_eq (bs : List UInt8) (s : Rd) : (opPr bs 5 (intsP bs [0, 1, 2, 3, 4] (([.int .i64 0, .int .i64 0, .int .i64 0, .int .i64 0, .int .i64 0, .int .i64 0, .string ByteArray.empty, .string ByteArray.empty, .int .i64 0, .int .i64 0, .int .i64 0] : List Value), s))) = (cWait (gdWait bs s).1, (gdWait bs s).2) := by
 simp only [intsP, textsP, opPr, gdWait, gdOp, bnd, List.set_cons_zero, List.set_cons_succ, Nat.reduceAdd]
theorem gdAccount_eq (bs : List UInt8) (s : Rd) (y33 : Value) : (intsP bs [6, 7, 8, 9] (setL 5 y33 (rdLs bs (gdHolder bs)) (intsP bs [1, 2, 3, 4] (textsP bs [0] (([.string ByteArray.empty, .int .i64 0, .int .i64 0, .int .i64 0, .int .i64 0, .slice none 0 0, .int .i64 0, .int .i64 0, .int .i64 0, .int .i64 0] : List Value), s))))) = (cAccount (gdAccount bs s).1 y33, (gdAccount bs s).2) := by
 simp only [intsP, textsP, setL, gdAccount, gdSpan, gdLock, bnd, List.set_cons_zero, List.set_cons_succ]
theorem gdAccount_l0 (bs : List UInt8) (s : Rd) (y33 : Value) : (rdLs bs (gdHolder bs) (intsP bs [1, 2, 3, 4] (textsP bs [0] (([.string ByteArray.empty, .int .i64 0, .int .i64 0, .int .i64 0, .int .i64 0, .slice none 0 0, .int .i64 0, .int .i64 0, .int .i64 0, .int .i64 0] : List Value), s))).2).1 = (gdAccount bs s).1.fHolders := by
 simp only [intsP, textsP, gdAccount, gdSpan, gdLock, bnd, List.set_cons_zero, List.set_cons_succ]
theorem gdState_eq (bs : List UInt8) (s : Rd) (y39 y46 y53 y60 y67 y82 : Value) : (intsP bs [26, 27, 28] (setL 25 y82 (rdText bs 65535) (planPr bs 18 (planPr bs 11 (setL 10 y67 (rdLs bs (gdEnd bs)) (setL 9 y60 (rdLs bs (gdDeal bs)) (setL 8 y53 (rdLs bs (gdWait bs)) (setL 7 y46 (rdLs bs (gdMark bs)) (setL 6 y39 (rdLs bs (gdAccount bs)) (intsP bs [5] (textsP bs [3, 4] (flagP bs 2 (intsP bs [0, 1] (([.int .i64 0, .int .i64 0, .bool false, .string ByteArray.empty, .string ByteArray.empty, .int .i64 0, .slice none 0 0, .slice none 0 0, .slice none 0 0, .slice none 0 0, .slice none 0 0, .int .i64 0, .int .i64 0, .int .i64 0, .string ByteArray.empty, .string ByteArray.empty, .int .i64 0, .int .i64 0, .int .i64 0, .int .i64 0, .int .i64 0, .string ByteArray.empty, .string ByteArray.empty, .int .i64 0, .int .i64 0, .slice none 0 0, .int .i64 0, .int .i64 0, .int .i64 0] : List Value), s)))))))))))))) = (cState (gdState bs s).1 y39 y46 y53 y60 y67 y82, (gdState bs s).2) := by
 simp only [intsP, textsP, flagP, setL, planPr, gdState, gdPlan, gdPlan, bnd, List.set_cons_zero, List.set_cons_succ, Nat.reduceAdd]
theorem gdState_l0 (bs : List UInt8) (s : Rd) (y39 y46 y53 y60 y67 y82 : Value) : (rdLs bs (gdAccount bs) (intsP bs [5] (textsP bs [3, 4] (flagP bs 2 (intsP bs [0, 1] (([.int .i64 0, .int .i64 0, .bool false, .string ByteArray.empty, .string ByteArray.empty, .int .i64 0, .slice none 0 0, .slice none 0 0, .slice none 0 0, .slice none 0 0, .slice none 0 0, .int .i64 0, .int .i64 0, .int .i64 0, .string ByteArray.empty, .string ByteArray.empty, .int .i64 0, .int .i64 0, .int .i64 0, .int .i64 0, .int .i64 0, .string ByteArray.empty, .string ByteArray.empty, .int .i64 0, .int .i64 0, .slice none 0 0, .int .i64 0, .int .i64 0, .int .i64 0] : List Value), s))))).2).1 = (gdState bs s).1.fAccounts := by
 simp only [intsP, textsP, flagP, gdState, gdPlan, gdPlan, bnd, List.set_cons_zero, List.set_cons_succ]
theorem gdState_l1 (bs : List UInt8) (s : Rd) (y39 y46 y53 y60 y67 y82 : Value) : (rdLs bs (gdMark bs) (setL 6 y39 (rdLs bs (gdAccount bs)) (intsP bs [5] (textsP bs [3, 4] (flagP bs 2 (intsP bs [0, 1] (([.int .i64 0, .int .i64 0, .bool false, .string ByteArray.empty, .string ByteArray.empty, .int .i64 0, .slice none 0 0, .slice none 0 0, .slice none 0 0, .slice none 0 0, .slice none 0 0, .int .i64 0, .int .i64 0, .int .i64 0, .string ByteArray.empty, .string ByteArray.empty, .int .i64 0, .int .i64 0, .int .i64 0, .int .i64 0, .int .i64 0, .string ByteArray.empty, .string ByteArray.empty, .int .i64 0, .int .i64 0, .slice none 0 0, .int .i64 0, .int .i64 0, .int .i64 0] : List Value), s)))))).2).1 = (gdState bs s).1.fMarks := by
 simp only [intsP, textsP, flagP, setL, gdState, gdPlan, gdPlan, bnd, List.set_cons_zero, List.set_cons_succ]
theorem gdState_l2 (bs : List UInt8) (s : Rd) (y39 y46 y53 y60 y67 y82 : Value) : (rdLs bs (gdWait bs) (setL 7 y46 (rdLs bs (gdMark bs)) (setL 6 y39 (rdLs bs (gdAccount bs)) (intsP bs [5] (textsP bs [3, 4] (flagP bs 2 (intsP bs [0, 1] (([.int .i64 0, .int .i64 0, .bool false, .string ByteArray.empty, .string ByteArray.empty, .int .i64 0, .slice none 0 0, .slice none 0 0, .slice none 0 0, .slice none 0 0, .slice none 0 0, .int .i64 0, .int .i64 0, .int .i64 0, .string ByteArray.empty, .string ByteArray.empty, .int .i64 0, .int .i64 0, .int .i64 0, .int .i64 0, .int .i64 0, .string ByteArray.empty, .string ByteArray.empty, .int .i64 0, .int .i64 0, .slice none 0 0, .int .i64 0, .int .i64 0, .int .i64 0] : List Value), s))))))).2).1 = (gdState bs s).1.fWaits := by
 simp only [intsP, textsP, flagP, setL, gdState, gdPlan, gdPlan, bnd, List.set_cons_zero, List.set_cons_succ]
theorem gdState_l3 (bs : List UInt8) (s : Rd) (y39 y46 y53 y60 y67 y82 : Value) : (rdLs bs (gdDeal bs) (setL 8 y53 (rdLs bs (gdWait bs)) (setL 7 y46 (rdLs bs (gdMark bs)) (setL 6 y39 (rdLs bs (gdAccount bs)) (intsP bs [5] (textsP bs [3, 4] (flagP bs 2 (intsP bs [0, 1] (([.int .i64 0, .int .i64 0, .bool false, .string ByteArray.empty, .string ByteArray.empty, .int .i64 0, .slice none 0 0, .slice none 0 0, .slice none 0 0, .slice none 0 0, .slice none 0 0, .int .i64 0, .int .i64 0, .int .i64 0, .string ByteArray.empty, .string ByteArray.empty, .int .i64 0, .int .i64 0, .int .i64 0, .int .i64 0, .int .i64 0, .string ByteArray.empty, .string ByteArray.empty, .int .i64 0, .int .i64 0, .slice none 0 0, .int .i64 0, .int .i64 0, .int .i64 0] : List Value), s)))))))).2).1 = (gdState bs s).1.fDeals := by
 simp only [intsP, textsP, flagP, setL, gdState, gdPlan, gdPlan, bnd, List.set_cons_zero, List.set_cons_succ]
theorem gdState_l4 (bs : List UInt8) (s : Rd) (y39 y46 y53 y60 y67 y82 : Value) : (rdLs bs (gdEnd bs) (setL 9 y60 (rdLs bs (gdDeal bs)) (setL 8 y53 (rdLs bs (gdWait bs)) (setL 7 y46 (rdLs bs (gdMark bs)) (setL 6 y39 (rdLs bs (gdAccount bs)) (intsP bs [5] (textsP bs [3, 4] (flagP bs 2 (intsP bs [0, 1] (([.int .i64 0, .int .i64 0, .bool false, .string ByteArray.empty, .string ByteArray.empty, .int .i64 0, .slice none 0 0, .slice none 0 0, .slice none 0 0, .slice none 0 0, .slice none 0 0, .int .i64 0, .int .i64 0, .int .i64 0, .string ByteArray.empty, .string ByteArray.empty, .int .i64 0, .int .i64 0, .int .i64 0, .int .i64 0, .int .i64 0, .string ByteArray.empty, .string ByteArray.empty, .int .i64 0, .int .i64 0, .slice none 0 0, .int .i64 0, .int .i64 0, .int .i64 0] : List Value), s))))))))).2).1 = (gdState bs s).1.fEnds := by
 simp only [intsP, textsP, flagP, setL, gdState, gdPlan, gdPlan, bnd, List.set_cons_zero, List.set_cons_succ]
theorem gdState_l5 (bs : List UInt8) (s : Rd) (y39 y46 y53 y60 y67 y82 : Value) : (rdText bs 65535 (planPr bs 18 (planPr bs 11 (setL 10 y67 (rdLs bs (gdEnd bs)) (setL 9 y60 (rdLs bs (gdDeal bs)) (setL 8 y53 (rdLs bs (gdWait bs)) (setL 7 y46 (rdLs bs (gdMark bs)) (setL 6 y39 (rdLs bs (gdAccount bs)) (intsP bs [5] (textsP bs [3, 4] (flagP bs 2 (intsP bs [0, 1] (([.int .i64 0, .int .i64 0, .bool false, .string ByteArray.empty, .string ByteArray.empty, .int .i64 0, .slice none 0 0, .slice none 0 0, .slice none 0 0, .slice none 0 0, .slice none 0 0, .int .i64 0, .int .i64 0, .int .i64 0, .string ByteArray.empty, .string ByteArray.empty, .int .i64 0, .int .i64 0, .int .i64 0, .int .i64 0, .int .i64 0, .string ByteArray.empty, .string ByteArray.empty, .int .i64 0, .int .i64 0, .slice none 0 0, .int .i64 0, .int .i64 0, .int .i64 0] : List Value), s)))))))))))).2).1 = (gdState bs s).1.fImage := by
 simp only [intsP, textsP, flagP, setL, planPr, gdState, gdPlan, gdPlan, bnd, List.set_cons_zero, List.set_cons_succ, Nat.reduceAdd]
end Go.YtmpoffijcfaalaaGreat
namespace Go.Proofs.YtmpoffijcfaalaaGreat.Pen
open Go.Eng Go.YtmpoffijcfaalaaGreat
section
variable (pv bv sv : Value) (p : Nat) (bs : List UInt8) (s : Rd) (b T : Nat) (cells : List Value) (q : List Value × Rd) (offs : List Nat) (o : Nat)
theorem int_q (hp : q.2.pos ≤ bs.length) (hz : zeroI q.1 offs) (hn : offs.Nodup) : Fnc Pg 261 [pv, sv] [bl b T q.1, rdr p bv q.2] [⟨pv, (⟨⟨p⟩⟩ : Pt Tpen)⟩, ⟨bv, bs⟩, ⟨sv, ptrs b offs⟩] (fun (_ : Unit) _ => True) (fun _ _ => [bl b T (intsP bs offs q).1, rdr p bv (intsP bs offs q).2]) (fun _ _ => []) :=
 int_p pv bv sv p bs q.2 b T q.1 offs hp hz hn
theorem text_q (hp : q.2.pos ≤ bs.length) (hz : zeroS q.1 offs) (hn : offs.Nodup) : Fnc Pg 263 [pv, sv] [bl b T q.1, rdr p bv q.2] [⟨pv, (⟨⟨p⟩⟩ : Pt Tpen)⟩, ⟨bv, bs⟩, ⟨sv, ptrs b offs⟩] (fun (_ : Unit) _ => True) (fun _ _ => [bl b T (textsP bs offs q).1, rdr p bv (textsP bs offs q).2]) (fun _ _ => []) :=
 text_p pv bv sv p bs q.2 b T q.1 offs hp hz hn
theorem errno_q (hp : q.2.pos ≤ bs.length) (hz : q.1[o]? = some (.int .i64 0)) : Fnc Pg 304 [pv, .pointer (some ⟨b, o, none⟩)] [bl b T q.1, rdr p bv q.2] [⟨pv, (⟨⟨p⟩⟩ : Pt Tpen)⟩, ⟨bv, bs⟩] (fun (_ : Unit) _ => True) (fun _ _ => [bl b T (intsP bs [o] q).1, rdr p bv (intsP bs [o] q).2]) (fun _ _ => []) :=
 errno_p pv bv p bs q.2 b T q.1 o hp hz
theorem flag_q (hp : q.2.pos ≤ bs.length) (hz : q.1[o]? = some (.bool false)) : Fnc Pg 262 [pv, .pointer (some ⟨b, o, none⟩)] [bl b T q.1, rdr p bv q.2] [⟨pv, (⟨⟨p⟩⟩ : Pt Tpen)⟩, ⟨bv, bs⟩] (fun (_ : Unit) _ => True) (fun _ _ => [bl b T (flagP bs o q).1, rdr p bv (flagP bs o q).2]) (fun _ _ => []) :=
 flag_p pv bv p bs q.2 b T q.1 o hp hz
theorem bytes_q (u : Value) (hp : q.2.pos ≤ bs.length) (hz : q.1[o]? = some u) : Fnc Pg 275 [pv, .pointer (some ⟨b, o, none⟩)] [bl b T q.1, rdr p bv q.2] [⟨pv, (⟨⟨p⟩⟩ : Pt Tpen)⟩, ⟨bv, bs⟩, ⟨u, ([] : List UInt8)⟩] (fun (_ : Value) _ => True) (fun y _ => [bl b T (setL o y (rdText bs 65535) q).1, rdr p bv (setL o y (rdText bs 65535) q).2]) (fun y _ => [⟨y, (rdText bs 65535 q.2).1⟩]) :=
 bytes_p pv bv p bs q.2 b T q.1 o u hp hz
theorem op_p (hp : s.pos ≤ bs.length) (hz0 : cells[o]? = some (.int .i64 0)) (hz1 : cells[o + 1]? = some (.string ByteArray.empty)) (hz2 : cells[o + 2]? = some (.string ByteArray.empty)) (hz3 : cells[o + 3]? = some (.int .i64 0)) (hz4 : cells[o + 4]? = some (.int .i64 0)) (hz5 : cells[o + 5]? = some (.int .i64 0)) : Fnc Pg 305 [pv, .pointer (some ⟨b, o, none⟩)] [bl b T cells, rdr p bv s] [⟨pv, (⟨⟨p⟩⟩ : Pt Tpen)⟩, ⟨bv, bs⟩] (fun (_ : Unit) _ => True) (fun _ _ => [bl b T (opPr bs o (cells, s)).1, rdr p bv (opPr bs o (cells, s)).2]) (fun _ _ => []) := by
 exact Fnc.proof Tryz.func305 G 31 G G fun X w => qg<|ru 4 G<|bs1 (xs := [.tmp 7]) (us := [.pointer (some ⟨b, o, none⟩)]) (E := 243) (bytes := 8) (n := 1) G (by exact app_297) G G G G G G fun b8 => frS (ptrs b [o]) ([o].map fun o => [.pointer (some ⟨b, o, none⟩)]) G (fun S w h => ptrs_rd S w _) (Nat.le_of_ble_eq_true G)<|cfN 2 (int_q pv bv _ p bs b T (cells, s) [o] hp (by intro x hx; simp only [List.mem_cons, List.not_mem_nil, or_false] at hx; rcases hx with rfl <;> first | assumption | (repeat first | rw [intsP_at (by simp only [List.mem_cons, List.not_mem_nil, or_false]; omega)] | rw [textsP_at (by simp only [List.mem_cons, List.not_mem_nil, or_false]; omega)]); assumption) (by simp)) (Kg G) G G (Si [1,2,0] G) G fun _ _ _ => nl<|nx<|sq<|rgP b [(o + 1),(o + 2)] [2,3,0] (fun u => text_q pv bv u p bs b T (intsP bs [o] (cells, s)) [(o + 1), (o + 2)] (intsP_pos hp) (by intro x hx; simp only [List.mem_cons, List.not_mem_nil, or_false] at hx; rcases hx with rfl | rfl <;> first | assumption | (repeat first | rw [intsP_at (by simp only [List.mem_cons, List.not_mem_nil, or_false]; omega)] | rw [textsP_at (by simp only [List.mem_cons, List.not_mem_nil, or_false]; omega)]); assumption) (by simp)) (Kg G) app_348 G G (by kernel_rfl) (fun _ => G)<|nx<|rgP b [(o + 3),(o + 4),(o + 5)] [2,3,0] (fun u => int_q pv bv u p bs b T (textsP bs [(o + 1), (o + 2)] (intsP bs [o] (cells, s))) [(o + 3), (o + 4), (o + 5)] (textsP_pos (intsP_pos hp)) (by intro x hx; simp only [List.mem_cons, List.not_mem_nil, or_false] at hx; rcases hx with rfl | rfl | rfl <;> first | assumption | (repeat first | rw [intsP_at (by simp only [List.mem_cons, List.not_mem_nil, or_false]; omega)] | rw [textsP_at (by simp only [List.mem_cons, List.not_mem_nil, or_false]; omega)]); assumption) (by simp)) (Kg G) app_297 G G (by kernel_rfl) (fun _ => G)<|fR0N () G trivial G Sn
theorem plan_p (hp : s.pos ≤ bs.length) (hz0 : cells[o]? = some (.int .i64 0)) (hz1 : cells[o + 1]? = some (.int .i64 0)) (hz2 : cells[o + 2]? = some (.int .i64 0)) (hz3 : cells[o + 3]? = some (.string ByteArray.empty)) (hz4 : cells[o + 4]? = some (.string ByteArray.empty)) (hz5 : cells[o + 5]? = some (.int .i64 0)) (hz6 : cells[o + 6]? = some (.int .i64 0)) : Fnc Pg 274 [pv, .pointer (some ⟨b, o, none⟩)] [bl b T cells, rdr p bv s] [⟨pv, (⟨⟨p⟩⟩ : Pt Tpen)⟩, ⟨bv, bs⟩] (fun (_ : Unit) _ => True) (fun _ _ => [bl b T (planPr bs o (cells, s)).1, rdr p bv (planPr bs o (cells, s)).2]) (fun _ _ => []) := by
 exact Fnc.proof Tryz.func274 G 34 G G fun X w => sq<|rgP b [o,(o + 1),(o + 2)] [1,2,0] (fun u => int_q pv bv u p bs b T (cells, s) [o, (o + 1), (o + 2)] hp (by intro x hx; simp only [List.mem_cons, List.not_mem_nil, or_false] at hx; rcases hx with rfl | rfl | rfl <;> first | assumption | (repeat first | rw [intsP_at (by simp only [List.mem_cons, List.not_mem_nil, or_false]; omega)] | rw [textsP_at (by simp only [List.mem_cons, List.not_mem_nil, or_false]; omega)]); assumption) (by simp)) (Kg G) app_297 G G (by kernel_rfl) (fun _ => G)<|nx<|sq<|rgP b [(o + 3),(o + 4)] [1,2,0] (fun u => text_q pv bv u p bs b T (intsP bs [o, (o + 1), (o + 2)] (cells, s)) [(o + 3), (o + 4)] (intsP_pos hp) (by intro x hx; simp only [List.mem_cons, List.not_mem_nil, or_false] at hx; rcases hx with rfl | rfl <;> first | assumption | (repeat first | rw [intsP_at (by simp only [List.mem_cons, List.not_mem_nil, or_false]; omega)] | rw [textsP_at (by simp only [List.mem_cons, List.not_mem_nil, or_false]; omega)]); assumption) (by simp)) (Kg G) app_348 G G (by kernel_rfl) (fun _ => G)<|nx<|rgP b [(o + 5),(o + 6)] [1,2,0] (fun u => int_q pv bv u p bs b T (textsP bs [(o + 3), (o + 4)] (intsP bs [o, (o + 1), (o + 2)] (cells, s))) [(o + 5), (o + 6)] (textsP_pos (intsP_pos hp)) (by intro x hx; simp only [List.mem_cons, List.not_mem_nil, or_false] at hx; rcases hx with rfl | rfl <;> first | assumption | (repeat first | rw [intsP_at (by simp only [List.mem_cons, List.not_mem_nil, or_false]; omega)] | rw [textsP_at (by simp only [List.mem_cons, List.not_mem_nil, or_false]; omega)]); assumption) (by simp)) (Kg G) app_297 G G (by kernel_rfl) (fun _ => G)<|fR0N () G trivial G Sn
theorem op_q (hp : q.2.pos ≤ bs.length) (hz0 : q.1[o]? = some (.int .i64 0)) (hz1 : q.1[o + 1]? = some (.string ByteArray.empty)) (hz2 : q.1[o + 2]? = some (.string ByteArray.empty)) (hz3 : q.1[o + 3]? = some (.int .i64 0)) (hz4 : q.1[o + 4]? = some (.int .i64 0)) (hz5 : q.1[o + 5]? = some (.int .i64 0)) : Fnc Pg 305 [pv, .pointer (some ⟨b, o, none⟩)] [bl b T q.1, rdr p bv q.2] [⟨pv, (⟨⟨p⟩⟩ : Pt Tpen)⟩, ⟨bv, bs⟩] (fun (_ : Unit) _ => True) (fun _ _ => [bl b T (opPr bs o q).1, rdr p bv (opPr bs o q).2]) (fun _ _ => []) :=
 op_p pv bv p bs q.2 b T q.1 o hp hz0 hz1 hz2 hz3 hz4 hz5
theorem plan_q (hp : q.2.pos ≤ bs.length) (hz0 : q.1[o]? = some (.int .i64 0)) (hz1 : q.1[o + 1]? = some (.int .i64 0)) (hz2 : q.1[o + 2]? = some (.int .i64 0)) (hz3 : q.1[o + 3]? = some (.string ByteArray.empty)) (hz4 : q.1[o + 4]? = some (.string ByteArray.empty)) (hz5 : q.1[o + 5]? = some (.int .i64 0)) (hz6 : q.1[o + 6]? = some (.int .i64 0)) : Fnc Pg 274 [pv, .pointer (some ⟨b, o, none⟩)] [bl b T q.1, rdr p bv q.2] [⟨pv, (⟨⟨p⟩⟩ : Pt Tpen)⟩, ⟨bv, bs⟩] (fun (_ : Unit) _ => True) (fun _ _ => [bl b T (planPr bs o q).1, rdr p bv (planPr bs o q).2]) (fun _ _ => []) :=
 plan_p pv bv p bs q.2 b T q.1 o hp hz0 hz1 hz2 hz3 hz4 hz5 hz6
theorem holder_e (hp : s.pos ≤ bs.length) : Fnc Pg 303 [pv, .pointer (some ⟨b, 0, none⟩)] [bl b 165 zv0, rdr p bv s] [⟨pv, (⟨⟨p⟩⟩ : Pt Tpen)⟩, ⟨bv, bs⟩] (fun (_ : Unit) _ => True) (fun _ _ => [bl b 165 (cHolder (gdHolder bs s).1), rdr p bv (gdHolder bs s).2]) (fun _ _ => []) := by
 exact Fnc.proof Tryz.func303 G 19 G G fun X w => rgP b [0,1,2,3] [1,2,0] (fun u => int_q pv bv u p bs b 165 (zv0, s) [0, 1, 2, 3] hp (zI G) (by decide)) (Kg G) app_297 G G (by kernel_rfl) (fun _ => G)<|fR0N () G trivial (by simp only [gdHolder_eq, List.cons_append, List.nil_append] <;> rfl) Sn
theorem end_e (hp : s.pos ≤ bs.length) : Fnc Pg 273 [pv, .pointer (some ⟨b, 0, none⟩)] [bl b 129 zv1, rdr p bv s] [⟨pv, (⟨⟨p⟩⟩ : Pt Tpen)⟩, ⟨bv, bs⟩] (fun (_ : Unit) _ => True) (fun _ _ => [bl b 129 (cEnd (gdEnd bs s).1), rdr p bv (gdEnd bs s).2]) (fun _ _ => []) := by
 exact Fnc.proof Tryz.func273 G 13 G G fun X w => rgP b [0,1] [1,2,0] (fun u => int_q pv bv u p bs b 129 (zv1, s) [0, 1] hp (zI G) (by decide)) (Kg G) app_297 G G (by kernel_rfl) (fun _ => G)<|fR0N () G trivial (by simp only [gdEnd_eq, List.cons_append, List.nil_append] <;> rfl) Sn
theorem deal_e (hp : s.pos ≤ bs.length) : Fnc Pg 271 [pv, .pointer (some ⟨b, 0, none⟩)] [bl b 126 zv2, rdr p bv s] [⟨pv, (⟨⟨p⟩⟩ : Pt Tpen)⟩, ⟨bv, bs⟩] (fun (_ : Unit) _ => True) (fun _ _ => [bl b 126 (cDeal (gdDeal bs s).1), rdr p bv (gdDeal bs s).2]) (fun _ _ => []) := by
 exact Fnc.proof Tryz.func271 G 37 G G fun X w => sq<|rgP b [0,1] [1,2,0] (fun u => int_q pv bv u p bs b 126 (zv2, s) [0, 1] hp (zI G) (by decide)) (Kg G) app_297 G G (by kernel_rfl) (fun _ => G)<|nx<|sq<|rgP b [2,3] [1,2,0] (fun u => text_q pv bv u p bs b 126 (intsP bs [0, 1] (zv2, s)) [2, 3] (intsP_pos hp) (zS G) (by decide)) (Kg G) app_348 G G (by kernel_rfl) (fun _ => G)<|nx<|rgP b [4,5,6,7] [1,2,0] (fun u => int_q pv bv u p bs b 126 (textsP bs [2, 3] (intsP bs [0, 1] (zv2, s))) [4, 5, 6, 7] (textsP_pos (intsP_pos hp)) (zI G) (by decide)) (Kg G) app_297 G G (by kernel_rfl) (fun _ => G)<|fR0N () G trivial (by simp only [gdDeal_eq, List.cons_append, List.nil_append] <;> rfl) Sn
theorem mark_e (hp : s.pos ≤ bs.length) : Fnc Pg 267 [pv, .pointer (some ⟨b, 0, none⟩)] [bl b 122 zv3, rdr p bv s] [⟨pv, (⟨⟨p⟩⟩ : Pt Tpen)⟩, ⟨bv, bs⟩] (fun (_ : Unit) _ => True) (fun _ _ => [bl b 122 (cMark (gdMark bs s).1), rdr p bv (gdMark bs s).2]) (fun _ _ => []) := by
 exact Fnc.proof Tryz.func267 G 39 G G fun X w => sq<|rgP b [0,1] [1,2,0] (fun u => int_q pv bv u p bs b 122 (zv3, s) [0, 1] hp (zI G) (by decide)) (Kg G) app_297 G G (by kernel_rfl) (fun _ => G)<|nx<|qg<|ru 4 G<|cfN 2 (flag_q pv bv p bs b 122 (intsP bs [0, 1] (zv3, s)) 2 (intsP_pos hp) G) (Kg G) G G (Si [0,1] G) G fun _ _ _ => nl<|nx<|qg<|ru 5 G<|cfN 2 (errno_q pv bv p bs b 122 (flagP bs 2 (intsP bs [0, 1] (zv3, s))) 3 (flagP_pos (intsP_pos hp)) G) (Kg G) G G (Si [0,1] G) G fun _ _ _ => nl<|nx<|rgP b [4,5,6] [1,2,0] (fun u => int_q pv bv u p bs b 122 (intsP bs [3] (flagP bs 2 (intsP bs [0, 1] (zv3, s)))) [4, 5, 6] (rdInt_pos (flagP_pos (intsP_pos hp))) (zI G) (by decide)) (Kg G) app_297 G G (by kernel_rfl) (fun _ => G)<|fR0N () G trivial (by simp only [gdMark_eq, List.cons_append, List.nil_append] <;> rfl) Sn
theorem wait_e (hp : s.pos ≤ bs.length) : Fnc Pg 269 [pv, .pointer (some ⟨b, 0, none⟩)] [bl b 108 zv4, rdr p bv s] [⟨pv, (⟨⟨p⟩⟩ : Pt Tpen)⟩, ⟨bv, bs⟩] (fun (_ : Unit) _ => True) (fun _ _ => [bl b 108 (cWait (gdWait bs s).1), rdr p bv (gdWait bs s).2]) (fun _ _ => []) := by
 exact Fnc.proof Tryz.func269 G 27 G G fun X w => sq<|rgP b [0,1,2,3,4] [1,2,0] (fun u => int_q pv bv u p bs b 108 (zv4, s) [0, 1, 2, 3, 4] hp (zI G) (by decide)) (Kg G) app_297 G G (by kernel_rfl) (fun _ => G)<|nx<|rg<|ru 4 G<|cfN 2 (op_q pv bv p bs b 108 (intsP bs [0, 1, 2, 3, 4] (zv4, s)) 5 (intsP_pos hp) G G G G G G) (Kg G) G G (Si [0,1] G) G fun _ _ _ => nl<|fR0N () G trivial (by simp only [gdWait_eq, List.cons_append, List.nil_append] <;> rfl) Sn
end
section
attribute [local irreducible] gdSpan gdLock gdHolder gdAnswer gdOp gdPlan gdEnd gdMark gdDeal gdWait gdAccount gdState rdInt rdText rdFlag rdCount
variable (pv bv : Value) (p : Nat) (bs : List UInt8) (s0 : Rd) (b T : Nat) (q : List Value × Rd) (cells : List Value) (o : Nat)
theorem listHolder_p (hp : s0.pos ≤ bs.length) (hz : cells[o]? = some nS) : Fnc Pg 302 [pv, .pointer (some ⟨b, o, none⟩), .func (.func 303) #[pv] #[]] [bl b T cells, rdr p bv s0] [⟨pv, (⟨⟨p⟩⟩ : Pt Tpen)⟩, ⟨bv, bs⟩] (fun (_ : Value) _ => True) (fun y _ => [bl b T (cells.set o y), rdr p bv (rdLs bs (gdHolder bs) s0).2]) (fun y _ => [⟨y, (rdLs bs (gdHolder bs) s0).1⟩]) := by
 refine Fnc.proof Tryz.func302 G 80 G G fun X w => ?_
 obtain ⟨c0, rfl⟩ : ∃ c0 : List Value, cells = c0.set o nS := ⟨cells, (set_same hz).symm⟩
 have ho : o < c0.length := by have := lt_of_at hz; rwa [List.length_set] at this
 have hNle := rdCount_le' bs s0
 refine sq<|qg<|mv G G<|cf1 1 (stopped_c pv bv p s0) (Kg G) G G (Sc 0 G Sn) G fun _ v11 h11 => ?_
 have h11 : v11 = .bool (stopB s0) := h11
 subst h11
 refine nl<|nx<|cdB G (fun h11 => ?_) (fun h11 => ?_)
 ·
  have hf := (stopB_iff s0).1 h11
  exact emC (α := THolder)<|rt<|tR<|fR0 nS G trivial (by simp only [rdLs_stop hf, List.set_set, List.cons_append, List.nil_append]; rfl) (by rw [rdLs_stop hf]; exact (SubD.cons 0 rfl SubD.nil))
 ·
  refine sk<|nx<|sq<|qg<|mv G G<|ncP 0 G G G<|faP (α := Tpen) (β := RawP) 0 (fun x : Tpen => x.fIn) G G (Fg G) ppen_0 G fun v14 => ldV 0 G G (Og G) G fun w15 => eqP Tryz.underlying311 G G G<|nl<|nx<|cdF G<|sk<|nx<|qg<|mv G G<|ncP 1 G G G<|faP (α := Tpen) (β := RawP) 1 (fun x : Tpen => x.fIn) G G (Fg G) ppen_0 G fun v57 => ldV 0 G G (Og G) G fun w58 => cf1 1 (Rdr.count_r p bv bs s0 1024 inI hp) (Kg G) G G (Sc 3 G Sn) G fun _ v59 h59 => ?_
  have h59 : v59 = .int .i64 ((rdCount bs 1024 s0).1 : Int) := h59
  subst h59
  refine ru 1 G<|nl<|nx<|sa 1 G<|bk<|rwC THolder 165<|lpE (σ := Nat × Value × List THolder × Rd) [(0, _), (1, _), (2, _), (7, _)] _ (fun i C => (8, .int .i64 (i.1 : Int)) :: C) (fun i => [row 165 i.2.1 i.2.2.1, bl b T (c0.set o i.2.1), rdr p bv i.2.2.2, fz X w]) (fun _ Dc => Dc) (fun i => i.1 ≤ (rdCount bs 1024 s0).1 ∧ i.2.2.1.length = i.1 ∧ i.2.2.2.pos ≤ bs.length ∧ rdLs bs (gdHolder bs) s0 = (i.2.2.1 ++ (rdMany (gdHolder bs) ((rdCount bs 1024 s0).1 - i.1) i.2.2.2).1, (rdMany (gdHolder bs) ((rdCount bs 1024 s0).1 - i.1) i.2.2.2).2)) (fun i => (rdCount bs 1024 s0).1 - i.1) (0, .slice none 0 0, [], (rdCount bs 1024 s0).2) (Gs G) (Sc 2 G (Sc 3 G Sn)) ⟨Nat.zero_le _, G, rdCount_pos hp, G⟩ (Gs G) G (Sc 2 G (Sc 3 G Sn)) ?_
  rintro ⟨i, rv, acc, s⟩ ⟨hi, hl, hs, he⟩
  simp only at hi hl hs he
  refine sq<|qg<|ru 4 G ?_
  refine jy 63 4 [0,1,2,7,8] G G (fun h63 K67 => by
   have p63 := of_decide_eq_true h63
   refine ru 1 G<|gY G G G<|cf1 2 (stopped_c pv bv p s) (Kg G) G G (Sc 0 G Sn) G fun _ v65 h65 => ?_
   have h65 : v65 = .bool (stopB s) := h65
   subst h65
   exact ru 2 G<|K67 G Sr) ?_
  refine nl<|nx<|cdB G (fun h67 => ?_) (fun h67 => ?_)
  ·
   have q67 := h67
   simp at q67
   obtain ⟨q1, q2⟩ := q67
   have hf := (stopB_not s).1 q2
   have hl1 : [(gdHolder bs s).1].length = 1 := rfl
   refine sk<|nx<|sq<|bk<|qg<|al zero_165 G fun b9 => nl<|nx<|qg<|mv G G<|mtL 3 G<|mtL 1 G<|cfNc 2 (holder_e pv bv p bs s b9 hs) (Kg G) G G G G (Si [0,1] G) G fun _ _ _ => ?_
   refine nl<|nx<|rgZ (L := [bl b9 165 (cHolder (gdHolder bs s).1), rdr p bv (gdHolder bs s).2, row 165 rv acc, bl b T (c0.set o rv), fz X w]) [(4,.ld 0)] [(3,⟨some (rv),fun _ => [],false⟩),(5,⟨none,fun u => [⟨u, [(gdHolder bs s).1]⟩],false⟩),(6,⟨none,fun _ => [],true⟩),(8,⟨none,fun _ => [],true⟩)] [] [] [(6,fun L zz => rpE 2 (row 165 (zz 6) (acc ++ [(gdHolder bs s).1])) L),(8,fun L zz => rpE 1 (bl b T ((c0.set o rv).set o (zz 6))) L)] (fun _ => G) (fun _ => by kernel_rfl) ⟨fun V De _=>aP1 (ldB 3 G G (Og G) (set_at ho) G<|oh G G G G),fun V De _=>aP1 (bsM G app_66 G G G G fun b77 => frS1 (α := THolder) (gdHolder bs s).1 (fun S w h => ⟨(), G, by simp, gdHolder_wf bs s⟩)<|nl (odH G G G trivial (Sc 0 G Sn) (SubD.tail Sr))),fun V De _=>aP1 (ap 2 0 G G G G app_66 (by omega) (by omega) G fun v78 => nl (odH G G G trivial Sn (SubD.tail Sr))),fun V De _=>aP1 (stR 3 2 G G G G (Og G) (by rw [List.length_set]; exact ho)<|nl (od0H G G Sr)),trivial⟩ fun V _ => wD [1,2] G<|?_
   generalize V 6 = v0
   refine bN<|nx<|rg<|mv G G<|adI G G inI G<|ru 1 G<|nl<|dpQ<|mtQ 2 G<|mtQ 2 G ?_
   exact ag ((i + 1, v0, acc ++ [(gdHolder bs s).1], (gdHolder bs s).2) : Nat × Value × List THolder × Rd) ⟨by omega, by simp [hl], gdHolder_pos hs, rdMany_step (by omega) hf he⟩ (by show _ - _ < _ - _; omega) (Gs G) (by simp only [List.set_set]; rfl) (Si [0,1] G)
  ·
   have q67 := h67
   simp at q67
   have hN : rdMany (gdHolder bs) ((rdCount bs 1024 s0).1 - i) s = ([], s) := by
    by_cases hf : s.fault = 0
    ·
     by_cases hlt : i < (rdCount bs 1024 s0).1
     · exact absurd hf ((stopB_iff s).1 (q67 (by omega)))
     ·
      have e : (rdCount bs 1024 s0).1 - i = 0 := by omega
      rw [e]
      rfl
    · exact rdMany_stop hf _
   rw [hN] at he
   simp only [List.append_nil] at he
   exact ex<|tE<|tE<|bE<|frRQ<|fR0N rv G trivial (by simp only [he, List.set_set, List.cons_append, List.nil_append] <;> rfl) (by simp only [he]; exact (SubD.cons 0 rfl SubD.nil))
theorem listHolder_q (hp : q.2.pos ≤ bs.length) (hz : q.1[o]? = some nS) : Fnc Pg 302 [pv, .pointer (some ⟨b, o, none⟩), .func (.func 303) #[pv] #[]] [bl b T q.1, rdr p bv q.2] [⟨pv, (⟨⟨p⟩⟩ : Pt Tpen)⟩, ⟨bv, bs⟩] (fun (_ : Value) _ => True) (fun y _ => [bl b T (setL o y (rdLs bs (gdHolder bs)) q).1, rdr p bv (setL o y (rdLs bs (gdHolder bs)) q).2]) (fun y _ => [⟨y, (rdLs bs (gdHolder bs) q.2).1⟩]) :=
 listHolder_p pv bv p bs q.2 b T q.1 o hp hz
theorem account_e (s : Rd) (b : Nat) (hp : s.pos ≤ bs.length) : Fnc Pg 265 [pv, .pointer (some ⟨b, 0, none⟩)] [bl b 70 zv5, rdr p bv s] [⟨pv, (⟨⟨p⟩⟩ : Pt Tpen)⟩, ⟨bv, bs⟩] (fun (_ : Value) _ => True) (fun y _ => [bl b 70 (cAccount (gdAccount bs s).1 y), rdr p bv (gdAccount bs s).2]) (fun y _ => [⟨y, (gdAccount bs s).1.fHolders⟩]) := by
 exact Fnc.proof Tryz.func265 G 53 G G fun X w => qg<|ru 4 G<|bs1 (xs := [.tmp 7]) (us := [.pointer (some ⟨b, 0, none⟩)]) (E := 247) (bytes := 8) (n := 1) G (by exact app_348) G G G G G G fun b8 => frS (ptrs b [0]) ([0].map fun o => [.pointer (some ⟨b, o, none⟩)]) G (fun S w h => ptrs_rd S w _) (Nat.le_of_ble_eq_true G)<|cfN 2 (text_q pv bv _ p bs b 70 (zv5, s) [0] hp (by intro x hx; simp only [List.mem_cons, List.not_mem_nil, or_false] at hx; rcases hx with rfl <;> rfl) (by decide)) (Kg G) G G (Si [1,2,0] G) G fun _ _ _ => nl<|nx<|sq<|rgP b [1,2,3,4] [2,3,0] (fun u => int_q pv bv u p bs b 70 (textsP bs [0] (zv5, s)) [1, 2, 3, 4] (textsP_pos hp) (zI G) (by decide)) (Kg G) app_297 G G (by kernel_rfl) (fun _ => G)<|nx<|qg<|ru 5 G<|mf1 (ys := [.tmp 31]) (xs := []) G G G<|cfN 2 (listHolder_q pv bv p bs b 70 (intsP bs [1, 2, 3, 4] (textsP bs [0] (zv5, s))) 5 (intsP_pos (textsP_pos hp)) G) (Kg G) G G (Si [1,2] G) G fun y33 _ _ => nl<|nx<|rgP b [6,7,8,9] [3,4,0] (fun u => int_q pv bv u p bs b 70 (setL 5 y33 (rdLs bs (gdHolder bs)) (intsP bs [1, 2, 3, 4] (textsP bs [0] (zv5, s)))) [6, 7, 8, 9] (setL_pos (rdLs_pos (fun _ hh => gdHolder_pos hh) (intsP_pos (textsP_pos hp)))) (zI G) (by decide)) (Kg G) app_297 G G (by kernel_rfl) (fun _ => G)<|fR0N y33 G trivial (by simp only [gdAccount_eq, List.cons_append, List.nil_append] <;> rfl) (by rw [← gdAccount_l0 bs s y33]; exact (SubD.cons 0 rfl SubD.nil))
theorem listAccount_p (hp : s0.pos ≤ bs.length) (hz : cells[o]? = some nS) : Fnc Pg 264 [pv, .pointer (some ⟨b, o, none⟩), .func (.func 265) #[pv] #[]] [bl b T cells, rdr p bv s0] [⟨pv, (⟨⟨p⟩⟩ : Pt Tpen)⟩, ⟨bv, bs⟩] (fun (_ : Value) _ => True) (fun y _ => [bl b T (cells.set o y), rdr p bv (rdLs bs (gdAccount bs) s0).2]) (fun y _ => [⟨y, (rdLs bs (gdAccount bs) s0).1⟩]) := by
 refine Fnc.proof Tryz.func264 G 80 G G fun X w => ?_
 obtain ⟨c0, rfl⟩ : ∃ c0 : List Value, cells = c0.set o nS := ⟨cells, (set_same hz).symm⟩
 have ho : o < c0.length := by have := lt_of_at hz; rwa [List.length_set] at this
 have hNle := rdCount_le' bs s0
 refine sq<|qg<|mv G G<|cf1 1 (stopped_c pv bv p s0) (Kg G) G G (Sc 0 G Sn) G fun _ v11 h11 => ?_
 have h11 : v11 = .bool (stopB s0) := h11
 subst h11
 refine nl<|nx<|cdB G (fun h11 => ?_) (fun h11 => ?_)
 ·
  have hf := (stopB_iff s0).1 h11
  exact emC (α := TAccount)<|rt<|tR<|fR0 nS G trivial (by simp only [rdLs_stop hf, List.set_set, List.cons_append, List.nil_append]; rfl) (by rw [rdLs_stop hf]; exact (SubD.cons 0 rfl SubD.nil))
 ·
  refine sk<|nx<|sq<|qg<|mv G G<|ncP 0 G G G<|faP (α := Tpen) (β := RawP) 0 (fun x : Tpen => x.fIn) G G (Fg G) ppen_0 G fun v14 => ldV 0 G G (Og G) G fun w15 => eqP Tryz.underlying311 G G G<|nl<|nx<|cdF G<|sk<|nx<|qg<|mv G G<|ncP 1 G G G<|faP (α := Tpen) (β := RawP) 1 (fun x : Tpen => x.fIn) G G (Fg G) ppen_0 G fun v57 => ldV 0 G G (Og G) G fun w58 => cf1 1 (Rdr.count_r p bv bs s0 1024 inI hp) (Kg G) G G (Sc 3 G Sn) G fun _ v59 h59 => ?_
  have h59 : v59 = .int .i64 ((rdCount bs 1024 s0).1 : Int) := h59
  subst h59
  refine ru 1 G<|nl<|nx<|sa 1 G<|bk<|rwC TAccount 70<|lpE (σ := Nat × Value × List TAccount × Rd) [(0, _), (1, _), (2, _), (7, _)] _ (fun i C => (8, .int .i64 (i.1 : Int)) :: C) (fun i => [row 70 i.2.1 i.2.2.1, bl b T (c0.set o i.2.1), rdr p bv i.2.2.2, fz X w]) (fun _ Dc => Dc) (fun i => i.1 ≤ (rdCount bs 1024 s0).1 ∧ i.2.2.1.length = i.1 ∧ i.2.2.2.pos ≤ bs.length ∧ rdLs bs (gdAccount bs) s0 = (i.2.2.1 ++ (rdMany (gdAccount bs) ((rdCount bs 1024 s0).1 - i.1) i.2.2.2).1, (rdMany (gdAccount bs) ((rdCount bs 1024 s0).1 - i.1) i.2.2.2).2)) (fun i => (rdCount bs 1024 s0).1 - i.1) (0, .slice none 0 0, [], (rdCount bs 1024 s0).2) (Gs G) (Sc 2 G (Sc 3 G Sn)) ⟨Nat.zero_le _, G, rdCount_pos hp, G⟩ (Gs G) G (Sc 2 G (Sc 3 G Sn)) ?_
  rintro ⟨i, rv, acc, s⟩ ⟨hi, hl, hs, he⟩
  simp only at hi hl hs he
  refine sq<|qg<|ru 4 G ?_
  refine jy 63 4 [0,1,2,7,8] G G (fun h63 K67 => by
   have p63 := of_decide_eq_true h63
   refine ru 1 G<|gY G G G<|cf1 2 (stopped_c pv bv p s) (Kg G) G G (Sc 0 G Sn) G fun _ v65 h65 => ?_
   have h65 : v65 = .bool (stopB s) := h65
   subst h65
   exact ru 2 G<|K67 G Sr) ?_
  refine nl<|nx<|cdB G (fun h67 => ?_) (fun h67 => ?_)
  ·
   have q67 := h67
   simp at q67
   obtain ⟨q1, q2⟩ := q67
   have hf := (stopB_not s).1 q2
   have hl1 : [(gdAccount bs s).1].length = 1 := rfl
   refine sk<|nx<|sq<|bk<|qg<|al zero_70 G fun b9 => nl<|nx<|qg<|mv G G<|mtL 3 G<|mtL 1 G<|cfNc 2 (account_e pv bv p bs s b9 hs) (Kg G) G G G G (Si [0,1] G) G fun y9 _ _ => ?_
   refine nl<|nx<|rgZ (L := [bl b9 70 (cAccount (gdAccount bs s).1 y9), rdr p bv (gdAccount bs s).2, row 70 rv acc, bl b T (c0.set o rv), fz X w]) [(4,.ld 0)] [(3,⟨some (rv),fun _ => [],false⟩),(5,⟨none,fun u => [⟨u, [(gdAccount bs s).1]⟩],false⟩),(6,⟨none,fun _ => [],true⟩),(8,⟨none,fun _ => [],true⟩)] [] [] [(6,fun L zz => rpE 2 (row 70 (zz 6) (acc ++ [(gdAccount bs s).1])) L),(8,fun L zz => rpE 1 (bl b T ((c0.set o rv).set o (zz 6))) L)] (fun _ => G) (fun _ => by kernel_rfl) ?_ fun V _ => ?_
   ·
    refine ⟨fun V De _=>aP1 (ldB 3 G G (Og G) (set_at ho) G<|oh G G G G),?_⟩
    refine ⟨fun V De _=>aP1 ?_,?_⟩
    ·
     refine bsM G app_50 G G G G fun b77 => ?_
     refine frS1 (α := TAccount) (gdAccount bs s).1 (fun S w h => ⟨y9, G, fun t ht => by
       simp only [List.mem_cons, List.not_mem_nil, or_false] at ht
       subst ht
       exact h _ (List.mem_of_getElem? (i := 0) G), gdAccount_wf bs s⟩) ?_
     exact nl (odH G G G trivial (Sc 0 G Sn) (SubD.tail Sr))
    exact ⟨fun V De _=>aP1 (ap 2 0 G G G G app_50 (by omega) (by omega) G fun v78 => nl (odH G G G trivial Sn (SubD.tail Sr))),fun V De _=>aP1 (stR 3 2 G G G G (Og G) (by rw [List.length_set]; exact ho)<|nl (od0H G G Sr)),trivial⟩
   ·
    refine wD [1,2,3] G<|?_
    generalize V 6 = v0
    refine bN<|nx<|rg<|mv G G<|adI G G inI G<|ru 1 G<|nl<|dpQ<|mtQ 2 G<|mtQ 2 G ?_
    exact ag ((i + 1, v0, acc ++ [(gdAccount bs s).1], (gdAccount bs s).2) : Nat × Value × List TAccount × Rd) ⟨by omega, by simp [hl], gdAccount_pos hs, rdMany_step (by omega) hf he⟩ (by show _ - _ < _ - _; omega) (Gs G) (by simp only [List.set_set]; rfl) (Si [1,2] G)
  ·
   have q67 := h67
   simp at q67
   have hN : rdMany (gdAccount bs) ((rdCount bs 1024 s0).1 - i) s = ([], s) := by
    by_cases hf : s.fault = 0
    ·
     by_cases hlt : i < (rdCount bs 1024 s0).1
     · exact absurd hf ((stopB_iff s).1 (q67 (by omega)))
     ·
      have e : (rdCount bs 1024 s0).1 - i = 0 := by omega
      rw [e]
      rfl
    · exact rdMany_stop hf _
   rw [hN] at he
   simp only [List.append_nil] at he
   exact ex<|tE<|tE<|bE<|frRQ<|fR0N rv G trivial (by simp only [he, List.set_set, List.cons_append, List.nil_append] <;> rfl) (by simp only [he]; exact (SubD.cons 0 rfl SubD.nil))
theorem listAccount_q (hp : q.2.pos ≤ bs.length) (hz : q.1[o]? = some nS) : Fnc Pg 264 [pv, .pointer (some ⟨b, o, none⟩), .func (.func 265) #[pv] #[]] [bl b T q.1, rdr p bv q.2] [⟨pv, (⟨⟨p⟩⟩ : Pt Tpen)⟩, ⟨bv, bs⟩] (fun (_ : Value) _ => True) (fun y _ => [bl b T (setL o y (rdLs bs (gdAccount bs)) q).1, rdr p bv (setL o y (rdLs bs (gdAccount bs)) q).2]) (fun y _ => [⟨y, (rdLs bs (gdAccount bs) q.2).1⟩]) :=
 listAccount_p pv bv p bs q.2 b T q.1 o hp hz
theorem listMark_p (hp : s0.pos ≤ bs.length) (hz : cells[o]? = some nS) : Fnc Pg 266 [pv, .pointer (some ⟨b, o, none⟩), .func (.func 267) #[pv] #[]] [bl b T cells, rdr p bv s0] [⟨pv, (⟨⟨p⟩⟩ : Pt Tpen)⟩, ⟨bv, bs⟩] (fun (_ : Value) _ => True) (fun y _ => [bl b T (cells.set o y), rdr p bv (rdLs bs (gdMark bs) s0).2]) (fun y _ => [⟨y, (rdLs bs (gdMark bs) s0).1⟩]) := by
 refine Fnc.proof Tryz.func266 G 80 G G fun X w => ?_
 obtain ⟨c0, rfl⟩ : ∃ c0 : List Value, cells = c0.set o nS := ⟨cells, (set_same hz).symm⟩
 have ho : o < c0.length := by have := lt_of_at hz; rwa [List.length_set] at this
 have hNle := rdCount_le' bs s0
 refine sq<|qg<|mv G G<|cf1 1 (stopped_c pv bv p s0) (Kg G) G G (Sc 0 G Sn) G fun _ v11 h11 => ?_
 have h11 : v11 = .bool (stopB s0) := h11
 subst h11
 refine nl<|nx<|cdB G (fun h11 => ?_) (fun h11 => ?_)
 ·
  have hf := (stopB_iff s0).1 h11
  exact emC (α := TMark)<|rt<|tR<|fR0 nS G trivial (by simp only [rdLs_stop hf, List.set_set, List.cons_append, List.nil_append]; rfl) (by rw [rdLs_stop hf]; exact (SubD.cons 0 rfl SubD.nil))
 ·
  refine sk<|nx<|sq<|qg<|mv G G<|ncP 0 G G G<|faP (α := Tpen) (β := RawP) 0 (fun x : Tpen => x.fIn) G G (Fg G) ppen_0 G fun v14 => ldV 0 G G (Og G) G fun w15 => eqP Tryz.underlying311 G G G<|nl<|nx<|cdF G<|sk<|nx<|qg<|mv G G<|ncP 1 G G G<|faP (α := Tpen) (β := RawP) 1 (fun x : Tpen => x.fIn) G G (Fg G) ppen_0 G fun v57 => ldV 0 G G (Og G) G fun w58 => cf1 1 (Rdr.count_r p bv bs s0 1024 inI hp) (Kg G) G G (Sc 3 G Sn) G fun _ v59 h59 => ?_
  have h59 : v59 = .int .i64 ((rdCount bs 1024 s0).1 : Int) := h59
  subst h59
  refine ru 1 G<|nl<|nx<|sa 1 G<|bk<|rwC TMark 122<|lpE (σ := Nat × Value × List TMark × Rd) [(0, _), (1, _), (2, _), (7, _)] _ (fun i C => (8, .int .i64 (i.1 : Int)) :: C) (fun i => [row 122 i.2.1 i.2.2.1, bl b T (c0.set o i.2.1), rdr p bv i.2.2.2, fz X w]) (fun _ Dc => Dc) (fun i => i.1 ≤ (rdCount bs 1024 s0).1 ∧ i.2.2.1.length = i.1 ∧ i.2.2.2.pos ≤ bs.length ∧ rdLs bs (gdMark bs) s0 = (i.2.2.1 ++ (rdMany (gdMark bs) ((rdCount bs 1024 s0).1 - i.1) i.2.2.2).1, (rdMany (gdMark bs) ((rdCount bs 1024 s0).1 - i.1) i.2.2.2).2)) (fun i => (rdCount bs 1024 s0).1 - i.1) (0, .slice none 0 0, [], (rdCount bs 1024 s0).2) (Gs G) (Sc 2 G (Sc 3 G Sn)) ⟨Nat.zero_le _, G, rdCount_pos hp, G⟩ (Gs G) G (Sc 2 G (Sc 3 G Sn)) ?_
  rintro ⟨i, rv, acc, s⟩ ⟨hi, hl, hs, he⟩
  simp only at hi hl hs he
  refine sq<|qg<|ru 4 G ?_
  refine jy 63 4 [0,1,2,7,8] G G (fun h63 K67 => by
   have p63 := of_decide_eq_true h63
   refine ru 1 G<|gY G G G<|cf1 2 (stopped_c pv bv p s) (Kg G) G G (Sc 0 G Sn) G fun _ v65 h65 => ?_
   have h65 : v65 = .bool (stopB s) := h65
   subst h65
   exact ru 2 G<|K67 G Sr) ?_
  refine nl<|nx<|cdB G (fun h67 => ?_) (fun h67 => ?_)
  ·
   have q67 := h67
   simp at q67
   obtain ⟨q1, q2⟩ := q67
   have hf := (stopB_not s).1 q2
   have hl1 : [(gdMark bs s).1].length = 1 := rfl
   refine sk<|nx<|sq<|bk<|qg<|al zero_122 G fun b9 => nl<|nx<|qg<|mv G G<|mtL 3 G<|mtL 1 G<|cfNc 2 (mark_e pv bv p bs s b9 hs) (Kg G) G G G G (Si [0,1] G) G fun _ _ _ => ?_
   refine nl<|nx<|rgZ (L := [bl b9 122 (cMark (gdMark bs s).1), rdr p bv (gdMark bs s).2, row 122 rv acc, bl b T (c0.set o rv), fz X w]) [(4,.ld 0)] [(3,⟨some (rv),fun _ => [],false⟩),(5,⟨none,fun u => [⟨u, [(gdMark bs s).1]⟩],false⟩),(6,⟨none,fun _ => [],true⟩),(8,⟨none,fun _ => [],true⟩)] [] [] [(6,fun L zz => rpE 2 (row 122 (zz 6) (acc ++ [(gdMark bs s).1])) L),(8,fun L zz => rpE 1 (bl b T ((c0.set o rv).set o (zz 6))) L)] (fun _ => G) (fun _ => by kernel_rfl) ⟨fun V De _=>aP1 (ldB 3 G G (Og G) (set_at ho) G<|oh G G G G),fun V De _=>aP1 (bsM G app_25 G G G G fun b77 => frS1 (α := TMark) (gdMark bs s).1 (fun S w h => ⟨(), G, by simp, gdMark_wf bs s⟩)<|nl (odH G G G trivial (Sc 0 G Sn) (SubD.tail Sr))),fun V De _=>aP1 (ap 2 0 G G G G app_25 (by omega) (by omega) G fun v78 => nl (odH G G G trivial Sn (SubD.tail Sr))),fun V De _=>aP1 (stR 3 2 G G G G (Og G) (by rw [List.length_set]; exact ho)<|nl (od0H G G Sr)),trivial⟩ fun V _ => wD [1,2] G<|?_
   generalize V 6 = v0
   refine bN<|nx<|rg<|mv G G<|adI G G inI G<|ru 1 G<|nl<|dpQ<|mtQ 2 G<|mtQ 2 G ?_
   exact ag ((i + 1, v0, acc ++ [(gdMark bs s).1], (gdMark bs s).2) : Nat × Value × List TMark × Rd) ⟨by omega, by simp [hl], gdMark_pos hs, rdMany_step (by omega) hf he⟩ (by show _ - _ < _ - _; omega) (Gs G) (by simp only [List.set_set]; rfl) (Si [0,1] G)
  ·
   have q67 := h67
   simp at q67
   have hN : rdMany (gdMark bs) ((rdCount bs 1024 s0).1 - i) s = ([], s) := by
    by_cases hf : s.fault = 0
    ·
     by_cases hlt : i < (rdCount bs 1024 s0).1
     · exact absurd hf ((stopB_iff s).1 (q67 (by omega)))
     ·
      have e : (rdCount bs 1024 s0).1 - i = 0 := by omega
      rw [e]
      rfl
    · exact rdMany_stop hf _
   rw [hN] at he
   simp only [List.append_nil] at he
   exact ex<|tE<|tE<|bE<|frRQ<|fR0N rv G trivial (by simp only [he, List.set_set, List.cons_append, List.nil_append] <;> rfl) (by simp only [he]; exact (SubD.cons 0 rfl SubD.nil))
theorem listMark_q (hp : q.2.pos ≤ bs.length) (hz : q.1[o]? = some nS) : Fnc Pg 266 [pv, .pointer (some ⟨b, o, none⟩), .func (.func 267) #[pv] #[]] [bl b T q.1, rdr p bv q.2] [⟨pv, (⟨⟨p⟩⟩ : Pt Tpen)⟩, ⟨bv, bs⟩] (fun (_ : Value) _ => True) (fun y _ => [bl b T (setL o y (rdLs bs (gdMark bs)) q).1, rdr p bv (setL o y (rdLs bs (gdMark bs)) q).2]) (fun y _ => [⟨y, (rdLs bs (gdMark bs) q.2).1⟩]) :=
 listMark_p pv bv p bs q.2 b T q.1 o hp hz
theorem listWait_p (hp : s0.pos ≤ bs.length) (hz : cells[o]? = some nS) : Fnc Pg 268 [pv, .pointer (some ⟨b, o, none⟩), .func (.func 269) #[pv] #[]] [bl b T cells, rdr p bv s0] [⟨pv, (⟨⟨p⟩⟩ : Pt Tpen)⟩, ⟨bv, bs⟩] (fun (_ : Value) _ => True) (fun y _ => [bl b T (cells.set o y), rdr p bv (rdLs bs (gdWait bs) s0).2]) (fun y _ => [⟨y, (rdLs bs (gdWait bs) s0).1⟩]) := by
 refine Fnc.proof Tryz.func268 G 80 G G fun X w => ?_
 obtain ⟨c0, rfl⟩ : ∃ c0 : List Value, cells = c0.set o nS := ⟨cells, (set_same hz).symm⟩
 have ho : o < c0.length := by have := lt_of_at hz; rwa [List.length_set] at this
 have hNle := rdCount_le' bs s0
 refine sq<|qg<|mv G G<|cf1 1 (stopped_c pv bv p s0) (Kg G) G G (Sc 0 G Sn) G fun _ v11 h11 => ?_
 have h11 : v11 = .bool (stopB s0) := h11
 subst h11
 refine nl<|nx<|cdB G (fun h11 => ?_) (fun h11 => ?_)
 ·
  have hf := (stopB_iff s0).1 h11
  exact emC (α := TWait)<|rt<|tR<|fR0 nS G trivial (by simp only [rdLs_stop hf, List.set_set, List.cons_append, List.nil_append]; rfl) (by rw [rdLs_stop hf]; exact (SubD.cons 0 rfl SubD.nil))
 ·
  refine sk<|nx<|sq<|qg<|mv G G<|ncP 0 G G G<|faP (α := Tpen) (β := RawP) 0 (fun x : Tpen => x.fIn) G G (Fg G) ppen_0 G fun v14 => ldV 0 G G (Og G) G fun w15 => eqP Tryz.underlying311 G G G<|nl<|nx<|cdF G<|sk<|nx<|qg<|mv G G<|ncP 1 G G G<|faP (α := Tpen) (β := RawP) 1 (fun x : Tpen => x.fIn) G G (Fg G) ppen_0 G fun v57 => ldV 0 G G (Og G) G fun w58 => cf1 1 (Rdr.count_r p bv bs s0 1024 inI hp) (Kg G) G G (Sc 3 G Sn) G fun _ v59 h59 => ?_
  have h59 : v59 = .int .i64 ((rdCount bs 1024 s0).1 : Int) := h59
  subst h59
  refine ru 1 G<|nl<|nx<|sa 1 G<|bk<|rwC TWait 108<|lpE (σ := Nat × Value × List TWait × Rd) [(0, _), (1, _), (2, _), (7, _)] _ (fun i C => (8, .int .i64 (i.1 : Int)) :: C) (fun i => [row 108 i.2.1 i.2.2.1, bl b T (c0.set o i.2.1), rdr p bv i.2.2.2, fz X w]) (fun _ Dc => Dc) (fun i => i.1 ≤ (rdCount bs 1024 s0).1 ∧ i.2.2.1.length = i.1 ∧ i.2.2.2.pos ≤ bs.length ∧ rdLs bs (gdWait bs) s0 = (i.2.2.1 ++ (rdMany (gdWait bs) ((rdCount bs 1024 s0).1 - i.1) i.2.2.2).1, (rdMany (gdWait bs) ((rdCount bs 1024 s0).1 - i.1) i.2.2.2).2)) (fun i => (rdCount bs 1024 s0).1 - i.1) (0, .slice none 0 0, [], (rdCount bs 1024 s0).2) (Gs G) (Sc 2 G (Sc 3 G Sn)) ⟨Nat.zero_le _, G, rdCount_pos hp, G⟩ (Gs G) G (Sc 2 G (Sc 3 G Sn)) ?_
  rintro ⟨i, rv, acc, s⟩ ⟨hi, hl, hs, he⟩
  simp only at hi hl hs he
  refine sq<|qg<|ru 4 G ?_
  refine jy 63 4 [0,1,2,7,8] G G (fun h63 K67 => by
   have p63 := of_decide_eq_true h63
   refine ru 1 G<|gY G G G<|cf1 2 (stopped_c pv bv p s) (Kg G) G G (Sc 0 G Sn) G fun _ v65 h65 => ?_
   have h65 : v65 = .bool (stopB s) := h65
   subst h65
   exact ru 2 G<|K67 G Sr) ?_
  refine nl<|nx<|cdB G (fun h67 => ?_) (fun h67 => ?_)
  ·
   have q67 := h67
   simp at q67
   obtain ⟨q1, q2⟩ := q67
   have hf := (stopB_not s).1 q2
   have hl1 : [(gdWait bs s).1].length = 1 := rfl
   refine sk<|nx<|sq<|bk<|qg<|al zero_108 G fun b9 => nl<|nx<|qg<|mv G G<|mtL 3 G<|mtL 1 G<|cfNc 2 (wait_e pv bv p bs s b9 hs) (Kg G) G G G G (Si [0,1] G) G fun _ _ _ => ?_
   refine nl<|nx<|rgZ (L := [bl b9 108 (cWait (gdWait bs s).1), rdr p bv (gdWait bs s).2, row 108 rv acc, bl b T (c0.set o rv), fz X w]) [(4,.ld 0)] [(3,⟨some (rv),fun _ => [],false⟩),(5,⟨none,fun u => [⟨u, [(gdWait bs s).1]⟩],false⟩),(6,⟨none,fun _ => [],true⟩),(8,⟨none,fun _ => [],true⟩)] [] [] [(6,fun L zz => rpE 2 (row 108 (zz 6) (acc ++ [(gdWait bs s).1])) L),(8,fun L zz => rpE 1 (bl b T ((c0.set o rv).set o (zz 6))) L)] (fun _ => G) (fun _ => by kernel_rfl) ⟨fun V De _=>aP1 (ldB 3 G G (Og G) (set_at ho) G<|oh G G G G),fun V De _=>aP1 (bsM G app_51 G G G G fun b77 => frS1 (α := TWait) (gdWait bs s).1 (fun S w h => ⟨(), G, by simp, gdWait_wf bs s⟩)<|nl (odH G G G trivial (Sc 0 G Sn) (SubD.tail Sr))),fun V De _=>aP1 (ap 2 0 G G G G app_51 (by omega) (by omega) G fun v78 => nl (odH G G G trivial Sn (SubD.tail Sr))),fun V De _=>aP1 (stR 3 2 G G G G (Og G) (by rw [List.length_set]; exact ho)<|nl (od0H G G Sr)),trivial⟩ fun V _ => wD [1,2] G<|?_
   generalize V 6 = v0
   refine bN<|nx<|rg<|mv G G<|adI G G inI G<|ru 1 G<|nl<|dpQ<|mtQ 2 G<|mtQ 2 G ?_
   exact ag ((i + 1, v0, acc ++ [(gdWait bs s).1], (gdWait bs s).2) : Nat × Value × List TWait × Rd) ⟨by omega, by simp [hl], gdWait_pos hs, rdMany_step (by omega) hf he⟩ (by show _ - _ < _ - _; omega) (Gs G) (by simp only [List.set_set]; rfl) (Si [0,1] G)
  ·
   have q67 := h67
   simp at q67
   have hN : rdMany (gdWait bs) ((rdCount bs 1024 s0).1 - i) s = ([], s) := by
    by_cases hf : s.fault = 0
    ·
     by_cases hlt : i < (rdCount bs 1024 s0).1
     · exact absurd hf ((stopB_iff s).1 (q67 (by omega)))
     ·
      have e : (rdCount bs 1024 s0).1 - i = 0 := by omega
      rw [e]
      rfl
    · exact rdMany_stop hf _
   rw [hN] at he
   simp only [List.append_nil] at he
   exact ex<|tE<|tE<|bE<|frRQ<|fR0N rv G trivial (by simp only [he, List.set_set, List.cons_append, List.nil_append] <;> rfl) (by simp only [he]; exact (SubD.cons 0 rfl SubD.nil))
theorem listWait_q (hp : q.2.pos ≤ bs.length) (hz : q.1[o]? = some nS) : Fnc Pg 268 [pv, .pointer (some ⟨b, o, none⟩), .func (.func 269) #[pv] #[]] [bl b T q.1, rdr p bv q.2] [⟨pv, (⟨⟨p⟩⟩ : Pt Tpen)⟩, ⟨bv, bs⟩] (fun (_ : Value) _ => True) (fun y _ => [bl b T (setL o y (rdLs bs (gdWait bs)) q).1, rdr p bv (setL o y (rdLs bs (gdWait bs)) q).2]) (fun y _ => [⟨y, (rdLs bs (gdWait bs) q.2).1⟩]) :=
 listWait_p pv bv p bs q.2 b T q.1 o hp hz
theorem listDeal_p (hp : s0.pos ≤ bs.length) (hz : cells[o]? = some nS) : Fnc Pg 270 [pv, .pointer (some ⟨b, o, none⟩), .func (.func 271) #[pv] #[]] [bl b T cells, rdr p bv s0] [⟨pv, (⟨⟨p⟩⟩ : Pt Tpen)⟩, ⟨bv, bs⟩] (fun (_ : Value) _ => True) (fun y _ => [bl b T (cells.set o y), rdr p bv (rdLs bs (gdDeal bs) s0).2]) (fun y _ => [⟨y, (rdLs bs (gdDeal bs) s0).1⟩]) := by
 refine Fnc.proof Tryz.func270 G 80 G G fun X w => ?_
 obtain ⟨c0, rfl⟩ : ∃ c0 : List Value, cells = c0.set o nS := ⟨cells, (set_same hz).symm⟩
 have ho : o < c0.length := by have := lt_of_at hz; rwa [List.length_set] at this
 have hNle := rdCount_le' bs s0
 refine sq<|qg<|mv G G<|cf1 1 (stopped_c pv bv p s0) (Kg G) G G (Sc 0 G Sn) G fun _ v11 h11 => ?_
 have h11 : v11 = .bool (stopB s0) := h11
 subst h11
 refine nl<|nx<|cdB G (fun h11 => ?_) (fun h11 => ?_)
 ·
  have hf := (stopB_iff s0).1 h11
  exact emC (α := TDeal)<|rt<|tR<|fR0 nS G trivial (by simp only [rdLs_stop hf, List.set_set, List.cons_append, List.nil_append]; rfl) (by rw [rdLs_stop hf]; exact (SubD.cons 0 rfl SubD.nil))
 ·
  refine sk<|nx<|sq<|qg<|mv G G<|ncP 0 G G G<|faP (α := Tpen) (β := RawP) 0 (fun x : Tpen => x.fIn) G G (Fg G) ppen_0 G fun v14 => ldV 0 G G (Og G) G fun w15 => eqP Tryz.underlying311 G G G<|nl<|nx<|cdF G<|sk<|nx<|qg<|mv G G<|ncP 1 G G G<|faP (α := Tpen) (β := RawP) 1 (fun x : Tpen => x.fIn) G G (Fg G) ppen_0 G fun v57 => ldV 0 G G (Og G) G fun w58 => cf1 1 (Rdr.count_r p bv bs s0 1024 inI hp) (Kg G) G G (Sc 3 G Sn) G fun _ v59 h59 => ?_
  have h59 : v59 = .int .i64 ((rdCount bs 1024 s0).1 : Int) := h59
  subst h59
  refine ru 1 G<|nl<|nx<|sa 1 G<|bk<|rwC TDeal 126<|lpE (σ := Nat × Value × List TDeal × Rd) [(0, _), (1, _), (2, _), (7, _)] _ (fun i C => (8, .int .i64 (i.1 : Int)) :: C) (fun i => [row 126 i.2.1 i.2.2.1, bl b T (c0.set o i.2.1), rdr p bv i.2.2.2, fz X w]) (fun _ Dc => Dc) (fun i => i.1 ≤ (rdCount bs 1024 s0).1 ∧ i.2.2.1.length = i.1 ∧ i.2.2.2.pos ≤ bs.length ∧ rdLs bs (gdDeal bs) s0 = (i.2.2.1 ++ (rdMany (gdDeal bs) ((rdCount bs 1024 s0).1 - i.1) i.2.2.2).1, (rdMany (gdDeal bs) ((rdCount bs 1024 s0).1 - i.1) i.2.2.2).2)) (fun i => (rdCount bs 1024 s0).1 - i.1) (0, .slice none 0 0, [], (rdCount bs 1024 s0).2) (Gs G) (Sc 2 G (Sc 3 G Sn)) ⟨Nat.zero_le _, G, rdCount_pos hp, G⟩ (Gs G) G (Sc 2 G (Sc 3 G Sn)) ?_
  rintro ⟨i, rv, acc, s⟩ ⟨hi, hl, hs, he⟩
  simp only at hi hl hs he
  refine sq<|qg<|ru 4 G ?_
  refine jy 63 4 [0,1,2,7,8] G G (fun h63 K67 => by
   have p63 := of_decide_eq_true h63
   refine ru 1 G<|gY G G G<|cf1 2 (stopped_c pv bv p s) (Kg G) G G (Sc 0 G Sn) G fun _ v65 h65 => ?_
   have h65 : v65 = .bool (stopB s) := h65
   subst h65
   exact ru 2 G<|K67 G Sr) ?_
  refine nl<|nx<|cdB G (fun h67 => ?_) (fun h67 => ?_)
  ·
   have q67 := h67
   simp at q67
   obtain ⟨q1, q2⟩ := q67
   have hf := (stopB_not s).1 q2
   have hl1 : [(gdDeal bs s).1].length = 1 := rfl
   refine sk<|nx<|sq<|bk<|qg<|al zero_126 G fun b9 => nl<|nx<|qg<|mv G G<|mtL 3 G<|mtL 1 G<|cfNc 2 (deal_e pv bv p bs s b9 hs) (Kg G) G G G G (Si [0,1] G) G fun _ _ _ => ?_
   refine nl<|nx<|rgZ (L := [bl b9 126 (cDeal (gdDeal bs s).1), rdr p bv (gdDeal bs s).2, row 126 rv acc, bl b T (c0.set o rv), fz X w]) [(4,.ld 0)] [(3,⟨some (rv),fun _ => [],false⟩),(5,⟨none,fun u => [⟨u, [(gdDeal bs s).1]⟩],false⟩),(6,⟨none,fun _ => [],true⟩),(8,⟨none,fun _ => [],true⟩)] [] [] [(6,fun L zz => rpE 2 (row 126 (zz 6) (acc ++ [(gdDeal bs s).1])) L),(8,fun L zz => rpE 1 (bl b T ((c0.set o rv).set o (zz 6))) L)] (fun _ => G) (fun _ => by kernel_rfl) ⟨fun V De _=>aP1 (ldB 3 G G (Og G) (set_at ho) G<|oh G G G G),fun V De _=>aP1 (bsM G app_52 G G G G fun b77 => frS1 (α := TDeal) (gdDeal bs s).1 (fun S w h => ⟨(), G, by simp, gdDeal_wf bs s⟩)<|nl (odH G G G trivial (Sc 0 G Sn) (SubD.tail Sr))),fun V De _=>aP1 (ap 2 0 G G G G app_52 (by omega) (by omega) G fun v78 => nl (odH G G G trivial Sn (SubD.tail Sr))),fun V De _=>aP1 (stR 3 2 G G G G (Og G) (by rw [List.length_set]; exact ho)<|nl (od0H G G Sr)),trivial⟩ fun V _ => wD [1,2] G<|?_
   generalize V 6 = v0
   refine bN<|nx<|rg<|mv G G<|adI G G inI G<|ru 1 G<|nl<|dpQ<|mtQ 2 G<|mtQ 2 G ?_
   exact ag ((i + 1, v0, acc ++ [(gdDeal bs s).1], (gdDeal bs s).2) : Nat × Value × List TDeal × Rd) ⟨by omega, by simp [hl], gdDeal_pos hs, rdMany_step (by omega) hf he⟩ (by show _ - _ < _ - _; omega) (Gs G) (by simp only [List.set_set]; rfl) (Si [0,1] G)
  ·
   have q67 := h67
   simp at q67
   have hN : rdMany (gdDeal bs) ((rdCount bs 1024 s0).1 - i) s = ([], s) := by
    by_cases hf : s.fault = 0
    ·
     by_cases hlt : i < (rdCount bs 1024 s0).1
     · exact absurd hf ((stopB_iff s).1 (q67 (by omega)))
     ·
      have e : (rdCount bs 1024 s0).1 - i = 0 := by omega
      rw [e]
      rfl
    · exact rdMany_stop hf _
   rw [hN] at he
   simp only [List.append_nil] at he
   exact ex<|tE<|tE<|bE<|frRQ<|fR0N rv G trivial (by simp only [he, List.set_set, List.cons_append, List.nil_append] <;> rfl) (by simp only [he]; exact (SubD.cons 0 rfl SubD.nil))
theorem listDeal_q (hp : q.2.pos ≤ bs.length) (hz : q.1[o]? = some nS) : Fnc Pg 270 [pv, .pointer (some ⟨b, o, none⟩), .func (.func 271) #[pv] #[]] [bl b T q.1, rdr p bv q.2] [⟨pv, (⟨⟨p⟩⟩ : Pt Tpen)⟩, ⟨bv, bs⟩] (fun (_ : Value) _ => True) (fun y _ => [bl b T (setL o y (rdLs bs (gdDeal bs)) q).1, rdr p bv (setL o y (rdLs bs (gdDeal bs)) q).2]) (fun y _ => [⟨y, (rdLs bs (gdDeal bs) q.2).1⟩]) :=
 listDeal_p pv bv p bs q.2 b T q.1 o hp hz
theorem listEnd_p (hp : s0.pos ≤ bs.length) (hz : cells[o]? = some nS) : Fnc Pg 272 [pv, .pointer (some ⟨b, o, none⟩), .func (.func 273) #[pv] #[]] [bl b T cells, rdr p bv s0] [⟨pv, (⟨⟨p⟩⟩ : Pt Tpen)⟩, ⟨bv, bs⟩] (fun (_ : Value) _ => True) (fun y _ => [bl b T (cells.set o y), rdr p bv (rdLs bs (gdEnd bs) s0).2]) (fun y _ => [⟨y, (rdLs bs (gdEnd bs) s0).1⟩]) := by
 refine Fnc.proof Tryz.func272 G 80 G G fun X w => ?_
 obtain ⟨c0, rfl⟩ : ∃ c0 : List Value, cells = c0.set o nS := ⟨cells, (set_same hz).symm⟩
 have ho : o < c0.length := by have := lt_of_at hz; rwa [List.length_set] at this
 have hNle := rdCount_le' bs s0
 refine sq<|qg<|mv G G<|cf1 1 (stopped_c pv bv p s0) (Kg G) G G (Sc 0 G Sn) G fun _ v11 h11 => ?_
 have h11 : v11 = .bool (stopB s0) := h11
 subst h11
 refine nl<|nx<|cdB G (fun h11 => ?_) (fun h11 => ?_)
 ·
  have hf := (stopB_iff s0).1 h11
  exact emC (α := TEnd)<|rt<|tR<|fR0 nS G trivial (by simp only [rdLs_stop hf, List.set_set, List.cons_append, List.nil_append]; rfl) (by rw [rdLs_stop hf]; exact (SubD.cons 0 rfl SubD.nil))
 ·
  refine sk<|nx<|sq<|qg<|mv G G<|ncP 0 G G G<|faP (α := Tpen) (β := RawP) 0 (fun x : Tpen => x.fIn) G G (Fg G) ppen_0 G fun v14 => ldV 0 G G (Og G) G fun w15 => eqP Tryz.underlying311 G G G<|nl<|nx<|cdF G<|sk<|nx<|qg<|mv G G<|ncP 1 G G G<|faP (α := Tpen) (β := RawP) 1 (fun x : Tpen => x.fIn) G G (Fg G) ppen_0 G fun v57 => ldV 0 G G (Og G) G fun w58 => cf1 1 (Rdr.count_r p bv bs s0 1024 inI hp) (Kg G) G G (Sc 3 G Sn) G fun _ v59 h59 => ?_
  have h59 : v59 = .int .i64 ((rdCount bs 1024 s0).1 : Int) := h59
  subst h59
  refine ru 1 G<|nl<|nx<|sa 1 G<|bk<|rwC TEnd 129<|lpE (σ := Nat × Value × List TEnd × Rd) [(0, _), (1, _), (2, _), (7, _)] _ (fun i C => (8, .int .i64 (i.1 : Int)) :: C) (fun i => [row 129 i.2.1 i.2.2.1, bl b T (c0.set o i.2.1), rdr p bv i.2.2.2, fz X w]) (fun _ Dc => Dc) (fun i => i.1 ≤ (rdCount bs 1024 s0).1 ∧ i.2.2.1.length = i.1 ∧ i.2.2.2.pos ≤ bs.length ∧ rdLs bs (gdEnd bs) s0 = (i.2.2.1 ++ (rdMany (gdEnd bs) ((rdCount bs 1024 s0).1 - i.1) i.2.2.2).1, (rdMany (gdEnd bs) ((rdCount bs 1024 s0).1 - i.1) i.2.2.2).2)) (fun i => (rdCount bs 1024 s0).1 - i.1) (0, .slice none 0 0, [], (rdCount bs 1024 s0).2) (Gs G) (Sc 2 G (Sc 3 G Sn)) ⟨Nat.zero_le _, G, rdCount_pos hp, G⟩ (Gs G) G (Sc 2 G (Sc 3 G Sn)) ?_
  rintro ⟨i, rv, acc, s⟩ ⟨hi, hl, hs, he⟩
  simp only at hi hl hs he
  refine sq<|qg<|ru 4 G ?_
  refine jy 63 4 [0,1,2,7,8] G G (fun h63 K67 => by
   have p63 := of_decide_eq_true h63
   refine ru 1 G<|gY G G G<|cf1 2 (stopped_c pv bv p s) (Kg G) G G (Sc 0 G Sn) G fun _ v65 h65 => ?_
   have h65 : v65 = .bool (stopB s) := h65
   subst h65
   exact ru 2 G<|K67 G Sr) ?_
  refine nl<|nx<|cdB G (fun h67 => ?_) (fun h67 => ?_)
  ·
   have q67 := h67
   simp at q67
   obtain ⟨q1, q2⟩ := q67
   have hf := (stopB_not s).1 q2
   have hl1 : [(gdEnd bs s).1].length = 1 := rfl
   refine sk<|nx<|sq<|bk<|qg<|al zero_129 G fun b9 => nl<|nx<|qg<|mv G G<|mtL 3 G<|mtL 1 G<|cfNc 2 (end_e pv bv p bs s b9 hs) (Kg G) G G G G (Si [0,1] G) G fun _ _ _ => ?_
   refine nl<|nx<|rgZ (L := [bl b9 129 (cEnd (gdEnd bs s).1), rdr p bv (gdEnd bs s).2, row 129 rv acc, bl b T (c0.set o rv), fz X w]) [(4,.ld 0)] [(3,⟨some (rv),fun _ => [],false⟩),(5,⟨none,fun u => [⟨u, [(gdEnd bs s).1]⟩],false⟩),(6,⟨none,fun _ => [],true⟩),(8,⟨none,fun _ => [],true⟩)] [] [] [(6,fun L zz => rpE 2 (row 129 (zz 6) (acc ++ [(gdEnd bs s).1])) L),(8,fun L zz => rpE 1 (bl b T ((c0.set o rv).set o (zz 6))) L)] (fun _ => G) (fun _ => by kernel_rfl) ⟨fun V De _=>aP1 (ldB 3 G G (Og G) (set_at ho) G<|oh G G G G),fun V De _=>aP1 (bsM G app_53 G G G G fun b77 => frS1 (α := TEnd) (gdEnd bs s).1 (fun S w h => ⟨(), G, by simp, gdEnd_wf bs s⟩)<|nl (odH G G G trivial (Sc 0 G Sn) (SubD.tail Sr))),fun V De _=>aP1 (ap 2 0 G G G G app_53 (by omega) (by omega) G fun v78 => nl (odH G G G trivial Sn (SubD.tail Sr))),fun V De _=>aP1 (stR 3 2 G G G G (Og G) (by rw [List.length_set]; exact ho)<|nl (od0H G G Sr)),trivial⟩ fun V _ => wD [1,2] G<|?_
   generalize V 6 = v0
   refine bN<|nx<|rg<|mv G G<|adI G G inI G<|ru 1 G<|nl<|dpQ<|mtQ 2 G<|mtQ 2 G ?_
   exact ag ((i + 1, v0, acc ++ [(gdEnd bs s).1], (gdEnd bs s).2) : Nat × Value × List TEnd × Rd) ⟨by omega, by simp [hl], gdEnd_pos hs, rdMany_step (by omega) hf he⟩ (by show _ - _ < _ - _; omega) (Gs G) (by simp only [List.set_set]; rfl) (Si [0,1] G)
  ·
   have q67 := h67
   simp at q67
   have hN : rdMany (gdEnd bs) ((rdCount bs 1024 s0).1 - i) s = ([], s) := by
    by_cases hf : s.fault = 0
    ·
     by_cases hlt : i < (rdCount bs 1024 s0).1
     · exact absurd hf ((stopB_iff s).1 (q67 (by omega)))
     ·
      have e : (rdCount bs 1024 s0).1 - i = 0 := by omega
      rw [e]
      rfl
    · exact rdMany_stop hf _
   rw [hN] at he
   simp only [List.append_nil] at he
   exact ex<|tE<|tE<|bE<|frRQ<|fR0N rv G trivial (by simp only [he, List.set_set, List.cons_append, List.nil_append] <;> rfl) (by simp only [he]; exact (SubD.cons 0 rfl SubD.nil))
theorem listEnd_q (hp : q.2.pos ≤ bs.length) (hz : q.1[o]? = some nS) : Fnc Pg 272 [pv, .pointer (some ⟨b, o, none⟩), .func (.func 273) #[pv] #[]] [bl b T q.1, rdr p bv q.2] [⟨pv, (⟨⟨p⟩⟩ : Pt Tpen)⟩, ⟨bv, bs⟩] (fun (_ : Value) _ => True) (fun y _ => [bl b T (setL o y (rdLs bs (gdEnd bs)) q).1, rdr p bv (setL o y (rdLs bs (gdEnd bs)) q).2]) (fun y _ => [⟨y, (rdLs bs (gdEnd bs) q.2).1⟩]) :=
 listEnd_p pv bv p bs q.2 b T q.1 o hp hz
end
end Go.Proofs.YtmpoffijcfaalaaGreat.Pen
