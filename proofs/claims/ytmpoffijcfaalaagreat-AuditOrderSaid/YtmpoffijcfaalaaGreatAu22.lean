/- Part 22 of the proof of auditOrder_holds: DutN1, DutP3. Every text below begins with what it shows. -/
import Derived.Test.YtmpoffijcfaalaaGreatAu21

/- Walks of the pens that read: written by specs3.py. -/

namespace Go.Proofs.YtmpoffijcfaalaaGreat.Pen
open Go.Eng Go.YtmpoffijcfaalaaGreat

theorem stopped_c (pv bv : Value) (p : Nat) (s : Rd) : Fnc Tryz.prog 295 [pv] [rdr p bv s] [⟨pv, (⟨⟨p⟩⟩ : Pt Tpen)⟩] (fun (_ : Unit) v => v = .bool (stopB s)) (fun _ _ => [rdr p bv s]) (fun _ _ => []) := by
 refine Fnc.proof Tryz.func295 G 31 G G fun X w => sq<|rg<|asg G G<|nl<|nx<|sq<|sq<|rg<|mv G G<|ncP 0 G G G<|faP (α := Tpen) (β := RawP) 0 (fun x : Tpen => x.fIn) G G fld_314_0 ppen_0 G fun v7 => ldV 0 G G one_311 G fun w8 => ?_
 refine eqP Tryz.underlying311 G G G<|nl<|nx<|cdF G<|sk<|nx<|sq<|rg<|mv G G<|ncP 1 G G G<|faP (α := Tpen) (β := RawP) 1 (fun x : Tpen => x.fIn) G G fld_314_0 ppen_0 G fun v17 => ldV 0 G G one_311 G fun w18 => ?_
 refine cf1 0 (Rdr.fault_r p bv [] s) ok_311 G G Sn G fun _ v19 h19 => ?_
 subst h19
 refine mv G G<|xt G G G<|xt G G G<|asg G G<|asg G G<|nl<|nx<|sq<|rg<|mv G G<|neI G G G<|mv G G ?_
 apply jo [] trivial
 ·
  intro K30
  refine spO (i := 24) G (fun h24 => ?_) (fun h24 => ?_)
  ·
   have p24 := h24
   simp only [Bool.not_eq_false', decide_eq_true_eq] at p24
   refine gY G G G<|mv G G<|gY G G G<|ncP 2 G G G<|gY G G G<|faP (α := Tpen) (β := Int) 2 (fun x : Tpen => x.fBad) G G fld_314_3 ppen_3 G fun v27 => gY G G G<|ldV 0 G G one_38 G fun w28 => ?_
   exact gY G G G<|neI G G G<|pkF G G G<|jR K30 h24 trivial (SubD.tail Sr)
  ·
   exact gS (g := [_, _, _, _, _]) G<|pkT G G G<|jR0 K30 h24 trivial Sr
 exact asg G G<|nl<|nx<|rt<|fR1 () G G G G Sn

theorem int_p (pv bv sv : Value) (p : Nat) (bs : List UInt8) (s0 : Rd) (b T : Nat) (cells : List Value) (offs : List Nat) (hp : s0.pos ≤ bs.length) (hz : zeroI cells offs) (hn : offs.Nodup) : Fnc Tryz.prog 261 [pv, sv] [bl b T cells, rdr p bv s0] [⟨pv, (⟨⟨p⟩⟩ : Pt Tpen)⟩, ⟨bv, bs⟩, ⟨sv, ptrs b offs⟩] (fun (_ : Unit) _ => True) (fun _ _ => [bl b T (intsP bs offs (cells, s0)).1, rdr p bv (intsP bs offs (cells, s0)).2]) (fun _ _ => []) := by
 refine Fnc.proof Tryz.func261 G 35 G G fun X w => sq<|rg<|mv G G<|lnP 2 G G Tryz.underlying297 G fun l7 => mv G G<|nl<|nx<|bk<|lpE (σ := Nat × List Value × Rd) [(0, _), (6, _), (7, _)] _ (fun i C => (8, .int .i64 (i.1 : Int)) :: C) (fun i => [bl b T i.2.1, rdr p bv i.2.2, fz X w]) (fun _ Dc => Dc) (fun i => i.1 ≤ offs.length ∧ i.2.2.pos ≤ bs.length ∧ zeroI i.2.1 (offs.drop i.1) ∧ (offs.drop i.1).Nodup ∧ intsP bs (offs.drop i.1) i.2 = intsP bs offs (cells, s0)) (fun i => offs.length - i.1) (0, cells, s0) ⟨G, G, G, trivial⟩ (Sc 0 G (Sc 1 G (Sc 2 G Sn))) ⟨Nat.zero_le _, hp, hz, hn, G⟩ ⟨G, G, G, G, trivial⟩ G (Sc 0 G (Sc 1 G (Sc 2 G Sn))) ?_
 rintro ⟨i, c, s⟩ ⟨hi, hs, hc, hd, he⟩
 simp only at hi hs hc hd he
 refine sq<|rg<|ltI G G G<|nl<|nx<|sq<|cdP G (fun h9 => ?_) (fun h9 => ?_)
 ·
  have hi2 : i < offs.length := by rw [ptrs_len] at h9; omega
  rw [drop_cons hi2] at hc hd he
  have ho := lt_of_at (hc _ (List.mem_cons_self ..))
  refine sk<|nx<|sq<|bk<|sq<|rg<|ixP 2 G G G slt_297 (by omega) (ptrs_at hi2) G fun v10 => ldV 0 G G one_243 G fun w11 => ?_
  refine asg G G<|nl<|nx<|bk<|sq<|rg<|mv G G<|cf1 1 (stopped_c pv bv p s) ok_295 G G (Sc 1 G Sn) G fun _ v21 h21 => ?_
  have h21 : v21 = .bool (stopB s) := h21
  subst h21
  refine asg G G<|nl<|nx<|cdB G (fun h19 => ?_) (fun h19 => ?_)
  ·
   refine sk<|bN<|bN<|nx<|rg<|adI G G (inI (by omega) (by omega)) G<|mv G G<|nl ?_
   exact ag ((i + 1, c, s) : Nat × List Value × Rd) ⟨by omega, hs, fun x hx => hc x (List.mem_cons_of_mem _ hx), (List.nodup_cons.1 hd).2, (intsP_stop ((stopB_iff s).1 h19) (hc _ (List.mem_cons_self ..))).symm.trans he⟩ (by show _ - _ < _ - _; omega) ⟨G, G, G, G, trivial⟩ G (Sc 1 G (Sc 2 G (Sc 3 G Sn)))
  ·
   have hf := (stopB_not s).1 (by simpa using h19)
   refine sq<|rg<|mv G G<|ncP 1 G G G<|faP (α := Tpen) (β := RawP) 1 (fun x : Tpen => x.fIn) G G fld_314_0 ppen_0 G fun v25 => ldV 0 G G one_311 G fun w26 => ?_
   refine eqP Tryz.underlying311 G G G<|asg G G<|nl<|nx<|cdF G<|rg<|mv G G<|mv G G<|ncP 2 G G G<|faP (α := Tpen) (β := RawP) 2 (fun x : Tpen => x.fIn) G G fld_314_0 ppen_0 G fun v15 => ldV 0 G G one_311 G fun w16 => ?_
   refine cf1 1 (Rdr.int_r p bv bs s (rdInt bs s).2 (rdInt bs s).1 hs G) ok_298 G G (Sc 4 G Sn) G fun _ v17 h17 => ?_
   have h17 : v17 = .int .i64 (rdInt bs s).1 := h17
   subst h17
   refine nc G G<|stB 0 G G G one_3 G ho<|nl<|bN<|bN<|nx<|rg<|adI G G (inI (by omega) (by omega)) G<|mv G G<|nl ?_
   exact ag ((i + 1, c.set (offs.getD i 0) (.int .i64 (rdInt bs s).1), (rdInt bs s).2) : Nat × List Value × Rd) ⟨by omega, rdInt_pos hs, zero_set (α := Nat) hd (fun x hx => hc x (List.mem_cons_of_mem _ hx)), (List.nodup_cons.1 hd).2, he⟩ (by show _ - _ < _ - _; omega) ⟨G, G, G, G, trivial⟩ G (Sc 3 G (Sc 4 G (Sc 5 G Sn)))
 ·
  have hi2 : i = offs.length := by rw [ptrs_len] at h9; omega
  subst hi2
  rw [List.drop_length] at he
  have he : (c, s) = intsP bs offs (cells, s0) := he
  rw [← he]
  exact ex<|tE<|tE<|bE<|fR0N () G trivial G Sn

theorem errno_p (pv bv : Value) (p : Nat) (bs : List UInt8) (s : Rd) (b T : Nat) (cells : List Value) (o : Nat) (hp : s.pos ≤ bs.length) (hz : cells[o]? = some (.int .i64 0)) : Fnc Tryz.prog 304 [pv, .pointer (some ⟨b, o, none⟩)] [bl b T cells, rdr p bv s] [⟨pv, (⟨⟨p⟩⟩ : Pt Tpen)⟩, ⟨bv, bs⟩] (fun (_ : Unit) _ => True) (fun _ _ => [bl b T (cells.set o (.int .i64 (rdInt bs s).1)), rdr p bv (rdInt bs s).2]) (fun _ _ => []) := by
 refine Fnc.proof Tryz.func304 G 14 G G fun X w => ?_
 have ho := lt_of_at hz
 refine sq<|rg<|mv G G<|nc G G<|ldB 0 G G one_38 hz G<|al zero_3 G fun b4 => stB 0 G G G one_3 G (by decide)<|nl<|nx<|sq<|rg<|mv G G<|bs1 (xs := [.tmp 4]) (us := [.pointer (some ⟨b4, 0, none⟩)]) (E := 243) (bytes := 8) (n := 1) G (by exact app_297) G G G G G G fun b9 => frS (ptrs b4 [0]) ([0].map fun o => [.pointer (some ⟨b4, o, none⟩)]) G (fun S w h => ptrs_rd S w _) (Nat.le_of_ble_eq_true G) ?_
 exact mtL 2 G<|mtL 1 G<|cfP (L0 := [bl b4 3 [.int .i64 0], rdr p bv s]) (Lr := [bl b T cells, fz X w]) (int_p pv bv _ p bs s b4 3 [.int .i64 0] [0] hp (by intro o ho; simp only [List.mem_cons, List.not_mem_nil, or_false] at ho; subst ho; rfl) (by decide)) ok_261 G G (Sc 1 G (Sc 2 G (Sc 0 G Sn))) G fun _ v10 h10 => nl<|nx<|rg<|mv G G<|ldB 0 G G one_3 (show _ = some (.int .i64 (rdInt bs s).1) from G) G<|nc G G<|stB 2 G G G one_38 G ho<|nl<|dpQ<|mtQ 1 G<|fR0N () G trivial G Sn

theorem flag_p (pv bv : Value) (p : Nat) (bs : List UInt8) (s : Rd) (b T : Nat) (cells : List Value) (o : Nat) (hp : s.pos ≤ bs.length) (hz : cells[o]? = some (.bool false)) : Fnc Tryz.prog 262 [pv, .pointer (some ⟨b, o, none⟩)] [bl b T cells, rdr p bv s] [⟨pv, (⟨⟨p⟩⟩ : Pt Tpen)⟩, ⟨bv, bs⟩] (fun (_ : Unit) _ => True) (fun _ _ => [bl b T (cells.set o (.bool (rdFlag bs s).1)), rdr p bv (rdFlag bs s).2]) (fun _ _ => []) := by
 refine Fnc.proof Tryz.func262 G 37 G G fun X w => ?_
 have ho := lt_of_at hz
 refine bk<|sq<|rg<|mv G G<|cf1 1 (stopped_c pv bv p s) ok_295 G G (Sc 0 G Sn) G fun _ v13 h13 => ?_
 have h13 : v13 = .bool (stopB s) := h13
 subst h13
 refine asg G G<|nl<|nx<|cdB G (fun h11 => ?_) (fun h11 => ?_)
 ·
  have hf := (stopB_iff s).1 h11
  exact sk<|bN<|fR0N () G trivial (by rw [rdFlag_stop1 hf, rdFlag_stop hf, set_same hz]; rfl) Sn
 ·
  refine sq<|rg<|mv G G<|ncP 0 G G G<|faP (α := Tpen) (β := RawP) 0 (fun x : Tpen => x.fIn) G G fld_314_0 ppen_0 G fun v17 => ldV 0 G G one_311 G fun w18 => ?_
  refine eqP Tryz.underlying311 G G G<|mv G G<|gN G G G G G<|gN G G G G G<|gN G G G G G<|pkF G G G<|asg G G<|nl<|nx<|cdF G<|sq<|rg<|mv G G<|ncP 1 G G G ?_
  refine faP (α := Tpen) (β := RawP) 1 (fun x : Tpen => x.fIn) G G fld_314_0 ppen_0 G fun v31 => ldV 0 G G one_311 G fun w32 => ?_
  refine eqP Tryz.underlying311 G G G<|asg G G<|nl<|nx<|cdF G<|rg<|mv G G<|mv G G<|ncP 2 G G G<|faP (α := Tpen) (β := RawP) 2 (fun x : Tpen => x.fIn) G G fld_314_0 ppen_0 G fun v7 => ldV 0 G G one_311 G fun w8 => ?_
  refine cf1 1 (Rdr.flag_r p bv bs s hp) ok_299 G G (Sc 4 G Sn) G fun _ v9 h9 => ?_
  have h9 : v9 = .bool (rdFlag bs s).1 := h9
  subst h9
  exact nc G G<|stB 0 G G G one_4 G ho<|nl<|bN<|fR0N () G trivial G Sn

theorem bytes_p (pv bv : Value) (p : Nat) (bs : List UInt8) (s : Rd) (b T : Nat) (cells : List Value) (o : Nat) (u : Value) (hp : s.pos ≤ bs.length) (hu : cells[o]? = some u) : Fnc Tryz.prog 275 [pv, .pointer (some ⟨b, o, none⟩)] [bl b T cells, rdr p bv s] [⟨pv, (⟨⟨p⟩⟩ : Pt Tpen)⟩, ⟨bv, bs⟩, ⟨u, ([] : List UInt8)⟩] (fun (_ : Value) _ => True) (fun y _ => [bl b T (cells.set o y), rdr p bv (rdText bs 65535 s).2]) (fun y _ => [⟨y, (rdText bs 65535 s).1⟩]) := by
 refine Fnc.proof Tryz.func275 G 35 G G fun X w => ?_
 have ho := lt_of_at hu
 refine bk<|sq<|rg<|mv G G<|cf1 1 (stopped_c pv bv p s) ok_295 G G (Sc 0 G Sn) G fun _ v12 h12 => ?_
 have h12 : v12 = .bool (stopB s) := h12
 subst h12
 refine asg G G<|nl<|nx<|cdB G (fun h10 => ?_) (fun h10 => ?_)
 ·
  have hf := (stopB_iff s).1 h10
  exact sk<|bN<|fR0N u G trivial (by rw [rdText_stop hf, set_same hu]; rfl) (by rw [rdText_stop1 hf]; exact (SubD.cons 2 rfl SubD.nil))
 ·
  refine sq<|rg<|mv G G<|ncP 0 G G G<|faP (α := Tpen) (β := RawP) 0 (fun x : Tpen => x.fIn) G G fld_314_0 ppen_0 G fun v16 => ldV 0 G G one_311 G fun w17 => ?_
  refine neP Tryz.underlying311 G G G<|asg G G<|nl<|nx<|cdT G<|rg<|mv G G<|mv G G<|ncP 1 G G G<|faP (α := Tpen) (β := RawP) 1 (fun x : Tpen => x.fIn) G G fld_314_0 ppen_0 G fun v22 => ldV 0 G G one_311 G fun w23 => ?_
  refine cf1 1 (Rdr.text_r p bv bs s 65535 (inI (by omega) (by omega)) (by omega) hp) ok_306 G G (Sc 3 G Sn) G fun _ v24 _ => ?_
  
  exact nc G G<|stL 0 0 G G G G one_35 ho<|nl<|bN<|fR0N v24 G trivial G (Sc 0 G Sn)

theorem text_p (pv bv sv : Value) (p : Nat) (bs : List UInt8) (s0 : Rd) (b T : Nat) (cells : List Value) (offs : List Nat) (hp : s0.pos ≤ bs.length) (hz : zeroS cells offs) (hn : offs.Nodup) : Fnc Tryz.prog 263 [pv, sv] [bl b T cells, rdr p bv s0] [⟨pv, (⟨⟨p⟩⟩ : Pt Tpen)⟩, ⟨bv, bs⟩, ⟨sv, ptrs b offs⟩] (fun (_ : Unit) _ => True) (fun _ _ => [bl b T (textsP bs offs (cells, s0)).1, rdr p bv (textsP bs offs (cells, s0)).2]) (fun _ _ => []) := by
 refine Fnc.proof Tryz.func263 G 44 G G fun X w => sq<|rg<|mv G G<|lnP 2 G G Tryz.underlying348 G fun l8 => mv G G<|nl<|nx<|bk<|lpE (σ := Nat × List Value × Rd) [(0, _), (7, _), (8, _)] _ (fun i C => (9, .int .i64 (i.1 : Int)) :: C) (fun i => [bl b T i.2.1, rdr p bv i.2.2, fz X w]) (fun _ Dc => Dc) (fun i => i.1 ≤ offs.length ∧ i.2.2.pos ≤ bs.length ∧ zeroS i.2.1 (offs.drop i.1) ∧ (offs.drop i.1).Nodup ∧ textsP bs (offs.drop i.1) i.2 = textsP bs offs (cells, s0)) (fun i => offs.length - i.1) (0, cells, s0) ⟨G, G, G, trivial⟩ (Sc 0 G (Sc 1 G (Sc 2 G Sn))) ⟨Nat.zero_le _, hp, hz, hn, G⟩ ⟨G, G, G, G, trivial⟩ G (Sc 0 G (Sc 1 G (Sc 2 G Sn))) ?_
 rintro ⟨i, c, s⟩ ⟨hi, hs, hc, hd, he⟩
 simp only at hi hs hc hd he
 refine sq<|rg<|ltI G G G<|nl<|nx<|sq<|cdP G (fun h10 => ?_) (fun h10 => ?_)
 ·
  have hi2 : i < offs.length := by rw [ptrs_len] at h10; omega
  rw [drop_cons hi2] at hc hd he
  have ho := lt_of_at (hc _ (List.mem_cons_self ..))
  refine sk<|nx<|sq<|bk<|sq<|rg<|ixP 2 G G G slt_348 (by omega) (ptrs_at hi2) G fun v11 => ldV 0 G G one_247 G fun w12 => ?_
  refine asg G G<|nl<|nx<|sq<|sq<|rg<|mv G G<|ncP 1 G G G<|faP (α := Tpen) (β := RawP) 1 (fun x : Tpen => x.fIn) G G fld_314_0 ppen_0 G fun v15 => ldV 0 G G one_311 G fun w16 => ?_
  refine eqP Tryz.underlying311 G G G<|mv G G<|gN G G G G G<|gN G G G G G<|gN G G G G G<|gN G G G G G<|gN G G G G G<|pkF G G G<|nl<|nx<|cdF G<|sk<|nx<|sq ?_
  refine rg<|mv G G<|nc G G<|ldB 0 G G one_9 (hc _ (List.mem_cons_self ..)) G<|csb Tryz.underlying9 Tryz.underlying35 Tryz.underlying5 G (by decide) G fun v31 => al zero_35 G fun b6 => stL 0 0 G G G G one_35 (Nat.lt_of_lt_of_le (Nat.lt_succ_self _) (Nat.le_of_ble_eq_true G))<|nl<|nx<|sq<|rg<|mv G G<|mtL 2 G<|mtL 1 G ?_
  refine cfP (L0 := [bl b6 35 [v31], rdr p bv s]) (Lr := [bl b T c, fz X w]) (bytes_p pv bv p bs s b6 35 [v31] 0 v31 hs G) ok_275 G G (Sc 3 G (Sc 4 G (Sc 0 G Sn))) G fun y v33 h33 => nl<|nx<|sq<|rg<|mv G G<|ncP 4 G G G<|faP (α := Tpen) (β := RawP) 4 (fun x : Tpen => x.fIn) G G fld_314_0 ppen_0 G fun v36 => ldV 0 G G one_311 G fun w37 => ?_
  refine neP Tryz.underlying311 G G G<|nl<|nx<|cdT G<|rg<|mv G G<|ldB 0 G G one_35 (show _ = some y from G) G<|cbs 1 Tryz.underlying35 Tryz.underlying5 Tryz.underlying9 G G G<|nc G G<|stB 2 G G G one_9 G ho<|nl<|bN<|nx<|rg ?_
  refine adI G G (inI (by omega) (by omega)) G<|mv G G<|nl<|dpQ<|mtQ 1 G ?_
  exact ag ((i + 1, c.set (offs.getD i 0) (.string ⟨(rdText bs 65535 s).1.toArray⟩), (rdText bs 65535 s).2) : Nat × List Value × Rd) ⟨by omega, rdText_pos hs, zero_set (α := Nat) hd (fun x hx => hc x (List.mem_cons_of_mem _ hx)), (List.nodup_cons.1 hd).2, he⟩ (by show _ - _ < _ - _; omega) ⟨G, G, G, G, trivial⟩ G (Sc 5 G (Sc 6 G (Sc 7 G Sn)))
 ·
  have hi2 : i = offs.length := by rw [ptrs_len] at h10; omega
  subst hi2
  rw [List.drop_length] at he
  have he : (c, s) = textsP bs offs (cells, s0) := he
  rw [← he]
  exact ex<|tE<|tE<|bE<|fR0N () G trivial G Sn
end Go.Proofs.YtmpoffijcfaalaaGreat.Pen

/- What pens leave is what is read: written by specs3.py. No program. -/

namespace Go.YtmpoffijcfaalaaGreat
open Go.Eng

theorem gdHolder_eq (bs : List UInt8) (s : Rd) : (intsP bs [0, 1, 2, 3] (([.int .i64 0, .int .i64 0, .int .i64 0, .int .i64 0] : List Value), s)) = (cHolder (gdHolder bs s).1, (gdHolder bs s).2) := by
  simp only [intsP, gdHolder, bnd, List.set_cons_zero, List.set_cons_succ]
theorem gdEnd_eq (bs : List UInt8) (s : Rd) : (intsP bs [0, 1] (([.int .i64 0, .int .i64 0] : List Value), s)) = (cEnd (gdEnd bs s).1, (gdEnd bs s).2) := by
  simp only [intsP, gdEnd, bnd, List.set_cons_zero, List.set_cons_succ]
theorem gdDeal_eq (bs : List UInt8) (s : Rd) : (intsP bs [4, 5, 6, 7] (textsP bs [2, 3] (intsP bs [0, 1] (([.int .i64 0, .int .i64 0, .string ByteArray.empty, .string ByteArray.empty, .int .i64 0, .int .i64 0, .int .i64 0, .int .i64 0] : List Value), s)))) = (cDeal (gdDeal bs s).1, (gdDeal bs s).2) := by
  simp only [intsP, textsP, gdDeal, bnd, List.set_cons_zero, List.set_cons_succ]
theorem gdMark_eq (bs : List UInt8) (s : Rd) : (intsP bs [4, 5, 6] (intsP bs [3] (flagP bs 2 (intsP bs [0, 1] (([.int .i64 0, .int .i64 0, .bool false, .int .i64 0, .int .i64 0, .int .i64 0, .int .i64 0] : List Value), s))))) = (cMark (gdMark bs s).1, (gdMark bs s).2) := by
  simp only [intsP, flagP, gdMark, gdAnswer, bnd, List.set_cons_zero, List.set_cons_succ]
theorem gdWait_eq (bs : List UInt8) (s : Rd) : (opPr bs 5 (intsP bs [0, 1, 2, 3, 4] (([.int .i64 0, .int .i64 0, .int .i64 0, .int .i64 0, .int .i64 0, .int .i64 0, .string ByteArray.empty, .string ByteArray.empty, .int .i64 0, .int .i64 0, .int .i64 0] : List Value), s))) = (cWait (gdWait bs s).1, (gdWait bs s).2) := by
  simp only [intsP, textsP, opPr, gdWait, gdOp, bnd, List.set_cons_zero, List.set_cons_succ, Nat.reduceAdd]
theorem gdAccount_eq (bs : List UInt8) (s : Rd) (y33 : Value) : (intsP bs [6, 7, 8, 9] (setL 5 y33 (rdLs bs (gdHolder bs)) (intsP bs [1, 2, 3, 4] (textsP bs [0] (([.string ByteArray.empty, .int .i64 0, .int .i64 0, .int .i64 0, .int .i64 0, .slice none 0 0, .int .i64 0, .int .i64 0, .int .i64 0, .int .i64 0] : List Value), s))))) = (cAccount (gdAccount bs s).1 y33, (gdAccount bs s).2) := by
  simp only [intsP, textsP, setL, gdAccount, gdSpan, gdLock, bnd, List.set_cons_zero, List.set_cons_succ]
theorem gdAccount_l0 (bs : List UInt8) (s : Rd) (y33 : Value) : (rdLs bs (gdHolder bs) (intsP bs [1, 2, 3, 4] (textsP bs [0] (([.string ByteArray.empty, .int .i64 0, .int .i64 0, .int .i64 0, .int .i64 0, .slice none 0 0, .int .i64 0, .int .i64 0, .int .i64 0, .int .i64 0] : List Value), s))).2).1 = (gdAccount bs s).1.fHolders := by
  simp only [intsP, textsP, gdAccount, gdSpan, gdLock, bnd, List.set_cons_zero, List.set_cons_succ]
theorem gdState_eq (bs : List UInt8) (s : Rd) (y39 y46 y53 y60 y67 y82 : Value) : (intsP bs [26, 27, 28] (setL 25 y82 (rdText bs 65535) (planPr bs 18 (planPr bs 11 (setL 10 y67 (rdLs bs (gdEnd bs)) (setL 9 y60 (rdLs bs (gdDeal bs)) (setL 8 y53 (rdLs bs (gdWait bs)) (setL 7 y46 (rdLs bs (gdMark bs)) (setL 6 y39 (rdLs bs (gdAccount bs)) (intsP bs [5] (textsP bs [3, 4] (flagP bs 2 (intsP bs [0, 1] (([.int .i64 0, .int .i64 0, .bool false, .string ByteArray.empty, .string ByteArray.empty, .int .i64 0, .slice none 0 0, .slice none 0 0, .slice none 0 0, .slice none 0 0, .slice none 0 0, .int .i64 0, .int .i64 0, .int .i64 0, .string ByteArray.empty, .string ByteArray.empty, .int .i64 0, .int .i64 0, .int .i64 0, .int .i64 0, .int .i64 0, .string ByteArray.empty, .string ByteArray.empty, .int .i64 0, .int .i64 0, .slice none 0 0, .int .i64 0, .int .i64 0, .int .i64 0] : List Value), s)))))))))))))) = (cState (gdState bs s).1 y39 y46 y53 y60 y67 y82, (gdState bs s).2) := by
  simp only [intsP, textsP, flagP, setL, planPr, gdState, gdPlan, gdPlan, bnd, List.set_cons_zero, List.set_cons_succ, Nat.reduceAdd]
theorem gdState_l0 (bs : List UInt8) (s : Rd) (y39 y46 y53 y60 y67 y82 : Value) : (rdLs bs (gdAccount bs) (intsP bs [5] (textsP bs [3, 4] (flagP bs 2 (intsP bs [0, 1] (([.int .i64 0, .int .i64 0, .bool false, .string ByteArray.empty, .string ByteArray.empty, .int .i64 0, .slice none 0 0, .slice none 0 0, .slice none 0 0, .slice none 0 0, .slice none 0 0, .int .i64 0, .int .i64 0, .int .i64 0, .string ByteArray.empty, .string ByteArray.empty, .int .i64 0, .int .i64 0, .int .i64 0, .int .i64 0, .int .i64 0, .string ByteArray.empty, .string ByteArray.empty, .int .i64 0, .int .i64 0, .slice none 0 0, .int .i64 0, .int .i64 0, .int .i64 0] : List Value), s))))).2).1 = (gdState bs s).1.fAccounts := by
  simp only [intsP, textsP, flagP, gdState, gdPlan, gdPlan, bnd, List.set_cons_zero, List.set_cons_succ]
theorem gdState_l1 (bs : List UInt8) (s : Rd) (y39 y46 y53 y60 y67 y82 : Value) : (rdLs bs (gdMark bs) (setL 6 y39 (rdLs bs (gdAccount bs)) (intsP bs [5] (textsP bs [3, 4] (flagP bs 2 (intsP bs [0, 1] (([.int .i64 0, .int .i64 0, .bool false, .string ByteArray.empty, .string ByteArray.empty, .int .i64 0, .slice none 0 0, .slice none 0 0, .slice none 0 0, .slice none 0 0, .slice none 0 0, .int .i64 0, .int .i64 0, .int .i64 0, .string ByteArray.empty, .string ByteArray.empty, .int .i64 0, .int .i64 0, .int .i64 0, .int .i64 0, .int .i64 0, .string ByteArray.empty, .string ByteArray.empty, .int .i64 0, .int .i64 0, .slice none 0 0, .int .i64 0, .int .i64 0, .int .i64 0] : List Value), s)))))).2).1 = (gdState bs s).1.fMarks := by
  simp only [intsP, textsP, flagP, setL, gdState, gdPlan, gdPlan, bnd, List.set_cons_zero, List.set_cons_succ]
theorem gdState_l2 (bs : List UInt8) (s : Rd) (y39 y46 y53 y60 y67 y82 : Value) : (rdLs bs (gdWait bs) (setL 7 y46 (rdLs bs (gdMark bs)) (setL 6 y39 (rdLs bs (gdAccount bs)) (intsP bs [5] (textsP bs [3, 4] (flagP bs 2 (intsP bs [0, 1] (([.int .i64 0, .int .i64 0, .bool false, .string ByteArray.empty, .string ByteArray.empty, .int .i64 0, .slice none 0 0, .slice none 0 0, .slice none 0 0, .slice none 0 0, .slice none 0 0, .int .i64 0, .int .i64 0, .int .i64 0, .string ByteArray.empty, .string ByteArray.empty, .int .i64 0, .int .i64 0, .int .i64 0, .int .i64 0, .int .i64 0, .string ByteArray.empty, .string ByteArray.empty, .int .i64 0, .int .i64 0, .slice none 0 0, .int .i64 0, .int .i64 0, .int .i64 0] : List Value), s))))))).2).1 = (gdState bs s).1.fWaits := by
  simp only [intsP, textsP, flagP, setL, gdState, gdPlan, gdPlan, bnd, List.set_cons_zero, List.set_cons_succ]
theorem gdState_l3 (bs : List UInt8) (s : Rd) (y39 y46 y53 y60 y67 y82 : Value) : (rdLs bs (gdDeal bs) (setL 8 y53 (rdLs bs (gdWait bs)) (setL 7 y46 (rdLs bs (gdMark bs)) (setL 6 y39 (rdLs bs (gdAccount bs)) (intsP bs [5] (textsP bs [3, 4] (flagP bs 2 (intsP bs [0, 1] (([.int .i64 0, .int .i64 0, .bool false, .string ByteArray.empty, .string ByteArray.empty, .int .i64 0, .slice none 0 0, .slice none 0 0, .slice none 0 0, .slice none 0 0, .slice none 0 0, .int .i64 0, .int .i64 0, .int .i64 0, .string ByteArray.empty, .string ByteArray.empty, .int .i64 0, .int .i64 0, .int .i64 0, .int .i64 0, .int .i64 0, .string ByteArray.empty, .string ByteArray.empty, .int .i64 0, .int .i64 0, .slice none 0 0, .int .i64 0, .int .i64 0, .int .i64 0] : List Value), s)))))))).2).1 = (gdState bs s).1.fDeals := by
  simp only [intsP, textsP, flagP, setL, gdState, gdPlan, gdPlan, bnd, List.set_cons_zero, List.set_cons_succ]
theorem gdState_l4 (bs : List UInt8) (s : Rd) (y39 y46 y53 y60 y67 y82 : Value) : (rdLs bs (gdEnd bs) (setL 9 y60 (rdLs bs (gdDeal bs)) (setL 8 y53 (rdLs bs (gdWait bs)) (setL 7 y46 (rdLs bs (gdMark bs)) (setL 6 y39 (rdLs bs (gdAccount bs)) (intsP bs [5] (textsP bs [3, 4] (flagP bs 2 (intsP bs [0, 1] (([.int .i64 0, .int .i64 0, .bool false, .string ByteArray.empty, .string ByteArray.empty, .int .i64 0, .slice none 0 0, .slice none 0 0, .slice none 0 0, .slice none 0 0, .slice none 0 0, .int .i64 0, .int .i64 0, .int .i64 0, .string ByteArray.empty, .string ByteArray.empty, .int .i64 0, .int .i64 0, .int .i64 0, .int .i64 0, .int .i64 0, .string ByteArray.empty, .string ByteArray.empty, .int .i64 0, .int .i64 0, .slice none 0 0, .int .i64 0, .int .i64 0, .int .i64 0] : List Value), s))))))))).2).1 = (gdState bs s).1.fEnds := by
  simp only [intsP, textsP, flagP, setL, gdState, gdPlan, gdPlan, bnd, List.set_cons_zero, List.set_cons_succ]
theorem gdState_l5 (bs : List UInt8) (s : Rd) (y39 y46 y53 y60 y67 y82 : Value) : (rdText bs 65535 (planPr bs 18 (planPr bs 11 (setL 10 y67 (rdLs bs (gdEnd bs)) (setL 9 y60 (rdLs bs (gdDeal bs)) (setL 8 y53 (rdLs bs (gdWait bs)) (setL 7 y46 (rdLs bs (gdMark bs)) (setL 6 y39 (rdLs bs (gdAccount bs)) (intsP bs [5] (textsP bs [3, 4] (flagP bs 2 (intsP bs [0, 1] (([.int .i64 0, .int .i64 0, .bool false, .string ByteArray.empty, .string ByteArray.empty, .int .i64 0, .slice none 0 0, .slice none 0 0, .slice none 0 0, .slice none 0 0, .slice none 0 0, .int .i64 0, .int .i64 0, .int .i64 0, .string ByteArray.empty, .string ByteArray.empty, .int .i64 0, .int .i64 0, .int .i64 0, .int .i64 0, .int .i64 0, .string ByteArray.empty, .string ByteArray.empty, .int .i64 0, .int .i64 0, .slice none 0 0, .int .i64 0, .int .i64 0, .int .i64 0] : List Value), s)))))))))))).2).1 = (gdState bs s).1.fImage := by
  simp only [intsP, textsP, flagP, setL, planPr, gdState, gdPlan, gdPlan, bnd, List.set_cons_zero, List.set_cons_succ, Nat.reduceAdd]
end Go.YtmpoffijcfaalaaGreat
