/- Part 13 of auditPlays_holds. -/
import Derived.Test.YtmpoffijcfaalaaGreatAp12

set_option maxRecDepth 20000
set_option maxHeartbeats 1000000
namespace Go.Proofs.YtmpoffijcfaalaaGreat.Ref
open Go.Eng Go.YtmpoffijcfaalaaGreat
section
attribute [local irreducible] gdSpan gdLock gdHolder gdAnswer gdOp gdPlan gdEnd gdMark gdDeal gdWait gdAccount gdState rdInt rdText rdFlag rdCount
variable (pv bv : Value) (p : Nat) (bs : List UInt8) (s0 : Rd) (b T : Nat) (q : List Value × Rd) (cells : List Value) (o : Nat)
theorem listHolder_p (hp : s0.pos ≤ bs.length) (hz : cells[o]? = some nS) : Fnc Pg 291 [pv, .pointer (some ⟨b, o, none⟩)] [bl b T cells, rd2 p bv s0] [⟨pv, (⟨⟨p⟩⟩ : Pt TWalk)⟩, ⟨bv, bs⟩] (fun (_ : Value) _ => True) (fun y _ => [bl b T (cells.set o y), rd2 p bv (rdLs bs (gdHolder bs) s0).2]) (fun y _ => [⟨y, (rdLs bs (gdHolder bs) s0).1⟩]) := by
 refine Fnc.proof Tryz.func291 G 55 G G fun X w => ?_
 obtain ⟨c0, rfl⟩ : ∃ c0 : List Value, cells = c0.set o nS := ⟨cells, (set_same hz).symm⟩
 have ho : o < c0.length := by have := lt_of_at hz; rwa [List.length_set] at this
 have hNle := rdCount_le' bs s0
 refine qg<|ru 2 G<|ldB 0 G G (Og G) hz G<|ru 1 G<|nl<|nx<|qg<|ru 2 G<|lnV G Tryz.underlying66 G<|cf1 1 (many_c pv bv p bs s0 _ hp) (Kg G) G G (Si [0,1] G) G fun _ v14 h14 => ?_
 have h14 : v14 = .int .i64 ((rdCount bs 1024 s0).1 : Int) := h14
 subst h14
 refine ru 1 G<|nl<|nx<|sq<|qg<|mv G G<|ncP 0 G G G<|faP (α := TWalk) (β := RawP) 0 (fun x : TWalk => x.fR) G G (Fg G) pWalk_1 G fun v17 => ldV 0 G G (Og G) G fun w18 => neP Tryz.underlying205 G G G<|nl<|nx<|cdT G<|rg<|ru 2 G<|stB 0 G G G (Og G) G (by rw [List.length_set]; exact ho) ?_
 rw [List.set_set]
 refine nl<|nx<|sa 1 G<|bk<|rwC THolder 165<|lpE (σ := Nat × Value × List THolder × Rd) [(0, _), (1, _), (4, _), (5, _)] _ (fun i C => (6, .int .i64 (i.1 : Int)) :: C) (fun i => [row 165 i.2.1 i.2.2.1, bl b T (c0.set o i.2.1), rd2 p bv i.2.2.2, fz X w]) (fun _ Dc => Dc) (fun i => i.1 ≤ (rdCount bs 1024 s0).1 ∧ i.2.2.1.length = i.1 ∧ i.2.2.2.pos ≤ bs.length ∧ rdLs bs (gdHolder bs) s0 = (i.2.2.1 ++ (rdMany (gdHolder bs) ((rdCount bs 1024 s0).1 - i.1) i.2.2.2).1, (rdMany (gdHolder bs) ((rdCount bs 1024 s0).1 - i.1) i.2.2.2).2)) (fun i => (rdCount bs 1024 s0).1 - i.1) (0, .slice none 0 0, [], (rdCount bs 1024 s0).2) (Gs G) (Sc 1 G (Sc 2 G Sn)) ⟨Nat.zero_le _, G, rdCount_pos hp, G⟩ (Gs G) G (Sc 1 G (Sc 2 G Sn)) ?_
 rintro ⟨i, rv, acc, s⟩ ⟨hi, hl, hs, he⟩
 simp only at hi hl hs he
 refine sq<|qg<|ru 4 G ?_
 refine jy 25 3 [0,1,4,5,6] G G (fun h25 K28 => by
  have p25 := of_decide_eq_true h25
  refine ru 1 G<|gY G G G<|cf1 2 (more_c pv bv p s) (Kg G) G G (Sc 0 G Sn) G fun _ v27 h27 => ?_
  have h27 : v27 = .bool (decide ((s.fault : Int) = 0)) := h27
  subst h27
  exact ru 1 G<|K28 G Sr) ?_
 refine nl<|nx<|cdB G (fun h28 => ?_) (fun h28 => ?_)
 ·
  have q28 := h28
  simp at q28
  obtain ⟨q1, q2⟩ := q28
  have hf : s.fault = 0 := by omega
  have hl1 : [(gdHolder bs s).1].length = 1 := rfl
  refine sk<|nx<|sq<|bk<|qg<|al zero_165 G fun b7 => nl<|nx<|sq<|qg<|mv G G<|ncP 0 G G G<|faP (α := TWalk) (β := RawP) 0 (fun x : TWalk => x.fR) G G (Fg G) pWalk_1 G fun v33 => ldV 0 G G (Og G) G fun w34 => eqP Tryz.underlying205 G G G<|nl<|nx<|cdF G<|sk<|nx<|qg<|mv G G<|mtL 3 G<|mtL 1 G<|cfN 2 (holder_e pv bv p bs s b7 hs) (Kg G) G G (Si [1,2] G) G fun _ _ _ => nl<|nx<|qg<|mv G G<|ncP 1 G G G<|faP (α := TWalk) (β := RawP) 1 (fun x : TWalk => x.fR) G G (Fg G) pWalk_1 G fun v44 => ldV 0 G G (Og G) G fun w45 => neP Tryz.underlying205 G G G<|nl<|nx<|cdT G<|rgZ (L := [bl b7 165 (cHolder (gdHolder bs s).1), rd2 p bv (gdHolder bs s).2, row 165 rv acc, bl b T (c0.set o rv), fz X w]) [(4,.ld 0)] [(3,⟨some (rv),fun _ => [],false⟩),(5,⟨none,fun u => [⟨u, [(gdHolder bs s).1]⟩],false⟩),(6,⟨none,fun _ => [],true⟩),(8,⟨none,fun _ => [],true⟩)] [] [] [(6,fun L zz => rpE 2 (row 165 (zz 6) (acc ++ [(gdHolder bs s).1])) L),(8,fun L zz => rpE 1 (bl b T ((c0.set o rv).set o (zz 6))) L)] (fun _ => G) (fun _ => by kernel_rfl) ⟨fun V De _=>aP1 (ldB 3 G G (Og G) (set_at ho) G<|oh G G G G),fun V De _=>aP1 (bsM G app_66 G G G G fun b52 => frS1 (α := THolder) (gdHolder bs s).1 (fun S w h => ⟨(), G, by simp, gdHolder_wf bs s⟩)<|nl (odH G G G trivial (Sc 0 G Sn) (SubD.tail Sr))),fun V De _=>aP1 (ap 2 0 G G G G app_66 (by omega) (by omega) G fun v53 => nl (odH G G G trivial Sn (SubD.tail Sr))),fun V De _=>aP1 (stR 3 2 G G G G (Og G) (by rw [List.length_set]; exact ho)<|nl (od0H G G Sr)),trivial⟩ fun V _ => wD [1,2,3,4] G<|?_
  generalize V 6 = v0
  refine bN<|nx<|rg<|mv G G<|adI G G inI G<|ru 1 G<|nl<|dpQ<|mtQ 2 G<|mtQ 2 G ?_
  exact ag ((i + 1, v0, acc ++ [(gdHolder bs s).1], (gdHolder bs s).2) : Nat × Value × List THolder × Rd) ⟨by omega, by simp [hl], gdHolder_pos hs, rdMany_step (by omega) hf he⟩ (by show _ - _ < _ - _; omega) (Gs G) (by simp only [List.set_set]; rfl) (Si [2,3] G)
 ·
  have q28 := h28
  simp at q28
  have hN : rdMany (gdHolder bs) ((rdCount bs 1024 s0).1 - i) s = ([], s) := by
   by_cases hf : s.fault = 0
   ·
    by_cases hlt : i < (rdCount bs 1024 s0).1
    · exact absurd hf (q28 (by omega))
    ·
     have e : (rdCount bs 1024 s0).1 - i = 0 := by omega
     rw [e]
     rfl
   · exact rdMany_stop hf _
  rw [hN] at he
  simp only [List.append_nil] at he
  exact ex<|tE<|tE<|bE<|frRQ<|fR0N rv G trivial (by simp only [he, List.set_set, List.cons_append, List.nil_append] <;> rfl) (by simp only [he]; exact (SubD.cons 0 rfl SubD.nil))
theorem listHolder_q (hp : q.2.pos ≤ bs.length) (hz : q.1[o]? = some nS) : Fnc Pg 291 [pv, .pointer (some ⟨b, o, none⟩)] [bl b T q.1, rd2 p bv q.2] [⟨pv, (⟨⟨p⟩⟩ : Pt TWalk)⟩, ⟨bv, bs⟩] (fun (_ : Value) _ => True) (fun y _ => [bl b T (setL o y (rdLs bs (gdHolder bs)) q).1, rd2 p bv (setL o y (rdLs bs (gdHolder bs)) q).2]) (fun y _ => [⟨y, (rdLs bs (gdHolder bs) q.2).1⟩]) :=
 listHolder_p pv bv p bs q.2 b T q.1 o hp hz
theorem account_e (s : Rd) (b : Nat) (hp : s.pos ≤ bs.length) : Fnc Pg 252 [pv, .pointer (some ⟨b, 0, none⟩)] [bl b 70 zv5, rd2 p bv s] [⟨pv, (⟨⟨p⟩⟩ : Pt TWalk)⟩, ⟨bv, bs⟩] (fun (_ : Value) _ => True) (fun y _ => [bl b 70 (cAccount (gdAccount bs s).1 y), rd2 p bv (gdAccount bs s).2]) (fun y _ => [⟨y, (gdAccount bs s).1.fHolders⟩]) := by
 exact Fnc.proof Tryz.func252 G 33 G G fun X w => qg<|ru 4 G<|cfN 2 (text1_q pv bv p bs b 70 (zv5, s) 0 hp G) (Kg G) G G (Si [0,1] G) G fun _ _ _ => nl<|nx<|qg<|ru 4 G<|cfN 2 (span_q pv bv p bs b 70 (textsP bs [0] (zv5, s)) 1 (textsP_pos hp) G G) (Kg G) G G (Si [0,1] G) G fun _ _ _ => nl<|nx<|sq<|rgP b [3,4] [1,2,0] (fun u => int_q pv bv u p bs b 70 (spanPr bs 1 (textsP bs [0] (zv5, s))) [3, 4] (spanPr_pos (textsP_pos hp)) (zI G) (by decide)) (Kg G) app_297 G G (by kernel_rfl) (fun _ => G)<|nx<|qg<|ru 4 G<|cfN 2 (listHolder_q pv bv p bs b 70 (intsP bs [3, 4] (spanPr bs 1 (textsP bs [0] (zv5, s)))) 5 (intsP_pos (spanPr_pos (textsP_pos hp))) G) (Kg G) G G (Si [0,1] G) G fun y27 _ _ => nl<|nx<|rg<|ru 4 G<|cfN 2 (lock_q pv bv p bs b 70 (setL 5 y27 (rdLs bs (gdHolder bs)) (intsP bs [3, 4] (spanPr bs 1 (textsP bs [0] (zv5, s))))) 6 (setL_pos (rdLs_pos (fun _ hh => gdHolder_pos hh) (intsP_pos (spanPr_pos (textsP_pos hp))))) G G G G) (Kg G) G G (Si [1,2] G) G fun _ _ _ => nl<|fR0N y27 G trivial (by simp only [gwAccount_eq, List.cons_append, List.nil_append] <;> rfl) (by rw [← gwAccount_l0 bs s y27]; exact (SubD.cons 0 rfl SubD.nil))
theorem listAccount_p (hp : s0.pos ≤ bs.length) (hz : cells[o]? = some nS) : Fnc Pg 203 [pv, .pointer (some ⟨b, o, none⟩)] [bl b T cells, rd2 p bv s0] [⟨pv, (⟨⟨p⟩⟩ : Pt TWalk)⟩, ⟨bv, bs⟩] (fun (_ : Value) _ => True) (fun y _ => [bl b T (cells.set o y), rd2 p bv (rdLs bs (gdAccount bs) s0).2]) (fun y _ => [⟨y, (rdLs bs (gdAccount bs) s0).1⟩]) := by
 refine Fnc.proof Tryz.func203 G 55 G G fun X w => ?_
 obtain ⟨c0, rfl⟩ : ∃ c0 : List Value, cells = c0.set o nS := ⟨cells, (set_same hz).symm⟩
 have ho : o < c0.length := by have := lt_of_at hz; rwa [List.length_set] at this
 have hNle := rdCount_le' bs s0
 refine qg<|ru 2 G<|ldB 0 G G (Og G) hz G<|ru 1 G<|nl<|nx<|qg<|ru 2 G<|lnV G Tryz.underlying50 G<|cf1 1 (many_c pv bv p bs s0 _ hp) (Kg G) G G (Si [0,1] G) G fun _ v14 h14 => ?_
 have h14 : v14 = .int .i64 ((rdCount bs 1024 s0).1 : Int) := h14
 subst h14
 refine ru 1 G<|nl<|nx<|sq<|qg<|mv G G<|ncP 0 G G G<|faP (α := TWalk) (β := RawP) 0 (fun x : TWalk => x.fR) G G (Fg G) pWalk_1 G fun v17 => ldV 0 G G (Og G) G fun w18 => neP Tryz.underlying205 G G G<|nl<|nx<|cdT G<|rg<|ru 2 G<|stB 0 G G G (Og G) G (by rw [List.length_set]; exact ho) ?_
 rw [List.set_set]
 refine nl<|nx<|sa 1 G<|bk<|rwC TAccount 70<|lpE (σ := Nat × Value × List TAccount × Rd) [(0, _), (1, _), (4, _), (5, _)] _ (fun i C => (6, .int .i64 (i.1 : Int)) :: C) (fun i => [row 70 i.2.1 i.2.2.1, bl b T (c0.set o i.2.1), rd2 p bv i.2.2.2, fz X w]) (fun _ Dc => Dc) (fun i => i.1 ≤ (rdCount bs 1024 s0).1 ∧ i.2.2.1.length = i.1 ∧ i.2.2.2.pos ≤ bs.length ∧ rdLs bs (gdAccount bs) s0 = (i.2.2.1 ++ (rdMany (gdAccount bs) ((rdCount bs 1024 s0).1 - i.1) i.2.2.2).1, (rdMany (gdAccount bs) ((rdCount bs 1024 s0).1 - i.1) i.2.2.2).2)) (fun i => (rdCount bs 1024 s0).1 - i.1) (0, .slice none 0 0, [], (rdCount bs 1024 s0).2) (Gs G) (Sc 1 G (Sc 2 G Sn)) ⟨Nat.zero_le _, G, rdCount_pos hp, G⟩ (Gs G) G (Sc 1 G (Sc 2 G Sn)) ?_
 rintro ⟨i, rv, acc, s⟩ ⟨hi, hl, hs, he⟩
 simp only at hi hl hs he
 refine sq<|qg<|ru 4 G ?_
 refine jy 25 3 [0,1,4,5,6] G G (fun h25 K28 => by
  have p25 := of_decide_eq_true h25
  refine ru 1 G<|gY G G G<|cf1 2 (more_c pv bv p s) (Kg G) G G (Sc 0 G Sn) G fun _ v27 h27 => ?_
  have h27 : v27 = .bool (decide ((s.fault : Int) = 0)) := h27
  subst h27
  exact ru 1 G<|K28 G Sr) ?_
 refine nl<|nx<|cdB G (fun h28 => ?_) (fun h28 => ?_)
 ·
  have q28 := h28
  simp at q28
  obtain ⟨q1, q2⟩ := q28
  have hf : s.fault = 0 := by omega
  have hl1 : [(gdAccount bs s).1].length = 1 := rfl
  refine sk<|nx<|sq<|bk<|qg<|al zero_70 G fun b7 => nl<|nx<|sq<|qg<|mv G G<|ncP 0 G G G<|faP (α := TWalk) (β := RawP) 0 (fun x : TWalk => x.fR) G G (Fg G) pWalk_1 G fun v33 => ldV 0 G G (Og G) G fun w34 => eqP Tryz.underlying205 G G G<|nl<|nx<|cdF G<|sk<|nx<|qg<|mv G G<|mtL 3 G<|mtL 1 G<|cfN 2 (account_e pv bv p bs s b7 hs) (Kg G) G G (Si [1,2] G) G fun y7 _ _ => nl<|nx<|qg<|mv G G<|ncP 2 G G G<|faP (α := TWalk) (β := RawP) 2 (fun x : TWalk => x.fR) G G (Fg G) pWalk_1 G fun v44 => ldV 0 G G (Og G) G fun w45 => neP Tryz.underlying205 G G G<|nl<|nx<|cdT G<|rgZ (L := [bl b7 70 (cAccount (gdAccount bs s).1 y7), rd2 p bv (gdAccount bs s).2, row 70 rv acc, bl b T (c0.set o rv), fz X w]) [(4,.ld 0)] [(3,⟨some (rv),fun _ => [],false⟩),(5,⟨none,fun u => [⟨u, [(gdAccount bs s).1]⟩],false⟩),(6,⟨none,fun _ => [],true⟩),(8,⟨none,fun _ => [],true⟩)] [] [] [(6,fun L zz => rpE 2 (row 70 (zz 6) (acc ++ [(gdAccount bs s).1])) L),(8,fun L zz => rpE 1 (bl b T ((c0.set o rv).set o (zz 6))) L)] (fun _ => G) (fun _ => by kernel_rfl) ?_ fun V _ => ?_
  ·
   refine ⟨fun V De _=>aP1 (ldB 3 G G (Og G) (set_at ho) G<|oh G G G G),?_⟩
   refine ⟨fun V De _=>aP1 ?_,?_⟩
   ·
    refine bsM G app_50 G G G G fun b52 => ?_
    refine frS1 (α := TAccount) (gdAccount bs s).1 (fun S w h => ⟨y7, G, fun t ht => by
      simp only [List.mem_cons, List.not_mem_nil, or_false] at ht
      subst ht
      exact h _ (List.mem_of_getElem? (i := 1) G), gdAccount_wf bs s⟩) ?_
    exact nl (odH G G G trivial (Sc 0 G Sn) (SubD.tail Sr))
   exact ⟨fun V De _=>aP1 (ap 2 0 G G G G app_50 (by omega) (by omega) G fun v53 => nl (odH G G G trivial Sn (SubD.tail Sr))),fun V De _=>aP1 (stR 3 2 G G G G (Og G) (by rw [List.length_set]; exact ho)<|nl (od0H G G Sr)),trivial⟩
  ·
   refine wD [1,2,3,4,5] G<|?_
   generalize V 6 = v0
   refine bN<|nx<|rg<|mv G G<|adI G G inI G<|ru 1 G<|nl<|dpQ<|mtQ 2 G<|mtQ 2 G ?_
   exact ag ((i + 1, v0, acc ++ [(gdAccount bs s).1], (gdAccount bs s).2) : Nat × Value × List TAccount × Rd) ⟨by omega, by simp [hl], gdAccount_pos hs, rdMany_step (by omega) hf he⟩ (by show _ - _ < _ - _; omega) (Gs G) (by simp only [List.set_set]; rfl) (Si [3,4] G)
 ·
  have q28 := h28
  simp at q28
  have hN : rdMany (gdAccount bs) ((rdCount bs 1024 s0).1 - i) s = ([], s) := by
   by_cases hf : s.fault = 0
   ·
    by_cases hlt : i < (rdCount bs 1024 s0).1
    · exact absurd hf (q28 (by omega))
    ·
     have e : (rdCount bs 1024 s0).1 - i = 0 := by omega
     rw [e]
     rfl
   · exact rdMany_stop hf _
  rw [hN] at he
  simp only [List.append_nil] at he
  exact ex<|tE<|tE<|bE<|frRQ<|fR0N rv G trivial (by simp only [he, List.set_set, List.cons_append, List.nil_append] <;> rfl) (by simp only [he]; exact (SubD.cons 0 rfl SubD.nil))
theorem listAccount_q (hp : q.2.pos ≤ bs.length) (hz : q.1[o]? = some nS) : Fnc Pg 203 [pv, .pointer (some ⟨b, o, none⟩)] [bl b T q.1, rd2 p bv q.2] [⟨pv, (⟨⟨p⟩⟩ : Pt TWalk)⟩, ⟨bv, bs⟩] (fun (_ : Value) _ => True) (fun y _ => [bl b T (setL o y (rdLs bs (gdAccount bs)) q).1, rd2 p bv (setL o y (rdLs bs (gdAccount bs)) q).2]) (fun y _ => [⟨y, (rdLs bs (gdAccount bs) q.2).1⟩]) :=
 listAccount_p pv bv p bs q.2 b T q.1 o hp hz
theorem listMark_p (hp : s0.pos ≤ bs.length) (hz : cells[o]? = some nS) : Fnc Pg 204 [pv, .pointer (some ⟨b, o, none⟩)] [bl b T cells, rd2 p bv s0] [⟨pv, (⟨⟨p⟩⟩ : Pt TWalk)⟩, ⟨bv, bs⟩] (fun (_ : Value) _ => True) (fun y _ => [bl b T (cells.set o y), rd2 p bv (rdLs bs (gdMark bs) s0).2]) (fun y _ => [⟨y, (rdLs bs (gdMark bs) s0).1⟩]) := by
 refine Fnc.proof Tryz.func204 G 55 G G fun X w => ?_
 obtain ⟨c0, rfl⟩ : ∃ c0 : List Value, cells = c0.set o nS := ⟨cells, (set_same hz).symm⟩
 have ho : o < c0.length := by have := lt_of_at hz; rwa [List.length_set] at this
 have hNle := rdCount_le' bs s0
 refine qg<|ru 2 G<|ldB 0 G G (Og G) hz G<|ru 1 G<|nl<|nx<|qg<|ru 2 G<|lnV G Tryz.underlying25 G<|cf1 1 (many_c pv bv p bs s0 _ hp) (Kg G) G G (Si [0,1] G) G fun _ v14 h14 => ?_
 have h14 : v14 = .int .i64 ((rdCount bs 1024 s0).1 : Int) := h14
 subst h14
 refine ru 1 G<|nl<|nx<|sq<|qg<|mv G G<|ncP 0 G G G<|faP (α := TWalk) (β := RawP) 0 (fun x : TWalk => x.fR) G G (Fg G) pWalk_1 G fun v17 => ldV 0 G G (Og G) G fun w18 => neP Tryz.underlying205 G G G<|nl<|nx<|cdT G<|rg<|ru 2 G<|stB 0 G G G (Og G) G (by rw [List.length_set]; exact ho) ?_
 rw [List.set_set]
 refine nl<|nx<|sa 1 G<|bk<|rwC TMark 122<|lpE (σ := Nat × Value × List TMark × Rd) [(0, _), (1, _), (4, _), (5, _)] _ (fun i C => (6, .int .i64 (i.1 : Int)) :: C) (fun i => [row 122 i.2.1 i.2.2.1, bl b T (c0.set o i.2.1), rd2 p bv i.2.2.2, fz X w]) (fun _ Dc => Dc) (fun i => i.1 ≤ (rdCount bs 1024 s0).1 ∧ i.2.2.1.length = i.1 ∧ i.2.2.2.pos ≤ bs.length ∧ rdLs bs (gdMark bs) s0 = (i.2.2.1 ++ (rdMany (gdMark bs) ((rdCount bs 1024 s0).1 - i.1) i.2.2.2).1, (rdMany (gdMark bs) ((rdCount bs 1024 s0).1 - i.1) i.2.2.2).2)) (fun i => (rdCount bs 1024 s0).1 - i.1) (0, .slice none 0 0, [], (rdCount bs 1024 s0).2) (Gs G) (Sc 1 G (Sc 2 G Sn)) ⟨Nat.zero_le _, G, rdCount_pos hp, G⟩ (Gs G) G (Sc 1 G (Sc 2 G Sn)) ?_
 rintro ⟨i, rv, acc, s⟩ ⟨hi, hl, hs, he⟩
 simp only at hi hl hs he
 refine sq<|qg<|ru 4 G ?_
 refine jy 25 3 [0,1,4,5,6] G G (fun h25 K28 => by
  have p25 := of_decide_eq_true h25
  refine ru 1 G<|gY G G G<|cf1 2 (more_c pv bv p s) (Kg G) G G (Sc 0 G Sn) G fun _ v27 h27 => ?_
  have h27 : v27 = .bool (decide ((s.fault : Int) = 0)) := h27
  subst h27
  exact ru 1 G<|K28 G Sr) ?_
 refine nl<|nx<|cdB G (fun h28 => ?_) (fun h28 => ?_)
 ·
  have q28 := h28
  simp at q28
  obtain ⟨q1, q2⟩ := q28
  have hf : s.fault = 0 := by omega
  have hl1 : [(gdMark bs s).1].length = 1 := rfl
  refine sk<|nx<|sq<|bk<|qg<|al zero_122 G fun b7 => nl<|nx<|sq<|qg<|mv G G<|ncP 0 G G G<|faP (α := TWalk) (β := RawP) 0 (fun x : TWalk => x.fR) G G (Fg G) pWalk_1 G fun v33 => ldV 0 G G (Og G) G fun w34 => eqP Tryz.underlying205 G G G<|nl<|nx<|cdF G<|sk<|nx<|qg<|mv G G<|mtL 3 G<|mtL 1 G<|cfN 2 (mark_e pv bv p bs s b7 hs) (Kg G) G G (Si [1,2] G) G fun _ _ _ => nl<|nx<|qg<|mv G G<|ncP 1 G G G<|faP (α := TWalk) (β := RawP) 1 (fun x : TWalk => x.fR) G G (Fg G) pWalk_1 G fun v44 => ldV 0 G G (Og G) G fun w45 => neP Tryz.underlying205 G G G<|nl<|nx<|cdT G<|rgZ (L := [bl b7 122 (cMark (gdMark bs s).1), rd2 p bv (gdMark bs s).2, row 122 rv acc, bl b T (c0.set o rv), fz X w]) [(4,.ld 0)] [(3,⟨some (rv),fun _ => [],false⟩),(5,⟨none,fun u => [⟨u, [(gdMark bs s).1]⟩],false⟩),(6,⟨none,fun _ => [],true⟩),(8,⟨none,fun _ => [],true⟩)] [] [] [(6,fun L zz => rpE 2 (row 122 (zz 6) (acc ++ [(gdMark bs s).1])) L),(8,fun L zz => rpE 1 (bl b T ((c0.set o rv).set o (zz 6))) L)] (fun _ => G) (fun _ => by kernel_rfl) ⟨fun V De _=>aP1 (ldB 3 G G (Og G) (set_at ho) G<|oh G G G G),fun V De _=>aP1 (bsM G app_25 G G G G fun b52 => frS1 (α := TMark) (gdMark bs s).1 (fun S w h => ⟨(), G, by simp, gdMark_wf bs s⟩)<|nl (odH G G G trivial (Sc 0 G Sn) (SubD.tail Sr))),fun V De _=>aP1 (ap 2 0 G G G G app_25 (by omega) (by omega) G fun v53 => nl (odH G G G trivial Sn (SubD.tail Sr))),fun V De _=>aP1 (stR 3 2 G G G G (Og G) (by rw [List.length_set]; exact ho)<|nl (od0H G G Sr)),trivial⟩ fun V _ => wD [1,2,3,4] G<|?_
  generalize V 6 = v0
  refine bN<|nx<|rg<|mv G G<|adI G G inI G<|ru 1 G<|nl<|dpQ<|mtQ 2 G<|mtQ 2 G ?_
  exact ag ((i + 1, v0, acc ++ [(gdMark bs s).1], (gdMark bs s).2) : Nat × Value × List TMark × Rd) ⟨by omega, by simp [hl], gdMark_pos hs, rdMany_step (by omega) hf he⟩ (by show _ - _ < _ - _; omega) (Gs G) (by simp only [List.set_set]; rfl) (Si [2,3] G)
 ·
  have q28 := h28
  simp at q28
  have hN : rdMany (gdMark bs) ((rdCount bs 1024 s0).1 - i) s = ([], s) := by
   by_cases hf : s.fault = 0
   ·
    by_cases hlt : i < (rdCount bs 1024 s0).1
    · exact absurd hf (q28 (by omega))
    ·
     have e : (rdCount bs 1024 s0).1 - i = 0 := by omega
     rw [e]
     rfl
   · exact rdMany_stop hf _
  rw [hN] at he
  simp only [List.append_nil] at he
  exact ex<|tE<|tE<|bE<|frRQ<|fR0N rv G trivial (by simp only [he, List.set_set, List.cons_append, List.nil_append] <;> rfl) (by simp only [he]; exact (SubD.cons 0 rfl SubD.nil))
theorem listMark_q (hp : q.2.pos ≤ bs.length) (hz : q.1[o]? = some nS) : Fnc Pg 204 [pv, .pointer (some ⟨b, o, none⟩)] [bl b T q.1, rd2 p bv q.2] [⟨pv, (⟨⟨p⟩⟩ : Pt TWalk)⟩, ⟨bv, bs⟩] (fun (_ : Value) _ => True) (fun y _ => [bl b T (setL o y (rdLs bs (gdMark bs)) q).1, rd2 p bv (setL o y (rdLs bs (gdMark bs)) q).2]) (fun y _ => [⟨y, (rdLs bs (gdMark bs) q.2).1⟩]) :=
 listMark_p pv bv p bs q.2 b T q.1 o hp hz
theorem listWait_p (hp : s0.pos ≤ bs.length) (hz : cells[o]? = some nS) : Fnc Pg 205 [pv, .pointer (some ⟨b, o, none⟩)] [bl b T cells, rd2 p bv s0] [⟨pv, (⟨⟨p⟩⟩ : Pt TWalk)⟩, ⟨bv, bs⟩] (fun (_ : Value) _ => True) (fun y _ => [bl b T (cells.set o y), rd2 p bv (rdLs bs (gdWait bs) s0).2]) (fun y _ => [⟨y, (rdLs bs (gdWait bs) s0).1⟩]) := by
 refine Fnc.proof Tryz.func205 G 55 G G fun X w => ?_
 obtain ⟨c0, rfl⟩ : ∃ c0 : List Value, cells = c0.set o nS := ⟨cells, (set_same hz).symm⟩
 have ho : o < c0.length := by have := lt_of_at hz; rwa [List.length_set] at this
 have hNle := rdCount_le' bs s0
 refine qg<|ru 2 G<|ldB 0 G G (Og G) hz G<|ru 1 G<|nl<|nx<|qg<|ru 2 G<|lnV G Tryz.underlying51 G<|cf1 1 (many_c pv bv p bs s0 _ hp) (Kg G) G G (Si [0,1] G) G fun _ v14 h14 => ?_
 have h14 : v14 = .int .i64 ((rdCount bs 1024 s0).1 : Int) := h14
 subst h14
 refine ru 1 G<|nl<|nx<|sq<|qg<|mv G G<|ncP 0 G G G<|faP (α := TWalk) (β := RawP) 0 (fun x : TWalk => x.fR) G G (Fg G) pWalk_1 G fun v17 => ldV 0 G G (Og G) G fun w18 => neP Tryz.underlying205 G G G<|nl<|nx<|cdT G<|rg<|ru 2 G<|stB 0 G G G (Og G) G (by rw [List.length_set]; exact ho) ?_
 rw [List.set_set]
 refine nl<|nx<|sa 1 G<|bk<|rwC TWait 108<|lpE (σ := Nat × Value × List TWait × Rd) [(0, _), (1, _), (4, _), (5, _)] _ (fun i C => (6, .int .i64 (i.1 : Int)) :: C) (fun i => [row 108 i.2.1 i.2.2.1, bl b T (c0.set o i.2.1), rd2 p bv i.2.2.2, fz X w]) (fun _ Dc => Dc) (fun i => i.1 ≤ (rdCount bs 1024 s0).1 ∧ i.2.2.1.length = i.1 ∧ i.2.2.2.pos ≤ bs.length ∧ rdLs bs (gdWait bs) s0 = (i.2.2.1 ++ (rdMany (gdWait bs) ((rdCount bs 1024 s0).1 - i.1) i.2.2.2).1, (rdMany (gdWait bs) ((rdCount bs 1024 s0).1 - i.1) i.2.2.2).2)) (fun i => (rdCount bs 1024 s0).1 - i.1) (0, .slice none 0 0, [], (rdCount bs 1024 s0).2) (Gs G) (Sc 1 G (Sc 2 G Sn)) ⟨Nat.zero_le _, G, rdCount_pos hp, G⟩ (Gs G) G (Sc 1 G (Sc 2 G Sn)) ?_
 rintro ⟨i, rv, acc, s⟩ ⟨hi, hl, hs, he⟩
 simp only at hi hl hs he
 refine sq<|qg<|ru 4 G ?_
 refine jy 25 3 [0,1,4,5,6] G G (fun h25 K28 => by
  have p25 := of_decide_eq_true h25
  refine ru 1 G<|gY G G G<|cf1 2 (more_c pv bv p s) (Kg G) G G (Sc 0 G Sn) G fun _ v27 h27 => ?_
  have h27 : v27 = .bool (decide ((s.fault : Int) = 0)) := h27
  subst h27
  exact ru 1 G<|K28 G Sr) ?_
 refine nl<|nx<|cdB G (fun h28 => ?_) (fun h28 => ?_)
 ·
  have q28 := h28
  simp at q28
  obtain ⟨q1, q2⟩ := q28
  have hf : s.fault = 0 := by omega
  have hl1 : [(gdWait bs s).1].length = 1 := rfl
  refine sk<|nx<|sq<|bk<|qg<|al zero_108 G fun b7 => nl<|nx<|sq<|qg<|mv G G<|ncP 0 G G G<|faP (α := TWalk) (β := RawP) 0 (fun x : TWalk => x.fR) G G (Fg G) pWalk_1 G fun v33 => ldV 0 G G (Og G) G fun w34 => eqP Tryz.underlying205 G G G<|nl<|nx<|cdF G<|sk<|nx<|qg<|mv G G<|mtL 3 G<|mtL 1 G<|cfN 2 (wait_e pv bv p bs s b7 hs) (Kg G) G G (Si [1,2] G) G fun _ _ _ => nl<|nx<|qg<|mv G G<|ncP 1 G G G<|faP (α := TWalk) (β := RawP) 1 (fun x : TWalk => x.fR) G G (Fg G) pWalk_1 G fun v44 => ldV 0 G G (Og G) G fun w45 => neP Tryz.underlying205 G G G<|nl<|nx<|cdT G<|rgZ (L := [bl b7 108 (cWait (gdWait bs s).1), rd2 p bv (gdWait bs s).2, row 108 rv acc, bl b T (c0.set o rv), fz X w]) [(4,.ld 0)] [(3,⟨some (rv),fun _ => [],false⟩),(5,⟨none,fun u => [⟨u, [(gdWait bs s).1]⟩],false⟩),(6,⟨none,fun _ => [],true⟩),(8,⟨none,fun _ => [],true⟩)] [] [] [(6,fun L zz => rpE 2 (row 108 (zz 6) (acc ++ [(gdWait bs s).1])) L),(8,fun L zz => rpE 1 (bl b T ((c0.set o rv).set o (zz 6))) L)] (fun _ => G) (fun _ => by kernel_rfl) ⟨fun V De _=>aP1 (ldB 3 G G (Og G) (set_at ho) G<|oh G G G G),fun V De _=>aP1 (bsM G app_51 G G G G fun b52 => frS1 (α := TWait) (gdWait bs s).1 (fun S w h => ⟨(), G, by simp, gdWait_wf bs s⟩)<|nl (odH G G G trivial (Sc 0 G Sn) (SubD.tail Sr))),fun V De _=>aP1 (ap 2 0 G G G G app_51 (by omega) (by omega) G fun v53 => nl (odH G G G trivial Sn (SubD.tail Sr))),fun V De _=>aP1 (stR 3 2 G G G G (Og G) (by rw [List.length_set]; exact ho)<|nl (od0H G G Sr)),trivial⟩ fun V _ => wD [1,2,3,4] G<|?_
  generalize V 6 = v0
  refine bN<|nx<|rg<|mv G G<|adI G G inI G<|ru 1 G<|nl<|dpQ<|mtQ 2 G<|mtQ 2 G ?_
  exact ag ((i + 1, v0, acc ++ [(gdWait bs s).1], (gdWait bs s).2) : Nat × Value × List TWait × Rd) ⟨by omega, by simp [hl], gdWait_pos hs, rdMany_step (by omega) hf he⟩ (by show _ - _ < _ - _; omega) (Gs G) (by simp only [List.set_set]; rfl) (Si [2,3] G)
 ·
  have q28 := h28
  simp at q28
  have hN : rdMany (gdWait bs) ((rdCount bs 1024 s0).1 - i) s = ([], s) := by
   by_cases hf : s.fault = 0
   ·
    by_cases hlt : i < (rdCount bs 1024 s0).1
    · exact absurd hf (q28 (by omega))
    ·
     have e : (rdCount bs 1024 s0).1 - i = 0 := by omega
     rw [e]
     rfl
   · exact rdMany_stop hf _
  rw [hN] at he
  simp only [List.append_nil] at he
  exact ex<|tE<|tE<|bE<|frRQ<|fR0N rv G trivial (by simp only [he, List.set_set, List.cons_append, List.nil_append] <;> rfl) (by simp only [he]; exact (SubD.cons 0 rfl SubD.nil))
theorem listWait_q (hp : q.2.pos ≤ bs.length) (hz : q.1[o]? = some nS) : Fnc Pg 205 [pv, .pointer (some ⟨b, o, none⟩)] [bl b T q.1, rd2 p bv q.2] [⟨pv, (⟨⟨p⟩⟩ : Pt TWalk)⟩, ⟨bv, bs⟩] (fun (_ : Value) _ => True) (fun y _ => [bl b T (setL o y (rdLs bs (gdWait bs)) q).1, rd2 p bv (setL o y (rdLs bs (gdWait bs)) q).2]) (fun y _ => [⟨y, (rdLs bs (gdWait bs) q.2).1⟩]) :=
 listWait_p pv bv p bs q.2 b T q.1 o hp hz
theorem listDeal_p (hp : s0.pos ≤ bs.length) (hz : cells[o]? = some nS) : Fnc Pg 206 [pv, .pointer (some ⟨b, o, none⟩)] [bl b T cells, rd2 p bv s0] [⟨pv, (⟨⟨p⟩⟩ : Pt TWalk)⟩, ⟨bv, bs⟩] (fun (_ : Value) _ => True) (fun y _ => [bl b T (cells.set o y), rd2 p bv (rdLs bs (gdDeal bs) s0).2]) (fun y _ => [⟨y, (rdLs bs (gdDeal bs) s0).1⟩]) := by
 refine Fnc.proof Tryz.func206 G 55 G G fun X w => ?_
 obtain ⟨c0, rfl⟩ : ∃ c0 : List Value, cells = c0.set o nS := ⟨cells, (set_same hz).symm⟩
 have ho : o < c0.length := by have := lt_of_at hz; rwa [List.length_set] at this
 have hNle := rdCount_le' bs s0
 refine qg<|ru 2 G<|ldB 0 G G (Og G) hz G<|ru 1 G<|nl<|nx<|qg<|ru 2 G<|lnV G Tryz.underlying52 G<|cf1 1 (many_c pv bv p bs s0 _ hp) (Kg G) G G (Si [0,1] G) G fun _ v14 h14 => ?_
 have h14 : v14 = .int .i64 ((rdCount bs 1024 s0).1 : Int) := h14
 subst h14
 refine ru 1 G<|nl<|nx<|sq<|qg<|mv G G<|ncP 0 G G G<|faP (α := TWalk) (β := RawP) 0 (fun x : TWalk => x.fR) G G (Fg G) pWalk_1 G fun v17 => ldV 0 G G (Og G) G fun w18 => neP Tryz.underlying205 G G G<|nl<|nx<|cdT G<|rg<|ru 2 G<|stB 0 G G G (Og G) G (by rw [List.length_set]; exact ho) ?_
 rw [List.set_set]
 refine nl<|nx<|sa 1 G<|bk<|rwC TDeal 126<|lpE (σ := Nat × Value × List TDeal × Rd) [(0, _), (1, _), (4, _), (5, _)] _ (fun i C => (6, .int .i64 (i.1 : Int)) :: C) (fun i => [row 126 i.2.1 i.2.2.1, bl b T (c0.set o i.2.1), rd2 p bv i.2.2.2, fz X w]) (fun _ Dc => Dc) (fun i => i.1 ≤ (rdCount bs 1024 s0).1 ∧ i.2.2.1.length = i.1 ∧ i.2.2.2.pos ≤ bs.length ∧ rdLs bs (gdDeal bs) s0 = (i.2.2.1 ++ (rdMany (gdDeal bs) ((rdCount bs 1024 s0).1 - i.1) i.2.2.2).1, (rdMany (gdDeal bs) ((rdCount bs 1024 s0).1 - i.1) i.2.2.2).2)) (fun i => (rdCount bs 1024 s0).1 - i.1) (0, .slice none 0 0, [], (rdCount bs 1024 s0).2) (Gs G) (Sc 1 G (Sc 2 G Sn)) ⟨Nat.zero_le _, G, rdCount_pos hp, G⟩ (Gs G) G (Sc 1 G (Sc 2 G Sn)) ?_
 rintro ⟨i, rv, acc, s⟩ ⟨hi, hl, hs, he⟩
 simp only at hi hl hs he
 refine sq<|qg<|ru 4 G ?_
 refine jy 25 3 [0,1,4,5,6] G G (fun h25 K28 => by
  have p25 := of_decide_eq_true h25
  refine ru 1 G<|gY G G G<|cf1 2 (more_c pv bv p s) (Kg G) G G (Sc 0 G Sn) G fun _ v27 h27 => ?_
  have h27 : v27 = .bool (decide ((s.fault : Int) = 0)) := h27
  subst h27
  exact ru 1 G<|K28 G Sr) ?_
 refine nl<|nx<|cdB G (fun h28 => ?_) (fun h28 => ?_)
 ·
  have q28 := h28
  simp at q28
  obtain ⟨q1, q2⟩ := q28
  have hf : s.fault = 0 := by omega
  have hl1 : [(gdDeal bs s).1].length = 1 := rfl
  refine sk<|nx<|sq<|bk<|qg<|al zero_126 G fun b7 => nl<|nx<|sq<|qg<|mv G G<|ncP 0 G G G<|faP (α := TWalk) (β := RawP) 0 (fun x : TWalk => x.fR) G G (Fg G) pWalk_1 G fun v33 => ldV 0 G G (Og G) G fun w34 => eqP Tryz.underlying205 G G G<|nl<|nx<|cdF G<|sk<|nx<|qg<|mv G G<|mtL 3 G<|mtL 1 G<|cfN 2 (deal_e pv bv p bs s b7 hs) (Kg G) G G (Si [1,2] G) G fun _ _ _ => nl<|nx<|qg<|mv G G<|ncP 1 G G G<|faP (α := TWalk) (β := RawP) 1 (fun x : TWalk => x.fR) G G (Fg G) pWalk_1 G fun v44 => ldV 0 G G (Og G) G fun w45 => neP Tryz.underlying205 G G G<|nl<|nx<|cdT G<|rgZ (L := [bl b7 126 (cDeal (gdDeal bs s).1), rd2 p bv (gdDeal bs s).2, row 126 rv acc, bl b T (c0.set o rv), fz X w]) [(4,.ld 0)] [(3,⟨some (rv),fun _ => [],false⟩),(5,⟨none,fun u => [⟨u, [(gdDeal bs s).1]⟩],false⟩),(6,⟨none,fun _ => [],true⟩),(8,⟨none,fun _ => [],true⟩)] [] [] [(6,fun L zz => rpE 2 (row 126 (zz 6) (acc ++ [(gdDeal bs s).1])) L),(8,fun L zz => rpE 1 (bl b T ((c0.set o rv).set o (zz 6))) L)] (fun _ => G) (fun _ => by kernel_rfl) ⟨fun V De _=>aP1 (ldB 3 G G (Og G) (set_at ho) G<|oh G G G G),fun V De _=>aP1 (bsM G app_52 G G G G fun b52 => frS1 (α := TDeal) (gdDeal bs s).1 (fun S w h => ⟨(), G, by simp, gdDeal_wf bs s⟩)<|nl (odH G G G trivial (Sc 0 G Sn) (SubD.tail Sr))),fun V De _=>aP1 (ap 2 0 G G G G app_52 (by omega) (by omega) G fun v53 => nl (odH G G G trivial Sn (SubD.tail Sr))),fun V De _=>aP1 (stR 3 2 G G G G (Og G) (by rw [List.length_set]; exact ho)<|nl (od0H G G Sr)),trivial⟩ fun V _ => wD [1,2,3,4] G<|?_
  generalize V 6 = v0
  refine bN<|nx<|rg<|mv G G<|adI G G inI G<|ru 1 G<|nl<|dpQ<|mtQ 2 G<|mtQ 2 G ?_
  exact ag ((i + 1, v0, acc ++ [(gdDeal bs s).1], (gdDeal bs s).2) : Nat × Value × List TDeal × Rd) ⟨by omega, by simp [hl], gdDeal_pos hs, rdMany_step (by omega) hf he⟩ (by show _ - _ < _ - _; omega) (Gs G) (by simp only [List.set_set]; rfl) (Si [2,3] G)
 ·
  have q28 := h28
  simp at q28
  have hN : rdMany (gdDeal bs) ((rdCount bs 1024 s0).1 - i) s = ([], s) := by
   by_cases hf : s.fault = 0
   ·
    by_cases hlt : i < (rdCount bs 1024 s0).1
    · exact absurd hf (q28 (by omega))
    ·
     have e : (rdCount bs 1024 s0).1 - i = 0 := by omega
     rw [e]
     rfl
   · exact rdMany_stop hf _
  rw [hN] at he
  simp only [List.append_nil] at he
  exact ex<|tE<|tE<|bE<|frRQ<|fR0N rv G trivial (by simp only [he, List.set_set, List.cons_append, List.nil_append] <;> rfl) (by simp only [he]; exact (SubD.cons 0 rfl SubD.nil))
theorem listDeal_q (hp : q.2.pos ≤ bs.length) (hz : q.1[o]? = some nS) : Fnc Pg 206 [pv, .pointer (some ⟨b, o, none⟩)] [bl b T q.1, rd2 p bv q.2] [⟨pv, (⟨⟨p⟩⟩ : Pt TWalk)⟩, ⟨bv, bs⟩] (fun (_ : Value) _ => True) (fun y _ => [bl b T (setL o y (rdLs bs (gdDeal bs)) q).1, rd2 p bv (setL o y (rdLs bs (gdDeal bs)) q).2]) (fun y _ => [⟨y, (rdLs bs (gdDeal bs) q.2).1⟩]) :=
 listDeal_p pv bv p bs q.2 b T q.1 o hp hz
theorem listEnd_p (hp : s0.pos ≤ bs.length) (hz : cells[o]? = some nS) : Fnc Pg 207 [pv, .pointer (some ⟨b, o, none⟩)] [bl b T cells, rd2 p bv s0] [⟨pv, (⟨⟨p⟩⟩ : Pt TWalk)⟩, ⟨bv, bs⟩] (fun (_ : Value) _ => True) (fun y _ => [bl b T (cells.set o y), rd2 p bv (rdLs bs (gdEnd bs) s0).2]) (fun y _ => [⟨y, (rdLs bs (gdEnd bs) s0).1⟩]) := by
 refine Fnc.proof Tryz.func207 G 55 G G fun X w => ?_
 obtain ⟨c0, rfl⟩ : ∃ c0 : List Value, cells = c0.set o nS := ⟨cells, (set_same hz).symm⟩
 have ho : o < c0.length := by have := lt_of_at hz; rwa [List.length_set] at this
 have hNle := rdCount_le' bs s0
 refine qg<|ru 2 G<|ldB 0 G G (Og G) hz G<|ru 1 G<|nl<|nx<|qg<|ru 2 G<|lnV G Tryz.underlying53 G<|cf1 1 (many_c pv bv p bs s0 _ hp) (Kg G) G G (Si [0,1] G) G fun _ v14 h14 => ?_
 have h14 : v14 = .int .i64 ((rdCount bs 1024 s0).1 : Int) := h14
 subst h14
 refine ru 1 G<|nl<|nx<|sq<|qg<|mv G G<|ncP 0 G G G<|faP (α := TWalk) (β := RawP) 0 (fun x : TWalk => x.fR) G G (Fg G) pWalk_1 G fun v17 => ldV 0 G G (Og G) G fun w18 => neP Tryz.underlying205 G G G<|nl<|nx<|cdT G<|rg<|ru 2 G<|stB 0 G G G (Og G) G (by rw [List.length_set]; exact ho) ?_
 rw [List.set_set]
 refine nl<|nx<|sa 1 G<|bk<|rwC TEnd 129<|lpE (σ := Nat × Value × List TEnd × Rd) [(0, _), (1, _), (4, _), (5, _)] _ (fun i C => (6, .int .i64 (i.1 : Int)) :: C) (fun i => [row 129 i.2.1 i.2.2.1, bl b T (c0.set o i.2.1), rd2 p bv i.2.2.2, fz X w]) (fun _ Dc => Dc) (fun i => i.1 ≤ (rdCount bs 1024 s0).1 ∧ i.2.2.1.length = i.1 ∧ i.2.2.2.pos ≤ bs.length ∧ rdLs bs (gdEnd bs) s0 = (i.2.2.1 ++ (rdMany (gdEnd bs) ((rdCount bs 1024 s0).1 - i.1) i.2.2.2).1, (rdMany (gdEnd bs) ((rdCount bs 1024 s0).1 - i.1) i.2.2.2).2)) (fun i => (rdCount bs 1024 s0).1 - i.1) (0, .slice none 0 0, [], (rdCount bs 1024 s0).2) (Gs G) (Sc 1 G (Sc 2 G Sn)) ⟨Nat.zero_le _, G, rdCount_pos hp, G⟩ (Gs G) G (Sc 1 G (Sc 2 G Sn)) ?_
 rintro ⟨i, rv, acc, s⟩ ⟨hi, hl, hs, he⟩
 simp only at hi hl hs he
 refine sq<|qg<|ru 4 G ?_
 refine jy 25 3 [0,1,4,5,6] G G (fun h25 K28 => by
  have p25 := of_decide_eq_true h25
  refine ru 1 G<|gY G G G<|cf1 2 (more_c pv bv p s) (Kg G) G G (Sc 0 G Sn) G fun _ v27 h27 => ?_
  have h27 : v27 = .bool (decide ((s.fault : Int) = 0)) := h27
  subst h27
  exact ru 1 G<|K28 G Sr) ?_
 refine nl<|nx<|cdB G (fun h28 => ?_) (fun h28 => ?_)
 ·
  have q28 := h28
  simp at q28
  obtain ⟨q1, q2⟩ := q28
  have hf : s.fault = 0 := by omega
  have hl1 : [(gdEnd bs s).1].length = 1 := rfl
  refine sk<|nx<|sq<|bk<|qg<|al zero_129 G fun b7 => nl<|nx<|sq<|qg<|mv G G<|ncP 0 G G G<|faP (α := TWalk) (β := RawP) 0 (fun x : TWalk => x.fR) G G (Fg G) pWalk_1 G fun v33 => ldV 0 G G (Og G) G fun w34 => eqP Tryz.underlying205 G G G<|nl<|nx<|cdF G<|sk<|nx<|qg<|mv G G<|mtL 3 G<|mtL 1 G<|cfN 2 (end_e pv bv p bs s b7 hs) (Kg G) G G (Si [1,2] G) G fun _ _ _ => nl<|nx<|qg<|mv G G<|ncP 1 G G G<|faP (α := TWalk) (β := RawP) 1 (fun x : TWalk => x.fR) G G (Fg G) pWalk_1 G fun v44 => ldV 0 G G (Og G) G fun w45 => neP Tryz.underlying205 G G G<|nl<|nx<|cdT G<|rgZ (L := [bl b7 129 (cEnd (gdEnd bs s).1), rd2 p bv (gdEnd bs s).2, row 129 rv acc, bl b T (c0.set o rv), fz X w]) [(4,.ld 0)] [(3,⟨some (rv),fun _ => [],false⟩),(5,⟨none,fun u => [⟨u, [(gdEnd bs s).1]⟩],false⟩),(6,⟨none,fun _ => [],true⟩),(8,⟨none,fun _ => [],true⟩)] [] [] [(6,fun L zz => rpE 2 (row 129 (zz 6) (acc ++ [(gdEnd bs s).1])) L),(8,fun L zz => rpE 1 (bl b T ((c0.set o rv).set o (zz 6))) L)] (fun _ => G) (fun _ => by kernel_rfl) ⟨fun V De _=>aP1 (ldB 3 G G (Og G) (set_at ho) G<|oh G G G G),fun V De _=>aP1 (bsM G app_53 G G G G fun b52 => frS1 (α := TEnd) (gdEnd bs s).1 (fun S w h => ⟨(), G, by simp, gdEnd_wf bs s⟩)<|nl (odH G G G trivial (Sc 0 G Sn) (SubD.tail Sr))),fun V De _=>aP1 (ap 2 0 G G G G app_53 (by omega) (by omega) G fun v53 => nl (odH G G G trivial Sn (SubD.tail Sr))),fun V De _=>aP1 (stR 3 2 G G G G (Og G) (by rw [List.length_set]; exact ho)<|nl (od0H G G Sr)),trivial⟩ fun V _ => wD [1,2,3,4] G<|?_
  generalize V 6 = v0
  refine bN<|nx<|rg<|mv G G<|adI G G inI G<|ru 1 G<|nl<|dpQ<|mtQ 2 G<|mtQ 2 G ?_
  exact ag ((i + 1, v0, acc ++ [(gdEnd bs s).1], (gdEnd bs s).2) : Nat × Value × List TEnd × Rd) ⟨by omega, by simp [hl], gdEnd_pos hs, rdMany_step (by omega) hf he⟩ (by show _ - _ < _ - _; omega) (Gs G) (by simp only [List.set_set]; rfl) (Si [2,3] G)
 ·
  have q28 := h28
  simp at q28
  have hN : rdMany (gdEnd bs) ((rdCount bs 1024 s0).1 - i) s = ([], s) := by
   by_cases hf : s.fault = 0
   ·
    by_cases hlt : i < (rdCount bs 1024 s0).1
    · exact absurd hf (q28 (by omega))
    ·
     have e : (rdCount bs 1024 s0).1 - i = 0 := by omega
     rw [e]
     rfl
   · exact rdMany_stop hf _
  rw [hN] at he
  simp only [List.append_nil] at he
  exact ex<|tE<|tE<|bE<|frRQ<|fR0N rv G trivial (by simp only [he, List.set_set, List.cons_append, List.nil_append] <;> rfl) (by simp only [he]; exact (SubD.cons 0 rfl SubD.nil))
theorem listEnd_q (hp : q.2.pos ≤ bs.length) (hz : q.1[o]? = some nS) : Fnc Pg 207 [pv, .pointer (some ⟨b, o, none⟩)] [bl b T q.1, rd2 p bv q.2] [⟨pv, (⟨⟨p⟩⟩ : Pt TWalk)⟩, ⟨bv, bs⟩] (fun (_ : Value) _ => True) (fun y _ => [bl b T (setL o y (rdLs bs (gdEnd bs)) q).1, rd2 p bv (setL o y (rdLs bs (gdEnd bs)) q).2]) (fun y _ => [⟨y, (rdLs bs (gdEnd bs) q.2).1⟩]) :=
 listEnd_p pv bv p bs q.2 b T q.1 o hp hz
end
section
attribute [local irreducible] gdState rdInt rdText rdFlag rdCount
theorem State_e (pv bv : Value) (p : Nat) (bs : List UInt8) (s : Rd) (b : Nat) (hp : s.pos ≤ bs.length) : Fnc Pg 149 [pv, .pointer (some ⟨b, 0, none⟩)] [bl b 55 zv6, rd2 p bv s] [⟨pv, (⟨⟨p⟩⟩ : Pt TWalk)⟩, ⟨bv, bs⟩] (fun (_ : Value × Value × Value × Value × Value × Value) _ => True) (fun y _ => [bl b 55 (cState (gdState bs s).1 y.1 y.2.1 y.2.2.1 y.2.2.2.1 y.2.2.2.2.1 y.2.2.2.2.2), rd2 p bv (gdState bs s).2]) (fun y _ => [⟨y.1, (gdState bs s).1.fAccounts⟩, ⟨y.2.1, (gdState bs s).1.fMarks⟩, ⟨y.2.2.1, (gdState bs s).1.fWaits⟩, ⟨y.2.2.2.1, (gdState bs s).1.fDeals⟩, ⟨y.2.2.2.2.1, (gdState bs s).1.fEnds⟩, ⟨y.2.2.2.2.2, (gdState bs s).1.fImage⟩]) := by
 refine Fnc.proof Tryz.func149 G 85 G G fun X w => sq<|rgP b [0,1] [1,2,0] (fun u => int_q pv bv u p bs b 55 (zv6, s) [0, 1] hp (zI G) (by decide)) (Kg G) app_297 G G (by kernel_rfl) (fun _ => G)<|nx<|qg<|ru 4 G<|cfN 2 (flag_q pv bv p bs b 55 (intsP bs [0, 1] (zv6, s)) 2 (intsP_pos hp) G) (Kg G) G G (Si [0,1] G) G fun _ _ _ => nl<|nx<|qg<|ru 4 G<|cfN 2 (text1_q pv bv p bs b 55 (flagP bs 2 (intsP bs [0, 1] (zv6, s))) 3 (flagP_pos (intsP_pos hp)) G) (Kg G) G G (Si [0,1] G) G fun _ _ _ => nl<|nx<|qg<|ru 4 G<|cfN 2 (text1_q pv bv p bs b 55 (textsP bs [3] (flagP bs 2 (intsP bs [0, 1] (zv6, s)))) 4 (textsP_pos (flagP_pos (intsP_pos hp))) G) (Kg G) G G (Si [0,1] G) G fun _ _ _ => nl<|nx<|qg<|ru 4 G<|cfN 2 (num1_q pv bv p bs b 55 (textsP bs [4] (textsP bs [3] (flagP bs 2 (intsP bs [0, 1] (zv6, s))))) 5 (textsP_pos (textsP_pos (flagP_pos (intsP_pos hp)))) G) (Kg G) G G (Si [0,1] G) G fun _ _ _ => nl<|nx<|qg<|ru 4 G<|cfN 2 (listAccount_q pv bv p bs b 55 (intsP bs [5] (textsP bs [4] (textsP bs [3] (flagP bs 2 (intsP bs [0, 1] (zv6, s)))))) 6 (intsP_pos (textsP_pos (textsP_pos (flagP_pos (intsP_pos hp))))) G) (Kg G) G G (Si [0,1] G) G fun y37 _ _ => nl<|nx<|qg<|ru 4 G<|cfN 2 (listMark_q pv bv p bs b 55 (setL 6 y37 (rdLs bs (gdAccount bs)) (intsP bs [5] (textsP bs [4] (textsP bs [3] (flagP bs 2 (intsP bs [0, 1] (zv6, s))))))) 7 (setL_pos (rdLs_pos (fun _ hh => gdAccount_pos hh) (intsP_pos (textsP_pos (textsP_pos (flagP_pos (intsP_pos hp))))))) G) (Kg G) G G (Si [1,2] G) G fun y42 _ _ => nl<|nx<|qg<|ru 4 G<|cfN 2 (listWait_q pv bv p bs b 55 (setL 7 y42 (rdLs bs (gdMark bs)) (setL 6 y37 (rdLs bs (gdAccount bs)) (intsP bs [5] (textsP bs [4] (textsP bs [3] (flagP bs 2 (intsP bs [0, 1] (zv6, s)))))))) 8 (setL_pos (rdLs_pos (fun _ hh => gdMark_pos hh) (setL_pos (rdLs_pos (fun _ hh => gdAccount_pos hh) (intsP_pos (textsP_pos (textsP_pos (flagP_pos (intsP_pos hp))))))))) G) (Kg G) G G (Si [2,3] G) G fun y47 _ _ => nl<|nx<|qg<|ru 4 G<|cfN 2 (listDeal_q pv bv p bs b 55 (setL 8 y47 (rdLs bs (gdWait bs)) (setL 7 y42 (rdLs bs (gdMark bs)) (setL 6 y37 (rdLs bs (gdAccount bs)) (intsP bs [5] (textsP bs [4] (textsP bs [3] (flagP bs 2 (intsP bs [0, 1] (zv6, s))))))))) 9 (setL_pos (rdLs_pos (fun _ hh => gdWait_pos hh) (setL_pos (rdLs_pos (fun _ hh => gdMark_pos hh) (setL_pos (rdLs_pos (fun _ hh => gdAccount_pos hh) (intsP_pos (textsP_pos (textsP_pos (flagP_pos (intsP_pos hp))))))))))) G) (Kg G) G G (Si [3,4] G) G fun y52 _ _ => nl<|nx<|qg<|ru 4 G<|cfN 2 (listEnd_q pv bv p bs b 55 (setL 9 y52 (rdLs bs (gdDeal bs)) (setL 8 y47 (rdLs bs (gdWait bs)) (setL 7 y42 (rdLs bs (gdMark bs)) (setL 6 y37 (rdLs bs (gdAccount bs)) (intsP bs [5] (textsP bs [4] (textsP bs [3] (flagP bs 2 (intsP bs [0, 1] (zv6, s)))))))))) 10 (setL_pos (rdLs_pos (fun _ hh => gdDeal_pos hh) (setL_pos (rdLs_pos (fun _ hh => gdWait_pos hh) (setL_pos (rdLs_pos (fun _ hh => gdMark_pos hh) (setL_pos (rdLs_pos (fun _ hh => gdAccount_pos hh) (intsP_pos (textsP_pos (textsP_pos (flagP_pos (intsP_pos hp))))))))))))) (by simp only [intsP, textsP, flagP, setL, List.set_cons_zero, List.set_cons_succ, List.getElem?_cons_succ, List.getElem?_cons_zero])) (Kg G) G G (Si [4,5] G) G fun y57 _ _ => ?_
 refine nl<|nx<|qg<|ru 4 G<|cfN 2 (plan_q pv bv p bs b 55 (setL 10 y57 (rdLs bs (gdEnd bs)) (setL 9 y52 (rdLs bs (gdDeal bs)) (setL 8 y47 (rdLs bs (gdWait bs)) (setL 7 y42 (rdLs bs (gdMark bs)) (setL 6 y37 (rdLs bs (gdAccount bs)) (intsP bs [5] (textsP bs [4] (textsP bs [3] (flagP bs 2 (intsP bs [0, 1] (zv6, s))))))))))) 11 (setL_pos (rdLs_pos (fun _ hh => gdEnd_pos hh) (setL_pos (rdLs_pos (fun _ hh => gdDeal_pos hh) (setL_pos (rdLs_pos (fun _ hh => gdWait_pos hh) (setL_pos (rdLs_pos (fun _ hh => gdMark_pos hh) (setL_pos (rdLs_pos (fun _ hh => gdAccount_pos hh) (intsP_pos (textsP_pos (textsP_pos (flagP_pos (intsP_pos hp))))))))))))))) (by simp only [intsP, textsP, flagP, setL, List.set_cons_zero, List.set_cons_succ, List.getElem?_cons_succ, List.getElem?_cons_zero]) (by simp only [intsP, textsP, flagP, setL, List.set_cons_zero, List.set_cons_succ, Nat.reduceAdd, List.getElem?_cons_succ, List.getElem?_cons_zero]) (by simp only [intsP, textsP, flagP, setL, List.set_cons_zero, List.set_cons_succ, Nat.reduceAdd, List.getElem?_cons_succ, List.getElem?_cons_zero]) (by simp only [intsP, textsP, flagP, setL, List.set_cons_zero, List.set_cons_succ, Nat.reduceAdd, List.getElem?_cons_succ, List.getElem?_cons_zero]) (by simp only [intsP, textsP, flagP, setL, List.set_cons_zero, List.set_cons_succ, Nat.reduceAdd, List.getElem?_cons_succ, List.getElem?_cons_zero]) (by simp only [intsP, textsP, flagP, setL, List.set_cons_zero, List.set_cons_succ, Nat.reduceAdd, List.getElem?_cons_succ, List.getElem?_cons_zero]) (by simp only [intsP, textsP, flagP, setL, List.set_cons_zero, List.set_cons_succ, Nat.reduceAdd, List.getElem?_cons_succ, List.getElem?_cons_zero])) (Kg G) G G (Si [5,6] G) G fun _ _ _ => ?_
 refine nl<|nx<|qg<|ru 4 G<|cfN 2 (plan_q pv bv p bs b 55 (planPr bs 11 (setL 10 y57 (rdLs bs (gdEnd bs)) (setL 9 y52 (rdLs bs (gdDeal bs)) (setL 8 y47 (rdLs bs (gdWait bs)) (setL 7 y42 (rdLs bs (gdMark bs)) (setL 6 y37 (rdLs bs (gdAccount bs)) (intsP bs [5] (textsP bs [4] (textsP bs [3] (flagP bs 2 (intsP bs [0, 1] (zv6, s)))))))))))) 18 (planPr_pos (setL_pos (rdLs_pos (fun _ hh => gdEnd_pos hh) (setL_pos (rdLs_pos (fun _ hh => gdDeal_pos hh) (setL_pos (rdLs_pos (fun _ hh => gdWait_pos hh) (setL_pos (rdLs_pos (fun _ hh => gdMark_pos hh) (setL_pos (rdLs_pos (fun _ hh => gdAccount_pos hh) (intsP_pos (textsP_pos (textsP_pos (flagP_pos (intsP_pos hp)))))))))))))))) (by simp only [intsP, textsP, flagP, setL, planPr, List.set_cons_zero, List.set_cons_succ, Nat.reduceAdd, List.getElem?_cons_succ, List.getElem?_cons_zero]) (by simp only [intsP, textsP, flagP, setL, planPr, List.set_cons_zero, List.set_cons_succ, Nat.reduceAdd, List.getElem?_cons_succ, List.getElem?_cons_zero]) (by simp only [intsP, textsP, flagP, setL, planPr, List.set_cons_zero, List.set_cons_succ, Nat.reduceAdd, List.getElem?_cons_succ, List.getElem?_cons_zero]) (by simp only [intsP, textsP, flagP, setL, planPr, List.set_cons_zero, List.set_cons_succ, Nat.reduceAdd, List.getElem?_cons_succ, List.getElem?_cons_zero]) (by simp only [intsP, textsP, flagP, setL, planPr, List.set_cons_zero, List.set_cons_succ, Nat.reduceAdd, List.getElem?_cons_succ, List.getElem?_cons_zero]) (by simp only [intsP, textsP, flagP, setL, planPr, List.set_cons_zero, List.set_cons_succ, Nat.reduceAdd, List.getElem?_cons_succ, List.getElem?_cons_zero]) (by simp only [intsP, textsP, flagP, setL, planPr, List.set_cons_zero, List.set_cons_succ, Nat.reduceAdd, List.getElem?_cons_succ, List.getElem?_cons_zero])) (Kg G) G G (Si [5,6] G) G fun _ _ _ => ?_
 refine nl<|nx<|qg<|ru 4 G<|emL (α := UInt8)<|cfN 2 (bytes_q pv bv p bs b 55 (planPr bs 18 (planPr bs 11 (setL 10 y57 (rdLs bs (gdEnd bs)) (setL 9 y52 (rdLs bs (gdDeal bs)) (setL 8 y47 (rdLs bs (gdWait bs)) (setL 7 y42 (rdLs bs (gdMark bs)) (setL 6 y37 (rdLs bs (gdAccount bs)) (intsP bs [5] (textsP bs [4] (textsP bs [3] (flagP bs 2 (intsP bs [0, 1] (zv6, s))))))))))))) 25 nS (planPr_pos (planPr_pos (setL_pos (rdLs_pos (fun _ hh => gdEnd_pos hh) (setL_pos (rdLs_pos (fun _ hh => gdDeal_pos hh) (setL_pos (rdLs_pos (fun _ hh => gdWait_pos hh) (setL_pos (rdLs_pos (fun _ hh => gdMark_pos hh) (setL_pos (rdLs_pos (fun _ hh => gdAccount_pos hh) (intsP_pos (textsP_pos (textsP_pos (flagP_pos (intsP_pos hp))))))))))))))))) (by simp only [intsP, textsP, flagP, setL, planPr, List.set_cons_zero, List.set_cons_succ, Nat.reduceAdd, List.getElem?_cons_succ, List.getElem?_cons_zero])) (Kg G) G G (Si [6,7,0] G) G fun y72 _ _ => ?_
 exact nl<|nx<|rgP b [26,27,28] [8,9,0] (fun u => int_q pv bv u p bs b 55 (setL 25 y72 (rdText bs 65535) (planPr bs 18 (planPr bs 11 (setL 10 y57 (rdLs bs (gdEnd bs)) (setL 9 y52 (rdLs bs (gdDeal bs)) (setL 8 y47 (rdLs bs (gdWait bs)) (setL 7 y42 (rdLs bs (gdMark bs)) (setL 6 y37 (rdLs bs (gdAccount bs)) (intsP bs [5] (textsP bs [4] (textsP bs [3] (flagP bs 2 (intsP bs [0, 1] (zv6, s)))))))))))))) [26, 27, 28] (setL_pos (rdText_pos (planPr_pos (planPr_pos (setL_pos (rdLs_pos (fun _ hh => gdEnd_pos hh) (setL_pos (rdLs_pos (fun _ hh => gdDeal_pos hh) (setL_pos (rdLs_pos (fun _ hh => gdWait_pos hh) (setL_pos (rdLs_pos (fun _ hh => gdMark_pos hh) (setL_pos (rdLs_pos (fun _ hh => gdAccount_pos hh) (intsP_pos (textsP_pos (textsP_pos (flagP_pos (intsP_pos hp))))))))))))))))))) (by intro x hx; simp only [List.mem_cons, List.not_mem_nil, or_false] at hx; rcases hx with rfl | rfl | rfl <;> simp only [intsP, textsP, flagP, setL, planPr, List.set_cons_zero, List.set_cons_succ, Nat.reduceAdd, List.getElem?_cons_succ, List.getElem?_cons_zero]) (by decide)) (Kg G) app_297 G G (by kernel_rfl) (fun _ => G)<|fR0N ⟨y37, y42, y47, y52, y57, y72⟩ G trivial (by simp only [gwState_eq, List.cons_append, List.nil_append] <;> rfl) (by rw [← gwState_l0 bs s y37 y42 y47 y52 y57 y72, ← gwState_l1 bs s y37 y42 y47 y52 y57 y72, ← gwState_l2 bs s y37 y42 y47 y52 y57 y72, ← gwState_l3 bs s y37 y42 y47 y52 y57 y72, ← gwState_l4 bs s y37 y42 y47 y52 y57 y72, ← gwState_l5 bs s y37 y42 y47 y52 y57 y72]; exact (SubD.cons 6 rfl (SubD.cons 5 rfl (SubD.cons 4 rfl (SubD.cons 3 rfl (SubD.cons 2 rfl (SubD.cons 0 rfl SubD.nil)))))))
end
section
attribute [local irreducible] gdState rdInt rdText rdFlag rdCount endE errO stO
theorem in_c (sv : Value) (bs : List UInt8) : Fnc Pg 148 [sv] [] [⟨sv, bs⟩] (fun (y : Nat × Nat × Value) v => v = .tuple #[.pointer (some ⟨y.1, 0, none⟩), .int .i64 (if 65536 < bs.length then 22 else 0)]) (fun y _ => [bl y.1 207 [.slice none 0 0, .pointer (some ⟨y.2.1, 0, none⟩), .bool false], rd2 y.2.1 y.2.2 ⟨0, 0⟩]) (fun y _ => [⟨y.2.2, if 65536 < bs.length then [] else bs⟩]) := by
 refine Fnc.proof Tryz.func148 G 14 G G fun X w => sa 2 G<|sq<|qg<|mv G G<|lnP 0 G G Tryz.underlying35 G fun l5 => ru 1 G<|nl<|nx<|cdP G (fun h6 => ?_) (fun h6 => ?_)
 ·
  have hl : 65536 < bs.length := by omega
  simp only [if_pos hl]
  refine emC (α := UInt8)<|qg<|cf (new_c nS [] (by decide)) (Kg G) G (Sc 0 G Sn) G fun y7 v7 h7 => ?_
  obtain ⟨p, bv⟩ := y7
  have h7 : v7 = .pointer (some ⟨p, 0, none⟩) := h7
  subst h7
  exact bd (ps := [(1, .tmp 7)]) (cs := [.slice none 0 0, .pointer (some ⟨p, 0, none⟩), .bool false]) (by rfl) (by kernel_rfl) G<|bx G G G fun b9 => ru 2 G<|nl<|nx<|rt<|tR<|fR2 (b9, p, bv) G G G G G (Sc 0 G Sn)
 ·
  have hl : ¬ 65536 < bs.length := by omega
  simp only [if_neg hl]
  refine sk<|nx<|qg<|mv G G<|cf (new_c sv bs (by omega)) (Kg G) G (Sc 0 G Sn) G fun y11 v11 h11 => ?_
  obtain ⟨p, bv⟩ := y11
  have h11 : v11 = .pointer (some ⟨p, 0, none⟩) := h11
  subst h11
  exact bd (ps := [(1, .tmp 11)]) (cs := [.slice none 0 0, .pointer (some ⟨p, 0, none⟩), .bool false]) (by rfl) (by kernel_rfl) G<|bx G G G fun b13 => ru 2 G<|nl<|nx<|rt<|fR2 (b13, p, bv) G G G G G (Sc 0 G Sn)
theorem readState_c (sv : Value) (bs : List UInt8) : Fnc Pg 74 [sv] [] [⟨sv, bs⟩] (fun (y : Value × Value × Value × Value × Value × Value) r => r = .tuple #[.agg (cState (rdState bs).1 y.1 y.2.1 y.2.2.1 y.2.2.2.1 y.2.2.2.2.1 y.2.2.2.2.2).toArray, .int .i64 (rdState bs).2]) (fun _ _ => []) (fun y _ => [⟨y.1, (rdState bs).1.fAccounts⟩, ⟨y.2.1, (rdState bs).1.fMarks⟩, ⟨y.2.2.1, (rdState bs).1.fWaits⟩, ⟨y.2.2.2.1, (rdState bs).1.fDeals⟩, ⟨y.2.2.2.2.1, (rdState bs).1.fEnds⟩, ⟨y.2.2.2.2.2, (rdState bs).1.fImage⟩]) := by
 refine Fnc.proof Tryz.func74 G 28 G G fun X w => qg<|al zero_55 G fun b2 => ru 1 G<|nl<|nx<|qg<|mv G G<|cf (in_c sv bs) (Kg G) G (Sc 0 G Sn) G fun y9 v9 h9 => ?_
 obtain ⟨pw, p, bv⟩ := y9
 have h9 : v9 = .tuple #[.pointer (some ⟨pw, 0, none⟩), .int .i64 (if 65536 < bs.length then 22 else 0)] := h9
 subst h9
 refine ru 5 G<|nl<|nx<|sq<|sa 2 G<|cdN G (fun h13 => ?_) (fun h13 => ?_)
 ·
  have hl : 65536 < bs.length := by
   by_cases h : 65536 < bs.length
   · exact h
   ·
    rw [if_neg h] at h13
    exact absurd G h13
  simp only [if_pos hl]
  rw [rdState_bad (by rw [errO_long hl]; decide), errO_long hl]
  exact emC (α := TAccount)<|emC (α := TMark)<|emC (α := TWait)<|emC (α := TDeal)<|emC (α := TEnd)<|emC (α := UInt8)<|qg<|bd (ps := []) (cs := (cState ((⟨0, 0, false, ByteArray.empty, ByteArray.empty, 0, [], [], [], [], [], pZ, pZ, [], 0, 0, 0⟩ : TState)) nS nS nS nS nS nS)) (by rfl) (by kernel_rfl) G<|mv G G<|stW 2 (us := (cState ((⟨0, 0, false, ByteArray.empty, ByteArray.empty, 0, [], [], [], [], [], pZ, pZ, [], 0, 0, 0⟩ : TState)) nS nS nS nS nS nS)) G G G (Rg G) G G<|ru 1 G<|nl<|nx<|rt<|tR<|fRG (nS, nS, nS, nS, nS, nS) [_, _, _] (rCT 2 G G G G (Rg G)) (by rfl) G (Sc 5 G (Sc 4 G (Sc 3 G (Sc 2 G (Sc 1 G (Sc 0 G Sn))))))
 ·
  have hl : ¬ 65536 < bs.length := by
   intro h
   rw [if_pos h] at h13
   exact absurd h13 (by decide)
  simp only [if_neg hl]
  refine sk<|nx<|qg<|al zero_55 G fun b6 => nl<|nx<|qg<|mv G G<|mtL 1 G<|frP (α := TWalk) ⟨p⟩ (fun S w h => ⟨(), G, by simp, trivial⟩)<|cfN 2 (State_e (.pointer (some ⟨pw, 0, none⟩)) bv p bs ⟨0, 0⟩ b6 (Nat.zero_le _)) (Kg G) G G (Si [0,1] G) G fun y _ _ => ?_
  obtain ⟨y0, y1, y2, y3, y4, y5⟩ := y
  refine nl<|nx<|qg<|mv G G<|ncP 6 G G G<|faP (α := TWalk) (β := RawP) 6 (fun x : TWalk => x.fR) G G (Fg G) pWalk_1 G fun v20 => ldV 0 G G (Og G) G fun w21 => cf1 1 (end_c p bv bs (gdState bs ⟨0, 0⟩).2) (Kg G) G G (Sc 8 G Sn) G fun _ v22 h22 => ?_
  have h22 : v22 = .int .i64 (endE bs (gdState bs ⟨0, 0⟩).2) := h22
  subst h22
  refine ru 1 G<|nl<|nx<|sq<|sa 2 G<|cdN G (fun h24 => ?_) (fun h24 => ?_)
  ·
   rw [rdState_bad (by rw [errO_read hl]; exact h24), errO_read hl]
   exact emC (α := TAccount)<|emC (α := TMark)<|emC (α := TWait)<|emC (α := TDeal)<|emC (α := TEnd)<|emC (α := UInt8)<|qg<|bd (ps := []) (cs := (cState ((⟨0, 0, false, ByteArray.empty, ByteArray.empty, 0, [], [], [], [], [], pZ, pZ, [], 0, 0, 0⟩ : TState)) nS nS nS nS nS nS)) (by rfl) (by kernel_rfl) G<|mv G G<|stW 2 (us := (cState ((⟨0, 0, false, ByteArray.empty, ByteArray.empty, 0, [], [], [], [], [], pZ, pZ, [], 0, 0, 0⟩ : TState)) nS nS nS nS nS nS)) G G G (Rg G) G G<|ru 1 G<|nl<|nx<|rt<|tR<|fRG (nS, nS, nS, nS, nS, nS) [_, _, _] (rCT 2 G G G G (Rg G)) (by rfl) G (Sc 5 G (Sc 4 G (Sc 3 G (Sc 2 G (Sc 1 G (Sc 0 G Sn))))))
  ·
   rw [rdState_ok (by rw [errO_read hl]; first | exact h24 | exact not_not.1 h24), stO_read hl]
   exact sk<|nx<|qg<|ldM 0 (cState ((gdState bs ⟨0, 0⟩).1) y0 y1 y2 y3 y4 y5) G G (Rg G) G G<|oc 1 G fun o_y0 => oc 2 G fun o_y1 => oc 3 G fun o_y2 => oc 4 G fun o_y3 => oc 5 G fun o_y4 => oc 6 G fun o_y5 => stW 2 (us := (cState ((gdState bs ⟨0, 0⟩).1) y0 y1 y2 y3 y4 y5)) G G G (Rg G) (by simp only [List.all_cons, List.all_nil, Bool.and_true, o_y0, o_y1, o_y2, o_y3, o_y4, o_y5]; rfl) G<|ru 1 G<|nl<|nx<|rt<|fRG (y0, y1, y2, y3, y4, y5) [_, _, _] (rCT 2 G G G G (Rg G)) (by rfl) G (Sc 1 G (Sc 2 G (Sc 3 G (Sc 4 G (Sc 5 G (Sc 6 G Sn))))))
theorem image19_c (sv : Value) (bs : List UInt8) : Fnc Pg 140 [sv] [] [⟨sv, bs⟩] (fun (y : Value × Value × Value × Value × Value × Value) r => r = .tuple #[.agg (cState (rdState bs).1 y.1 y.2.1 y.2.2.1 y.2.2.2.1 y.2.2.2.2.1 y.2.2.2.2.2).toArray, .bool (decide ((rdState bs).2 = 0))]) (fun _ _ => []) (fun y _ => [⟨y.1, (rdState bs).1.fAccounts⟩, ⟨y.2.1, (rdState bs).1.fMarks⟩, ⟨y.2.2.1, (rdState bs).1.fWaits⟩, ⟨y.2.2.2.1, (rdState bs).1.fDeals⟩, ⟨y.2.2.2.2.1, (rdState bs).1.fEnds⟩, ⟨y.2.2.2.2.2, (rdState bs).1.fImage⟩]) := by
 refine Fnc.proof Tryz.func140 G 14 G G fun X w => qg<|al zero_55 G fun b2 => ru 1 G<|nl<|nx<|qg<|mv G G<|cf (readState_c sv bs) (Kg G) G (Sc 0 G Sn) G fun y8 v8 h8 => ?_
 obtain ⟨y0, y1, y2, y3, y4, y5⟩ := y8
 have h8 : v8 = .tuple #[.agg (cState (rdState bs).1 y0 y1 y2 y3 y4 y5).toArray, .int .i64 (rdState bs).2] := h8
 subst h8
 exact ru 3 G<|al zero_55 G fun b4 => oc 0 G fun o_y0 => oc 1 G fun o_y1 => oc 2 G fun o_y2 => oc 3 G fun o_y3 => oc 4 G fun o_y4 => oc 5 G fun o_y5 => stW 0 (us := (cState ((rdState bs).1) y0 y1 y2 y3 y4 y5)) G G G (Rg G) (by simp only [List.all_cons, List.all_nil, Bool.and_true, o_y0, o_y1, o_y2, o_y3, o_y4, o_y5]; rfl) G<|ru 1 G<|nl<|nx<|qg<|ldM 0 (cState ((rdState bs).1) y0 y1 y2 y3 y4 y5) G G (Rg G) G G<|ru 2 G<|oc 0 G fun o_y0 => oc 1 G fun o_y1 => oc 2 G fun o_y2 => oc 3 G fun o_y3 => oc 4 G fun o_y4 => oc 5 G fun o_y5 => stW 1 (us := (cState ((rdState bs).1) y0 y1 y2 y3 y4 y5)) G G G (Rg G) (by simp only [List.all_cons, List.all_nil, Bool.and_true, o_y0, o_y1, o_y2, o_y3, o_y4, o_y5]; rfl) G<|ru 1 G<|nl<|nx<|rt<|fRG (y0, y1, y2, y3, y4, y5) [_, _] (rCT 1 G G G G (Rg G)) (by rfl) G (Sc 0 G (Sc 1 G (Sc 2 G (Sc 3 G (Sc 4 G (Sc 5 G Sn))))))
end
end Go.Proofs.YtmpoffijcfaalaaGreat.Ref
namespace Go.Proofs.YtmpoffijcfaalaaGreat
open Go.Eng Go.YtmpoffijcfaalaaGreat
theorem rs_c (v_b : Value) (b : List UInt8) : Fnc Pg 159 [v_b] [] [⟨v_b, b⟩] (fun (y : Value × Value × Value × Value × Value × Value) r => r = .tuple #[.agg (cState (rdState b).1 y.1 y.2.1 y.2.2.1 y.2.2.2.1 y.2.2.2.2.1 y.2.2.2.2.2).toArray, .int .i64 (rdState b).2]) (fun _ _ => []) (fun y _ => [⟨y.1, (rdState b).1.fAccounts⟩, ⟨y.2.1, (rdState b).1.fMarks⟩, ⟨y.2.2.1, (rdState b).1.fWaits⟩, ⟨y.2.2.2.1, (rdState b).1.fDeals⟩, ⟨y.2.2.2.2.1, (rdState b).1.fEnds⟩, ⟨y.2.2.2.2.2, (rdState b).1.fImage⟩]) := Pen.readState_c v_b b
theorem image19_c (v_b : Value) (b : List UInt8) : Fnc Pg 140 [v_b] [] [⟨v_b, b⟩] (fun (y : Value × Value × Value × Value × Value × Value) r => r = .tuple #[.agg (cState (rdState b).1 y.1 y.2.1 y.2.2.1 y.2.2.2.1 y.2.2.2.2.1 y.2.2.2.2.2).toArray, .bool (decide ((rdState b).2 = 0))]) (fun _ _ => []) (fun y _ => [⟨y.1, (rdState b).1.fAccounts⟩, ⟨y.2.1, (rdState b).1.fMarks⟩, ⟨y.2.2.1, (rdState b).1.fWaits⟩, ⟨y.2.2.2.1, (rdState b).1.fDeals⟩, ⟨y.2.2.2.2.1, (rdState b).1.fEnds⟩, ⟨y.2.2.2.2.2, (rdState b).1.fImage⟩]) := Ref.image19_c v_b b
theorem sright_c (s : TState) (s_0 s_1 s_2 s_3 s_4 s_5 : Value) (h_s : s.wf) : FnV Pg 122 [.agg (cState s s_0 s_1 s_2 s_3 s_4 s_5).toArray] [⟨s_0, s.fAccounts⟩, ⟨s_1, s.fMarks⟩, ⟨s_2, s.fWaits⟩, ⟨s_3, s.fDeals⟩, ⟨s_4, s.fEnds⟩, ⟨s_5, s.fImage⟩] (.bool (srightP s)) := by
 refine Fnc.proof Tryz.func122 G 133 G G fun X w => qg<|bx G G G fun b1 => ru 1 G<|nl<|nx<|sq<|qg<|rl 2 [0] G G<|cfv (sgroup_c _ h_s.1) (Kg G) G Sn G<|ru 2 G ?_
 refine jz 11 14 [1] G G (fun h11 K25 => by
  exact rl 7 [0,0,0] G G<|rl 3 [0,0] G G<|gY G G G<|bs1 (xs := [.tmp 13, .tmp 15, .tmp 17, .tmp 19, .tmp 21]) (us := [.int .i64 s.fIndex, .int .i64 s.fEpoch, .int .i64 s.fAbsorbed, .int .i64 s.fRefused, .int .i64 s.fUndone]) (E := 3) (bytes := 8) (n := 5) G (by exact app_220) G G G G G G fun b22 => frS (α := Int) [s.fIndex, s.fEpoch, s.fAbsorbed, s.fRefused, s.fUndone] [[.int .i64 s.fIndex], [.int .i64 s.fEpoch], [.int .i64 s.fAbsorbed], [.int .i64 s.fRefused], [.int .i64 s.fUndone]] G (fun S w h => ⟨⟨G, h_s.2.1⟩, ⟨G, h_s.2.2.2.2.2.1⟩, ⟨G, h_s.2.2.2.2.2.2.2.2.2.2.2.2.2.2.1⟩, ⟨G, h_s.2.2.2.2.2.2.2.2.2.2.2.2.2.2.2.1⟩, ⟨G, h_s.2.2.2.2.2.2.2.2.2.2.2.2.2.2.2.2⟩, trivial⟩) (Nat.le_of_ble_eq_true G)<|gY G G G<|cfv (counts_c _ _) (Kg G) G (Sc 0 G Sn) G<|ru 2 G<|K25 G (SubD.tail Sr)) ?_
 refine mv G G<|jz 26 4 [1] G G (fun h26 K30 => gY G G G<|ldM 0 (cState s s_0 s_1 s_2 s_3 s_4 s_5) G G (Rg G) G G<|gY G G G<|cfv (owned_c _ _ _ _ _ _ _ h_s) (Kg G) G (Si [0,1,2,3,4,5] G) G<|ru 2 G<|K30 G Sr)<|mv G G<|jz 31 4 [1] G G (fun h31 K35 => gY G G G<|ldM 0 (cState s s_0 s_1 s_2 s_3 s_4 s_5) G G (Rg G) G G<|gY G G G<|cfv (saccs_c _ _ _ _ _ _ _ h_s) (Kg G) G (Si [0,1,2,3,4,5] G) G<|ru 2 G<|K35 G Sr)<|nl<|nx<|cdB G (fun h35 => ?_) (fun h35 => ?_)
 ·
  have e35 : (sright1 s) = true := h35
  exact sa 1 G<|rt<|tR<|dpQ<|fR1 () G G (by rw [srightP, if_pos e35]) G Sn
 ·
  have e35 : (sright1 s) = false := h35
  refine sk<|nx<|sq<|qg<|rl 2 [0] G G<|cfv (scheck_c _ _) (Kg G) G (Sc 1 G Sn) G<|ru 2 G ?_
  refine jz 40 5 [1] G G (fun h40 K45 => by
   have p40 := h40
   simp only [Bool.not_eq_false', decide_eq_true_eq] at p40
   exact rl 2 [0] G G<|gY G G G<|cfv (deals_c _ _) (Kg G) G (Sc 3 G Sn) G<|ru 2 G<|K45 G Sr) ?_
  refine mv G G<|jz 46 5 [1] G G (fun h46 K51 => rl 2 [0] G G<|gY G G G<|cfv (dends_c _ _) (Kg G) G (Sc 4 G Sn) G<|ru 2 G<|K51 G Sr)<|mv G G<|jz 52 5 [1] G G (fun h52 K57 => rl 2 [0] G G<|gY G G G<|lnP 2 G G Tryz.underlying51 G fun l55 => ru 2 G<|K57 G Sr)<|nl<|nx<|cdB G (fun h57 => ?_) (fun h57 => ?_)
  ·
   have e57 : (sright2 s) = true := h57
   exact sa 1 G<|rt<|tR<|dpQ<|fR1 () G G (by rw [srightP, if_neg (by rw [e35]; decide), if_pos e57]) G Sn
  ·
   have e57 : (sright2 s) = false := h57
   refine sk<|nx<|sq<|qg<|rl 2 [0] G G<|lnP 2 G G Tryz.underlying51 G fun l60 => mv G G<|nl<|nx<|bk<|lpC (σ := Nat) [(1, _), (59, _), (60, _)] _ (fun i C => (61, .int .i64 (i : Int)) :: C) (fun i => i ≤ s.fWaits.length ∧ (∀ j, j < i → waitP s (s.fWaits.getD j default) = true)) (fun i => s.fWaits.length - i) 0 (Gs G) (Sc 0 G (Sc 1 G (Sc 2 G (Sc 3 G (Sc 4 G (Sc 5 G Sn)))))) ⟨Nat.zero_le _, fun j hj => absurd hj (Nat.not_lt_zero j)⟩ (Gs G) ?_
   rintro i ⟨hi, hall⟩
   refine sa 1 G<|sq<|cdP G (fun h62 => ?_) (fun h62 => ?_)
   ·
    refine sk<|nx<|sq<|bk<|qg<|ixQ 2 G G G slt_51 G fun v63 => ldS 0 G G (Rg G) G fun q64 w64 => al zero_108 G fun b4 => stW 0 (us := (cWait ((s.fWaits.getD i default)))) G G G (Rg G) G G<|nl<|nx<|qg<|ldM 1 (cState s s_0 s_1 s_2 s_3 s_4 s_5) G G (Rg G) G G<|ldM 0 (cWait ((s.fWaits.getD i default))) G G (Rg G) G G<|cfv (waiting_c _ _ _ _ _ _ _ _ h_s w64) (Kg G) G (Si [2,3,4,5,6,7] G) G<|nt G G<|nl<|nx<|cdB G (fun h68 => ?_) (fun h68 => ?_)
    · exact sa 1 G<|rt<|bR<|tR<|tR<|bR<|tR<|dpQ<|dpQ<|fR1 () G G (by rw [srightP, if_neg (by rw [e35]; decide), if_neg (by rw [e57]; decide), if_neg (by rw [srightW, allI_false i (by omega) (by simpa using h68)]; decide)]) G Sn
    ·
     refine sk<|bN<|nx<|rg<|adI G G inI G<|mv G G<|nl<|dpQ ?_
     exact ag (i + 1) ⟨(by omega), (all_snoc hall (by simpa using h68))⟩ (by omega) (Gs G) G (Si [2,3,4,5,6,7] G)
   ·
    have eW : srightW s = true := allI_true (fun j hj => hall j (by omega))
    refine ex<|tE<|tE<|bE<|nx<|sq<|qg<|ru 1 G<|ldM 0 (cPlan s.fSeal) G G (Rg G) G G<|bd (ps := []) (cs := (cPlan (pZ))) (by rfl) (by kernel_rfl) G<|neT eq_Plan (s.fSeal) (pZ) G G G<|mv G G ?_
    refine jy 74 29 [1] G G (fun h74 K103 => by
     have p74 := h74
     simp only [Bool.not_eq_true', decide_eq_false_iff_not] at p74
     refine ru 1 G<|gY G G G<|ldM 0 (cPlan s.fSeal) G G (Rg G) G G<|gY G G G<|cfv (planned_c _ h_s.2.2.2.2.2.2.2.2.2.2.2.1) (Kg G) G Sn G<|ru 2 G ?_
     refine jz 79 7 [1,74] G G (fun h79 K86 => by
      exact rl 7 [0,0] G G<|K86 G Sr) ?_
     refine ru 1 G ?_
     refine jz 87 7 [1,74] G G (fun h87 K94 => by
      exact rl 7 [0,0] G G<|K94 G Sr) ?_
     refine ru 1 G ?_
     refine jz 95 7 [1,74] G G (fun h95 K102 => by
      exact gY G G G<|ldM 0 (cState s s_0 s_1 s_2 s_3 s_4 s_5) G G (Rg G) G G<|rl 3 [0] G G<|gY G G G<|cfv (owns_c _ _ _ _ _ _ _ _ h_s) (Kg G) G (Si [0,1,2,3,4,5] G) G<|ru 2 G<|K102 G Sr) ?_
     exact ru 1 G<|K103 G Sr) ?_
    refine nl<|nx<|cdB G (fun h103 => ?_) (fun h103 => ?_)
    ·
     have e103 : (sright3 s) = true := h103
     exact sa 1 G<|rt<|tR<|dpQ<|fR1 () G G (by rw [srightP, if_neg (by rw [e35]; decide), if_neg (by rw [e57]; decide), if_pos eW, e103]; first | (rw [e107]; try rfl) | (try rfl)) G Sn
    ·
     have e103 : (sright3 s) = false := h103
     refine sk<|nx<|sq<|qg<|ru 1 G<|ldM 0 (cPlan s.fOut) G G (Rg G) G G<|bd (ps := []) (cs := (cPlan (pZ))) (by rfl) (by kernel_rfl) G<|eqT eq_Plan (s.fOut) (pZ) G G G<|nl<|nx<|cdP G (fun h107 => ?_) (fun h107 => ?_)
     ·
      have e107 : (decide (s.fOut = ⟨0, 0, 0, ByteArray.empty, ByteArray.empty, 0, 0⟩)) = true := (decide_eq_true h107)
      exact qg<|rl 2 [0] G G<|lnP 5 G G Tryz.underlying35 G fun l110 => ru 2 G<|nl<|nx<|rt<|tR<|dpQ<|fR1 () G G (by rw [srightP, if_neg (by rw [e35]; decide), if_neg (by rw [e57]; decide), if_pos eW, e103]; first | (rw [e107]; try rfl) | (try rfl)) G Sn
     ·
      have e107 : (decide (s.fOut = ⟨0, 0, 0, ByteArray.empty, ByteArray.empty, 0, 0⟩)) = false := (decide_eq_false h107)
      refine sk<|nx<|qg<|rl 2 [0] G G<|cf (rs_c _ _) (Kg G) G (Sc 5 G Sn) G fun y115 v115 h115 => ?_
      obtain ⟨y115_0, y115_1, y115_2, y115_3, y115_4, y115_5⟩ := y115
      replace h115 : v115 = .tuple #[.agg (cState (rdState _).1 y115_0 y115_1 y115_2 y115_3 y115_4 y115_5).toArray, .int .i64 (rdState _).2] := h115
      subst h115
      exact ru 3 G<|al zero_55 G fun b5 => oc 0 G fun o_y115_0 => oc 1 G fun o_y115_1 => oc 2 G fun o_y115_2 => oc 3 G fun o_y115_3 => oc 4 G fun o_y115_4 => oc 5 G fun o_y115_5 => stW 0 (us := (cState ((rdState s.fImage).1) y115_0 y115_1 y115_2 y115_3 y115_4 y115_5)) G G G (Rg G) (by simp only [List.all_cons, List.all_nil, Bool.and_true, o_y115_0, o_y115_1, o_y115_2, o_y115_3, o_y115_4, o_y115_5]; rfl) G<|ru 1 G<|nl<|nx<|qg<|ru 1 G<|ldM 1 (cPlan s.fOut) G G (Rg G) G G<|cfv (planned_c _ h_s.2.2.2.2.2.2.2.2.2.2.2.2.1) (Kg G) G Sn G<|mv G G<|ja 121 7 [1,1] [6] G G G<|mv G G<|ja 129 3 [] [] G G G<|ru 1 G<|nl<|nx<|rt<|dpQ<|dpQ<|fR1 () G G (by rw [srightP, if_neg (by rw [e35]; decide), if_neg (by rw [e57]; decide), if_pos eW, e103]; first | (rw [e107]; try rfl) | (try rfl)) G Sn
theorem shcheck_c (s : TState) (s_0 s_1 s_2 s_3 s_4 s_5 : Value) (h_s : s.wf) : FnV Pg 57 [.agg (cState s s_0 s_1 s_2 s_3 s_4 s_5).toArray] [⟨s_0, s.fAccounts⟩, ⟨s_1, s.fMarks⟩, ⟨s_2, s.fWaits⟩, ⟨s_3, s.fDeals⟩, ⟨s_4, s.fEnds⟩, ⟨s_5, s.fImage⟩] (.int .i64 (errF (srightP s))) := by
 refine Fnc.proof Tryz.func57 G 6 G G fun X w => qg<|bx G G G fun b1 => ru 1 G<|nl<|nx<|sq<|qg<|ldM 0 (cState s s_0 s_1 s_2 s_3 s_4 s_5) G G (Rg G) G G<|cfv (sright_c _ _ _ _ _ _ _ h_s) (Kg G) G (Si [0,1,2,3,4,5] G) G<|nt G G<|nl<|nx<|cdB G (fun h5 => ?_) (fun h5 => ?_)
 · exact sa 1 G<|rt<|tR<|dpQ<|fR1 () G G (by rw [errF, if_neg (by have q := h5; rw [Bool.not_eq_true'] at q; rw [q]; decide)]) G Sn
 · exact sk<|nx<|sa 1 G<|rt<|dpQ<|fR1 () G G (by rw [errF, if_pos (by have q := h5; rw [Bool.not_eq_false'] at q; exact q)]) G Sn
theorem dright_c (v : TScene) (v_0 v_1 v_2 v_3 v_4 : Value) (h_v : v.wf) : FnV Pg 17 [.agg (cScene v v_0 v_1 v_2 v_3 v_4).toArray] [⟨v_0, v.fChart.fPlaces⟩, ⟨v_1, v.fChart.fMarks⟩, ⟨v_2, v.fStates⟩, ⟨v_3, v.fRights⟩, ⟨v_4, v.fAges⟩] (.bool (drightP v)) := by
 refine Fnc.proof Tryz.func17 G 65 G G fun X w => qg<|bx G G G fun b1 => ru 1 G<|nl<|nx<|sq<|qg<|rl 4 [0] G G<|ja 8 4 [0] [1] G G G<|mv G G<|ja 13 4 [0] [1] G G G<|mv G G<|jb 18 4 [0] [1] G G G<|mv G G<|jb 23 6 [0,0] [1] G G G<|mv G G<|jz 30 5 [1] G G (fun h30 K35 => rl 2 [0] G G<|gY G G G<|lnP 2 G G Tryz.underlying28 G fun l33 => ru 2 G<|K35 G Sr)<|nl<|nx<|cdB G (fun h35 => ?_) (fun h35 => ?_)
 ·
  have e35 : (dright1 v) = true := h35
  exact sa 1 G<|rt<|tR<|dpQ<|fR1 () G G (by rw [drightP, if_pos e35]) G Sn
 ·
  have e35 : (dright1 v) = false := h35
  refine sk<|nx<|sq<|qg<|rl 2 [0] G G<|lnP 2 G G Tryz.underlying28 G fun l38 => mv G G<|nl<|nx<|bk<|lpC (σ := Nat) [(1, _), (37, _), (38, _)] _ (fun i C => (39, .int .i64 (i : Int)) :: C) (fun i => i ≤ v.fStates.length ∧ (∀ j, j < i → (!drightj v j) = true)) (fun i => v.fStates.length - i) 0 (Gs G) (Sc 0 G (Sc 1 G (Sc 2 G (Sc 3 G (Sc 4 G Sn))))) ⟨Nat.zero_le _, fun j hj => absurd hj (Nat.not_lt_zero j)⟩ (Gs G) ?_
  rintro i ⟨hi, hall⟩
  refine sa 1 G<|sq<|cdP G (fun h40 => ?_) (fun h40 => ?_)
  ·
   refine sk<|nx<|sq<|bk<|qg<|mv G G<|ixQ 2 G G G slt_28 G fun v42 => ldS 0 G G (Rg G) G fun q43 w43 => ?_
   obtain ⟨q43_0, q43_1, q43_2, q43_3, q43_4, q43_5⟩ := q43
   refine al zero_55 G fun b4 => ru 1 G<|oc 1 G fun o_q43_0 => oc 2 G fun o_q43_1 => oc 3 G fun o_q43_2 => oc 4 G fun o_q43_3 => oc 5 G fun o_q43_4 => oc 6 G fun o_q43_5 => stW 0 (us := (cState ((v.fStates.getD i default)) q43_0 q43_1 q43_2 q43_3 q43_4 q43_5)) G G G (Rg G) (by simp only [List.all_cons, List.all_nil, Bool.and_true, o_q43_0, o_q43_1, o_q43_2, o_q43_3, o_q43_4, o_q43_5]; rfl) G<|nl<|nx<|qg<|ru 1 G<|rl 2 [0] G G<|adI G G inI G<|ru 2 G ?_
   refine jz 49 4 [1,37,38,39] G G (fun h49 K53 => by
    have p49 := h49
    simp only [Bool.not_eq_false', decide_eq_true_eq] at p49
    exact gY G G G<|ldM 0 (cState ((v.fStates.getD i default)) q43_0 q43_1 q43_2 q43_3 q43_4 q43_5) G G (Rg G) G G<|gY G G G<|cfv (shcheck_c _ _ _ _ _ _ _ w43) (Kg G) G (Si [1,2,3,4,5,6] G) G<|ru 2 G<|K53 G Sr) ?_
   refine nl<|nx<|cdB G (fun h53 => ?_) (fun h53 => ?_)
   · exact sa 1 G<|rt<|bR<|tR<|tR<|bR<|tR<|dpQ<|dpQ<|fR1 () G G (by rw [drightP, if_neg (by rw [e35]; decide), if_neg (by rw [allI_false i (by omega) (not_t h53)]; decide)]) G Sn
   ·
    refine sk<|bN<|nx<|rg<|adI G G inI G<|mv G G<|nl<|dpQ ?_
    exact ag (i + 1) ⟨(by omega), (all_snoc hall (not_f h53))⟩ (by omega) (Gs G) G (Si [8,9,10,11,12] G)
  ·
   refine ex<|tE<|tE<|bE<|nx<|qg<|ru 1 G<|ldM 0 (cChart v.fChart v_0 v_1) G G (Rg G) G G<|cfv (pcheck_c _ _ _ h_v.2.2.1) (Kg G) G (Si [0,1] G) G<|ru 2 G ?_
   refine jy 59 5 [] G G (fun h59 K64 => by
    have p59 := of_decide_eq_true h59
    exact rl 2 [0] G G<|gY G G G<|cfv (lcheck_c _ _) (Kg G) G (Sc 3 G Sn) G<|ru 2 G<|K64 G Sr) ?_
   exact ru 1 G<|nl<|nx<|rt<|dpQ<|fR1 () G G (by rw [drightP, if_neg (by rw [e35]; decide), if_pos (allI_true (fun j hj => hall j (by omega)))]) G Sn
theorem plus_c (S : Int) (n : Int) (hS : BW S) (h_n : InI n) : FnV Pg 211 [.agg (cWide (wide S)).toArray, .int .i64 n] [] (.agg (cWide (wide (S + n))).toArray) := by
 refine Fnc.proof Tryz.func211 G 28 G G fun X w => ?_
 obtain ⟨h_n1, h_n2⟩ := id h_n
 obtain ⟨hS1, hS2⟩ := id hS
 refine qg<|bx G G G fun b2 => al zero_211 G fun b4 => nl<|nx<|qg<|rl 3 [1] G G<|cv Tryz.underlying3 Tryz.underlying209 G (wrapu _) G ?_
 have hx13 := fun w => add64_ok (P := Tryz.prog) (S % 18446744073709551616) (n % 18446744073709551616) 0 (by omega) (by omega) (by omega) (by omega) w
 refine cx ext_222 hx13 G G<|ru 5 G<|nl<|nx<|qg<|rl 3 [1] G G<|cv Tryz.underlying209 Tryz.underlying2 G (wrap_i64_in inI) G<|adI G G (show InI (S / 18446744073709551616 + ((S % 18446744073709551616 + n % 18446744073709551616 + 0) / 18446744073709551616)) from inI) G<|ru 1 G<|nl<|nx<|sq<|sa 2 G<|cdP G (fun h22 => ?_) (fun h22 => ?_)
 · exact rg<|mv G G<|sbI G G (show InI (S / 18446744073709551616 + ((S % 18446744073709551616 + n % 18446744073709551616 + 0) / 18446744073709551616) - 1) from inI) G<|ru 1 G<|nl<|nx<|qg<|ru 2 G<|bd (ps := [(0, .tmp 25), (1, .tmp 26)]) (cs := (cWide ((⟨(S / 18446744073709551616 + ((S % 18446744073709551616 + n % 18446744073709551616 + 0) / 18446744073709551616) - 1), ((S % 18446744073709551616 + n % 18446744073709551616 + 0) % 18446744073709551616)⟩ : TWide)))) (by rfl) (by kernel_rfl) G<|stW 0 (us := (cWide ((⟨(S / 18446744073709551616 + ((S % 18446744073709551616 + n % 18446744073709551616 + 0) / 18446744073709551616) - 1), ((S % 18446744073709551616 + n % 18446744073709551616 + 0) % 18446744073709551616)⟩ : TWide)))) G G G (Rg G) G G<|nl<|nx<|rt<|fRG () [_, _] (rC 0 G G G (Rg G)) (by exact wide_eq (wideN h22 h_n)) G Sn
 · exact sk<|nx<|qg<|ru 2 G<|bd (ps := [(0, .tmp 25), (1, .tmp 26)]) (cs := (cWide ((⟨(S / 18446744073709551616 + ((S % 18446744073709551616 + n % 18446744073709551616 + 0) / 18446744073709551616)), ((S % 18446744073709551616 + n % 18446744073709551616 + 0) % 18446744073709551616)⟩ : TWide)))) (by rfl) (by kernel_rfl) G<|stW 0 (us := (cWide ((⟨(S / 18446744073709551616 + ((S % 18446744073709551616 + n % 18446744073709551616 + 0) / 18446744073709551616)), ((S % 18446744073709551616 + n % 18446744073709551616 + 0) % 18446744073709551616)⟩ : TWide)))) G G G (Rg G) G G<|nl<|nx<|rt<|fRG () [_, _] (rC 0 G G G (Rg G)) (by exact wide_eq (wideP h22 h_n)) G Sn
theorem less_c (S : Int) (n : Int) (hS : BV S) (h_n : InI n) : FnV Pg 229 [.agg (cWide (wide S)).toArray, .int .i64 n] [] (.agg (cWide (wide (S - n))).toArray) := by
 refine Fnc.proof Tryz.func229 G 10 G G fun X w => ?_
 obtain ⟨h_n1, h_n2⟩ := id h_n
 obtain ⟨hS1, hS2⟩ := id hS
 exact qg<|bx G G G fun b2 => al zero_211 G fun b4 => nl<|nx<|qg<|ldM 1 (cWide ((wide S))) G G (Rg G) G G<|mv G G<|cpW G (cplI h_n) G<|cfv (plus_c S (-n - 1) hS.w inI) (Kg G) G Sn G<|cfv (plus_c (S + (-n - 1)) 1 (by unfold BW; omega) inI) (Kg G) G Sn G<|stW 0 (us := (cWide ((wide (S + (-n - 1) + 1))))) G G G (Rg G) G G<|nl<|nx<|rt<|fRG () [_, _] (rC 0 G G G (Rg G)) (by exact wide_eq (congrArg wide (by omega))) G Sn
theorem above_c (S : Int) (n : Int) (hS : BV S) (h_n : InI n) : FnV Pg 228 [.agg (cWide (wide S)).toArray, .int .i64 n] [] (.bool (aboveP S n)) := by
 refine Fnc.proof Tryz.func228 G 22 G G fun X w => ?_
 obtain ⟨h_n1, h_n2⟩ := id h_n
 obtain ⟨hS1, hS2⟩ := id hS
 refine qg<|bx G G G fun b2 => ru 1 G<|nl<|nx<|qg<|ldM 0 (cWide ((wide S))) G G (Rg G) G G<|mv G G<|cfv (less_c S n hS h_n) (Kg G) G Sn G<|al zero_211 G fun b5 => stW 0 (us := (cWide ((wide (S - n))))) G G G (Rg G) G G<|nl<|nx<|qg<|rl 4 [0] G G ?_
 refine jz 12 9 [] G G (fun h12 K21 => by
  have p12 := of_decide_eq_false h12
  exact rl 4 [0] G G<|ja 16 4 [0] [12] G G G<|ru 1 G<|K21 G Sr) ?_
 exact ru 1 G<|nl<|nx<|rt<|dpQ<|dpQ<|fR1 () G G (by exact congrArg Value.bool (above_w hS.w h_n)) G Sn
theorem wint_c (S : Int) (hS : BW S) : FnV Pg 152 [.agg (cWide (wide S)).toArray] [] (.tuple #[.int .i64 (IntKind.i64.wrap (S % 18446744073709551616)), .bool (sumOk S)]) := by
 refine Fnc.proof Tryz.func152 G 25 G G fun X w => ?_
 obtain ⟨hS1, hS2⟩ := id hS
 refine qg<|bx G G G fun b1 => ru 2 G<|nl<|nx<|sq<|rgQ mixed (by kernel_rfl)<|rl 2 [0] G G<|cv Tryz.underlying209 Tryz.underlying3 G G G<|rl 2 [0] G G<|ru 2 G<|ja 10 4 [0] [1,6] G G G<|mv G G ?_
 refine jz 15 9 [6] G G (fun h15 K24 => by
  exact rl 4 [0] G G<|ja 19 4 [0] [6,15] G G G<|ru 1 G<|K24 G Sr) ?_
 exact ru 2 G<|nlQ<|nx<|rt<|dpQ<|fR2 () G G G (by exact congrArg (fun b => Value.tuple #[.int .i64 (IntKind.i64.wrap (S % 18446744073709551616)), .bool b]) (int_w hS)) G Sn
theorem wof_c (v_l : Value) (l : List Int) (hl : l.length ≤ 1000) : FnV Pg 210 [v_l] [⟨v_l, l⟩] (.agg (cWide (wide l.sum)).toArray) := by
 refine Fnc.proof Tryz.func210 G 19 G G fun X w => gtC (q := allIn l) (fun S w h => ints_all (h _ (List.mem_cons_self ..))) fun hA => ?_
 have hB := sum_BW hA hl
 refine qg<|al zero_211 G fun b2 => nl<|nx<|qg<|bd (ps := []) (cs := cWide (wide 0)) (by rfl) (by kernel_rfl) G<|al zero_211 G fun b3 => stW 0 (us := (cWide ((wide 0)))) G G G (Rg G) G G<|nl<|nx<|sq<|sa 1 G<|bk<|lpE (σ := Nat) [(0, _), (2, _), (3, _)] _ (fun i C => (4, .int .i64 (i : Int)) :: C) (fun i => [bl b3 211 (cWide (wide (l.take i).sum)), bl b2 211 zv7, fz X w]) (fun _ Dc => Dc) (fun i => i ≤ l.length) (fun i => l.length - i) 0 (Gs G) (Sc 0 G Sn) (Nat.zero_le _) (Gs G) G (Sc 0 G Sn) ?_
 intro i hi
 refine sq<|qg<|ru 2 G<|lnP 0 G G Tryz.underlying220 G fun l8 => ru 1 G<|nl<|nx<|cdP G (fun h9 => ?_) (fun h9 => ?_)
 ·
  have hb := hB i hi
  have hx := getD_InI hA (i := i) (by omega)
  refine sk<|nx<|sq<|bk<|rgT 6 mixed (by kernel_rfl)<|ldM 0 (cWide ((wide (l.take i).sum))) G G (Rg G) G G<|ru 2 G<|ixQ 0 G G G slt_220 G fun v15 => ldV 0 G G (Og G) G fun w16 => cfq (plus_c (l.take i).sum (l.getD i default) (by unfold BW; omega) hx) (Kg G) G Sn G<|nlT<|stW 0 (us := (cWide ((wide ((l.take i).sum + l.getD i default))))) G G G (Rg G) G G<|nl<|bN<|nx<|rg<|mv G G<|adI G G inI G<|ru 1 G<|nl ?_
  exact ag (i + 1) (by omega) (by omega) (Gs G) (by rw [sum_take (l := l) (i := i) (by omega)]; rfl) (Sc 1 G Sn)
 · exact ex<|tE<|tE<|bE<|nx<|qg<|ldM 0 (cWide ((wide (l.take i).sum))) G G (Rg G) G G<|stW 1 (us := (cWide ((wide (l.take i).sum)))) G G G (Rg G) G G<|nl<|nx<|rt<|fRG () [_, _] (rC 1 G G G (Rg G)) (by have e : i = l.length := (by omega); rw [e, List.take_length]) G Sn
end Go.Proofs.YtmpoffijcfaalaaGreat
