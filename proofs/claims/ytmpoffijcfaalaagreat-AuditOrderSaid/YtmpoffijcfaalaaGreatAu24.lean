/- Part 24 of the proof of auditOrder_holds: DutN3. Every text below begins with what it shows. -/
import Derived.Test.YtmpoffijcfaalaaGreatAu23

/- Walks of the pens that read: written by specs3.py. -/

namespace Go.Proofs.YtmpoffijcfaalaaGreat.Pen
open Go.Eng Go.YtmpoffijcfaalaaGreat

attribute [local irreducible] gdSpan gdLock gdHolder gdAnswer gdOp gdPlan gdEnd gdMark gdDeal gdWait gdAccount gdState rdInt rdText rdFlag rdCount

theorem listHolder_p (pv bv : Value) (p : Nat) (bs : List UInt8) (s0 : Rd) (b T : Nat) (cells : List Value) (o : Nat) (hp : s0.pos ≤ bs.length) (hz : cells[o]? = some (.slice none 0 0)) : Fnc Tryz.prog 302 [pv, .pointer (some ⟨b, o, none⟩), .func (.func 303) #[pv] #[]] [bl b T cells, rdr p bv s0] [⟨pv, (⟨⟨p⟩⟩ : Pt Tpen)⟩, ⟨bv, bs⟩] (fun (_ : Value) _ => True) (fun y _ => [bl b T (cells.set o y), rdr p bv (rdLs bs (gdHolder bs) s0).2]) (fun y _ => [⟨y, (rdLs bs (gdHolder bs) s0).1⟩]) := by
 refine Fnc.proof Tryz.func302 G 80 G G fun X w => ?_
 obtain ⟨c0, rfl⟩ : ∃ c0 : List Value, cells = c0.set o (.slice none 0 0) := ⟨cells, (set_same hz).symm⟩
 have ho : o < c0.length := by have := lt_of_at hz; rwa [List.length_set] at this
 have hNle := rdCount_le' bs s0
 refine sq<|sq<|rg<|mv G G<|cf1 1 (stopped_c pv bv p s0) ok_295 G G (Sc 0 G Sn) G fun _ v11 h11 => ?_
 have h11 : v11 = .bool (stopB s0) := h11
 subst h11
 refine nl<|nx<|cdB G (fun h11 => ?_) (fun h11 => ?_)
 ·
  have hf := (stopB_iff s0).1 h11
  exact emC (α := THolder)<|rt<|tR<|fR0 (.slice none 0 0) G trivial (by simp only [rdLs_stop hf, List.set_set, List.cons_append, List.nil_append]; rfl) (by rw [rdLs_stop hf]; exact (SubD.cons 0 rfl SubD.nil))
 ·
  refine sk<|nx<|sq<|sq<|rg<|mv G G<|ncP 0 G G G<|faP (α := Tpen) (β := RawP) 0 (fun x : Tpen => x.fIn) G G fld_314_0 ppen_0 G fun v14 => ldV 0 G G one_311 G fun w15 => ?_
  refine eqP Tryz.underlying311 G G G<|nl<|nx<|cdF G<|sk<|nx<|sq<|rg<|mv G G<|ncP 1 G G G<|faP (α := Tpen) (β := RawP) 1 (fun x : Tpen => x.fIn) G G fld_314_0 ppen_0 G fun v57 => ldV 0 G G one_311 G fun w58 => ?_
  refine cf1 1 (Rdr.count_r p bv bs s0 1024 (inI (by omega) (by omega)) hp) ok_301 G G (Sc 3 G Sn) G fun _ v59 h59 => ?_
  have h59 : v59 = .int .i64 ((rdCount bs 1024 s0).1 : Int) := h59
  subst h59
  refine asg G G<|nl<|nx<|sq<|rg<|asg G G<|nl<|nx<|bk<|rwC THolder 165<|lpE (σ := Nat × Value × List THolder × Rd) [(0, _), (1, _), (2, _), (7, _)] _ (fun i C => (8, .int .i64 (i.1 : Int)) :: C) (fun i => [row 165 i.2.1 i.2.2.1, bl b T (c0.set o i.2.1), rdr p bv i.2.2.2, fz X w]) (fun _ Dc => Dc) (fun i => i.1 ≤ (rdCount bs 1024 s0).1 ∧ i.2.2.1.length = i.1 ∧ i.2.2.2.pos ≤ bs.length ∧ rdLs bs (gdHolder bs) s0 = (i.2.2.1 ++ (rdMany (gdHolder bs) ((rdCount bs 1024 s0).1 - i.1) i.2.2.2).1, (rdMany (gdHolder bs) ((rdCount bs 1024 s0).1 - i.1) i.2.2.2).2)) (fun i => (rdCount bs 1024 s0).1 - i.1) (0, .slice none 0 0, [], (rdCount bs 1024 s0).2) ⟨G, G, G, G, trivial⟩ (Sc 2 G (Sc 3 G Sn)) ⟨Nat.zero_le _, G, rdCount_pos hp, G⟩ ⟨G, G, G, G, G, trivial⟩ G (Sc 2 G (Sc 3 G Sn)) ?_
  rintro ⟨i, rv, acc, s⟩ ⟨hi, hl, hs, he⟩
  simp only at hi hl hs he
  refine sq<|sq<|rg<|mv G G<|mv G G<|ltI G G G<|mv G G ?_
  apply jo [(0, _), (1, _), (2, _), (7, _), (8, _)] ⟨rfl, rfl, rfl, rfl, rfl, trivial⟩
  ·
   intro K67
   refine spA (i := 63) G (fun h63 => ?_) (fun h63 => ?_)
   ·
    have p63 := of_decide_eq_true h63
    refine gY G G G<|mv G G<|gY G G G<|cf1 2 (stopped_c pv bv p s) ok_295 G G (Sc 0 G Sn) G fun _ v65 h65 => ?_
    have h65 : v65 = .bool (stopB s) := h65
    subst h65
    exact gY G G G<|nt G G<|pkT G G G<|jA K67 h63 ⟨G, G, G, G, G, trivial⟩ Sr
   ·
    exact gS (g := [_, _, _]) G<|pkF G G G<|jA0 K67 h63 ⟨G, G, G, G, G, trivial⟩ Sr
  refine nl<|nx<|cdB G (fun h67 => ?_) (fun h67 => ?_)
  ·
   have q67 := h67
   simp at q67
   obtain ⟨q1, q2⟩ := q67
   have hf := (stopB_not s).1 q2
   have hl1 : [(gdHolder bs s).1].length = 1 := rfl
   refine sk<|nx<|sq<|bk<|sq<|rg<|al zero_165 G fun b9 => nl<|nx<|sq<|rg<|mv G G<|mtL 3 G<|mtL 1 G ?_
   refine cfPc (L0 := [bl b9 165 zv0, rdr p bv s]) (Lr := [row 165 rv acc, bl b T (c0.set o rv), fz X w]) (holder_e pv bv p bs s b9 hs) ok_303 G G G G (Sc 0 G (Sc 1 G Sn)) G fun _ _ _ => nl<|nx ?_
   refine rgV ⟨fun i => ([[], [], [1], [2], [], [4], [3, 5], [0], [7, 6]] : List (List Nat)).getD i [], fun _ _ => True, fun i => ([fun _ => [], fun _ => [], fun _ => [], fun _ => [], fun _ => [], fun u => [⟨u, [(gdHolder bs s).1]⟩], fun _ => [], fun _ => [], fun _ => []] : List (Value → List Atom)).getD i (fun _ => []), fun vs => match vs with
     | [] => [bl b9 165 (cHolder (gdHolder bs s).1), rdr p bv (gdHolder bs s).2, row 165 rv acc, bl b T (c0.set o rv), fz X w]
     | [v0] => [bl b9 165 (cHolder (gdHolder bs s).1), rdr p bv (gdHolder bs s).2, row 165 v0 (acc ++ [(gdHolder bs s).1]), bl b T (c0.set o rv), fz X w]
     | [v0, v1] => [bl b9 165 (cHolder (gdHolder bs s).1), rdr p bv (gdHolder bs s).2, row 165 v0 (acc ++ [(gdHolder bs s).1]), bl b T ((c0.set o rv).set o v0), fz X w]
     | _ => [], [6, 8]⟩ (fun i => ([some (.pointer (some ⟨b, o, none⟩)), some (.pointer (some ⟨b, o, none⟩)), some (.pointer (some ⟨b, o, none⟩)), some (rv), some (.agg (cHolder ((gdHolder bs s).1)).toArray), none, none, some (.pointer (some ⟨b, o, none⟩)), none] : List (Option Value)).getD i none) mixed rfl rfl ?_ ?_
   ·
    refine ⟨fun V De _=>aP2 (mv G G<|oa G G G G) (mv G G<|oa G G G G),fun V De _=>aP2 (mv G G<|oa G G G G) (mv G G<|oa G G G G),fun V De _=>aP2 (nc G G<|oa G G G G) (nc G G<|oa G G G G),fun V De _=>aP1 (ldB 3 G G one_66 (set_at ho) G<|oa G G G G),fun V De _=>aP2 (ldM 0 (cHolder ((gdHolder bs s).1)) G G row_165 G G<|oa G G G G) (ldM 0 (cHolder ((gdHolder bs s).1)) G G row_165 G G<|oa G G G G),fun V De _=>aP1 (bsM G app_66 G G G G fun b77 => frS1 (α := THolder) (gdHolder bs s).1 (fun S w h => ⟨(), G, by simp, gdHolder_wf bs s⟩)<|nl (od G G G trivial (Sc 0 G Sn) (SubD.tail Sr))),fun V De _=>aP1 (ap 2 0 G G G G app_66 (by omega) (by omega) G fun v78 => nl (od G G G trivial Sn (SubD.tail Sr))),fun V De _=>aP1 (nc G G<|oa G G G G),?_⟩
    exact ⟨fun V De _=>aP1 (stR 3 2 G G G G one_66 (by rw [List.length_set]; exact ho)<|nl (od0 G G Sr)),trivial⟩
   ·
    intro V _
    refine wkQ (L := [bl b9 165 (cHolder (gdHolder bs s).1), rdr p bv (gdHolder bs s).2, row 165 (V 6) (acc ++ [(gdHolder bs s).1]), bl b T ((c0.set o rv).set o (V 6)), fz X w]) [(0, _), (1, _), (2, _), (7, _), (8, _)] [_, _] ⟨G, G, G, G, G, trivial⟩ (Sc 1 G (Sc 2 G Sn)) ?_
    generalize V 6 = v0
    refine bN<|nx<|rg<|mv G G<|adI G G (inI (by omega) (by omega)) G<|asg G G<|nl<|dpQ<|mtQ 2 G<|mtQ 2 G ?_
    exact ag ((i + 1, v0, acc ++ [(gdHolder bs s).1], (gdHolder bs s).2) : Nat × Value × List THolder × Rd) ⟨by omega, by simp [hl], gdHolder_pos hs, rdMany_step (by omega) hf he⟩ (by show _ - _ < _ - _; omega) ⟨G, G, G, G, G, trivial⟩ (by simp only [List.set_set]; rfl) (Sc 0 G (Sc 1 G Sn))
  ·
   have q67 := h67
   simp at q67
   have hN : rdMany (gdHolder bs) ((rdCount bs 1024 s0).1 - i) s = ([], s) := by
    by_cases hf : s.fault = 0
    ·
     by_cases hlt : i < (rdCount bs 1024 s0).1
     ·
      exact absurd hf ((stopB_iff s).1 (q67 (by omega)))
     ·
      have e : (rdCount bs 1024 s0).1 - i = 0 := by omega
      rw [e]
      rfl
    ·
     exact rdMany_stop hf _
   rw [hN] at he
   simp only [List.append_nil] at he
   exact ex<|tE<|tE<|bE<|frRQ<|fR0N rv G trivial (by simp only [he, List.set_set, List.cons_append, List.nil_append]) (by simp only [he]; exact (SubD.cons 0 rfl SubD.nil))

theorem listHolder_q (pv bv : Value) (p : Nat) (bs : List UInt8) (b T : Nat) (q : List Value × Rd) (o : Nat) (hp : q.2.pos ≤ bs.length) (hz : q.1[o]? = some (.slice none 0 0)) : Fnc Tryz.prog 302 [pv, .pointer (some ⟨b, o, none⟩), .func (.func 303) #[pv] #[]] [bl b T q.1, rdr p bv q.2] [⟨pv, (⟨⟨p⟩⟩ : Pt Tpen)⟩, ⟨bv, bs⟩] (fun (_ : Value) _ => True) (fun y _ => [bl b T (setL o y (rdLs bs (gdHolder bs)) q).1, rdr p bv (setL o y (rdLs bs (gdHolder bs)) q).2]) (fun y _ => [⟨y, (rdLs bs (gdHolder bs) q.2).1⟩]) :=
 listHolder_p pv bv p bs q.2 b T q.1 o hp hz

theorem account_e (pv bv : Value) (p : Nat) (bs : List UInt8) (s : Rd) (b : Nat) (hp : s.pos ≤ bs.length) : Fnc Tryz.prog 265 [pv, .pointer (some ⟨b, 0, none⟩)] [bl b 70 zv5, rdr p bv s] [⟨pv, (⟨⟨p⟩⟩ : Pt Tpen)⟩, ⟨bv, bs⟩] (fun (_ : Value) _ => True) (fun y _ => [bl b 70 (cAccount (gdAccount bs s).1 y), rdr p bv (gdAccount bs s).2]) (fun y _ => [⟨y, (gdAccount bs s).1.fHolders⟩]) := by
 refine Fnc.proof Tryz.func265 G 53 G G fun X w => sq<|rg<|mv G G<|mv G G<|nc G G<|fa G fld_70_0 G<|bs1 (xs := [.tmp 7]) (us := [.pointer (some ⟨b, 0, none⟩)]) (E := 247) (bytes := 8) (n := 1) G (by exact app_348) G G G G G G fun b8 => frS (ptrs b [0]) ([0].map fun o => [.pointer (some ⟨b, o, none⟩)]) G (fun S w h => ptrs_rd S w _) (Nat.le_of_ble_eq_true G)<|cfP (L0 := [bl b 70 (zv5, s).1, rdr p bv (zv5, s).2]) (Lr := [fz X w]) (text_q pv bv _ p bs b 70 (zv5, s) [0] hp (by intro x hx; simp only [List.mem_cons, List.not_mem_nil, or_false] at hx; rcases hx with rfl <;> rfl) (by decide)) ok_263 G G (Sc 1 G (Sc 2 G (Sc 0 G Sn))) G fun _ _ _ => nl<|nx<|sq ?_
 refine rgV ⟨fun i => ([[], [], [1], [2], [3], [], [5], [6], [7], [], [9], [10], [], [12], [13], [4, 8, 11, 14], [0, 15]] : List (List Nat)).getD i [], fun _ _ => True, fun i => ([fun _ => [], fun _ => [], fun _ => [], fun _ => [], fun _ => [], fun _ => [], fun _ => [], fun _ => [], fun _ => [], fun _ => [], fun _ => [], fun _ => [], fun _ => [], fun _ => [], fun _ => [], fun u => [⟨u, (ptrs b [1, 2, 3, 4])⟩], fun _ => []] : List (Value → List Atom)).getD i (fun _ => []), fun vs => match vs with
   | [] => [bl b 70 (textsP bs [0] (zv5, s)).1, rdr p bv (textsP bs [0] (zv5, s)).2, fz X w]
   | [v0] => [bl b 70 (intsP bs [1, 2, 3, 4] (textsP bs [0] (zv5, s))).1, rdr p bv (intsP bs [1, 2, 3, 4] (textsP bs [0] (zv5, s))).2, fz X w]
   | _ => [], [16]⟩ (fun i => ([some (pv), some (.pointer (some ⟨b, 0, none⟩)), some (.pointer (some ⟨b, 0, none⟩)), some (.pointer (some ⟨b, 1, none⟩)), some (.pointer (some ⟨b, 1, none⟩)), some (.pointer (some ⟨b, 0, none⟩)), some (.pointer (some ⟨b, 0, none⟩)), some (.pointer (some ⟨b, 1, none⟩)), some (.pointer (some ⟨b, 2, none⟩)), some (.pointer (some ⟨b, 0, none⟩)), some (.pointer (some ⟨b, 0, none⟩)), some (.pointer (some ⟨b, 3, none⟩)), some (.pointer (some ⟨b, 0, none⟩)), some (.pointer (some ⟨b, 0, none⟩)), some (.pointer (some ⟨b, 4, none⟩)), none, none] : List (Option Value)).getD i none) mixed rfl rfl ?_ ?_
 ·
  refine ⟨fun V De _=>aP1 (mv G G<|oa G G G G),fun V De _=>aP2 (mv G G<|oa G G G G) (mv G G<|oa G G G G),fun V De _=>aP2 (nc G G<|oa G G G G) (nc G G<|oa G G G G),fun V De _=>aP2 (fa G fld_70_1 G<|oa G G G G) (fa G fld_70_1 G<|oa G G G G),fun V De _=>aP2 (fa G fld_65_0 G<|oa G G G G) (fa G fld_65_0 G<|oa G G G G),fun V De _=>aP2 (mv G G<|oa G G G G) (mv G G<|oa G G G G),fun V De _=>aP2 (nc G G<|oa G G G G) (nc G G<|oa G G G G),fun V De _=>aP2 (fa G fld_70_1 G<|oa G G G G) (fa G fld_70_1 G<|oa G G G G),?_⟩
  refine ⟨fun V De _=>aP2 (fa G fld_65_1 G<|oa G G G G) (fa G fld_65_1 G<|oa G G G G),fun V De _=>aP2 (mv G G<|oa G G G G) (mv G G<|oa G G G G),fun V De _=>aP2 (nc G G<|oa G G G G) (nc G G<|oa G G G G),fun V De _=>aP2 (fa G fld_70_2 G<|oa G G G G) (fa G fld_70_2 G<|oa G G G G),fun V De _=>aP2 (mv G G<|oa G G G G) (mv G G<|oa G G G G),fun V De _=>aP2 (nc G G<|oa G G G G) (nc G G<|oa G G G G),fun V De _=>aP2 (fa G fld_70_3 G<|oa G G G G) (fa G fld_70_3 G<|oa G G G G),fun V De _=>aP1 (bs1 (xs := [.tmp 14, .tmp 18, .tmp 21, .tmp 24]) (us := [.pointer (some ⟨b, 1, none⟩), .pointer (some ⟨b, 2, none⟩), .pointer (some ⟨b, 3, none⟩), .pointer (some ⟨b, 4, none⟩)]) (E := 243) (bytes := 8) (n := 4) G (by exact app_297) G G G G G G fun b25 => frS (ptrs b [1, 2, 3, 4]) ([1, 2, 3, 4].map fun o => [.pointer (some ⟨b, o, none⟩)]) G (fun S w h => ptrs_rd S w _) (Nat.le_of_ble_eq_true G)<|nl (od G G G trivial (Sc 0 G Sn) (SubD.tail Sr))),?_⟩
  exact ⟨fun V De _=>aP1 (cfP (L0 := [bl b 70 (textsP bs [0] (zv5, s)).1, rdr p bv (textsP bs [0] (zv5, s)).2]) (Lr := [fz X w]) (int_q pv bv _ p bs b 70 (textsP bs [0] (zv5, s)) [1, 2, 3, 4] (textsP_pos hp) (by intro x hx; simp only [List.mem_cons, List.not_mem_nil, or_false] at hx; rcases hx with rfl | rfl | rfl | rfl <;> rfl) (by decide)) ok_261 G G (Sc 2 G (Sc 3 G (Sc 0 G Sn))) G fun _ _ _ => nl (od G G G trivial Sn (SubD.tail Sr))),trivial⟩
 ·
  intro V _
  refine wkQ (L := [bl b 70 (intsP bs [1, 2, 3, 4] (textsP bs [0] (zv5, s))).1, rdr p bv (intsP bs [1, 2, 3, 4] (textsP bs [0] (zv5, s))).2, fz X w]) [(0, _), (1, _)] [_, _, _] ⟨G, G, trivial⟩ (Sc 1 G (Sc 2 G (Sc 3 G Sn)))<|nx<|sq<|rg<|mv G G<|mv G G<|nc G G<|fa G fld_70_4 G<|mv G G<|mf1 (ys := [.tmp 31]) (xs := []) G G G<|cfP (L0 := [bl b 70 (intsP bs [1, 2, 3, 4] (textsP bs [0] (zv5, s))).1, rdr p bv (intsP bs [1, 2, 3, 4] (textsP bs [0] (zv5, s))).2]) (Lr := [fz X w]) (listHolder_q pv bv p bs b 70 (intsP bs [1, 2, 3, 4] (textsP bs [0] (zv5, s))) 5 (intsP_pos (textsP_pos hp)) G) ok_302 G G (Sc 1 G (Sc 2 G Sn)) G fun y33 _ _ => nl<|nx ?_
  refine rgV ⟨fun i => ([[], [], [1], [2], [3], [], [5], [6], [7], [], [9], [10], [11], [], [13], [14], [15], [4, 8, 12, 16], [0, 17]] : List (List Nat)).getD i [], fun _ _ => True, fun i => ([fun _ => [], fun _ => [], fun _ => [], fun _ => [], fun _ => [], fun _ => [], fun _ => [], fun _ => [], fun _ => [], fun _ => [], fun _ => [], fun _ => [], fun _ => [], fun _ => [], fun _ => [], fun _ => [], fun _ => [], fun u => [⟨u, (ptrs b [6, 7, 8, 9])⟩], fun _ => []] : List (Value → List Atom)).getD i (fun _ => []), fun vs => match vs with
    | [] => [bl b 70 (setL 5 y33 (rdLs bs (gdHolder bs)) (intsP bs [1, 2, 3, 4] (textsP bs [0] (zv5, s)))).1, rdr p bv (setL 5 y33 (rdLs bs (gdHolder bs)) (intsP bs [1, 2, 3, 4] (textsP bs [0] (zv5, s)))).2, fz X w]
    | [v0] => [bl b 70 (intsP bs [6, 7, 8, 9] (setL 5 y33 (rdLs bs (gdHolder bs)) (intsP bs [1, 2, 3, 4] (textsP bs [0] (zv5, s))))).1, rdr p bv (intsP bs [6, 7, 8, 9] (setL 5 y33 (rdLs bs (gdHolder bs)) (intsP bs [1, 2, 3, 4] (textsP bs [0] (zv5, s))))).2, fz X w]
    | _ => [], [18]⟩ (fun i => ([some (pv), some (.pointer (some ⟨b, 0, none⟩)), some (.pointer (some ⟨b, 0, none⟩)), some (.pointer (some ⟨b, 6, none⟩)), some (.pointer (some ⟨b, 6, none⟩)), some (.pointer (some ⟨b, 0, none⟩)), some (.pointer (some ⟨b, 0, none⟩)), some (.pointer (some ⟨b, 6, none⟩)), some (.pointer (some ⟨b, 7, none⟩)), some (.pointer (some ⟨b, 0, none⟩)), some (.pointer (some ⟨b, 0, none⟩)), some (.pointer (some ⟨b, 6, none⟩)), some (.pointer (some ⟨b, 8, none⟩)), some (.pointer (some ⟨b, 0, none⟩)), some (.pointer (some ⟨b, 0, none⟩)), some (.pointer (some ⟨b, 6, none⟩)), some (.pointer (some ⟨b, 9, none⟩)), none, none] : List (Option Value)).getD i none) mixed rfl rfl ?_ ?_
  ·
   refine ⟨fun V De _=>aP1 (mv G G<|oa G G G G),fun V De _=>aP2 (mv G G<|oa G G G G) (mv G G<|oa G G G G),fun V De _=>aP2 (nc G G<|oa G G G G) (nc G G<|oa G G G G),fun V De _=>aP2 (fa G fld_70_5 G<|oa G G G G) (fa G fld_70_5 G<|oa G G G G),fun V De _=>aP2 (fa G fld_68_0 G<|oa G G G G) (fa G fld_68_0 G<|oa G G G G),fun V De _=>aP2 (mv G G<|oa G G G G) (mv G G<|oa G G G G),fun V De _=>aP2 (nc G G<|oa G G G G) (nc G G<|oa G G G G),fun V De _=>aP2 (fa G fld_70_5 G<|oa G G G G) (fa G fld_70_5 G<|oa G G G G),?_⟩
   refine ⟨fun V De _=>aP2 (fa G fld_68_1 G<|oa G G G G) (fa G fld_68_1 G<|oa G G G G),fun V De _=>aP2 (mv G G<|oa G G G G) (mv G G<|oa G G G G),fun V De _=>aP2 (nc G G<|oa G G G G) (nc G G<|oa G G G G),fun V De _=>aP2 (fa G fld_70_5 G<|oa G G G G) (fa G fld_70_5 G<|oa G G G G),fun V De _=>aP2 (fa G fld_68_2 G<|oa G G G G) (fa G fld_68_2 G<|oa G G G G),fun V De _=>aP2 (mv G G<|oa G G G G) (mv G G<|oa G G G G),fun V De _=>aP2 (nc G G<|oa G G G G) (nc G G<|oa G G G G),fun V De _=>aP2 (fa G fld_70_5 G<|oa G G G G) (fa G fld_70_5 G<|oa G G G G),?_⟩
   exact ⟨fun V De _=>aP2 (fa G fld_68_3 G<|oa G G G G) (fa G fld_68_3 G<|oa G G G G),fun V De _=>aP1 (bs1 (xs := [.tmp 38, .tmp 42, .tmp 46, .tmp 50]) (us := [.pointer (some ⟨b, 6, none⟩), .pointer (some ⟨b, 7, none⟩), .pointer (some ⟨b, 8, none⟩), .pointer (some ⟨b, 9, none⟩)]) (E := 243) (bytes := 8) (n := 4) G (by exact app_297) G G G G G G fun b51 => frS (ptrs b [6, 7, 8, 9]) ([6, 7, 8, 9].map fun o => [.pointer (some ⟨b, o, none⟩)]) G (fun S w h => ptrs_rd S w _) (Nat.le_of_ble_eq_true G)<|nl (od G G G trivial (Sc 0 G Sn) (SubD.tail Sr))),fun V De _=>aP1 (cfP (L0 := [bl b 70 (setL 5 y33 (rdLs bs (gdHolder bs)) (intsP bs [1, 2, 3, 4] (textsP bs [0] (zv5, s)))).1, rdr p bv (setL 5 y33 (rdLs bs (gdHolder bs)) (intsP bs [1, 2, 3, 4] (textsP bs [0] (zv5, s)))).2]) (Lr := [fz X w]) (int_q pv bv _ p bs b 70 (setL 5 y33 (rdLs bs (gdHolder bs)) (intsP bs [1, 2, 3, 4] (textsP bs [0] (zv5, s)))) [6, 7, 8, 9] (setL_pos (rdLs_pos (fun _ hh => gdHolder_pos hh) (intsP_pos (textsP_pos hp)))) (by intro x hx; simp only [List.mem_cons, List.not_mem_nil, or_false] at hx; rcases hx with rfl | rfl | rfl | rfl <;> rfl) (by decide)) ok_261 G G (Sc 3 G (Sc 4 G (Sc 0 G Sn))) G fun _ _ _ => nl (od G G G trivial Sn (SubD.tail Sr))),trivial⟩
  ·
   intro V _
   exact wkQ (L := [bl b 70 (intsP bs [6, 7, 8, 9] (setL 5 y33 (rdLs bs (gdHolder bs)) (intsP bs [1, 2, 3, 4] (textsP bs [0] (zv5, s))))).1, rdr p bv (intsP bs [6, 7, 8, 9] (setL 5 y33 (rdLs bs (gdHolder bs)) (intsP bs [1, 2, 3, 4] (textsP bs [0] (zv5, s))))).2, fz X w]) [] [_, _, _, _] trivial (Sc 1 G (Sc 2 G (Sc 3 G (Sc 4 G Sn))))<|fR0N y33 G trivial (by simp only [gdAccount_eq, List.cons_append, List.nil_append]) (by rw [← gdAccount_l0 bs s y33]; exact (SubD.cons 0 rfl SubD.nil))

theorem listAccount_p (pv bv : Value) (p : Nat) (bs : List UInt8) (s0 : Rd) (b T : Nat) (cells : List Value) (o : Nat) (hp : s0.pos ≤ bs.length) (hz : cells[o]? = some (.slice none 0 0)) : Fnc Tryz.prog 264 [pv, .pointer (some ⟨b, o, none⟩), .func (.func 265) #[pv] #[]] [bl b T cells, rdr p bv s0] [⟨pv, (⟨⟨p⟩⟩ : Pt Tpen)⟩, ⟨bv, bs⟩] (fun (_ : Value) _ => True) (fun y _ => [bl b T (cells.set o y), rdr p bv (rdLs bs (gdAccount bs) s0).2]) (fun y _ => [⟨y, (rdLs bs (gdAccount bs) s0).1⟩]) := by
 refine Fnc.proof Tryz.func264 G 80 G G fun X w => ?_
 obtain ⟨c0, rfl⟩ : ∃ c0 : List Value, cells = c0.set o (.slice none 0 0) := ⟨cells, (set_same hz).symm⟩
 have ho : o < c0.length := by have := lt_of_at hz; rwa [List.length_set] at this
 have hNle := rdCount_le' bs s0
 refine sq<|sq<|rg<|mv G G<|cf1 1 (stopped_c pv bv p s0) ok_295 G G (Sc 0 G Sn) G fun _ v11 h11 => ?_
 have h11 : v11 = .bool (stopB s0) := h11
 subst h11
 refine nl<|nx<|cdB G (fun h11 => ?_) (fun h11 => ?_)
 ·
  have hf := (stopB_iff s0).1 h11
  exact emC (α := TAccount)<|rt<|tR<|fR0 (.slice none 0 0) G trivial (by simp only [rdLs_stop hf, List.set_set, List.cons_append, List.nil_append]; rfl) (by rw [rdLs_stop hf]; exact (SubD.cons 0 rfl SubD.nil))
 ·
  refine sk<|nx<|sq<|sq<|rg<|mv G G<|ncP 0 G G G<|faP (α := Tpen) (β := RawP) 0 (fun x : Tpen => x.fIn) G G fld_314_0 ppen_0 G fun v14 => ldV 0 G G one_311 G fun w15 => ?_
  refine eqP Tryz.underlying311 G G G<|nl<|nx<|cdF G<|sk<|nx<|sq<|rg<|mv G G<|ncP 1 G G G<|faP (α := Tpen) (β := RawP) 1 (fun x : Tpen => x.fIn) G G fld_314_0 ppen_0 G fun v57 => ldV 0 G G one_311 G fun w58 => ?_
  refine cf1 1 (Rdr.count_r p bv bs s0 1024 (inI (by omega) (by omega)) hp) ok_301 G G (Sc 3 G Sn) G fun _ v59 h59 => ?_
  have h59 : v59 = .int .i64 ((rdCount bs 1024 s0).1 : Int) := h59
  subst h59
  refine asg G G<|nl<|nx<|sq<|rg<|asg G G<|nl<|nx<|bk<|rwC TAccount 70<|lpE (σ := Nat × Value × List TAccount × Rd) [(0, _), (1, _), (2, _), (7, _)] _ (fun i C => (8, .int .i64 (i.1 : Int)) :: C) (fun i => [row 70 i.2.1 i.2.2.1, bl b T (c0.set o i.2.1), rdr p bv i.2.2.2, fz X w]) (fun _ Dc => Dc) (fun i => i.1 ≤ (rdCount bs 1024 s0).1 ∧ i.2.2.1.length = i.1 ∧ i.2.2.2.pos ≤ bs.length ∧ rdLs bs (gdAccount bs) s0 = (i.2.2.1 ++ (rdMany (gdAccount bs) ((rdCount bs 1024 s0).1 - i.1) i.2.2.2).1, (rdMany (gdAccount bs) ((rdCount bs 1024 s0).1 - i.1) i.2.2.2).2)) (fun i => (rdCount bs 1024 s0).1 - i.1) (0, .slice none 0 0, [], (rdCount bs 1024 s0).2) ⟨G, G, G, G, trivial⟩ (Sc 2 G (Sc 3 G Sn)) ⟨Nat.zero_le _, G, rdCount_pos hp, G⟩ ⟨G, G, G, G, G, trivial⟩ G (Sc 2 G (Sc 3 G Sn)) ?_
  rintro ⟨i, rv, acc, s⟩ ⟨hi, hl, hs, he⟩
  simp only at hi hl hs he
  refine sq<|sq<|rg<|mv G G<|mv G G<|ltI G G G<|mv G G ?_
  apply jo [(0, _), (1, _), (2, _), (7, _), (8, _)] ⟨rfl, rfl, rfl, rfl, rfl, trivial⟩
  ·
   intro K67
   refine spA (i := 63) G (fun h63 => ?_) (fun h63 => ?_)
   ·
    have p63 := of_decide_eq_true h63
    refine gY G G G<|mv G G<|gY G G G<|cf1 2 (stopped_c pv bv p s) ok_295 G G (Sc 0 G Sn) G fun _ v65 h65 => ?_
    have h65 : v65 = .bool (stopB s) := h65
    subst h65
    exact gY G G G<|nt G G<|pkT G G G<|jA K67 h63 ⟨G, G, G, G, G, trivial⟩ Sr
   ·
    exact gS (g := [_, _, _]) G<|pkF G G G<|jA0 K67 h63 ⟨G, G, G, G, G, trivial⟩ Sr
  refine nl<|nx<|cdB G (fun h67 => ?_) (fun h67 => ?_)
  ·
   have q67 := h67
   simp at q67
   obtain ⟨q1, q2⟩ := q67
   have hf := (stopB_not s).1 q2
   have hl1 : [(gdAccount bs s).1].length = 1 := rfl
   refine sk<|nx<|sq<|bk<|sq<|rg<|al zero_70 G fun b9 => nl<|nx<|sq<|rg<|mv G G<|mtL 3 G<|mtL 1 G ?_
   refine cfPc (L0 := [bl b9 70 zv5, rdr p bv s]) (Lr := [row 70 rv acc, bl b T (c0.set o rv), fz X w]) (account_e pv bv p bs s b9 hs) ok_265 G G G G (Sc 0 G (Sc 1 G Sn)) G fun y9 _ _ => nl<|nx ?_
   refine rgV ⟨fun i => ([[], [], [1], [2], [], [4], [3, 5], [0], [7, 6]] : List (List Nat)).getD i [], fun _ _ => True, fun i => ([fun _ => [], fun _ => [], fun _ => [], fun _ => [], fun _ => [], fun u => [⟨u, [(gdAccount bs s).1]⟩], fun _ => [], fun _ => [], fun _ => []] : List (Value → List Atom)).getD i (fun _ => []), fun vs => match vs with
     | [] => [bl b9 70 (cAccount (gdAccount bs s).1 y9), rdr p bv (gdAccount bs s).2, row 70 rv acc, bl b T (c0.set o rv), fz X w]
     | [v0] => [bl b9 70 (cAccount (gdAccount bs s).1 y9), rdr p bv (gdAccount bs s).2, row 70 v0 (acc ++ [(gdAccount bs s).1]), bl b T (c0.set o rv), fz X w]
     | [v0, v1] => [bl b9 70 (cAccount (gdAccount bs s).1 y9), rdr p bv (gdAccount bs s).2, row 70 v0 (acc ++ [(gdAccount bs s).1]), bl b T ((c0.set o rv).set o v0), fz X w]
     | _ => [], [6, 8]⟩ (fun i => ([some (.pointer (some ⟨b, o, none⟩)), some (.pointer (some ⟨b, o, none⟩)), some (.pointer (some ⟨b, o, none⟩)), some (rv), some (.agg (cAccount ((gdAccount bs s).1) y9).toArray), none, none, some (.pointer (some ⟨b, o, none⟩)), none] : List (Option Value)).getD i none) mixed rfl rfl ?_ ?_
   ·
    refine ⟨fun V De _=>aP2 (mv G G<|oa G G G G) (mv G G<|oa G G G G),fun V De _=>aP2 (mv G G<|oa G G G G) (mv G G<|oa G G G G),fun V De _=>aP2 (nc G G<|oa G G G G) (nc G G<|oa G G G G),fun V De _=>aP1 (ldB 3 G G one_50 (set_at ho) G<|oa G G G G),fun V De _=>aP2 (ldM 0 (cAccount ((gdAccount bs s).1) y9) G G row_70 G G<|oa G G G G) (ldM 0 (cAccount ((gdAccount bs s).1) y9) G G row_70 G G<|oa G G G G),?_⟩
    refine ⟨fun V De _ => (show AllP _ [0] from ⟨?_, trivial⟩), ?_⟩
    ·
     refine bsM G app_50 G G G G fun b77 => ?_
     refine frS1 (α := TAccount) (gdAccount bs s).1 (fun S w h => ⟨y9, G, fun t ht => by
       simp only [List.mem_cons, List.not_mem_nil, or_false] at ht
       subst ht
       exact h _ (List.mem_of_getElem? (i := 0) G), gdAccount_wf bs s⟩) ?_
     exact nl (od G G G trivial (Sc 0 G Sn) (SubD.tail Sr))
    exact ⟨fun V De _=>aP1 (ap 2 0 G G G G app_50 (by omega) (by omega) G fun v78 => nl (od G G G trivial Sn (SubD.tail Sr))),fun V De _=>aP1 (nc G G<|oa G G G G),fun V De _=>aP1 (stR 3 2 G G G G one_50 (by rw [List.length_set]; exact ho)<|nl (od0 G G Sr)),trivial⟩
   ·
    intro V _
    refine wkQ (L := [bl b9 70 (cAccount (gdAccount bs s).1 y9), rdr p bv (gdAccount bs s).2, row 70 (V 6) (acc ++ [(gdAccount bs s).1]), bl b T ((c0.set o rv).set o (V 6)), fz X w]) [(0, _), (1, _), (2, _), (7, _), (8, _)] [_, _, _] ⟨G, G, G, G, G, trivial⟩ (Sc 1 G (Sc 2 G (Sc 3 G Sn))) ?_
    generalize V 6 = v0
    refine bN<|nx<|rg<|mv G G<|adI G G (inI (by omega) (by omega)) G<|asg G G<|nl<|dpQ<|mtQ 2 G<|mtQ 2 G ?_
    exact ag ((i + 1, v0, acc ++ [(gdAccount bs s).1], (gdAccount bs s).2) : Nat × Value × List TAccount × Rd) ⟨by omega, by simp [hl], gdAccount_pos hs, rdMany_step (by omega) hf he⟩ (by show _ - _ < _ - _; omega) ⟨G, G, G, G, G, trivial⟩ (by simp only [List.set_set]; rfl) (Sc 1 G (Sc 2 G Sn))
  ·
   have q67 := h67
   simp at q67
   have hN : rdMany (gdAccount bs) ((rdCount bs 1024 s0).1 - i) s = ([], s) := by
    by_cases hf : s.fault = 0
    ·
     by_cases hlt : i < (rdCount bs 1024 s0).1
     ·
      exact absurd hf ((stopB_iff s).1 (q67 (by omega)))
     ·
      have e : (rdCount bs 1024 s0).1 - i = 0 := by omega
      rw [e]
      rfl
    ·
     exact rdMany_stop hf _
   rw [hN] at he
   simp only [List.append_nil] at he
   exact ex<|tE<|tE<|bE<|frRQ<|fR0N rv G trivial (by simp only [he, List.set_set, List.cons_append, List.nil_append]) (by simp only [he]; exact (SubD.cons 0 rfl SubD.nil))

theorem listAccount_q (pv bv : Value) (p : Nat) (bs : List UInt8) (b T : Nat) (q : List Value × Rd) (o : Nat) (hp : q.2.pos ≤ bs.length) (hz : q.1[o]? = some (.slice none 0 0)) : Fnc Tryz.prog 264 [pv, .pointer (some ⟨b, o, none⟩), .func (.func 265) #[pv] #[]] [bl b T q.1, rdr p bv q.2] [⟨pv, (⟨⟨p⟩⟩ : Pt Tpen)⟩, ⟨bv, bs⟩] (fun (_ : Value) _ => True) (fun y _ => [bl b T (setL o y (rdLs bs (gdAccount bs)) q).1, rdr p bv (setL o y (rdLs bs (gdAccount bs)) q).2]) (fun y _ => [⟨y, (rdLs bs (gdAccount bs) q.2).1⟩]) :=
 listAccount_p pv bv p bs q.2 b T q.1 o hp hz

theorem listMark_p (pv bv : Value) (p : Nat) (bs : List UInt8) (s0 : Rd) (b T : Nat) (cells : List Value) (o : Nat) (hp : s0.pos ≤ bs.length) (hz : cells[o]? = some (.slice none 0 0)) : Fnc Tryz.prog 266 [pv, .pointer (some ⟨b, o, none⟩), .func (.func 267) #[pv] #[]] [bl b T cells, rdr p bv s0] [⟨pv, (⟨⟨p⟩⟩ : Pt Tpen)⟩, ⟨bv, bs⟩] (fun (_ : Value) _ => True) (fun y _ => [bl b T (cells.set o y), rdr p bv (rdLs bs (gdMark bs) s0).2]) (fun y _ => [⟨y, (rdLs bs (gdMark bs) s0).1⟩]) := by
 refine Fnc.proof Tryz.func266 G 80 G G fun X w => ?_
 obtain ⟨c0, rfl⟩ : ∃ c0 : List Value, cells = c0.set o (.slice none 0 0) := ⟨cells, (set_same hz).symm⟩
 have ho : o < c0.length := by have := lt_of_at hz; rwa [List.length_set] at this
 have hNle := rdCount_le' bs s0
 refine sq<|sq<|rg<|mv G G<|cf1 1 (stopped_c pv bv p s0) ok_295 G G (Sc 0 G Sn) G fun _ v11 h11 => ?_
 have h11 : v11 = .bool (stopB s0) := h11
 subst h11
 refine nl<|nx<|cdB G (fun h11 => ?_) (fun h11 => ?_)
 ·
  have hf := (stopB_iff s0).1 h11
  exact emC (α := TMark)<|rt<|tR<|fR0 (.slice none 0 0) G trivial (by simp only [rdLs_stop hf, List.set_set, List.cons_append, List.nil_append]; rfl) (by rw [rdLs_stop hf]; exact (SubD.cons 0 rfl SubD.nil))
 ·
  refine sk<|nx<|sq<|sq<|rg<|mv G G<|ncP 0 G G G<|faP (α := Tpen) (β := RawP) 0 (fun x : Tpen => x.fIn) G G fld_314_0 ppen_0 G fun v14 => ldV 0 G G one_311 G fun w15 => ?_
  refine eqP Tryz.underlying311 G G G<|nl<|nx<|cdF G<|sk<|nx<|sq<|rg<|mv G G<|ncP 1 G G G<|faP (α := Tpen) (β := RawP) 1 (fun x : Tpen => x.fIn) G G fld_314_0 ppen_0 G fun v57 => ldV 0 G G one_311 G fun w58 => ?_
  refine cf1 1 (Rdr.count_r p bv bs s0 1024 (inI (by omega) (by omega)) hp) ok_301 G G (Sc 3 G Sn) G fun _ v59 h59 => ?_
  have h59 : v59 = .int .i64 ((rdCount bs 1024 s0).1 : Int) := h59
  subst h59
  refine asg G G<|nl<|nx<|sq<|rg<|asg G G<|nl<|nx<|bk<|rwC TMark 122<|lpE (σ := Nat × Value × List TMark × Rd) [(0, _), (1, _), (2, _), (7, _)] _ (fun i C => (8, .int .i64 (i.1 : Int)) :: C) (fun i => [row 122 i.2.1 i.2.2.1, bl b T (c0.set o i.2.1), rdr p bv i.2.2.2, fz X w]) (fun _ Dc => Dc) (fun i => i.1 ≤ (rdCount bs 1024 s0).1 ∧ i.2.2.1.length = i.1 ∧ i.2.2.2.pos ≤ bs.length ∧ rdLs bs (gdMark bs) s0 = (i.2.2.1 ++ (rdMany (gdMark bs) ((rdCount bs 1024 s0).1 - i.1) i.2.2.2).1, (rdMany (gdMark bs) ((rdCount bs 1024 s0).1 - i.1) i.2.2.2).2)) (fun i => (rdCount bs 1024 s0).1 - i.1) (0, .slice none 0 0, [], (rdCount bs 1024 s0).2) ⟨G, G, G, G, trivial⟩ (Sc 2 G (Sc 3 G Sn)) ⟨Nat.zero_le _, G, rdCount_pos hp, G⟩ ⟨G, G, G, G, G, trivial⟩ G (Sc 2 G (Sc 3 G Sn)) ?_
  rintro ⟨i, rv, acc, s⟩ ⟨hi, hl, hs, he⟩
  simp only at hi hl hs he
  refine sq<|sq<|rg<|mv G G<|mv G G<|ltI G G G<|mv G G ?_
  apply jo [(0, _), (1, _), (2, _), (7, _), (8, _)] ⟨rfl, rfl, rfl, rfl, rfl, trivial⟩
  ·
   intro K67
   refine spA (i := 63) G (fun h63 => ?_) (fun h63 => ?_)
   ·
    have p63 := of_decide_eq_true h63
    refine gY G G G<|mv G G<|gY G G G<|cf1 2 (stopped_c pv bv p s) ok_295 G G (Sc 0 G Sn) G fun _ v65 h65 => ?_
    have h65 : v65 = .bool (stopB s) := h65
    subst h65
    exact gY G G G<|nt G G<|pkT G G G<|jA K67 h63 ⟨G, G, G, G, G, trivial⟩ Sr
   ·
    exact gS (g := [_, _, _]) G<|pkF G G G<|jA0 K67 h63 ⟨G, G, G, G, G, trivial⟩ Sr
  refine nl<|nx<|cdB G (fun h67 => ?_) (fun h67 => ?_)
  ·
   have q67 := h67
   simp at q67
   obtain ⟨q1, q2⟩ := q67
   have hf := (stopB_not s).1 q2
   have hl1 : [(gdMark bs s).1].length = 1 := rfl
   refine sk<|nx<|sq<|bk<|sq<|rg<|al zero_122 G fun b9 => nl<|nx<|sq<|rg<|mv G G<|mtL 3 G<|mtL 1 G ?_
   refine cfPc (L0 := [bl b9 122 zv3, rdr p bv s]) (Lr := [row 122 rv acc, bl b T (c0.set o rv), fz X w]) (mark_e pv bv p bs s b9 hs) ok_267 G G G G (Sc 0 G (Sc 1 G Sn)) G fun _ _ _ => nl<|nx ?_
   refine rgV ⟨fun i => ([[], [], [1], [2], [], [4], [3, 5], [0], [7, 6]] : List (List Nat)).getD i [], fun _ _ => True, fun i => ([fun _ => [], fun _ => [], fun _ => [], fun _ => [], fun _ => [], fun u => [⟨u, [(gdMark bs s).1]⟩], fun _ => [], fun _ => [], fun _ => []] : List (Value → List Atom)).getD i (fun _ => []), fun vs => match vs with
     | [] => [bl b9 122 (cMark (gdMark bs s).1), rdr p bv (gdMark bs s).2, row 122 rv acc, bl b T (c0.set o rv), fz X w]
     | [v0] => [bl b9 122 (cMark (gdMark bs s).1), rdr p bv (gdMark bs s).2, row 122 v0 (acc ++ [(gdMark bs s).1]), bl b T (c0.set o rv), fz X w]
     | [v0, v1] => [bl b9 122 (cMark (gdMark bs s).1), rdr p bv (gdMark bs s).2, row 122 v0 (acc ++ [(gdMark bs s).1]), bl b T ((c0.set o rv).set o v0), fz X w]
     | _ => [], [6, 8]⟩ (fun i => ([some (.pointer (some ⟨b, o, none⟩)), some (.pointer (some ⟨b, o, none⟩)), some (.pointer (some ⟨b, o, none⟩)), some (rv), some (.agg (cMark ((gdMark bs s).1)).toArray), none, none, some (.pointer (some ⟨b, o, none⟩)), none] : List (Option Value)).getD i none) mixed rfl rfl ?_ ?_
   ·
    refine ⟨fun V De _=>aP2 (mv G G<|oa G G G G) (mv G G<|oa G G G G),fun V De _=>aP2 (mv G G<|oa G G G G) (mv G G<|oa G G G G),fun V De _=>aP2 (nc G G<|oa G G G G) (nc G G<|oa G G G G),fun V De _=>aP1 (ldB 3 G G one_25 (set_at ho) G<|oa G G G G),fun V De _=>aP2 (ldM 0 (cMark ((gdMark bs s).1)) G G row_122 G G<|oa G G G G) (ldM 0 (cMark ((gdMark bs s).1)) G G row_122 G G<|oa G G G G),fun V De _=>aP1 (bsM G app_25 G G G G fun b77 => frS1 (α := TMark) (gdMark bs s).1 (fun S w h => ⟨(), G, by simp, gdMark_wf bs s⟩)<|nl (od G G G trivial (Sc 0 G Sn) (SubD.tail Sr))),fun V De _=>aP1 (ap 2 0 G G G G app_25 (by omega) (by omega) G fun v78 => nl (od G G G trivial Sn (SubD.tail Sr))),fun V De _=>aP1 (nc G G<|oa G G G G),?_⟩
    exact ⟨fun V De _=>aP1 (stR 3 2 G G G G one_25 (by rw [List.length_set]; exact ho)<|nl (od0 G G Sr)),trivial⟩
   ·
    intro V _
    refine wkQ (L := [bl b9 122 (cMark (gdMark bs s).1), rdr p bv (gdMark bs s).2, row 122 (V 6) (acc ++ [(gdMark bs s).1]), bl b T ((c0.set o rv).set o (V 6)), fz X w]) [(0, _), (1, _), (2, _), (7, _), (8, _)] [_, _] ⟨G, G, G, G, G, trivial⟩ (Sc 1 G (Sc 2 G Sn)) ?_
    generalize V 6 = v0
    refine bN<|nx<|rg<|mv G G<|adI G G (inI (by omega) (by omega)) G<|asg G G<|nl<|dpQ<|mtQ 2 G<|mtQ 2 G ?_
    exact ag ((i + 1, v0, acc ++ [(gdMark bs s).1], (gdMark bs s).2) : Nat × Value × List TMark × Rd) ⟨by omega, by simp [hl], gdMark_pos hs, rdMany_step (by omega) hf he⟩ (by show _ - _ < _ - _; omega) ⟨G, G, G, G, G, trivial⟩ (by simp only [List.set_set]; rfl) (Sc 0 G (Sc 1 G Sn))
  ·
   have q67 := h67
   simp at q67
   have hN : rdMany (gdMark bs) ((rdCount bs 1024 s0).1 - i) s = ([], s) := by
    by_cases hf : s.fault = 0
    ·
     by_cases hlt : i < (rdCount bs 1024 s0).1
     ·
      exact absurd hf ((stopB_iff s).1 (q67 (by omega)))
     ·
      have e : (rdCount bs 1024 s0).1 - i = 0 := by omega
      rw [e]
      rfl
    ·
     exact rdMany_stop hf _
   rw [hN] at he
   simp only [List.append_nil] at he
   exact ex<|tE<|tE<|bE<|frRQ<|fR0N rv G trivial (by simp only [he, List.set_set, List.cons_append, List.nil_append]) (by simp only [he]; exact (SubD.cons 0 rfl SubD.nil))

theorem listMark_q (pv bv : Value) (p : Nat) (bs : List UInt8) (b T : Nat) (q : List Value × Rd) (o : Nat) (hp : q.2.pos ≤ bs.length) (hz : q.1[o]? = some (.slice none 0 0)) : Fnc Tryz.prog 266 [pv, .pointer (some ⟨b, o, none⟩), .func (.func 267) #[pv] #[]] [bl b T q.1, rdr p bv q.2] [⟨pv, (⟨⟨p⟩⟩ : Pt Tpen)⟩, ⟨bv, bs⟩] (fun (_ : Value) _ => True) (fun y _ => [bl b T (setL o y (rdLs bs (gdMark bs)) q).1, rdr p bv (setL o y (rdLs bs (gdMark bs)) q).2]) (fun y _ => [⟨y, (rdLs bs (gdMark bs) q.2).1⟩]) :=
 listMark_p pv bv p bs q.2 b T q.1 o hp hz

theorem listWait_p (pv bv : Value) (p : Nat) (bs : List UInt8) (s0 : Rd) (b T : Nat) (cells : List Value) (o : Nat) (hp : s0.pos ≤ bs.length) (hz : cells[o]? = some (.slice none 0 0)) : Fnc Tryz.prog 268 [pv, .pointer (some ⟨b, o, none⟩), .func (.func 269) #[pv] #[]] [bl b T cells, rdr p bv s0] [⟨pv, (⟨⟨p⟩⟩ : Pt Tpen)⟩, ⟨bv, bs⟩] (fun (_ : Value) _ => True) (fun y _ => [bl b T (cells.set o y), rdr p bv (rdLs bs (gdWait bs) s0).2]) (fun y _ => [⟨y, (rdLs bs (gdWait bs) s0).1⟩]) := by
 refine Fnc.proof Tryz.func268 G 80 G G fun X w => ?_
 obtain ⟨c0, rfl⟩ : ∃ c0 : List Value, cells = c0.set o (.slice none 0 0) := ⟨cells, (set_same hz).symm⟩
 have ho : o < c0.length := by have := lt_of_at hz; rwa [List.length_set] at this
 have hNle := rdCount_le' bs s0
 refine sq<|sq<|rg<|mv G G<|cf1 1 (stopped_c pv bv p s0) ok_295 G G (Sc 0 G Sn) G fun _ v11 h11 => ?_
 have h11 : v11 = .bool (stopB s0) := h11
 subst h11
 refine nl<|nx<|cdB G (fun h11 => ?_) (fun h11 => ?_)
 ·
  have hf := (stopB_iff s0).1 h11
  exact emC (α := TWait)<|rt<|tR<|fR0 (.slice none 0 0) G trivial (by simp only [rdLs_stop hf, List.set_set, List.cons_append, List.nil_append]; rfl) (by rw [rdLs_stop hf]; exact (SubD.cons 0 rfl SubD.nil))
 ·
  refine sk<|nx<|sq<|sq<|rg<|mv G G<|ncP 0 G G G<|faP (α := Tpen) (β := RawP) 0 (fun x : Tpen => x.fIn) G G fld_314_0 ppen_0 G fun v14 => ldV 0 G G one_311 G fun w15 => ?_
  refine eqP Tryz.underlying311 G G G<|nl<|nx<|cdF G<|sk<|nx<|sq<|rg<|mv G G<|ncP 1 G G G<|faP (α := Tpen) (β := RawP) 1 (fun x : Tpen => x.fIn) G G fld_314_0 ppen_0 G fun v57 => ldV 0 G G one_311 G fun w58 => ?_
  refine cf1 1 (Rdr.count_r p bv bs s0 1024 (inI (by omega) (by omega)) hp) ok_301 G G (Sc 3 G Sn) G fun _ v59 h59 => ?_
  have h59 : v59 = .int .i64 ((rdCount bs 1024 s0).1 : Int) := h59
  subst h59
  refine asg G G<|nl<|nx<|sq<|rg<|asg G G<|nl<|nx<|bk<|rwC TWait 108<|lpE (σ := Nat × Value × List TWait × Rd) [(0, _), (1, _), (2, _), (7, _)] _ (fun i C => (8, .int .i64 (i.1 : Int)) :: C) (fun i => [row 108 i.2.1 i.2.2.1, bl b T (c0.set o i.2.1), rdr p bv i.2.2.2, fz X w]) (fun _ Dc => Dc) (fun i => i.1 ≤ (rdCount bs 1024 s0).1 ∧ i.2.2.1.length = i.1 ∧ i.2.2.2.pos ≤ bs.length ∧ rdLs bs (gdWait bs) s0 = (i.2.2.1 ++ (rdMany (gdWait bs) ((rdCount bs 1024 s0).1 - i.1) i.2.2.2).1, (rdMany (gdWait bs) ((rdCount bs 1024 s0).1 - i.1) i.2.2.2).2)) (fun i => (rdCount bs 1024 s0).1 - i.1) (0, .slice none 0 0, [], (rdCount bs 1024 s0).2) ⟨G, G, G, G, trivial⟩ (Sc 2 G (Sc 3 G Sn)) ⟨Nat.zero_le _, G, rdCount_pos hp, G⟩ ⟨G, G, G, G, G, trivial⟩ G (Sc 2 G (Sc 3 G Sn)) ?_
  rintro ⟨i, rv, acc, s⟩ ⟨hi, hl, hs, he⟩
  simp only at hi hl hs he
  refine sq<|sq<|rg<|mv G G<|mv G G<|ltI G G G<|mv G G ?_
  apply jo [(0, _), (1, _), (2, _), (7, _), (8, _)] ⟨rfl, rfl, rfl, rfl, rfl, trivial⟩
  ·
   intro K67
   refine spA (i := 63) G (fun h63 => ?_) (fun h63 => ?_)
   ·
    have p63 := of_decide_eq_true h63
    refine gY G G G<|mv G G<|gY G G G<|cf1 2 (stopped_c pv bv p s) ok_295 G G (Sc 0 G Sn) G fun _ v65 h65 => ?_
    have h65 : v65 = .bool (stopB s) := h65
    subst h65
    exact gY G G G<|nt G G<|pkT G G G<|jA K67 h63 ⟨G, G, G, G, G, trivial⟩ Sr
   ·
    exact gS (g := [_, _, _]) G<|pkF G G G<|jA0 K67 h63 ⟨G, G, G, G, G, trivial⟩ Sr
  refine nl<|nx<|cdB G (fun h67 => ?_) (fun h67 => ?_)
  ·
   have q67 := h67
   simp at q67
   obtain ⟨q1, q2⟩ := q67
   have hf := (stopB_not s).1 q2
   have hl1 : [(gdWait bs s).1].length = 1 := rfl
   refine sk<|nx<|sq<|bk<|sq<|rg<|al zero_108 G fun b9 => nl<|nx<|sq<|rg<|mv G G<|mtL 3 G<|mtL 1 G ?_
   refine cfPc (L0 := [bl b9 108 zv4, rdr p bv s]) (Lr := [row 108 rv acc, bl b T (c0.set o rv), fz X w]) (wait_e pv bv p bs s b9 hs) ok_269 G G G G (Sc 0 G (Sc 1 G Sn)) G fun _ _ _ => nl<|nx ?_
   refine rgV ⟨fun i => ([[], [], [1], [2], [], [4], [3, 5], [0], [7, 6]] : List (List Nat)).getD i [], fun _ _ => True, fun i => ([fun _ => [], fun _ => [], fun _ => [], fun _ => [], fun _ => [], fun u => [⟨u, [(gdWait bs s).1]⟩], fun _ => [], fun _ => [], fun _ => []] : List (Value → List Atom)).getD i (fun _ => []), fun vs => match vs with
     | [] => [bl b9 108 (cWait (gdWait bs s).1), rdr p bv (gdWait bs s).2, row 108 rv acc, bl b T (c0.set o rv), fz X w]
     | [v0] => [bl b9 108 (cWait (gdWait bs s).1), rdr p bv (gdWait bs s).2, row 108 v0 (acc ++ [(gdWait bs s).1]), bl b T (c0.set o rv), fz X w]
     | [v0, v1] => [bl b9 108 (cWait (gdWait bs s).1), rdr p bv (gdWait bs s).2, row 108 v0 (acc ++ [(gdWait bs s).1]), bl b T ((c0.set o rv).set o v0), fz X w]
     | _ => [], [6, 8]⟩ (fun i => ([some (.pointer (some ⟨b, o, none⟩)), some (.pointer (some ⟨b, o, none⟩)), some (.pointer (some ⟨b, o, none⟩)), some (rv), some (.agg (cWait ((gdWait bs s).1)).toArray), none, none, some (.pointer (some ⟨b, o, none⟩)), none] : List (Option Value)).getD i none) mixed rfl rfl ?_ ?_
   ·
    refine ⟨fun V De _=>aP2 (mv G G<|oa G G G G) (mv G G<|oa G G G G),fun V De _=>aP2 (mv G G<|oa G G G G) (mv G G<|oa G G G G),fun V De _=>aP2 (nc G G<|oa G G G G) (nc G G<|oa G G G G),fun V De _=>aP1 (ldB 3 G G one_51 (set_at ho) G<|oa G G G G),fun V De _=>aP2 (ldM 0 (cWait ((gdWait bs s).1)) G G row_108 G G<|oa G G G G) (ldM 0 (cWait ((gdWait bs s).1)) G G row_108 G G<|oa G G G G),fun V De _=>aP1 (bsM G app_51 G G G G fun b77 => frS1 (α := TWait) (gdWait bs s).1 (fun S w h => ⟨(), G, by simp, gdWait_wf bs s⟩)<|nl (od G G G trivial (Sc 0 G Sn) (SubD.tail Sr))),fun V De _=>aP1 (ap 2 0 G G G G app_51 (by omega) (by omega) G fun v78 => nl (od G G G trivial Sn (SubD.tail Sr))),fun V De _=>aP1 (nc G G<|oa G G G G),?_⟩
    exact ⟨fun V De _=>aP1 (stR 3 2 G G G G one_51 (by rw [List.length_set]; exact ho)<|nl (od0 G G Sr)),trivial⟩
   ·
    intro V _
    refine wkQ (L := [bl b9 108 (cWait (gdWait bs s).1), rdr p bv (gdWait bs s).2, row 108 (V 6) (acc ++ [(gdWait bs s).1]), bl b T ((c0.set o rv).set o (V 6)), fz X w]) [(0, _), (1, _), (2, _), (7, _), (8, _)] [_, _] ⟨G, G, G, G, G, trivial⟩ (Sc 1 G (Sc 2 G Sn)) ?_
    generalize V 6 = v0
    refine bN<|nx<|rg<|mv G G<|adI G G (inI (by omega) (by omega)) G<|asg G G<|nl<|dpQ<|mtQ 2 G<|mtQ 2 G ?_
    exact ag ((i + 1, v0, acc ++ [(gdWait bs s).1], (gdWait bs s).2) : Nat × Value × List TWait × Rd) ⟨by omega, by simp [hl], gdWait_pos hs, rdMany_step (by omega) hf he⟩ (by show _ - _ < _ - _; omega) ⟨G, G, G, G, G, trivial⟩ (by simp only [List.set_set]; rfl) (Sc 0 G (Sc 1 G Sn))
  ·
   have q67 := h67
   simp at q67
   have hN : rdMany (gdWait bs) ((rdCount bs 1024 s0).1 - i) s = ([], s) := by
    by_cases hf : s.fault = 0
    ·
     by_cases hlt : i < (rdCount bs 1024 s0).1
     ·
      exact absurd hf ((stopB_iff s).1 (q67 (by omega)))
     ·
      have e : (rdCount bs 1024 s0).1 - i = 0 := by omega
      rw [e]
      rfl
    ·
     exact rdMany_stop hf _
   rw [hN] at he
   simp only [List.append_nil] at he
   exact ex<|tE<|tE<|bE<|frRQ<|fR0N rv G trivial (by simp only [he, List.set_set, List.cons_append, List.nil_append]) (by simp only [he]; exact (SubD.cons 0 rfl SubD.nil))

theorem listWait_q (pv bv : Value) (p : Nat) (bs : List UInt8) (b T : Nat) (q : List Value × Rd) (o : Nat) (hp : q.2.pos ≤ bs.length) (hz : q.1[o]? = some (.slice none 0 0)) : Fnc Tryz.prog 268 [pv, .pointer (some ⟨b, o, none⟩), .func (.func 269) #[pv] #[]] [bl b T q.1, rdr p bv q.2] [⟨pv, (⟨⟨p⟩⟩ : Pt Tpen)⟩, ⟨bv, bs⟩] (fun (_ : Value) _ => True) (fun y _ => [bl b T (setL o y (rdLs bs (gdWait bs)) q).1, rdr p bv (setL o y (rdLs bs (gdWait bs)) q).2]) (fun y _ => [⟨y, (rdLs bs (gdWait bs) q.2).1⟩]) :=
 listWait_p pv bv p bs q.2 b T q.1 o hp hz

theorem listDeal_p (pv bv : Value) (p : Nat) (bs : List UInt8) (s0 : Rd) (b T : Nat) (cells : List Value) (o : Nat) (hp : s0.pos ≤ bs.length) (hz : cells[o]? = some (.slice none 0 0)) : Fnc Tryz.prog 270 [pv, .pointer (some ⟨b, o, none⟩), .func (.func 271) #[pv] #[]] [bl b T cells, rdr p bv s0] [⟨pv, (⟨⟨p⟩⟩ : Pt Tpen)⟩, ⟨bv, bs⟩] (fun (_ : Value) _ => True) (fun y _ => [bl b T (cells.set o y), rdr p bv (rdLs bs (gdDeal bs) s0).2]) (fun y _ => [⟨y, (rdLs bs (gdDeal bs) s0).1⟩]) := by
 refine Fnc.proof Tryz.func270 G 80 G G fun X w => ?_
 obtain ⟨c0, rfl⟩ : ∃ c0 : List Value, cells = c0.set o (.slice none 0 0) := ⟨cells, (set_same hz).symm⟩
 have ho : o < c0.length := by have := lt_of_at hz; rwa [List.length_set] at this
 have hNle := rdCount_le' bs s0
 refine sq<|sq<|rg<|mv G G<|cf1 1 (stopped_c pv bv p s0) ok_295 G G (Sc 0 G Sn) G fun _ v11 h11 => ?_
 have h11 : v11 = .bool (stopB s0) := h11
 subst h11
 refine nl<|nx<|cdB G (fun h11 => ?_) (fun h11 => ?_)
 ·
  have hf := (stopB_iff s0).1 h11
  exact emC (α := TDeal)<|rt<|tR<|fR0 (.slice none 0 0) G trivial (by simp only [rdLs_stop hf, List.set_set, List.cons_append, List.nil_append]; rfl) (by rw [rdLs_stop hf]; exact (SubD.cons 0 rfl SubD.nil))
 ·
  refine sk<|nx<|sq<|sq<|rg<|mv G G<|ncP 0 G G G<|faP (α := Tpen) (β := RawP) 0 (fun x : Tpen => x.fIn) G G fld_314_0 ppen_0 G fun v14 => ldV 0 G G one_311 G fun w15 => ?_
  refine eqP Tryz.underlying311 G G G<|nl<|nx<|cdF G<|sk<|nx<|sq<|rg<|mv G G<|ncP 1 G G G<|faP (α := Tpen) (β := RawP) 1 (fun x : Tpen => x.fIn) G G fld_314_0 ppen_0 G fun v57 => ldV 0 G G one_311 G fun w58 => ?_
  refine cf1 1 (Rdr.count_r p bv bs s0 1024 (inI (by omega) (by omega)) hp) ok_301 G G (Sc 3 G Sn) G fun _ v59 h59 => ?_
  have h59 : v59 = .int .i64 ((rdCount bs 1024 s0).1 : Int) := h59
  subst h59
  refine asg G G<|nl<|nx<|sq<|rg<|asg G G<|nl<|nx<|bk<|rwC TDeal 126<|lpE (σ := Nat × Value × List TDeal × Rd) [(0, _), (1, _), (2, _), (7, _)] _ (fun i C => (8, .int .i64 (i.1 : Int)) :: C) (fun i => [row 126 i.2.1 i.2.2.1, bl b T (c0.set o i.2.1), rdr p bv i.2.2.2, fz X w]) (fun _ Dc => Dc) (fun i => i.1 ≤ (rdCount bs 1024 s0).1 ∧ i.2.2.1.length = i.1 ∧ i.2.2.2.pos ≤ bs.length ∧ rdLs bs (gdDeal bs) s0 = (i.2.2.1 ++ (rdMany (gdDeal bs) ((rdCount bs 1024 s0).1 - i.1) i.2.2.2).1, (rdMany (gdDeal bs) ((rdCount bs 1024 s0).1 - i.1) i.2.2.2).2)) (fun i => (rdCount bs 1024 s0).1 - i.1) (0, .slice none 0 0, [], (rdCount bs 1024 s0).2) ⟨G, G, G, G, trivial⟩ (Sc 2 G (Sc 3 G Sn)) ⟨Nat.zero_le _, G, rdCount_pos hp, G⟩ ⟨G, G, G, G, G, trivial⟩ G (Sc 2 G (Sc 3 G Sn)) ?_
  rintro ⟨i, rv, acc, s⟩ ⟨hi, hl, hs, he⟩
  simp only at hi hl hs he
  refine sq<|sq<|rg<|mv G G<|mv G G<|ltI G G G<|mv G G ?_
  apply jo [(0, _), (1, _), (2, _), (7, _), (8, _)] ⟨rfl, rfl, rfl, rfl, rfl, trivial⟩
  ·
   intro K67
   refine spA (i := 63) G (fun h63 => ?_) (fun h63 => ?_)
   ·
    have p63 := of_decide_eq_true h63
    refine gY G G G<|mv G G<|gY G G G<|cf1 2 (stopped_c pv bv p s) ok_295 G G (Sc 0 G Sn) G fun _ v65 h65 => ?_
    have h65 : v65 = .bool (stopB s) := h65
    subst h65
    exact gY G G G<|nt G G<|pkT G G G<|jA K67 h63 ⟨G, G, G, G, G, trivial⟩ Sr
   ·
    exact gS (g := [_, _, _]) G<|pkF G G G<|jA0 K67 h63 ⟨G, G, G, G, G, trivial⟩ Sr
  refine nl<|nx<|cdB G (fun h67 => ?_) (fun h67 => ?_)
  ·
   have q67 := h67
   simp at q67
   obtain ⟨q1, q2⟩ := q67
   have hf := (stopB_not s).1 q2
   have hl1 : [(gdDeal bs s).1].length = 1 := rfl
   refine sk<|nx<|sq<|bk<|sq<|rg<|al zero_126 G fun b9 => nl<|nx<|sq<|rg<|mv G G<|mtL 3 G<|mtL 1 G ?_
   refine cfPc (L0 := [bl b9 126 zv2, rdr p bv s]) (Lr := [row 126 rv acc, bl b T (c0.set o rv), fz X w]) (deal_e pv bv p bs s b9 hs) ok_271 G G G G (Sc 0 G (Sc 1 G Sn)) G fun _ _ _ => nl<|nx ?_
   refine rgV ⟨fun i => ([[], [], [1], [2], [], [4], [3, 5], [0], [7, 6]] : List (List Nat)).getD i [], fun _ _ => True, fun i => ([fun _ => [], fun _ => [], fun _ => [], fun _ => [], fun _ => [], fun u => [⟨u, [(gdDeal bs s).1]⟩], fun _ => [], fun _ => [], fun _ => []] : List (Value → List Atom)).getD i (fun _ => []), fun vs => match vs with
     | [] => [bl b9 126 (cDeal (gdDeal bs s).1), rdr p bv (gdDeal bs s).2, row 126 rv acc, bl b T (c0.set o rv), fz X w]
     | [v0] => [bl b9 126 (cDeal (gdDeal bs s).1), rdr p bv (gdDeal bs s).2, row 126 v0 (acc ++ [(gdDeal bs s).1]), bl b T (c0.set o rv), fz X w]
     | [v0, v1] => [bl b9 126 (cDeal (gdDeal bs s).1), rdr p bv (gdDeal bs s).2, row 126 v0 (acc ++ [(gdDeal bs s).1]), bl b T ((c0.set o rv).set o v0), fz X w]
     | _ => [], [6, 8]⟩ (fun i => ([some (.pointer (some ⟨b, o, none⟩)), some (.pointer (some ⟨b, o, none⟩)), some (.pointer (some ⟨b, o, none⟩)), some (rv), some (.agg (cDeal ((gdDeal bs s).1)).toArray), none, none, some (.pointer (some ⟨b, o, none⟩)), none] : List (Option Value)).getD i none) mixed rfl rfl ?_ ?_
   ·
    refine ⟨fun V De _=>aP2 (mv G G<|oa G G G G) (mv G G<|oa G G G G),fun V De _=>aP2 (mv G G<|oa G G G G) (mv G G<|oa G G G G),fun V De _=>aP2 (nc G G<|oa G G G G) (nc G G<|oa G G G G),fun V De _=>aP1 (ldB 3 G G one_52 (set_at ho) G<|oa G G G G),fun V De _=>aP2 (ldM 0 (cDeal ((gdDeal bs s).1)) G G row_126 G G<|oa G G G G) (ldM 0 (cDeal ((gdDeal bs s).1)) G G row_126 G G<|oa G G G G),fun V De _=>aP1 (bsM G app_52 G G G G fun b77 => frS1 (α := TDeal) (gdDeal bs s).1 (fun S w h => ⟨(), G, by simp, gdDeal_wf bs s⟩)<|nl (od G G G trivial (Sc 0 G Sn) (SubD.tail Sr))),fun V De _=>aP1 (ap 2 0 G G G G app_52 (by omega) (by omega) G fun v78 => nl (od G G G trivial Sn (SubD.tail Sr))),fun V De _=>aP1 (nc G G<|oa G G G G),?_⟩
    exact ⟨fun V De _=>aP1 (stR 3 2 G G G G one_52 (by rw [List.length_set]; exact ho)<|nl (od0 G G Sr)),trivial⟩
   ·
    intro V _
    refine wkQ (L := [bl b9 126 (cDeal (gdDeal bs s).1), rdr p bv (gdDeal bs s).2, row 126 (V 6) (acc ++ [(gdDeal bs s).1]), bl b T ((c0.set o rv).set o (V 6)), fz X w]) [(0, _), (1, _), (2, _), (7, _), (8, _)] [_, _] ⟨G, G, G, G, G, trivial⟩ (Sc 1 G (Sc 2 G Sn)) ?_
    generalize V 6 = v0
    refine bN<|nx<|rg<|mv G G<|adI G G (inI (by omega) (by omega)) G<|asg G G<|nl<|dpQ<|mtQ 2 G<|mtQ 2 G ?_
    exact ag ((i + 1, v0, acc ++ [(gdDeal bs s).1], (gdDeal bs s).2) : Nat × Value × List TDeal × Rd) ⟨by omega, by simp [hl], gdDeal_pos hs, rdMany_step (by omega) hf he⟩ (by show _ - _ < _ - _; omega) ⟨G, G, G, G, G, trivial⟩ (by simp only [List.set_set]; rfl) (Sc 0 G (Sc 1 G Sn))
  ·
   have q67 := h67
   simp at q67
   have hN : rdMany (gdDeal bs) ((rdCount bs 1024 s0).1 - i) s = ([], s) := by
    by_cases hf : s.fault = 0
    ·
     by_cases hlt : i < (rdCount bs 1024 s0).1
     ·
      exact absurd hf ((stopB_iff s).1 (q67 (by omega)))
     ·
      have e : (rdCount bs 1024 s0).1 - i = 0 := by omega
      rw [e]
      rfl
    ·
     exact rdMany_stop hf _
   rw [hN] at he
   simp only [List.append_nil] at he
   exact ex<|tE<|tE<|bE<|frRQ<|fR0N rv G trivial (by simp only [he, List.set_set, List.cons_append, List.nil_append]) (by simp only [he]; exact (SubD.cons 0 rfl SubD.nil))

theorem listDeal_q (pv bv : Value) (p : Nat) (bs : List UInt8) (b T : Nat) (q : List Value × Rd) (o : Nat) (hp : q.2.pos ≤ bs.length) (hz : q.1[o]? = some (.slice none 0 0)) : Fnc Tryz.prog 270 [pv, .pointer (some ⟨b, o, none⟩), .func (.func 271) #[pv] #[]] [bl b T q.1, rdr p bv q.2] [⟨pv, (⟨⟨p⟩⟩ : Pt Tpen)⟩, ⟨bv, bs⟩] (fun (_ : Value) _ => True) (fun y _ => [bl b T (setL o y (rdLs bs (gdDeal bs)) q).1, rdr p bv (setL o y (rdLs bs (gdDeal bs)) q).2]) (fun y _ => [⟨y, (rdLs bs (gdDeal bs) q.2).1⟩]) :=
 listDeal_p pv bv p bs q.2 b T q.1 o hp hz

theorem listEnd_p (pv bv : Value) (p : Nat) (bs : List UInt8) (s0 : Rd) (b T : Nat) (cells : List Value) (o : Nat) (hp : s0.pos ≤ bs.length) (hz : cells[o]? = some (.slice none 0 0)) : Fnc Tryz.prog 272 [pv, .pointer (some ⟨b, o, none⟩), .func (.func 273) #[pv] #[]] [bl b T cells, rdr p bv s0] [⟨pv, (⟨⟨p⟩⟩ : Pt Tpen)⟩, ⟨bv, bs⟩] (fun (_ : Value) _ => True) (fun y _ => [bl b T (cells.set o y), rdr p bv (rdLs bs (gdEnd bs) s0).2]) (fun y _ => [⟨y, (rdLs bs (gdEnd bs) s0).1⟩]) := by
 refine Fnc.proof Tryz.func272 G 80 G G fun X w => ?_
 obtain ⟨c0, rfl⟩ : ∃ c0 : List Value, cells = c0.set o (.slice none 0 0) := ⟨cells, (set_same hz).symm⟩
 have ho : o < c0.length := by have := lt_of_at hz; rwa [List.length_set] at this
 have hNle := rdCount_le' bs s0
 refine sq<|sq<|rg<|mv G G<|cf1 1 (stopped_c pv bv p s0) ok_295 G G (Sc 0 G Sn) G fun _ v11 h11 => ?_
 have h11 : v11 = .bool (stopB s0) := h11
 subst h11
 refine nl<|nx<|cdB G (fun h11 => ?_) (fun h11 => ?_)
 ·
  have hf := (stopB_iff s0).1 h11
  exact emC (α := TEnd)<|rt<|tR<|fR0 (.slice none 0 0) G trivial (by simp only [rdLs_stop hf, List.set_set, List.cons_append, List.nil_append]; rfl) (by rw [rdLs_stop hf]; exact (SubD.cons 0 rfl SubD.nil))
 ·
  refine sk<|nx<|sq<|sq<|rg<|mv G G<|ncP 0 G G G<|faP (α := Tpen) (β := RawP) 0 (fun x : Tpen => x.fIn) G G fld_314_0 ppen_0 G fun v14 => ldV 0 G G one_311 G fun w15 => ?_
  refine eqP Tryz.underlying311 G G G<|nl<|nx<|cdF G<|sk<|nx<|sq<|rg<|mv G G<|ncP 1 G G G<|faP (α := Tpen) (β := RawP) 1 (fun x : Tpen => x.fIn) G G fld_314_0 ppen_0 G fun v57 => ldV 0 G G one_311 G fun w58 => ?_
  refine cf1 1 (Rdr.count_r p bv bs s0 1024 (inI (by omega) (by omega)) hp) ok_301 G G (Sc 3 G Sn) G fun _ v59 h59 => ?_
  have h59 : v59 = .int .i64 ((rdCount bs 1024 s0).1 : Int) := h59
  subst h59
  refine asg G G<|nl<|nx<|sq<|rg<|asg G G<|nl<|nx<|bk<|rwC TEnd 129<|lpE (σ := Nat × Value × List TEnd × Rd) [(0, _), (1, _), (2, _), (7, _)] _ (fun i C => (8, .int .i64 (i.1 : Int)) :: C) (fun i => [row 129 i.2.1 i.2.2.1, bl b T (c0.set o i.2.1), rdr p bv i.2.2.2, fz X w]) (fun _ Dc => Dc) (fun i => i.1 ≤ (rdCount bs 1024 s0).1 ∧ i.2.2.1.length = i.1 ∧ i.2.2.2.pos ≤ bs.length ∧ rdLs bs (gdEnd bs) s0 = (i.2.2.1 ++ (rdMany (gdEnd bs) ((rdCount bs 1024 s0).1 - i.1) i.2.2.2).1, (rdMany (gdEnd bs) ((rdCount bs 1024 s0).1 - i.1) i.2.2.2).2)) (fun i => (rdCount bs 1024 s0).1 - i.1) (0, .slice none 0 0, [], (rdCount bs 1024 s0).2) ⟨G, G, G, G, trivial⟩ (Sc 2 G (Sc 3 G Sn)) ⟨Nat.zero_le _, G, rdCount_pos hp, G⟩ ⟨G, G, G, G, G, trivial⟩ G (Sc 2 G (Sc 3 G Sn)) ?_
  rintro ⟨i, rv, acc, s⟩ ⟨hi, hl, hs, he⟩
  simp only at hi hl hs he
  refine sq<|sq<|rg<|mv G G<|mv G G<|ltI G G G<|mv G G ?_
  apply jo [(0, _), (1, _), (2, _), (7, _), (8, _)] ⟨rfl, rfl, rfl, rfl, rfl, trivial⟩
  ·
   intro K67
   refine spA (i := 63) G (fun h63 => ?_) (fun h63 => ?_)
   ·
    have p63 := of_decide_eq_true h63
    refine gY G G G<|mv G G<|gY G G G<|cf1 2 (stopped_c pv bv p s) ok_295 G G (Sc 0 G Sn) G fun _ v65 h65 => ?_
    have h65 : v65 = .bool (stopB s) := h65
    subst h65
    exact gY G G G<|nt G G<|pkT G G G<|jA K67 h63 ⟨G, G, G, G, G, trivial⟩ Sr
   ·
    exact gS (g := [_, _, _]) G<|pkF G G G<|jA0 K67 h63 ⟨G, G, G, G, G, trivial⟩ Sr
  refine nl<|nx<|cdB G (fun h67 => ?_) (fun h67 => ?_)
  ·
   have q67 := h67
   simp at q67
   obtain ⟨q1, q2⟩ := q67
   have hf := (stopB_not s).1 q2
   have hl1 : [(gdEnd bs s).1].length = 1 := rfl
   refine sk<|nx<|sq<|bk<|sq<|rg<|al zero_129 G fun b9 => nl<|nx<|sq<|rg<|mv G G<|mtL 3 G<|mtL 1 G ?_
   refine cfPc (L0 := [bl b9 129 zv1, rdr p bv s]) (Lr := [row 129 rv acc, bl b T (c0.set o rv), fz X w]) (end_e pv bv p bs s b9 hs) ok_273 G G G G (Sc 0 G (Sc 1 G Sn)) G fun _ _ _ => nl<|nx ?_
   refine rgV ⟨fun i => ([[], [], [1], [2], [], [4], [3, 5], [0], [7, 6]] : List (List Nat)).getD i [], fun _ _ => True, fun i => ([fun _ => [], fun _ => [], fun _ => [], fun _ => [], fun _ => [], fun u => [⟨u, [(gdEnd bs s).1]⟩], fun _ => [], fun _ => [], fun _ => []] : List (Value → List Atom)).getD i (fun _ => []), fun vs => match vs with
     | [] => [bl b9 129 (cEnd (gdEnd bs s).1), rdr p bv (gdEnd bs s).2, row 129 rv acc, bl b T (c0.set o rv), fz X w]
     | [v0] => [bl b9 129 (cEnd (gdEnd bs s).1), rdr p bv (gdEnd bs s).2, row 129 v0 (acc ++ [(gdEnd bs s).1]), bl b T (c0.set o rv), fz X w]
     | [v0, v1] => [bl b9 129 (cEnd (gdEnd bs s).1), rdr p bv (gdEnd bs s).2, row 129 v0 (acc ++ [(gdEnd bs s).1]), bl b T ((c0.set o rv).set o v0), fz X w]
     | _ => [], [6, 8]⟩ (fun i => ([some (.pointer (some ⟨b, o, none⟩)), some (.pointer (some ⟨b, o, none⟩)), some (.pointer (some ⟨b, o, none⟩)), some (rv), some (.agg (cEnd ((gdEnd bs s).1)).toArray), none, none, some (.pointer (some ⟨b, o, none⟩)), none] : List (Option Value)).getD i none) mixed rfl rfl ?_ ?_
   ·
    refine ⟨fun V De _=>aP2 (mv G G<|oa G G G G) (mv G G<|oa G G G G),fun V De _=>aP2 (mv G G<|oa G G G G) (mv G G<|oa G G G G),fun V De _=>aP2 (nc G G<|oa G G G G) (nc G G<|oa G G G G),fun V De _=>aP1 (ldB 3 G G one_53 (set_at ho) G<|oa G G G G),fun V De _=>aP2 (ldM 0 (cEnd ((gdEnd bs s).1)) G G row_129 G G<|oa G G G G) (ldM 0 (cEnd ((gdEnd bs s).1)) G G row_129 G G<|oa G G G G),fun V De _=>aP1 (bsM G app_53 G G G G fun b77 => frS1 (α := TEnd) (gdEnd bs s).1 (fun S w h => ⟨(), G, by simp, gdEnd_wf bs s⟩)<|nl (od G G G trivial (Sc 0 G Sn) (SubD.tail Sr))),fun V De _=>aP1 (ap 2 0 G G G G app_53 (by omega) (by omega) G fun v78 => nl (od G G G trivial Sn (SubD.tail Sr))),fun V De _=>aP1 (nc G G<|oa G G G G),?_⟩
    exact ⟨fun V De _=>aP1 (stR 3 2 G G G G one_53 (by rw [List.length_set]; exact ho)<|nl (od0 G G Sr)),trivial⟩
   ·
    intro V _
    refine wkQ (L := [bl b9 129 (cEnd (gdEnd bs s).1), rdr p bv (gdEnd bs s).2, row 129 (V 6) (acc ++ [(gdEnd bs s).1]), bl b T ((c0.set o rv).set o (V 6)), fz X w]) [(0, _), (1, _), (2, _), (7, _), (8, _)] [_, _] ⟨G, G, G, G, G, trivial⟩ (Sc 1 G (Sc 2 G Sn)) ?_
    generalize V 6 = v0
    refine bN<|nx<|rg<|mv G G<|adI G G (inI (by omega) (by omega)) G<|asg G G<|nl<|dpQ<|mtQ 2 G<|mtQ 2 G ?_
    exact ag ((i + 1, v0, acc ++ [(gdEnd bs s).1], (gdEnd bs s).2) : Nat × Value × List TEnd × Rd) ⟨by omega, by simp [hl], gdEnd_pos hs, rdMany_step (by omega) hf he⟩ (by show _ - _ < _ - _; omega) ⟨G, G, G, G, G, trivial⟩ (by simp only [List.set_set]; rfl) (Sc 0 G (Sc 1 G Sn))
  ·
   have q67 := h67
   simp at q67
   have hN : rdMany (gdEnd bs) ((rdCount bs 1024 s0).1 - i) s = ([], s) := by
    by_cases hf : s.fault = 0
    ·
     by_cases hlt : i < (rdCount bs 1024 s0).1
     ·
      exact absurd hf ((stopB_iff s).1 (q67 (by omega)))
     ·
      have e : (rdCount bs 1024 s0).1 - i = 0 := by omega
      rw [e]
      rfl
    ·
     exact rdMany_stop hf _
   rw [hN] at he
   simp only [List.append_nil] at he
   exact ex<|tE<|tE<|bE<|frRQ<|fR0N rv G trivial (by simp only [he, List.set_set, List.cons_append, List.nil_append]) (by simp only [he]; exact (SubD.cons 0 rfl SubD.nil))

theorem listEnd_q (pv bv : Value) (p : Nat) (bs : List UInt8) (b T : Nat) (q : List Value × Rd) (o : Nat) (hp : q.2.pos ≤ bs.length) (hz : q.1[o]? = some (.slice none 0 0)) : Fnc Tryz.prog 272 [pv, .pointer (some ⟨b, o, none⟩), .func (.func 273) #[pv] #[]] [bl b T q.1, rdr p bv q.2] [⟨pv, (⟨⟨p⟩⟩ : Pt Tpen)⟩, ⟨bv, bs⟩] (fun (_ : Value) _ => True) (fun y _ => [bl b T (setL o y (rdLs bs (gdEnd bs)) q).1, rdr p bv (setL o y (rdLs bs (gdEnd bs)) q).2]) (fun y _ => [⟨y, (rdLs bs (gdEnd bs) q.2).1⟩]) :=
 listEnd_p pv bv p bs q.2 b T q.1 o hp hz
end Go.Proofs.YtmpoffijcfaalaaGreat.Pen
