/- Part 27 of the proof of dutyQuiet_holds: DutG2, DutH, DutH1. Every text below begins with what it shows. -/
import Derived.Test.YtmpoffijcfaalaaGreatQu26

/- Walks of the readers of the reference: written by specs4.py. -/

namespace Go.Proofs.YtmpoffijcfaalaaGreat.Ref
open Go.Eng Go.YtmpoffijcfaalaaGreat

theorem int_c (p : Nat) (bv : Value) (bs : List UInt8) (s : Rd)  (hp : s.pos ≤ bs.length) : Fnc Tryz.prog 249 [.pointer (some ⟨p, 0, none⟩)] [rd2 p bv s] [⟨bv, bs⟩] (fun (_ : Unit) v => v = .int .i64 (rdInt bs s).1) (fun _ _ => [rd2 p bv (rdInt bs s).2]) (fun _ _ => []) := by
 refine Fnc.proof Tryz.func249 G 17 G G fun X w => ?_
 have hl := rdNum_lt bs s
 refine sq<|rg<|asg G G<|nl<|nx<|sq<|rg<|mv G G<|cf1 0 (num_c p bv bs s hp) ok_288 G G (Sc 0 G Sn) G fun _ v5 h5 => ?_
 have h5 : v5 = .int .u64 ((rdNum bs s).1 : Int) := h5
 subst h5
 refine asg G G<|nl<|nx<|sq<|sq<|rg<|mv G G<|reR G G (by decide) (u64_odd _) G<|eqI G G G<|nl<|nx<|cdP G (fun h8 => ?_) (fun h8 => ?_)
 ·
  refine sq<|rg<|mv G G<|quR G G (by decide) (u64_half _ hl) G<|cv Tryz.underlying209 Tryz.underlying3 G (i64_half hl) G<|ngI G (inI (by omega) (by omega)) G<|sbI G G (inI (by omega) (by omega)) G<|asg G G<|nl<|nx<|rt<|tR ?_
  exact fR1 () G G (by show _ = Value.int .i64 (zag (rdNum bs s).1); rw [zag_odd (by omega)]) G Sn
 ·
  refine sk<|nx<|sq<|rg<|mv G G<|quR G G (by decide) (u64_half _ hl) G<|cv Tryz.underlying209 Tryz.underlying3 G (i64_half hl) G<|asg G G<|nl<|nx<|rt ?_
  exact fR1 () G G (by show _ = Value.int .i64 (zag (rdNum bs s).1); rw [zag_even (by omega)]) G Sn

theorem byte_c (p : Nat) (bv : Value) (bs : List UInt8) (s : Rd)  (hp : s.pos ≤ bs.length) : Fnc Tryz.prog 285 [.pointer (some ⟨p, 0, none⟩)] [rd2 p bv s] [⟨bv, bs⟩] (fun (_ : Unit) v => v = .int .u8 ((rdByte bs s).1.toNat : Int)) (fun _ _ => [rd2 p bv (rdByte bs s).2]) (fun _ _ => []) := by
 refine Fnc.proof Tryz.func285 G 38 G G fun X w => gtC (q := bs.length ≤ 9223372036854775807) (fun S w h => list_len (h _ (List.mem_of_getElem? (i := 0) G))) fun hlen => sq<|rg<|asg G G<|nl<|nx<|sq<|sq<|rg<|mv G G<|nc G G<|fa G fld_264_2 G<|ldB 0 G G one_38 G G ?_
 refine neI G G G<|nl<|nx<|cdN G (fun h7 => ?_) (fun h7 => ?_)
 ·
  have hf : s.fault ≠ 0 := by omega
  rw [rdByte_stop hf]
  exact sq<|rg<|asg G G<|nl<|nx<|rt<|tR<|fR1 () G G G G Sn
 ·
  have hf : s.fault = 0 := by omega
  refine sk<|nx<|sq<|sq<|rgQ mixed (by kernel_rfl)<|mv G G<|nc G G<|fa G fld_264_1 G<|ldB 0 G G one_3 G G<|mv G G<|nc G G<|fa G fld_264_0 G<|ldB 0 G G one_35 G G<|lnP 0 G G Tryz.underlying35 G fun l16 => ?_
  refine geI G G G<|nlQ<|nx<|cdP G (fun h17 => ?_) (fun h17 => ?_)
  ·
   rw [rdByte_none hf (by omega)]
   exact sq<|rg<|mv G G<|cf1 0 (fail_c p bv bs s 20 (by first | exact hf | rfl)) ok_286 G G (Sc 0 G Sn) G fun _ v19 _ => nl<|nx<|sq<|rg<|asg G G<|nl<|nx<|rt<|tR<|fR1 () G G G G Sn
  ·
   obtain ⟨c, hc⟩ : ∃ c, bs[s.pos]? = some c := ⟨_, getE (by omega)⟩
   rw [rdByte_some hf hc]
   refine sk<|nx<|sq<|rg<|mv G G<|nc G G<|fa G fld_264_1 G<|ldB 0 G G one_3 G G<|adI G G (inI (by omega) (by omega)) G<|nc G G<|fa G fld_264_1 G<|stB 0 G G G one_3 G (Nat.lt_of_lt_of_le (Nat.lt_succ_self _) (Nat.le_of_ble_eq_true G))<|nl<|nx ?_
   refine sq<|rgQ mixed (by kernel_rfl)<|mv G G<|nc G G<|fa G fld_264_0 G<|ldB 0 G G one_35 G G<|mv G G<|nc G G<|fa G fld_264_1 G<|ldB 0 G G one_3 G G<|sbI G G (inI (by omega) (by omega)) G<|ixP 0 G G G slt_35 (by omega) (show bs[((s.pos : Int) + 1 - 1).toNat]? = some c from by rw [show ((s.pos : Int) + 1 - 1).toNat = s.pos by omega]; exact hc) G fun v36 => ldV 0 G G one_5 G fun w37 => ?_
   exact asg G G<|nlQ<|nx<|rt<|fR1 () G G G (by simp only [hf]; rfl) Sn

theorem flag_c (p : Nat) (bv : Value) (bs : List UInt8) (s : Rd)  (hp : s.pos ≤ bs.length) : Fnc Tryz.prog 247 [.pointer (some ⟨p, 0, none⟩)] [rd2 p bv s] [⟨bv, bs⟩] (fun (_ : Unit) v => v = .bool (rdFlag bs s).1) (fun _ _ => [rd2 p bv (rdFlag bs s).2]) (fun _ _ => []) := by
 refine Fnc.proof Tryz.func247 G 21 G G fun X w => sq<|rg<|asg G G<|nl<|nx<|sq<|rg<|mv G G<|nc G G<|fa G fld_264_1 G<|ldB 0 G G one_3 G G<|asg G G<|nl ?_
 refine nx<|sq<|rg<|mv G G<|cf1 0 (byte_c p bv bs s hp) ok_285 G G (Sc 0 G Sn) G fun _ v10 h10 => ?_
 have h10 : v10 = .int .u8 ((rdByte bs s).1.toNat : Int) := h10
 subst h10
 refine asg G G<|nl<|nx<|sq<|sq<|rg<|mv G G<|gtI G G G<|nl<|nx<|cdP G (fun h12 => ?_) (fun h12 => ?_)
 ·
  have hb : 1 < (rdByte bs s).1.toNat := by omega
  have hff := rdByte_fault hb
  have hr : rdFlag bs s = (false, ⟨s.pos, 21⟩) := by rw [rdFlag_byte, if_pos hb]
  rw [hr]
  refine sq<|rg<|mv G G<|mv G G<|nc G G<|fa G fld_264_1 G<|stB 0 G G G one_3 G (Nat.lt_of_lt_of_le (Nat.lt_succ_self _) (Nat.le_of_ble_eq_true G))<|nl<|nx<|sq<|rg<|mv G G<|cf1 0 (fail_c p bv bs ⟨s.pos, (rdByte bs s).2.fault⟩ 21 hff.2) ok_286 G G (Sc 0 G Sn) G fun _ v18 _ => nl ?_
  exact nx<|sq<|rg<|asg G G<|nl<|nx<|rt<|tR<|fR1 () G G G G Sn
 ·
  have hb : ¬ 1 < (rdByte bs s).1.toNat := by omega
  have hr : rdFlag bs s = (decide ((rdByte bs s).1 = 1), (rdByte bs s).2) := by rw [rdFlag_byte, if_neg hb]
  rw [hr]
  exact sk<|nx<|sq<|rg<|mv G G<|eqI G G G<|asg G G<|nl<|nx<|rt<|fR1 () G G (congrArg Value.bool (by rw [Bool.eq_iff_iff]; simp only [decide_eq_true_eq]; rw [← UInt8.toNat_inj]; show _ ↔ _ = 1; omega)) G Sn

theorem count_c (p : Nat) (bv : Value) (bs : List UInt8) (s : Rd) (m : Int) (hm : InI m) (hp : s.pos ≤ bs.length) : Fnc Tryz.prog 289 [.pointer (some ⟨p, 0, none⟩), .int .i64 m] [rd2 p bv s] [⟨bv, bs⟩] (fun (_ : Unit) v => v = .int .i64 ((rdCount bs m s).1 : Int)) (fun _ _ => [rd2 p bv (rdCount bs m s).2]) (fun _ _ => []) := by
 refine Fnc.proof Tryz.func289 G 26 G G fun X w => ?_
 obtain ⟨hm1, hm2⟩ := id hm
 have hmx := max_in hm
 obtain ⟨hm1, hm2⟩ := id hm
 refine sq<|rg<|asg G G<|nl<|nx<|sq<|rg<|mv G G<|nc G G<|fa G fld_264_1 G<|ldB 0 G G one_3 G G<|asg G G<|nl<|nx ?_
 refine sq<|rg<|mv G G<|cf1 0 (num_c p bv bs s hp) ok_288 G G (Sc 0 G Sn) G fun _ v12 h12 => ?_
 have h12 : v12 = .int .u64 ((rdNum bs s).1 : Int) := h12
 subst h12
 refine asg G G<|nl<|nx<|sq<|sq<|rg<|mv G G<|mv G G<|mxI G G G G<|cv Tryz.underlying3 Tryz.underlying209 G (wrap_u64_int (by omega) (by omega)) G<|gtI G G G<|nl<|nx<|cdP G (fun h17 => ?_) (fun h17 => ?_)
 ·
  have hb : max m 0 < ((rdNum bs s).1 : Int) := by omega
  have hff := rdNum_fault (show 0 < (rdNum bs s).1 by omega)
  rw [rdCount_num, if_pos hb]
  refine sq<|rg<|mv G G<|mv G G<|nc G G<|fa G fld_264_1 G<|stB 0 G G G one_3 G (Nat.lt_of_lt_of_le (Nat.lt_succ_self _) (Nat.le_of_ble_eq_true G))<|nl<|nx<|sq<|rg<|mv G G<|cf1 0 (fail_c p bv bs ⟨s.pos, (rdNum bs s).2.fault⟩ 22 hff.2) ok_286 G G (Sc 0 G Sn) G fun _ v23 _ => nl ?_
  exact nx<|sq<|rg<|asg G G<|nl<|nx<|rt<|tR<|fR1 () G G G G Sn
 ·
  rw [rdCount_num, if_neg (by omega)]
  exact sk<|nx<|sq<|rg<|mv G G<|cv Tryz.underlying209 Tryz.underlying3 G (i64_of_nat (by omega)) G<|asg G G<|nl<|nx<|rt<|fR1 () G G G G Sn

theorem text_c (p : Nat) (bv : Value) (bs : List UInt8) (s : Rd) (m : Int) (hm : InI m) (hms : m ≤ 1000000) (hp : s.pos ≤ bs.length) : Fnc Tryz.prog 257 [.pointer (some ⟨p, 0, none⟩), .int .i64 m] [rd2 p bv s] [⟨bv, bs⟩] (fun (_ : Unit) _ => True) (fun _ _ => [rd2 p bv (rdText bs m s).2]) (fun _ v => [⟨v, (rdText bs m s).1⟩]) := by
 refine Fnc.proof Tryz.func257 G 63 G G fun X w => ?_
 obtain ⟨hm1, hm2⟩ := id hm
 have hmx := max_in hm
 obtain ⟨hm1, hm2⟩ := id hm
 refine gtC (q := bs.length ≤ 9223372036854775807) (fun S w h => list_len (h _ (List.mem_of_getElem? (i := 0) G))) fun hlen => sq<|rg<|asg G G<|nl<|nx<|sq<|rg<|mv G G<|nc G G<|fa G fld_264_1 G<|ldB 0 G G one_3 G G<|asg G G<|nl ?_
 refine nx<|sq<|rg<|mv G G<|mv G G<|cf1 0 (count_c p bv bs s m hm hp) ok_289 G G (Sc 0 G Sn) G fun _ v13 h13 => ?_
 have h13 : v13 = .int .i64 ((rdCount bs m s).1 : Int) := h13
 subst h13
 have hT := @rdText_count bs m s
 have hcp := rdCount_pos (most := m) hp
 have hcm := @rdCount_max bs m s
 generalize (rdCount bs m s).1 = k at *
 generalize (rdCount bs m s).2 = s2 at *
 refine asg G G<|nl<|nx<|sq<|sq<|rg<|mv G G<|nc G G<|fa G fld_264_2 G<|ldB 0 G G one_38 G G<|neI G G G<|nl<|nx<|cdN G (fun h18 => ?_) (fun h18 => ?_)
 ·
  rw [if_pos (show s2.fault ≠ 0 by omega)] at hT
  rw [hT]
  exact emC (α := UInt8)<|sq<|rg<|asg G G<|nl<|nx<|rt<|tR<|fR1 () G G trivial G (Sc 0 G Sn)
 ·
  have hf2 : s2.fault = 0 := by omega
  rw [if_neg (show ¬ s2.fault ≠ 0 by omega)] at hT
  refine sk<|nx<|sq<|sq<|rgQ mixed (by kernel_rfl)<|mv G G<|mv G G<|nc G G<|fa G fld_264_0 G<|ldB 0 G G one_35 G G<|lnP 0 G G Tryz.underlying35 G fun l24 => mv G G<|nc G G<|fa G fld_264_1 G ?_
  refine ldB 0 G G one_3 G G<|sbI G G (inI (by omega) (by omega)) G<|gtI G G G<|nlQ<|nx<|cdP G (fun h30 => ?_) (fun h30 => ?_)
  ·
   rw [if_pos (by omega)] at hT
   rw [hT]
   refine emC (α := UInt8)<|sq<|rg<|mv G G<|mv G G<|nc G G<|fa G fld_264_1 G<|stB 0 G G G one_3 G (Nat.lt_of_lt_of_le (Nat.lt_succ_self _) (Nat.le_of_ble_eq_true G))<|nl<|nx<|sq<|rg<|mv G G<|cf1 0 (fail_c p bv bs ⟨s.pos, s2.fault⟩ 20 hf2) ok_286 G G (Sc 1 G Sn) G fun _ v36 _ => ?_
   exact nl<|nx<|sq<|rg<|asg G G<|nl<|nx<|rt<|tR<|fR1 () G G trivial G (Sc 0 G Sn)
  ·
   rw [if_neg (by omega)] at hT
   rw [hT]
   refine sk<|nx<|sq<|rg<|mv G G<|mv G G<|nc G G<|fa G fld_264_1 G<|ldB 0 G G one_3 G G<|mv G G<|adI G G (inI (by omega) (by omega)) G<|nc G G<|fa G fld_264_1 G<|stB 0 G G G one_3 G (Nat.lt_of_lt_of_le (Nat.lt_succ_self _) (Nat.le_of_ble_eq_true G)) ?_
   refine nl<|nx<|sq<|wkC [(0, _), (6, _)] _ ⟨G, G, trivial⟩ Sr ?_
   refine rgV ⟨fun i => ([[], [], [1], [2], [3], [], [5], [6], [7], [], [8, 9], [], [11], [12], [13], [4, 10, 14], [0, 15], [16]] : List (List Nat)).getD i [], fun _ _ => True, fun i => ([fun _ => [], fun _ => [], fun _ => [], fun _ => [], fun _ => [], fun _ => [], fun _ => [], fun _ => [], fun _ => [], fun _ => [], fun _ => [], fun _ => [], fun _ => [], fun _ => [], fun _ => [], fun u => [⟨u, (bs.take (((s2.pos : Int) + (k : Int)).toNat)).drop (((s2.pos : Int) + (k : Int) - (k : Int)).toNat)⟩], fun _ => [], fun _ => []] : List (Value → List Atom)).getD i (fun _ => []), fun vs => match vs with
     | [] => [bl p 264 [bv, .int .i64 ((s2.pos : Int) + (k : Int)), .int .i64 (s2.fault : Int)], fz X w]
     | [v0] => [row 5 v0 ([] : List UInt8), bl p 264 [bv, .int .i64 ((s2.pos : Int) + (k : Int)), .int .i64 (s2.fault : Int)], fz X w]
     | [v0, v1] => [row 5 v1 ([] ++ (bs.take (((s2.pos : Int) + (k : Int)).toNat)).drop (((s2.pos : Int) + (k : Int) - (k : Int)).toNat)), bl p 264 [bv, .int .i64 ((s2.pos : Int) + (k : Int)), .int .i64 (s2.fault : Int)], fz X w]
     | [v0, v1, v2] => [row 5 v2 ([] ++ (bs.take (((s2.pos : Int) + (k : Int)).toNat)).drop (((s2.pos : Int) + (k : Int) - (k : Int)).toNat)), bl p 264 [bv, .int .i64 ((s2.pos : Int) + (k : Int)), .int .i64 (s2.fault : Int)], fz X w]
     | _ => [], [0, 16, 17]⟩ (fun i => ([none, some (.pointer (some ⟨p, 0, none⟩)), some (.pointer (some ⟨p, 0, none⟩)), some (.pointer (some ⟨p, 0, none⟩)), some (bv), some (.pointer (some ⟨p, 0, none⟩)), some (.pointer (some ⟨p, 0, none⟩)), some (.pointer (some ⟨p, 1, none⟩)), some (.int .i64 (((s2.pos : Int) + (k : Int)))), some (.int .i64 ((k : Int))), some (.int .i64 ((((s2.pos : Int) + (k : Int)) - (k : Int)))), some (.pointer (some ⟨p, 0, none⟩)), some (.pointer (some ⟨p, 0, none⟩)), some (.pointer (some ⟨p, 1, none⟩)), some (.int .i64 (((s2.pos : Int) + (k : Int)))), none, none, none] : List (Option Value)).getD i none) mixed rfl rfl ?_ ?_
   ·
    refine ⟨fun V De _=>aP1 (bs0 app_35 G fun b46 => rwB (α := UInt8) [] [] G G (fun _ _ _ => trivial) G<|nl (od G G G trivial Sn Sr)),fun V De _=>aP3 (mv G G<|oa G G G G) (mv G G<|oa G G G G) (mv G G<|oa G G G G),fun V De _=>aP3 (nc G G<|oa G G G G) (nc G G<|oa G G G G) (nc G G<|oa G G G G),fun V De _=>aP3 (fa G fld_264_0 G<|oa G G G G) (fa G fld_264_0 G<|oa G G G G) (fa G fld_264_0 G<|oa G G G G),fun V De _=>aP3 (ldB 0 G G one_35 G G<|oa G G G G) (ldB 1 G G one_35 G G<|oa G G G G) (ldB 1 G G one_35 G G<|oa G G G G),fun V De _=>aP3 (mv G G<|oa G G G G) (mv G G<|oa G G G G) (mv G G<|oa G G G G),fun V De _=>aP3 (nc G G<|oa G G G G) (nc G G<|oa G G G G) (nc G G<|oa G G G G),fun V De _=>aP3 (fa G fld_264_1 G<|oa G G G G) (fa G fld_264_1 G<|oa G G G G) (fa G fld_264_1 G<|oa G G G G),?_⟩
    refine ⟨fun V De _=>aP3 (ldB 0 G G one_3 G G<|oa G G G G) (ldB 1 G G one_3 G G<|oa G G G G) (ldB 1 G G one_3 G G<|oa G G G G),fun V De _=>aP3 (mv G G<|oa G G G G) (mv G G<|oa G G G G) (mv G G<|oa G G G G),fun V De _=>aP3 (sbI G G (inI (by omega) (by omega)) G<|oa G G G G) (sbI G G (inI (by omega) (by omega)) G<|oa G G G G) (sbI G G (inI (by omega) (by omega)) G<|oa G G G G),fun V De _=>aP3 (mv G G<|oa G G G G) (mv G G<|oa G G G G) (mv G G<|oa G G G G),fun V De _=>aP3 (nc G G<|oa G G G G) (nc G G<|oa G G G G) (nc G G<|oa G G G G),fun V De _=>aP3 (fa G fld_264_1 G<|oa G G G G) (fa G fld_264_1 G<|oa G G G G) (fa G fld_264_1 G<|oa G G G G),fun V De _=>aP3 (ldB 0 G G one_3 G G<|oa G G G G) (ldB 1 G G one_3 G G<|oa G G G G) (ldB 1 G G one_3 G G<|oa G G G G),fun V De _=>aP2 (slP2 0 G G slt_35 G G (by omega) (by omega) (by omega) G fun v61 => nl (od G G G trivial (Sc 0 G Sn) (SubD.tail Sr))) (slP2 0 G G slt_35 G G (by omega) (by omega) (by omega) G fun v61 => nl (od G G G trivial (Sc 0 G Sn) (SubD.tail Sr))),?_⟩
    exact ⟨fun V De _=>aP1 (ap 0 0 G G G G app_35 (by simp only [List.length_nil, List.length_append, List.length_drop, List.length_take]; omega) (by simp only [List.length_nil, List.length_append, List.length_drop, List.length_take]; omega) G fun v62 => nl (od G G G trivial Sn (SubD.tail Sr))),fun V De _=>aP1 (asg G G<|nl (od G G G trivial Sn Sr)),trivial⟩
   ·
    intro V _
    refine wkQ (L := [row 5 (V 17) ([] ++ (bs.take (((s2.pos : Int) + (k : Int)).toNat)).drop (((s2.pos : Int) + (k : Int) - (k : Int)).toNat)), bl p 264 [bv, .int .i64 ((s2.pos : Int) + (k : Int)), .int .i64 (s2.fault : Int)], fz X w]) [(4, V 17)] [_] ⟨G, trivial⟩ (Sc 1 G Sn) ?_
    generalize V 17 = v2
    exact nx<|rt<|frRQ<|fR1 () G G trivial (by simp only [hf2]; rfl) (by rw [txt_eq]; exact (SubD.cons 0 rfl SubD.nil))

theorem end_c (p : Nat) (bv : Value) (bs : List UInt8) (s : Rd) : Fnc Tryz.prog 150 [.pointer (some ⟨p, 0, none⟩)] [rd2 p bv s] [⟨bv, bs⟩] (fun (_ : Unit) v => v = .int .i64 (endE bs s)) (fun _ _ => [rd2 p bv s]) (fun _ _ => []) := by
 refine Fnc.proof Tryz.func150 G 24 G G fun X w => sq<|rg<|asg G G<|nl<|nx<|sq<|sq<|rgQ mixed (by kernel_rfl)<|mv G G<|nc G G<|fa G fld_264_2 G<|ldB 0 G G one_38 G G<|eqI G G G ?_
 refine mv G G ?_
 apply jo [(0, _)] ⟨rfl, trivial⟩
 ·
  intro K19
  refine spA (i := 8) G (fun h8 => ?_) (fun h8 => ?_)
  ·
   have p8 := of_decide_eq_true h8
   refine gY G G G<|mv G G<|gY G G G<|nc G G<|gY G G G<|fa G fld_264_1 G<|gY G G G<|ldB 0 G G one_3 G G<|gY G G G<|mv G G<|gY G G G<|nc G G<|gY G G G<|fa G fld_264_0 G ?_
   exact gY G G G<|ldB 0 G G one_35 G G<|gY G G G<|lnP 0 G G Tryz.underlying35 G fun l17 => gY G G G<|ltI G G G<|pkT G G G<|jA K19 h8 ⟨G, trivial⟩ Sr
  ·
   exact gS (g := [_, _, _, _, _, _, _, _, _, _]) G<|pkF G G G<|jA0 K19 h8 ⟨G, trivial⟩ Sr
 refine nlQ<|nx<|cdB G (fun h19 => ?_) (fun h19 => ?_)
 ·
  have q19 := h19
  simp at q19
  refine sq<|rg<|asg G G<|nl<|nx<|rt<|tR ?_
  exact fR1 () G G (by unfold endE; rw [if_pos q19]) G Sn
 ·
  have q19 := h19
  simp at q19
  refine sk<|nx<|sq<|rg<|mv G G<|nc G G<|fa G fld_264_2 G<|ldB 0 G G one_38 G G<|asg G G<|nl<|nx<|rt ?_
  exact fR1 () G G (by unfold endE; rw [if_neg (by omega)]) G Sn
end Go.Proofs.YtmpoffijcfaalaaGreat.Ref

/- A walk over fields that reads. No program. -/

namespace Go.YtmpoffijcfaalaaGreat
open Go.Eng

/-- A walk over fields that reads by the reader in block r. -/
structure TWalk where
 r : Nat
@[reducible] def TWalk.fR (x : TWalk) : RawP := ⟨.pointer (some ⟨x.r, 0, none⟩)⟩
@[reducible] def sWalk : Shape TWalk where
 H := Unit
 size := 3
 cells x _ := [.slice none 0 0, .pointer (some ⟨x.r, 0, none⟩), .bool false]
 sub _ _ := []
 wf _ := True
 len _ _ := rfl
 one := by
  intro S w x h ht u hu
  simp only [List.mem_cons, List.not_mem_nil, or_false] at hu
  rcases hu with rfl | rfl | rfl <;> rfl
@[reducible] instance rWalk : Rep TWalk := Rep.ofShape sWalk
theorem pWalk_1 {x : TWalk} : ∀ (S : Nat → Prop) (w : World) (cs : List Value), rWalk.rd S w cs x → repRaw.rd S w ((cs.drop 1).take 1) x.fR := by
 rintro S w cs ⟨h, rfl, hs, hw⟩
 exact ⟨G, G⟩
def spanPr (bs : List UInt8) (o : Nat) (p : List Value × Rd) : List Value × Rd := intsP bs [o, o + 1] p
def lockPr (bs : List UInt8) (o : Nat) (p : List Value × Rd) : List Value × Rd := intsP bs [o, o + 1, o + 2, o + 3] p
def answerPr (bs : List UInt8) (o : Nat) (p : List Value × Rd) : List Value × Rd := intsP bs [o + 1, o + 2, o + 3] (intsP bs [o] p)
theorem spanPr_pos {bs : List UInt8} {o : Nat} {p : List Value × Rd} (h : p.2.pos ≤ bs.length) : (spanPr bs o p).2.pos ≤ bs.length := intsP_pos h
end Go.YtmpoffijcfaalaaGreat

/- Walks of the walk over fields, reading: written by specs5.py. -/

namespace Go.Proofs.YtmpoffijcfaalaaGreat.Ref
open Go.Eng Go.YtmpoffijcfaalaaGreat

theorem num1_p (pv bv : Value) (p : Nat) (bs : List UInt8) (s : Rd) (b T : Nat) (cells : List Value) (o : Nat) (hp : s.pos ≤ bs.length) (hz : cells[o]? = some (.int .i64 0)) : Fnc Tryz.prog 202 [pv, .pointer (some ⟨b, o, none⟩)] [bl b T cells, rd2 p bv s] [⟨pv, (⟨⟨p⟩⟩ : Pt TWalk)⟩, ⟨bv, bs⟩] (fun (_ : Unit) _ => True) (fun _ _ => [bl b T (intsP bs [o] (cells, s)).1, rd2 p bv (intsP bs [o] (cells, s)).2]) (fun _ _ => []) := by
 refine Fnc.proof Tryz.func202 G 28 G G fun X w => ?_
 have ho := lt_of_at hz
 refine sq<|sq<|rg<|mv G G<|ncP 0 G G G<|faP (α := TWalk) (β := RawP) 0 (fun x : TWalk => x.fR) G G fld_207_1 pWalk_1 G fun v6 => ldV 0 G G one_205 G fun w7 => ?_
 refine eqP Tryz.underlying205 G G G<|nl<|nx<|cdF G<|sk<|nx<|rg<|mv G G<|mv G G<|ncP 1 G G G<|faP (α := TWalk) (β := RawP) 1 (fun x : TWalk => x.fR) G G fld_207_1 pWalk_1 G fun v24 => ldV 0 G G one_205 G fun w25 => ?_
 refine cf1 1 (int_c p bv bs s hp) ok_249 G G (Sc 3 G Sn) G fun _ v26 h26 => ?_
 have h26 : v26 = .int .i64 (rdInt bs s).1 := h26
 subst h26
 exact nc G G<|stB 0 G G G one_3 G ho<|nl<|fR0N () G trivial G Sn

theorem int_p (pv bv sv : Value) (p : Nat) (bs : List UInt8) (s0 : Rd) (b T : Nat) (cells : List Value) (offs : List Nat) (hp : s0.pos ≤ bs.length) (hz : zeroI cells offs) (hn : offs.Nodup) : Fnc Tryz.prog 199 [pv, sv] [bl b T cells, rd2 p bv s0] [⟨pv, (⟨⟨p⟩⟩ : Pt TWalk)⟩, ⟨bv, bs⟩, ⟨sv, ptrs b offs⟩] (fun (_ : Unit) _ => True) (fun _ _ => [bl b T (intsP bs offs (cells, s0)).1, rd2 p bv (intsP bs offs (cells, s0)).2]) (fun _ _ => []) := by
 refine Fnc.proof Tryz.func199 G 17 G G fun X w => sq<|rg<|asg G G<|nl<|nx<|bk<|lpE (σ := Nat × List Value × Rd) [(0, _), (1, _)] _ (fun i C => (4, .int .i64 (i.1 : Int)) :: C) (fun i => [bl b T i.2.1, rd2 p bv i.2.2, fz X w]) (fun _ Dc => Dc) (fun i => i.1 ≤ offs.length ∧ i.2.2.pos ≤ bs.length ∧ zeroI i.2.1 (offs.drop i.1) ∧ (offs.drop i.1).Nodup ∧ intsP bs (offs.drop i.1) i.2 = intsP bs offs (cells, s0)) (fun i => offs.length - i.1) (0, cells, s0) ⟨G, G, trivial⟩ (Sc 0 G (Sc 1 G (Sc 2 G Sn))) ⟨Nat.zero_le _, hp, hz, hn, G⟩ ⟨G, G, G, trivial⟩ G (Sc 0 G (Sc 1 G (Sc 2 G Sn))) ?_
 rintro ⟨i, c, s⟩ ⟨hi, hs, hc, hd, he⟩
 simp only at hi hs hc hd he
 refine sq<|sq<|rg<|mv G G<|mv G G<|lnP 2 G G Tryz.underlying297 G fun l7 => ltI G G G<|nl<|nx<|cdP G (fun h8 => ?_) (fun h8 => ?_)
 ·
  have hi2 : i < offs.length := by rw [ptrs_len] at h8; omega
  rw [drop_cons hi2] at hc hd he
  refine sk<|nx<|sq<|bk<|rg<|mv G G<|mv G G<|mv G G<|ixP 2 G G G slt_297 (by omega) (ptrs_at hi2) G fun v14 => ldV 0 G G one_243 G fun w15 => ?_
  refine cfP (L0 := [bl b T c, rd2 p bv s]) (Lr := [fz X w]) (num1_p pv bv p bs s b T c (offs.getD i 0) hs (hc _ (List.mem_cons_self ..))) ok_202 G G (Sc 1 G (Sc 2 G Sn)) G fun _ _ _ => nl<|bN<|nx<|rg<|mv G G<|adI G G (inI (by omega) (by omega)) G<|asg G G<|nl ?_
  exact ag ((i + 1, c.set (offs.getD i 0) (.int .i64 (rdInt bs s).1), (rdInt bs s).2) : Nat × List Value × Rd) ⟨by omega, rdInt_pos hs, zero_set (α := Nat) hd (fun x hx => hc x (List.mem_cons_of_mem _ hx)), (List.nodup_cons.1 hd).2, he⟩ (by show _ - _ < _ - _; omega) ⟨G, G, G, trivial⟩ G (Sc 1 G (Sc 2 G (Sc 3 G Sn)))
 ·
  have hi2 : i = offs.length := by rw [ptrs_len] at h8; omega
  subst hi2
  rw [List.drop_length] at he
  have he : (c, s) = intsP bs offs (cells, s0) := he
  rw [← he]
  exact ex<|tE<|tE<|bE<|fR0N () G trivial G Sn

theorem flag_p (pv bv : Value) (p : Nat) (bs : List UInt8) (s : Rd) (b T : Nat) (cells : List Value) (o : Nat) (hp : s.pos ≤ bs.length) (hz : cells[o]? = some (.bool false)) : Fnc Tryz.prog 200 [pv, .pointer (some ⟨b, o, none⟩)] [bl b T cells, rd2 p bv s] [⟨pv, (⟨⟨p⟩⟩ : Pt TWalk)⟩, ⟨bv, bs⟩] (fun (_ : Unit) _ => True) (fun _ _ => [bl b T (flagP bs o (cells, s)).1, rd2 p bv (flagP bs o (cells, s)).2]) (fun _ _ => []) := by
 refine Fnc.proof Tryz.func200 G 30 G G fun X w => ?_
 have ho := lt_of_at hz
 refine sq<|sq<|rg<|mv G G<|ncP 0 G G G<|faP (α := TWalk) (β := RawP) 0 (fun x : TWalk => x.fR) G G fld_207_1 pWalk_1 G fun v7 => ldV 0 G G one_205 G fun w8 => ?_
 refine neP Tryz.underlying205 G G G<|nl<|nx<|cdT G<|sq<|rg<|mv G G<|mv G G<|ncP 1 G G G<|faP (α := TWalk) (β := RawP) 1 (fun x : TWalk => x.fR) G G fld_207_1 pWalk_1 G fun v13 => ldV 0 G G one_205 G fun w14 => ?_
 refine cf1 1 (flag_c p bv bs s hp) ok_247 G G (Sc 3 G Sn) G fun _ v15 h15 => ?_
 have h15 : v15 = .bool (rdFlag bs s).1 := h15
 subst h15
 exact nc G G<|stB 0 G G G one_4 G ho<|nl<|nx<|rt<|tR<|fR0N () G trivial G Sn

theorem bytes_p (pv bv : Value) (p : Nat) (bs : List UInt8) (s : Rd) (b T : Nat) (cells : List Value) (o : Nat) (u : Value) (hp : s.pos ≤ bs.length) (hz : cells[o]? = some u) : Fnc Tryz.prog 209 [pv, .pointer (some ⟨b, o, none⟩)] [bl b T cells, rd2 p bv s] [⟨pv, (⟨⟨p⟩⟩ : Pt TWalk)⟩, ⟨bv, bs⟩, ⟨u, ([] : List UInt8)⟩] (fun (_ : Value) _ => True) (fun y _ => [bl b T (setL o y (rdText bs 65535) (cells, s)).1, rd2 p bv (setL o y (rdText bs 65535) (cells, s)).2]) (fun y _ => [⟨y, (rdText bs 65535 s).1⟩]) := by
 refine Fnc.proof Tryz.func209 G 47 G G fun X w => ?_
 have ho := lt_of_at hz
 refine sq<|sq<|rg<|mv G G<|ncP 0 G G G<|faP (α := TWalk) (β := RawP) 0 (fun x : TWalk => x.fR) G G fld_207_1 pWalk_1 G fun v6 => ldV 0 G G one_205 G fun w7 => ?_
 refine neP Tryz.underlying205 G G G<|nl<|nx<|cdT G<|sq<|rg<|mv G G<|mv G G<|ncP 1 G G G<|faP (α := TWalk) (β := RawP) 1 (fun x : TWalk => x.fR) G G fld_207_1 pWalk_1 G fun v12 => ldV 0 G G one_205 G fun w13 => ?_
 refine cf1 1 (text_c p bv bs s 65535 (inI (by omega) (by omega)) (by omega) hp) ok_257 G G (Sc 3 G Sn) G fun _ v14 _ => ?_
 
 exact nc G G<|stL 0 0 G G G G one_35 ho<|nl<|nx<|rt<|tR<|fR0 v14 G trivial G (Sc 0 G Sn)

theorem text1_p (pv bv : Value) (p : Nat) (bs : List UInt8) (s : Rd) (b T : Nat) (cells : List Value) (o : Nat) (hp : s.pos ≤ bs.length) (hz : cells[o]? = some (.string ByteArray.empty)) : Fnc Tryz.prog 201 [pv, .pointer (some ⟨b, o, none⟩)] [bl b T cells, rd2 p bv s] [⟨pv, (⟨⟨p⟩⟩ : Pt TWalk)⟩, ⟨bv, bs⟩] (fun (_ : Unit) _ => True) (fun _ _ => [bl b T (textsP bs [o] (cells, s)).1, rd2 p bv (textsP bs [o] (cells, s)).2]) (fun _ _ => []) := by
 refine Fnc.proof Tryz.func201 G 38 G G fun X w => ?_
 have ho := lt_of_at hz
 refine sq<|rg<|al zero_35 G fun b4 => stB 0 G G G one_35 G (Nat.lt_of_lt_of_le (Nat.lt_succ_self _) (Nat.le_of_ble_eq_true G))<|nl<|nx<|sq<|sq<|rg<|mv G G<|ncP 0 G G G<|faP (α := TWalk) (β := RawP) 0 (fun x : TWalk => x.fR) G G fld_207_1 pWalk_1 G fun v7 => ldV 0 G G one_205 G fun w8 => ?_
 refine eqP Tryz.underlying205 G G G<|nl<|nx<|cdF G<|sk<|nx<|sq<|rg<|mv G G<|emL (α := UInt8)<|mtL 2 G<|mtL 1 G<|cfP (L0 := [bl b4 35 [.slice none 0 0], rd2 p bv s]) (Lr := [bl b T cells, fz X w]) (bytes_p pv bv p bs s b4 35 [.slice none 0 0] 0 (.slice none 0 0) hp G) ok_209 G G (Sc 2 G (Sc 3 G (Sc 0 G Sn))) G fun y v33 h33 => nl ?_
 exact nx<|rg<|mv G G<|ldB 0 G G one_35 (show _ = some y from G) G<|cbs 0 Tryz.underlying35 Tryz.underlying5 Tryz.underlying9 G G G<|nc G G<|stB 2 G G G one_9 G ho<|nl<|dpQ<|mtQ 1 G<|fR0N () G trivial G Sn

theorem many_c (pv bv : Value) (p : Nat) (bs : List UInt8) (s : Rd) (n : Int) (hp : s.pos ≤ bs.length) : Fnc Tryz.prog 250 [pv, .int .i64 n] [rd2 p bv s] [⟨pv, (⟨⟨p⟩⟩ : Pt TWalk)⟩, ⟨bv, bs⟩] (fun (_ : Unit) v => v = .int .i64 ((rdCount bs 1024 s).1 : Int)) (fun _ _ => [rd2 p bv (rdCount bs 1024 s).2]) (fun _ _ => []) := by
 refine Fnc.proof Tryz.func250 G 38 G G fun X w => sq<|rg<|asg G G<|nl<|nx<|sq<|sq<|rg<|mv G G<|ncP 0 G G G<|faP (α := TWalk) (β := RawP) 0 (fun x : TWalk => x.fR) G G fld_207_1 pWalk_1 G fun v7 => ldV 0 G G one_205 G fun w8 => ?_
 refine neP Tryz.underlying205 G G G<|nl<|nx<|cdT G<|sq<|rg<|mv G G<|ncP 1 G G G<|faP (α := TWalk) (β := RawP) 1 (fun x : TWalk => x.fR) G G fld_207_1 pWalk_1 G fun v12 => ldV 0 G G one_205 G fun w13 => ?_
 refine cf1 0 (count_c p bv bs s 1024 (inI (by omega) (by omega)) hp) ok_289 G G (Sc 3 G Sn) G fun _ v14 h14 => ?_
 have h14 : v14 = .int .i64 ((rdCount bs 1024 s).1 : Int) := h14
 subst h14
 exact asg G G<|nl<|nx<|rt<|tR<|fR1 () G G G G Sn

theorem more_c (pv bv : Value) (p : Nat) (s : Rd) : Fnc Tryz.prog 251 [pv] [rd2 p bv s] [⟨pv, (⟨⟨p⟩⟩ : Pt TWalk)⟩] (fun (_ : Unit) v => v = .bool (decide ((s.fault : Int) = 0))) (fun _ _ => [rd2 p bv s]) (fun _ _ => []) := by
 refine Fnc.proof Tryz.func251 G 29 G G fun X w => sq<|rg<|asg G G<|nl<|nx<|sq<|sq<|rg<|mv G G<|ncP 0 G G G<|faP (α := TWalk) (β := RawP) 0 (fun x : TWalk => x.fR) G G fld_207_1 pWalk_1 G fun v5 => ldV 0 G G one_205 G fun w6 => ?_
 refine neP Tryz.underlying205 G G G<|nl<|nx<|cdT G<|sq<|rg<|mv G G<|ncP 1 G G G<|faP (α := TWalk) (β := RawP) 1 (fun x : TWalk => x.fR) G G fld_207_1 pWalk_1 G fun v10 => ldV 0 G G one_205 G fun w11 => ?_
 exact nc G G<|fa G fld_264_2 G<|ldB 0 G G one_38 G G<|eqI G G G<|asg G G<|nl<|nx<|rt<|tR<|fR1 () G G G G Sn
end Go.Proofs.YtmpoffijcfaalaaGreat.Ref
