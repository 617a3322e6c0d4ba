/- Part 9 of dutyPlays_holds. -/
import Derived.Test.YtmpoffijcfaalaaGreatPl8

set_option maxRecDepth 20000
set_option maxHeartbeats 1000000
namespace Go.Proofs.YtmpoffijcfaalaaGreat
open Go.Eng Go.YtmpoffijcfaalaaGreat Go.ChangeShapes Go.WideShapes Go.ChangeAt Go.RowKit
section
theorem bulk_one {H : Type} (d : DataW H) : 1 ≤ Rows.uptoBulk d := by
 cases d with
 | lit l => cases l <;> simp [Rows.uptoBulk]
 | nil => simp [Rows.uptoBulk]
 | ptr d => simp [Rows.uptoBulk]
 | slice elems spare => simp [Rows.uptoBulk]
 | agg parts => simp [Rows.uptoBulk]
 | iface t d => simp [Rows.uptoBulk]
 | map entries => simp [Rows.uptoBulk]
 | held h => simp [Rows.uptoBulk]
theorem bulk_len {H : Type} (l : List (DataW H)) : l.length ≤ Rows.uptoBulkAll l := by
 induction l with
 | nil => simp [Rows.uptoBulkAll]
 | cons x r ih =>
  have := bulk_one x
  simp only [Rows.uptoBulkAll, List.length_cons]
  omega
theorem bulk_mem {H : Type} {d : DataW H} : ∀ {l : List (DataW H)}, d ∈ l → Rows.uptoBulk d ≤ Rows.uptoBulkAll l
 | x :: r, h => by
  simp only [Rows.uptoBulkAll]
  rcases List.mem_cons.1 h with rfl | h
  ·
   omega
  ·
   have := bulk_mem h
   omega
section
variable {P : Program} {H : Type} {enc : TypeId × Value → H} {w : World}
theorem field_bulk {fuel : Nat} {T : TypeId} {fs : Array Field} {cs : List Value} {x : DataW H × List MemPlace} (hu : P.underlying T = some (.struct fs)) (h : DataW.trod enc P w 0 (fun _ => true) true fuel T cs = some x) (i o n : Nat) {U : TypeId}
  (hf : fs[i]?.map (fun f => (f.type, f.offset)) = some (U, o)) (hn : P.cellsOf U = n) : ∃ m y, DataW.trod enc P w 0 (fun _ => true) true m U ((cs.drop o).take n) = some y ∧ Rows.uptoBulk y.1 ≤ Rows.uptoBulk x.1 := by
 obtain ⟨xs, m, _, rfl, _, hlen, hx⟩ := DataW.trod_struct hu h
 cases hfi : fs[i]? with
 | none => rw [hfi] at hf; cases hf
 | some f =>
  rw [hfi] at hf
  simp only [Option.map_some, Option.some.injEq, Prod.mk.injEq] at hf
  obtain ⟨rfl, rfl⟩ := hf
  subst hn
  have hi : i < xs.length := by rw [hlen]; exact (Array.getElem?_eq_some_iff.1 hfi).1
  have := hx i f hfi
  rw [List.getElem?_eq_getElem hi] at this
  refine ⟨m, _, this, ?_⟩
  have := bulk_mem (List.mem_map_of_mem (f := fun y : DataW H × List MemPlace => y.1) (List.getElem_mem hi))
  simp only [Rows.uptoBulk]
  omega
theorem list_bulk2 {fuel : Nat} {T E : TypeId} {α : Type} {r : Rep α} {v : Value} {x : DataW H × List MemPlace} {l : List α} {S : Nat → Prop}
  (hu : P.underlying T = some (.slice E)) (hs : P.cellsOf E = r.size) (h : DataW.trod enc P w 0 (fun _ => true) true fuel T [v] = some x) (hl : Atom.holds (@Atom.mk (List α) (@repList α r) v l) S w) :
  l.length ≤ Rows.uptoBulk x.1 ∧ ∀ (i : Nat) (e : α), l[i]? = some e → ∃ m cs y, DataW.trod enc P w 0 (fun _ => true) true m E cs = some y ∧ Rows.uptoBulk y.1 ≤ Rows.uptoBulk x.1 ∧ r.rd S w cs e := by
 obtain ⟨ha, A, cc, hcs, _, _, _, h4⟩ := hl
 rcases Deep.open_slice hu h with ⟨hc, hx⟩ | ⟨a, len, cap, m, n, D, Pl, hc, _, hlc, hcm, hm, hx, hi⟩
 ·
  obtain rfl : v = .slice none 0 0 := by simpa using hc
  have this : [Value.slice none 0 0] = [Value.slice A l.length cc] := hcs
  simp only [List.cons.injEq, Value.slice.injEq, and_true] at this
  have h0 : l.length = 0 := this.2.1.symm
  refine ⟨by omega, fun i e he => ?_⟩
  rw [List.length_eq_zero_iff.1 h0] at he
  cases he
 ·
  obtain rfl : v = .slice (some a) len cap := by simpa using hc
  have this : [Value.slice (some a) len cap] = [Value.slice A l.length cc] := hcs
  simp only [List.cons.injEq, Value.slice.injEq, and_true] at this
  obtain ⟨rfl, h0, _⟩ := this
  have h0 := h0.symm
  subst hx
  have hb := bulk_len ((List.range len).map D)
  simp only [List.length_map, List.length_range] at hb
  refine ⟨by simp only [Rows.uptoBulk]; omega, fun i e he => ?_⟩
  have hil : i < l.length := (List.getElem?_eq_some_iff.1 he).1
  have hne : l ≠ [] := fun e => by rw [e] at hil; cases hil
  obtain ⟨b, o, hab, _, hr⟩ := h4 hne
  obtain ⟨cs', h1, h2⟩ := hr i e he
  obtain ⟨cs2, g1, g2⟩ := hi i (by rw [hm]; split <;> omega)
  simp only [Option.some.injEq] at hab
  subst hab
  obtain ⟨k1, k2⟩ := cells_lies g1
  have hlen := r.len h1
  have e2 : cs' = cs2 := by
   refine List.ext_getElem? fun j => ?_
   rcases Nat.lt_or_ge j cs'.length with hj | hj
   ·
    have q1 := h2 j _ (List.getElem?_eq_getElem hj)
    have q2 := k2 j _ (List.getElem?_eq_getElem (by omega))
    rw [hs, Addr.add_mid, Addr.add_mid] at q2
    rw [List.getElem?_eq_getElem hj, List.getElem?_eq_getElem (by omega)]
    exact q1.symm.trans q2
   ·
    rw [List.getElem?_eq_none hj, List.getElem?_eq_none (by omega)]
  subst e2
  refine ⟨n, cs', _, g2, ?_, h1⟩
  have := bulk_mem (List.mem_map_of_mem (f := D) (List.mem_range.2 (h0 ▸ hil)))
  simp only [Rows.uptoBulk]
  omega
end
section
variable {H : Type} {enc : TypeId × Value → H} {w : World} {S : Nat → Prop}
theorem acc_bulk {fuel : Nat} {cs : List Value} {x : DataW H × List MemPlace} {a : TAccount} (h : DataW.trod enc Tryz.prog w 0 (fun _ => true) true fuel 70 cs = some x) (hr : rAccount.rd S w cs a) : a.fHolders.length ≤ Rows.uptoBulk x.1 := by
 obtain ⟨k, rfl, hs, _⟩ := hr
 obtain ⟨m, y, t, b⟩ := field_bulk Tryz.underlying70 h 4 5 1 rfl cells_66
 exact Nat.le_trans (list_bulk2 Tryz.underlying66 cells_165 t (hs ⟨k, a.fHolders⟩ (List.mem_cons_self ..))).1 b
theorem state_bulk {fuel n : Nat} {cs : List Value} {x : DataW H × List MemPlace} {s : TState} (h : DataW.trod enc Tryz.prog w 0 (fun _ => true) true fuel 55 cs = some x) (hr : rState.rd S w cs s) (hn : Rows.uptoBulk x.1 ≤ 1048576) : BkS s := by
 obtain ⟨⟨k0, k1, k2, k3, k4, k5⟩, rfl, hs, _⟩ := hr
 obtain ⟨m0, y0, t0, b0⟩ := field_bulk Tryz.underlying55 h 6 6 1 rfl cells_50
 obtain ⟨m1, y1, t1, b1⟩ := field_bulk Tryz.underlying55 h 7 7 1 rfl cells_25
 obtain ⟨m2, y2, t2, b2⟩ := field_bulk Tryz.underlying55 h 8 8 1 rfl cells_51
 obtain ⟨m3, y3, t3, b3⟩ := field_bulk Tryz.underlying55 h 9 9 1 rfl cells_52
 obtain ⟨m4, y4, t4, b4⟩ := field_bulk Tryz.underlying55 h 10 10 1 rfl cells_53
 obtain ⟨m5, y5, t5, b5⟩ := field_bulk Tryz.underlying55 h 13 25 1 rfl cells_35
 obtain ⟨l0, e0⟩ := list_bulk2 Tryz.underlying50 cells_70 t0 (hs ⟨k0, s.fAccounts⟩ (by simp))
 obtain ⟨l1, _⟩ := list_bulk2 Tryz.underlying25 cells_122 t1 (hs ⟨k1, s.fMarks⟩ (by simp))
 obtain ⟨l2, _⟩ := list_bulk2 Tryz.underlying51 cells_108 t2 (hs ⟨k2, s.fWaits⟩ (by simp))
 obtain ⟨l3, _⟩ := list_bulk2 Tryz.underlying52 cells_126 t3 (hs ⟨k3, s.fDeals⟩ (by simp))
 obtain ⟨l4, _⟩ := list_bulk2 Tryz.underlying53 cells_129 t4 (hs ⟨k4, s.fEnds⟩ (by simp))
 obtain ⟨l5, _⟩ := list_bulk2 Tryz.underlying35 cells_5 t5 (hs ⟨k5, s.fImage⟩ (by simp))
 refine ⟨by omega, fun j => ?_, by omega, by omega, by omega, by omega, by omega⟩
 rcases Nat.lt_or_ge j s.fAccounts.length with hj | hj
 ·
  obtain ⟨m, cs, y, t, b, r⟩ := e0 j (s.fAccounts.getD j default) (by simp [List.getD, List.getElem?_eq_getElem hj])
  have := acc_bulk t r
  omega
 ·
  rw [List.getD_eq_getElem?_getD, List.getElem?_eq_none hj]
  decide
theorem scene_bulk {fuel : Nat} {cs : List Value} {x : DataW H × List MemPlace} {v : TScene} (h : DataW.trod enc Tryz.prog w 0 (fun _ => true) true fuel 32 cs = some x) (hr : rScene.rd S w cs v) (hn : Rows.uptoBulk x.1 ≤ 1048576) : BkV v := by
 obtain ⟨⟨k0, k1, k2, k3, k4⟩, rfl, hs, _⟩ := hr
 obtain ⟨m, y, t, b⟩ := field_bulk Tryz.underlying32 h 2 2 12 rfl cells_27
 obtain ⟨m0, y0, t0, b0⟩ := field_bulk Tryz.underlying27 t 1 1 1 rfl cells_22
 obtain ⟨m1, y1, t1, b1⟩ := field_bulk Tryz.underlying27 t 5 11 1 rfl cells_25
 obtain ⟨m2, y2, t2, b2⟩ := field_bulk Tryz.underlying32 h 3 14 1 rfl cells_28
 obtain ⟨m3, y3, t3, b3⟩ := field_bulk Tryz.underlying32 h 4 15 1 rfl cells_29
 obtain ⟨m4, y4, t4, b4⟩ := field_bulk Tryz.underlying32 h 5 16 1 rfl cells_30
 obtain ⟨l0, _⟩ := list_bulk2 Tryz.underlying22 cells_90 t0 (hs ⟨k0, v.fChart.fPlaces⟩ (by simp))
 obtain ⟨l1, _⟩ := list_bulk2 Tryz.underlying25 cells_122 t1 (hs ⟨k1, v.fChart.fMarks⟩ (by simp))
 obtain ⟨l2, e2⟩ := list_bulk2 Tryz.underlying28 cells_55 t2 (hs ⟨k2, v.fStates⟩ (by simp))
 obtain ⟨l3, _⟩ := list_bulk2 Tryz.underlying29 cells_59 t3 (hs ⟨k3, v.fRights⟩ (by simp))
 obtain ⟨l4, _⟩ := list_bulk2 Tryz.underlying30 cells_62 t4 (hs ⟨k4, v.fAges⟩ (by simp))
 refine ⟨by omega, by omega, by omega, fun j hj => ?_, by omega, by omega⟩
 obtain ⟨m, cs, y, t, b, r⟩ := e2 j (v.fStates.getD j default) (by simp [List.getD, List.getElem?_eq_getElem hj])
 exact state_bulk (n := 0) t r (by omega)
end
end
end Go.Proofs.YtmpoffijcfaalaaGreat
namespace Go.Proofs.YtmpoffijcfaalaaGreat
open Go.Eng
theorem app_220 : AppTy Tryz.prog 220 3 1 8 := AppTy.mk Tryz.underlying220 (by kernel_rfl) (by decide)
theorem arr_294 : ArrTy Tryz.prog 294 4 8 1 := ⟨Tryz.underlying294, by kernel_rfl⟩
theorem ext_220 : Ext Tryz.prog 220 Extern.BytealgCompare.compare := ⟨⟨_, Tryz.func220, by kernel_rfl, by kernel_rfl, by kernel_rfl, by kernel_rfl⟩⟩
theorem ext_222 : Ext Tryz.prog 222 add64Entry := ⟨⟨_, Tryz.func222, by kernel_rfl, by kernel_rfl, by kernel_rfl, by kernel_rfl⟩⟩
theorem fld_108_0 : FieldAt Tryz.prog 108 0 0 := FieldAt.mk Tryz.underlying108 rfl (by kernel_rfl) rfl
theorem fld_108_1 : FieldAt Tryz.prog 108 1 1 := FieldAt.mk Tryz.underlying108 rfl (by kernel_rfl) rfl
theorem fld_108_2 : FieldAt Tryz.prog 108 2 2 := FieldAt.mk Tryz.underlying108 rfl (by kernel_rfl) rfl
theorem fld_108_3 : FieldAt Tryz.prog 108 3 3 := FieldAt.mk Tryz.underlying108 rfl (by kernel_rfl) rfl
theorem fld_108_4 : FieldAt Tryz.prog 108 4 4 := FieldAt.mk Tryz.underlying108 rfl (by kernel_rfl) rfl
theorem fld_108_5 : FieldAt Tryz.prog 108 5 5 := FieldAt.mk Tryz.underlying108 rfl (by kernel_rfl) rfl
theorem fld_122_0 : FieldAt Tryz.prog 122 0 0 := FieldAt.mk Tryz.underlying122 rfl (by kernel_rfl) rfl
theorem fld_122_1 : FieldAt Tryz.prog 122 1 1 := FieldAt.mk Tryz.underlying122 rfl (by kernel_rfl) rfl
theorem fld_122_2 : FieldAt Tryz.prog 122 2 2 := FieldAt.mk Tryz.underlying122 rfl (by kernel_rfl) rfl
theorem fld_122_3 : FieldAt Tryz.prog 122 3 3 := FieldAt.mk Tryz.underlying122 rfl (by kernel_rfl) rfl
theorem fld_126_0 : FieldAt Tryz.prog 126 0 0 := FieldAt.mk Tryz.underlying126 rfl (by kernel_rfl) rfl
theorem fld_126_1 : FieldAt Tryz.prog 126 1 1 := FieldAt.mk Tryz.underlying126 rfl (by kernel_rfl) rfl
theorem fld_126_2 : FieldAt Tryz.prog 126 2 2 := FieldAt.mk Tryz.underlying126 rfl (by kernel_rfl) rfl
theorem fld_126_3 : FieldAt Tryz.prog 126 3 3 := FieldAt.mk Tryz.underlying126 rfl (by kernel_rfl) rfl
theorem fld_126_4 : FieldAt Tryz.prog 126 4 4 := FieldAt.mk Tryz.underlying126 rfl (by kernel_rfl) rfl
theorem fld_126_5 : FieldAt Tryz.prog 126 5 5 := FieldAt.mk Tryz.underlying126 rfl (by kernel_rfl) rfl
theorem fld_126_6 : FieldAt Tryz.prog 126 6 6 := FieldAt.mk Tryz.underlying126 rfl (by kernel_rfl) rfl
theorem fld_126_7 : FieldAt Tryz.prog 126 7 7 := FieldAt.mk Tryz.underlying126 rfl (by kernel_rfl) rfl
theorem fld_129_0 : FieldAt Tryz.prog 129 0 0 := FieldAt.mk Tryz.underlying129 rfl (by kernel_rfl) rfl
theorem fld_129_1 : FieldAt Tryz.prog 129 1 1 := FieldAt.mk Tryz.underlying129 rfl (by kernel_rfl) rfl
theorem fld_165_0 : FieldAt Tryz.prog 165 0 0 := FieldAt.mk Tryz.underlying165 rfl (by kernel_rfl) rfl
theorem fld_165_1 : FieldAt Tryz.prog 165 1 1 := FieldAt.mk Tryz.underlying165 rfl (by kernel_rfl) rfl
theorem fld_165_2 : FieldAt Tryz.prog 165 2 2 := FieldAt.mk Tryz.underlying165 rfl (by kernel_rfl) rfl
theorem fld_165_3 : FieldAt Tryz.prog 165 3 3 := FieldAt.mk Tryz.underlying165 rfl (by kernel_rfl) rfl
theorem fld_24_0 : FieldAt Tryz.prog 24 0 0 := FieldAt.mk Tryz.underlying24 rfl (by kernel_rfl) rfl
theorem fld_24_1 : FieldAt Tryz.prog 24 1 1 := FieldAt.mk Tryz.underlying24 rfl (by kernel_rfl) rfl
theorem fld_24_2 : FieldAt Tryz.prog 24 2 2 := FieldAt.mk Tryz.underlying24 rfl (by kernel_rfl) rfl
theorem fld_24_3 : FieldAt Tryz.prog 24 3 3 := FieldAt.mk Tryz.underlying24 rfl (by kernel_rfl) rfl
theorem fld_24_4 : FieldAt Tryz.prog 24 4 4 := FieldAt.mk Tryz.underlying24 rfl (by kernel_rfl) rfl
theorem fld_34_0 : FieldAt Tryz.prog 34 0 0 := FieldAt.mk Tryz.underlying34 rfl (by kernel_rfl) rfl
theorem fld_34_1 : FieldAt Tryz.prog 34 1 1 := FieldAt.mk Tryz.underlying34 rfl (by kernel_rfl) rfl
theorem fld_34_3 : FieldAt Tryz.prog 34 3 3 := FieldAt.mk Tryz.underlying34 rfl (by kernel_rfl) rfl
theorem fld_55_11 : FieldAt Tryz.prog 55 11 11 := FieldAt.mk Tryz.underlying55 rfl (by kernel_rfl) rfl
theorem fld_55_2 : FieldAt Tryz.prog 55 2 2 := FieldAt.mk Tryz.underlying55 rfl (by kernel_rfl) rfl
theorem fld_55_3 : FieldAt Tryz.prog 55 3 3 := FieldAt.mk Tryz.underlying55 rfl (by kernel_rfl) rfl
theorem fld_55_4 : FieldAt Tryz.prog 55 4 4 := FieldAt.mk Tryz.underlying55 rfl (by kernel_rfl) rfl
theorem fld_55_5 : FieldAt Tryz.prog 55 5 5 := FieldAt.mk Tryz.underlying55 rfl (by kernel_rfl) rfl
theorem fld_55_6 : FieldAt Tryz.prog 55 6 6 := FieldAt.mk Tryz.underlying55 rfl (by kernel_rfl) rfl
theorem fld_55_8 : FieldAt Tryz.prog 55 8 8 := FieldAt.mk Tryz.underlying55 rfl (by kernel_rfl) rfl
theorem fld_65_0 : FieldAt Tryz.prog 65 0 0 := FieldAt.mk Tryz.underlying65 rfl (by kernel_rfl) rfl
theorem fld_65_1 : FieldAt Tryz.prog 65 1 1 := FieldAt.mk Tryz.underlying65 rfl (by kernel_rfl) rfl
theorem fld_68_0 : FieldAt Tryz.prog 68 0 0 := FieldAt.mk Tryz.underlying68 rfl (by kernel_rfl) rfl
theorem fld_68_1 : FieldAt Tryz.prog 68 1 1 := FieldAt.mk Tryz.underlying68 rfl (by kernel_rfl) rfl
theorem fld_68_2 : FieldAt Tryz.prog 68 2 2 := FieldAt.mk Tryz.underlying68 rfl (by kernel_rfl) rfl
theorem fld_68_3 : FieldAt Tryz.prog 68 3 3 := FieldAt.mk Tryz.underlying68 rfl (by kernel_rfl) rfl
theorem fld_70_0 : FieldAt Tryz.prog 70 0 0 := FieldAt.mk Tryz.underlying70 rfl (by kernel_rfl) rfl
theorem fld_70_1 : FieldAt Tryz.prog 70 1 1 := FieldAt.mk Tryz.underlying70 rfl (by kernel_rfl) rfl
theorem fld_70_2 : FieldAt Tryz.prog 70 2 3 := FieldAt.mk Tryz.underlying70 rfl (by kernel_rfl) rfl
theorem fld_70_3 : FieldAt Tryz.prog 70 3 4 := FieldAt.mk Tryz.underlying70 rfl (by kernel_rfl) rfl
theorem fld_70_4 : FieldAt Tryz.prog 70 4 5 := FieldAt.mk Tryz.underlying70 rfl (by kernel_rfl) rfl
theorem fld_70_5 : FieldAt Tryz.prog 70 5 6 := FieldAt.mk Tryz.underlying70 rfl (by kernel_rfl) rfl
theorem mixed : Tryz.prog.follows .mixedOrders = true := by kernel_rfl
theorem ok_102 : FnOk Pg 102 := ⟨⟨_, Tryz.func102, by kernel_rfl, rfl⟩⟩
theorem ok_124 : FnOk Pg 124 := ⟨⟨_, Tryz.func124, by kernel_rfl, rfl⟩⟩
theorem ok_125 : FnOk Pg 125 := ⟨⟨_, Tryz.func125, by kernel_rfl, rfl⟩⟩
theorem ok_130 : FnOk Pg 130 := ⟨⟨_, Tryz.func130, by kernel_rfl, rfl⟩⟩
theorem ok_131 : FnOk Pg 131 := ⟨⟨_, Tryz.func131, by kernel_rfl, rfl⟩⟩
theorem ok_132 : FnOk Pg 132 := ⟨⟨_, Tryz.func132, by kernel_rfl, rfl⟩⟩
theorem ok_133 : FnOk Pg 133 := ⟨⟨_, Tryz.func133, by kernel_rfl, rfl⟩⟩
theorem ok_134 : FnOk Pg 134 := ⟨⟨_, Tryz.func134, by kernel_rfl, rfl⟩⟩
theorem ok_162 : FnOk Pg 162 := ⟨⟨_, Tryz.func162, by kernel_rfl, rfl⟩⟩
theorem ok_164 : FnOk Pg 164 := ⟨⟨_, Tryz.func164, by kernel_rfl, rfl⟩⟩
theorem ok_165 : FnOk Pg 165 := ⟨⟨_, Tryz.func165, by kernel_rfl, rfl⟩⟩
theorem ok_166 : FnOk Pg 166 := ⟨⟨_, Tryz.func166, by kernel_rfl, rfl⟩⟩
theorem ok_167 : FnOk Pg 167 := ⟨⟨_, Tryz.func167, by kernel_rfl, rfl⟩⟩
theorem ok_168 : FnOk Pg 168 := ⟨⟨_, Tryz.func168, by kernel_rfl, rfl⟩⟩
theorem ok_169 : FnOk Pg 169 := ⟨⟨_, Tryz.func169, by kernel_rfl, rfl⟩⟩
theorem ok_194 : FnOk Pg 194 := ⟨⟨_, Tryz.func194, by kernel_rfl, rfl⟩⟩
theorem ok_195 : FnOk Pg 195 := ⟨⟨_, Tryz.func195, by kernel_rfl, rfl⟩⟩
theorem ok_196 : FnOk Pg 196 := ⟨⟨_, Tryz.func196, by kernel_rfl, rfl⟩⟩
theorem ok_221 : FnOk Pg 221 := ⟨⟨_, Tryz.func221, by kernel_rfl, rfl⟩⟩
theorem ok_223 : FnOk Pg 223 := ⟨⟨_, Tryz.func223, by kernel_rfl, rfl⟩⟩
theorem ok_224 : FnOk Pg 224 := ⟨⟨_, Tryz.func224, by kernel_rfl, rfl⟩⟩
theorem ok_225 : FnOk Pg 225 := ⟨⟨_, Tryz.func225, by kernel_rfl, rfl⟩⟩
theorem ok_226 : FnOk Pg 226 := ⟨⟨_, Tryz.func226, by kernel_rfl, rfl⟩⟩
theorem ok_237 : FnOk Pg 237 := ⟨⟨_, Tryz.func237, by kernel_rfl, rfl⟩⟩
theorem ok_238 : FnOk Pg 238 := ⟨⟨_, Tryz.func238, by kernel_rfl, rfl⟩⟩
theorem ok_239 : FnOk Pg 239 := ⟨⟨_, Tryz.func239, by kernel_rfl, rfl⟩⟩
theorem ok_240 : FnOk Pg 240 := ⟨⟨_, Tryz.func240, by kernel_rfl, rfl⟩⟩
theorem ok_241 : FnOk Pg 241 := ⟨⟨_, Tryz.func241, by kernel_rfl, rfl⟩⟩
theorem ok_242 : FnOk Pg 242 := ⟨⟨_, Tryz.func242, by kernel_rfl, rfl⟩⟩
theorem ok_243 : FnOk Pg 243 := ⟨⟨_, Tryz.func243, by kernel_rfl, rfl⟩⟩
theorem ok_246 : FnOk Pg 246 := ⟨⟨_, Tryz.func246, by kernel_rfl, rfl⟩⟩
theorem ok_277 : FnOk Pg 277 := ⟨⟨_, Tryz.func277, by kernel_rfl, rfl⟩⟩
theorem ok_278 : FnOk Pg 278 := ⟨⟨_, Tryz.func278, by kernel_rfl, rfl⟩⟩
theorem ok_279 : FnOk Pg 279 := ⟨⟨_, Tryz.func279, by kernel_rfl, rfl⟩⟩
theorem ok_284 : FnOk Pg 284 := ⟨⟨_, Tryz.func284, by kernel_rfl, rfl⟩⟩
theorem ok_37 : FnOk Pg 37 := ⟨⟨_, Tryz.func37, by kernel_rfl, rfl⟩⟩
theorem ok_38 : FnOk Pg 38 := ⟨⟨_, Tryz.func38, by kernel_rfl, rfl⟩⟩
theorem ok_78 : FnOk Pg 78 := ⟨⟨_, Tryz.func78, by kernel_rfl, rfl⟩⟩
theorem ok_80 : FnOk Pg 80 := ⟨⟨_, Tryz.func80, by kernel_rfl, rfl⟩⟩
theorem ok_81 : FnOk Pg 81 := ⟨⟨_, Tryz.func81, by kernel_rfl, rfl⟩⟩
theorem ok_82 : FnOk Pg 82 := ⟨⟨_, Tryz.func82, by kernel_rfl, rfl⟩⟩
theorem ok_87 : FnOk Pg 87 := ⟨⟨_, Tryz.func87, by kernel_rfl, rfl⟩⟩
theorem ok_89 : FnOk Pg 89 := ⟨⟨_, Tryz.func89, by kernel_rfl, rfl⟩⟩
theorem ok_92 : FnOk Pg 92 := ⟨⟨_, Tryz.func92, by kernel_rfl, rfl⟩⟩
theorem ok_97 : FnOk Pg 97 := ⟨⟨_, Tryz.func97, by kernel_rfl, rfl⟩⟩
theorem ok_98 : FnOk Pg 98 := ⟨⟨_, Tryz.func98, by kernel_rfl, rfl⟩⟩
theorem one_3 : OneTy Tryz.prog 3 := ⟨⟨_, Tryz.underlying3, rfl⟩, by kernel_rfl⟩
theorem one_4 : OneTy Tryz.prog 4 := ⟨⟨_, Tryz.underlying4, rfl⟩, by kernel_rfl⟩
theorem one_50 : OneTy Tryz.prog 50 := ⟨⟨_, Tryz.underlying50, rfl⟩, by kernel_rfl⟩
theorem one_51 : OneTy Tryz.prog 51 := ⟨⟨_, Tryz.underlying51, rfl⟩, by kernel_rfl⟩
theorem one_66 : OneTy Tryz.prog 66 := ⟨⟨_, Tryz.underlying66, rfl⟩, by kernel_rfl⟩
theorem one_9 : OneTy Tryz.prog 9 := ⟨⟨_, Tryz.underlying9, rfl⟩, by kernel_rfl⟩
theorem row_122 : RowTy Tryz.prog 122 7 := ⟨⟨_, Tryz.underlying122, rfl⟩, by kernel_rfl⟩
theorem row_126 : RowTy Tryz.prog 126 8 := ⟨⟨_, Tryz.underlying126, rfl⟩, by kernel_rfl⟩
theorem row_129 : RowTy Tryz.prog 129 2 := ⟨⟨_, Tryz.underlying129, rfl⟩, by kernel_rfl⟩
theorem row_165 : RowTy Tryz.prog 165 4 := ⟨⟨_, Tryz.underlying165, rfl⟩, by kernel_rfl⟩
theorem row_55 : RowTy Tryz.prog 55 29 := ⟨⟨_, Tryz.underlying55, rfl⟩, by kernel_rfl⟩
theorem row_70 : RowTy Tryz.prog 70 10 := ⟨⟨_, Tryz.underlying70, rfl⟩, by kernel_rfl⟩
theorem slt_22 : SliceTy Tryz.prog 22 90 3 := ⟨Tryz.underlying22, by kernel_rfl⟩
theorem slt_220 : SliceTy Tryz.prog 220 3 1 := ⟨Tryz.underlying220, by kernel_rfl⟩
theorem slt_25 : SliceTy Tryz.prog 25 122 7 := ⟨Tryz.underlying25, by kernel_rfl⟩
theorem slt_29 : SliceTy Tryz.prog 29 59 4 := ⟨Tryz.underlying29, by kernel_rfl⟩
theorem slt_50 : SliceTy Tryz.prog 50 70 10 := ⟨Tryz.underlying50, by kernel_rfl⟩
theorem slt_52 : SliceTy Tryz.prog 52 126 8 := ⟨Tryz.underlying52, by kernel_rfl⟩
theorem slt_53 : SliceTy Tryz.prog 53 129 2 := ⟨Tryz.underlying53, by kernel_rfl⟩
theorem slt_66 : SliceTy Tryz.prog 66 165 4 := ⟨Tryz.underlying66, by kernel_rfl⟩
theorem zero_122 : ZeroOf Tryz.prog 122 [.int .i64 0, .int .i64 0, .bool false, .int .i64 0, .int .i64 0, .int .i64 0, .int .i64 0] := ZeroOf.mk (by kernel_rfl)
theorem zero_126 : ZeroOf Tryz.prog 126 [.int .i64 0, .int .i64 0, .string ByteArray.empty, .string ByteArray.empty, .int .i64 0, .int .i64 0, .int .i64 0, .int .i64 0] := ZeroOf.mk (by kernel_rfl)
theorem zero_129 : ZeroOf Tryz.prog 129 [.int .i64 0, .int .i64 0] := ZeroOf.mk (by kernel_rfl)
theorem zero_165 : ZeroOf Tryz.prog 165 [.int .i64 0, .int .i64 0, .int .i64 0, .int .i64 0] := ZeroOf.mk (by kernel_rfl)
theorem zero_294 : ZeroOf Tryz.prog 294 [.bool false, .bool false, .bool false, .bool false, .bool false, .bool false, .bool false, .bool false] := ZeroOf.mk (by kernel_rfl)
theorem zero_34 : ZeroOf Tryz.prog 34 [.int .i64 0, .string ByteArray.empty, .string ByteArray.empty, .int .i64 0, .int .i64 0, .int .i64 0] := ZeroOf.mk (by kernel_rfl)
theorem zero_59 : ZeroOf Tryz.prog 59 [.int .i64 0, .string ByteArray.empty, .int .i64 0, .int .i64 0] := ZeroOf.mk (by kernel_rfl)
theorem zero_70 : ZeroOf Tryz.prog 70 [.string ByteArray.empty, .int .i64 0, .int .i64 0, .int .i64 0, .int .i64 0, .slice none 0 0, .int .i64 0, .int .i64 0, .int .i64 0, .int .i64 0] := ZeroOf.mk (by kernel_rfl)
theorem zero_90 : ZeroOf Tryz.prog 90 [.int .i64 0, .string ByteArray.empty, .int .i64 0] := ZeroOf.mk (by kernel_rfl)
end Go.Proofs.YtmpoffijcfaalaaGreat
namespace Go.Proofs.YtmpoffijcfaalaaGreat.Ep
open Go.Eng
theorem app_22 : AppTy Tryz.prog 22 90 3 32 := AppTy.mk Tryz.underlying22 (by kernel_rfl) (by decide)
theorem ok_71 : FnOk Pg 71 := ⟨⟨_, Tryz.func71, by kernel_rfl, rfl⟩⟩
theorem one_22 : OneTy Tryz.prog 22 := ⟨⟨_, Tryz.underlying22, rfl⟩, by kernel_rfl⟩
theorem zero_22 : ZeroOf Tryz.prog 22 [.slice none 0 0] := ZeroOf.mk (by kernel_rfl)
end Go.Proofs.YtmpoffijcfaalaaGreat.Ep
namespace Go.Proofs.YtmpoffijcfaalaaGreat
open Go.Eng Go.YtmpoffijcfaalaaGreat
section
variable (c q : Int) (k : ByteArray) (n g : Int) (lo hi key : ByteArray)
theorem sgroup_c (h_g : InI g) : FnV Pg 169 [.int .i64 g] [] (.bool (okGroup g)) := by
 refine Fnc.proof Tryz.func169 G 9 G G fun X w => ?_
 obtain ⟨h_g1, h_g2⟩ := id h_g
 exact sa 1 G<|qg<|ru 3 G<|ja 5 3 [] [] G G G<|ru 1 G<|nl<|nx<|rt<|fR1 () G G (by rfl) G Sn
theorem rgroup_c (h_g : InI g) : FnV Pg 243 [.int .i64 g] [] (.bool (okGroup g)) := by
 refine Fnc.proof Tryz.func243 G 9 G G fun X w => ?_
 obtain ⟨h_g1, h_g2⟩ := id h_g
 exact sa 1 G<|qg<|ru 3 G<|ja 5 3 [] [] G G G<|ru 1 G<|nl<|nx<|rt<|fR1 () G G (by rfl) G Sn
theorem lgroup_c (h_g : InI g) : FnV Pg 98 [.int .i64 g] [] (.bool (okGroup g)) := by
 refine Fnc.proof Tryz.func98 G 9 G G fun X w => ?_
 obtain ⟨h_g1, h_g2⟩ := id h_g
 exact sa 1 G<|qg<|ru 3 G<|ja 5 3 [] [] G G G<|ru 1 G<|nl<|nx<|rt<|fR1 () G G (by rfl) G Sn
theorem group19_c (h_g : InI g) : FnV Pg 132 [.int .i64 g] [] (.bool (okGroup g)) := by
 refine Fnc.proof Tryz.func132 G 9 G G fun X w => ?_
 obtain ⟨h_g1, h_g2⟩ := id h_g
 exact sa 1 G<|qg<|ru 3 G<|ja 5 3 [] [] G G G<|ru 1 G<|nl<|nx<|rt<|fR1 () G G (by rfl) G Sn
theorem group16_c (h_g : InI g) : FnV Pg 102 [.int .i64 g] [] (.bool (okGroup g)) := by
 refine Fnc.proof Tryz.func102 G 9 G G fun X w => ?_
 obtain ⟨h_g1, h_g2⟩ := id h_g
 exact sa 1 G<|qg<|ru 3 G<|ja 5 3 [] [] G G G<|ru 1 G<|nl<|nx<|rt<|fR1 () G G (by rfl) G Sn
theorem number19_c (h_n : InI n) : FnV Pg 133 [.int .i64 n] [] (.bool (okNum n)) := by
 refine Fnc.proof Tryz.func133 G 9 G G fun X w => ?_
 obtain ⟨h_n1, h_n2⟩ := id h_n
 exact sa 1 G<|qg<|ru 3 G<|ja 5 3 [] [] G G G<|ru 1 G<|nl<|nx<|rt<|fR1 () G G (by rfl) G Sn
theorem number20_c (h_n : InI n) : FnV Pg 126 [.int .i64 n] [] (.bool (okNum n)) := by
 refine Fnc.proof Tryz.func126 G 9 G G fun X w => ?_
 obtain ⟨h_n1, h_n2⟩ := id h_n
 exact sa 1 G<|qg<|ru 3 G<|ja 5 3 [] [] G G G<|ru 1 G<|nl<|nx<|rt<|fR1 () G G (by rfl) G Sn
theorem client14_c (h_n : InI n) : FnV Pg 37 [.int .i64 n] [] (.bool (okClient n)) := by
 refine Fnc.proof Tryz.func37 G 9 G G fun X w => ?_
 obtain ⟨h_n1, h_n2⟩ := id h_n
 exact sa 1 G<|qg<|ru 3 G<|ja 5 3 [] [] G G G<|ru 1 G<|nl<|nx<|rt<|fR1 () G G (by rfl) G Sn
theorem seq14_c (h_n : InI n) : FnV Pg 38 [.int .i64 n] [] (.bool (okSeq n)) := by
 refine Fnc.proof Tryz.func38 G 9 G G fun X w => ?_
 obtain ⟨h_n1, h_n2⟩ := id h_n
 exact sa 1 G<|qg<|ru 3 G<|ja 5 3 [] [] G G G<|ru 1 G<|nl<|nx<|rt<|fR1 () G G (by rfl) G Sn
theorem key15_c : FnV Pg 168 [.string k] [] (.bool (okKey k)) := by
 refine Fnc.proof Tryz.func168 G 11 G G fun X w => sa 1 G<|qg<|mv G G<|lnS G Tryz.underlying9 G<|ru 2 G ?_
 refine jy 6 4 [] G G (fun h6 K10 => by
  have p6 := of_decide_eq_true h6
  exact ru 1 G<|gY G G G<|lnS G Tryz.underlying9 G<|ru 2 G<|K10 G Sr) ?_
 exact ru 1 G<|nl<|nx<|rt<|fR1 () G G (by rfl) G Sn
theorem dkeyed_c : FnV Pg 90 [.string k] [] (.bool (okKey k)) := by
 refine Fnc.proof Tryz.func90 G 11 G G fun X w => sa 1 G<|qg<|mv G G<|lnS G Tryz.underlying9 G<|ru 2 G ?_
 refine jy 6 4 [] G G (fun h6 K10 => by
  have p6 := of_decide_eq_true h6
  exact ru 1 G<|gY G G G<|lnS G Tryz.underlying9 G<|ru 2 G<|K10 G Sr) ?_
 exact ru 1 G<|nl<|nx<|rt<|fR1 () G G (by rfl) G Sn
theorem skeyed_c : FnV Pg 241 [.string k] [] (.bool (okKey k)) := by
 refine Fnc.proof Tryz.func241 G 11 G G fun X w => sa 1 G<|qg<|mv G G<|lnS G Tryz.underlying9 G<|ru 2 G ?_
 refine jy 6 4 [] G G (fun h6 K10 => by
  have p6 := of_decide_eq_true h6
  exact ru 1 G<|gY G G G<|lnS G Tryz.underlying9 G<|ru 2 G<|K10 G Sr) ?_
 exact ru 1 G<|nl<|nx<|rt<|fR1 () G G (by rfl) G Sn
theorem swhose_c (h_c : InI c) (h_q : InI q) : FnV Pg 240 [.int .i64 c, .int .i64 q] [] (.bool (okWhose c q)) := by
 refine Fnc.proof Tryz.func240 G 19 G G fun X w => ?_
 obtain ⟨h_c1, h_c2⟩ := id h_c
 obtain ⟨h_q1, h_q2⟩ := id h_q
 exact sa 1 G<|qg<|ru 3 G<|ja 7 3 [] [1] G G G<|mv G G<|ja 11 3 [] [1] G G G<|mv G G<|ja 15 3 [] [] G G G<|ru 1 G<|nl<|nx<|rt<|fR1 () G G (by rfl) G Sn
theorem dwhose_c (h_c : InI c) (h_q : InI q) : FnV Pg 239 [.int .i64 c, .int .i64 q] [] (.bool (okWhose c q)) := by
 refine Fnc.proof Tryz.func239 G 19 G G fun X w => ?_
 obtain ⟨h_c1, h_c2⟩ := id h_c
 obtain ⟨h_q1, h_q2⟩ := id h_q
 exact sa 1 G<|qg<|ru 3 G<|ja 7 3 [] [1] G G G<|mv G G<|ja 11 3 [] [1] G G G<|mv G G<|ja 15 3 [] [] G G G<|ru 1 G<|nl<|nx<|rt<|fR1 () G G (by rfl) G Sn
theorem pwhose_c (h_c : InI c) (h_q : InI q) : FnV Pg 190 [.int .i64 c, .int .i64 q] [] (.bool (okWhose c q)) := by
 refine Fnc.proof Tryz.func190 G 19 G G fun X w => ?_
 obtain ⟨h_c1, h_c2⟩ := id h_c
 obtain ⟨h_q1, h_q2⟩ := id h_q
 exact sa 1 G<|qg<|ru 3 G<|ja 7 3 [] [1] G G G<|mv G G<|ja 11 3 [] [1] G G G<|mv G G<|ja 15 3 [] [] G G G<|ru 1 G<|nl<|nx<|rt<|fR1 () G G (by rfl) G Sn
theorem within_c : FnV Pg 80 [.string lo, .string hi, .string key] [] (.bool (within lo hi key)) := by
 refine Fnc.proof Tryz.func80 G 19 G G fun X w => sa 1 G<|qg<|ru 2 G<|leS G G G<|mv G G ?_
 refine jy 10 8 [] G G (fun h10 K18 => by
  refine ru 3 G ?_
  refine jz 13 4 [10] G G (fun h13 K17 => by
   have p13 := of_decide_eq_false h13
   exact ru 2 G<|gY G G G<|ltS G G G<|ru 1 G<|K17 G Sr) ?_
  exact ru 1 G<|K18 G Sr) ?_
 exact ru 1 G<|nl<|nx<|rt<|fR1 () G G (by rfl) G Sn
theorem within17_c : FnV Pg 82 [.string lo, .string hi, .string key] [] (.bool (within lo hi key)) := by
 refine Fnc.proof Tryz.func82 G 19 G G fun X w => sa 1 G<|qg<|ru 2 G<|geS G G G<|mv G G ?_
 refine jy 10 8 [] G G (fun h10 K18 => by
  refine ru 3 G ?_
  refine jz 13 4 [10] G G (fun h13 K17 => by
   have p13 := of_decide_eq_false h13
   exact ru 2 G<|gY G G G<|ltS G G G<|ru 1 G<|K17 G Sr) ?_
  exact ru 1 G<|K18 G Sr) ?_
 exact ru 1 G<|nl<|nx<|rt<|fR1 () G G (by first | rfl | (simp only [within, le_ge, Bool.not_not]; rfl) | (simp only [within, le_ge, Bool.not_not])) G Sn
theorem spans_c : FnV Pg 237 [.string lo, .string hi] [] (.bool (spansP lo hi)) := by
 refine Fnc.proof Tryz.func237 G 22 G G fun X w => sa 1 G<|qg<|mv G G<|lnS G Tryz.underlying9 G<|ru 2 G ?_
 refine jy 8 4 [0,1] G G (fun h8 K12 => by
  have p8 := of_decide_eq_true h8
  exact ru 1 G<|gY G G G<|lnS G Tryz.underlying9 G<|ru 2 G<|K12 G Sr) ?_
 refine mv G G ?_
 refine jy 13 8 [] G G (fun h13 K21 => by
  refine ru 3 G ?_
  refine jz 16 4 [13] G G (fun h16 K20 => by
   have p16 := of_decide_eq_false h16
   exact ru 2 G<|gY G G G<|gtS G G G<|ru 1 G<|K20 G Sr) ?_
  exact ru 1 G<|K21 G Sr) ?_
 exact ru 1 G<|nl<|nx<|rt<|fR1 () G G (by first | rfl | (simp only [spansP, le_ge, Bool.not_not]; rfl) | (simp only [spansP, le_ge, Bool.not_not])) G Sn
theorem span19_c : FnV Pg 134 [.string lo, .string hi] [] (.bool (spansP lo hi)) := by
 refine Fnc.proof Tryz.func134 G 22 G G fun X w => sa 1 G<|qg<|mv G G<|lnS G Tryz.underlying9 G<|ru 2 G ?_
 refine jy 8 4 [0,1] G G (fun h8 K12 => by
  have p8 := of_decide_eq_true h8
  exact ru 1 G<|gY G G G<|lnS G Tryz.underlying9 G<|ru 2 G<|K12 G Sr) ?_
 refine mv G G ?_
 refine jy 13 8 [] G G (fun h13 K21 => by
  refine ru 3 G ?_
  refine jz 16 4 [13] G G (fun h16 K20 => by
   have p16 := of_decide_eq_false h16
   exact ru 2 G<|gY G G G<|ltS G G G<|ru 1 G<|K20 G Sr) ?_
  exact ru 1 G<|K21 G Sr) ?_
 exact ru 1 G<|nl<|nx<|rt<|fR1 () G G (by first | rfl | (simp only [spansP, le_ge, Bool.not_not]; rfl) | (simp only [spansP, le_ge, Bool.not_not])) G Sn
end
section
variable (r : TRight) (m t : Int) (p : TPlan) (v_l : Value) (l : List TPlace) (i : Int) (s : TState) (s_0 s_1 s_2 s_3 s_4 s_5 : Value) (key : ByteArray)
theorem has_c (s : TSpan) (v : Int) (h_s : s.wf) (h_v : InI v) : FnV Pg 165 [.agg (cSpan s).toArray, .int .i64 v] [] (.bool (hasP s v)) := by
 refine Fnc.proof Tryz.func165 G 15 G G fun X w => ?_
 obtain ⟨h_v1, h_v2⟩ := id h_v
 exact qg<|bx G G G fun b2 => ru 1 G<|nl<|nx<|qg<|rl 5 [0] G G<|ja 9 5 [0] [] G G G<|ru 1 G<|nl<|nx<|rt<|dpQ<|fR1 () G G (by rfl) G Sn
theorem has01_c (s : TSpan) (v : Int) (h_s : s.wf) (h_v : InI v) : FnV Pg 153 [.agg (cSpan s).toArray, .int .i64 v] [] (.bool (hasP s v)) := by
 refine Fnc.proof Tryz.func153 G 15 G G fun X w => ?_
 obtain ⟨h_v1, h_v2⟩ := id h_v
 exact qg<|bx G G G fun b2 => ru 1 G<|nl<|nx<|qg<|rl 5 [0] G G<|ja 9 5 [0] [] G G G<|ru 1 G<|nl<|nx<|rt<|dpQ<|fR1 () G G (by rfl) G Sn
theorem owns_c (h_s : s.wf) : FnV Pg 78 [.agg (cState s s_0 s_1 s_2 s_3 s_4 s_5).toArray, .string key] [⟨s_0, s.fAccounts⟩, ⟨s_1, s.fMarks⟩, ⟨s_2, s.fWaits⟩, ⟨s_3, s.fDeals⟩, ⟨s_4, s.fEnds⟩, ⟨s_5, s.fImage⟩] (.bool (ownsP s key)) := by
 exact Fnc.proof Tryz.func78 G 15 G G fun X w => qg<|bx G G G fun b2 => ru 1 G<|nl<|nx<|qg<|rl 3 [0] G G<|jy 7 7 [] G G (fun h7 K14 => rl 5 [0,0] G G<|gY G G G<|cfv (within_c _ _ _) ok_80 G Sn G<|ru 1 G<|K14 G Sr)<|ru 1 G<|nl<|nx<|rt<|dpQ<|fR1 () G G (by rfl) G Sn
theorem owns19_c (h_s : s.wf) : FnV Pg 81 [.agg (cState s s_0 s_1 s_2 s_3 s_4 s_5).toArray, .string key] [⟨s_0, s.fAccounts⟩, ⟨s_1, s.fMarks⟩, ⟨s_2, s.fWaits⟩, ⟨s_3, s.fDeals⟩, ⟨s_4, s.fEnds⟩, ⟨s_5, s.fImage⟩] (.bool (ownsP s key)) := by
 exact Fnc.proof Tryz.func81 G 15 G G fun X w => qg<|bx G G G fun b2 => ru 1 G<|nl<|nx<|qg<|rl 3 [0] G G<|jy 7 7 [] G G (fun h7 K14 => rl 5 [0,0] G G<|gY G G G<|cfv (within17_c _ _ _) ok_82 G Sn G<|ru 1 G<|K14 G Sr)<|ru 1 G<|nl<|nx<|rt<|dpQ<|fR1 () G G (by rfl) G Sn
theorem sealed_c (h_s : s.wf) : FnV Pg 242 [.agg (cState s s_0 s_1 s_2 s_3 s_4 s_5).toArray, .string key] [⟨s_0, s.fAccounts⟩, ⟨s_1, s.fMarks⟩, ⟨s_2, s.fWaits⟩, ⟨s_3, s.fDeals⟩, ⟨s_4, s.fEnds⟩, ⟨s_5, s.fImage⟩] (.bool (sealedP s key)) := by
 refine Fnc.proof Tryz.func242 G 19 G G fun X w => qg<|bx G G G fun b2 => ru 1 G<|nl<|nx<|qg<|rl 5 [0] G G ?_
 refine jy 9 9 [] G G (fun h9 K18 => by
  have p9 := h9
  simp only [Bool.not_eq_true', Bool.not_eq_false', decide_eq_true_eq, decide_eq_false_iff_not] at p9
  exact rl 7 [0,0] G G<|gY G G G<|cfv (within_c _ _ _) ok_80 G Sn G<|ru 1 G<|K18 G Sr) ?_
 exact ru 1 G<|nl<|nx<|rt<|dpQ<|fR1 () G G (by rfl) G Sn
theorem sealed19_c (h_s : s.wf) : FnV Pg 196 [.agg (cState s s_0 s_1 s_2 s_3 s_4 s_5).toArray, .string key] [⟨s_0, s.fAccounts⟩, ⟨s_1, s.fMarks⟩, ⟨s_2, s.fWaits⟩, ⟨s_3, s.fDeals⟩, ⟨s_4, s.fEnds⟩, ⟨s_5, s.fImage⟩] (.bool (sealedP s key)) := by
 refine Fnc.proof Tryz.func196 G 19 G G fun X w => qg<|bx G G G fun b2 => ru 1 G<|nl<|nx<|qg<|rl 5 [0] G G ?_
 refine jy 9 9 [] G G (fun h9 K18 => by
  have p9 := h9
  simp only [Bool.not_eq_true', Bool.not_eq_false', decide_eq_true_eq, decide_eq_false_iff_not] at p9
  exact rl 7 [0,0] G G<|gY G G G<|cfv (within17_c _ _ _) ok_82 G Sn G<|ru 1 G<|K18 G Sr) ?_
 exact ru 1 G<|nl<|nx<|rt<|dpQ<|fR1 () G G (by rfl) G Sn
theorem planned_c (h_p : p.wf) : FnV Pg 186 [.agg (cPlan p).toArray] [] (.bool (plannedP p)) := by
 exact Fnc.proof Tryz.func186 G 35 G G fun X w => qg<|bx G G G fun b1 => ru 1 G<|nl<|nx<|qg<|rl 4 [0] G G<|ja 6 4 [0] [1] G G G<|mv G G<|jy 11 4 [1] G G (fun h11 K15 => rl 2 [0] G G<|gY G G G<|cfv (sgroup_c _ h_p.2.1) ok_169 G Sn G<|ru 1 G<|K15 G Sr)<|mv G G<|jy 16 4 [1] G G (fun h16 K20 => rl 2 [0] G G<|gY G G G<|cfv (sgroup_c _ h_p.2.2.1) ok_169 G Sn G<|ru 1 G<|K20 G Sr)<|mv G G<|ja 21 6 [0,0] [1] G G G<|mv G G<|jy 28 6 [] G G (fun h28 K34 => rl 4 [0,0] G G<|gY G G G<|cfv (spans_c _ _) ok_237 G Sn G<|ru 1 G<|K34 G Sr)<|ru 1 G<|nl<|nx<|rt<|dpQ<|fR1 () G G (by rfl) G Sn
theorem plan19_c (h_p : p.wf) : FnV Pg 139 [.agg (cPlan p).toArray] [] (.bool (plan19 p)) := by
 exact Fnc.proof Tryz.func139 G 35 G G fun X w => qg<|bx G G G fun b1 => ru 1 G<|nl<|nx<|qg<|rl 2 [0] G G<|cfv (number19_c _ h_p.1) ok_133 G Sn G<|mv G G<|ja 6 4 [0] [1] G G G<|mv G G<|jy 11 4 [1] G G (fun h11 K15 => rl 2 [0] G G<|gY G G G<|cfv (group19_c _ h_p.2.1) ok_132 G Sn G<|ru 1 G<|K15 G Sr)<|mv G G<|jy 16 4 [1] G G (fun h16 K20 => rl 2 [0] G G<|gY G G G<|cfv (group19_c _ h_p.2.2.1) ok_132 G Sn G<|ru 1 G<|K20 G Sr)<|mv G G<|ja 21 6 [0,0] [1] G G G<|mv G G<|jy 28 6 [] G G (fun h28 K34 => rl 4 [0,0] G G<|gY G G G<|cfv (span19_c _ _) ok_134 G Sn G<|ru 1 G<|K34 G Sr)<|ru 1 G<|nl<|nx<|rt<|dpQ<|fR1 () G G (by rfl) G Sn
theorem keeper_c (l : TLock) (h_l : l.wf) : FnV Pg 225 [.agg (cLock l).toArray] [] (.bool (keeperP l)) := by
 exact Fnc.proof Tryz.func225 G 21 G G fun X w => qg<|bx G G G fun b1 => ru 1 G<|nl<|nx<|qg<|rl 4 [0] G G<|ja 6 4 [0] [1] G G G<|mv G G<|ja 11 4 [0] [1] G G G<|mv G G<|ja 16 4 [0] [] G G G<|ru 1 G<|nl<|nx<|rt<|dpQ<|fR1 () G G (by rfl) G Sn
theorem locked_c (a : TAccount) (a_0 : Value) (h_a : a.wf) : FnV Pg 167 [.agg (cAccount a a_0).toArray] [⟨a_0, a.fHolders⟩] (.bool (lockedP a)) := by
 exact Fnc.proof Tryz.func167 G 7 G G fun X w => qg<|bx G G G fun b1 => ru 1 G<|nl<|nx<|sb 5 [0] G G<|rt<|dpQ<|fR1 () G G (by rfl) G Sn
theorem fate_c (h_m : InI m) (h_t : InI t) : FnV Pg 284 [.int .i64 m, .int .i64 t] [] (.int .i64 (fateP m t)) := by
 refine Fnc.proof Tryz.func284 G 19 G G fun X w => ?_
 obtain ⟨h_m1, h_m2⟩ := id h_m
 obtain ⟨h_t1, h_t2⟩ := id h_t
 refine sa 1 G<|sq<|bk<|qg<|ru 3 G<|jb 8 3 [] [0,1] G G G<|ru 1 G<|nl<|nx<|cdB G (fun h5 => ?_) (fun h5 => ?_)
 · exact sa 1 G<|rt<|bR<|tR<|fR1 () G G (by simp_all [fateP]) G Sn
 ·
  refine qg<|ru 3 G<|ja 15 3 [] [] G G G<|ru 1 G<|nl<|nx<|cdB G (fun h12 => ?_) (fun h12 => ?_)
  · exact sa 1 G<|rt<|bR<|tR<|fR1 () G G (by simp_all [fateP]) G Sn
  · exact sk<|bN<|nx<|sa 1 G<|rt<|fR1 () G G (by simp_all [fateP]) G Sn
theorem fate18_c (h_m : InI m) (h_t : InI t) : FnV Pg 246 [.int .i64 m, .int .i64 t] [] (.int .i64 (fate18 m t)) := by
 refine Fnc.proof Tryz.func246 G 19 G G fun X w => ?_
 obtain ⟨h_m1, h_m2⟩ := id h_m
 obtain ⟨h_t1, h_t2⟩ := id h_t
 refine sa 1 G<|sq<|bk<|qg<|ru 3 G<|ja 8 3 [] [0,1] G G G<|ru 1 G<|nl<|nx<|cdB G (fun h5 => ?_) (fun h5 => ?_)
 · exact sa 1 G<|rt<|bR<|tR<|fR1 () G G (by simp_all [fate18]) G Sn
 ·
  refine qg<|ru 3 G<|jb 15 3 [] [] G G G<|ru 1 G<|nl<|nx<|cdB G (fun h12 => ?_) (fun h12 => ?_)
  · exact sa 1 G<|rt<|bR<|tR<|fR1 () G G (by simp_all [fate18]) G Sn
  · exact sk<|bN<|nx<|sa 1 G<|rt<|fR1 () G G (by simp_all [fate18]) G Sn
theorem lmay_c (h_r : r.wf) : FnV Pg 124 [.agg (cRight r).toArray] [] (.bool (lmayP r)) := by
 exact Fnc.proof Tryz.func124 G 23 G G fun X w => qg<|bx G G G fun b1 => ru 1 G<|nl<|nx<|qg<|rl 2 [0] G G<|cfv (lgroup_c _ h_r.1) ok_98 G Sn G<|mv G G<|jy 6 5 [1] G G (fun h6 K11 => rl 2 [0] G G<|gY G G G<|lnS G Tryz.underlying9 G<|ru 2 G<|K11 G Sr)<|mv G G<|jy 12 5 [1] G G (fun h12 K17 => rl 2 [0] G G<|gY G G G<|lnS G Tryz.underlying9 G<|ru 2 G<|K17 G Sr)<|mv G G<|ja 18 4 [0] [] G G G<|ru 1 G<|nl<|nx<|rt<|dpQ<|fR1 () G G (by rfl) G Sn
theorem lmay16_c (h_r : r.wf) : FnV Pg 130 [.agg (cRight r).toArray] [] (.bool (lmay16 r)) := by
 exact Fnc.proof Tryz.func130 G 16 G G fun X w => qg<|bx G G G fun b1 => ru 1 G<|nl<|nx<|qg<|rl 2 [0] G G<|cfv (group16_c _ h_r.1) ok_102 G Sn G<|mv G G<|jy 6 4 [1] G G (fun h6 K10 => rl 2 [0] G G<|gY G G G<|cfv (key15_c _) ok_168 G Sn G<|ru 1 G<|K10 G Sr)<|mv G G<|ja 11 4 [0] [] G G G<|ru 1 G<|nl<|nx<|rt<|dpQ<|fR1 () G G (by rfl) G Sn
theorem end_c (h_i : InI i) : FnV Pg 245 [v_l, .int .i64 i] [⟨v_l, l⟩] (.string (endP l i)) := by
 refine Fnc.proof Tryz.func245 G 20 G G fun X w => ?_
 obtain ⟨h_i1, h_i2⟩ := id h_i
 refine gtC (q := l.length ≤ 9223372036854775807) (fun S w h => list_len (h _ (List.mem_of_getElem? (i := 0) G))) fun hlen => sa 1 G<|sq<|qg<|ru 3 G ?_
 refine jz 7 6 [0,1] G G (fun h7 K13 => by
  have p7 := of_decide_eq_false h7
  exact ru 2 G<|gY G G G<|lnP 0 G G Tryz.underlying22 G fun l10 => gY G G G<|sbI G G (inI (by omega) (by omega)) G<|ru 2 G<|K13 G Sr) ?_
 refine nl<|nx<|cdB G (fun h13 => ?_) (fun h13 => ?_)
 · exact sa 1 G<|rt<|tR<|fR1 () G G (by rw [endP, if_pos h13]; try rfl) G Sn
 ·
  have q13 := h13
  simp at q13
  exact sk<|nx<|qg<|ru 2 G<|adI G G (inI (by omega) (by omega)) G<|ixP 0 G G G slt_22 (by omega) (gE (by omega)) G fun v17 => faP (α := TPlace) (β := ByteArray) 0 (fun x : TPlace => x.fFrom) G G (Fg G) pPlace_1 G fun v18 => ldV 0 G G (Og G) G fun w19 => ru 1 G<|nl<|nx<|rt<|fR1 () G G (by rw [endP, if_neg (by rw [h13]; decide)]; try rfl) G Sn
theorem end17_c (h_i : InI i) : FnV Pg 92 [v_l, .int .i64 i] [⟨v_l, l⟩] (.string (endP l i)) := by
 refine Fnc.proof Tryz.func92 G 20 G G fun X w => ?_
 obtain ⟨h_i1, h_i2⟩ := id h_i
 refine gtC (q := l.length ≤ 9223372036854775807) (fun S w h => list_len (h _ (List.mem_of_getElem? (i := 0) G))) fun hlen => sa 1 G<|sq<|qg<|ru 3 G ?_
 refine jz 7 6 [0,1] G G (fun h7 K13 => by
  have p7 := of_decide_eq_false h7
  exact ru 2 G<|gY G G G<|lnP 0 G G Tryz.underlying22 G fun l10 => gY G G G<|sbI G G (inI (by omega) (by omega)) G<|ru 2 G<|K13 G Sr) ?_
 refine nl<|nx<|cdB G (fun h13 => ?_) (fun h13 => ?_)
 · exact sa 1 G<|rt<|tR<|fR1 () G G (by rw [endP, if_pos h13]; try rfl) G Sn
 ·
  have q13 := h13
  simp at q13
  exact sk<|nx<|qg<|ru 2 G<|adI G G (inI (by omega) (by omega)) G<|ixP 0 G G G slt_22 (by omega) (gE (by omega)) G fun v17 => faP (α := TPlace) (β := ByteArray) 0 (fun x : TPlace => x.fFrom) G G (Fg G) pPlace_1 G fun v18 => ldV 0 G G (Og G) G fun w19 => ru 1 G<|nl<|nx<|rt<|fR1 () G G (by rw [endP, if_neg (by rw [h13]; decide)]; try rfl) G Sn
end
end Go.Proofs.YtmpoffijcfaalaaGreat
namespace Go.Proofs.YtmpoffijcfaalaaGreat.Ep
open Go.Eng Go.YtmpoffijcfaalaaGreat
theorem clonePl_c (sv : Value) (l : List TPlace) (hlen : l.length ≤ 7) : Fnc Pg 71 [sv] [] [⟨sv, l⟩] (fun (_ : Unit) _ => True) (fun _ _ => []) (fun _ v => [⟨v, l⟩]) := by
 refine Fnc.proof Tryz.func71 G 8 G G fun X w => sa 1 G<|sq<|qg<|mv G G<|eqN 0 Tryz.underlying22 G G G G fun q4 n4 => nl<|nx<|cdB G (fun h4 => ?_) (fun h4 => ?_)
 ·
  have hx : l = [] := n4 h4
  subst hx
  exact emC (α := TPlace)<|sa 1 G<|rt<|tR<|fR1 () G G trivial G (Sc 0 G Sn)
 · exact sk<|nx<|qg<|bs0 app_22 G fun b5 => rwB (α := TPlace) [] [] G G (fun _ _ _ => trivial) G<|mv G G<|ap 0 0 G G G G app_22 (by simp only [List.length_nil]; omega) (by simp only [List.length_nil]; omega) G fun v7 => ru 1 G<|nl<|nx<|rt<|frRQ<|fR1 () G G trivial G (Sc 0 G Sn)
theorem all_c (sv : Value) (l : List TPlace) (hlen : l.length ≤ 7) : Fnc Pg 231 [sv] [] [⟨sv, l⟩] (fun (y : Nat × Value) v => v = .func (.func 280) #[] #[.pointer (some ⟨y.1, 0, none⟩)]) (fun y _ => [bl y.1 22 [y.2]]) (fun y _ => [⟨y.2, l⟩]) := by
 exact Fnc.proof Tryz.func231 G 7 G G fun X w => sa 1 G<|qg<|mv G G<|cf (clonePl_c sv l hlen) ok_71 G (Sc 0 G Sn) G fun _ v5 _ => al zero_22 G fun b3 => stL 0 0 G G G G (Og G) (nlt G)<|nl<|nx<|qg<|mf (xs := [.tmp 3]) G G<|ru 1 G<|nl<|nx<|rt<|fR1 (b3, v5) G G G G (Sc 0 G Sn)
end Go.Proofs.YtmpoffijcfaalaaGreat.Ep
namespace Go.Proofs.YtmpoffijcfaalaaGreat.Ep
open Go.Eng Go.YtmpoffijcfaalaaGreat Go.RowKit
theorem ok_245 : FnOk Pg 245 := ⟨⟨_, Tryz.func245, by kernel_rfl, rfl⟩⟩
def item (l : List TPlace) (j : Nat) : ByteArray × TPlace := (endP l j, l.getD j default)
def upto (l : List TPlace) (k : Nat) : List (ByteArray × TPlace) := (List.range k).map (item l)
theorem upto_succ (l : List TPlace) (k : Nat) : upto l (k + 1) = upto l k ++ [item l k] := by simp [upto, List.range_succ]
theorem upto_len (l : List TPlace) (k : Nat) : (upto l k).length = k := by simp [upto]
def encs (x : ByteArray × TPlace) : Array Value := #[.string x.1, .agg (cPlace x.2).toArray]
theorem stp_own {b : Nat} {w w' : World} (h : Stp [b] w w') (hb : w'.heap[b]? = w.heap[b]?) : Stp [] w w' := ⟨h.os, h.tape, h.output, h.size, fun k hk _ => by
 by_cases e : k = b
 ·
  subst e; exact hb
 · exact h.block k hk (by simpa using e)⟩
theorem bl_at {b : Nat} {cs : List Value} {T : TypeId} {w w0 : World} {L : Go.Eng.Own} {M : List Nat} (i : Nat) (hi : L[i]? = some (bl b T cs)) (st : St w0 M w L) : w.heap[b]? = some (.cells cs.toArray T (0, 0)) := st.own _ (List.mem_of_getElem? hi)
theorem start_st {b1 : Nat} {k5 : Value} {w : World} (box : w.heap[b1]? = some (.cells #[k5] 22 (0, 0))) : St w [b1] w [bl b1 22 [k5]] := ⟨Stp.refl _ _, fun p hp => by
 have : p = bl b1 22 [k5] := by simpa using hp
 subst this
 exact box, by simp [Own.bs, bsOf], fun b hb => .inl (by simpa [Own.bs, bsOf] using hb)⟩
theorem start_dh {b1 b3 n₀ : Nat} {k5 : Value} {w : World} {l : List TPlace} (hl : Atom.holds ⟨k5, l⟩ (fun b => b < n₀ ∧ b ≠ b1 ∧ b ≠ b3) w) (hn : n₀ ≤ w.heap.size) : DH [⟨k5, l⟩] w [bl b1 22 [k5]] := fun t ht => by
 have : t = ⟨k5, l⟩ := by simpa using ht
 subst this
 exact Atom.keep hl (fun b h => ⟨Nat.lt_of_lt_of_le h.1 hn, by simpa [Own.bs, bsOf] using h.2.1⟩) (fun _ _ => G)
theorem iter (n ll : Nat) (J Jx : List (ByteArray × TPlace) → World → Prop) (W : World) (b1 b3 n₀ : Nat) (k5 : Value) (l : List TPlace) (hb1 : b1 < n₀) (hne : b1 ≠ b3) (hn0 : n₀ ≤ W.heap.size)
  (box : W.heap[b1]? = some (.cells #[k5] 22 (0, 0))) (hl : Atom.holds ⟨k5, l⟩ (fun b => b < n₀ ∧ b ≠ b1 ∧ b ≠ b3) W) (hlen : l.length ≤ 7) (hJ : AbidesFrom W.heap.size J) (hJx : AbidesFrom W.heap.size Jx)
  (hY : ∀ pre x W1, J pre W1 → pre.length < l.length → YieldAt Fence.wide (n - 1) Tryz.prog ll (encs x) W1 fun e W' => (e = .returned (.bool true) ∧ J (pre ++ [x]) W' ∧ KB n₀ b3 W1 W') ∨ (e = .returned (.bool false) ∧ Jx (pre ++ [x]) W'))
  (h0 : J [] W) : Ret Tryz.prog 280 [.func (.yield ll) #[] #[], .pointer (some ⟨b1, 0, none⟩)] W (fun _ w' => J (upto l l.length) w' ∨ ∃ k, k ≤ l.length ∧ Jx (upto l k) w') := by
 have keepJ : ∀ {pre : List (ByteArray × TPlace)} {w w' : World}, J pre w → Stp [b1] w w' → w'.heap[b1]? = w.heap[b1]? → J pre w' := fun hj hs hb => hJ _ _ _ none hj (stp_own hs hb).grown (fun r h => by cases h)
 refine enter [b1] [bl b1 22 [k5]] [⟨k5, l⟩] Tryz.func280 G 20 G (Nat.le_of_ble_eq_true G) (start_st box) (start_dh hl hn0)<|qg<|rl 1 [0] G G<|lnP 0 G G Tryz.underlying22 G fun l6 => mv G G<|nl<|nx<|bk ?_
 refine lpW (σ := Nat) (fun i => [(7, .int .i64 (i : Int)), (6, .int .i64 (l.length : Int)), (5, k5), (1, .pointer (some ⟨b1, 0, none⟩)), (0, .func (.yield ll) #[] #[])])
  (fun i w => i ≤ l.length ∧ J (upto l i) w ∧ KB n₀ b3 W w) (fun i => l.length - i) 0 ⟨rfl, rfl, rfl, rfl, rfl, trivial⟩ ?_ ?_
 ·
  intro w st dh
  have hb := bl_at 0 rfl st
  refine ⟨Nat.zero_le _, keepJ h0 st.stp (hb.trans box.symm), ?_⟩
  have := stp_own st.stp (hb.trans box.symm)
  exact this.kb hn0 (by simp)
 ·
  rintro i w ⟨hi, hJw, hB⟩ a f
  have box' : w.heap[b1]? = some (.cells #[k5] 22 (0, 0)) := (hB.block b1 hb1 hne).trans box
  have hl' : Atom.holds ⟨k5, l⟩ (fun b => b < n₀ ∧ b ≠ b1 ∧ b ≠ b3) w := Atom.keep hl (fun _ h => h) (fun b h => hB.block b h.1 h.2.2)
  have hn' : n₀ ≤ w.heap.size := Nat.le_trans hn0 hB.size
  refine (show WC ⟨Tryz.prog, 20, w, [b1]⟩ _ _ _ [bl b1 22 [k5]] [⟨k5, l⟩] from ?_) a w f (start_st box') (start_dh hl' hn')
  refine sa 1 G<|sq<|cdP G (fun h8 => ?_) (fun h8 => ?_)
  ·
   refine sk<|nx<|sq<|bk<|qg<|mv G G<|ixP 0 G G G slt_22 (by omega) (gE (by omega)) G fun v10 => ldS 0 G G (Rg G) G fun q11 w11 => al zero_90 G fun b4 => ru 1 G<|stW 0 (us := cPlace (l.getD i default)) G G G (Rg G) G G<|nl<|nx<|sq<|rgTail (n := n) (hd := 5) ⟨fun q_ => ([[], [], [], [1, 2], [], [], []] : List (List Nat)).getD q_ [], fun _ _ => True, fun _ _ => [], fun q_ => ([some (.func (.yield ll) #[] #[]), some k5, some (.int .i64 (i : Int)), some (.string (endP l i)), some (.agg (cPlace (l.getD i default)).toArray)] : List (Option Value)).getD q_ none, fun _ _ => [bl b4 90 (cPlace (l.getD i default)), bl b1 22 [k5]], [], [[]]⟩ ?_ mixed ?_ ?_ ?_ ?_ ?_ ?_
   · rfl
   · rfl
   · exact Nat.le_of_ble_eq_true G
   · rfl
   · exact ⟨fun V De _=>aP1 (mv G G<|oh G G G G),fun V De _=>aP1 (ldB 1 G G (Og G) G G<|oh G G G G),fun V De _=>aP1 (mv G G<|oh G G G G),fun V De _=>aP1 (cfv (end_c k5 l (i : Int) (inI (by omega) (by omega))) ok_245 G (Sc 2 G Sn) G<|oh G G G G),fun V De _=>aP1 (ldM 0 (cPlace (l.getD i default)) G G (Rg G) G G<|oh G G G G),trivial⟩
   ·
    intro listed hcl i5 h5 h7 hp
    have h7 : i5 < 7 := h7
    have : i5 = 5 ∨ i5 = 6 := by omega
    have g : listed.getD 0 false = true ∧ listed.getD 1 false = true ∧ listed.getD 2 false = true ∧ listed.getD 3 false = true ∧ listed.getD 4 false = true := by
     rcases this with rfl | rfl
     ·
      have g3 := hp 3 rfl
      exact ⟨hp 0 G, hcl 3 1 g3 G, hcl 3 2 g3 G, g3, hp 4 G⟩
     ·
      have g5 := hp 5 rfl
      have g3 := hcl 5 3 g5 rfl
      exact ⟨hcl 5 0 g5 G, hcl 3 1 g3 G, hcl 3 2 g3 G, g3, hcl 5 4 g5 G⟩
    intro k hk
    match k, hk with
    | 0, _ => exact g.1
    | 1, _ => exact g.2.1
    | 2, _ => exact g.2.2.1
    | 3, _ => exact g.2.2.2.1
    | 4, _ => exact g.2.2.2.2
   ·
    intro V _ a3 w3 f3 st3 dh3
    have hb3 := bl_at 1 rfl st3
    have hJ3 := keepJ hJw st3.stp (hb3.trans box'.symm)
    have hB3 : KB n₀ b3 w w3 := (stp_own st3.stp (hb3.trans box'.symm)).kb hn' (by simp)
    obtain ⟨fn, tmps, assign, body, hy, hR⟩ := hY (upto l i) (item l i) w3 hJ3 (by rw [upto_len]; omega)
    refine wpAnyIn_all (rs := [5]) (by kernel_rfl) (by simp) fun j hj => ?_
    have : j = 5 := by simpa using hj
    subst this
    refine wpOpIn_plain G G (round_in G G (fun _ => trivial) (run_round G (f3.ev G) (f3.evs G) hy) (hR.mono ?_))
    rintro e W' (⟨rfl, hJ4, hk4⟩ | ⟨rfl, hJ4⟩)
    ·
     refine ⟨_, G, wpAnyIn_all (rs := [6]) (by kernel_rfl) (by simp) fun j hj => ?_⟩
     have : j = 6 := by simpa using hj
     subst this
     have f4 := f3.put (d := 17) (.bool true) (by show 17 < 20; decide)
     refine wpOpIn_plain G G (not_in G G (f4.ev G) (fun _ => trivial) (wpAnyIn_done (by kernel_rfl) ?_ _))
     have f5 := f4.put (d := 18) (.bool false) (by show 18 < 20; decide)
     refine (show WC ⟨Tryz.prog, 20, W', []⟩ _ _ _ [] [] from ?_) _ W' f5 (St.start W' []) DH.nil
     refine cdF G<|sk<|bN<|nx<|rg<|adI G G (inI (by omega) (by omega)) G<|mv G G<|nl ?_
     intro a6 w6 f6 st6 _
     have e6 : Stp [] W' w6 := st6.stp
     refine ⟨i + 1, by omega, f6.sub (Gs G), by omega, ?_, ?_⟩
     ·
      rw [upto_succ]
      exact hJ _ _ _ none hJ4 e6.grown (fun r h => by cases h)
     · exact hB.trans (hB3.trans (hk4.trans (e6.kb (Nat.le_trans hn' (Nat.le_trans hB3.size hk4.size)) (by simp))))
    ·
     refine ⟨_, G, wpAnyIn_all (rs := [6]) (by kernel_rfl) (by simp) fun j hj => ?_⟩
     have : j = 6 := by simpa using hj
     subst this
     have f4 := f3.put (d := 17) (.bool false) (by show 17 < 20; decide)
     refine wpOpIn_plain G G (not_in G G (f4.ev G) (fun _ => trivial) (wpAnyIn_done (by kernel_rfl) ?_ _))
     have f5 := f4.put (d := 18) (.bool true) (by show 18 < 20; decide)
     refine (show WC ⟨Tryz.prog, 20, W', []⟩ _ _ _ [] [] from ?_) _ W' f5 (St.start W' []) DH.nil
     refine cdT G<|rt<|bR<|tR<|tR<|bR ?_
     intro a6 w6 f6 st6 _
     have e6 : Stp [] W' w6 := st6.stp
     refine bodyPost_ret (results_none G _ _ _) f6.dn ⟨_, G, .inr ⟨i + 1, by omega, ?_⟩⟩
     rw [upto_succ]
     exact hJx _ _ _ none hJ4 e6.grown (fun r h => by cases h)
  ·
   refine ex<|tE<|tE<|bE ?_
   intro a' w' f' st' dh'
   have e : i = l.length := by omega
   subst e
   exact bodyPost_end (results_none G _ _ _) f'.dn ⟨_, G, .inl (keepJ hJw st'.stp ((bl_at 0 G st').trans box'.symm))⟩
end Go.Proofs.YtmpoffijcfaalaaGreat.Ep
namespace Go.Proofs.YtmpoffijcfaalaaGreat
open Go.Eng Go.YtmpoffijcfaalaaGreat
theorem eq_Span : EqTy Tryz.prog 65 cSpan := by
 refine ⟨by kernel_rfl, fun a b w => ?_⟩
 rw [run_equalIn_struct w 9999 65 _ _ (by simp only [Program.fieldsOf, Tryz.underlying65]) (by kernel_rfl)]
 simp only [Program.fieldsOf, Tryz.underlying65]
 refine Eq.trans (eqG G Tryz.underlying3 G G G (eqFi Tryz.underlying3 _ _) (fun w => eqG G Tryz.underlying3 G G G (eqFi Tryz.underlying3 _ _) (fun w => eqF0 w))) ?_
 congr 1
 obtain ⟨a0, a1⟩ := a
 obtain ⟨b0, b1⟩ := b
 simp [TSpan.mk.injEq, Bool.and_assoc]
theorem eq_Answer : EqTy Tryz.prog 120 cAnswer := by
 refine ⟨by kernel_rfl, fun a b w => ?_⟩
 rw [run_equalIn_struct w 9999 120 _ _ (by simp only [Program.fieldsOf, Tryz.underlying120]) (by kernel_rfl)]
 simp only [Program.fieldsOf, Tryz.underlying120]
 refine Eq.trans (eqG G Tryz.underlying38 G G G (eqFi Tryz.underlying38 _ _) (fun w => eqG G Tryz.underlying3 G G G (eqFi Tryz.underlying3 _ _) (fun w => eqG G Tryz.underlying3 G G G (eqFi Tryz.underlying3 _ _) (fun w => eqG G Tryz.underlying3 G G G (eqFi Tryz.underlying3 _ _) (fun w => eqF0 w))))) ?_
 congr 1
 obtain ⟨a0, a1, a2, a3⟩ := a
 obtain ⟨b0, b1, b2, b3⟩ := b
 simp [TAnswer.mk.injEq, Bool.and_assoc]
theorem eq_Plan : EqTy Tryz.prog 24 cPlan := by
 refine ⟨by kernel_rfl, fun a b w => ?_⟩
 rw [run_equalIn_struct w 9999 24 _ _ (by simp only [Program.fieldsOf, Tryz.underlying24]) (by kernel_rfl)]
 simp only [Program.fieldsOf, Tryz.underlying24]
 refine Eq.trans (eqG G Tryz.underlying3 G G G (eqFi Tryz.underlying3 _ _) (fun w => eqG G Tryz.underlying3 G G G (eqFi Tryz.underlying3 _ _) (fun w => eqG G Tryz.underlying3 G G G (eqFi Tryz.underlying3 _ _) (fun w => eqG G Tryz.underlying9 G G G (eqFs Tryz.underlying9 _ _) (fun w => eqG G Tryz.underlying9 G G G (eqFs Tryz.underlying9 _ _) (fun w => eqG G Tryz.underlying3 G G G (eqFi Tryz.underlying3 _ _) (fun w => eqG G Tryz.underlying3 G G G (eqFi Tryz.underlying3 _ _) (fun w => eqF0 w)))))))) ?_
 congr 1
 obtain ⟨a0, a1, a2, a3, a4, a5, a6⟩ := a
 obtain ⟨b0, b1, b2, b3, b4, b5, b6⟩ := b
 simp [TPlan.mk.injEq, Bool.and_assoc]
theorem eq_Op : EqTy Tryz.prog 34 cOp := by
 refine ⟨by kernel_rfl, fun a b w => ?_⟩
 rw [run_equalIn_struct w 9999 34 _ _ (by simp only [Program.fieldsOf, Tryz.underlying34]) (by kernel_rfl)]
 simp only [Program.fieldsOf, Tryz.underlying34]
 refine Eq.trans (eqG G Tryz.underlying3 G G G (eqFi Tryz.underlying3 _ _) (fun w => eqG G Tryz.underlying9 G G G (eqFs Tryz.underlying9 _ _) (fun w => eqG G Tryz.underlying9 G G G (eqFs Tryz.underlying9 _ _) (fun w => eqG G Tryz.underlying3 G G G (eqFi Tryz.underlying3 _ _) (fun w => eqG G Tryz.underlying3 G G G (eqFi Tryz.underlying3 _ _) (fun w => eqG G Tryz.underlying3 G G G (eqFi Tryz.underlying3 _ _) (fun w => eqF0 w))))))) ?_
 congr 1
 obtain ⟨a0, a1, a2, a3, a4, a5⟩ := a
 obtain ⟨b0, b1, b2, b3, b4, b5⟩ := b
 simp [TOp.mk.injEq, Bool.and_assoc]
theorem eq_Lock : EqTy Tryz.prog 68 cLock := by
 refine ⟨by kernel_rfl, fun a b w => ?_⟩
 rw [run_equalIn_struct w 9999 68 _ _ (by simp only [Program.fieldsOf, Tryz.underlying68]) (by kernel_rfl)]
 simp only [Program.fieldsOf, Tryz.underlying68]
 refine Eq.trans (eqG G Tryz.underlying3 G G G (eqFi Tryz.underlying3 _ _) (fun w => eqG G Tryz.underlying3 G G G (eqFi Tryz.underlying3 _ _) (fun w => eqG G Tryz.underlying3 G G G (eqFi Tryz.underlying3 _ _) (fun w => eqG G Tryz.underlying3 G G G (eqFi Tryz.underlying3 _ _) (fun w => eqF0 w))))) ?_
 congr 1
 obtain ⟨a0, a1, a2, a3⟩ := a
 obtain ⟨b0, b1, b2, b3⟩ := b
 simp [TLock.mk.injEq, Bool.and_assoc]
section
variable (v_l : Value) (l : List TPlace) (gr : Int) (key : ByteArray)
theorem find_c : FnV Pg 35 [v_l, .string key] [⟨v_l, l⟩] (.int .i64 (findP l key : Int)) := by
 refine Fnc.proof Tryz.func35 G 22 G G fun X w => sa 1 G<|sa 1 G<|sq<|qg<|mv G G<|lnP 0 G G Tryz.underlying22 G fun l9 => mv G G<|nl<|nx<|bk<|lpC (σ := Nat × Nat) [(1, _), (8, _), (9, _)] _ (fun s C => (10, .int .i64 (s.1 : Int)) :: (5, .int .i64 (s.2 : Int)) :: C) (fun s => s.1 ≤ l.length ∧ s.2 = lastI s.1 (fun j => !ltB key (l.getD j default).fFrom)) (fun s => l.length - s.1) (0, 0) (Gs G) (Sc 0 G Sn) ⟨Nat.zero_le _, G⟩ (Gs G) ?_
 rintro ⟨i, a⟩ ⟨hi, ha⟩
 simp only at hi ha
 refine sa 1 G<|sq<|cdP G (fun h11 => ?_) (fun h11 => ?_)
 ·
  refine sk<|nx<|sq<|bk<|qg<|mv G G<|ixP 0 G G G slt_22 (by omega) (gE (by omega)) G fun v13 => ldS 0 G G (Rg G) G fun q14 w14 => al zero_90 G fun b7 => ru 1 G<|stW 0 (us := (cPlace ((l.getD i default)))) G G G (Rg G) G G<|nl<|nx<|qg<|rl 3 [0] G G<|leS G G G<|nl<|nx<|cdB G (fun h18 => ?_) (fun h18 => ?_)
  ·
   refine ra 2 G<|bN<|nx<|rg<|adI G G (inI (by omega) (by omega)) G<|mv G G<|nl<|dpQ ?_
   exact ag (i + 1, i) ⟨by show i + 1 ≤ l.length; omega, by show i = if (!ltB key (l.getD i default).fFrom) = true then i else lastI i (fun j => !ltB key (l.getD j default).fFrom); rw [if_pos (by rw [← le_ge]; exact h18)]⟩ (by show l.length - (i + 1) < l.length - i; omega) (Gs G) G (Sc 2 G Sn)
  ·
   refine sk<|bN<|nx<|rg<|adI G G (inI (by omega) (by omega)) G<|mv G G<|nl<|dpQ ?_
   exact ag (i + 1, a) ⟨by show i + 1 ≤ l.length; omega, by show a = if (!ltB key (l.getD i default).fFrom) = true then i else lastI i (fun j => !ltB key (l.getD j default).fFrom); rw [if_neg (by rw [← le_ge, h18]; decide)]; exact ha⟩ (by show l.length - (i + 1) < l.length - i; omega) (Gs G) G (Sc 2 G Sn)
 · exact ex<|tE<|tE<|bE<|nx<|sa 2 G<|rt<|fR1 () G G (by have e : i = l.length := (by omega); show Value.int .i64 (a : Int) = _; rw [ha, e, findP]) G Sn
theorem find17_c : FnV Pg 39 [v_l, .string key] [⟨v_l, l⟩] (.int .i64 (find17 l key : Int)) := by
 refine Fnc.proof Tryz.func39 G 23 G G fun X w => sa 1 G<|sq<|sa 1 G<|bk<|lpC (σ := Nat) [(0, _), (1, _)] _ (fun i C => (5, .int .i64 (i : Int)) :: C) (fun i => i ≤ l.length ∧ (∀ j, j < i → within (l.getD j default).fFrom (endP l j) key = false)) (fun i => l.length - i) 0 (Gs G) (Sc 0 G Sn) ⟨Nat.zero_le _, fun j hj => absurd hj (Nat.not_lt_zero j)⟩ (Gs G) ?_
 rintro i ⟨hi, hall⟩
 refine sq<|qg<|ru 2 G<|lnP 0 G G Tryz.underlying22 G fun l8 => ru 1 G<|nl<|nx<|cdP G (fun h9 => ?_) (fun h9 => ?_)
 ·
  refine sk<|nx<|sq<|bk<|sq<|rgQ mixed (by kernel_rfl)<|ru 2 G<|ixP 0 G G G slt_22 (by omega) (gE (by omega)) G fun v14 => faP (α := TPlace) (β := ByteArray) 0 (fun x : TPlace => x.fFrom) G G (Fg G) pPlace_1 G fun v15 => ldV 0 G G (Og G) G fun w16 => ru 2 G<|cfq (end17_c _ _ _ (inI (by omega) (by omega))) ok_92 G (Sc 2 G Sn) G<|mv G G<|cfq (within17_c _ _ _) ok_82 G Sn G<|nlQ<|nx<|cdB G (fun h21 => ?_) (fun h21 => ?_)
  · exact sa 2 G<|rt<|bR<|tR<|tR<|bR<|tR<|fR1 () G G (by rw [find17, firstI_some (j := i) (by omega) hall h21]; try rfl) G Sn
  ·
   refine sk<|bN<|nx<|rg<|mv G G<|adI G G (inI (by omega) (by omega)) G<|ru 1 G<|nl ?_
   exact ag (i + 1) ⟨(by omega), (all_snoc hall (h21))⟩ (by omega) (Gs G) G (Sc 2 G Sn)
 · exact ex<|tE<|tE<|bE<|nx<|sa 1 G<|rt<|fR1 () G G (by rw [find17, firstI_none (fun k hk => hall k (by omega))]; try rfl) G Sn
theorem of_c (h_gr : InI gr) : FnV Pg 173 [v_l, .int .i64 gr] [⟨v_l, l⟩] (ofV (ofP l gr)) := by
 refine Fnc.proof Tryz.func173 G 21 G G fun X w => ?_
 obtain ⟨h_gr1, h_gr2⟩ := id h_gr
 refine sa 2 G<|sq<|qg<|mv G G<|lnP 0 G G Tryz.underlying22 G fun l9 => mv G G<|nl<|nx<|bk<|lpC (σ := Nat) [(1, _), (8, _), (9, _)] _ (fun i C => (10, .int .i64 (i : Int)) :: C) (fun i => i ≤ l.length ∧ (∀ j, j < i → decide ((l.getD j default).fGroup = gr) = false)) (fun i => l.length - i) 0 (Gs G) (Sc 0 G Sn) ⟨Nat.zero_le _, fun j hj => absurd hj (Nat.not_lt_zero j)⟩ (Gs G) ?_
 rintro i ⟨hi, hall⟩
 refine sa 1 G<|sq<|cdP G (fun h11 => ?_) (fun h11 => ?_)
 ·
  refine sk<|nx<|sq<|bk<|qg<|mv G G<|ixP 0 G G G slt_22 (by omega) (gE (by omega)) G fun v13 => ldS 0 G G (Rg G) G fun q14 w14 => al zero_90 G fun b7 => ru 1 G<|stW 0 (us := (cPlace ((l.getD i default)))) G G G (Rg G) G G<|nl<|nx<|sb 4 [0] G G<|cdP G (fun h18 => ?_) (fun h18 => ?_)
  · exact sa 3 G<|rt<|bR<|tR<|tR<|bR<|tR<|dpQ<|fR2 () G G G (by rw [ofP, firstI_some (j := i) (by omega) hall (decide_eq_true h18)]; try rfl) G Sn
  ·
   refine sk<|bN<|nx<|rg<|adI G G (inI (by omega) (by omega)) G<|mv G G<|nl<|dpQ ?_
   exact ag (i + 1) ⟨(by omega), (all_snoc hall (decide_eq_false h18))⟩ (by omega) (Gs G) G (Sc 2 G Sn)
 · exact ex<|tE<|tE<|bE<|nx<|sa 2 G<|rt<|fR2 () G G G (by rw [ofP, firstI_none (fun k hk => hall k (by omega))]; try rfl) G Sn
theorem of17_c (h_gr : InI gr) : FnV Pg 117 [v_l, .int .i64 gr] [⟨v_l, l⟩] (ofV (ofP l gr)) := by
 refine Fnc.proof Tryz.func117 G 21 G G fun X w => ?_
 obtain ⟨h_gr1, h_gr2⟩ := id h_gr
 refine sa 2 G<|sq<|sa 1 G<|bk<|lpC (σ := Nat) [(0, _), (1, _)] _ (fun i C => (6, .int .i64 (i : Int)) :: C) (fun i => i ≤ l.length ∧ (∀ j, j < i → decide ((l.getD j default).fGroup = gr) = false)) (fun i => l.length - i) 0 (Gs G) (Sc 0 G Sn) ⟨Nat.zero_le _, fun j hj => absurd hj (Nat.not_lt_zero j)⟩ (Gs G) ?_
 rintro i ⟨hi, hall⟩
 refine sq<|qg<|ru 2 G<|lnP 0 G G Tryz.underlying22 G fun l9 => ru 1 G<|nl<|nx<|cdP G (fun h10 => ?_) (fun h10 => ?_)
 ·
  refine sk<|nx<|sq<|bk<|qg<|ru 2 G<|ixP 0 G G G slt_22 (by omega) (gE (by omega)) G fun v15 => faP (α := TPlace) (β := Int) 0 (fun x : TPlace => x.fGroup) G G (Fg G) pPlace_0 G fun v16 => ldV 0 G G (Og G) G fun w17 => ru 2 G<|nl<|nx<|cdP G (fun h19 => ?_) (fun h19 => ?_)
  · exact sa 3 G<|rt<|bR<|tR<|tR<|bR<|tR<|fR2 () G G G (by rw [ofP, firstI_some (j := i) (by omega) hall (decide_eq_true h19)]; try rfl) G Sn
  ·
   refine sk<|bN<|nx<|rg<|mv G G<|adI G G (inI (by omega) (by omega)) G<|ru 1 G<|nl ?_
   exact ag (i + 1) ⟨(by omega), (all_snoc hall (decide_eq_false h19))⟩ (by omega) (Gs G) G (Sc 2 G Sn)
 · exact ex<|tE<|tE<|bE<|nx<|sa 2 G<|rt<|fR2 () G G G (by rw [ofP, firstI_none (fun k hk => hall k (by omega))]; try rfl) G Sn
theorem counts_c (l : List Int) : FnV Pg 179 [v_l] [⟨v_l, l⟩] (.bool (countsP l)) := by
 refine Fnc.proof Tryz.func179 G 18 G G fun X w => sa 1 G<|sq<|qg<|mv G G<|lnP 0 G G Tryz.underlying220 G fun l6 => mv G G<|nl<|nx<|bk<|lpC (σ := Nat) [(5, _), (6, _)] _ (fun i C => (7, .int .i64 (i : Int)) :: C) (fun i => i ≤ l.length ∧ (∀ j, j < i → (!(decide (l.getD j default < 0) || decide (l.getD j default > far))) = true)) (fun i => l.length - i) 0 (Gs G) (Sc 0 G Sn) ⟨Nat.zero_le _, fun j hj => absurd hj (Nat.not_lt_zero j)⟩ (Gs G) ?_
 rintro i ⟨hi, hall⟩
 refine sa 1 G<|sq<|cdP G (fun h8 => ?_) (fun h8 => ?_)
 ·
  refine sk<|nx<|sq<|bk<|qg<|ixP 0 G G G slt_220 (by omega) (gE (by omega)) G fun v9 => ldV 0 G G (Og G) G fun w10 => ru 1 G<|nl<|nx<|qg<|ru 3 G<|jb 13 3 [] [5,6,7] G G G<|nl<|nx<|cdB G (fun h16 => ?_) (fun h16 => ?_)
  · exact sa 1 G<|rt<|bR<|tR<|tR<|bR<|tR<|fR1 () G G (by rw [countsP, allI_false i (by omega) (not_t h16)]; try rfl) G Sn
  ·
   refine sk<|bN<|nx<|rg<|adI G G (inI (by omega) (by omega)) G<|mv G G<|nl ?_
   exact ag (i + 1) ⟨(by omega), (all_snoc hall (not_f h16))⟩ (by omega) (Gs G) G (Sc 1 G Sn)
 · exact ex<|tE<|tE<|bE<|nx<|sa 1 G<|rt<|fR1 () G G (by rw [countsP, allI_true (fun j hj => hall j (by omega))]; try rfl) G Sn
theorem scheck_c (l : List TMark) : FnV Pg 182 [v_l] [⟨v_l, l⟩] (.int .i64 (errF (marksP l))) := by
 refine Fnc.proof Tryz.func182 G 49 G G fun X w => sa 1 G<|sa 1 G<|sq<|qg<|mv G G<|lnP 0 G G Tryz.underlying25 G fun l7 => mv G G<|nl<|nx<|bk<|lpC (σ := Nat) [(6, _), (7, _)] _ (fun i C => (8, .int .i64 (i : Int)) :: (3, .int .i64 (prevI (fun k => (l.getD k default).fClient) i)) :: C) (fun i => i ≤ l.length ∧ (∀ j, j < i → (!markP (prevI (fun k => (l.getD k default).fClient) j) (l.getD j default)) = true)) (fun i => l.length - i) 0 (Gs G) (Sc 0 G Sn) ⟨Nat.zero_le _, fun j hj => absurd hj (Nat.not_lt_zero j)⟩ (Gs G) ?_
 rintro i ⟨hi, hall⟩
 refine sa 1 G<|sq<|cdP G (fun h9 => ?_) (fun h9 => ?_)
 ·
  refine sk<|nx<|sq<|bk<|qg<|ixP 0 G G G slt_25 (by omega) (gE (by omega)) G fun v10 => ldS 0 G G (Rg G) G fun q11 w11 => al zero_122 G fun b5 => stW 0 (us := (cMark ((l.getD i default)))) G G G (Rg G) G G<|nl<|nx<|sq<|qg<|rl 5 [0] G G<|jb 16 4 [0] [5,6,7,8] G G G<|mv G G<|jb 21 4 [0] [5,6,7,8] G G G<|mv G G<|jb 26 4 [0] [5,6,7,8] G G G<|mv G G ?_
  refine jz 31 14 [5,6,7,8] G G (fun h31 K45 => by
   refine rl 3 [0] G G ?_
   refine jy 34 10 [5,6,7,8,31] G G (fun h34 K44 => by
    refine rl 4 [0] G G ?_
    refine jz 38 5 [5,6,7,8,31,34] G G (fun h38 K43 => by
     have p38 := of_decide_eq_false h38
     exact ru 1 G<|gY G G G<|ldM 0 (cAnswer ((l.getD i default).fAnswer)) G G (Rg G) G G<|gY G G G<|bd (ps := []) (cs := (cAnswer ((⟨0, 0, 0, 0⟩ : TAnswer)))) (by rfl) (by kernel_rfl) G<|gY G G G<|neT eq_Answer ((l.getD i default).fAnswer) ((⟨0, 0, 0, 0⟩ : TAnswer)) G G G<|ru 1 G<|K43 G Sr) ?_
    exact ru 1 G<|K44 G Sr) ?_
   exact ru 1 G<|K45 G Sr) ?_
  refine nl<|nx<|cdB G (fun h45 => ?_) (fun h45 => ?_)
  · exact sa 1 G<|rt<|tR<|bR<|tR<|tR<|bR<|tR<|dpQ<|fR1 () G G (by rw [marksP, allI_false i (by omega) (not_t h45)]; try rfl) G Sn
  ·
   refine sk<|nx<|rb 3 [0] G G<|bN<|nx<|rg<|adI G G (inI (by omega) (by omega)) G<|mv G G<|nl<|dpQ ?_
   exact ag (i + 1) ⟨(by omega), (all_snoc hall (not_f h45))⟩ (by omega) (Gs G) G (Sc 2 G Sn)
 · exact ex<|tE<|tE<|bE<|nx<|sa 1 G<|rt<|fR1 () G G (by rw [marksP, allI_true (fun j hj => hall j (by omega))]; try rfl) G Sn
theorem dends_c (l : List TEnd) : FnV Pg 184 [v_l] [⟨v_l, l⟩] (.int .i64 (errF (endsP l))) := by
 refine Fnc.proof Tryz.func184 G 27 G G fun X w => sa 1 G<|sa 1 G<|sq<|qg<|mv G G<|lnP 0 G G Tryz.underlying53 G fun l7 => mv G G<|nl<|nx<|bk<|lpC (σ := Nat) [(6, _), (7, _)] _ (fun i C => (8, .int .i64 (i : Int)) :: (3, .int .i64 (prevI (fun k => (l.getD k default).fClient) i)) :: C) (fun i => i ≤ l.length ∧ (∀ j, j < i → (!(decide ((l.getD j default).fClient ≤ prevI (fun k => (l.getD k default).fClient) j) || !okWhose (l.getD j default).fClient (l.getD j default).fSeq)) = true)) (fun i => l.length - i) 0 (Gs G) (Sc 0 G Sn) ⟨Nat.zero_le _, fun j hj => absurd hj (Nat.not_lt_zero j)⟩ (Gs G) ?_
 rintro i ⟨hi, hall⟩
 refine sa 1 G<|sq<|cdP G (fun h9 => ?_) (fun h9 => ?_)
 ·
  refine sk<|nx<|sq<|bk<|qg<|ixP 0 G G G slt_53 (by omega) (gE (by omega)) G fun v10 => ldS 0 G G (Rg G) G fun q11 w11 => al zero_129 G fun b5 => stW 0 (us := (cEnd ((l.getD i default)))) G G G (Rg G) G G<|nl<|nx<|sq<|qg<|rl 5 [0] G G ?_
  refine jz 16 7 [5,6,7,8] G G (fun h16 K23 => by
   have p16 := of_decide_eq_false h16
   exact rl 4 [0,0] G G<|gY G G G<|cfv (dwhose_c _ _ w11.1 w11.2) ok_239 G Sn G<|ru 2 G<|K23 G Sr) ?_
  refine nl<|nx<|cdB G (fun h23 => ?_) (fun h23 => ?_)
  · exact sa 1 G<|rt<|tR<|bR<|tR<|tR<|bR<|tR<|dpQ<|fR1 () G G (by rw [endsP, allI_false i (by omega) (not_t h23)]; try rfl) G Sn
  ·
   refine sk<|nx<|rb 3 [0] G G<|bN<|nx<|rg<|adI G G (inI (by omega) (by omega)) G<|mv G G<|nl<|dpQ ?_
   exact ag (i + 1) ⟨(by omega), (all_snoc hall (not_f h23))⟩ (by omega) (Gs G) G (Sc 2 G Sn)
 · exact ex<|tE<|tE<|bE<|nx<|sa 1 G<|rt<|fR1 () G G (by rw [endsP, allI_true (fun j hj => hall j (by omega))]; try rfl) G Sn
end
theorem dmay_c (d : TDeal) (h_d : d.wf) : FnV Pg 238 [.agg (cDeal d).toArray] [] (.bool (dmayP d)) := by
 refine Fnc.proof Tryz.func238 G 82 G G fun X w => qg<|bx G G G fun b1 => ru 1 G<|nl<|nx<|sq<|qg<|rl 4 [0,0] G G<|cfv (dwhose_c _ _ h_d.1 h_d.2.1) ok_239 G Sn G<|ru 2 G<|jb 10 4 [0] [1] G G G<|mv G G<|jb 15 6 [0,0] [1] G G G<|mv G G<|jb 22 4 [0] [1] G G G<|mv G G<|jb 27 4 [0] [1] G G G<|mv G G<|jb 32 4 [0] [1] G G G<|mv G G<|jb 37 4 [0] [1] G G G<|nl<|nx<|cdB G (fun h41 => ?_) (fun h41 => ?_)
 ·
  have e41 : (dmay1 d) = true := h41
  exact sa 1 G<|rt<|tR<|dpQ<|fR1 () G G (by rw [dmayP, e41]; try rfl) G Sn
 ·
  have e41 : (dmay1 d) = false := h41
  refine sk<|nx<|sq<|qg<|rl 2 [0] G G<|lnS G Tryz.underlying9 G<|ru 2 G ?_
  refine jz 46 5 [1] G G (fun h46 K51 => by
   have p46 := of_decide_eq_false h46
   exact rl 2 [0] G G<|gY G G G<|lnS G Tryz.underlying9 G<|ru 2 G<|K51 G Sr) ?_
  refine mv G G<|jz 52 5 [1] G G (fun h52 K57 => rl 2 [0] G G<|gY G G G<|lnS G Tryz.underlying9 G<|ru 2 G<|K57 G Sr)<|mv G G<|jz 58 5 [1] G G (fun h58 K63 => rl 2 [0] G G<|gY G G G<|lnS G Tryz.underlying9 G<|ru 2 G<|K63 G Sr)<|nl<|nx<|cdB G (fun h63 => ?_) (fun h63 => ?_)
  ·
   have e63 : (dmay2 d) = true := h63
   exact sa 1 G<|rt<|tR<|dpQ<|fR1 () G G (by rw [dmayP, e41, e63]; try rfl) G Sn
  ·
   have e63 : (dmay2 d) = false := h63
   refine sk<|nx<|qg<|rl 4 [0,0] G G<|cfv (fate_c _ _ h_d.2.2.2.2.2.1 h_d.2.2.2.2.2.2.1) ok_284 G Sn G<|ru 1 G<|nl<|nx<|qg<|rl 5 [0] G G ?_
   refine jz 73 8 [] G G (fun h73 K81 => by
    have p73 := of_decide_eq_false h73
    exact ru 3 G<|ja 76 4 [0] [73] G G G<|ru 1 G<|K81 G Sr) ?_
   exact ru 1 G<|nl<|nx<|rt<|dpQ<|fR1 () G G (by rw [dmayP, e41, e63]; try rfl) G Sn
theorem owned_c (s : TState) (s_0 s_1 s_2 s_3 s_4 s_5 : Value) (h_s : s.wf) : FnV Pg 180 [.agg (cState s s_0 s_1 s_2 s_3 s_4 s_5).toArray] [⟨s_0, s.fAccounts⟩, ⟨s_1, s.fMarks⟩, ⟨s_2, s.fWaits⟩, ⟨s_3, s.fDeals⟩, ⟨s_4, s.fEnds⟩, ⟨s_5, s.fImage⟩] (.bool (ownedP s)) := by
 refine Fnc.proof Tryz.func180 G 42 G G fun X w => qg<|bx G G G fun b1 => ru 1 G<|nl<|nx<|sq<|sb 3 [0] G G<|cdB G (fun h5 => ?_) (fun h5 => ?_)
 ·
  have e5 : (!s.fOwns) = true := h5
  exact qg<|rl 4 [0] G G<|ja 9 4 [0] [1] G G G<|mv G G<|jy 14 5 [1] G G (fun h14 K19 => rl 2 [0] G G<|gY G G G<|lnP 0 G G Tryz.underlying50 G fun l17 => ru 2 G<|K19 G Sr)<|mv G G<|jy 20 5 [1] G G (fun h20 K25 => rl 2 [0] G G<|gY G G G<|lnP 2 G G Tryz.underlying51 G fun l23 => ru 2 G<|K25 G Sr)<|mv G G<|jy 26 5 [] G G (fun h26 K31 => ru 1 G<|gY G G G<|ldM 0 (cPlan s.fSeal) G G (Rg G) G G<|gY G G G<|bd (ps := []) (cs := (cPlan (pZ))) (by rfl) (by kernel_rfl) G<|gY G G G<|eqT eq_Plan (s.fSeal) (pZ) G G G<|ru 1 G<|K31 G Sr)<|ru 1 G<|nl<|nx<|rt<|tR<|dpQ<|fR1 () G G (by rw [ownedP, e5]; try rfl) G Sn
 ·
  have e5 : (!s.fOwns) = false := h5
  refine sk<|nx<|qg<|rl 4 [0] G G ?_
  refine jy 35 6 [] G G (fun h35 K41 => by
   have p35 := of_decide_eq_true h35
   exact rl 4 [0,0] G G<|gY G G G<|cfv (spans_c _ _) ok_237 G Sn G<|ru 1 G<|K41 G Sr) ?_
  exact ru 1 G<|nl<|nx<|rt<|dpQ<|fR1 () G G (by rw [ownedP, e5]; try rfl) G Sn
theorem waiting_c (s : TState) (s_0 s_1 s_2 s_3 s_4 s_5 : Value) (wt : TWait) (h_s : s.wf) (h_wt : wt.wf) : FnV Pg 185 [.agg (cState s s_0 s_1 s_2 s_3 s_4 s_5).toArray, .agg (cWait wt).toArray] [⟨s_0, s.fAccounts⟩, ⟨s_1, s.fMarks⟩, ⟨s_2, s.fWaits⟩, ⟨s_3, s.fDeals⟩, ⟨s_4, s.fEnds⟩, ⟨s_5, s.fImage⟩] (.bool (waitP s wt)) := by
 refine Fnc.proof Tryz.func185 G 100 G G fun X w => qg<|bx G G G fun b2 => bx G G G fun b3 => ru 1 G<|nl<|nx<|sq<|qg<|rl 3 [0] G G<|rl 1 [0] G G<|cfv (swhose_c _ _ h_wt.2.1 h_wt.2.2.1) ok_240 G Sn G<|ru 2 G<|jz 12 6 [2,3] G G (fun h12 K18 => rl 3 [0] G G<|gY G G G<|cfv (skeyed_c _) ok_241 G Sn G<|ru 2 G<|K18 G Sr)<|mv G G<|jz 19 7 [2,3] G G (fun h19 K26 => gY G G G<|ldM 1 (cState s s_0 s_1 s_2 s_3 s_4 s_5) G G (Rg G) G G<|rl 3 [0] G G<|gY G G G<|cfv (owns_c _ _ _ _ _ _ _ _ h_s) ok_78 G (Si [0,1,2,3,4,5] G) G<|ru 2 G<|K26 G Sr)<|mv G G<|jz 27 6 [3] G G (fun h27 K33 => gY G G G<|ldM 1 (cState s s_0 s_1 s_2 s_3 s_4 s_5) G G (Rg G) G G<|rl 3 [0] G G<|gY G G G<|cfv (sealed_c _ _ _ _ _ _ _ _ h_s) ok_242 G (Si [0,1,2,3,4,5] G) G<|ru 1 G<|K33 G Sr)<|nl<|nx<|cdB G (fun h33 => ?_) (fun h33 => ?_)
 ·
  have e33 : (waitP0 s wt) = true := h33
  exact sa 1 G<|rt<|tR<|dpQ<|dpQ<|fR1 () G G (by rw [waitP, e33]; try rfl) G Sn
 ·
  have e33 : (waitP0 s wt) = false := h33
  refine sk<|nx<|sq<|sb 2 [0] G G<|bk<|sa 2 G<|cdP G (fun h36 => ?_) (fun h36 => ?_)
  ·
   have e36 : (decide (wt.fKind = 1)) = true := (decide_eq_true h36)
   refine sb 4 [0] G G<|qg<|rl 4 [0] G G<|ja 44 4 [0] [3,5] G G G<|mv G G<|ja 49 4 [0] [3,5] G G G<|mv G G<|ja 54 3 [] [3,5] G G G<|mv G G<|ja 58 3 [] [3,5] G G G<|mv G G ?_
   refine jy 62 9 [] G G (fun h62 K71 => by
    exact ru 3 G<|jb 65 5 [0] [62] G G G<|ru 1 G<|K71 G Sr) ?_
   exact ru 1 G<|nl<|nx<|rt<|bR<|tR<|dpQ<|dpQ<|fR1 () G G (by rw [waitP, e33, e36]; try rfl) G Sn
  ·
   have e36 : (decide (wt.fKind = 1)) = false := (decide_eq_false h36)
   refine sa 2 G<|cdP G (fun h72 => ?_) (fun h72 => ?_)
   ·
    have e72 : (decide (wt.fKind = 2)) = true := (decide_eq_true h72)
    refine qg<|rl 4 [0] G G ?_
    refine jy 77 4 [3] G G (fun h77 K81 => by
     have p77 := of_decide_eq_true h77
     exact rl 2 [0] G G<|gY G G G<|cfv (sgroup_c _ h_wt.2.2.2.2.1) ok_169 G Sn G<|ru 1 G<|K81 G Sr) ?_
    refine mv G G<|ja 82 5 [0] [3] G G G<|mv G G ?_
    refine jy 88 11 [] G G (fun h88 K99 => by
     exact ru 1 G<|gY G G G<|ldM 0 (cOp wt.fOp) G G (Rg G) G G<|rl 5 [0] G G<|rl 1 [0] G G<|gY G G G<|bd (ps := [(1, .tmp 93), (3, .tmp 96)]) (cs := (cOp ((⟨0, wt.fOp.fKey, ByteArray.empty, wt.fOp.fN, 0, 0⟩ : TOp)))) (by rfl) (by kernel_rfl) G<|gY G G G<|eqT eq_Op (wt.fOp) ((⟨0, wt.fOp.fKey, ByteArray.empty, wt.fOp.fN, 0, 0⟩ : TOp)) G G G<|ru 1 G<|K99 G Sr) ?_
    exact ru 1 G<|nl<|nx<|rt<|bR<|tR<|dpQ<|dpQ<|fR1 () G G (by rw [waitP, e33, e36, e72]; try rfl) G Sn
   ·
    have e72 : (decide (wt.fKind = 2)) = false := (decide_eq_false h72)
    exact sk<|bN<|nx<|sa 1 G<|rt<|dpQ<|dpQ<|fR1 () G G (by rw [waitP, e33, e36, e72]; try rfl) G Sn
theorem holders_c (v_l : Value) (l : List THolder) : FnV Pg 223 [v_l] [⟨v_l, l⟩] (.bool (holdersP l)) := by
 refine Fnc.proof Tryz.func223 G 39 G G fun X w => sa 1 G<|sa 1 G<|sq<|qg<|mv G G<|lnP 0 G G Tryz.underlying66 G fun l7 => mv G G<|nl<|nx<|bk<|lpC (σ := Nat) [(6, _), (7, _)] _ (fun i C => (8, .int .i64 (i : Int)) :: (3, .int .i64 (prevI (fun k => (l.getD k default).fNode) i)) :: C) (fun i => i ≤ l.length ∧ (∀ j, j < i → (!holdP (prevI (fun k => (l.getD k default).fNode) j) (l.getD j default)) = true)) (fun i => l.length - i) 0 (Gs G) (Sc 0 G Sn) ⟨Nat.zero_le _, fun j hj => absurd hj (Nat.not_lt_zero j)⟩ (Gs G) ?_
 rintro i ⟨hi, hall⟩
 refine sa 1 G<|sq<|cdP G (fun h9 => ?_) (fun h9 => ?_)
 ·
  refine sk<|nx<|sq<|bk<|qg<|ixP 0 G G G slt_66 (by omega) (gE (by omega)) G fun v10 => ldS 0 G G (Rg G) G fun q11 w11 => al zero_165 G fun b5 => stW 0 (us := (cHolder ((l.getD i default)))) G G G (Rg G) G G<|nl<|nx<|sq<|qg<|rl 5 [0] G G<|jb 16 4 [0] [5,6,7,8] G G G<|mv G G<|jb 21 4 [0] [5,6,7,8] G G G<|mv G G<|jb 26 4 [0] [5,6,7,8] G G G<|mv G G<|jb 31 4 [0] [5,6,7,8] G G G<|nl<|nx<|cdB G (fun h35 => ?_) (fun h35 => ?_)
  · exact sa 1 G<|rt<|tR<|bR<|tR<|tR<|bR<|tR<|dpQ<|fR1 () G G (by rw [holdersP, allI_false i (by omega) (not_t h35)]; try rfl) G Sn
  ·
   refine sk<|nx<|rb 3 [0] G G<|bN<|nx<|rg<|adI G G (inI (by omega) (by omega)) G<|mv G G<|nl<|dpQ ?_
   exact ag (i + 1) ⟨(by omega), (all_snoc hall (not_f h35))⟩ (by omega) (Gs G) G (Sc 2 G Sn)
 · exact ex<|tE<|tE<|bE<|nx<|sa 1 G<|rt<|fR1 () G G (by rw [holdersP, allI_true (fun j hj => hall j (by omega))]; try rfl) G Sn
end Go.Proofs.YtmpoffijcfaalaaGreat
