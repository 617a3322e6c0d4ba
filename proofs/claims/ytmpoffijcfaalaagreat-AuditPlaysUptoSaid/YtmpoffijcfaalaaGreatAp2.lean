/- Part 2 of auditPlays_holds. -/
import Derived.Deep.Quiet
import Derived.Maps.AppendAt
import Derived.Deep.AppendLies
import Derived.Laws.BytesArg
import Derived.Laws.IdiomStrings
import Derived.Laws.StructEq
import Derived.Laws.Slices
import Derived.Test.YtmpoffijcfaalaaGreatAp1

set_option maxRecDepth 20000
set_option maxHeartbeats 1000000
namespace Go.Eng
section
def ZeroOf (P : Program) (T : TypeId) (zs : List Value) : Prop := ∃ i z, P.info? T = some i ∧ i.zero = some z ∧ z.cells = zs.toArray
theorem ZeroOf.mk {P : Program} {T : TypeId} {zs : List Value} (h : (P.info? T).map (fun i => i.zero.map Value.cells) = some (some zs.toArray)) : ZeroOf P T zs := by
 obtain ⟨i, hi, hz⟩ := Option.map_eq_some_iff.1 h
 obtain ⟨z, h1, h2⟩ := Option.map_eq_some_iff.1 hz
 exact ⟨i, z, hi, h1, h2⟩
def FieldAt (P : Program) (s : TypeId) (i off : Nat) : Prop := ∃ fs f j, P.underlying s = some (.struct fs) ∧ fs[i]? = some f ∧ P.info? f.type = some j ∧ j.size ≠ 0 ∧ f.offset = off
theorem FieldAt.mk {P : Program} {s : TypeId} {i off : Nat} {fs : Array Field} (hu : P.underlying s = some (.struct fs)) {f : Field} (hf : fs[i]? = some f) (h : (P.info? f.type).map (fun j => j.size == 0) = some false) (ho : f.offset = off) : FieldAt P s i off := by
 obtain ⟨j, hj, hz⟩ := Option.map_eq_some_iff.1 h
 exact ⟨fs, f, j, hu, hf, hj, by simpa using hz, ho⟩
def OneTy (P : Program) (T : TypeId) : Prop := (∃ d, P.underlying T = some d ∧ d.isRow = false) ∧ (P.info? T).map (·.size) = some 1
def RowTy (P : Program) (T : TypeId) (m : Nat) : Prop := (∃ d, P.underlying T = some d ∧ d.isRow = true) ∧ (P.info? T).map (·.size) = some m
def SliceTy (P : Program) (T E : TypeId) (m : Nat) : Prop := P.underlying T = some (.slice E) ∧ (P.info? E).map (·.size) = some m
section
variable {P : Program}
theorem run_isAgg {T : TypeId} {d : TypeDesc} (hu : P.underlying T = some d) (w : World) : (isAgg T).run P w = .ok d.isRow w := by
 unfold isAgg
 rw [Sem.run_bind, run_underlying hu w]
 cases d <;> rfl
theorem run_load1 {T : TypeId} (h : OneTy P T) {a : Addr} {v : Value} {w : World} (hc : w.cell? a = some v) : (loadVar T a).run P w = .ok v w := by
 obtain ⟨⟨d, hu, hd⟩, _⟩ := h
 unfold loadVar
 rw [Sem.run_bind, run_isAgg hu, Result.andThen_ok, hd]
 simp [load, Sem.run, hc]
theorem run_loadAt1 {T : TypeId} (h : OneTy P T) {a : Addr} {v : Value} {w : World} (hc : w.cell? a = some v) : (Instr.loadAt T (.pointer (some a))).run P w = .ok v w := by
 simp only [Instr.loadAt, Instr.sureAddr, Sem.run_bind, Sem.run_pure, Result.andThen_ok, run_load1 h hc]
theorem run_loadAtM {T : TypeId} {b o : Nat} {cs : List Value} (h : RowTy P T cs.length) {w : World} (hc : Lies w b o cs) : (Instr.loadAt T (.pointer (some ⟨b, o, none⟩))).run P w = .ok (.agg cs.toArray) w := by
 obtain ⟨⟨d, hu, hd⟩, hi⟩ := h
 exact run_loadAt_mid w b o T cs d hc hu hd hi
def spl (cs : List Value) (o : Nat) : List Value → List Value
 | [] => cs
 | v :: r => spl (cs.set o v) (o + 1) r
theorem heap_setCells : ∀ (vs : List Value) (cs : List Value) (o : Nat) (w : World) {b : Nat} {T : TypeId}, w.heap[b]? = some (.cells cs.toArray T (0, 0)) → (w.setCells b o vs).heap[b]? = some (.cells (spl cs o vs).toArray T (0, 0))
 | [], _, _, _, _, _, h => h
 | v :: r, cs, o, w, b, T, h => by
  rw [World.setCells]
  refine heap_setCells r (cs.set o v) (o + 1) _ ?_
  rw [heap_setCell_same w b o _ T v h]
  simp
theorem stp_setCell (w : World) (b o : Nat) (v : Value) : Stp [b] w (w.setCell ⟨b, o, none⟩ v) :=
 ⟨rfl, rfl, rfl, by simp [World.setCell], fun k _ hx => heap_setCell_other w ⟨b, o, none⟩ k v (by simpa using hx)⟩
theorem stp_setCells (b : Nat) : ∀ (vs : List Value) (o : Nat) (w : World), Stp [b] w (w.setCells b o vs)
 | [], _, w => Stp.refl _ _
 | v :: r, o, w => (stp_setCell w b o v).trans (stp_setCells b r (o + 1) _)
end
section
variable {c : Cx} {ops : Array Oper} {Q : Exit → Act → World → Prop} {env : Env} {L : Own} {D : List Atom} {rest : List Oper} {d : Nat} {v : Value} {t : TypeId} {p : String} {af : Array Edge} {x y z : Operand} {T : TypeId} {b o : Nat} {cs : List Value}
theorem wpl_skip {o : Oper} {dst : Option Tmp} (hg : o.guard = none) (hd : o.dst = dst) {env' : Env} {L' : Own} {D' : List Atom}
 (hrun : ∀ a w, Fr c.n a env → St c.w0 c.M w L → DH D w L → ∃ w', (execOp a.eval o).run c.P w = .ok .skip w' ∧ Fr c.n (a.put dst undef) env' ∧ St c.w0 c.M w' L' ∧ DH D' w' L')
 (k : WL Q c ops rest env' L' D') : WL Q c ops (o :: rest) env L D := by
 intro a w f st dh
 refine wpList_plain hg fun K hK => ?_
 obtain ⟨w', hr, f', st', dh'⟩ := hrun a w f st dh
 unfold Oper.wp
 rw [hr]
 simp only [Oper.upon, hd]
 exact hK _ _ (k _ _ f' st' dh')
theorem wpl_any {o : Oper} {dst : Option Tmp} {σ : Type} (hg : o.guard = none) (hd : o.dst = dst) (env' : σ → Env) (L' : σ → Own) (D' : σ → List Atom)
 (hrun : ∀ a w, Fr c.n a env → St c.w0 c.M w L → DH D w L → ∃ s u w', (execOp a.eval o).run c.P w = .ok (.value u) w' ∧ Fr c.n (a.put dst u) (env' s) ∧ St c.w0 c.M w' (L' s) ∧ DH (D' s) w' (L' s))
 (k : ∀ s, WL Q c ops rest (env' s) (L' s) (D' s)) : WL Q c ops (o :: rest) env L D := by
 intro a w f st dh
 refine wpList_plain hg fun K hK => ?_
 obtain ⟨s, u, w', hr, f', st', dh'⟩ := hrun a w f st dh
 unfold Oper.wp
 rw [hr]
 simp only [Oper.upon, hd]
 exact hK _ _ (k s _ _ f' st' dh')
theorem bl_push {w : World} (st : St c.w0 c.M w L) (dh : DH D w L) : St c.w0 c.M (w.alloc (.cells cs.toArray T)) (bl w.heap.size T cs :: L) ∧ DH D (w.alloc (.cells cs.toArray T)) (bl w.heap.size T cs :: L) :=
 ⟨st.push (p := bl w.heap.size T cs) (Stp.alloc [] w _) (heap_alloc_new w _) (by simp) (by simp), dh.push (Stp.alloc [] w _) (by simp)⟩
theorem al {zs : List Value} (hz : ZeroOf c.P T zs) (hn : Nat.blt d c.n = true) (k : ∀ b, WL Q c ops rest ((d, .pointer (some ⟨b, 0, none⟩)) :: env) (bl b T zs :: L) D) :
 WL Q c ops (⟨some d, .alloc T, t, p, af, none⟩ :: rest) env L D := by
 refine wpl_any (σ := Nat) rfl rfl (fun b => (d, .pointer (some ⟨b, 0, none⟩)) :: env) (fun b => bl b T zs :: L) (fun _ => D) (fun a w f st dh => ?_) k
 obtain ⟨i, z, h1, h2, h3⟩ := hz
 refine ⟨w.heap.size, .pointer (some ⟨w.heap.size, 0, none⟩), w.alloc (.cells zs.toArray T), ?_, f.put _ (lt_blt hn), bl_push st dh⟩
 simp [execOp, Instr.alloc, zeroValue, typeInfo, h1, h2, newVar, newRow, newObj, h3]
 rfl
theorem bx {u : Value} (hx : ev env x = some u) (hc : u.cells.toList = cs) (hn : Nat.blt d c.n = true) (k : ∀ b, WL Q c ops rest ((d, .pointer (some ⟨b, 0, none⟩)) :: env) (bl b T cs :: L) D) :
 WL Q c ops (⟨some d, .box T x, t, p, af, none⟩ :: rest) env L D := by
 refine wpl_any (σ := Nat) rfl rfl (fun b => (d, .pointer (some ⟨b, 0, none⟩)) :: env) (fun b => bl b T cs :: L) (fun _ => D) (fun a w f st dh => ?_) k
 refine ⟨w.heap.size, .pointer (some ⟨w.heap.size, 0, none⟩), w.alloc (.cells cs.toArray T), ?_, f.put _ (lt_blt hn), bl_push st dh⟩
 subst hc
 simp [execOp, Instr.box, f.ev hx, newVar, newRow, newObj]
 rfl
theorem bl_heap {w : World} (i : Nat) (hi : L[i]? = some (bl b T cs)) (st : St c.w0 c.M w L) : w.heap[b]? = some (.cells cs.toArray T (0, 0)) := st.own _ (List.mem_of_getElem? hi)
theorem bl_cell {w : World} (i : Nat) (hi : L[i]? = some (bl b T cs)) (st : St c.w0 c.M w L) (j : Nat) : w.cell? ⟨b, j, none⟩ = cs[j]? := by
 rw [cell_of_row w b j _ T (0, 0) (bl_heap i hi st)]
 simp
theorem bl_upd {w w' : World} {cs' : List Value} (i : Nat) (hi : L[i]? = some (bl b T cs)) (st : St c.w0 c.M w L) (dh : DH D w L) (hs : Stp [b] w w') (hw : w'.heap[b]? = some (.cells cs'.toArray T (0, 0))) :
 St c.w0 c.M w' (L.set i (bl b T cs')) ∧ DH D w' (L.set i (bl b T cs')) :=
 ⟨st.upd (p := bl b T cs) (p' := bl b T cs') i hi hs hw (by simp) (fun x hx => .inl hx), dh.upd (p := bl b T cs) (p' := bl b T cs') i hi hs (fun x hx => .inl hx)⟩
theorem stB (i : Nat) {u : Value} (hx : ev env x = some (.pointer (some ⟨b, o, none⟩))) (hy : ev env y = some u) (hi : L[i]? = some (bl b T cs)) {E : TypeId} (ht : OneTy c.P E) (hu : u.oneCell' = true) (ho : o < cs.length) (k : WL Q c ops rest env (L.set i (bl b T (cs.set o u))) D) :
 WL Q c ops (⟨none, .store E x y, t, p, af, none⟩ :: rest) env L D :=
 wpl_skip (env' := env) rfl rfl (fun a w f st dh => ⟨w.setCell ⟨b, o, none⟩ u, by
  have hh := bl_heap i hi st
  have h1 : w.cell? ⟨b, o, none⟩ = some cs[o] := by rw [bl_cell i hi st, List.getElem?_eq_getElem ho]
  have h2 : w.frozen? ⟨b, o, none⟩ = false := frozen_of_row w b o _ T hh
  obtain ⟨j, hj, hs⟩ := Option.map_eq_some_iff.1 ht.2
  have hcu : u.cells = #[u] := by cases u <;> first | rfl | simp [Value.oneCell'] at hu
  have hst : (store ⟨b, o, none⟩ u).run c.P w = .ok () (w.setCell ⟨b, o, none⟩ u) := by
   rw [run_store c.P w ⟨b, o, none⟩ u .plain hu]
   simp [stored, h1, h2]
  simp [execOp, f.ev hx, f.ev hy, Instr.storeAt, Instr.sureAddr, storeVar, hcu, sizeOf, typeInfo, hj, hs, storeCells, Addr.add, hst],
  f.putNone _, bl_upd i hi st dh (stp_setCell w b o u) (by
   rw [heap_setCell_same w b o _ T u (bl_heap i hi st)]
   simp)⟩) k
theorem stM (i : Nat) {us : List Value} (hx : ev env x = some (.pointer (some ⟨b, o, none⟩))) (hy : ev env y = some (.agg us.toArray)) (hi : L[i]? = some (bl b T cs)) {E : TypeId} (ht : RowTy c.P E us.length) (hu : us.all (·.oneCell') = true) (ho : o + us.length ≤ cs.length) (k : WL Q c ops rest env (L.set i (bl b T (spl cs o us))) D) :
 WL Q c ops (⟨none, .store E x y, t, p, af, none⟩ :: rest) env L D :=
 wpl_skip (env' := env) rfl rfl (fun a w f st dh => ⟨w.setCells b o us, by
  have hh := bl_heap i hi st
  have := run_storeAt_mid (P := c.P) w b o E us.toArray (fun j hj => by
   have hj' : o + j < cs.length := by simp at hj; omega
   exact ⟨by rw [bl_cell i hi st, List.getElem?_eq_getElem hj']; rfl, frozen_of_row w b _ _ T hh⟩) (by simpa using ht.2) (by simpa using hu)
  simp [execOp, f.ev hx, f.ev hy, this],
  f.putNone _, bl_upd i hi st dh (stp_setCells b us o w) (heap_setCells us cs o w (bl_heap i hi st))⟩) k
theorem pt_open {α : Type} [Rep α] {S : Nat → Prop} {w : World} {pv : Value} {ov : α} (h : Atom.holds ⟨pv, (⟨ov⟩ : Pt α)⟩ S w) : ∃ b o ds, pv = .pointer (some ⟨b, o, none⟩) ∧ S b ∧ Rep.rd S w ds ov ∧ Lies w b o ds := by
 obtain ⟨ha, b, o, ds, hpv, hb, hrd, hl⟩ := h
 simp only at hpv ha
 rw [cells_of_not ha] at hpv
 exact ⟨b, o, ds, by simpa using hpv, hb, hrd, hl⟩
theorem adC {xx : Code} (t : Atom) (ht : ∀ S w, (∀ u ∈ D, u.holds S w) → t.holds S w) (k : WC c xx Q env L (t :: D)) : WC c xx Q env L D :=
 fun a w f st dh => k a w f st (DH.cons (ht _ _ dh) dh)
theorem adQ {e : Exit} (t : Atom) (ht : ∀ S w, (∀ u ∈ D, u.holds S w) → t.holds S w) (k : WQ c Q e env L (t :: D)) : WQ c Q e env L D :=
 fun a w f st dh => k a w f st (DH.cons (ht _ _ dh) dh)
theorem gtC {xx : Code} {q : Prop} (h : ∀ S w, (∀ u ∈ D, u.holds S w) → q) (k : q → WC c xx Q env L D) : WC c xx Q env L D :=
 fun a w f st dh => k (h _ _ dh) a w f st dh
end
def WLQ (Q : Exit → Act → World → Prop) (c : Cx) (ops : Array Oper) (l : List Oper) (env : Env) (L : Own) (D : List Atom) : Prop :=
 ∀ a w, Fr c.n a env → St c.w0 c.M w L → DH D w L → wpQuiet c.P ops (fun w' => Stp [] w w') (fun a' => ∀ w', Stp [] w w' → Q .normal a' w') l a
instance isJ_WLQ (Q : Exit → Act → World → Prop) : IsJ (WLQ Q) where
 read := by
  intro c ops env L D rest o dst σ hg hd env' D' hrun k a w f st dh
  obtain ⟨s, u, hr, f', dh'⟩ := hrun a w f st dh
  have hw : Region.wanted o (yielded ops a.tmps) = true := by simp [Region.wanted, hg]
  unfold wpQuiet
  rw [if_pos hw]
  refine ⟨u, fun w' hw' => ?_, by rw [hd]; exact k s _ w f' st dh'⟩
  unfold Oper.quietAt
  rw [hr w' hw']
  exact ⟨rfl, rfl⟩
 wantY := by
  intro c ops env L D rest dst op t p af g hw k a w f st dh
  have := k a w f st dh
  unfold wpQuiet at this ⊢
  rw [if_pos (hw a w f st dh)]
  rw [if_pos (show Region.wanted ⟨dst, op, t, p, af, none⟩ (yielded ops a.tmps) = true from rfl)] at this
  exact this
 wantN := by
  intro c ops env env' L D rest o hw k a w f st dh
  obtain ⟨h1, h2⟩ := hw a w f st dh
  unfold wpQuiet
  rw [h1]
  simp only [Bool.false_eq_true, if_false]
  exact k _ w h2 st dh
 mono := by
  intro c ops env env' L D D' l h k a w f st dh
  obtain ⟨h1, h2⟩ := h a w f st dh
  exact k a w h1 st h2
 fact := by
  intro c ops env L D l q h k a w f st dh
  exact k (h a w f st dh) a w f st dh
theorem nlQ {c : Cx} {ops : Array Oper} {Q : Exit → Act → World → Prop} {env : Env} {L : Own} {D : List Atom} (h : WQ c Q .normal env L D) : WLQ Q c ops [] env L D :=
 fun a _w f st dh w' hw' => h a w' f (st.step hw') (dh.step hw'.nil)
theorem rgQ {c : Cx} {Q : Exit → Act → World → Prop} {env : Env} {L : Own} {D : List Atom} {id : Nat} {l : List Oper} (hm : c.P.follows .mixedOrders = true) (hB : Region.lexB .any l.toArray = true) (h : WLQ Q c l.toArray l env L D) : WC c (.region id l.toArray true) Q env L D :=
 fun a w f st dh => wp_region_quiet (C := fun w' => Stp [] w w') hm hB (Stp.drew [] w) (h a w f st dh)
section
variable {c : Cx} {ops : Array Oper} {J : Cx → Array Oper → List Oper → Env → Own → List Atom → Prop} [iJ : IsJ J] {env : Env} {L : Own} {D : List Atom} {rest : List Oper} {d : Nat} {v : Value} {t : TypeId} {p : String} {af : Array Edge} {x y z : Operand} {T : TypeId} {b o : Nat} {cs : List Value}
include iJ
theorem fa {s : TypeId} {i off : Nat} (hx : ev env x = some (.pointer (some ⟨b, o, none⟩))) (hf : FieldAt c.P s i off) (hn : Nat.blt d c.n = true) (k : J c ops rest ((d, .pointer (some ⟨b, o + off, none⟩)) :: env) L D) :
 J c ops (⟨some d, .fieldAddr s x i, t, p, af, none⟩ :: rest) env L D :=
 pu rfl rfl hn (fun a w f => by
  obtain ⟨fs, g, j, h1, h2, h3, h4, rfl⟩ := hf
  simp [execOp, f.ev hx, Instr.fieldAt, run_underlying h1, h2, Instr.sureAddr, fieldPlace, sizeOf, typeInfo, h3, h4, Addr.add_mid]) k
theorem nc {a' : Addr} (hx : ev env x = some (.pointer (some a'))) (hn : Nat.blt d c.n = true) (k : J c ops rest ((d, .pointer (some a')) :: env) L D) :
 J c ops (⟨some d, .nilCheck x, t, p, af, none⟩ :: rest) env L D :=
 pu rfl rfl hn (fun a w f => by simp [execOp, f.ev hx]) k
theorem ldB (i : Nat) (hx : ev env x = some (.pointer (some ⟨b, o, none⟩))) (hi : L[i]? = some (bl b T cs)) {E : TypeId} (ht : OneTy c.P E) (hv : cs[o]? = some v) (hn : Nat.blt d c.n = true) (k : J c ops rest ((d, v) :: env) L D) :
 J c ops (⟨some d, .load E x, t, p, af, none⟩ :: rest) env L D :=
 iJ.read (σ := Unit) rfl rfl (fun _ => (d, v) :: env) (fun _ => D) (fun a w f st dh => ⟨(), v, fun w' hs => by
  have := run_loadAt1 (P := c.P) ht (a := ⟨b, o, none⟩) (v := v) (w := w') (by rw [bl_cell i hi (st.step hs)]; exact hv)
  simp [execOp, f.ev hx, this], f.put _ (lt_blt hn), dh⟩) (fun _ => k)
theorem ldM (i : Nat) (ds : List Value) (hx : ev env x = some (.pointer (some ⟨b, o, none⟩))) (hi : L[i]? = some (bl b T cs)) {E : TypeId} (ht : RowTy c.P E ds.length) (hv : (cs.drop o).take ds.length = ds) (hn : Nat.blt d c.n = true) (k : J c ops rest ((d, .agg ds.toArray) :: env) L D) :
 J c ops (⟨some d, .load E x, t, p, af, none⟩ :: rest) env L D :=
 iJ.read (σ := Unit) rfl rfl (fun _ => (d, .agg ds.toArray) :: env) (fun _ => D) (fun a w f st dh => ⟨(), .agg ds.toArray, fun w' hs' => by
  have := run_loadAtM (P := c.P) ht (b := b) (o := o) (w := w') (fun j u hu => by
   have hj : j < ds.length := (List.getElem?_eq_some_iff.1 hu).1
   have h2 : ((cs.drop o).take ds.length)[j]? = ds[j]? := by rw [hv]
   rw [List.getElem?_take, if_pos hj, List.getElem?_drop, hu] at h2
   rw [bl_cell i hi (st.step hs')]
   exact h2)
  simp [execOp, f.ev hx, this], f.put _ (lt_blt hn), dh⟩) (fun _ => k)
theorem ldP {α : Type} [r : Rep α] (i : Nat) {ov : α} {pv : Value} (hx : ev env x = some pv) (hA : D[i]? = some ⟨pv, (⟨ov⟩ : Pt α)⟩) (h1 : Rep.size α = 1) (hag : r.agg = false) (hoc : ∀ S w cs, r.rd S w cs ov → cs.all (fun u => !isAggV u) = true) {E : TypeId} (ht : OneTy c.P E) (hn : Nat.blt d c.n = true) (k : ∀ u, J c ops rest ((d, u) :: env) L (⟨u, ov⟩ :: D)) :
 J c ops (⟨some d, .load E x, t, p, af, none⟩ :: rest) env L D :=
 iJ.read (σ := Value) rfl rfl (fun u => (d, u) :: env) (fun u => ⟨u, ov⟩ :: D) (fun a w f st dh => by
  obtain ⟨b, o, ds, rfl, hb, hrd, hl⟩ := pt_open (dh.at_ i hA)
  have hlen := Rep.len hrd
  rw [h1] at hlen
  match ds, hlen with
  | [u], _ =>
   have hu : isAggV u = false := by simpa using hoc _ _ _ hrd
   refine ⟨u, u, fun w' hs => ?_, f.put _ (lt_blt hn), DH.cons ⟨hu.trans hag.symm, ?_⟩ dh⟩
   · have hc : w'.cell? ⟨b, o, none⟩ = some u := (hl.keep (hs.block b hb.1 (by simp))) 0 u rfl
     have := run_loadAt1 (P := c.P) ht hc
     simp [execOp, f.ev hx, this]
   · show r.rd _ _ u.cells.toList ov
     rw [cells_of_not hu]
     exact hrd) k
theorem ldV {α : Type} {r : Rep α} [q : CellR r] (i : Nat) {ov : α} {pv : Value} (hx : ev env x = some pv) (hA : D[i]? = some (@Atom.mk (Pt α) (@repPt α r) pv ⟨ov⟩)) {E : TypeId} (ht : OneTy c.P E) (hn : Nat.blt d c.n = true) (k : q.wf ov → J c ops rest ((d, q.g ov) :: env) L D) :
 J c ops (⟨some d, .load E x, t, p, af, none⟩ :: rest) env L D := by
 refine iJ.fact (q := ∃ b o, pv = .pointer (some ⟨b, o, none⟩) ∧ q.wf ov) (fun a w f st dh => ?_) ?_
 · obtain ⟨b, o, ds, rfl, hb, hrd, hl⟩ := pt_open (dh.at_ i hA)
   exact ⟨b, o, rfl, (q.h hrd).2⟩
 · rintro ⟨b, o, rfl, hwf⟩
   refine iJ.read (σ := Unit) rfl rfl (fun _ => (d, q.g ov) :: env) (fun _ => D) (fun a w f st dh => ⟨(), q.g ov, fun w' hs => ?_, f.put _ (lt_blt hn), dh⟩) (fun _ => k hwf)
   obtain ⟨b', o', ds', hp, hb', hrd', hl'⟩ := pt_open ((dh.step hs.nil).at_ i hA)
   injection hp with hp
   injection hp with hp
   injection hp with e1 e2
   subst e1 e2
   have e := (q.h hrd').1
   subst e
   have hc : w'.cell? ⟨b, o, none⟩ = some (q.g ov) := hl' 0 _ rfl
   have := run_loadAt1 (P := c.P) ht hc
   simp [execOp, f.ev hx, this]
theorem ldS {α : Type} {s : Shape α} (i : Nat) {ov : α} {pv : Value} (hx : ev env x = some pv) (hA : D[i]? = some (@Atom.mk (Pt α) (@repPt α (Rep.ofShape s)) pv ⟨ov⟩)) {E : TypeId} (ht : RowTy c.P E s.size) (hn : Nat.blt d c.n = true)
 (k : ∀ h, s.wf ov → J c ops rest ((d, .agg (s.cells ov h).toArray) :: env) L ((@Atom.mk α (Rep.ofShape s) (.agg (s.cells ov h).toArray) ov) :: (s.sub ov h ++ D))) :
 J c ops (⟨some d, .load E x, t, p, af, none⟩ :: rest) env L D :=
 iJ.read (σ := { h // s.wf ov }) rfl rfl (fun h => (d, .agg (s.cells ov h.1).toArray) :: env) (fun h => (@Atom.mk α (Rep.ofShape s) (.agg (s.cells ov h.1).toArray) ov) :: (s.sub ov h.1 ++ D)) (fun a w f st dh => by
  obtain ⟨b, o, ds, rfl, hb, ⟨h, rfl, hsub, hwf⟩, hl⟩ := @pt_open α (Rep.ofShape s) _ _ _ _ (dh.at_ i hA)
  refine ⟨⟨h, hwf⟩, .agg (s.cells ov h).toArray, fun w' hs => ?_, f.put _ (lt_blt hn), DH.cons ⟨rfl, ⟨h, by simp [Value.cells], hsub, hwf⟩⟩ (DH.app (fun t ht => hsub t ht) dh)⟩
  have hrun := run_loadAtM (P := c.P) (T := E) (b := b) (o := o) (cs := s.cells ov h) (by rw [s.len]; exact ht) (hl.keep (hs.block b hb.1 (by simp)))
  simp [execOp, f.ev hx, hrun]) (fun h => k h.1 h.2)
theorem faP {α β : Type} {ra : Rep α} {rb : Rep β} (i : Nat) {ov : α} {pv : Value} {s : TypeId} {j off : Nat} (g : α → β) (hx : ev env x = some pv) (hA : D[i]? = some (@Atom.mk (Pt α) (@repPt α ra) pv ⟨ov⟩)) (hf : FieldAt c.P s j off)
 (hg : ∀ S w cs, ra.rd S w cs ov → rb.rd S w ((cs.drop off).take rb.size) (g ov)) (hn : Nat.blt d c.n = true) (k : ∀ u, J c ops rest ((d, u) :: env) L ((@Atom.mk (Pt β) (@repPt β rb) u ⟨g ov⟩) :: D)) :
 J c ops (⟨some d, .fieldAddr s x j, t, p, af, none⟩ :: rest) env L D :=
 iJ.read (σ := Value) rfl rfl (fun u => (d, u) :: env) (fun u => (@Atom.mk (Pt β) (@repPt β rb) u ⟨g ov⟩) :: D) (fun a w f st dh => by
  obtain ⟨b, o, ds, rfl, hb, hrd, hl⟩ := @pt_open α ra _ _ _ _ (dh.at_ i hA)
  obtain ⟨fs, q, jj, h1, h2, h3, h4, rfl⟩ := hf
  refine ⟨.pointer (some ⟨b, o + q.offset, none⟩), _, fun w' hs => ?_, f.put _ (lt_blt hn), DH.cons ⟨rfl, b, o + q.offset, (ds.drop q.offset).take rb.size, rfl, hb, hg _ _ _ hrd, fun j u hu => ?_⟩ dh⟩
  · simp [execOp, f.ev hx, Instr.fieldAt, run_underlying h1, h2, Instr.sureAddr, fieldPlace, sizeOf, typeInfo, h3, h4, Addr.add_mid]
  · rw [List.getElem?_take] at hu
    split at hu
    · rw [List.getElem?_drop] at hu
      have := hl _ _ hu
      rw [← Nat.add_assoc] at this
      exact this
    · cases hu) k
theorem ixP {α : Type} {r : Rep α} (i : Nat) {xs : List α} {e : α} {sv : Value} {m : Int} {T : TypeId} {E : TypeId} (hx : ev env x = some sv) (hA : D[i]? = some (@Atom.mk (List α) (@repList α r) sv xs)) (hy : ev env y = some (.int .i64 m)) (ht : SliceTy c.P T E r.size)
 (h0 : 0 ≤ m) (he : xs[m.toNat]? = some e) (hn : Nat.blt d c.n = true) (k : ∀ u, J c ops rest ((d, u) :: env) L ((@Atom.mk (Pt α) (@repPt α r) u ⟨e⟩) :: D)) :
 J c ops (⟨some d, .indexAddr T x y, t, p, af, none⟩ :: rest) env L D :=
 iJ.read (σ := Value) rfl rfl (fun u => (d, u) :: env) (fun u => (@Atom.mk (Pt α) (@repPt α r) u ⟨e⟩) :: D) (fun a w f st dh => by
  obtain ⟨ha, A, cc, hsv, h1, h2, h3, h4⟩ := dh.at_ i hA
  simp only at hsv ha
  rw [cells_of_not ha] at hsv
  have hsv : sv = .slice A xs.length cc := by simpa using hsv
  subst hsv
  have hlt : m.toNat < xs.length := (List.getElem?_eq_some_iff.1 he).1
  obtain ⟨b, o, rfl, hb, hi⟩ := h4 (by intro h; have h : xs = [] := h; rw [h] at hlt; simp at hlt)
  obtain ⟨ds, hrd, hl⟩ := hi _ _ he
  obtain ⟨j, hj, hs⟩ := Option.map_eq_some_iff.1 ht.2
  refine ⟨.pointer (some ⟨b, o + m.toNat * r.size, none⟩), _, fun w' hs' => ?_, f.put _ (lt_blt hn), DH.cons ⟨rfl, b, _, ds, rfl, hb, hrd, hl⟩ dh⟩
  have hm : m < (xs.length : Int) := by omega
  simp [execOp, f.ev hx, f.ev hy, Instr.indexAt, asIntOf, run_underlying ht.1, h0, hm, sizeOf, typeInfo, hj, hs, Addr.add_mid]) k
theorem lnP {α : Type} {r : Rep α} (i : Nat) {xs : List α} {sv : Value} {T : TypeId} {E : TypeId} (hx : ev env x = some sv) (hA : D[i]? = some (@Atom.mk (List α) (@repList α r) sv xs)) (ht : c.P.underlying T = some (.slice E)) (hn : Nat.blt d c.n = true)
 (k : xs.length ≤ 9223372036854775807 → J c ops rest ((d, .int .i64 (xs.length : Int)) :: env) L D) :
 J c ops (⟨some d, .call { callee := .builtin .len, args := #[x], argTypes := #[T] }, t, p, af, none⟩ :: rest) env L D := by
 refine iJ.fact (q := ∃ A cc, sv = .slice A xs.length cc ∧ xs.length ≤ 9223372036854775807) (fun a w f st dh => ?_) ?_
 · obtain ⟨ha, A, cc, hsv, h1, h2, h3, h4⟩ := dh.at_ i hA
   simp only at hsv ha
   rw [cells_of_not ha] at hsv
   exact ⟨A, cc, by simpa using hsv, h3⟩
 · rintro ⟨A, cc, rfl, h3⟩
   refine pu rfl rfl hn (fun a w f => ?_) (k h3)
   simp [execOp, resolve, invoke, builtin, f.ev hx, Builtin.len_, run_underlying ht, goInt]
theorem lnV {A : Option Addr} {m cc : Nat} {T : TypeId} {E : TypeId} (hx : ev env x = some (.slice A m cc)) (ht : c.P.underlying T = some (.slice E)) (hn : Nat.blt d c.n = true)
 (k : J c ops rest ((d, .int .i64 (m : Int)) :: env) L D) :
 J c ops (⟨some d, .call { callee := .builtin .len, args := #[x], argTypes := #[T] }, t, p, af, none⟩ :: rest) env L D :=
 pu rfl rfl hn (fun a w f => by simp [execOp, resolve, invoke, builtin, f.ev hx, Builtin.len_, run_underlying ht, goInt]) k
theorem lnS {s : ByteArray} {T : TypeId} (hx : ev env x = some (.string s)) (ht : c.P.underlying T = some .string) (hn : Nat.blt d c.n = true)
 (k : J c ops rest ((d, .int .i64 (s.size : Int)) :: env) L D) :
 J c ops (⟨some d, .call { callee := .builtin .len, args := #[x], argTypes := #[T] }, t, p, af, none⟩ :: rest) env L D :=
 pu rfl rfl hn (fun a w f => by simp [execOp, resolve, invoke, builtin, f.ev hx, Builtin.len_, run_underlying ht, goInt]) k
theorem adL {l : List Oper} (t : Atom) (ht : ∀ S w, (∀ u ∈ D, u.holds S w) → t.holds S w) (k : J c ops l env L (t :: D)) : J c ops l env L D :=
 iJ.mono (fun a w f st dh => ⟨f, DH.cons (ht _ _ dh) dh⟩) k
theorem gtL {l : List Oper} {q : Prop} (h : ∀ S w, (∀ u ∈ D, u.holds S w) → q) (k : q → J c ops l env L D) : J c ops l env L D :=
 iJ.fact (fun a w f st dh => h _ _ dh) k
end
end
section
theorem rdL_of {α : Type} [Rep α] {S : Nat → Prop} {w : World} {b o : Nat} : ∀ (xs : List α) (k : Nat), (∀ i x, xs[i]? = some x → ∃ ds, Rep.rd S w ds x ∧ Lies w b (o + (k + i) * Rep.size α) ds) → ∃ css, rdL S w css xs ∧ Lies w b (o + k * Rep.size α) css.flatten
 | [], k, _ => ⟨[], trivial, by intro j u h; simp at h⟩
 | x :: xs, k, h => by
  obtain ⟨ds, h1, h2⟩ := h 0 x rfl
  obtain ⟨css, h3, h4⟩ := rdL_of (S := S) (w := w) (b := b) (o := o) xs (k + 1) (fun i x hx => by
   have := h (i + 1) x hx
   rwa [show k + (i + 1) = k + 1 + i by omega] at this)
  refine ⟨ds :: css, ⟨h1, h3⟩, fun j u hu => ?_⟩
  rw [List.flatten_cons] at hu
  have hl := Rep.len h1
  by_cases hj : j < ds.length
  · rw [List.getElem?_append_left hj] at hu
    exact h2 j u hu
  · rw [List.getElem?_append_right (by omega)] at hu
    have := h4 _ _ hu
    rw [Nat.succ_mul, hl] at this
    rw [show o + (k * Rep.size α + Rep.size α) + (j - Rep.size α) = o + k * Rep.size α + j by omega] at this
    exact this
theorem lies_of {α : Type} [Rep α] {S : Nat → Prop} {w : World} {b : Nat} : ∀ (css : List (List Value)) (xs : List α) (o : Nat), rdL S w css xs → Lies w b o css.flatten → ∀ i x, xs[i]? = some x → ∃ ds, Rep.rd S w ds x ∧ Lies w b (o + i * Rep.size α) ds
 | [], [], _, _, _, i, x, h => by simp at h
 | ds :: css, y :: ys, o, hr, hl, i, x, h => by
  rw [List.flatten_cons] at hl
  have hlen := Rep.len hr.1
  cases i with
  | zero =>
   simp at h
   subst h
   refine ⟨ds, hr.1, fun j u hu => ?_⟩
   have := hl j u (by rw [List.getElem?_append_left (List.getElem?_eq_some_iff.1 hu).1]; exact hu)
   simpa using this
  | succ i =>
   simp only [List.getElem?_cons_succ] at h
   obtain ⟨es, h1, h2⟩ := lies_of css ys (o + Rep.size α) hr.2 (fun j u hu => by
    have := hl (ds.length + j) u (by rw [List.getElem?_append_right (by omega)]; simpa using hu)
    rw [hlen, ← Nat.add_assoc] at this
    exact this) i x h
   refine ⟨es, h1, ?_⟩
   rw [Nat.succ_mul]
   rwa [show o + (i * Rep.size α + Rep.size α) = o + Rep.size α + i * Rep.size α by omega]
 | [], _ :: _, _, h, _, _, _, _ => h.elim
 | _ :: _, [], _, h, _, _, _, _ => h.elim
def AppTy (P : Program) (T e : TypeId) (size bytes : Nat) : Prop := P.underlying T = some (.slice e) ∧ ∃ i z, P.info? e = some i ∧ i.zero = some z ∧ i.size = size ∧ i.bytes = bytes ∧ z.cells.size = size ∧ 0 < size
theorem AppTy.mk {P : Program} {T e : TypeId} {size bytes : Nat} (hu : P.underlying T = some (.slice e)) (h : (P.info? e).map (fun i => (i.zero.map fun z => z.cells.size, i.size, i.bytes)) = some (some size, size, bytes)) (h0 : 0 < size) : AppTy P T e size bytes := by
 obtain ⟨i, hi, hz⟩ := Option.map_eq_some_iff.1 h
 simp only [Prod.mk.injEq] at hz
 obtain ⟨h1, h2, h3⟩ := hz
 obtain ⟨z, hz1, hz2⟩ := Option.map_eq_some_iff.1 h1
 exact ⟨hu, i, z, hi, hz1, h2, h3, hz2, h0⟩
theorem run_append_nil {P : Program} (w : World) {T ty e : TypeId} {size bytes : Nat} (h : AppTy P T e size bytes) {v : Value} {n : Nat} {xs : List Value} (hown : w.ownsRow 0 e size v n xs) (c : Nat) :
 (Builtin.append_ #[T, T] ty #[v, .slice none 0 c]).run P w = .ok v w := by
 obtain ⟨ht, i, z, hi, hz, hs, hb, hzs, h0⟩ := h
 rcases hown.2 with ⟨rfl, rfl⟩ | ⟨g, cap, cur, rfl, _, _, hnc, _⟩
 · simp [Builtin.append_, run_underlying ht, sizeOf, typeInfo, hi, Builtin.lenOf, Builtin.firstCells]
 · simp [Builtin.append_, run_underlying ht, sizeOf, typeInfo, hi, Builtin.lenOf, Builtin.firstCells, hnc, storeCells]
theorem ownBlock_bs {v : Value} {b : Nat} : b ∈ v.ownBlock.toList ↔ v.ownBlock = some b := by simp
theorem Stp.ofGrown {w w' : World} {v : Value} (h : w.grownBy w' v.ownBlock) : Stp v.ownBlock.toList w w' :=
 ⟨h.os, h.tape, h.output, h.size, fun k hk hx => h.block k hk (fun e => hx (ownBlock_bs.2 e.symm))⟩
section
variable {c : Cx} {ops : Array Oper} {Q : Exit → Act → World → Prop} {env : Env} {L : Own} {D : List Atom} {rest : List Oper} {d : Nat} {v : Value} {t : TypeId} {p : String} {af : Array Edge} {x y z : Operand} {T : TypeId} {b o : Nat} {cs : List Value}
theorem rwL {l : List Oper} (α : Type) [Rep α] (e : TypeId) (k : WL Q c ops l env (row e (.slice none 0 0) ([] : List α) :: L) D) : WL Q c ops l env L D := by
 intro a w f st dh
 refine k a w f (st.push (p := row e (.slice none 0 0) ([] : List α)) (Stp.refl _ _) ⟨[], World.ownsRow_nil _ _ _ _, trivial, by simp⟩ (by simp [Value.ownBlock]) (by simp [Value.ownBlock])) (dh.push (Stp.refl _ _) (by simp [Value.ownBlock]))
theorem rwC {xx : Code} (α : Type) [Rep α] (e : TypeId) (k : WC c xx Q env (row e (.slice none 0 0) ([] : List α) :: L) D) : WC c xx Q env L D := by
 intro a w f st dh
 refine k a w f (st.push (p := row e (.slice none 0 0) ([] : List α)) (Stp.refl _ _) ⟨[], World.ownsRow_nil _ _ _ _, trivial, by simp⟩ (by simp [Value.ownBlock]) (by simp [Value.ownBlock])) (dh.push (Stp.refl _ _) (by simp [Value.ownBlock]))
theorem ap {α : Type} {r : Rep α} (i j : Nat) {e : TypeId} {bytes : Nat} {sv yv : Value} {xs ys : List α} (hx : ev env x = some sv) (hy : ev env y = some yv) (hi : L[i]? = some (@row α r e sv xs)) (hj : D[j]? = some (@Atom.mk (List α) (@repList α r) yv ys))
 (ht : AppTy c.P T e r.size bytes) (hb : (xs.length + ys.length) * bytes ≤ 140737488355328) (hb2 : xs.length + ys.length ≤ 140737488355328) (hn : Nat.blt d c.n = true)
 (k : ∀ v, WL Q c ops rest ((d, v) :: env) (L.set i (@row α r e v (xs ++ ys))) D) :
 WL Q c ops (⟨some d, .call { callee := .builtin .append, args := #[x, y], argTypes := #[T, T] }, t, p, af, none⟩ :: rest) env L D := by
 refine wpl_any (σ := Value) rfl rfl (fun v => (d, v) :: env) (fun v => L.set i (@row α r e v (xs ++ ys))) (fun _ => D) (fun a w f st dh => ?_) k
 obtain ⟨css, hown, hrd, hxl⟩ := st.own _ (List.mem_of_getElem? hi)
 obtain ⟨ha, A, cc, hyv, h1, h2, h3, h4⟩ := dh.at_ j hj
 simp only at hyv ha
 rw [cells_of_not ha] at hyv
 have hyv : yv = .slice A ys.length cc := by simpa using hyv
 subst hyv
 have hexec : ∀ (w : World) (u : Value) (w' : World), (Builtin.append_ #[T, T] t #[sv, .slice A ys.length cc]).run c.P w = .ok u w' → (execOp a.eval ⟨some d, .call { callee := .builtin .append, args := #[x, y], argTypes := #[T, T] }, t, p, af, none⟩).run c.P w = .ok (.value u) w' := by
  intro w u w' h
  simp only [execOp, resolve, invoke, builtin, Sem.run_bind, Sem.run_pure, Result.andThen_ok, List.map_toArray, List.map_cons, List.map_nil, f.ev hx, f.ev hy, h]
 by_cases hys : ys = []
 · subst hys
   have hv : ∀ w : World, w.ownsRow 0 e r.size sv xs.length css.flatten → ∃ w', (Builtin.append_ #[T, T] t #[sv, .slice A 0 cc]).run c.P w = .ok sv w' ∧ Stp sv.ownBlock.toList w w' ∧ w'.ownsRow 0 e r.size sv xs.length css.flatten := by
    intro w hown
    cases A with
    | none => exact ⟨w, run_append_nil w ht hown cc, Stp.refl _ _, hown⟩
    | some ad =>
     obtain ⟨hu, ii, zz, hi', hz, hs, hbb, hzs, h0⟩ := ht
     rcases hown.2 with ⟨rfl, hn0⟩ | ⟨g, cap, cur, rfl, _, hg, hnc, _⟩
     · refine ⟨w, ?_, Stp.refl _ _, hown⟩
       simp [Builtin.append_, run_underlying hu, sizeOf, typeInfo, hi', Builtin.lenOf, Builtin.firstCells, loadCells, loadCellsFrom]
     · refine ⟨w, ?_, Stp.refl _ _, hown⟩
       simp [Builtin.append_, run_underlying hu, sizeOf, typeInfo, hi', Builtin.lenOf, Builtin.firstCells, hnc, storeCells, loadCells, loadCellsFrom]
   obtain ⟨w', hrun, hs, hown'⟩ := hv w hown
   have hs' : Stp (row e sv xs).bs w w' := hs
   refine ⟨sv, sv, w', hexec w _ _ hrun, f.put _ (lt_blt hn), ?_, dh.upd i hi hs' (fun b hb => .inl hb)⟩
   refine st.upd i hi hs' ?_ (st_row_nodup sv) (fun b hb => .inl hb)
   refine ⟨css, by simpa using hown', ?_, by simpa using hb2⟩
   rw [List.append_nil]
   exact hrd.keep (fun b hb => ⟨Nat.lt_of_lt_of_le hb.1 hs.size, fun hx => hb.2 (by
    rcases bs_set hi b hx with h | h
    · exact mem_bsOf.2 ⟨_, List.mem_of_getElem? hi, h⟩
    · exact h)⟩) (fun b hb => hs.block b hb.1 (fun hx => hb.2 (mem_bsOf.2 ⟨_, List.mem_of_getElem? hi, hx⟩)))
 · obtain ⟨b, o, rfl, hSb, hel⟩ := h4 hys
   obtain ⟨dss, hr2, hl2⟩ := rdL_of (S := Sf L.bs w) (w := w) (b := b) (o := o) ys 0 (by simpa using hel)
   have ht' := ht
   obtain ⟨hu, ii, zz, hi', hz, hs, hbb, hzs, h0⟩ := ht'
   obtain ⟨v', w', hrun, hown', hgrow, _, hat⟩ := run_append_own_at (P := c.P) w 0 T t e ii zz r.size bytes hu hi' hz hs hbb hzs h0 sv xs.length css.flatten hown ⟨b, o, none⟩ ys.length cc dss.flatten hr2.len
    (fun j u hu => by rw [Addr.add_mid]; have := hl2 j u hu; simpa using this) hr2.one (by simp only [maxLen]; omega) hb (Nat.zero_le _)
   have hstp := Stp.ofGrown hgrow
   have hbs : ∀ b ∈ v'.ownBlock.toList, b ∈ sv.ownBlock.toList ∨ w.heap.size ≤ b := by
    intro b hb
    rcases hat with h | h
    · left; rw [← h]; exact hb
    · right; rw [ownBlock_bs] at hb; rw [h] at hb; injection hb with hb; omega
   refine ⟨v', v', w', hexec w _ _ hrun, f.put _ (lt_blt hn), ?_, dh.upd (p' := row e v' (xs ++ ys)) i hi hstp hbs⟩
   refine st.upd (p' := row e v' (xs ++ ys)) i hi hstp ?_ (st_row_nodup v') hbs
   have hsub : ∀ b, Sf L.bs w b → Sf (Own.bs (L.set i (row e v' (xs ++ ys)))) w' b := fun b hx => ⟨Nat.lt_of_lt_of_le hx.1 hstp.size, fun hy => by
    rcases bs_set hi b hy with h | h
    · rcases hbs b h with h | h
      · exact hx.2 (mem_bsOf.2 ⟨_, List.mem_of_getElem? hi, h⟩)
      · have := hx.1; omega
    · exact hx.2 h⟩
   have hsame : ∀ b, Sf L.bs w b → w'.heap[b]? = w.heap[b]? := fun b hb => hstp.block b hb.1 (fun hx => hb.2 (mem_bsOf.2 ⟨_, List.mem_of_getElem? hi, hx⟩))
   refine ⟨css ++ dss, ?_, (hrd.app hr2).keep hsub hsame, by rw [List.length_append]; exact hb2⟩
   rw [List.flatten_append, List.length_append]
   exact hown'
where
 st_row_nodup (v : Value) : v.ownBlock.toList.Nodup := by cases v.ownBlock <;> simp
theorem row_list {α : Type} {r : Rep α} {e : TypeId} {sv : Value} {xs : List α} {S S' : Nat → Prop} {w : World} (h : (@row α r e sv xs).holds S w) (hs : ∀ b, S b → S' b) (hb : ∀ b ∈ sv.ownBlock.toList, S' b) : Atom.holds (@Atom.mk (List α) (@repList α r) sv xs) S' w := by
 obtain ⟨css, hown, hrd, hl⟩ := h
 have hlen := hrd.len
 rcases hown.2 with ⟨rfl, hn⟩ | ⟨g, cap, cur, rfl, _, hg, hnc, hcm, hcs, htk⟩
 · refine ⟨rfl, none, 0, ?_, (show xs.length ≤ 0 by omega), by omega, Nat.le_trans hl (by decide), fun hx => absurd (List.eq_nil_of_length_eq_zero hn) hx⟩
   rw [hn]; rfl
 · refine ⟨rfl, some ⟨g, 0, none⟩, cap, rfl, hnc, by simpa only [maxLen] using hcm, Nat.le_trans hl (by decide), fun _ => ⟨g, 0, rfl, hb g (by simp [Value.ownBlock]), ?_⟩⟩
   refine lies_of css xs 0 (hrd.keep hs (fun _ _ => rfl)) (fun j u hu => ?_)
   have := World.ownsRow.cells hown (g := g) rfl j u hu
   rwa [Addr.add_mid] at this
theorem frR {α : Type} {r : Rep α} {xx : Code} {e : TypeId} {sv : Value} {xs : List α} (k : WC c xx Q env L ((@Atom.mk (List α) (@repList α r) sv xs) :: D)) : WC c xx Q env (@row α r e sv xs :: L) D :=
 fun a w f st dh => k a w f st.drop (DH.cons (st.freeze fun S hb hS h => row_list h hS hb) dh.drop)
theorem frRL {α : Type} {r : Rep α} {l : List Oper} {e : TypeId} {sv : Value} {xs : List α} (k : WL Q c ops l env L ((@Atom.mk (List α) (@repList α r) sv xs) :: D)) : WL Q c ops l env (@row α r e sv xs :: L) D :=
 fun a w f st dh => k a w f st.drop (DH.cons (st.freeze fun S hb hS h => row_list h hS hb) dh.drop)
theorem frRQ {α : Type} {r : Rep α} {ee : Exit} {e : TypeId} {sv : Value} {xs : List α} (k : WQ c Q ee env L ((@Atom.mk (List α) (@repList α r) sv xs) :: D)) : WQ c Q ee env (@row α r e sv xs :: L) D :=
 fun a w f st dh => k a w f st.drop (DH.cons (st.freeze fun S hb hS h => row_list h hS hb) dh.drop)
theorem fill1 (us : List Value) : ∀ (pre post : List Value) (k : Nat), pre.length = k → us.length = post.length → (∀ u ∈ us, u.oneCell' = true) →
 Instr.fill (fun i => some (i * 1, 1)) (pre ++ post).toArray (us.zipIdx k |>.map fun (u, i) => (i, u)) = some (pre ++ us).toArray := by
 induction us with
 | nil => intro pre post k _ h _; obtain rfl : post = [] := List.eq_nil_of_length_eq_zero h.symm; simp [Instr.fill]
 | cons u r ih =>
  intro pre post k hk hl h1
  cases post with
  | nil => simp at hl
  | cons q post =>
   have hu := h1 u (by simp)
   have hc : u.cells = #[u] := by cases u <;> first | rfl | simp [Value.oneCell'] at hu
   simp only [List.zipIdx_cons, List.map_cons, Instr.fill, hc]
   have h2 := ih (pre ++ [u]) post (k + 1) (by simp [hk]) (by simpa using hl) (fun x hx => h1 x (by simp [hx]))
   have e : (#[u].zipIdx.foldl (fun (cs : Array Value) (x : Value × Nat) => cs.setIfInBounds (k * 1 + x.2) x.1) (pre ++ q :: post).toArray) = (pre ++ [u] ++ post).toArray := by
    simp [← hk]
   simp only [List.append_assoc, List.singleton_append] at h2 ⊢
   rw [if_neg (by simp; omega)]
   simp only [e]
   simpa using h2
def partsOf (xs : List Operand) : List (Nat × Operand) := xs.zipIdx.map fun (x, i) => (i, x)
theorem parts_eval {n : Nat} {a : Act} (f : Fr n a env) {xs : List Operand} {us : List Value} (h : evs env xs = some us) (k : Nat) :
 ((xs.zipIdx k).map fun (x, i) => (i, a.eval x)) = (us.zipIdx k).map fun (u, i) => (i, u) := by
 have := f.evs h
 subst this
 rw [List.zipIdx_map]
 simp [List.map_map, Function.comp_def]
theorem run_buildSlice1 {P : Program} {T E : TypeId} {bytes : Nat} (ht : AppTy P T E 1 bytes) {us : List Value} (hu : ∀ u ∈ us, u.oneCell' = true) (hl : us.length ≤ 1000) (h0 : us ≠ []) (w : World) :
 (Instr.buildSlice T us.length (us.zipIdx.map fun (u, i) => (i, u)).toArray).run P w = .ok (.slice (some ⟨w.heap.size, 0, none⟩) us.length us.length) (w.alloc (.cells us.toArray E)) := by
 obtain ⟨hu', i, z, hi, hz, hs, hb, hzs, _⟩ := ht
 have hf := fill1 us [] (((Array.range us.length).map (z.cells[· % z.cells.size]!)).toList) 0 rfl (by simp) hu
 simp only [List.nil_append, Array.toArray_toList, Nat.mul_one] at hf
 have hpos : 0 < us.length := List.length_pos_iff.2 h0
 have hne : ¬ us.length = 0 := by omega
 have hle : ¬ 16777216 < us.length := by omega
 unfold Instr.buildSlice
 simp only [Sem.run_bind, run_underlying hu', Result.andThen_ok, sizeOf, typeInfo, zeroValue, program, Sem.run, hi, hz, hs, Sem.run_pure, Nat.mul_one, List.toList_toArray, hf, newRow, newObj]
 have hle' : ¬ us.length > 2 ^ 24 := by simpa using hle
 simp [hle', hne, hi, hz, typeInfo, program, Sem.run, hf]
theorem bs1 {xs : List Operand} {us : List Value} {E : TypeId} {bytes : Nat} (hx : evs env xs = some us) (ht : AppTy c.P T E 1 bytes) (hu : us.all (·.oneCell') = true) (hl : Nat.ble us.length 1000 = true) (h0 : us.isEmpty = false) {n : Nat} (hnn : us.length = n) (hn : Nat.blt d c.n = true) {ps : List (Nat × Operand)} (hps : partsOf xs = ps)
 (k : ∀ b, WL Q c ops rest ((d, .slice (some ⟨b, 0, none⟩) n n) :: env) (bl b E us :: L) D) :
 WL Q c ops (⟨some d, .buildSlice T n ps.toArray, t, p, af, none⟩ :: rest) env L D := by
 subst hnn hps
 refine wpl_any (σ := Nat) rfl rfl (fun b => (d, .slice (some ⟨b, 0, none⟩) us.length us.length) :: env) (fun b => bl b E us :: L) (fun _ => D) (fun a w f st dh => ?_) k
 refine ⟨w.heap.size, .slice (some ⟨w.heap.size, 0, none⟩) us.length us.length, w.alloc (.cells us.toArray E), ?_, f.put _ (lt_blt hn), bl_push st dh⟩
 have hp := parts_eval (a := a) f hx 0
 have e : (partsOf xs).toArray.map (fun (i, x) => (i, a.eval x)) = (us.zipIdx.map fun (u, i) => (i, u)).toArray := by
  rw [← hp]
  simp [partsOf, List.map_map, Function.comp_def]
 simp only [execOp]
 rw [e]
 simp only [Sem.run_bind, run_buildSlice1 ht (by simpa using hu) (Nat.le_of_ble_eq_true hl) (by simpa using h0), Result.andThen_ok, Sem.run_pure]
theorem frS {α : Type} [r : Rep α] {l : List Oper} {E : TypeId} (xs : List α) (css : List (List Value)) (hcs : css.flatten = cs) (hr : ∀ S w, (∀ u ∈ D, u.holds S w) → rdL S w css xs) (hl : xs.length ≤ 140737488355328)
 (k : WL Q c ops l env L ((@Atom.mk (List α) (@repList α r) (.slice (some ⟨b, 0, none⟩) xs.length xs.length) xs) :: D)) : WL Q c ops l env (bl b E cs :: L) D := by
 intro a w f st dh
 refine k a w f st.drop (DH.cons ?_ dh.drop)
 have hh : w.heap[b]? = some (.cells cs.toArray E (0, 0)) := st.own _ (List.mem_cons_self ..)
 have hn := st.nd
 simp only [Own.bs, bsOf, List.nodup_append] at hn
 have hS : Sf L.bs w b := ⟨lt_of_heap hh, fun hx => hn.2.2 b (by simp) b hx rfl⟩
 refine ⟨rfl, some ⟨b, 0, none⟩, xs.length, rfl, Nat.le_refl _, by show xs.length ≤ _; omega, Nat.le_trans hl (by decide), fun _ => ⟨b, 0, rfl, hS, ?_⟩⟩
 refine lies_of css xs 0 (hr _ _ fun u hu => dh.drop u hu) (fun j u hu => ?_)
 rw [Nat.zero_add, cell_of_row w b _ _ E (0, 0) hh]
 rw [hcs] at hu
 simpa using hu
theorem frS1 {α : Type} [r : Rep α] {l : List Oper} {E : TypeId} (xx : α) (hr : ∀ S w, (∀ u ∈ D, u.holds S w) → r.rd S w cs xx)
 (k : WL Q c ops l env L ((@Atom.mk (List α) (@repList α r) (.slice (some ⟨b, 0, none⟩) 1 1) [xx]) :: D)) : WL Q c ops l env (bl b E cs :: L) D :=
 frS (r := r) [xx] [cs] (by simp) (fun S w h => ⟨hr S w h, trivial⟩) (by simp) k
end
section
variable {c : Cx} {ops : Array Oper} {J : Cx → Array Oper → List Oper → Env → Own → List Atom → Prop} [iJ : IsJ J] {env : Env} {L : Own} {D : List Atom} {rest : List Oper} {d : Nat} {v : Value} {t : TypeId} {p : String} {af : Array Edge} {x y z : Operand} {T : TypeId} {b o : Nat} {cs : List Value}
include iJ
theorem lnR {α : Type} {r : Rep α} (i : Nat) {e : TypeId} {xs : List α} {sv : Value} {T : TypeId} {E : TypeId} (hx : ev env x = some sv) (hi : L[i]? = some (@row α r e sv xs)) (ht : c.P.underlying T = some (.slice E)) (hn : Nat.blt d c.n = true)
 (k : xs.length ≤ 140737488355328 → J c ops rest ((d, .int .i64 (xs.length : Int)) :: env) L D) :
 J c ops (⟨some d, .call { callee := .builtin .len, args := #[x], argTypes := #[T] }, t, p, af, none⟩ :: rest) env L D := by
 refine iJ.fact (q := ∃ A cc, sv = .slice A xs.length cc ∧ xs.length ≤ 140737488355328) (fun a w f st dh => ?_) ?_
 · obtain ⟨css, hown, hrd, hl⟩ := st.own _ (List.mem_of_getElem? hi)
   rcases hown.2 with ⟨rfl, hn⟩ | ⟨g, cap, cur, rfl, _⟩
   · exact ⟨none, 0, by rw [hn], hl⟩
   · exact ⟨_, _, rfl, hl⟩
 · rintro ⟨A, cc, rfl, hl⟩
   exact lnV hx ht hn (k hl)
end
end
section
theorem inI {x : Int} (h1 : -9223372036854775808 ≤ x := by omega) (h2 : x ≤ 9223372036854775807 := by omega) : InI x := ⟨h1, h2⟩
theorem getE {α : Type} {xs : List α} {i : Nat} (h : i < xs.length) : xs[i]? = some xs[i] := List.getElem?_eq_getElem h
instance decEqBA : DecidableEq ByteArray := fun a b =>
 if h : a.data.toList = b.data.toList then .isTrue (by
  obtain ⟨x⟩ := a
  obtain ⟨y⟩ := b
  congr
  exact Array.toList_inj.1 h)
 else .isFalse (fun e => h (by rw [e]))
theorem beq_ba (a b : ByteArray) : (a.toList == b.toList) = decide (a = b) := by
 rw [ByteArray.toList_eq, ByteArray.toList_eq]
 by_cases h : a = b
 · subst h; simp
 · have : ¬ a.data.toList = b.data.toList := by
    intro e
    apply h
    obtain ⟨x⟩ := a
    obtain ⟨y⟩ := b
    congr
    exact Array.toList_inj.1 e
   rw [beq_eq_false_iff_ne.2 this]
   simp [h]
def ltB (a b : ByteArray) : Bool := Op.bytesLess a.toList b.toList
section
variable {c : Cx} {ops : Array Oper} {J : Cx → Array Oper → List Oper → Env → Own → List Atom → Prop} [iJ : IsJ J] {env : Env} {L : Own} {D : List Atom} {rest : List Oper} {d : Nat} {v : Value} {t : TypeId} {p : String} {af : Array Edge} {x y z : Operand} {T : TypeId} {b o : Nat} {cs : List Value} {xt yt : TypeId}
include iJ
omit iJ in
theorem fr_same {n i : Nat} {a : Act} {env : Env} {u : Value} (f : Fr n a env) (h : lk env i = some u) : Fr n a ((i, u) :: env) := by
 refine ⟨f.size, f.dn, fun j v hj => ?_⟩
 simp only [lk] at hj
 by_cases hij : i = j
 · subst hij
   simp at hj
   subst hj
   exact f.at_ _ _ h
 · have : (i == j) = false := by simpa using hij
   rw [this] at hj
   exact f.at_ _ _ hj
theorem spB {i : Nat} {t : Bool} {l : List Oper} (h : lk env i = some (.bool t)) (h1 : t = true → J c ops l ((i, .bool true) :: env) L D) (h2 : t = false → J c ops l ((i, .bool false) :: env) L D) : J c ops l env L D := by
 cases t
 · exact iJ.mono (fun a w f st dh => ⟨fr_same f h, dh⟩) (h2 rfl)
 · exact iJ.mono (fun a w f st dh => ⟨fr_same f h, dh⟩) (h1 rfl)
theorem spP {i : Nat} {q : Prop} [Decidable q] {l : List Oper} (h : lk env i = some (.bool (decide q))) (h1 : q → J c ops l ((i, .bool true) :: env) L D) (h2 : ¬ q → J c ops l ((i, .bool false) :: env) L D) : J c ops l env L D :=
 spB h (fun e => h1 (of_decide_eq_true e)) (fun e => h2 (of_decide_eq_false e))
variable {s s' : ByteArray}
theorem eqS (hx : ev env x = some (.string s)) (hy : ev env y = some (.string s')) (hn : Nat.blt d c.n = true) (k : J c ops rest ((d, .bool (decide (s = s'))) :: env) L D) :
 J c ops (⟨some d, .binOp .eql xt x y yt, t, p, af, none⟩ :: rest) env L D :=
 pu rfl rfl hn (fun a w f => by simp [execOp, f.ev hx, f.ev hy, eqGuard, binOp, Op.stringOp, beq_ba]) k
theorem neS (hx : ev env x = some (.string s)) (hy : ev env y = some (.string s')) (hn : Nat.blt d c.n = true) (k : J c ops rest ((d, .bool (!decide (s = s'))) :: env) L D) :
 J c ops (⟨some d, .binOp .neq xt x y yt, t, p, af, none⟩ :: rest) env L D :=
 pu rfl rfl hn (fun a w f => by simp [execOp, f.ev hx, f.ev hy, eqGuard, binOp, Op.stringOp, beq_ba]) k
theorem ltS (hx : ev env x = some (.string s)) (hy : ev env y = some (.string s')) (hn : Nat.blt d c.n = true) (k : J c ops rest ((d, .bool (ltB s s')) :: env) L D) :
 J c ops (⟨some d, .binOp .lss xt x y yt, t, p, af, none⟩ :: rest) env L D :=
 pu rfl rfl hn (fun a w f => by simp [execOp, f.ev hx, f.ev hy, eqGuard, binOp, Op.stringOp, ltB]) k
theorem leS (hx : ev env x = some (.string s)) (hy : ev env y = some (.string s')) (hn : Nat.blt d c.n = true) (k : J c ops rest ((d, .bool (ltB s s' || decide (s = s'))) :: env) L D) :
 J c ops (⟨some d, .binOp .leq xt x y yt, t, p, af, none⟩ :: rest) env L D :=
 pu rfl rfl hn (fun a w f => by simp [execOp, f.ev hx, f.ev hy, eqGuard, binOp, Op.stringOp, ltB, beq_ba]) k
theorem gtS (hx : ev env x = some (.string s)) (hy : ev env y = some (.string s')) (hn : Nat.blt d c.n = true) (k : J c ops rest ((d, .bool (!(ltB s s' || decide (s = s')))) :: env) L D) :
 J c ops (⟨some d, .binOp .gtr xt x y yt, t, p, af, none⟩ :: rest) env L D :=
 pu rfl rfl hn (fun a w f => by simp [execOp, f.ev hx, f.ev hy, eqGuard, binOp, Op.stringOp, ltB, beq_ba]) k
theorem geS (hx : ev env x = some (.string s)) (hy : ev env y = some (.string s')) (hn : Nat.blt d c.n = true) (k : J c ops rest ((d, .bool (!(ltB s s'))) :: env) L D) :
 J c ops (⟨some d, .binOp .geq xt x y yt, t, p, af, none⟩ :: rest) env L D :=
 pu rfl rfl hn (fun a w f => by simp [execOp, f.ev hx, f.ev hy, eqGuard, binOp, Op.stringOp, ltB]) k
omit iJ in
theorem run_eqP {P : Program} {T E : TypeId} (hu : P.underlying T = some (.pointer E)) (a : Addr) (w : World) : (Op.equal T (.pointer (some a)) (.pointer none)).run P w = .ok false w := by
 have h : ∀ d : Nat, (Op.equalIn (d + 1) T (.pointer (some a)) (.pointer none)).run P w = .ok false w := fun d => by simp [Op.equalIn, run_underlying hu]
 exact h 9999
theorem eqP {a' : Addr} {E : TypeId} (hu : c.P.underlying xt = some (.pointer E)) (hx : ev env x = some (.pointer (some a'))) (hy : ev env y = some (.pointer none)) (hn : Nat.blt d c.n = true) (k : J c ops rest ((d, .bool false) :: env) L D) :
 J c ops (⟨some d, .binOp .eql xt x y yt, t, p, af, none⟩ :: rest) env L D :=
 pu rfl rfl hn (fun a w f => by simp [execOp, f.ev hx, f.ev hy, eqGuard, binOp, run_eqP hu]) k
theorem neP {a' : Addr} {E : TypeId} (hu : c.P.underlying xt = some (.pointer E)) (hx : ev env x = some (.pointer (some a'))) (hy : ev env y = some (.pointer none)) (hn : Nat.blt d c.n = true) (k : J c ops rest ((d, .bool true) :: env) L D) :
 J c ops (⟨some d, .binOp .neq xt x y yt, t, p, af, none⟩ :: rest) env L D :=
 pu rfl rfl hn (fun a w f => by simp [execOp, f.ev hx, f.ev hy, eqGuard, binOp, run_eqP hu]) k
theorem ncP {α : Type} {r : Rep α} (i : Nat) {ov : α} {pv : Value} (hx : ev env x = some pv) (hA : D[i]? = some (@Atom.mk (Pt α) (@repPt α r) pv ⟨ov⟩)) (hn : Nat.blt d c.n = true) (k : J c ops rest ((d, pv) :: env) L D) :
 J c ops (⟨some d, .nilCheck x, t, p, af, none⟩ :: rest) env L D := by
 refine iJ.fact (q := ∃ a', pv = .pointer (some a')) (fun a w f st dh => ?_) ?_
 · obtain ⟨b, o, ds, rfl, _⟩ := @pt_open α r _ _ _ _ (dh.at_ i hA)
   exact ⟨_, rfl⟩
 · rintro ⟨a', rfl⟩
   exact nc hx hn k
theorem ldL {α : Type} {r : Rep α} (i : Nat) {ov : List α} {pv : Value} (hx : ev env x = some pv) (hA : D[i]? = some (@Atom.mk (Pt (List α)) (@repPt (List α) (@repList α r)) pv ⟨ov⟩)) {E : TypeId} (ht : OneTy c.P E) (hn : Nat.blt d c.n = true) (k : ∀ u, J c ops rest ((d, u) :: env) L ((@Atom.mk (List α) (@repList α r) u ov) :: D)) :
 J c ops (⟨some d, .load E x, t, p, af, none⟩ :: rest) env L D :=
 ldP (r := @repList α r) i hx hA rfl rfl (by rintro S w cs ⟨A, cc, rfl, _⟩; rfl) ht hn k
omit iJ in
theorem part_reads {α : Type} [r : Rep α] {S : Nat → Prop} {w : World} {A : Option Addr} {xs : List α} {cc l h m : Nat} (hd : rdSlice S w [.slice A xs.length cc] xs) (h1 : l ≤ h) (h2 : h ≤ xs.length) (h3 : h ≤ m) (h4 : m ≤ cc) :
 rdSlice S w [.slice (if m = l then A else A.map (·.add (l * r.size))) (h - l) (m - l)] ((xs.take h).drop l) := by
 obtain ⟨A', c', he, g1, g2, g3, g4⟩ := hd
 simp only [List.cons.injEq, Value.slice.injEq, and_true] at he
 obtain ⟨rfl, _, rfl⟩ := he
 have hlen : ((xs.take h).drop l).length = h - l := by simp; omega
 refine ⟨_, m - l, by rw [hlen], by omega, by omega, by omega, fun hne => ?_⟩
 have hlt : l < h := by
  have : ((xs.take h).drop l).length ≠ 0 := fun e => hne (List.eq_nil_of_length_eq_zero e)
  omega
 obtain ⟨b, o, rfl, hS, hi⟩ := g4 (by intro e; rw [e] at h2; simp at h2; omega)
 rw [if_neg (by omega)]
 refine ⟨b, o + l * r.size, by simp [Addr.add_mid], hS, fun i x hx => ?_⟩
 rw [List.getElem?_drop, List.getElem?_take] at hx
 split at hx
 · obtain ⟨ds, hr, hl⟩ := hi _ x hx
   refine ⟨ds, hr, ?_⟩
   rw [Nat.add_mul, ← Nat.add_assoc] at hl
   exact hl
 · cases hx
theorem slP3 {α : Type} {r : Rep α} (i : Nat) {xs : List α} {sv : Value} {lo hi mx : Operand} {l h m : Int} {E : TypeId} (hx : ev env x = some sv) (hA : D[i]? = some (@Atom.mk (List α) (@repList α r) sv xs)) (ht : SliceTy c.P T E r.size)
 (e1 : ev env lo = some (.int .i64 l)) (e2 : ev env hi = some (.int .i64 h)) (e3 : ev env mx = some (.int .i64 m)) (h0 : 0 ≤ l) (h1 : l ≤ h) (h2 : h ≤ m) (h3 : m ≤ (xs.length : Int)) (hn : Nat.blt d c.n = true)
 (k : ∀ u, J c ops rest ((d, u) :: env) L ((@Atom.mk (List α) (@repList α r) u ((xs.take h.toNat).drop l.toNat)) :: D)) :
 J c ops (⟨some d, .slice T x (some lo) (some hi) (some mx), t, p, af, none⟩ :: rest) env L D :=
 iJ.read (σ := Value) rfl rfl (fun u => (d, u) :: env) (fun u => (@Atom.mk (List α) (@repList α r) u ((xs.take h.toNat).drop l.toNat)) :: D) (fun a w f st dh => by
  obtain ⟨ha, hrd⟩ := dh.at_ i hA
  obtain ⟨A, cc, hsv, _⟩ := hrd
  simp only at hsv ha
  rw [cells_of_not ha] at hsv
  have hsv : sv = .slice A xs.length cc := by simpa using hsv
  subst hsv
  have hrd : rdSlice (Sf L.bs w) w [.slice A xs.length cc] xs := (dh.at_ i hA).2
  have hcap : xs.length ≤ cc := by
   obtain ⟨A', c', he, g1, _⟩ := hrd
   simp only [List.cons.injEq, Value.slice.injEq, and_true] at he
   omega
  obtain ⟨j, hj, hs⟩ := Option.map_eq_some_iff.1 ht.2
  have b1 : 0 ≤ m ∧ m ≤ (cc : Int) := by omega
  have b2 : 0 ≤ h ∧ h ≤ (m.toNat : Int) := by omega
  have b3 : 0 ≤ l ∧ l ≤ (h.toNat : Int) := by omega
  have c1 : h ≤ max m 0 := by omega
  have c2 : l ≤ max h 0 := by omega
  refine ⟨.slice (if m.toNat = l.toNat then A else A.map (·.add (l.toNat * r.size))) (h.toNat - l.toNat) (m.toNat - l.toNat), _, fun w' hs' => ?_, f.put _ (lt_blt hn), DH.cons ⟨rfl, part_reads hrd (l := l.toNat) (h := h.toNat) (m := m.toNat) (by omega) (by omega) (by omega) (by omega)⟩ dh⟩
  simp [execOp, f.ev hx, f.ev e1, f.ev e2, f.ev e3, Instr.sliceAt, run_underlying ht.1, Instr.slice, Instr.sliceBounds, Instr.sliceBound, asIntOf, b1, b2, b3, c1, c2, sizeOf, typeInfo, hj, hs]) k
omit iJ in
theorem strOf_bytes (bs : List UInt8) : strOfNums (bs.map fun b => (b.toNat : Int)) = ⟨bs.toArray⟩ := by
 unfold strOfNums
 congr 2
 rw [List.map_map]
 have : ((fun (n : Int) => UInt8.ofNat n.toNat) ∘ fun (b : UInt8) => (b.toNat : Int)) = id := by
  funext b
  simp
 rw [this, List.map_id]
theorem cbs (i : Nat) {bs : List UInt8} {sv : Value} {src e dst : TypeId} (hs : c.P.underlying src = some (.slice e)) (he : c.P.underlying e = some (.int .u8)) (hd : c.P.underlying dst = some .string) (hx : ev env x = some sv) (hA : D[i]? = some (⟨sv, bs⟩ : Atom)) (hn : Nat.blt d c.n = true)
 (k : J c ops rest ((d, .string ⟨bs.toArray⟩) :: env) L D) :
 J c ops (⟨some d, .convert src dst x, t, p, af, none⟩ :: rest) env L D :=
 iJ.read (σ := Unit) rfl rfl (fun _ => (d, .string ⟨bs.toArray⟩) :: env) (fun _ => D) (fun a w0 f st dh0 => by
  refine ⟨(), .string ⟨bs.toArray⟩, fun w hs0 => ?_, f.put _ (lt_blt hn), dh0⟩
  have dh := dh0.step hs0.nil
  obtain ⟨ha, A, cc, hsv, h1, h2, h3, h4⟩ := dh.at_ i hA
  simp only at hsv ha
  rw [cells_of_not ha] at hsv
  have hsv : sv = .slice A bs.length cc := by simpa using hsv
  subst hsv
  by_cases hb : bs = []
  · subst hb
    cases A with
    | none =>
     have := run_convert_bytes_nil (P := c.P) w src e hs he 0 cc dst hd
     simp only [execOp, f.ev hx, Sem.run_bind, List.length_nil, this, Result.andThen_ok, Sem.run_pure]
     rfl
    | some ad =>
     have hrun : (convert src dst (.slice (some ad) 0 cc)).run c.P w = .ok (.string ByteArray.empty) w := by
      rw [run_convert_bytes_string w src dst e _ 0 cc hs he hd]
      simp [Conv.bytesToString, loadCells, loadCellsFrom]
     simp only [execOp, f.ev hx, Sem.run_bind, List.length_nil, hrun, Result.andThen_ok, Sem.run_pure]
     rfl
  · obtain ⟨b, o, rfl, hS, hi⟩ := h4 hb
    have := run_convert_bytes_arg (P := c.P) w src e hs he b o bs.length cc (bs.map fun b => (b.toNat : Int)) (by simp) (fun j hj => by
     have hj' : bs[j]? = some bs[j] := List.getElem?_eq_getElem hj
     obtain ⟨ds, ⟨rfl, _⟩, hl⟩ := hi j _ hj'
     have hsz : Rep.size UInt8 = 1 := rfl
     have := hl 0 _ rfl
     rw [hsz, Nat.mul_one, Nat.add_zero] at this
     rw [this]
     simp [List.getD, hj]) dst hd
    rw [strOf_bytes] at this
    simp only [execOp, f.ev hx, Sem.run_bind, this, Result.andThen_ok, Sem.run_pure]) (fun _ => k)
def EqTy {α : Type} [DecidableEq α] (P : Program) (T : TypeId) (cells : α → List Value) : Prop :=
 P.eqGuardType P.depth T = false ∧ ∀ (a b : α) (w : World), (Op.equalIn 10000 T (.agg (cells a).toArray) (.agg (cells b).toArray)).run P w = .ok (decide (a = b)) w
theorem eqT {α : Type} [DecidableEq α] {cells : α → List Value} (ht : EqTy c.P xt cells) (u u' : α) (hx : ev env x = some (.agg (cells u).toArray)) (hy : ev env y = some (.agg (cells u').toArray)) (hn : Nat.blt d c.n = true) (k : J c ops rest ((d, .bool (decide (u = u'))) :: env) L D) :
 J c ops (⟨some d, .binOp .eql xt x y yt, t, p, af, none⟩ :: rest) env L D :=
 pu rfl rfl hn (fun a w f => by simp [execOp, f.ev hx, f.ev hy, run_eqGuard_agg _ _ _ _ _ _ _ ht.1, run_eql_struct, ht.2]) k
theorem neT {α : Type} [DecidableEq α] {cells : α → List Value} (ht : EqTy c.P xt cells) (u u' : α) (hx : ev env x = some (.agg (cells u).toArray)) (hy : ev env y = some (.agg (cells u').toArray)) (hn : Nat.blt d c.n = true) (k : J c ops rest ((d, .bool (!decide (u = u'))) :: env) L D) :
 J c ops (⟨some d, .binOp .neq xt x y yt, t, p, af, none⟩ :: rest) env L D :=
 pu rfl rfl hn (fun a w f => by simp [execOp, f.ev hx, f.ev hy, run_eqGuard_agg _ _ _ _ _ _ _ ht.1, run_neq_struct, ht.2]) k
end
section
variable {c : Cx} {ops : Array Oper} {Q : Exit → Act → World → Prop} {env : Env} {L : Own} {D : List Atom} {rest : List Oper} {d : Nat} {v : Value} {t : TypeId} {p : String} {af : Array Edge} {x y z : Operand} {s : ByteArray}
theorem csb {src dst e : TypeId} (hs : c.P.underlying src = some .string) (hd : c.P.underlying dst = some (.slice e)) (he : c.P.underlying e = some (.int .u8)) (hx : ev env x = some (.string s)) (hl : s.size ≤ 140737488355328) (hn : Nat.blt d c.n = true)
 (k : ∀ u, WL Q c ops rest ((d, u) :: env) L ((⟨u, s.data.toList⟩ : Atom) :: D)) :
 WL Q c ops (⟨some d, .convert src dst x, t, p, af, none⟩ :: rest) env L D :=
 wpl_any (σ := Value) rfl rfl (fun u => (d, u) :: env) (fun _ => L) (fun u => (⟨u, s.data.toList⟩ : Atom) :: D) (fun a w f st dh => by
  have hrun := run_bytes_of_string (P := c.P) w src dst e s hs hd he
  have hge := grownCap_ge w s.size 0 e
  have hle := grownCap_le_maxLen w s.size 0 e (by simp only [maxLen]; omega)
  generalize hC : grownCap w s.size 0 e = C at hrun hge hle
  have hstp : Stp [] w (w.drew.alloc (.cells (bytesRow s C) e ((bytesRow s C).size, (bytesRow s C).size + 1))) := (Stp.drew [] w).trans (Stp.alloc [] w.drew _)
  refine ⟨.slice (some ⟨w.heap.size, 0, none⟩) s.size C, _, _, by simp only [execOp, f.ev hx, Sem.run_bind, hrun, Result.andThen_ok, Sem.run_pure], f.put _ (lt_blt hn), st.step hstp, DH.cons ⟨rfl, ?_⟩ (dh.step hstp.nil)⟩
  have hlen : s.data.toList.length = s.size := Array.length_toList
  refine ⟨some ⟨w.heap.size, 0, none⟩, C, by rw [hlen]; rfl, by rw [hlen]; exact hge, by simpa only [maxLen] using hle, by rw [hlen]; omega, fun _ => ⟨w.heap.size, 0, rfl, ⟨?_, fun hx => ?_⟩, fun i x hx => ⟨[.int .u8 (x.toNat : Int)], ⟨rfl, trivial⟩, fun j u hu => ?_⟩⟩⟩
  · show w.heap.size < (w.heap.push _).size
    simp
  · have := st.lt _ hx; omega
  · have hj : j = 0 := by
     have := (List.getElem?_eq_some_iff.1 hu).1
     simp at this
     omega
    subst hj
    simp at hu
    subst hu
    have hnew : (w.drew.alloc (.cells (bytesRow s C) e ((bytesRow s C).size, (bytesRow s C).size + 1))).heap[w.heap.size]? = some (.cells (bytesRow s C) e ((bytesRow s C).size, (bytesRow s C).size + 1)) := heap_alloc_new w.drew _
    have hi : i < s.data.size := by
     have := (List.getElem?_eq_some_iff.1 hx).1
     simpa using this
    rw [cell_of_row _ _ _ _ _ _ hnew]
    have hx' : s.data[i]? = some x := by simpa using hx
    have hsz : Rep.size UInt8 = 1 := rfl
    simp only [bytesRow, hsz, Nat.zero_add, Nat.mul_one, Nat.add_zero]
    rw [Array.getElem?_append_left (by simpa using hi)]
    simp [hx']) k
end
end
section
section
variable {c : Cx} {ops : Array Oper} {Q : Exit → Act → World → Prop} {env : Env} {L : Own} {D : List Atom} {rest : List Oper} {d : Nat} {v : Value} {t : TypeId} {p : String} {af : Array Edge}
theorem bs_perm {L L' : Own} (h : L.Perm L') : (bsOf L).Perm (bsOf L') := by
 induction h with
 | nil => exact .refl _
 | cons x _ ih => exact (List.Perm.append_left x.bs ih)
 | swap x y l =>
  simp only [bsOf, ← List.append_assoc]
  exact List.Perm.append_right _ List.perm_append_comm
 | trans _ _ h1 h2 => exact h1.trans h2
theorem St.perm {w0 w : World} {M : List Nat} {L L' : Own} (h : St w0 M w L) (hp : L.Perm L') : St w0 M w L' := by
 have hb := bs_perm hp
 refine ⟨h.stp, fun q hq => q.keep (h.own q (hp.mem_iff.2 hq)) (fun b hx => ⟨hx.1, fun hy => hx.2 (hb.mem_iff.2 hy)⟩) (fun _ _ => rfl), hb.nodup_iff.1 h.nd, fun b hx => h.new b (hb.mem_iff.2 hx)⟩
theorem DH.perm {w : World} {L L' : Own} (h : DH D w L) (hp : L.Perm L') : DH D w L' := by
 have hb := bs_perm hp
 exact fun t ht => Atom.keep (h t ht) (fun b hx => ⟨hx.1, fun hy => hx.2 (hb.mem_iff.2 hy)⟩) (fun _ _ => rfl)
theorem erase_perm : ∀ {L : Own} {i : Nat} {q : OwnE}, L[i]? = some q → L.Perm (q :: L.eraseIdx i)
 | [], i, q, h => by simp at h
 | p :: r, 0, q, h => by simp at h; subst h; exact .refl _
 | p :: r, i + 1, q, h => by
  simp only [List.getElem?_cons_succ] at h
  exact ((erase_perm h).cons p).trans (.swap _ _ _)
theorem mtL (i : Nat) {q : OwnE} {l : List Oper} (hi : L[i]? = some q) (k : WL Q c ops l env (q :: L.eraseIdx i) D) : WL Q c ops l env L D :=
 fun a w f st dh => k a w f (st.perm (erase_perm hi)) (dh.perm (erase_perm hi))
theorem mtC (i : Nat) {q : OwnE} {x : Code} (hi : L[i]? = some q) (k : WC c x Q env (q :: L.eraseIdx i) D) : WC c x Q env L D :=
 fun a w f st dh => k a w f (st.perm (erase_perm hi)) (dh.perm (erase_perm hi))
theorem mtQ (i : Nat) {q : OwnE} {e : Exit} (hi : L[i]? = some q) (k : WQ c Q e env (q :: L.eraseIdx i) D) : WQ c Q e env L D :=
 fun a w f st dh => k a w f (st.perm (erase_perm hi)) (dh.perm (erase_perm hi))
theorem cgP {L0 Lr : Own} {f : FuncId} {us : List Value} {As : List Atom} {β : Type} {R : β → Value → Prop} {L1 : β → Value → Own} {out : β → Value → List Atom} (h : Fnc c.P f us L0 As R L1 out) (hA : SubD As D) :
 ∀ w, St c.w0 c.M w (L0 ++ Lr) → DH D w (L0 ++ Lr) → Ret c.P f us w (fun v w' => ∃ y, R y v ∧ St c.w0 c.M w' (L1 y v ++ Lr) ∧ DH (out y v ++ D) w' (L1 y v ++ Lr)) := by
 intro w st dh
 have hbs : ∀ A : Own, Own.bs (A ++ Lr) = A.bs ++ Lr.bs := fun A => by simp [Own.bs, bsOf_append]
 have hnd := st.nd
 rw [hbs] at hnd
 have hlt : ∀ b, b ∈ L0.bs ∨ b ∈ Lr.bs → b < w.heap.size := fun b hb => st.lt b (by rw [hbs]; exact List.mem_append.2 hb)
 refine (h Lr.bs w hnd (fun b hb => hlt b (.inr hb)) (fun q hq => ?_) (fun t ht => ?_)).mono fun v w' hp => ?_
 · have := st.own q (List.mem_append.2 (.inl hq))
   rwa [hbs] at this
 · have := dh t (hA t ht)
   rwa [hbs] at this
 · obtain ⟨hs, y, hR, hL, hn, hb, ho⟩ := hp
   have hmem : ∀ b, b ∈ Own.bs (L1 y v ++ Lr) → b ∈ Own.bs (L0 ++ Lr) ∨ w.heap.size ≤ b := by
    intro b hx
    rw [hbs] at hx ⊢
    rcases List.mem_append.1 hx with hx | hx
    · exact (hb b hx).imp (fun h => List.mem_append.2 (.inl h)) id
    · exact .inl (List.mem_append.2 (.inr hx))
   have hsub : ∀ b, Sf (Own.bs (L0 ++ Lr)) w b → Sf (Own.bs (L1 y v ++ Lr)) w' b := fun b hx => ⟨Nat.lt_of_lt_of_le hx.1 hs.size, fun hy => by
    rcases hmem b hy with h1 | h1
    · exact hx.2 h1
    · have := hx.1; omega⟩
   have hdis := List.nodup_append.1 hnd
   refine ⟨y, hR, ⟨st.stp.trans_new hs (fun b hx => st.new b (by rw [hbs]; exact List.mem_append.2 (.inl hx))), ?_, ?_, ?_⟩, DH.app (fun t ht => ?_) (dh.turn (hs.mono fun b hx => by rw [hbs]; exact List.mem_append.2 (.inl hx)) hmem)⟩
   · intro q hq
     rcases List.mem_append.1 hq with hq | hq
     · rw [hbs]; exact hL q hq
     · refine q.keep (st.own q (List.mem_append.2 (.inr hq))) hsub (fun b hx => hs.block b ?_ ?_)
       · rcases hx with hx | hx
         · exact hx.1
         · exact hlt b (.inr (mem_bsOf.2 ⟨q, hq, hx⟩))
       · rcases hx with hx | hx
         · exact fun hy => hx.2 (by rw [hbs]; exact List.mem_append.2 (.inl hy))
         · exact fun hy => hdis.2.2 b hy b (mem_bsOf.2 ⟨q, hq, hx⟩) rfl
   · rw [hbs, List.nodup_append]
     refine ⟨hn, hdis.2.1, fun a ha b hb' e => ?_⟩
     subst e
     rcases hb a ha with h1 | h1
     · exact hdis.2.2 a h1 a hb' rfl
     · have := hlt a (.inr hb'); omega
   · intro b hx
     rcases hmem b hx with h1 | h1
     · exact st.new b h1
     · exact .inr (Nat.le_trans st.stp.size h1)
   · rw [hbs]; exact ho t ht
theorem cfP {L0 Lr : Own} {f : FuncId} {vs : List Value} {As : List Atom} {β : Type} {R : β → Value → Prop} {L1 : β → Value → Own} {out : β → Value → List Atom} (h : Fnc c.P f vs L0 As R L1 out) (hok : FnOk c.P f) (hL : L = L0 ++ Lr) {xs : List Operand} {ats : Array TypeId}
 (hxs : evs env xs = some vs) (hA : SubD As D) (hn : Nat.blt d c.n = true) (k : ∀ y v, R y v → WL Q c ops rest ((d, v) :: env) (L1 y v ++ Lr) (out y v ++ D)) :
 WL Q c ops (⟨some d, .call { callee := .value (.func f), args := xs.toArray, argTypes := ats }, t, p, af, none⟩ :: rest) env L D := by
 subst hL
 exact ca_gen (x := .func f) (first := #[]) (cap := #[]) rfl hxs (by simp) hok _ (cgP h hA) (fun _ v => (d, v) :: env) (fun _ v a f => f.put v (lt_blt hn)) k
theorem cfPc {L0 Lr : Own} {f : FuncId} {vs us : List Value} {As : List Atom} {β : Type} {R : β → Value → Prop} {L1 : β → Value → Own} {out : β → Value → List Atom} {first cap : Array Value} {x : Operand} (h : Fnc c.P f us L0 As R L1 out) (hok : FnOk c.P f) (hL : L = L0 ++ Lr) {xs : List Operand} {ats : Array TypeId}
 (hx : ev env x = some (.func (.func f) first cap)) (hxs : evs env xs = some vs) (hus : first.toList ++ vs ++ cap.toList = us) (hA : SubD As D) (hn : Nat.blt d c.n = true) (k : ∀ y v, R y v → WL Q c ops rest ((d, v) :: env) (L1 y v ++ Lr) (out y v ++ D)) :
 WL Q c ops (⟨some d, .call { callee := .value x, args := xs.toArray, argTypes := ats }, t, p, af, none⟩ :: rest) env L D := by
 subst hL
 exact ca_gen hx hxs hus hok _ (cgP h hA) (fun _ v => (d, v) :: env) (fun _ v a f => f.put v (lt_blt hn)) k
end
structure RS where
 deps : Nat → List Nat
 ok : Nat → Value → Prop
 at_ : Nat → Value → List Atom
 L : List Value → Own
 effs : List Nat
def dstOf (l : List Oper) (i : Nat) : Option Nat := (l[i]?).bind (·.dst)
def edge (l : List Oper) (k i : Nat) : Bool := match l[i]? with
 | some o => o.after.toList.any fun e => Region.binds .any e && e.on == k
 | none => false
def keyIn (env : Env) (d : Nat) : Bool := env.any fun p => p.1 == d
def ckDeps (l : List Oper) (deps : Nat → List Nat) : Bool := (List.range l.length).all fun i => (deps i).all fun k => edge l k i && (dstOf l k).isSome
def ckBack (l : List Oper) : Bool := (List.range l.length).all fun i => match l[i]? with
 | some o => o.after.toList.all fun e => !Region.binds .any e || Nat.blt e.on i
 | none => true
def ckDst (l : List Oper) (env : Env) : Bool := (List.range l.length).all fun i => match dstOf l i with
 | none => true
 | some d => !keyIn env d && (List.range l.length).all fun j => i == j || !(dstOf l j == some d)
def ckSize (l : List Oper) (n : Nat) : Bool := l.all fun o => match o.dst with
 | none => true
 | some d => Nat.blt d n
def envOf (l : List Oper) (V : Nat → Value) : List Nat → Env
 | [] => []
 | k :: r => match dstOf l k with
  | some d => (d, V k) :: envOf l V r
  | none => envOf l V r
def atsOf (s : RS) (V : Nat → Value) : List Nat → List Atom
 | [] => []
 | k :: r => s.at_ k (V k) ++ atsOf s V r
def AllP {α : Type} (q : α → Prop) : List α → Prop
 | [] => True
 | x :: r => q x ∧ AllP q r
theorem AllP.mem {α : Type} {q : α → Prop} : ∀ {l : List α}, AllP q l → ∀ x ∈ l, q x
 | y :: r, h, x, hx => by
  rcases List.mem_cons.1 hx with rfl | hx
  · exact h.1
  · exact AllP.mem h.2 x hx
def pre (s : RS) (V : Nat → Value) (j : Nat) : List Value := (s.effs.take j).map V
def slotV (l : List Oper) (a : Act) (i : Nat) : Value := match dstOf l i with
 | some d => a.tmps.getD d undef
 | none => undef
def valOf (l : List Oper) (a : Act) (i : Nat) : Value := slotV l a i
section
variable {c : Cx} {l : List Oper} {s : RS} {env : Env} {D : List Atom} {Q : Exit → Act → World → Prop}
theorem upon_up {P : Program} {o : Oper} {a : Act} {w : World} {K : Act → World → Prop} {Q Q' : Exit → Act → World → Prop} (hp : ∀ ch a w, ¬ Q (.panic ch) a w) (ho : ¬ LetsOut Q) (h : o.wp P a w K Q) : o.wp P a w K Q' := by
 unfold Oper.wp at *
 generalize (execOp a.eval o).run P w = r at *
 cases r with
 | ok n w' =>
  cases n <;> simp only [Oper.upon] at h ⊢ <;> try exact h
  · exact Calls.mono h fun e w'' he => by
     cases e with
     | returned v => exact he
     | panicked ch => exact absurd he (hp _ _ _)
     | outgrown => exact absurd he ho
 | halt x w' =>
  cases x <;> simp only [Oper.upon] at h ⊢ <;> try exact h
  exact absurd h (hp _ _ _)
theorem lk_append {A B : Env} {i : Nat} {v : Value} (h : lk (A ++ B) i = some v) : lk A i = some v ∨ (keyIn A i = false ∧ lk B i = some v) := by
 induction A with
 | nil => exact .inr ⟨rfl, h⟩
 | cons p r ih =>
  obtain ⟨j, u⟩ := p
  simp only [List.cons_append, lk] at h ⊢
  by_cases hj : j = i
  · subst hj
    simp at h ⊢
    exact .inl h
  · have hj' : (j == i) = false := by simpa using hj
    rw [hj'] at h ⊢
    simp only [cond_false] at h ⊢
    rcases ih h with h1 | h1
    · exact .inl h1
    · exact .inr ⟨by simp [keyIn, hj]; simpa [keyIn] using h1.1, h1.2⟩
theorem lk_envOf {V : Nat → Value} : ∀ {is : List Nat} {i : Nat} {v : Value}, lk (envOf l V is) i = some v → ∃ k ∈ is, dstOf l k = some i ∧ V k = v
 | [], _, _, h => by cases h
 | k :: r, i, v, h => by
  simp only [envOf] at h
  split at h
  · rename_i d hd
    simp only [lk] at h
    by_cases hdi : d = i
    · subst hdi
      simp at h
      exact ⟨k, by simp, hd, h⟩
    · have : (d == i) = false := by simpa using hdi
      rw [this] at h
      obtain ⟨k', hk', h1⟩ := lk_envOf h
      exact ⟨k', by simp [hk'], h1⟩
  · obtain ⟨k', hk', h1⟩ := lk_envOf h
    exact ⟨k', by simp [hk'], h1⟩
theorem mem_atsOf {V : Nat → Value} : ∀ {is : List Nat} {t : Atom}, t ∈ atsOf s V is → ∃ k ∈ is, t ∈ s.at_ k (V k)
 | [], _, h => by cases h
 | k :: r, t, h => by
  rcases List.mem_append.1 h with h | h
  · exact ⟨k, by simp, h⟩
  · obtain ⟨k', hk', h1⟩ := mem_atsOf h
    exact ⟨k', by simp [hk'], h1⟩
theorem keyIn_of_lk {env : Env} {i : Nat} {v : Value} (h : lk env i = some v) : keyIn env i = true := by
 induction env with
 | nil => cases h
 | cons p r ih =>
  obtain ⟨j, u⟩ := p
  simp only [lk] at h
  by_cases hj : j = i
  · subst hj; simp [keyIn]
  · have : (j == i) = false := by simpa using hj
    rw [this] at h
    have := ih h
    simp only [keyIn, List.any_cons] at this ⊢
    simp [this]
theorem edge_mem {k i : Nat} {o : Oper} (ho : l[i]? = some o) : edge l k i = true ↔ ∃ e ∈ o.after, Region.binds .any e = true ∧ e.on = k := by
 simp only [edge, ho, List.any_eq_true, Bool.and_eq_true, beq_iff_eq]
 constructor
 · rintro ⟨e, he, h1, h2⟩; exact ⟨e, Array.mem_toList_iff.1 he, h1, h2⟩
 · rintro ⟨e, he, h1, h2⟩; exact ⟨e, Array.mem_toList_iff.2 he, h1, h2⟩
theorem AllP.intro {α : Type} {q : α → Prop} : ∀ {l : List α}, (∀ x ∈ l, q x) → AllP q l
 | [], _ => trivial
 | y :: r, h => ⟨h y (by simp), AllP.intro fun x hx => h x (by simp [hx])⟩
theorem of_at {V : Nat → Value} {k : Nat} {t : Atom} : ∀ {is : List Nat}, k ∈ is → t ∈ s.at_ k (V k) → t ∈ atsOf s V is
 | y :: r, hk, ht => by
  rcases List.mem_cons.1 hk with rfl | hk
  · exact List.mem_append.2 (.inl ht)
  · exact List.mem_append.2 (.inr (of_at hk ht))
theorem getD_true_false {listed : Array Bool} {i : Nat} (h : i < listed.size) : listed.getD i true = listed.getD i false := by simp [h]
theorem getD_set {listed : Array Bool} {i k : Nat} (hi : i < listed.size) : (listed.setIfInBounds i true).getD k false = (i == k || listed.getD k false) := by
 by_cases h : i = k
 · subst h; simp [hi]
 · have : (i == k) = false := by simpa using h
   simp [Array.getElem?_setIfInBounds_ne h, this]
theorem countP_lt {α : Type} {p q : α → Bool} : ∀ {L : List α}, (∀ x ∈ L, q x = true → p x = true) → (∃ x ∈ L, p x = true ∧ q x = false) → L.countP q < L.countP p
 | [], _, h => by obtain ⟨x, hx, _⟩ := h; cases hx
 | y :: r, h, hx => by
  have hle : r.countP q ≤ r.countP p := List.countP_mono_left fun x hx => h x (by simp [hx])
  by_cases hy : p y = true ∧ q y = false
  · rw [List.countP_cons_of_pos hy.1, List.countP_cons_of_neg (by simp [hy.2])]
    omega
  · obtain ⟨x, hx, hp, hq⟩ := hx
    have hxr : x ∈ r := by
     rcases List.mem_cons.1 hx with rfl | hx
     · exact absurd ⟨hp, hq⟩ hy
     · exact hx
    have ih := countP_lt (fun x hx => h x (by simp [hx])) ⟨x, hxr, hp, hq⟩
    by_cases hq : q y = true
    · rw [List.countP_cons_of_pos hq, List.countP_cons_of_pos (h y (by simp) hq)]
      omega
    · rw [List.countP_cons_of_neg hq]
      by_cases hp : p y = true
      · rw [List.countP_cons_of_pos hp]; omega
      · rw [List.countP_cons_of_neg hp]; exact ih
theorem getD_rep (m j : Nat) : (Array.replicate m false).getD j false = false := by
 rcases Nat.lt_or_ge j m with h | h
 · simp [h]
 · simp [h]
end
end
end Go.Eng
