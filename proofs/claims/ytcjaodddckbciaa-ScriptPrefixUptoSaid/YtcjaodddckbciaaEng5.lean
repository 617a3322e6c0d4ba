/- Slices that the call itself makes and appends to; parts of slices; texts and bytes. Generic: no program. -/
import Derived.Test.YtcjaodddckbciaaEng4
import Derived.Maps.AppendAt
import Derived.Deep.AppendLies
import Derived.Laws.BytesArg
import Derived.Laws.IdiomStrings
namespace Go.Eng

theorem rdL_of {α : Type} [Rep α] {S : Nat → Prop} {w : World} {b o : Nat} : ∀ (xs : List α) (k : Nat), (∀ i x, xs[i]? = some x → ∃ ds, Rep.rd S w ds x ∧ Lies w b (o + (k + i) * Rep.size α) ds) → ∃ css, rdL S w css xs ∧ Lies w b (o + k * Rep.size α) css.flatten
  | [], k, _ => ⟨[], trivial, by intro j u h; simp at h⟩
  | x :: xs, k, h => by
    obtain ⟨ds, h1, h2⟩ := h 0 x rfl
    obtain ⟨css, h3, h4⟩ := rdL_of (S := S) (w := w) (b := b) (o := o) xs (k + 1) (fun i x hx => by
      have := h (i + 1) x hx
      rwa [show k + (i + 1) = k + 1 + i by omega] at this)
    refine ⟨ds :: css, ⟨h1, h3⟩, fun j u hu => ?_⟩
    rw [List.flatten_cons] at hu
    have hl := Rep.len h1
    by_cases hj : j < ds.length
    · rw [List.getElem?_append_left hj] at hu
      exact h2 j u hu
    · rw [List.getElem?_append_right (by omega)] at hu
      have := h4 _ _ hu
      rw [Nat.succ_mul, hl] at this
      rw [show o + (k * Rep.size α + Rep.size α) + (j - Rep.size α) = o + k * Rep.size α + j by omega] at this
      exact this
theorem lies_of {α : Type} [Rep α] {S : Nat → Prop} {w : World} {b : Nat} : ∀ (css : List (List Value)) (xs : List α) (o : Nat), rdL S w css xs → Lies w b o css.flatten → ∀ i x, xs[i]? = some x → ∃ ds, Rep.rd S w ds x ∧ Lies w b (o + i * Rep.size α) ds
  | [], [], _, _, _, i, x, h => by simp at h
  | ds :: css, y :: ys, o, hr, hl, i, x, h => by
    rw [List.flatten_cons] at hl
    have hlen := Rep.len hr.1
    cases i with
    | zero =>
      simp at h
      subst h
      refine ⟨ds, hr.1, fun j u hu => ?_⟩
      have := hl j u (by rw [List.getElem?_append_left (List.getElem?_eq_some_iff.1 hu).1]; exact hu)
      simpa using this
    | succ i =>
      simp only [List.getElem?_cons_succ] at h
      obtain ⟨es, h1, h2⟩ := lies_of css ys (o + Rep.size α) hr.2 (fun j u hu => by
        have := hl (ds.length + j) u (by rw [List.getElem?_append_right (by omega)]; simpa using hu)
        rw [hlen, ← Nat.add_assoc] at this
        exact this) i x h
      refine ⟨es, h1, ?_⟩
      rw [Nat.succ_mul]
      rwa [show o + (i * Rep.size α + Rep.size α) = o + Rep.size α + i * Rep.size α by omega]
  | [], _ :: _, _, h, _, _, _, _ => h.elim
  | _ :: _, [], _, h, _, _, _, _ => h.elim

/-- What append has to know of the slice's type: its elements' type, their cells, their bytes. -/
def AppTy (P : Program) (T e : TypeId) (size bytes : Nat) : Prop := P.underlying T = some (.slice e) ∧ ∃ i z, P.info? e = some i ∧ i.zero = some z ∧ i.size = size ∧ i.bytes = bytes ∧ z.cells.size = size ∧ 0 < size
theorem AppTy.mk {P : Program} {T e : TypeId} {size bytes : Nat} (hu : P.underlying T = some (.slice e)) (h : (P.info? e).map (fun i => (i.zero.map fun z => z.cells.size, i.size, i.bytes)) = some (some size, size, bytes)) (h0 : 0 < size) : AppTy P T e size bytes := by
  obtain ⟨i, hi, hz⟩ := Option.map_eq_some_iff.1 h
  simp only [Prod.mk.injEq] at hz
  obtain ⟨h1, h2, h3⟩ := hz
  obtain ⟨z, hz1, hz2⟩ := Option.map_eq_some_iff.1 h1
  exact ⟨hu, i, z, hi, hz1, h2, h3, hz2, h0⟩
theorem AppTy.sl {P : Program} {T e : TypeId} {size bytes : Nat} (h : AppTy P T e size bytes) : SliceTy P T e size := by
  obtain ⟨hu, i, z, hi, _, hs, _⟩ := h
  exact ⟨hu, by rw [hi]; simp [hs]⟩

theorem run_append_nil {P : Program} (w : World) {T ty e : TypeId} {size bytes : Nat} (h : AppTy P T e size bytes) {v : Value} {n : Nat} {xs : List Value} (hown : w.ownsRow 0 e size v n xs) (c : Nat) :
    (Builtin.append_ #[T, T] ty #[v, .slice none 0 c]).run P w = .ok v w := by
  obtain ⟨ht, i, z, hi, hz, hs, hb, hzs, h0⟩ := h
  rcases hown.2 with ⟨rfl, rfl⟩ | ⟨g, cap, cur, rfl, _, _, hnc, _⟩
  · simp [Builtin.append_, run_underlying ht, sizeOf, typeInfo, hi, Builtin.lenOf, Builtin.firstCells]
  · simp [Builtin.append_, run_underlying ht, sizeOf, typeInfo, hi, Builtin.lenOf, Builtin.firstCells, hnc, storeCells]

theorem ownBlock_bs {v : Value} {b : Nat} : b ∈ v.ownBlock.toList ↔ v.ownBlock = some b := by simp

theorem Stp.ofGrown {w w' : World} {v : Value} (h : w.grownBy w' v.ownBlock) : Stp v.ownBlock.toList w w' :=
  ⟨h.os, h.tape, h.output, h.size, fun k hk hx => h.block k hk (fun e => hx (ownBlock_bs.2 e.symm))⟩

section
variable {c : Cx} {ops : Array Oper} {Q : Exit → Act → World → Prop} {env : Env} {L : Own} {D : List Atom} {rest : List Oper} {d : Nat} {v : Value} {t : TypeId} {p : String} {af : Array Edge} {x y z : Operand} {T : TypeId} {b o : Nat} {cs : List Value}

/-- A nil slice, from now on as a slice of one's own. -/
theorem rwL {l : List Oper} (α : Type) [Rep α] (e : TypeId) (k : WL Q c ops l env (row e (.slice none 0 0) ([] : List α) :: L) D) : WL Q c ops l env L D := by
  intro a w f st dh
  refine k a w f (st.push (p := row e (.slice none 0 0) ([] : List α)) (Stp.refl _ _) ⟨[], World.ownsRow_nil _ _ _ _, trivial, by simp⟩ (by simp [Value.ownBlock]) (by simp [Value.ownBlock])) (dh.push (Stp.refl _ _) (by simp [Value.ownBlock]))
theorem rwC {xx : Code} (α : Type) [Rep α] (e : TypeId) (k : WC c xx Q env (row e (.slice none 0 0) ([] : List α) :: L) D) : WC c xx Q env L D := by
  intro a w f st dh
  refine k a w f (st.push (p := row e (.slice none 0 0) ([] : List α)) (Stp.refl _ _) ⟨[], World.ownsRow_nil _ _ _ _, trivial, by simp⟩ (by simp [Value.ownBlock]) (by simp [Value.ownBlock])) (dh.push (Stp.refl _ _) (by simp [Value.ownBlock]))

/-- out = append(out, ys...): out of one's own, ys something that stands. -/
theorem ap {α : Type} {r : Rep α} (i j : Nat) {e : TypeId} {bytes : Nat} {sv yv : Value} {xs ys : List α} (hx : ev env x = some sv) (hy : ev env y = some yv) (hi : L[i]? = some (@row α r e sv xs)) (hj : D[j]? = some (@Atom.mk (List α) (@repList α r) yv ys))
    (ht : AppTy c.P T e r.size bytes) (hb : (xs.length + ys.length) * bytes ≤ 140737488355328) (hb2 : xs.length + ys.length ≤ 140737488355328) (hn : Nat.blt d c.n = true)
    (k : ∀ v, WL Q c ops rest ((d, v) :: env) (L.set i (@row α r e v (xs ++ ys))) D) :
    WL Q c ops (⟨some d, .call { callee := .builtin .append, args := #[x, y], argTypes := #[T, T] }, t, p, af, none⟩ :: rest) env L D := by
  refine wpl_any (σ := Value) rfl rfl (fun v => (d, v) :: env) (fun v => L.set i (@row α r e v (xs ++ ys))) (fun _ => D) (fun a w f st dh => ?_) k
  obtain ⟨css, hown, hrd, hxl⟩ := st.own _ (List.mem_of_getElem? hi)
  obtain ⟨ha, A, cc, hyv, h1, h2, h3, h4⟩ := dh.at_ j hj
  simp only at hyv ha
  rw [cells_of_not ha] at hyv
  have hyv : yv = .slice A ys.length cc := by simpa using hyv
  subst hyv
  have hexec : ∀ (w : World) (u : Value) (w' : World), (Builtin.append_ #[T, T] t #[sv, .slice A ys.length cc]).run c.P w = .ok u w' → (execOp a.eval ⟨some d, .call { callee := .builtin .append, args := #[x, y], argTypes := #[T, T] }, t, p, af, none⟩).run c.P w = .ok (.value u) w' := by
    intro w u w' h
    simp only [execOp, resolve, invoke, builtin, Sem.run_bind, Sem.run_pure, Result.andThen_ok, List.map_toArray, List.map_cons, List.map_nil, f.ev hx, f.ev hy, h]
  by_cases hys : ys = []
  · subst hys
    have hv : ∀ w : World, w.ownsRow 0 e r.size sv xs.length css.flatten → ∃ w', (Builtin.append_ #[T, T] t #[sv, .slice A 0 cc]).run c.P w = .ok sv w' ∧ Stp sv.ownBlock.toList w w' ∧ w'.ownsRow 0 e r.size sv xs.length css.flatten := by
      intro w hown
      cases A with
      | none => exact ⟨w, run_append_nil w ht hown cc, Stp.refl _ _, hown⟩
      | some ad =>
        obtain ⟨hu, ii, zz, hi', hz, hs, hbb, hzs, h0⟩ := ht
        rcases hown.2 with ⟨rfl, hn0⟩ | ⟨g, cap, cur, rfl, _, hg, hnc, _⟩
        · refine ⟨w, ?_, Stp.refl _ _, hown⟩
          simp [Builtin.append_, run_underlying hu, sizeOf, typeInfo, hi', Builtin.lenOf, Builtin.firstCells, loadCells, loadCellsFrom]
        · refine ⟨w, ?_, Stp.refl _ _, hown⟩
          simp [Builtin.append_, run_underlying hu, sizeOf, typeInfo, hi', Builtin.lenOf, Builtin.firstCells, hnc, storeCells, loadCells, loadCellsFrom]
    obtain ⟨w', hrun, hs, hown'⟩ := hv w hown
    have hs' : Stp (row e sv xs).bs w w' := hs
    refine ⟨sv, sv, w', hexec w _ _ hrun, f.put _ (lt_blt hn), ?_, dh.upd i hi hs' (fun b hb => .inl hb)⟩
    refine st.upd i hi hs' ?_ (st_row_nodup sv) (fun b hb => .inl hb)
    refine ⟨css, by simpa using hown', ?_, by simpa using hb2⟩
    rw [List.append_nil]
    exact hrd.keep (fun b hb => ⟨Nat.lt_of_lt_of_le hb.1 hs.size, fun hx => hb.2 (by
      rcases bs_set hi b hx with h | h
      · exact mem_bsOf.2 ⟨_, List.mem_of_getElem? hi, h⟩
      · exact h)⟩) (fun b hb => hs.block b hb.1 (fun hx => hb.2 (mem_bsOf.2 ⟨_, List.mem_of_getElem? hi, hx⟩)))
  · obtain ⟨b, o, rfl, hSb, hel⟩ := h4 hys
    obtain ⟨dss, hr2, hl2⟩ := rdL_of (S := Sf L.bs w) (w := w) (b := b) (o := o) ys 0 (by simpa using hel)
    have ht' := ht
    obtain ⟨hu, ii, zz, hi', hz, hs, hbb, hzs, h0⟩ := ht'
    obtain ⟨v', w', hrun, hown', hgrow, _, hat⟩ := run_append_own_at (P := c.P) w 0 T t e ii zz r.size bytes hu hi' hz hs hbb hzs h0 sv xs.length css.flatten hown ⟨b, o, none⟩ ys.length cc dss.flatten hr2.len
      (fun j u hu => by rw [Addr.add_mid]; have := hl2 j u hu; simpa using this) hr2.one (by simp only [maxLen]; omega) hb (Nat.zero_le _)
    have hstp := Stp.ofGrown hgrow
    have hbs : ∀ b ∈ v'.ownBlock.toList, b ∈ sv.ownBlock.toList ∨ w.heap.size ≤ b := by
      intro b hb
      rcases hat with h | h
      · left; rw [← h]; exact hb
      · right; rw [ownBlock_bs] at hb; rw [h] at hb; injection hb with hb; omega
    refine ⟨v', v', w', hexec w _ _ hrun, f.put _ (lt_blt hn), ?_, dh.upd (p' := row e v' (xs ++ ys)) i hi hstp hbs⟩
    refine st.upd (p' := row e v' (xs ++ ys)) i hi hstp ?_ (st_row_nodup v') hbs
    have hsub : ∀ b, Sf L.bs w b → Sf (Own.bs (L.set i (row e v' (xs ++ ys)))) w' b := fun b hx => ⟨Nat.lt_of_lt_of_le hx.1 hstp.size, fun hy => by
      rcases bs_set hi b hy with h | h
      · rcases hbs b h with h | h
        · exact hx.2 (mem_bsOf.2 ⟨_, List.mem_of_getElem? hi, h⟩)
        · have := hx.1; omega
      · exact hx.2 h⟩
    have hsame : ∀ b, Sf L.bs w b → w'.heap[b]? = w.heap[b]? := fun b hb => hstp.block b hb.1 (fun hx => hb.2 (mem_bsOf.2 ⟨_, List.mem_of_getElem? hi, hx⟩))
    refine ⟨css ++ dss, ?_, (hrd.app hr2).keep hsub hsame, by rw [List.length_append]; exact hb2⟩
    rw [List.flatten_append, List.length_append]
    exact hown'
where
  st_row_nodup (v : Value) : v.ownBlock.toList.Nodup := by cases v.ownBlock <;> simp

/-- A slice of one's own is let stand: it reads as a list from now on. -/
theorem row_list {α : Type} {r : Rep α} {e : TypeId} {sv : Value} {xs : List α} {S S' : Nat → Prop} {w : World} (h : (@row α r e sv xs).holds S w) (hs : ∀ b, S b → S' b) (hb : ∀ b ∈ sv.ownBlock.toList, S' b) : Atom.holds (@Atom.mk (List α) (@repList α r) sv xs) S' w := by
  obtain ⟨css, hown, hrd, hl⟩ := h
  have hlen := hrd.len
  rcases hown.2 with ⟨rfl, hn⟩ | ⟨g, cap, cur, rfl, _, hg, hnc, hcm, hcs, htk⟩
  · refine ⟨rfl, none, 0, ?_, (show xs.length ≤ 0 by omega), by omega, Nat.le_trans hl (by decide), fun hx => absurd (List.eq_nil_of_length_eq_zero hn) hx⟩
    rw [hn]; rfl
  · refine ⟨rfl, some ⟨g, 0, none⟩, cap, rfl, hnc, by simpa only [maxLen] using hcm, Nat.le_trans hl (by decide), fun _ => ⟨g, 0, rfl, hb g (by simp [Value.ownBlock]), ?_⟩⟩
    refine lies_of css xs 0 (hrd.keep hs (fun _ _ => rfl)) (fun j u hu => ?_)
    have := World.ownsRow.cells hown (g := g) rfl j u hu
    rwa [Addr.add_mid] at this
theorem frR {α : Type} {r : Rep α} {xx : Code} {e : TypeId} {sv : Value} {xs : List α} (k : WC c xx Q env L ((@Atom.mk (List α) (@repList α r) sv xs) :: D)) : WC c xx Q env (@row α r e sv xs :: L) D :=
  fun a w f st dh => k a w f st.drop (DH.cons (st.freeze fun S hb hS h => row_list h hS hb) dh.drop)
theorem frRL {α : Type} {r : Rep α} {l : List Oper} {e : TypeId} {sv : Value} {xs : List α} (k : WL Q c ops l env L ((@Atom.mk (List α) (@repList α r) sv xs) :: D)) : WL Q c ops l env (@row α r e sv xs :: L) D :=
  fun a w f st dh => k a w f st.drop (DH.cons (st.freeze fun S hb hS h => row_list h hS hb) dh.drop)
theorem frRQ {α : Type} {r : Rep α} {ee : Exit} {e : TypeId} {sv : Value} {xs : List α} (k : WQ c Q ee env L ((@Atom.mk (List α) (@repList α r) sv xs) :: D)) : WQ c Q ee env (@row α r e sv xs :: L) D :=
  fun a w f st dh => k a w f st.drop (DH.cons (st.freeze fun S hb hS h => row_list h hS hb) dh.drop)


/-- A literal slice: a block of one's own; its elements are one cell each. -/
theorem fill1 (us : List Value) : ∀ (pre post : List Value) (k : Nat), pre.length = k → us.length = post.length → (∀ u ∈ us, u.oneCell' = true) →
    Instr.fill (fun i => some (i * 1, 1)) (pre ++ post).toArray (us.zipIdx k |>.map fun (u, i) => (i, u)) = some (pre ++ us).toArray := by
  induction us with
  | nil => intro pre post k _ h _; obtain rfl : post = [] := List.eq_nil_of_length_eq_zero h.symm; simp [Instr.fill]
  | cons u r ih =>
    intro pre post k hk hl h1
    cases post with
    | nil => simp at hl
    | cons q post =>
      have hu := h1 u (by simp)
      have hc : u.cells = #[u] := by cases u <;> first | rfl | simp [Value.oneCell'] at hu
      simp only [List.zipIdx_cons, List.map_cons, Instr.fill, hc]
      have h2 := ih (pre ++ [u]) post (k + 1) (by simp [hk]) (by simpa using hl) (fun x hx => h1 x (by simp [hx]))
      have e : (#[u].zipIdx.foldl (fun (cs : Array Value) (x : Value × Nat) => cs.setIfInBounds (k * 1 + x.2) x.1) (pre ++ q :: post).toArray) = (pre ++ [u] ++ post).toArray := by
        simp [← hk]
      simp only [List.append_assoc, List.singleton_append] at h2 ⊢
      rw [if_neg (by simp; omega)]
      simp only [e]
      simpa using h2

/-- The operands of a literal slice, in order. -/
def partsOf (xs : List Operand) : List (Nat × Operand) := xs.zipIdx.map fun (x, i) => (i, x)
theorem parts_eval {n : Nat} {a : Act} (f : Fr n a env) {xs : List Operand} {us : List Value} (h : evs env xs = some us) (k : Nat) :
    ((xs.zipIdx k).map fun (x, i) => (i, a.eval x)) = (us.zipIdx k).map fun (u, i) => (i, u) := by
  have := f.evs h
  subst this
  rw [List.zipIdx_map]
  simp [List.map_map, Function.comp_def]

theorem run_buildSlice1 {P : Program} {T E : TypeId} {bytes : Nat} (ht : AppTy P T E 1 bytes) {us : List Value} (hu : ∀ u ∈ us, u.oneCell' = true) (hl : us.length ≤ 1000) (h0 : us ≠ []) (w : World) :
    (Instr.buildSlice T us.length (us.zipIdx.map fun (u, i) => (i, u)).toArray).run P w = .ok (.slice (some ⟨w.heap.size, 0, none⟩) us.length us.length) (w.alloc (.cells us.toArray E)) := by
  obtain ⟨hu', i, z, hi, hz, hs, hb, hzs, _⟩ := ht
  have hf := fill1 us [] (((Array.range us.length).map (z.cells[· % z.cells.size]!)).toList) 0 rfl (by simp) hu
  simp only [List.nil_append, Array.toArray_toList, Nat.mul_one] at hf
  have hpos : 0 < us.length := List.length_pos_iff.2 h0
  have hne : ¬ us.length = 0 := by omega
  have hle : ¬ 16777216 < us.length := by omega
  unfold Instr.buildSlice
  simp only [Sem.run_bind, run_underlying hu', Result.andThen_ok, sizeOf, typeInfo, zeroValue, program, Sem.run, hi, hz, hs, Sem.run_pure, Nat.mul_one, List.toList_toArray, hf, newRow, newObj]
  have hle' : ¬ us.length > 2 ^ 24 := by simpa using hle
  simp [hle', hne, hi, hz, typeInfo, program, Sem.run, hf]
theorem bs1 {xs : List Operand} {us : List Value} {E : TypeId} {bytes : Nat} (hx : evs env xs = some us) (ht : AppTy c.P T E 1 bytes) (hu : us.all (·.oneCell') = true) (hl : Nat.ble us.length 1000 = true) (h0 : us.isEmpty = false) {n : Nat} (hnn : us.length = n) (hn : Nat.blt d c.n = true) {ps : List (Nat × Operand)} (hps : partsOf xs = ps)
    (k : ∀ b, WL Q c ops rest ((d, .slice (some ⟨b, 0, none⟩) n n) :: env) (bl b E us :: L) D) :
    WL Q c ops (⟨some d, .buildSlice T n ps.toArray, t, p, af, none⟩ :: rest) env L D := by
  subst hnn hps
  refine wpl_any (σ := Nat) rfl rfl (fun b => (d, .slice (some ⟨b, 0, none⟩) us.length us.length) :: env) (fun b => bl b E us :: L) (fun _ => D) (fun a w f st dh => ?_) k
  refine ⟨w.heap.size, .slice (some ⟨w.heap.size, 0, none⟩) us.length us.length, w.alloc (.cells us.toArray E), ?_, f.put _ (lt_blt hn), bl_push st dh⟩
  have hp := parts_eval (a := a) f hx 0
  have e : (partsOf xs).toArray.map (fun (i, x) => (i, a.eval x)) = (us.zipIdx.map fun (u, i) => (i, u)).toArray := by
    rw [← hp]
    simp [partsOf, List.map_map, Function.comp_def]
  simp only [execOp]
  rw [e]
  simp only [Sem.run_bind, run_buildSlice1 ht (by simpa using hu) (Nat.le_of_ble_eq_true hl) (by simpa using h0), Result.andThen_ok, Sem.run_pure]

/-- A literal of one's own is let stand as a list. -/
theorem frS {α : Type} [r : Rep α] {l : List Oper} {E : TypeId} (xs : List α) (css : List (List Value)) (hcs : css.flatten = cs) (hr : ∀ S w, (∀ u ∈ D, u.holds S w) → rdL S w css xs) (hl : xs.length ≤ 140737488355328)
    (k : WL Q c ops l env L ((@Atom.mk (List α) (@repList α r) (.slice (some ⟨b, 0, none⟩) xs.length xs.length) xs) :: D)) : WL Q c ops l env (bl b E cs :: L) D := by
  intro a w f st dh
  refine k a w f st.drop (DH.cons ?_ dh.drop)
  have hh : w.heap[b]? = some (.cells cs.toArray E (0, 0)) := st.own _ (List.mem_cons_self ..)
  have hn := st.nd
  simp only [Own.bs, bsOf, List.nodup_append] at hn
  have hS : Sf L.bs w b := ⟨lt_of_heap hh, fun hx => hn.2.2 b (by simp) b hx rfl⟩
  refine ⟨rfl, some ⟨b, 0, none⟩, xs.length, rfl, Nat.le_refl _, by show xs.length ≤ _; omega, Nat.le_trans hl (by decide), fun _ => ⟨b, 0, rfl, hS, ?_⟩⟩
  refine lies_of css xs 0 (hr _ _ fun u hu => dh.drop u hu) (fun j u hu => ?_)
  rw [Nat.zero_add, cell_of_row w b _ _ E (0, 0) hh]
  rw [hcs] at hu
  simpa using hu
/-- The same of one element. -/
theorem frS1 {α : Type} [r : Rep α] {l : List Oper} {E : TypeId} (xx : α) (hr : ∀ S w, (∀ u ∈ D, u.holds S w) → r.rd S w cs xx)
    (k : WL Q c ops l env L ((@Atom.mk (List α) (@repList α r) (.slice (some ⟨b, 0, none⟩) 1 1) [xx]) :: D)) : WL Q c ops l env (bl b E cs :: L) D :=
  frS (r := r) [xx] [cs] (by simp) (fun S w h => ⟨hr S w h, trivial⟩) (by simp) k
end
section
variable {c : Cx} {ops : Array Oper} {J : Cx → Array Oper → List Oper → Env → Own → List Atom → Prop} [iJ : IsJ J] {env : Env} {L : Own} {D : List Atom} {rest : List Oper} {d : Nat} {v : Value} {t : TypeId} {p : String} {af : Array Edge} {x y z : Operand} {T : TypeId} {b o : Nat} {cs : List Value}
include iJ
/-- The length of a slice of one's own. -/
theorem lnR {α : Type} {r : Rep α} (i : Nat) {e : TypeId} {xs : List α} {sv : Value} {T : TypeId} {E : TypeId} (hx : ev env x = some sv) (hi : L[i]? = some (@row α r e sv xs)) (ht : c.P.underlying T = some (.slice E)) (hn : Nat.blt d c.n = true)
    (k : xs.length ≤ 140737488355328 → J c ops rest ((d, .int .i64 (xs.length : Int)) :: env) L D) :
    J c ops (⟨some d, .call { callee := .builtin .len, args := #[x], argTypes := #[T] }, t, p, af, none⟩ :: rest) env L D := by
  refine iJ.fact (q := ∃ A cc, sv = .slice A xs.length cc ∧ xs.length ≤ 140737488355328) (fun a w f st dh => ?_) ?_
  · obtain ⟨css, hown, hrd, hl⟩ := st.own _ (List.mem_of_getElem? hi)
    rcases hown.2 with ⟨rfl, hn⟩ | ⟨g, cap, cur, rfl, _⟩
    · exact ⟨none, 0, by rw [hn], hl⟩
    · exact ⟨_, _, rfl, hl⟩
  · rintro ⟨A, cc, rfl, hl⟩
    exact lnV hx ht hn (k hl)
end
end Go.Eng
