/- Part 3 of auditPlays_holds. -/
import Derived.Scope
import Derived.Great.BuildSlice
import Derived.Laws.Cover3
import Derived.Laws.Externs
import Derived.Lib.Bytealg
import Derived.StillTail
import Derived.Test.YtmpoffijcfaalaaGreatAp2

set_option maxRecDepth 20000
set_option maxHeartbeats 1000000
namespace Go.Eng
section
def VV (vals : Nat → Option Value) (V : Nat → Value) (i : Nat) : Value := (vals i).getD (V i)
theorem AllP.imp {α : Type} {q q' : α → Prop} : ∀ {l : List α}, AllP q l → (∀ x ∈ l, q x → q' x) → AllP q' l
 | [], _, _ => trivial
 | x :: r, h, hi => ⟨hi x (List.mem_cons_self ..) h.1, AllP.imp h.2 fun y hy => hi y (List.mem_cons_of_mem _ hy)⟩
theorem envOf_congr {l : List Oper} {V V' : Nat → Value} : ∀ {ks : List Nat}, (∀ k ∈ ks, (dstOf l k).isSome = true → V k = V' k) → envOf l V ks = envOf l V' ks
 | [], _ => rfl
 | k :: r, h => by
  have ih := envOf_congr (ks := r) fun x hx => h x (List.mem_cons_of_mem _ hx)
  have hk := h k (List.mem_cons_self ..)
  simp only [envOf]
  cases hd : dstOf l k with
  | none => exact ih
  | some d => rw [hd] at hk; simp only; rw [ih, hk rfl]
theorem atsOf_congr {s : RS} {V V' : Nat → Value} : ∀ {ks : List Nat}, (∀ k ∈ ks, V k = V' k) → atsOf s V ks = atsOf s V' ks
 | [], _ => rfl
 | k :: r, h => by
  simp only [atsOf]
  rw [h k (List.mem_cons_self ..), atsOf_congr fun x hx => h x (List.mem_cons_of_mem _ hx)]
section
variable {c : Cx} {l : List Oper} {s : RS} {vals : Nat → Option Value} {env : Env} {D : List Atom} {Q : Exit → Act → World → Prop}
end
section
variable {c : Cx} {ops : Array Oper} {Q : Exit → Act → World → Prop} {env : Env} {L : Own} {D : List Atom} {rest : List Oper} {d : Nat} {v : Value} {t : TypeId} {p : String} {af : Array Edge}
theorem cfq {f : FuncId} {vs : List Value} {As : List Atom} {v : Value} (h : FnV c.P f vs As v) (hok : FnOk c.P f) {xs : List Operand} {ats : Array TypeId}
 (hxs : evs env xs = some vs) (hA : SubD As D) (hn : Nat.blt d c.n = true) (k : WLQ Q c ops rest ((d, v) :: env) L D) :
 WLQ Q c ops (⟨some d, .call { callee := .value (.func f), args := xs.toArray, argTypes := ats }, t, p, af, none⟩ :: rest) env L D := by
 intro a w fr st dh
 unfold wpQuiet
 rw [if_pos (show Region.wanted ⟨some d, .call { callee := .value (.func f), args := xs.toArray, argTypes := ats }, t, p, af, none⟩ (yielded ops a.tmps) = true from rfl)]
 refine ⟨v, fun w' hw' => ?_, k _ w (fr.put v (lt_blt hn)) st dh⟩
 have hrun := run_call (P := c.P) (ρ := a.eval) (o := ⟨some d, .call { callee := .value (.func f), args := xs.toArray, argTypes := ats }, t, p, af, none⟩) (x := .func f) (xs := xs) (ats := ats) (f := f) (first := #[]) (cap := #[]) (vs := vs) rfl rfl (fr.evs hxs) hok w'
 simp only [List.nil_append, List.append_nil, Array.toList_empty] at hrun
 unfold Oper.quietAt
 rw [hrun]
 refine ⟨rfl, ?_⟩
 have hc := h L.bs w' (by simpa [Own.bs, bsOf] using st.nd) (fun b hb => Nat.lt_of_lt_of_le (st.lt b hb) hw'.size) (by simp) (fun t ht => by
  have := (dh.step hw'.nil) t (hA t ht)
  simpa [Own.bs, bsOf] using this)
 refine Calls.mono hc fun e w'' ⟨u, he, hp⟩ => ?_
 obtain ⟨hs, y, hR, _⟩ := hp
 have hR' : u = v := hR
 subst hR'
 have hs' : Stp [] w' w'' := by simpa [Own.bs, bsOf] using hs
 exact ⟨he, hw'.trans hs'⟩
theorem oneCell_of_list {α : Type} [Rep α] {S : Nat → Prop} {w : World} {v : Value} {xs : List α} (h : Atom.holds ⟨v, xs⟩ S w) : v.oneCell' = true := by
 obtain ⟨ha, A, cc, hsv, _⟩ := h
 simp only at hsv ha
 rw [cells_of_not ha] at hsv
 have : v = .slice A xs.length cc := by simpa using hsv
 rw [this]; rfl
theorem list_len {α : Type} [Rep α] {S : Nat → Prop} {w : World} {v : Value} {xs : List α} (h : Atom.holds ⟨v, xs⟩ S w) : xs.length ≤ 9223372036854775807 := by
 obtain ⟨ha, A, cc, hsv, _, _, h3, _⟩ := h
 exact h3
theorem stL {α : Type} {r : Rep α} (i j : Nat) {b o : Nat} {T : TypeId} {cs : List Value} {x y : Operand} {u : Value} {xs : List α} (hx : ev env x = some (.pointer (some ⟨b, o, none⟩))) (hy : ev env y = some u) (hi : L[i]? = some (bl b T cs)) (hj : D[j]? = some (@Atom.mk (List α) (@repList α r) u xs)) {E : TypeId} (ht : OneTy c.P E) (ho : o < cs.length) (k : WL Q c ops rest env (L.set i (bl b T (cs.set o u))) D) :
 WL Q c ops (⟨none, .store E x y, t, p, af, none⟩ :: rest) env L D :=
 gtL (q := u.oneCell' = true) (fun _ _ h => oneCell_of_list (h _ (List.mem_of_getElem? hj))) fun hu => stB i hx hy hi ht hu ho k
theorem stR {α : Type} {r : Rep α} (i j : Nat) {b o : Nat} {T e : TypeId} {cs : List Value} {x y : Operand} {u : Value} {xs : List α} (hx : ev env x = some (.pointer (some ⟨b, o, none⟩))) (hy : ev env y = some u) (hi : L[i]? = some (bl b T cs)) (hj : L[j]? = some (@row α r e u xs)) {E : TypeId} (ht : OneTy c.P E) (ho : o < cs.length) (k : WL Q c ops rest env (L.set i (bl b T (cs.set o u))) D) :
 WL Q c ops (⟨none, .store E x y, t, p, af, none⟩ :: rest) env L D :=
 (isJ_WL Q).fact (q := u.oneCell' = true) (fun a w f st dh => by
  obtain ⟨css, hown, _⟩ := st.own _ (List.mem_of_getElem? hj)
  rcases hown.2 with ⟨rfl, _⟩ | ⟨g, cap, cur, rfl, _⟩ <;> rfl) fun hu => stB i hx hy hi ht hu ho k
theorem cfv {f : FuncId} {vs : List Value} {As : List Atom} {v : Value} (h : FnV c.P f vs As v) (hok : FnOk c.P f) {xs : List Operand} {ats : Array TypeId}
 (hxs : evs env xs = some vs) (hA : SubD As D) (hn : Nat.blt d c.n = true) (k : WL Q c ops rest ((d, v) :: env) L D) :
 WL Q c ops (⟨some d, .call { callee := .value (.func f), args := xs.toArray, argTypes := ats }, t, p, af, none⟩ :: rest) env L D :=
 cf h hok hxs hA hn fun _ u hu => by
  have hu : u = v := hu
  subst hu
  exact k
theorem lb {l : Nat} (h : WQ c Q .normal env L D) : WC c (.label l) Q env L D := fun a w f s d => wp_label (h a w f s d)
theorem asSl {α : Type} {r : Rep α} {J : Cx → Array Oper → List Oper → Env → Own → List Atom → Prop} [iJ : IsJ J] (j : Nat) {l : List Oper} {u : Value} {xs : List α} (hj : D[j]? = some (@Atom.mk (List α) (@repList α r) u xs)) (k : (∃ A cc, u = .slice A xs.length cc) → J c ops l env L D) : J c ops l env L D :=
 gtL (q := ∃ A cc, u = .slice A xs.length cc) (fun S w h => by
  obtain ⟨ha, A, cc, hsv, _⟩ := h _ (List.mem_of_getElem? hj)
  simp only at hsv ha
  rw [cells_of_not ha] at hsv
  exact ⟨A, cc, by simpa using hsv⟩) k
end
theorem nil_list {α : Type} {r : Rep α} (S : Nat → Prop) (w : World) : Atom.holds (@Atom.mk (List α) (@repList α r) (.slice none 0 0) []) S w :=
 ⟨rfl, show rdSlice S w _ _ from ⟨none, 0, rfl, Nat.le_refl _, by decide, Nat.zero_le _, fun h => absurd rfl h⟩⟩
@[reducible] def vr {α : Type} [r : Rep α] (b : Nat) (T : TypeId) (x : α) : OwnE where
 bs := [b]
 holds S w := ∃ u, w.heap[b]? = some (.cells #[u] T (0, 0)) ∧ Atom.holds ⟨u, x⟩ S w
 valid := by
  rintro S w ⟨u, h, _⟩ b' hb
  simp at hb; subst hb; exact lt_of_heap h
 keep := by
  rintro S S' w w' ⟨u, h, ha⟩ hs hw
  exact ⟨u, (hw b (.inr (by simp))).trans h, Atom.keep ha hs fun b hb => hw b (.inl hb)⟩
section
variable {c : Cx} {ops : Array Oper} {Q : Exit → Act → World → Prop} {env : Env} {L : Own} {D : List Atom} {rest : List Oper} {α : Type} {r : Rep α} {b : Nat} {T : TypeId} {x : α}
theorem bs_set_same {L : Own} {i : Nat} {p q : OwnE} (hi : L[i]? = some p) (hb : q.bs = p.bs) : Own.bs (L.set i q) = L.bs := by
 induction L generalizing i with
 | nil => simp at hi
 | cons y r ih =>
  cases i with
  | zero => simp at hi; subst hi; simp [Own.bs, bsOf, hb]
  | succ i => simp only [List.getElem?_cons_succ] at hi; have := ih hi; simp only [Own.bs, List.set_cons_succ, bsOf] at this ⊢; rw [this]
theorem St.swap {w0 w : World} {M : List Nat} {L : Own} {p q : OwnE} {i : Nat} (hi : L[i]? = some p) (st : St w0 M w L) (hb : q.bs = p.bs) (hq : q.holds (Sf L.bs w) w) : St w0 M w (L.set i q) := by
 have e := bs_set_same hi hb
 refine ⟨st.stp, fun y hy => ?_, by rw [e]; exact st.nd, by rw [e]; exact st.new⟩
 rw [e]
 rcases List.mem_or_eq_of_mem_set hy with h | h
 · exact st.own y h
 · subst h; exact hq
theorem DH.swap {w : World} {D : List Atom} {L : Own} {p q : OwnE} {i : Nat} (hi : L[i]? = some p) (dh : DH D w L) (hb : q.bs = p.bs) : DH D w (L.set i q) := by
 intro t ht
 rw [bs_set_same hi hb]
 exact dh t ht
theorem op_st (i : Nat) {w0 w : World} {M : List Nat} (hi : L[i]? = some (@vr α r b T x)) (st : St w0 M w L) (dh : DH D w L) : ∃ u, St w0 M w (L.set i (bl b T [u])) ∧ DH (⟨u, x⟩ :: D) w (L.set i (bl b T [u])) := by
 obtain ⟨u, h, ha⟩ := st.own _ (List.mem_of_getElem? hi)
 refine ⟨u, st.swap hi rfl h, DH.cons ?_ (dh.swap hi rfl)⟩
 rw [bs_set_same hi (q := bl b T [u]) rfl]
 exact ha
theorem opL (i : Nat) {l : List Oper} (hi : L[i]? = some (@vr α r b T x)) (k : ∀ u, WL Q c ops l env (L.set i (bl b T [u])) (⟨u, x⟩ :: D)) : WL Q c ops l env L D := fun a w f st dh => by
 obtain ⟨u, s', d'⟩ := op_st i hi st dh
 exact k u a w f s' d'
theorem clL (i j : Nat) {u : Value} {l : List Oper} (hi : L[i]? = some (bl b T [u])) (hj : D[j]? = some ⟨u, x⟩) (k : WL Q c ops l env (L.set i (@vr α r b T x)) D) : WL Q c ops l env L D :=
 fun a w f st dh => k a w f (st.swap hi rfl ⟨u, st.own _ (List.mem_of_getElem? hi), dh.at_ j hj⟩) (dh.swap hi rfl)
theorem clQ (i j : Nat) {u : Value} {e : Exit} (hi : L[i]? = some (bl b T [u])) (hj : D[j]? = some ⟨u, x⟩) (k : WQ c Q e env (L.set i (@vr α r b T x)) D) : WQ c Q e env L D :=
 fun a w f st dh => k a w f (st.swap hi rfl ⟨u, st.own _ (List.mem_of_getElem? hi), dh.at_ j hj⟩) (dh.swap hi rfl)
end
section
variable {c : Cx} {ops : Array Oper} {J : Cx → Array Oper → List Oper → Env → Own → List Atom → Prop} [iJ : IsJ J] {env : Env} {L : Own} {D : List Atom} {rest : List Oper} {d : Nat} {v : Value} {t : TypeId} {p : String} {af : Array Edge} {x y : Operand} {m n : Int} {xt yt : TypeId}
include iJ
theorem muI (hx : ev env x = some (.int .i64 m)) (hy : ev env y = some (.int .i64 n)) (hb : InI (m * n)) (hn : Nat.blt d c.n = true) (k : J c ops rest ((d, .int .i64 (m * n)) :: env) L D) :
 J c ops (⟨some d, .binOp .mul xt x y yt, t, p, af, none⟩ :: rest) env L D :=
 pu rfl rfl hn (fun a w f => by simp [execOp, f.ev hx, f.ev hy, eqGuard, binOp, Op.intArith, wrap_i64_in hb]) k
theorem mxI {q : IntKind} {ats : Array TypeId} (hx : ev env x = some (.int q m)) (hy : ev env y = some (.int q n)) {r : Int} (hr : max m n = r) (hn : Nat.blt d c.n = true) (k : J c ops rest ((d, .int q r) :: env) L D) :
 J c ops (⟨some d, .call { callee := .builtin .max, args := #[x, y], argTypes := ats }, t, p, af, none⟩ :: rest) env L D :=
 pu rfl rfl hn (fun a w f => by
  subst hr
  have e : max m n = if n > m then n else m := by omega
  simp [execOp, resolve, invoke, builtin, f.ev hx, f.ev hy, Builtin.max_, Builtin.max2, e]) k
theorem emL {α : Type} [r : Rep α] {l : List Oper} (k : J c ops l env L ((@Atom.mk (List α) (@repList α r) (.slice none 0 0) []) :: D)) : J c ops l env L D :=
 adL _ (fun S w _ => nil_list S w) k
end
theorem emC {c : Cx} {Q : Exit → Act → World → Prop} {env : Env} {L : Own} {D : List Atom} {α : Type} [r : Rep α] {x : Code} (k : WC c x Q env L ((@Atom.mk (List α) (@repList α r) (.slice none 0 0) []) :: D)) : WC c x Q env L D :=
 adC _ (fun S w _ => nil_list S w) k
theorem run_loadVarM {P : Program} {T : TypeId} {b : Nat} {cs : List Value} (h : RowTy P T cs.length) {w : World} {T' : TypeId} (hh : w.heap[b]? = some (.cells cs.toArray T' (0, 0))) : (loadVar T ⟨b, 0, none⟩).run P w = .ok (.agg cs.toArray) w := by
 have := run_loadAtM (P := P) (T := T) (b := b) (o := 0) (cs := cs) h (w := w) (fun j u hu => by
  rw [cell_of_row w b _ _ T' (0, 0) hh]
  simpa using hu)
 simpa only [Instr.loadAt, Instr.sureAddr, Sem.run_bind, Sem.run_pure, Result.andThen_ok] using this
section
variable {env : Env} {L L' : Own} {D : List Atom} {fn : Func} {X : List Nat} {L0 : Own} {β : Type} {R : β → Value → Prop} {L1 : β → Value → Own} {out : β → Value → List Atom} {P : Program} {n : Nat} {w0 : World}
end
end
section
section
variable {c : Cx} {ops : Array Oper} {Q : Exit → Act → World → Prop} {env : Env} {L : Own} {D : List Atom} {rest : List Oper} {d : Nat} {v : Value} {t : TypeId} {p : String} {af : Array Edge} {x y z : Operand} {T : TypeId} {b o : Nat} {cs : List Value}
theorem run_buildSlice0 {P : Program} {T E : TypeId} {size bytes : Nat} (ht : AppTy P T E size bytes) (w : World) :
 (Instr.buildSlice T 0 #[]).run P w = .ok (.slice (some ⟨w.heap.size, 0, none⟩) 0 0) (w.alloc (.cells #[] E)) := by
 obtain ⟨hu', i, z, hi, hz, hs, hb, hzs, _⟩ := ht
 simp [Instr.buildSlice, run_underlying hu', sizeOf, typeInfo, hi, Instr.fill, newRow, show Array.range 0 = #[] from rfl]
theorem bs0 {E : TypeId} {size bytes : Nat} (ht : AppTy c.P T E size bytes) (hn : Nat.blt d c.n = true) (k : ∀ b, WL Q c ops rest ((d, .slice (some ⟨b, 0, none⟩) 0 0) :: env) (bl b E [] :: L) D) :
 WL Q c ops (⟨some d, .buildSlice T 0 #[], t, p, af, none⟩ :: rest) env L D := by
 refine wpl_any (σ := Nat) rfl rfl (fun b => (d, .slice (some ⟨b, 0, none⟩) 0 0) :: env) (fun b => bl b E [] :: L) (fun _ => D) (fun a w f st dh => ?_) k
 refine ⟨w.heap.size, .slice (some ⟨w.heap.size, 0, none⟩) 0 0, w.alloc (.cells #[] E), ?_, f.put _ (lt_blt hn), bl_push (cs := []) st dh⟩
 simp only [execOp, List.map_toArray, List.map_nil, Sem.run_bind, run_buildSlice0 ht, Result.andThen_ok, Sem.run_pure]
theorem run_buildSliceM {P : Program} {T E : TypeId} {size bytes : Nat} (ht : AppTy P T E size bytes) {us : List Value} (hl : us.length = size) (h0 : us.length ≠ 0) (hb : us.length ≤ 1000) (w : World) :
 (Instr.buildSlice T 1 #[(0, .agg us.toArray)]).run P w = .ok (.slice (some ⟨w.heap.size, 0, none⟩) 1 1) (w.alloc (.cells us.toArray E)) := by
 subst hl
 obtain ⟨hu', i, z, hi, hz, hs, hb', hzs, _⟩ := ht
 refine run_buildSlice w T E 1 _ us.toArray i z hu' hi hz (by rw [hs]; omega) (by rw [hs]; omega) ?_
 rw [hs]
 have hc : (Value.agg us.toArray).cells = us.toArray := rfl
 simp only [Instr.fill, hc, Nat.zero_mul]
 have key : ∀ (l : List Value) (pre post : List Value), l.length = post.length → ((l.zipIdx pre.length).foldl (fun (cs : Array Value) (x : Value × Nat) => cs.setIfInBounds (0 + x.2) x.1) (pre ++ post).toArray) = (pre ++ l).toArray := by
  intro l
  induction l with
  | nil => intro pre post h; have : post = [] := List.eq_nil_of_length_eq_zero (by simpa using h.symm); subst this; rfl
  | cons u l ih =>
   intro pre post h
   obtain ⟨q, post, rfl⟩ : ∃ q r, post = q :: r := by
    cases post with
    | nil => simp at h
    | cons q r => exact ⟨q, r, rfl⟩
   simp only [List.zipIdx_cons, List.foldl_cons]
   have e : ((pre ++ q :: post).toArray.setIfInBounds (0 + pre.length) u) = ((pre ++ [u]) ++ post).toArray := by simp
   rw [e]
   have := ih (pre ++ [u]) post (by simpa using h)
   simp only [List.length_append, List.length_singleton] at this
   rw [this]
   simp
 have hz : ((Array.range (1 * us.length)).map (z.cells[· % z.cells.size]!)).size = us.length := by simp
 generalize ((Array.range (1 * us.length)).map (z.cells[· % z.cells.size]!)) = arr at hz
 have hk := key us [] arr.toList (by simp [hz])
 rw [if_neg (by simp [hz])]
 simp only [List.length_nil, List.nil_append, Array.toArray_toList] at hk
 rw [← Array.foldl_toList, Array.toList_zipIdx]
 simpa using hk
theorem bsM {us : List Value} {E : TypeId} {size bytes : Nat} (hx : ev env x = some (.agg us.toArray)) (ht : AppTy c.P T E size bytes) (hs : us.length = size) (h0 : us.isEmpty = false) (hl : Nat.ble us.length 1000 = true) (hn : Nat.blt d c.n = true)
 (k : ∀ b, WL Q c ops rest ((d, .slice (some ⟨b, 0, none⟩) 1 1) :: env) (bl b E us :: L) D) :
 WL Q c ops (⟨some d, .buildSlice T 1 #[(0, x)], t, p, af, none⟩ :: rest) env L D := by
 refine wpl_any (σ := Nat) rfl rfl (fun b => (d, .slice (some ⟨b, 0, none⟩) 1 1) :: env) (fun b => bl b E us :: L) (fun _ => D) (fun a w f st dh => ?_) k
 refine ⟨w.heap.size, .slice (some ⟨w.heap.size, 0, none⟩) 1 1, w.alloc (.cells us.toArray E), ?_, f.put _ (lt_blt hn), bl_push st dh⟩
 have hne : us.length ≠ 0 := fun e => by rw [List.eq_nil_of_length_eq_zero e] at h0; cases h0
 simp only [execOp, List.map_toArray, List.map_cons, List.map_nil, f.ev hx, Sem.run_bind, run_buildSliceM ht hs hne (Nat.le_of_ble_eq_true hl), Result.andThen_ok, Sem.run_pure]
theorem rwB {α : Type} [r : Rep α] {l : List Oper} {E : TypeId} (xs : List α) (css : List (List Value)) {n : Nat} (hn : xs.length = n) (hcs : css.flatten = cs) (hr : ∀ S w, (∀ u ∈ D, u.holds S w) → rdL S w css xs) (hl : Nat.ble xs.length 1000 = true)
 (k : WL Q c ops l env (@row α r E (.slice (some ⟨b, 0, none⟩) n n) xs :: L) D) : WL Q c ops l env (bl b E cs :: L) D := by
 subst hn
 intro a w f st dh
 have hl := Nat.le_of_ble_eq_true hl
 have hh : w.heap[b]? = some (.cells cs.toArray E (0, 0)) := st.own _ (List.mem_cons_self ..)
 have hrd : rdL (Sf (Own.bs (bl b E cs :: L)) w) w css xs := hr _ _ dh
 have hlen := hrd.len
 rw [hcs] at hlen
 refine k a w f (st.swap (i := 0) (p := bl b E cs) (q := row E (.slice (some ⟨b, 0, none⟩) xs.length xs.length) xs) rfl rfl ⟨css, ⟨?_, .inr ⟨b, xs.length, cs.toArray, rfl, Nat.zero_le _, hh, Nat.le_refl _, by simp only [maxLen]; omega, by simpa using hlen, ?_⟩⟩, hrd, by omega⟩) (dh.swap (i := 0) (p := bl b E cs) rfl rfl)
 · rw [hcs]; exact hlen
 · rw [hcs, List.take_of_length_le (by simp only [List.toList_toArray]; omega)]
theorem bd {ps : List (Nat × Operand)} {us : List Value} {cs : List Value} (hx : evs env (ps.map (·.2)) = some us) (hb : c.P.built T ((ps.map (·.1)).zip us) = some cs.toArray) (hn : Nat.blt d c.n = true) (k : WL Q c ops rest ((d, .agg cs.toArray) :: env) L D) :
 WL Q c ops (⟨some d, .build T ps.toArray, t, p, af, none⟩ :: rest) env L D :=
 pu rfl rfl hn (fun a w f => by
  have e := f.evs hx
  subst e
  have h2 : (ps.toArray.map fun (i, x) => (i, a.eval x)).toList = (ps.map (·.1)).zip ((ps.map (·.2)).map a.eval) := by
   simp only [List.map_toArray]
   clear hx hb
   induction ps with
   | nil => rfl
   | cons q r ih => simp only [List.map_cons, List.zip_cons_cons, ih]
  have := run_build (P := c.P) w T (ps.toArray.map fun (i, x) => (i, a.eval x)) cs.toArray (by rw [h2]; exact hb)
  simp only [execOp, Sem.run_bind, this, Result.andThen_ok, Sem.run_pure]) k
end
section
variable {c : Cx} {ops : Array Oper} {J : Cx → Array Oper → List Oper → Env → Own → List Atom → Prop} [iJ : IsJ J] {env : Env} {L : Own} {D : List Atom} {rest : List Oper} {d : Nat} {v : Value} {t : TypeId} {p : String} {af : Array Edge} {x y : Operand} {xt yt : TypeId}
include iJ
theorem eqN {α : Type} {r : Rep α} (i : Nat) {xs : List α} {sv : Value} {E : TypeId} (hu : c.P.underlying xt = some (.slice E)) (hx : ev env x = some sv) (hA : D[i]? = some (@Atom.mk (List α) (@repList α r) sv xs)) (hy : ev env y = some (.slice none 0 0)) (hn : Nat.blt d c.n = true)
 (k : ∀ b : Bool, (b = true → xs = []) → J c ops rest ((d, .bool b) :: env) L D) : J c ops (⟨some d, .binOp .eql xt x y yt, t, p, af, none⟩ :: rest) env L D := by
 refine iJ.fact (q := ∃ A cc, sv = .slice A xs.length cc ∧ (A = none → xs = [])) (fun a w f st dh => ?_) ?_
 · obtain ⟨ha, A, cc, hsv, h1, h2, h3, h4⟩ := dh.at_ i hA
   simp only at hsv ha
   rw [cells_of_not ha] at hsv
   refine ⟨A, cc, by simpa using hsv, fun hA => ?_⟩
   by_cases he : xs = []
   · exact he
   · obtain ⟨b, o, h, _⟩ := h4 he
     rw [h] at hA; cases hA
 · rintro ⟨A, cc, rfl, h⟩
   refine pu rfl rfl hn (fun a w f => ?_) (k A.isNone fun hA => h (by simpa using hA))
   simp [execOp, f.ev hx, f.ev hy, eqGuard, binOp, run_equal_slice_nil w xt E A xs.length cc hu]
end
theorem eqF {P : Program} {d : Nat} {f : Field} {fs : List Field} {xs ys : Array Value} {a b : Value} {r s : Bool} (hn : (f.name == "_") = false) {ds : TypeDesc} (hu : P.underlying f.type = some ds) (hr : ds.isRow = false) (ha : xs[f.offset]? = some a) (hb : ys[f.offset]? = some b)
 (he : ∀ w, (Op.equalIn d f.type a b).run P w = .ok r w) (hrest : ∀ w, (Op.eqFields d xs ys fs).run P w = .ok s w) (w : World) : (Op.eqFields d xs ys (f :: fs)).run P w = .ok (r && s) w := by
 have hn' : f.name ≠ "_" := by simpa using hn
 have hp : ∀ (zs : Array Value) (z : Value), zs[f.offset]? = some z → ∀ w, (part f.type zs f.offset).run P w = .ok z w := by
  intro zs z hz w
  unfold part
  rw [Sem.run_bind, run_isAgg hu, Result.andThen_ok, hr]
  simp [hz]
 unfold Op.eqFields
 rw [if_pos hn']
 simp only [Sem.run_bind, hp xs a ha, hp ys b hb, he, Result.andThen_ok]
 cases r with
 | false => simp
 | true => simpa using hrest w
theorem eqF0 {P : Program} {d : Nat} {xs ys : Array Value} (w : World) : (Op.eqFields d xs ys []).run P w = .ok true w := by simp [Op.eqFields]
theorem eqFi {P : Program} {d : Nat} {T : TypeId} {k k' : IntKind} (hu : P.underlying T = some (.int k')) (a b : Int) (w : World) : (Op.equalIn (d + 1) T (.int k a) (.int k b)).run P w = .ok (decide (a = b)) w := by
 rw [run_equalIn_int w d T k k' a b hu]
 by_cases h : a = b <;> simp [h]
theorem eqFs {P : Program} {d : Nat} {T : TypeId} (hu : P.underlying T = some .string) (a b : ByteArray) (w : World) : (Op.equalIn (d + 1) T (.string a) (.string b)).run P w = .ok (decide (a = b)) w := by
 rw [run_equalIn_string w d T a b hu, beq_ba]
end
section
section
variable {c : Cx} {ops : Array Oper} {J : Cx → Array Oper → List Oper → Env → Own → List Atom → Prop} [iJ : IsJ J] {env env0 env' : Env} {L : Own} {D D' : List Atom} {l rest : List Oper} {d : Nat} {v : Value}
include iJ
omit iJ in
theorem jo {T : Bool} (env0 : Env) (hs : Sub env0 env) (hg : J c ops rest ((d, .bool T) :: env0) L D → J c ops l env L D) (hk : J c ops rest ((d, .bool T) :: env0) L D) : J c ops l env L D := hg hk
theorem jW {b : Bool} (K : J c ops rest ((d, .bool b) :: env0) L D) (hs : Sub env0 env') (hD : SubD D D') : J c ops rest ((d, .bool b) :: env') L D' :=
 iJ.mono (fun a w f st dh => ⟨⟨f.size, f.dn, fun i u hu => by
  simp only [lk] at hu
  by_cases h : d = i
  · subst h
    simp only [beq_self_eq_true, cond_true] at hu
    exact f.at_ _ _ (by simpa only [lk, beq_self_eq_true, cond_true] using hu)
  · have hb : (d == i) = false := by simpa using h
    rw [hb] at hu
    have := lk_of_sub hs _ _ hu
    exact f.at_ _ _ (by simp only [lk, hb, cond_false]; exact this)⟩, dh.sub hD⟩) K
theorem jA {B X : Bool} (K : J c ops rest ((d, .bool (B && X)) :: env0) L D) (hB : B = true) (hs : Sub env0 env') (hD : SubD D D') : J c ops rest ((d, .bool X) :: env') L D' := by
 subst hB
 exact jW K hs hD
theorem jA0 {B X : Bool} (K : J c ops rest ((d, .bool (B && X)) :: env0) L D) (hB : B = false) (hs : Sub env0 env') (hD : SubD D D') : J c ops rest ((d, .bool false) :: env') L D' := by
 subst hB
 exact jW K hs hD
theorem jR {B X : Bool} (K : J c ops rest ((d, .bool (B || X)) :: env0) L D) (hB : B = false) (hs : Sub env0 env') (hD : SubD D D') : J c ops rest ((d, .bool X) :: env') L D' := by
 subst hB
 exact jW K hs hD
theorem jR0 {B X : Bool} (K : J c ops rest ((d, .bool (B || X)) :: env0) L D) (hB : B = true) (hs : Sub env0 env') (hD : SubD D D') : J c ops rest ((d, .bool true) :: env') L D' := by
 subst hB
 exact jW K hs hD
theorem spA {i : Nat} {t : Bool} (h : lk env i = some (.bool t)) (h1 : t = true → J c ops l ((i, .bool true) :: env) L D) (h2 : t = false → J c ops l ((i, .bool false) :: env) L D) : J c ops l env L D := spB h h1 h2
theorem spO {i : Nat} {t : Bool} (h : lk env i = some (.bool t)) (h2 : t = false → J c ops l ((i, .bool false) :: env) L D) (h1 : t = true → J c ops l ((i, .bool true) :: env) L D) : J c ops l env L D := spB h h1 h2
end
section
variable {c : Cx} {Q : Exit → Act → World → Prop} {env : Env} {L : Own} {D : List Atom} {x : Code}
theorem lpE {σ : Type} (C : Env) (Dc : List Atom) (V : σ → Env → Env) (LL : σ → Own) (DD : σ → List Atom → List Atom) (I : σ → Prop) (μ : σ → Nat) (s0 : σ) (hC : Sub C env) (hc : SubD Dc D) (hI : I s0)
 (hE : Sub (V s0 C) env) (hL : LL s0 = L) (hD : SubD (DD s0 Dc) D)
 (body : ∀ s, I s → WC c x (Exit.then (LoopK c (fun s => V s C) LL (fun s => DD s Dc) I μ s) Q) (V s C) (LL s) (DD s Dc)) : WC c (.loop x) Q env L D :=
 lp (fun s => V s C) LL (fun s => DD s Dc) I μ s0 hI hE hL hD body
theorem lpC {σ : Type} (C : Env) (Dc : List Atom) (V : σ → Env → Env) (I : σ → Prop) (μ : σ → Nat) (s0 : σ) (hC : Sub C env) (hc : SubD Dc D) (hI : I s0)
 (hE : Sub (V s0 C) env)
 (body : ∀ s, I s → WC c x (Exit.then (LoopK c (fun s => V s C) (fun _ => L) (fun _ => Dc) I μ s) Q) (V s C) L Dc) : WC c (.loop x) Q env L D :=
 lp (fun s => V s C) (fun _ => L) (fun _ => Dc) I μ s0 hI hE rfl hc body
theorem all_snoc {P : Nat → Prop} {i : Nat} (h : ∀ j, j < i → P j) (hi : P i) : ∀ j, j < i + 1 → P j := fun j hj => by
 by_cases e : j = i
 · subst e; exact hi
 · exact h j (by omega)
end
def allI (n : Nat) (p : Nat → Bool) : Bool := (List.range n).all p
theorem allI_true {n : Nat} {p : Nat → Bool} (h : ∀ j, j < n → p j = true) : allI n p = true := List.all_eq_true.2 fun j hj => h j (List.mem_range.1 hj)
theorem allI_false {n : Nat} {p : Nat → Bool} (j : Nat) (hj : j < n) (h : p j = false) : allI n p = false := by
 rw [← Bool.not_eq_true]
 intro e
 have := List.all_eq_true.1 e j (List.mem_range.2 hj)
 rw [h] at this
 cases this
theorem allI_iff {n : Nat} {p : Nat → Bool} : allI n p = true ↔ ∀ j, j < n → p j = true := by simp [allI]
theorem allI_congr {n : Nat} {p q : Nat → Bool} (h : ∀ j, j < n → p j = q j) : allI n p = allI n q := by
 rw [Bool.eq_iff_iff, allI_iff, allI_iff]
 exact ⟨fun k j hj => by rw [← h j hj]; exact k j hj, fun k j hj => by rw [h j hj]; exact k j hj⟩
theorem list_rd {α : Type} [r : Rep α] {S : Nat → Prop} {w : World} {k : Value} {l : List α} (h : Atom.holds ⟨k, l⟩ S w) : (@repList α r).rd S w [k] l := by
 obtain ⟨ha, hr⟩ := h
 rwa [cells_of_not ha] at hr
theorem getDE {α : Type} {l : List α} {i : Nat} {d : α} (h : i < l.length) : l[i]? = some (l.getD i d) := by simp [List.getD, List.getElem?_eq_getElem h]
end
theorem bl_ge : ∀ a b : List UInt8, (Op.bytesLess a b || decide (a = b)) = !Op.bytesLess b a
 | [], [] => rfl
 | [], b :: y => by simp [Op.bytesLess]
 | a :: x, [] => by simp [Op.bytesLess]
 | a :: x, b :: y => by
  have ih := bl_ge x y
  simp only [Op.bytesLess]
  rcases Nat.lt_trichotomy a.toNat b.toNat with h | h | h
  · have h1 : a < b := UInt8.lt_iff_toNat_lt.2 h
    have h2 : ¬ b < a := fun e => by have := UInt8.lt_iff_toNat_lt.1 e; omega
    have h3 : ¬ b = a := fun e => by subst e; omega
    simp [h1, h2, h3]
  · obtain rfl := UInt8.toNat_inj.1 h
    have h1 : ¬ a < a := fun e => by have := UInt8.lt_iff_toNat_lt.1 e; omega
    simpa [h1] using ih
  · have h1 : ¬ a < b := fun e => by have := UInt8.lt_iff_toNat_lt.1 e; omega
    have h2 : b < a := UInt8.lt_iff_toNat_lt.2 h
    have h3 : ¬ a = b := fun e => by subst e; omega
    simp [h1, h2, h3]
theorem le_ge (a b : ByteArray) : (ltB a b || decide (a = b)) = !ltB b a := by
 have := bl_ge a.toList b.toList
 have e : decide (a = b) = decide (a.toList = b.toList) := by
  rw [← beq_ba]
  exact Bool.eq_iff_iff.2 (by simp)
 rw [e]
 exact this
theorem bl_irrefl : ∀ a : List UInt8, Op.bytesLess a a = false
 | [] => rfl
 | a :: x => by
  have h1 : ¬ a < a := fun e => by have := UInt8.lt_iff_toNat_lt.1 e; omega
  simp [Op.bytesLess, h1, bl_irrefl x]
theorem lt_irrefl (a : ByteArray) : ltB a a = false := bl_irrefl a.toList
theorem bl_trans : ∀ a b c : List UInt8, Op.bytesLess a b = true → Op.bytesLess b c = true → Op.bytesLess a c = true
 | _, _, [], _, h => by simp [Op.bytesLess] at h
 | _, [], _ :: _, h, _ => by simp [Op.bytesLess] at h
 | [], _ :: _, _ :: _, _, _ => rfl
 | a :: x, b :: y, c :: z, h1, h2 => by
  simp only [Op.bytesLess, Bool.or_eq_true, Bool.and_eq_true, decide_eq_true_eq, beq_iff_eq] at h1 h2 ⊢
  rcases h1 with h1 | ⟨rfl, h1⟩
  · rcases h2 with h2 | ⟨rfl, _⟩
    · exact .inl (UInt8.lt_iff_toNat_lt.2 (Nat.lt_trans (UInt8.lt_iff_toNat_lt.1 h1) (UInt8.lt_iff_toNat_lt.1 h2)))
    · exact .inl h1
  · rcases h2 with h2 | ⟨rfl, h2⟩
    · exact .inl h2
    · exact .inr ⟨rfl, bl_trans x y z h1 h2⟩
theorem lt_trans {a b c : ByteArray} (h1 : ltB a b = true) (h2 : ltB b c = true) : ltB a c = true := bl_trans _ _ _ h1 h2
theorem lt_asymm {a b : ByteArray} (h : ltB a b = true) : ltB b a = false := by
 rw [← Bool.not_eq_true]
 intro h2
 have := lt_trans h h2
 rw [lt_irrefl] at this
 cases this
theorem lt_or {a b : ByteArray} (h : ltB a b = false) : ltB b a = true ∨ a = b := by
 have := le_ge b a
 rw [h] at this
 simp only [Bool.not_false, Bool.or_eq_true, decide_eq_true_eq] at this
 exact this.imp id Eq.symm
theorem lt_ne {a b : ByteArray} (h : ltB a b = true) : a ≠ b := by
 rintro rfl
 rw [lt_irrefl] at h
 cases h
theorem empty_list : ByteArray.empty.toList = [] := by rw [ByteArray.toList_eq]; rfl
theorem lt_empty (a : ByteArray) : ltB a ByteArray.empty = false := by
 unfold ltB
 rw [empty_list]
 cases a.toList <;> rfl
theorem ints_all {S : Nat → Prop} {w : World} {v : Value} {xs : List Int} (h : Atom.holds ⟨v, xs⟩ S w) : ∀ x ∈ xs, InI x := by
 intro x hx
 obtain ⟨ha, A, cc, hsv, _, _, h3, h4⟩ := h
 obtain ⟨b, o, _, _, hi⟩ := h4 (List.ne_nil_of_mem hx)
 obtain ⟨i, hi2, rfl⟩ := List.getElem_of_mem hx
 obtain ⟨cs, hc, _⟩ := hi i _ (List.getElem?_eq_getElem hi2)
 exact hc.2
theorem eqG {P : Program} {d : Nat} {f : Field} {fs : List Field} {xs ys : Array Value} {a b : Value} {r s : Bool} {w : World} (hn : (f.name == "_") = false) {ds : TypeDesc} (hu : P.underlying f.type = some ds) (hr : ds.isRow = false) (ha : xs[f.offset]? = some a) (hb : ys[f.offset]? = some b)
 (he : ∀ w, (Op.equalIn d f.type a b).run P w = .ok r w) (hrest : ∀ w, (Op.eqFields d xs ys fs).run P w = .ok s w) : (Op.eqFields d xs ys (f :: fs)).run P w = .ok (r && s) w := eqF hn hu hr ha hb he hrest w
section
structure Ext (P : Program) (f : FuncId) (e : Array Value → Sem Value) : Prop where
 ok : ∃ fn, P.funcs[f]? = some fn ∧ (fn.name == "runtime.NumGoroutine") = false ∧ fn.body.isNone = true ∧ Extern.findNext fn = none ∧ Extern.find fn = some e
def ArrTy (P : Program) (T E : TypeId) (n m : Nat) : Prop := P.underlying T = some (.array n E) ∧ (P.info? E).map (·.size) = some m
section
variable {c : Cx} {ops : Array Oper} {J : Cx → Array Oper → List Oper → Env → Own → List Atom → Prop} [iJ : IsJ J] {env : Env} {L : Own} {D : List Atom} {rest : List Oper} {d : Nat} {v : Value} {t : TypeId} {p : String} {af : Array Edge} {x y : Operand} {T : TypeId} {b o : Nat}
include iJ
theorem cx {f : FuncId} {e : Array Value → Sem Value} (hf : Ext c.P f e) {vs : List Value} (hrun : ∀ w, (e vs.toArray).run c.P w = .ok v w) {xs : List Operand} {ats : Array TypeId} (hxs : evs env xs = some vs) (hn : Nat.blt d c.n = true)
 (k : J c ops rest ((d, v) :: env) L D) : J c ops (⟨some d, .call { callee := .value (.func f), args := xs.toArray, argTypes := ats }, t, p, af, none⟩ :: rest) env L D :=
 pu rfl rfl hn (fun a w fr => by
  obtain ⟨fn, h1, h2, h3, h4, h5⟩ := hf.ok
  have hm : xs.map a.eval = vs := fr.evs hxs
  have hF : a.eval (.func f) = .func (.func f) #[] #[] := rfl
  simp only [execOp, resolve, Deferred.ofValue, hF, invoke, List.map_toArray, hm, Sem.run_bind, Sem.run_pure, Result.andThen_ok]
  have := run_callFunc_extern h1 h2 h3 h4 h5 (vs.toArray) w
  rw [hrun w] at this
  simpa using this) k
theorem ixA {m : Int} {n : Nat} {E : TypeId} {size : Nat} (hx : ev env x = some (.pointer (some ⟨b, o, none⟩))) (hy : ev env y = some (.int .i64 m)) (ht : ArrTy c.P T E n size) (h0 : 0 ≤ m) (h1 : m < (n : Int)) (hn : Nat.blt d c.n = true)
 (k : J c ops rest ((d, .pointer (some ⟨b, o + m.toNat * size, none⟩)) :: env) L D) : J c ops (⟨some d, .indexAddr T x y, t, p, af, none⟩ :: rest) env L D :=
 pu rfl rfl hn (fun a w f => by
  obtain ⟨j, hj, hs⟩ := Option.map_eq_some_iff.1 ht.2
  simp [execOp, f.ev hx, f.ev hy, Instr.indexAt, asIntOf, run_underlying ht.1, h0, h1, sizeOf, typeInfo, hj, hs, Addr.add_mid, Instr.sureAddr]) k
end
section
variable {c : Cx} {ops : Array Oper} {Q : Exit → Act → World → Prop} {env : Env} {L : Own} {D : List Atom} {b : Nat} {cs : List Value}
theorem frP {α : Type} [r : Rep α] {l : List Oper} {T : TypeId} (xx : α) (hr : ∀ S w, (∀ u ∈ D, u.holds S w) → r.rd S w cs xx)
 (k : WL Q c ops l env L ((@Atom.mk (Pt α) (@repPt α r) (.pointer (some ⟨b, 0, none⟩)) ⟨xx⟩) :: D)) : WL Q c ops l env (bl b T cs :: L) D := by
 intro a w f st dh
 refine k a w f st.drop (DH.cons ?_ dh.drop)
 have hh : w.heap[b]? = some (.cells cs.toArray T (0, 0)) := st.own _ (List.mem_cons_self ..)
 have hn := st.nd
 simp only [Own.bs, bsOf, List.nodup_append] at hn
 have hS : Sf L.bs w b := ⟨lt_of_heap hh, fun hx => hn.2.2 b (by simp) b hx rfl⟩
 refine ⟨rfl, b, 0, cs, rfl, hS, hr _ _ fun u hu => dh.drop u hu, fun j u hu => ?_⟩
 rw [Nat.zero_add, cell_of_row w b _ _ T (0, 0) hh]
 simpa using hu
end
theorem spl_app : ∀ (us pre cs : List Value), us.length = cs.length → spl (pre ++ cs) pre.length us = pre ++ us
 | [], pre, cs, h => by
  obtain rfl : cs = [] := List.eq_nil_of_length_eq_zero h.symm
  rfl
 | v :: r, pre, [], h => by cases h
 | v :: r, pre, c :: cs, h => by
  have ih := spl_app r (pre ++ [v]) cs (by simpa using h)
  simp only [List.append_assoc, List.singleton_append, List.length_append, List.length_singleton] at ih
  unfold spl
  rw [List.set_append_right _ _ (Nat.le_refl _), Nat.sub_self]
  exact ih
theorem spl_all {cs us : List Value} (h : us.length = cs.length) : spl cs 0 us = us := by simpa using spl_app us [] cs h
theorem stW {c : Cx} {ops : Array Oper} {Q : Exit → Act → World → Prop} {env : Env} {L : Own} {D : List Atom} {rest : List Oper} {t : TypeId} {p : String} {af : Array Edge} {x y : Operand} {T E : TypeId} {b : Nat} {cs us : List Value} (i : Nat)
 (hx : ev env x = some (.pointer (some ⟨b, 0, none⟩))) (hy : ev env y = some (.agg us.toArray)) (hi : L[i]? = some (bl b T cs)) (ht : RowTy c.P E us.length) (hu : us.all (·.oneCell') = true) (hl : us.length = cs.length) (k : WL Q c ops rest env (L.set i (bl b T us)) D) :
 WL Q c ops (⟨none, .store E x y, t, p, af, none⟩ :: rest) env L D :=
 stM i hx hy hi ht hu (by omega) (by rw [spl_all hl]; exact k)
theorem add64_ok {P : Program} (x y c : Int) (hx : 0 ≤ x) (hy : 0 ≤ y) (hc0 : 0 ≤ c) (hc : c ≤ 1) (w : World) :
 (add64Entry [.int .u64 x, .int .u64 y, .int .u64 c].toArray).run P w = .ok (.tuple #[.int .u64 ((x + y + c) % 18446744073709551616), .int .u64 ((x + y + c) / 18446744073709551616)]) w := run_add64 x y c hx hy hc0 hc w
def cmpB (a b : ByteArray) : Int := Go.Lib.compareBytes a.data.toList b.data.toList
theorem cmp_ok {P : Program} (a b : ByteArray) (w : World) : (Extern.BytealgCompare.compare [.string a, .string b].toArray).run P w = .ok (.int .i64 (cmpB a b)) w := Go.Lib.run_compareString a b w
theorem cmpL_lt : ∀ a b : List UInt8, (decide (Go.Lib.compareBytes a b < 0)) = Op.bytesLess a b
 | [], [] => rfl
 | [], b :: y => rfl
 | a :: x, [] => rfl
 | a :: x, b :: y => by
  have ih := cmpL_lt x y
  simp only [Go.Lib.compareBytes, Op.bytesLess]
  rcases Nat.lt_trichotomy a.toNat b.toNat with h | h | h
  · have h1 : a < b := UInt8.lt_iff_toNat_lt.2 h
    simp [h1]
  · obtain rfl := UInt8.toNat_inj.1 h
    have h1 : ¬ a < a := fun e => by have := UInt8.lt_iff_toNat_lt.1 e; omega
    simpa [h1] using ih
  · have h1 : ¬ a < b := fun e => by have := UInt8.lt_iff_toNat_lt.1 e; omega
    have h2 : b < a := UInt8.lt_iff_toNat_lt.2 h
    have h3 : ¬ a = b := fun e => by subst e; omega
    simp [h1, h2, h3]
theorem cmp_lt (a b : ByteArray) : (decide (cmpB a b < 0)) = ltB a b := by
 unfold cmpB ltB
 rw [cmpL_lt, ByteArray.toList_eq, ByteArray.toList_eq]
end
section
section
variable {P : Program} {ops : Array Oper} {md : Region.Mode} {C : World → Prop}
def headQ (P : Program) (md : Region.Mode) (ops : Array Oper) (C : World → Prop) (n : Nat) (L : Array Bool → Act → Prop) : Nat → Array Bool → Act → Prop
 | 0, listed, a => L listed a
 | f + 1, listed, a =>
  Region.ready md ops listed ≠ [] ∧ ∀ i ∈ Region.ready md ops listed, i < n ∧ qOp P ops C i (headQ P md ops C n L f (listed.setIfInBounds i true)) a
theorem any_of_headQ {n g : Nat} {L : Array Bool → Act → Prop} {Q' : Exit → Act → World → Prop} (hL : ∀ listed a w, C w → L listed a → wpAny P md ops Q' g listed a w) :
 ∀ (f : Nat) (listed : Array Bool) (a : Act) (w : World), C w → headQ P md ops C n L f listed a → wpAny P md ops Q' (f + g) listed a w
 | 0, listed, a, w, hw, h => by rw [Nat.zero_add]; exact hL _ _ _ hw h
 | f + 1, listed, a, w, hw, h => by
  rw [show f + 1 + g = (f + g) + 1 by omega]
  exact ⟨fun h0 => absurd h0 h.1, fun i hi => wpOp_of_qOp hw (fun a' w' hw' h' => any_of_headQ hL f _ a' w' hw' h') (h.2 i hi).2⟩
theorem headQ_first {n i : Nat} {oi : Oper} {v : Value} {L : Array Bool → Act → Prop} (hi : ops[i]? = some oi) (hsel : ∀ (j : Nat) (o : Oper) cs b, ops[j]? = some o → o.op ≠ .select cs b)
 (hs : Region.sinkB md ops n = true) (hc : Region.chainB md ops n = true) (hn : n < ops.size) (hin : i < n)
 (hdone : ∀ listed a, L listed a → ∀ j ∈ Region.ready md ops listed, n ≤ j) :
 ∀ (f : Nat) (listed : Array Bool) (a : Act), HeadInv md ops n listed →
  (∀ j oj, ops[j]? = some oj → j ≠ i → listed.getD j true = false → (∀ e ∈ oj.after, Region.binds md e = true → e.on ≠ i) → oi.apart ops oj = true) →
  i ∈ Region.ready md ops listed → YieldsIn P ops C oi v a →
  headQ P md ops C n L f (listed.setIfInBounds i true) (a.put oi.dst v) → headQ P md ops C n L (f + 1) listed a := by
 intro f
 induction f with
 | zero =>
  intro listed a inv _ hr hy H
  have hun := (mem_ready.1 hr).1
  refine ⟨fun h => (by rw [h] at hr; cases hr), fun j hj => ?_⟩
  have hjn : j < n := by
   rcases Nat.lt_or_ge j n with h | h
   · exact h
   · exact absurd hj (tail_waits hs hc hn inv _ i rfl hin hun j h)
  refine ⟨hjn, ?_⟩
  by_cases hji : j = i
  · subst hji; exact hy.qOp hi H
  · have := hdone _ _ H j (ready_mono hj hji)
    omega
 | succ f ih =>
  intro listed a inv hfree hr hy H
  have hun := (mem_ready.1 hr).1
  refine ⟨fun h => (by rw [h] at hr; cases hr), fun j hj => ?_⟩
  have hjn : j < n := by
   rcases Nat.lt_or_ge j n with h | h
   · exact h
   · exact absurd hj (tail_waits hs hc hn inv _ i rfl hin hun j h)
  refine ⟨hjn, ?_⟩
  by_cases hji : j = i
  · subst hji; exact hy.qOp hi H
  · have h1 := (H.2 j (ready_mono hj hji)).2
    obtain ⟨hjun, oj, hoj, hall⟩ := mem_ready.1 hj
    have hnot : ∀ e ∈ oj.after, Region.binds md e = true → e.on ≠ i := fun e he hb heq => by
     have h1 := hall e he hb
     rw [heq, getD_both hun] at h1
     cases h1
    have h2 := qOp_put hoj (hfree j oj hoj hji hjun hnot) (fun cs b => hsel i oi cs b hi) (fun cs b => hsel j oj cs b hoj) hy h1
    have hfree' : ∀ k ok, ops[k]? = some ok → k ≠ i → (listed.setIfInBounds j true).getD k true = false →
     (∀ e ∈ ok.after, Region.binds md e = true → e.on ≠ i) → oi.apart ops ok = true := fun k ok hk hki hun hno => by
     refine hfree k ok hk hki ?_ hno
     by_cases hjk : j = k
     · subst hjk; exact hjun
     · rw [getD_set_ne true hjk] at hun; exact hun
    refine qOp_mono (fun a' h3 => ih (listed.setIfInBounds j true) a' (inv.set hj hjn) hfree' (ready_mono hr (Ne.symm hji)) h3.1 ?_) h2
    rw [Array.setIfInBounds_comm _ _ hji]
    exact h3.2
theorem headQ_lex {n g : Nat} {Lq : Act → Prop} (hsel : Region.noSelect ops = true) (hs : Region.sinkB md ops n = true) (hc : Region.chainB md ops n = true) (hn : n < ops.size) :
 ∀ (l : List Oper) (k : Nat) (listed : Array Bool) (a : Act), (∀ j, j < l.length → l[j]? = ops[k + j]?) → k + l.length = n → HeadInv md ops n listed →
 Region.lexHead md ops g l.length k listed = true → wpQuiet P ops C Lq l a →
 headQ P md ops C n (fun listed' a' => Region.seqB md ops g n listed' = true ∧ Lq a') l.length listed a
 | [], k, listed, a, _, hk, _, hB, h => by
  have : k = n := by simpa using hk
  subst this
  exact ⟨by simpa [Region.lexHead] using hB, h⟩
 | o :: l, k, listed, a, hl, hk, inv, hB, h => by
  have h0 : ops[k]? = some o := by simpa using (hl 0 (by simp)).symm
  simp only [List.length_cons, Region.lexHead, Bool.and_eq_true] at hB
  obtain ⟨⟨hr, hf⟩, hB'⟩ := hB
  have hkn : k < n := by simp only [List.length_cons] at hk; omega
  have hr' : k ∈ Region.ready md ops listed := by simpa using hr
  have hst : qOp P ops C k (wpQuiet P ops C Lq l) a := by unfold qOp; simp only [h0]; exact h
  obtain ⟨v, hy, hK⟩ := yieldsIn_of_qOp h0 hst
  exact headQ_first h0 (Region.noSelect_spec hsel) hs hc hn hkn (fun listed' a' hL => seqB_ready hL.1) l.length listed a inv (Region.free_spec h0 hf) hr' hy
   (headQ_lex hsel hs hc hn l (k + 1) _ _ (fun j hj => by have := hl (j + 1) (by simp; omega); simpa [Nat.add_assoc, Nat.add_comm 1 j] using this) (by simp only [List.length_cons] at hk; omega) (inv.set hr' hkn) hB' hK)
theorem wp_quiet_tail {id : Nat} {Q : Exit → Act → World → Prop} {a : Act} {w : World} {l : List Oper} (n : Nat) (hm : P.follows .mixedOrders = true) (hB : Region.lexTailB .any l.toArray n = true) (hC : C { w with drawn := w.drawn + 1 })
 (h : wpQuiet P l.toArray C (fun a' => ∀ w', C w' → wpList P l.toArray Q (l.drop n) a' w') (l.take n) a) : (Code.region id l.toArray true).wp P Q a w := by
 simp only [Region.lexTailB, Bool.and_eq_true, decide_eq_true_eq] at hB
 obtain ⟨⟨⟨⟨hsel, hn⟩, hs⟩, hc⟩, hlex⟩ := hB
 have hn' : n < l.length := by simpa using hn
 have htl : (l.take n).length = n := by simp; omega
 have hdl : (l.drop n).length = l.toArray.size - n := by simp
 have inv0 : HeadInv .any l.toArray n (Array.replicate l.toArray.size false) :=
  ⟨by simp, fun j oj _ hl => (by rw [getD_replicate_false] at hl; cases hl), fun t _ ht => getD_in (by simpa using ht) (getD_replicate_false _ _)⟩
 have H := headQ_lex (md := .any) (g := l.toArray.size - n) hsel hs hc hn (l.take n) 0 _ a (fun j hj => by
  have hj' : j < n := by rw [htl] at hj; exact hj
  simp [hj']) (by simpa using htl) inv0 (by rw [htl]; exact hlex) h
 refine wp_region_any hm ?_
 have := any_of_headQ (Q' := Q) (g := l.toArray.size - n) (fun listed a' w' hw' hL => by
  have := wpAny_of_seq (md := .any) (Q' := Q) (l.drop n) n listed a' w' (fun j => by simp [List.getElem?_drop]) (by rw [hdl]; exact hL.1) (hL.2 w' hw')
  rwa [hdl] at this) _ _ _ _ hC H
 rw [htl, show n + (l.toArray.size - n) = l.toArray.size by omega] at this
 exact this
end
theorem rgT {c : Cx} {Q : Exit → Act → World → Prop} {env : Env} {L : Own} {D : List Atom} {id : Nat} {l : List Oper} (n : Nat) (hm : c.P.follows .mixedOrders = true) (hB : Region.lexTailB .any l.toArray n = true)
 (h : WLQ (fun _ a w => wpList c.P l.toArray Q (l.drop n) a w) c l.toArray (l.take n) env L D) : WC c (.region id l.toArray true) Q env L D :=
 fun a w f st dh => wp_quiet_tail (C := fun w' => Stp [] w w') n hm hB (Stp.drew [] w) (h a w f st dh)
theorem nlT {c : Cx} {Q : Exit → Act → World → Prop} {ops : Array Oper} {tl : List Oper} {env : Env} {L : Own} {D : List Atom} (h : WL Q c ops tl env L D) : WLQ (fun _ a w => wpList c.P ops Q tl a w) c ops [] env L D := nlQ h
theorem St.dropA {w0 w : World} {M : List Nat} {L : Own} : ∀ {A : Own}, St w0 M w (A ++ L) → St w0 M w L
 | [], h => h
 | _ :: _, h => St.dropA h.drop
theorem DH.dropA {D : List Atom} {w : World} {L : Own} : ∀ {A : Own}, DH D w (A ++ L) → DH D w L
 | [], h => h
 | _ :: _, h => DH.dropA h.drop
section
variable {env : Env} {L : Own} {D : List Atom} {fn : Func} {X : List Nat} {L0 : Own} {β : Type} {R : β → Value → Prop} {L1 : β → Value → Own} {out : β → Value → List Atom} {P : Program} {n : Nat} {w0 : World} {M : List Nat}
def ResIs (P : Program) (n : Nat) (w0 : World) (M : List Nat) (fn : Func) (env : Env) (L : Own) (v : Value) : Prop := ∀ a w, Fr n a env → St w0 M w L → (results fn a.tmps).run P w = .ok v w
theorem fRG (y : β) (A : Own) {v : Value} (hrun : ResIs P n w0 (L0.bs ++ X) fn env L v) (hR : R y v) (hL : L = A ++ (L1 y v ++ [fz X w0])) (hD : SubD (out y v) D) :
 WQ ⟨P, n, w0, L0.bs ++ X⟩ (PostOf P fn X w0 L0 R L1 out) .ret env L D := by
 intro a w f st dh
 refine bodyPost_ret (hrun a w f st) f.dn ⟨_, rfl, ?_⟩
 subst hL
 exact Fnc.post y hR rfl hD st.dropA dh.dropA (new_of (X := X) (w := w) st.dropA)
theorem own_at {w : World} {b : Nat} {T : TypeId} {cs : List Value} (i : Nat) (hi : L[i]? = some (bl b T cs)) (st : St w0 M w L) : w.heap[b]? = some (.cells cs.toArray T (0, 0)) := st.own _ (List.mem_of_getElem? hi)
theorem rC {t : Nat} {T T' : TypeId} {b : Nat} {cs : List Value} (i : Nat) (hr : fn.results = #[.cell t T]) (h1 : lk env t = some (.pointer (some ⟨b, 0, none⟩))) (hi : L[i]? = some (bl b T' cs)) (ht : RowTy P T cs.length) : ResIs P n w0 M fn env L (.agg cs.toArray) := fun a w f st => by
 simp [results, hr, f.at_ t _ h1, asAddr, Sem.run_bind, run_loadVarM ht (own_at i hi st)]
theorem rCC {t u : Nat} {T U T' U' : TypeId} {b b2 : Nat} {cs ds : List Value} (i j : Nat) (hr : fn.results = #[.cell t T, .cell u U]) (h1 : lk env t = some (.pointer (some ⟨b, 0, none⟩))) (h2 : lk env u = some (.pointer (some ⟨b2, 0, none⟩)))
 (hi : L[i]? = some (bl b T' cs)) (hj : L[j]? = some (bl b2 U' ds)) (ht : RowTy P T cs.length) (hu : RowTy P U ds.length) : ResIs P n w0 M fn env L (.tuple #[.agg cs.toArray, .agg ds.toArray]) := fun a w f st => by
 simp [results, hr, f.at_ t _ h1, f.at_ u _ h2, asAddr, Sem.run_bind, run_loadVarM ht (own_at i hi st), run_loadVarM hu (own_at j hj st)]
theorem rCT {t u : Nat} {T T' : TypeId} {b : Nat} {cs : List Value} {v2 : Value} (i : Nat) (hr : fn.results = #[.cell t T, .tmp u]) (h1 : lk env t = some (.pointer (some ⟨b, 0, none⟩))) (h2 : lk env u = some v2)
 (hi : L[i]? = some (bl b T' cs)) (ht : RowTy P T cs.length) : ResIs P n w0 M fn env L (.tuple #[.agg cs.toArray, v2]) := fun a w f st => by
 simp [results, hr, f.at_ t _ h1, f.at_ u _ h2, asAddr, Sem.run_bind, run_loadVarM ht (own_at i hi st)]
end
end
section
section
variable {c : Cx} {ops : Array Oper} {J : Cx → Array Oper → List Oper → Env → Own → List Atom → Prop} [iJ : IsJ J] {env : Env} {L : Own} {D : List Atom} {rest : List Oper} {d : Nat} {v : Value} {t : TypeId} {p : String} {af : Array Edge}
theorem mf1 {fn : Fn} {xs ys : List Operand} {vs us : List Value} (hy : evs env ys = some us) (hx : evs env xs = some vs) (hn : Nat.blt d c.n = true) (k : J c ops rest ((d, .func fn us.toArray vs.toArray) :: env) L D) : J c ops (⟨some d, .makeFunc fn ys.toArray xs.toArray, t, p, af, none⟩ :: rest) env L D :=
 pu rfl rfl hn (fun a w f => by simp [execOp, Instr.makeFunc, f.evs hx, f.evs hy]) k
variable {x y : Operand} {q : IntKind} {m n : Int} {xt yt : TypeId} {T : TypeId}
include iJ
theorem adR (hx : ev env x = some (.int q m)) (hy : ev env y = some (.int q n)) {r : Int} (hr : q.wrap (m + n) = r) (hn : Nat.blt d c.n = true) (k : J c ops rest ((d, .int q r) :: env) L D) :
 J c ops (⟨some d, .binOp .add xt x y yt, t, p, af, none⟩ :: rest) env L D := by
 subst hr
 exact adW hx hy hn k
theorem quR (hx : ev env x = some (.int q m)) (hy : ev env y = some (.int q n)) (h0 : n ≠ 0) {r : Int} (hr : q.wrap (m.tdiv n) = r) (hn : Nat.blt d c.n = true) (k : J c ops rest ((d, .int q r) :: env) L D) :
 J c ops (⟨some d, .binOp .quo xt x y yt, t, p, af, none⟩ :: rest) env L D := by
 subst hr
 exact quW hx hy h0 hn k
theorem reR (hx : ev env x = some (.int q m)) (hy : ev env y = some (.int q n)) (h0 : n ≠ 0) {r : Int} (hr : m.tmod n = r) (hn : Nat.blt d c.n = true) (k : J c ops rest ((d, .int q r) :: env) L D) :
 J c ops (⟨some d, .binOp .rem xt x y yt, t, p, af, none⟩ :: rest) env L D := by
 subst hr
 exact reW hx hy h0 hn k
theorem slP2 {α : Type} {r : Rep α} (i : Nat) {xs : List α} {sv : Value} {lo hi : Operand} {l h : Int} {E : TypeId} (hx : ev env x = some sv) (hA : D[i]? = some (@Atom.mk (List α) (@repList α r) sv xs)) (ht : SliceTy c.P T E r.size)
 (e1 : ev env lo = some (.int .i64 l)) (e2 : ev env hi = some (.int .i64 h)) (h0 : 0 ≤ l) (h1 : l ≤ h) (h3 : h ≤ (xs.length : Int)) (hn : Nat.blt d c.n = true)
 (k : ∀ u, J c ops rest ((d, u) :: env) L ((@Atom.mk (List α) (@repList α r) u ((xs.take h.toNat).drop l.toNat)) :: D)) :
 J c ops (⟨some d, .slice T x (some lo) (some hi) none, t, p, af, none⟩ :: rest) env L D :=
 iJ.read (σ := Value) rfl rfl (fun u => (d, u) :: env) (fun u => (@Atom.mk (List α) (@repList α r) u ((xs.take h.toNat).drop l.toNat)) :: D) (fun a w f st dh => by
  obtain ⟨ha, hrd⟩ := dh.at_ i hA
  obtain ⟨A, cc, hsv, _⟩ := hrd
  simp only at hsv ha
  rw [cells_of_not ha] at hsv
  have hsv : sv = .slice A xs.length cc := by simpa using hsv
  subst hsv
  have hrd : rdSlice (Sf L.bs w) w [.slice A xs.length cc] xs := (dh.at_ i hA).2
  have hcap : xs.length ≤ cc := by
   obtain ⟨A', c', he, g1, _⟩ := hrd
   simp only [List.cons.injEq, Value.slice.injEq, and_true] at he
   omega
  obtain ⟨j, hj, hs⟩ := Option.map_eq_some_iff.1 ht.2
  have b2 : 0 ≤ h ∧ h ≤ (cc : Int) := by omega
  have b3 : 0 ≤ l ∧ l ≤ (h.toNat : Int) := by omega
  have c2 : l ≤ max h 0 := by omega
  refine ⟨.slice (if cc = l.toNat then A else A.map (·.add (l.toNat * r.size))) (h.toNat - l.toNat) (cc - l.toNat), _, fun w' hs' => ?_, f.put _ (lt_blt hn), DH.cons ⟨rfl, part_reads hrd (l := l.toNat) (h := h.toNat) (m := cc) (by omega) (by omega) (by omega) (by omega)⟩ dh⟩
  simp [execOp, f.ev hx, f.ev e1, f.ev e2, Instr.sliceAt, run_underlying ht.1, Instr.slice, Instr.sliceBounds, Instr.sliceBound, asIntOf, b2, b3, c2, sizeOf, typeInfo, hj, hs]) k
end
end
section
section
variable {c : Cx} {l : List Oper} {s : RS} {env : Env} {D : List Atom} {Q : Exit → Act → World → Prop}
end
end
section
def ptrB : Value → Nat
 | .pointer (some p) => p.block
 | _ => 0
theorem ptrB_mk (b : Nat) : ptrB (.pointer (some ⟨b, 0, none⟩)) = b := rfl
structure RH where
 deps : Nat → List Nat
 ok : Nat → Value → Prop
 at_ : Nat → Value → List Atom
 vals : Nat → Option Value
 L : List Nat → List Value → Own
 effs : List Nat
 hs : List (List Nat)
@[reducible] def RH.rs (s : RH) : RS := ⟨s.deps, s.ok, s.at_, fun _ => [], []⟩
@[reducible] def RH.ok2 (s : RH) (i : Nat) (u : Value) : Prop := match s.vals i with
 | some v => u = v
 | none => s.ok i u
def phH (l : List Oper) (s : RH) (i : Nat) : List (List Nat) := s.hs.filter fun h => (!(s.effs.contains i) || !(h.contains i)) && s.effs.all fun x => (!(edge l x i) || h.contains x) && (!(edge l i x) || !(h.contains x))
def ckH (l : List Oper) (s : RH) : Bool := s.hs.contains [] && s.effs.all (fun x => Nat.blt x l.length) && s.hs.all fun h => s.effs.all fun i => h.contains i || !(s.effs.all fun x => !(edge l x i) || h.contains x) || s.hs.contains (h ++ [i])
def rhOk (l : List Oper) (env : Env) (s : RH) (n : Nat) : Bool := ckDeps l s.deps && ckDst l env && ckBack l && ckSize l n && ckH l s
def fullH (s : RH) : List (List Nat) := s.hs.filter fun h => s.effs.all fun x => h.contains x
def nextH (s : RH) (h : List Nat) (vs : List Value) (i : Nat) (u : Value) : Own := if s.effs.contains i then s.L (h ++ [i]) (vs ++ [u]) else s.L h vs
def opPostH (c : Cx) (l : List Oper) (s : RH) (D : List Atom) (i : Nat) (h : List Nat) (vs : List Value) : Exit → Act → World → Prop := fun e a w =>
 e = .normal ∧ a.defers = [] ∧ St c.w0 c.M w (nextH s h vs i (slotV l a i)) ∧ DH D w (nextH s h vs i (slotV l a i)) ∧ ∀ d, dstOf l i = some d → s.ok2 i (a.tmps.getD d undef) ∧ DH (s.at_ i (a.tmps.getD d undef)) w (nextH s h vs i (slotV l a i))
def OblH (c : Cx) (l : List Oper) (s : RH) (env : Env) (D : List Atom) : List Oper → Nat → Prop
 | [], _ => True
 | o :: r, i => (∀ (V : Nat → Value) (De : List Atom), AllP (fun k => s.vals k = none → s.ok k (V k)) (s.deps i) →
  AllP (fun h => WL (opPostH c l s (D ++ De) i h (h.map V)) c l.toArray [o] (envOf l (VV s.vals V) (s.deps i) ++ env) (s.L h (h.map V)) (atsOf s.rs (VV s.vals V) (s.deps i) ++ (D ++ De))) (phH l s i)) ∧ OblH c l s env D r (i + 1)
theorem OblH.at_ {c : Cx} {l : List Oper} {s : RH} {env : Env} {D : List Atom} : ∀ {r : List Oper} {i : Nat}, OblH c l s env D r i → ∀ k o, r[k]? = some o → ∀ (V : Nat → Value) (De : List Atom), AllP (fun k => s.vals k = none → s.ok k (V k)) (s.deps (i + k)) →
 AllP (fun h => WL (opPostH c l s (D ++ De) (i + k) h (h.map V)) c l.toArray [o] (envOf l (VV s.vals V) (s.deps (i + k)) ++ env) (s.L h (h.map V)) (atsOf s.rs (VV s.vals V) (s.deps (i + k)) ++ (D ++ De))) (phH l s (i + k))
 | [], _, _, k, o, hk => by simp at hk
 | p :: r, i, h, 0, o, hk => by simp at hk; subst hk; exact h.1
 | p :: r, i, h, k + 1, o, hk => by
  simp only [List.getElem?_cons_succ] at hk
  have := OblH.at_ h.2 k o hk
  rwa [show i + 1 + k = i + (k + 1) by omega] at this
structure MidH (c : Cx) (l : List Oper) (s : RH) (env : Env) (D : List Atom) (listed : Array Bool) (a : Act) (w : World) (h : List Nat) : Prop where
 fr : Fr c.n a env
 st : St c.w0 c.M w (s.L h (h.map (valOf l a)))
 dh : DH D w (s.L h (h.map (valOf l a)))
 size : listed.size = l.length
 closed : ∀ i k, listed.getD i false = true → edge l k i = true → listed.getD k false = true
 slot : ∀ i d, listed.getD i false = true → dstOf l i = some d → s.ok2 i (a.tmps.getD d undef) ∧ DH (s.at_ i (a.tmps.getD d undef)) w (s.L h (h.map (valOf l a)))
 done : ∀ x, x ∈ s.effs → (listed.getD x false = true ↔ x ∈ h)
 hin : ∀ x ∈ h, listed.getD x false = true
 mem : h ∈ s.hs
section
variable {c : Cx} {l : List Oper} {s : RH} {env : Env} {D : List Atom} {Q : Exit → Act → World → Prop}
theorem MidH.frame {listed : Array Bool} {a : Act} {w : World} {h : List Nat} (m : MidH c l s env D listed a w h) (hsz : ckSize l c.n = true) {is : List Nat} (hl : ∀ k ∈ is, k < l.length) : Fr c.n a (envOf l (valOf l a) is ++ env) := by
 refine ⟨m.fr.size, m.fr.dn, fun i v hi => ?_⟩
 rcases lk_append hi with h | h
 · obtain ⟨k, hk, hd, hv⟩ := lk_envOf h
   simp only [valOf, hd] at hv
   have hkl := hl k hk
   have hlt : i < c.n := by
    have := List.all_eq_true.1 hsz (l[k]) (List.getElem_mem hkl)
    have hd' : (l[k]).dst = some i := by simpa [dstOf, List.getElem?_eq_getElem hkl] using hd
    rw [hd'] at this
    exact lt_blt this
   have : i < a.tmps.size := by rw [m.fr.size]; exact hlt
   rw [← hv]
   simp [this, slotV, hd]
 · exact m.fr.at_ _ _ h.2
theorem ok2_VV {V : Nat → Value} {k : Nat} (h : s.ok2 k (V k)) : V k = VV s.vals V k := by
 unfold VV
 simp only [RH.ok2] at h
 split at h
 · rename_i v hv; rw [hv]; exact h
 · rename_i hv; rw [hv]; rfl
theorem ok2_of {V : Nat → Value} {k : Nat} (h : s.ok2 k (V k)) (hn : s.vals k = none) : s.ok k (V k) := by
 simp only [RH.ok2, hn] at h
 exact h
def ckDst1 (l : List Oper) (env : Env) (i : Nat) : Bool := match dstOf l i with
 | none => true
 | some d => !keyIn env d && (List.range l.length).all fun j => i == j || !(dstOf l j == some d)
theorem MidH.step1 {i : Nat} (h1 : ckDeps l s.deps = true) (h2 : ckDst1 l env i = true) (h4 : ckH l s = true) (hsz : ckSize l c.n = true)
 {listed : Array Bool} {a : Act} {w : World} {hh : List Nat} (m : MidH c l s env D listed a w hh) (hr : i ∈ Region.ready .any l.toArray listed)
 (hO : ∀ o, l[i]? = some o → ∀ (V : Nat → Value) (De : List Atom), AllP (fun k => s.vals k = none → s.ok k (V k)) (s.deps i) → AllP (fun h => WL (opPostH c l s (D ++ De) i h (h.map V)) c l.toArray [o] (envOf l (VV s.vals V) (s.deps i) ++ env) (s.L h (h.map V)) (atsOf s.rs (VV s.vals V) (s.deps i) ++ (D ++ De))) (phH l s i)) {K : Act → World → Prop}
 (hK : ∀ a' w' h', MidH c l s env D (listed.setIfInBounds i true) a' w' h' → K a' w') : wpOp c.P l.toArray Q i K a w := by
 obtain ⟨hun, o, ho, hall⟩ := mem_ready.1 hr
 have ho : l[i]? = some o := by simpa using ho
 have hil : i < l.length := (List.getElem?_eq_some_iff.1 ho).1
 have his : i < listed.size := by rw [m.size]; exact hil
 have hun' : listed.getD i false = false := by rw [← getD_true_false his]; exact hun
 have hed : ∀ k, edge l k i = true → listed.getD k false = true := by
  intro k hk
  obtain ⟨e, he, hb, rfl⟩ := (edge_mem ho).1 hk
  exact hall e he hb
 have hnot : i ∉ hh := fun hi => by
  have := m.hin i hi
  rw [this] at hun'; cases hun'
 have hpre : ∀ x ∈ s.effs, edge l x i = true → x ∈ hh := fun x hx he => (m.done x hx).1 (hed x he)
 have hphase : hh ∈ phH l s i := by
  refine List.mem_filter.2 ⟨m.mem, ?_⟩
  simp only [Bool.and_eq_true, Bool.or_eq_true, Bool.not_eq_true', List.all_eq_true, List.contains_eq_mem, decide_eq_true_eq, decide_eq_false_iff_not]
  refine ⟨.inr hnot, fun x hx => ⟨?_, ?_⟩⟩
  · by_cases h : edge l x i = true
    · exact .inr (hpre x hx h)
    · left; simpa using h
  · by_cases h : edge l i x = true
    · right
      intro hxh
      have := m.closed x i (m.hin x hxh) h
      rw [this] at hun'; cases hun'
    · left; simpa using h
 have hdep : ∀ k ∈ s.deps i, edge l k i = true ∧ (dstOf l k).isSome = true := by
  intro k hk
  have := List.all_eq_true.1 (List.all_eq_true.1 h1 i (List.mem_range.2 hil)) k hk
  simpa using this
 have hdlt : ∀ k, (dstOf l k).isSome = true → k < l.length := by
  intro k hk
  rcases Nat.lt_or_ge k l.length with h | h
  · exact h
  · simp [dstOf, List.getElem?_eq_none h] at hk
 have hok2 : ∀ k ∈ s.deps i, s.ok2 k (valOf l a k) := fun k hk => by
  obtain ⟨d, hd⟩ := Option.isSome_iff_exists.1 (hdep k hk).2
  have := (m.slot k d (hed k (hdep k hk).1) hd).1
  simpa [valOf, slotV, hd] using this
 let J := (List.range l.length).filter fun k => listed.getD k false && (dstOf l k).isSome
 have hJ : ∀ k, k ∈ J ↔ listed.getD k false = true ∧ (dstOf l k).isSome = true := by
  intro k
  simp only [J, List.mem_filter, List.mem_range, Bool.and_eq_true]
  exact ⟨fun h => h.2, fun h => ⟨hdlt k h.2, h⟩⟩
 have hatJ : ∀ k, k ∈ J → DH (s.at_ k (valOf l a k)) w (s.L hh (hh.map (valOf l a))) := by
  intro k hk
  obtain ⟨hk1, hk2⟩ := (hJ k).1 hk
  obtain ⟨d, hd⟩ := Option.isSome_iff_exists.1 hk2
  have := (m.slot k d hk1 hd).2
  simpa [valOf, slotV, hd] using this
 have e0 : ∀ k ∈ s.deps i, valOf l a k = VV s.vals (valOf l a) k := fun k hk => ok2_VV (hok2 k hk)
 have e1 : envOf l (valOf l a) (s.deps i) = envOf l (VV s.vals (valOf l a)) (s.deps i) := envOf_congr fun k hk _ => e0 k hk
 have e2 : atsOf s.rs (valOf l a) (s.deps i) = atsOf s.rs (VV s.vals (valOf l a)) (s.deps i) := atsOf_congr e0
 have hwl := (hO o ho (valOf l a) (atsOf s.rs (valOf l a) J) (AllP.intro fun k hk hn => ok2_of (hok2 k hk) hn))
 rw [← e1, ← e2] at hwl
 have hwl := hwl.mem hh hphase a w (m.frame hsz fun k hk => hdlt k (hdep k hk).2) m.st (DH.app (fun t ht => by
  obtain ⟨k, hk, ht⟩ := mem_atsOf ht
  exact hatJ k ((hJ k).2 ⟨hed k (hdep k hk).1, (hdep k hk).2⟩) t ht) (DH.app m.dh (fun t ht => by
  obtain ⟨k, hk, ht⟩ := mem_atsOf ht
  exact hatJ k hk t ht)))
 have hno : ¬ LetsOut (opPostH c l s (D ++ atsOf s.rs (valOf l a) J) i hh (hh.map (valOf l a))) := by
  rintro ⟨a', w', h⟩; cases h.1
 -- what is left once it is done
 have hfin : ∀ a' w', (∃ u, a' = a.put o.dst u) → opPostH c l s (D ++ atsOf s.rs (valOf l a) J) i hh (hh.map (valOf l a)) .normal a' w' → K a' w' := by
  rintro a' w' ⟨u, rfl⟩ ⟨_, _, hst', hdh', hslot'⟩
  have hdsts : ∀ d, o.dst = some d → keyIn env d = false ∧ ∀ k, k ≠ i → dstOf l k ≠ some d := by
   intro d hd
   have hdi : dstOf l i = some d := by simp [dstOf, ho, hd]
   have := h2
   unfold ckDst1 at this
   rw [hdi] at this
   simp only [Bool.and_eq_true, Bool.not_eq_true'] at this
   refine ⟨this.1, fun k hk e => ?_⟩
   have hkl := hdlt k (by rw [e]; rfl)
   have := List.all_eq_true.1 this.2 k (List.mem_range.2 hkl)
   simp [e, Ne.symm hk] at this
  have hvk : ∀ k, k ≠ i → valOf l (a.put o.dst u) k = valOf l a k := by
   intro k hk
   simp only [valOf, slotV]
   cases hdk : dstOf l k with
   | none => rfl
   | some d =>
    cases hd : o.dst with
    | none => rfl
    | some d0 =>
     have hne : d0 ≠ d := by
      rintro rfl
      exact (hdsts d0 hd).2 k hk hdk
     simp [Act.put, Array.getElem?_setIfInBounds_ne hne]
  have hmap : hh.map (valOf l (a.put o.dst u)) = hh.map (valOf l a) := List.map_congr_left fun x hx => hvk x (fun e => hnot (e ▸ hx))
  let h' := if s.effs.contains i = true then hh ++ [i] else hh
  have hLn : s.L h' (h'.map (valOf l (a.put o.dst u))) = nextH s hh (hh.map (valOf l a)) i (slotV l (a.put o.dst u) i) := by
   unfold nextH
   simp only [h']
   by_cases hc : s.effs.contains i = true
   · rw [if_pos hc, if_pos hc, List.map_append, hmap]; rfl
   · rw [if_neg hc, if_neg hc, hmap]
  rw [← hLn] at hst' hdh' hslot'
  have hmem' : ∀ x, x ∈ h' ↔ x ∈ hh ∨ (x = i ∧ s.effs.contains i = true) := by
   intro x
   simp only [h']
   by_cases hc : s.effs.contains i = true
   · rw [if_pos hc]; simp only [List.mem_append, List.mem_singleton, hc, and_true]
   · rw [if_neg hc]; simp only [hc, and_false, or_false]; simp
  refine hK _ _ h' ⟨?_, hst', fun t ht => hdh' t (List.mem_append.2 (.inl ht)), by simp [m.size], ?_, ?_, ?_, ?_, ?_⟩
  · cases hd : o.dst with
    | none => exact m.fr
    | some d =>
     have hdn : d < c.n := by
      have := List.all_eq_true.1 hsz o (List.mem_of_getElem? ho)
      rw [hd] at this
      exact lt_blt this
     have f := m.fr.put u hdn
     refine ⟨f.size, f.dn, fun k v hk => f.at_ k v ?_⟩
     have hne : d ≠ k := by
      rintro rfl
      have := keyIn_of_lk hk
      rw [(hdsts d hd).1] at this; cases this
     have : (d == k) = false := by simpa using hne
     simp only [lk, this, cond_false]
     exact hk
  · intro i' k hi' hk
    rw [getD_set his] at hi' ⊢
    simp only [Bool.or_eq_true, beq_iff_eq] at hi' ⊢
    rcases hi' with rfl | hi'
    · exact .inr (hed k hk)
    · exact .inr (m.closed i' k hi' hk)
  · intro i' d hi' hd'
    rw [getD_set his] at hi'
    simp only [Bool.or_eq_true, beq_iff_eq] at hi'
    by_cases hii : i = i'
    · subst hii
      exact hslot' d hd'
    · have hi' : listed.getD i' false = true := by
       rcases hi' with h | h
       · exact absurd h hii
       · exact h
      have hval : (a.put o.dst u).tmps.getD d undef = a.tmps.getD d undef := by
       cases hd : o.dst with
       | none => rfl
       | some d0 =>
        have hne : d0 ≠ d := by
         rintro rfl
         exact (hdsts d0 hd).2 i' (Ne.symm hii) hd'
        simp [Act.put, Array.getElem?_setIfInBounds_ne hne]
      rw [hval]
      refine ⟨(m.slot i' d hi' hd').1, fun t ht => hdh' t (List.mem_append.2 (.inr (of_at (s := s.rs) (k := i') ((hJ i').2 ⟨hi', by rw [hd']; rfl⟩) ?_)))⟩
      simpa [valOf, slotV, hd'] using ht
  · intro x hx
    rw [getD_set his, hmem' x]
    simp only [Bool.or_eq_true, beq_iff_eq]
    rw [m.done x hx]
    constructor
    · rintro (rfl | h)
      · right; exact ⟨rfl, by simpa using hx⟩
      · exact .inl h
    · rintro (h | ⟨rfl, _⟩)
      · exact .inr h
      · exact .inl rfl
  · intro x hx
    rw [getD_set his]
    simp only [Bool.or_eq_true, beq_iff_eq]
    rcases (hmem' x).1 hx with h | ⟨rfl, _⟩
    · exact .inr (m.hin x h)
    · exact .inl rfl
  · simp only [h']
    by_cases hc : s.effs.contains i = true
    · rw [if_pos hc]
      simp only [ckH, Bool.and_eq_true] at h4
      have hie : i ∈ s.effs := by simpa using hc
      have := List.all_eq_true.1 (List.all_eq_true.1 h4.2 hh m.mem) i hie
      simp only [Bool.or_eq_true, Bool.not_eq_true'] at this
      rcases this with (h | h) | h
      · exact absurd (by simpa using h) hnot
      · exfalso
        rw [← Bool.not_eq_true, List.all_eq_true] at h
        refine h fun x hx => ?_
        simp only [Bool.or_eq_true, Bool.not_eq_true']
        by_cases he : edge l x i = true
        · right; simpa using hpre x hx he
        · left; simpa using he
      · simpa using h
    · rw [if_neg hc]; exact m.mem
 unfold wpOp
 have ho' : l.toArray[i]? = some o := by simpa using ho
 simp only [ho']
 unfold wpList at hwl
 by_cases hw : Region.wanted o (yielded l.toArray a.tmps) = true
 · rw [if_pos hw] at hwl ⊢
   refine .inl (upon_up (Q := opPostH c l s (D ++ atsOf s.rs (valOf l a) J) i hh (hh.map (valOf l a))) (fun _ _ _ h => by cases h.1) hno ?_)
   rcases hwl with h | h
   · -- the frame behind it is the one before, with a value put
     have key : ∀ {r : Result Next}, o.upon c.P a (opPostH c l s (D ++ atsOf s.rs (valOf l a) J) i hh (hh.map (valOf l a)) .normal) (opPostH c l s (D ++ atsOf s.rs (valOf l a) J) i hh (hh.map (valOf l a))) r → o.upon c.P a K (opPostH c l s (D ++ atsOf s.rs (valOf l a) J) i hh (hh.map (valOf l a))) r := by
      intro r h
      cases r with
      | ok n w' =>
       cases n <;> simp only [Oper.upon] at h ⊢ <;> try exact h
       · exact hfin _ _ ⟨_, rfl⟩ h
       · exact hfin _ _ ⟨_, rfl⟩ h
       · exact Calls.mono h fun e w'' he => by
          cases e with
          | returned v => exact hfin _ _ ⟨_, rfl⟩ he
          | panicked ch => exact he
          | outgrown => exact he
       · have hd := h.2.1
         cases hdst : o.dst <;> simp [hdst, Act.put] at hd
       · exact Rows.mono h fun _ _ he => hfin _ _ ⟨_, rfl⟩ he
      | halt x w' => cases x <;> simp only [Oper.upon] at h ⊢ <;> exact h
     exact key h
   · exact absurd h.2 hno
 · rw [if_neg hw] at hwl ⊢
   exact hfin _ _ ⟨undef, rfl⟩ hwl
theorem MidH.step (h1 : ckDeps l s.deps = true) (h2 : ckDst l env = true) (h4 : ckH l s = true) (hsz : ckSize l c.n = true) (hO : OblH c l s env D l 0)
 {listed : Array Bool} {a : Act} {w : World} {hh : List Nat} {i : Nat} (m : MidH c l s env D listed a w hh) (hr : i ∈ Region.ready .any l.toArray listed) {K : Act → World → Prop}
 (hK : ∀ a' w' h', MidH c l s env D (listed.setIfInBounds i true) a' w' h' → K a' w') : wpOp c.P l.toArray Q i K a w := by
 obtain ⟨_, o, ho, _⟩ := mem_ready.1 hr
 have hil : i < l.length := by
  have := (Array.getElem?_eq_some_iff.1 ho).1
  simpa using this
 exact m.step1 h1 (List.all_eq_true.1 h2 i (List.mem_range.2 hil)) h4 hsz hr (fun o ho V De hV => by
  have := hO.at_ i o ho V De (by rw [Nat.zero_add]; exact hV)
  rwa [Nat.zero_add] at this) hK
theorem MidH.all (h1 : ckDeps l s.deps = true) (h2 : ckDst l env = true) (h4 : ckH l s = true) (h5 : ckBack l = true) (hsz : ckSize l c.n = true) (hO : OblH c l s env D l 0)
 (hK : ∀ a w h, h ∈ fullH s → MidH c l s env D (Array.replicate l.length true) a w h → Q .normal a w) :
 ∀ (fuel : Nat) (listed : Array Bool) (a : Act) (w : World) (h : List Nat), MidH c l s env D listed a w h → (List.range l.length).countP (fun i => !listed.getD i false) ≤ fuel → wpAny c.P .any l.toArray Q fuel listed a w := by
 have hfin : ∀ (listed : Array Bool) (a : Act) (w : World) (h : List Nat), MidH c l s env D listed a w h → Region.ready .any l.toArray listed = [] → Q .normal a w := by
  intro listed a w h m hr
  have hall : ∀ i, i < l.length → listed.getD i false = true := by
   intro i
   induction i using Nat.strongRecOn with
   | _ i ih =>
    intro hi
    cases hli : listed.getD i false with
    | true => rfl
    | false =>
     exfalso
     have : i ∈ Region.ready .any l.toArray listed := by
      refine mem_ready.2 ⟨by rw [getD_true_false (by rw [m.size]; exact hi)]; exact hli, l[i], by simp [List.getElem?_eq_getElem hi], fun e he hb => ?_⟩
      have hbk := List.all_eq_true.1 h5 i (List.mem_range.2 hi)
      rw [List.getElem?_eq_getElem hi] at hbk
      have := List.all_eq_true.1 hbk e (Array.mem_toList_iff.2 he)
      rw [hb] at this
      have hlt := lt_blt (by simpa using this)
      exact ih e.on hlt (by omega)
     rw [hr] at this
     cases this
  have heq : listed = Array.replicate l.length true := by
   apply Array.ext
   · simp [m.size]
   · intro i h1 h2
     have := hall i (by rw [m.size] at h1; exact h1)
     simp [h1] at this
     simp [this]
  have hf : h ∈ fullH s := by
   refine List.mem_filter.2 ⟨m.mem, List.all_eq_true.2 fun x hx => ?_⟩
   simp only [ckH, Bool.and_eq_true] at h4
   have := List.all_eq_true.1 h4.1.2 x hx
   simpa using (m.done x hx).1 (hall x (lt_blt this))
  subst heq
  exact hK a w h hf m
 intro fuel
 induction fuel with
 | zero =>
  intro listed a w h m hc0
  have hr : Region.ready .any l.toArray listed = [] := by
   apply List.eq_nil_iff_forall_not_mem.2
   intro i hi
   obtain ⟨hun, o, ho, _⟩ := mem_ready.1 hi
   have hil : i < l.length := by
    have := (Array.getElem?_eq_some_iff.1 ho).1
    simpa using this
   have hun' : listed.getD i false = false := by rw [← getD_true_false (by rw [m.size]; exact hil)]; exact hun
   have h0 : (List.range l.length).countP (fun i => !listed.getD i false) = 0 := by omega
   have := List.countP_eq_zero.1 h0 i (List.mem_range.2 hil)
   simp [hun'] at this
  exact ⟨hr, hfin _ _ _ _ m hr⟩
 | succ fuel ih =>
  intro listed a w h m hc0
  refine ⟨fun hr => hfin _ _ _ _ m hr, fun i hi => ?_⟩
  refine m.step h1 h2 h4 hsz hO hi fun a' w' h' m' => ih _ a' w' h' m' ?_
  obtain ⟨hun, o, ho, _⟩ := mem_ready.1 hi
  have hil : i < l.length := by
   have := (Array.getElem?_eq_some_iff.1 ho).1
   simpa using this
  have his : i < listed.size := by rw [m.size]; exact hil
  have hun' : listed.getD i false = false := by rw [← getD_true_false his]; exact hun
  have : (List.range l.length).countP (fun k => !(listed.setIfInBounds i true).getD k false) < (List.range l.length).countP (fun k => !listed.getD k false) := by
   refine countP_lt (fun k _ hk => ?_) ⟨i, List.mem_range.2 hil, by rw [hun']; rfl, ?_⟩
   · rw [getD_set his] at hk
     simp only [Bool.not_eq_true', Bool.or_eq_false_iff] at hk
     rw [hk.2]; rfl
   · rw [getD_set his]; simp
  omega
theorem rgH {id : Nat} (s : RH) (Le : (Nat → Value) → Own) (hm : c.P.follows .mixedOrders = true) (hok : rhOk l env s c.n = true) {L : Own} (hL : s.L [] [] = L) (hE : AllP (fun h => ∀ V : Nat → Value, s.L h (h.map V) = Le V) (fullH s)) (hO : OblH c l s env D l 0)
 (k : ∀ V : Nat → Value, AllP (fun i => (dstOf l i).isSome = true → s.vals i = none → s.ok i (V i)) (List.range l.length) → WQ c Q .normal (envOf l (VV s.vals V) (List.range l.length) ++ env) (Le V) (atsOf s.rs (VV s.vals V) ((List.range l.length).filter fun i => (dstOf l i).isSome) ++ D)) : WC c (.region id l.toArray true) Q env L D := by
 intro a w f st dh
 simp only [rhOk, Bool.and_eq_true] at hok
 obtain ⟨⟨⟨⟨h1, h2⟩, h5⟩, hsz⟩, h4⟩ := hok
 subst hL
 refine wp_region_any hm ?_
 have hs := Stp.drew [] w
 have m0 : MidH c l s env D (Array.replicate l.length false) a w.drew [] := by
  refine ⟨f, st.step hs, dh.step hs.nil, by simp, fun i k h _ => ?_, fun i d h _ => ?_, fun x _ => ?_, fun x hx => (by cases hx), ?_⟩
  · rw [getD_rep] at h; cases h
  · rw [getD_rep] at h; cases h
  · rw [getD_rep]; simp
  · simp only [ckH, Bool.and_eq_true] at h4
    simpa using h4.1.1
 have := MidH.all (Q := Q) h1 h2 h4 h5 hsz hO ?_ l.length (Array.replicate l.length false) a w.drew [] m0 (by
  have := List.countP_le_length (p := fun i => !(Array.replicate l.length false).getD i false) (l := List.range l.length)
  simpa using this)
 · simpa using this
 · intro a' w' h hf m
   have hin : ∀ i, (dstOf l i).isSome = true → (Array.replicate l.length true).getD i false = true := by
    intro i hi
    have : i < l.length := by
     rcases Nat.lt_or_ge i l.length with h | h
     · exact h
     · simp [dstOf, List.getElem?_eq_none h] at hi
    simp [this]
   have hp := hE.mem h hf (valOf l a')
   have hst := m.st
   have hdh := m.dh
   have hsl := m.slot
   rw [hp] at hst hdh hsl
   have hok2 : ∀ k, (dstOf l k).isSome = true → s.ok2 k (valOf l a' k) := fun k hk => by
    obtain ⟨d, hd⟩ := Option.isSome_iff_exists.1 hk
    have := (hsl k d (hin k hk) hd).1
    simpa [valOf, slotV, hd] using this
   have e1 : envOf l (valOf l a') (List.range l.length) = envOf l (VV s.vals (valOf l a')) (List.range l.length) := envOf_congr fun k _ hd => ok2_VV (hok2 k hd)
   have e2 : atsOf s.rs (valOf l a') ((List.range l.length).filter fun i => (dstOf l i).isSome) = atsOf s.rs (VV s.vals (valOf l a')) ((List.range l.length).filter fun i => (dstOf l i).isSome) := atsOf_congr fun k hk => ok2_VV (hok2 k (by simpa using (List.mem_filter.1 hk).2))
   have hk := k (valOf l a') (AllP.intro fun i _ hd hn => ok2_of (hok2 i hd) hn)
   rw [← e1, ← e2] at hk
   refine hk a' w' (m.frame hsz fun k hk => List.mem_range.1 hk) hst (DH.app (fun t ht => ?_) hdh)
   obtain ⟨i, hi, ht⟩ := mem_atsOf ht
   have hd := (List.mem_filter.1 hi).2
   obtain ⟨d, hd⟩ := Option.isSome_iff_exists.1 hd
   have := (hsl i d (hin i (by rw [hd]; rfl)) hd).2
   simp only [valOf, slotV, hd] at ht
   exact this t ht
theorem odH {i : Nat} {h : List Nat} {vs : List Value} {env' : Env} {L' : Own} {D' De : List Atom} {d : Nat} {u : Value} (hd : dstOf l i = some d) (hv : lk env' d = some u) (hL : L' = nextH s h vs i u) (hok : s.ok2 i u) (hat : SubD (s.at_ i u) D') (hD : SubD De D') :
 WQ c (opPostH c l s De i h vs) .normal env' L' D' := by
 intro a w f st dh
 have e : a.tmps.getD d undef = u := by
  have := f.at_ d u hv
  simp [this]
 have e2 : slotV l a i = u := by simp only [slotV, hd, e]
 subst hL
 refine ⟨rfl, f.dn, by rw [e2]; exact st, by rw [e2]; exact dh.sub hD, fun d' hd' => ?_⟩
 rw [hd] at hd'
 injection hd' with hd'
 subst hd'
 rw [e, e2]
 exact ⟨hok, dh.sub hat⟩
theorem od0H {i : Nat} {h : List Nat} {vs : List Value} {env' : Env} {L' : Own} {D' De : List Atom} (hd : dstOf l i = none) (hL : L' = nextH s h vs i undef) (hD : SubD De D') :
 WQ c (opPostH c l s De i h vs) .normal env' L' D' := by
 intro a w f st dh
 have e2 : slotV l a i = undef := by simp only [slotV, hd]
 subst hL
 refine ⟨rfl, f.dn, by rw [e2]; exact st, by rw [e2]; exact dh.sub hD, fun d' hd' => ?_⟩
 rw [hd] at hd'
 cases hd'
end
end
section
universe u₀
theorem G {α : Sort u₀} {a : α} : a = a := rfl
theorem Sn {D : List Atom} : SubD [] D := SubD.nil
theorem Sr {D : List Atom} : SubD D D := SubD.refl
theorem Sc {D As : List Atom} {t : Atom} (i : Nat) (hi : D[i]? = some t) (h : SubD As D) : SubD (t :: As) D := SubD.cons i hi h
section
variable {α : Type} {q : α → Prop} {a b c d e f : α}
theorem aP1 (h1 : q a) : AllP q [a] := ⟨h1, trivial⟩
theorem aP2 (h1 : q a) (h2 : q b) : AllP q [a, b] := ⟨h1, h2, trivial⟩
theorem aP3 (h1 : q a) (h2 : q b) (h3 : q c) : AllP q [a, b, c] := ⟨h1, h2, h3, trivial⟩
theorem aP4 (h1 : q a) (h2 : q b) (h3 : q c) (h4 : q d) : AllP q [a, b, c, d] := ⟨h1, h2, h3, h4, trivial⟩
theorem aP5 (h1 : q a) (h2 : q b) (h3 : q c) (h4 : q d) (h5 : q e) : AllP q [a, b, c, d, e] := ⟨h1, h2, h3, h4, h5, trivial⟩
end
section
variable {c : Cx} {l : List Oper} {ops : Array Oper} {env : Env} {L' : Own} {D : List Atom} {i d : Nat} {u : Value}
theorem oh {s : RH} {h : List Nat} {vs : List Value} (hd : dstOf l i = some d) (hL : L' = nextH s h vs i u) (hok : s.ok2 i u) (hat : s.at_ i u = []) : WL (opPostH c l s D i h vs) c ops [] ((d, u) :: env) L' D :=
 nl (odH hd (by simp [lk]) hL hok (by rw [hat]; exact SubD.nil) SubD.refl)
theorem oh0 {s : RH} {h : List Nat} {vs : List Value} (hd : dstOf l i = none) (hL : L' = nextH s h vs i undef) : WL (opPostH c l s D i h vs) c ops [] env L' D :=
 nl (od0H hd hL SubD.refl)
end
end
@[reducible] def zv0 : List Value := [.int .i64 0, .int .i64 0, .int .i64 0, .int .i64 0]
@[reducible] def zv1 : List Value := [.int .i64 0, .int .i64 0]
@[reducible] def zv2 : List Value := [.int .i64 0, .int .i64 0, .string ByteArray.empty, .string ByteArray.empty, .int .i64 0, .int .i64 0, .int .i64 0, .int .i64 0]
@[reducible] def zv3 : List Value := [.int .i64 0, .int .i64 0, .bool false, .int .i64 0, .int .i64 0, .int .i64 0, .int .i64 0]
@[reducible] def zv4 : List Value := [.int .i64 0, .int .i64 0, .int .i64 0, .int .i64 0, .int .i64 0, .int .i64 0, .string ByteArray.empty, .string ByteArray.empty, .int .i64 0, .int .i64 0, .int .i64 0]
@[reducible] def zv5 : List Value := [.string ByteArray.empty, .int .i64 0, .int .i64 0, .int .i64 0, .int .i64 0, .slice none 0 0, .int .i64 0, .int .i64 0, .int .i64 0, .int .i64 0]
@[reducible] def zv6 : List Value := [.int .i64 0, .int .i64 0, .bool false, .string ByteArray.empty, .string ByteArray.empty, .int .i64 0, .slice none 0 0, .slice none 0 0, .slice none 0 0, .slice none 0 0, .slice none 0 0, .int .i64 0, .int .i64 0, .int .i64 0, .string ByteArray.empty, .string ByteArray.empty, .int .i64 0, .int .i64 0, .int .i64 0, .int .i64 0, .int .i64 0, .string ByteArray.empty, .string ByteArray.empty, .int .i64 0, .int .i64 0, .slice none 0 0, .int .i64 0, .int .i64 0, .int .i64 0]
@[reducible] def zv7 : List Value := [.int .i64 0, .int .u64 0]
@[reducible] def zv8 : List Value := [.int .i64 0, .int .i64 0, .int .i64 0, .slice none 0 0, .int .i64 0, .int .i64 0, .int .i64 0, .int .i64 0, .int .i64 0, .string ByteArray.empty, .string ByteArray.empty, .int .i64 0, .int .i64 0, .slice none 0 0, .slice none 0 0, .slice none 0 0, .slice none 0 0]
@[reducible] def zv9 : List Value := [.int .i64 0, .slice none 0 0, .int .i64 0, .int .i64 0, .int .i64 0, .int .i64 0, .int .i64 0, .string ByteArray.empty, .string ByteArray.empty, .int .i64 0, .int .i64 0, .slice none 0 0]
theorem Si {D As : List Atom} (l : List Nat) (h : l.map (fun i => D[i]?) = As.map some) : SubD As D := by
  induction As generalizing l with
  | nil => exact SubD.nil
  | cons a r ih =>
    cases l with
    | nil => cases h
    | cons i l =>
      simp only [List.map_cons, List.cons.injEq] at h
      exact SubD.cons i h.1 (ih l h.2)
theorem Gs {l env : Env} (h : l.map (fun p => lk env p.1) = l.map (fun p => some p.2)) : Sub l env := by
  induction l with
  | nil => trivial
  | cons p r ih =>
    simp only [List.map_cons, List.cons.injEq] at h
    exact ⟨h.1, ih h.2⟩
theorem aP7 {α : Type} {q : α → Prop} {a b c d e f g : α} (h1 : q a) (h2 : q b) (h3 : q c) (h4 : q d) (h5 : q e) (h6 : q f) (h7 : q g) : AllP q [a, b, c, d, e, f, g] := ⟨h1, h2, h3, h4, h5, h6, h7, trivial⟩
@[reducible] def nS : Value := .slice none 0 0
theorem ixQ {c : Cx} {ops : Array Oper} {J : Cx → Array Oper → List Oper → Env → Own → List Atom → Prop} [IsJ J] {env : Env} {L : Own} {D : List Atom} {rest : List Oper} {d : Nat} {t : TypeId} {p : String} {af : Array Edge} {x y : Operand} {α : Type} [Inhabited α] {r : Rep α} (i : Nat) {xs : List α} {sv : Value} {m : Int} {T E : TypeId} (hx : ev env x = some sv) (hA : D[i]? = some (@Atom.mk (List α) (@repList α r) sv xs)) (hy : ev env y = some (.int .i64 m)) (ht : SliceTy c.P T E r.size) (hn : Nat.blt d c.n = true) (k : ∀ u, J c ops rest ((d, u) :: env) L ((@Atom.mk (Pt α) (@repPt α r) u ⟨xs.getD m.toNat default⟩) :: D)) (h0 : 0 ≤ m := by omega) (h1 : m.toNat < xs.length := by omega) : J c ops (⟨some d, .indexAddr T x y, t, p, af, none⟩ :: rest) env L D := ixP i hx hA hy ht h0 (getDE h1) hn k
end Go.Eng
