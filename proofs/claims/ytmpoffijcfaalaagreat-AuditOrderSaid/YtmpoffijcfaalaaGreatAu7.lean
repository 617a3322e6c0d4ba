/- Part 7 of the proof of auditOrder_holds: Eng8, Eng9, Eng12, Eng13, Eng14, Eng15, Eng16, Eng17. Every text below begins with what it shows. -/
import Derived.Scope
import Derived.Great.BuildSlice
import Derived.Laws.Cover3
import Derived.Laws.Externs
import Derived.Lib.Bytealg
import Derived.StillTail
import Derived.Test.YtmpoffijcfaalaaGreatAu6

/- Order-open statements whose values are known; calls in walks that only read; own variables whose content reads as data; scopes. Generic: no program. -/

namespace Go.Eng

/-! ### rgD where most values are known -/
def VV (vals : Nat → Option Value) (V : Nat → Value) (i : Nat) : Value := (vals i).getD (V i)
@[reducible] def sV (s : RS) (vals : Nat → Option Value) : RS := { s with ok := fun i u => match vals i with
  | some v => u = v
  | none => s.ok i u }
def OblV (c : Cx) (l : List Oper) (s : RS) (vals : Nat → Option Value) (env : Env) (D : List Atom) : List Oper → Nat → Prop
  | [], _ => True
  | o :: r, i => (∀ (V : Nat → Value) (De : List Atom), AllP (fun k => vals k = none → s.ok k (V k)) (s.deps i) →
      AllP (fun j => WL (opPost c l (sV s vals) (D ++ De) i (pre s V j)) c l.toArray [o] (envOf l (VV vals V) (s.deps i) ++ env) (s.L (pre s V j)) (atsOf s (VV vals V) (s.deps i) ++ (D ++ De))) (phases l s.effs i)) ∧ OblV c l s vals env D r (i + 1)

theorem AllP.imp {α : Type} {q q' : α → Prop} : ∀ {l : List α}, AllP q l → (∀ x ∈ l, q x → q' x) → AllP q' l
  | [], _, _ => trivial
  | x :: r, h, hi => ⟨hi x (List.mem_cons_self ..) h.1, AllP.imp h.2 fun y hy => hi y (List.mem_cons_of_mem _ hy)⟩
theorem envOf_congr {l : List Oper} {V V' : Nat → Value} : ∀ {ks : List Nat}, (∀ k ∈ ks, (dstOf l k).isSome = true → V k = V' k) → envOf l V ks = envOf l V' ks
  | [], _ => rfl
  | k :: r, h => by
    have ih := envOf_congr (ks := r) fun x hx => h x (List.mem_cons_of_mem _ hx)
    have hk := h k (List.mem_cons_self ..)
    simp only [envOf]
    cases hd : dstOf l k with
    | none => exact ih
    | some d => rw [hd] at hk; simp only; rw [ih, hk rfl]
theorem atsOf_congr {s : RS} {V V' : Nat → Value} : ∀ {ks : List Nat}, (∀ k ∈ ks, V k = V' k) → atsOf s V ks = atsOf s V' ks
  | [], _ => rfl
  | k :: r, h => by
    simp only [atsOf]
    rw [h k (List.mem_cons_self ..), atsOf_congr fun x hx => h x (List.mem_cons_of_mem _ hx)]
theorem VV_of {s : RS} {vals : Nat → Option Value} {V : Nat → Value} {k : Nat} (h : (sV s vals).ok k (V k)) : V k = VV vals V k := by
  unfold VV
  simp only [sV] at h
  split at h
  · rename_i v hv; rw [hv]; exact h
  · rename_i hv; rw [hv]; rfl
theorem ok_of {s : RS} {vals : Nat → Option Value} {V : Nat → Value} {k : Nat} (h : (sV s vals).ok k (V k)) (hn : vals k = none) : s.ok k (V k) := by
  simp only [sV, hn] at h
  exact h

section
variable {c : Cx} {l : List Oper} {s : RS} {vals : Nat → Option Value} {env : Env} {D : List Atom} {Q : Exit → Act → World → Prop}

theorem OblV.to : ∀ {r : List Oper} {i : Nat}, OblV c l s vals env D r i → Obl c l (sV s vals) env D r i
  | [], _, _ => trivial
  | o :: r, i, h => ⟨fun V De hV => by
      have h1 := h.1 V De (hV.imp fun k _ hk => fun hn => ok_of hk hn)
      have e : ∀ k ∈ s.deps i, V k = VV vals V k := fun k hk => VV_of (hV.mem k hk)
      have e1 : envOf l V (s.deps i) = envOf l (VV vals V) (s.deps i) := envOf_congr fun k hk _ => e k hk
      have e2 : atsOf (sV s vals) V (s.deps i) = atsOf s (VV vals V) (s.deps i) := (atsOf_congr e).trans (by
        generalize s.deps i = ks
        induction ks with
        | nil => rfl
        | cons k r ih => simp only [atsOf, ih])
      rw [show (sV s vals).deps i = s.deps i from rfl, e1, e2]
      exact h1, OblV.to h.2⟩

/-- **A statement whose order is open, most of its values known.** -/
theorem rgV {id : Nat} (s : RS) (vals : Nat → Option Value) (hm : c.P.follows .mixedOrders = true) (hok : rgOk l env s c.n = true) {L : Own} (hL : s.L [] = L) (hO : OblV c l s vals env D l 0)
    (k : ∀ V : Nat → Value, AllP (fun i => (dstOf l i).isSome = true → vals i = none → s.ok i (V i)) (List.range l.length) → WQ c Q .normal (envOf l (VV vals V) (List.range l.length) ++ env) (s.L (s.effs.map V)) (atsOf s (VV vals V) ((List.range l.length).filter fun i => (dstOf l i).isSome) ++ D)) : WC c (.region id l.toArray true) Q env L D := by
  refine rgD (sV s vals) hm hok hL hO.to fun V hV => ?_
  have h := k V (hV.imp fun i _ hi hd hn => ok_of (hi hd) hn)
  have e : ∀ k ∈ List.range l.length, (dstOf l k).isSome = true → V k = VV vals V k := fun k hk hd => VV_of (hV.mem k hk hd)
  have e1 : envOf l V (List.range l.length) = envOf l (VV vals V) (List.range l.length) := envOf_congr e
  have e2 : atsOf (sV s vals) V ((List.range l.length).filter fun i => (dstOf l i).isSome) = atsOf s (VV vals V) ((List.range l.length).filter fun i => (dstOf l i).isSome) := by
    refine (atsOf_congr fun k hk => e k (List.mem_filter.1 hk).1 (by simpa using (List.mem_filter.1 hk).2)).trans ?_
    generalize (List.range l.length).filter _ = ks
    induction ks with
    | nil => rfl
    | cons k r ih => simp only [atsOf, ih]
  rw [e1, e2]
  exact h
end

section
variable {c : Cx} {ops : Array Oper} {Q : Exit → Act → World → Prop} {env : Env} {L : Own} {D : List Atom} {rest : List Oper} {d : Nat} {v : Value} {t : TypeId} {p : String} {af : Array Edge}

/-- A call that only reads, in a walk that only reads. -/
theorem cfq {f : FuncId} {vs : List Value} {As : List Atom} {v : Value} (h : FnV c.P f vs As v) (hok : FnOk c.P f) {xs : List Operand} {ats : Array TypeId}
    (hxs : evs env xs = some vs) (hA : SubD As D) (hn : Nat.blt d c.n = true) (k : WLQ Q c ops rest ((d, v) :: env) L D) :
    WLQ Q c ops (⟨some d, .call { callee := .value (.func f), args := xs.toArray, argTypes := ats }, t, p, af, none⟩ :: rest) env L D := by
  intro a w fr st dh
  unfold wpQuiet
  rw [if_pos (show Region.wanted ⟨some d, .call { callee := .value (.func f), args := xs.toArray, argTypes := ats }, t, p, af, none⟩ (yielded ops a.tmps) = true from rfl)]
  refine ⟨v, fun w' hw' => ?_, k _ w (fr.put v (lt_blt hn)) st dh⟩
  have hrun := run_call (P := c.P) (ρ := a.eval) (o := ⟨some d, .call { callee := .value (.func f), args := xs.toArray, argTypes := ats }, t, p, af, none⟩) (x := .func f) (xs := xs) (ats := ats) (f := f) (first := #[]) (cap := #[]) (vs := vs) rfl rfl (fr.evs hxs) hok w'
  simp only [List.nil_append, List.append_nil, Array.toList_empty] at hrun
  unfold Oper.quietAt
  rw [hrun]
  refine ⟨rfl, ?_⟩
  have hc := h L.bs w' (by simpa [Own.bs, bsOf] using st.nd) (fun b hb => Nat.lt_of_lt_of_le (st.lt b hb) hw'.size) (by simp) (fun t ht => by
    have := (dh.step hw'.nil) t (hA t ht)
    simpa [Own.bs, bsOf] using this)
  refine Calls.mono hc fun e w'' ⟨u, he, hp⟩ => ?_
  obtain ⟨hs, y, hR, _⟩ := hp
  have hR' : u = v := hR
  subst hR'
  have hs' : Stp [] w' w'' := by simpa [Own.bs, bsOf] using hs
  exact ⟨he, hw'.trans hs'⟩

theorem oneCell_of_list {α : Type} [Rep α] {S : Nat → Prop} {w : World} {v : Value} {xs : List α} (h : Atom.holds ⟨v, xs⟩ S w) : v.oneCell' = true := by
  obtain ⟨ha, A, cc, hsv, _⟩ := h
  simp only at hsv ha
  rw [cells_of_not ha] at hsv
  have : v = .slice A xs.length cc := by simpa using hsv
  rw [this]; rfl
theorem list_len {α : Type} [Rep α] {S : Nat → Prop} {w : World} {v : Value} {xs : List α} (h : Atom.holds ⟨v, xs⟩ S w) : xs.length ≤ 9223372036854775807 := by
  obtain ⟨ha, A, cc, hsv, _, _, h3, _⟩ := h
  exact h3
/-- A store of a slice that stands. -/
theorem stL {α : Type} {r : Rep α} (i j : Nat) {b o : Nat} {T : TypeId} {cs : List Value} {x y : Operand} {u : Value} {xs : List α} (hx : ev env x = some (.pointer (some ⟨b, o, none⟩))) (hy : ev env y = some u) (hi : L[i]? = some (bl b T cs)) (hj : D[j]? = some (@Atom.mk (List α) (@repList α r) u xs)) {E : TypeId} (ht : OneTy c.P E) (ho : o < cs.length) (k : WL Q c ops rest env (L.set i (bl b T (cs.set o u))) D) :
    WL Q c ops (⟨none, .store E x y, t, p, af, none⟩ :: rest) env L D :=
  gtL (q := u.oneCell' = true) (fun _ _ h => oneCell_of_list (h _ (List.mem_of_getElem? hj))) fun hu => stB i hx hy hi ht hu ho k
/-- A store of a slice of one's own. -/
theorem stR {α : Type} {r : Rep α} (i j : Nat) {b o : Nat} {T e : TypeId} {cs : List Value} {x y : Operand} {u : Value} {xs : List α} (hx : ev env x = some (.pointer (some ⟨b, o, none⟩))) (hy : ev env y = some u) (hi : L[i]? = some (bl b T cs)) (hj : L[j]? = some (@row α r e u xs)) {E : TypeId} (ht : OneTy c.P E) (ho : o < cs.length) (k : WL Q c ops rest env (L.set i (bl b T (cs.set o u))) D) :
    WL Q c ops (⟨none, .store E x y, t, p, af, none⟩ :: rest) env L D :=
  (isJ_WL Q).fact (q := u.oneCell' = true) (fun a w f st dh => by
    obtain ⟨css, hown, _⟩ := st.own _ (List.mem_of_getElem? hj)
    rcases hown.2 with ⟨rfl, _⟩ | ⟨g, cap, cur, rfl, _⟩ <;> rfl) fun hu => stB i hx hy hi ht hu ho k
/-- A call that only reads. -/
theorem cfv {f : FuncId} {vs : List Value} {As : List Atom} {v : Value} (h : FnV c.P f vs As v) (hok : FnOk c.P f) {xs : List Operand} {ats : Array TypeId}
    (hxs : evs env xs = some vs) (hA : SubD As D) (hn : Nat.blt d c.n = true) (k : WL Q c ops rest ((d, v) :: env) L D) :
    WL Q c ops (⟨some d, .call { callee := .value (.func f), args := xs.toArray, argTypes := ats }, t, p, af, none⟩ :: rest) env L D :=
  cf h hok hxs hA hn fun _ u hu => by
    have hu : u = v := hu
    subst hu
    exact k

theorem lb {l : Nat} (h : WQ c Q .normal env L D) : WC c (.label l) Q env L D := fun a w f s d => wp_label (h a w f s d)
theorem asSl {α : Type} {r : Rep α} {J : Cx → Array Oper → List Oper → Env → Own → List Atom → Prop} [iJ : IsJ J] (j : Nat) {l : List Oper} {u : Value} {xs : List α} (hj : D[j]? = some (@Atom.mk (List α) (@repList α r) u xs)) (k : (∃ A cc, u = .slice A xs.length cc) → J c ops l env L D) : J c ops l env L D :=
  gtL (q := ∃ A cc, u = .slice A xs.length cc) (fun S w h => by
    obtain ⟨ha, A, cc, hsv, _⟩ := h _ (List.mem_of_getElem? hj)
    simp only at hsv ha
    rw [cells_of_not ha] at hsv
    exact ⟨A, cc, by simpa using hsv⟩) k
end

theorem nil_list {α : Type} {r : Rep α} (S : Nat → Prop) (w : World) : Atom.holds (@Atom.mk (List α) (@repList α r) (.slice none 0 0) []) S w :=
  ⟨rfl, show rdSlice S w _ _ from ⟨none, 0, rfl, Nat.le_refl _, by decide, Nat.zero_le _, fun h => absurd rfl h⟩⟩
/-! ### A variable of the call's own whose content reads as data -/
/-- Block b holds one cell, which reads as x. -/
@[reducible] def vr {α : Type} [r : Rep α] (b : Nat) (T : TypeId) (x : α) : OwnE where
  bs := [b]
  holds S w := ∃ u, w.heap[b]? = some (.cells #[u] T (0, 0)) ∧ Atom.holds ⟨u, x⟩ S w
  valid := by
    rintro S w ⟨u, h, _⟩ b' hb
    simp at hb; subst hb; exact lt_of_heap h
  keep := by
    rintro S S' w w' ⟨u, h, ha⟩ hs hw
    exact ⟨u, (hw b (.inr (by simp))).trans h, Atom.keep ha hs fun b hb => hw b (.inl hb)⟩

section
variable {c : Cx} {ops : Array Oper} {Q : Exit → Act → World → Prop} {env : Env} {L : Own} {D : List Atom} {rest : List Oper} {α : Type} {r : Rep α} {b : Nat} {T : TypeId} {x : α}

theorem bs_set_same {L : Own} {i : Nat} {p q : OwnE} (hi : L[i]? = some p) (hb : q.bs = p.bs) : Own.bs (L.set i q) = L.bs := by
  induction L generalizing i with
  | nil => simp at hi
  | cons y r ih =>
    cases i with
    | zero => simp at hi; subst hi; simp [Own.bs, bsOf, hb]
    | succ i => simp only [List.getElem?_cons_succ] at hi; have := ih hi; simp only [Own.bs, List.set_cons_succ, bsOf] at this ⊢; rw [this]
theorem St.swap {w0 w : World} {M : List Nat} {L : Own} {p q : OwnE} {i : Nat} (hi : L[i]? = some p) (st : St w0 M w L) (hb : q.bs = p.bs) (hq : q.holds (Sf L.bs w) w) : St w0 M w (L.set i q) := by
  have e := bs_set_same hi hb
  refine ⟨st.stp, fun y hy => ?_, by rw [e]; exact st.nd, by rw [e]; exact st.new⟩
  rw [e]
  rcases List.mem_or_eq_of_mem_set hy with h | h
  · exact st.own y h
  · subst h; exact hq
theorem DH.swap {w : World} {D : List Atom} {L : Own} {p q : OwnE} {i : Nat} (hi : L[i]? = some p) (dh : DH D w L) (hb : q.bs = p.bs) : DH D w (L.set i q) := by
  intro t ht
  rw [bs_set_same hi hb]
  exact dh t ht

theorem op_st (i : Nat) {w0 w : World} {M : List Nat} (hi : L[i]? = some (@vr α r b T x)) (st : St w0 M w L) (dh : DH D w L) : ∃ u, St w0 M w (L.set i (bl b T [u])) ∧ DH (⟨u, x⟩ :: D) w (L.set i (bl b T [u])) := by
  obtain ⟨u, h, ha⟩ := st.own _ (List.mem_of_getElem? hi)
  refine ⟨u, st.swap hi rfl h, DH.cons ?_ (dh.swap hi rfl)⟩
  rw [bs_set_same hi (q := bl b T [u]) rfl]
  exact ha
/-- What the variable holds is looked at. -/
theorem opL (i : Nat) {l : List Oper} (hi : L[i]? = some (@vr α r b T x)) (k : ∀ u, WL Q c ops l env (L.set i (bl b T [u])) (⟨u, x⟩ :: D)) : WL Q c ops l env L D := fun a w f st dh => by
  obtain ⟨u, s', d'⟩ := op_st i hi st dh
  exact k u a w f s' d'
/-- What stands in the variable is let be what it reads as. -/
theorem clL (i j : Nat) {u : Value} {l : List Oper} (hi : L[i]? = some (bl b T [u])) (hj : D[j]? = some ⟨u, x⟩) (k : WL Q c ops l env (L.set i (@vr α r b T x)) D) : WL Q c ops l env L D :=
  fun a w f st dh => k a w f (st.swap hi rfl ⟨u, st.own _ (List.mem_of_getElem? hi), dh.at_ j hj⟩) (dh.swap hi rfl)
theorem clQ (i j : Nat) {u : Value} {e : Exit} (hi : L[i]? = some (bl b T [u])) (hj : D[j]? = some ⟨u, x⟩) (k : WQ c Q e env (L.set i (@vr α r b T x)) D) : WQ c Q e env L D :=
  fun a w f st dh => k a w f (st.swap hi rfl ⟨u, st.own _ (List.mem_of_getElem? hi), dh.at_ j hj⟩) (dh.swap hi rfl)
end

section
variable {c : Cx} {ops : Array Oper} {J : Cx → Array Oper → List Oper → Env → Own → List Atom → Prop} [iJ : IsJ J] {env : Env} {L : Own} {D : List Atom} {rest : List Oper} {d : Nat} {v : Value} {t : TypeId} {p : String} {af : Array Edge} {x y : Operand} {m n : Int} {xt yt : TypeId}
include iJ
theorem muI (hx : ev env x = some (.int .i64 m)) (hy : ev env y = some (.int .i64 n)) (hb : InI (m * n)) (hn : Nat.blt d c.n = true) (k : J c ops rest ((d, .int .i64 (m * n)) :: env) L D) :
    J c ops (⟨some d, .binOp .mul xt x y yt, t, p, af, none⟩ :: rest) env L D :=
  pu rfl rfl hn (fun a w f => by simp [execOp, f.ev hx, f.ev hy, eqGuard, binOp, Op.intArith, wrap_i64_in hb]) k
theorem mxI {q : IntKind} {ats : Array TypeId} (hx : ev env x = some (.int q m)) (hy : ev env y = some (.int q n)) {r : Int} (hr : max m n = r) (hn : Nat.blt d c.n = true) (k : J c ops rest ((d, .int q r) :: env) L D) :
    J c ops (⟨some d, .call { callee := .builtin .max, args := #[x, y], argTypes := ats }, t, p, af, none⟩ :: rest) env L D :=
  pu rfl rfl hn (fun a w f => by
    subst hr
    have e : max m n = if n > m then n else m := by omega
    simp [execOp, resolve, invoke, builtin, f.ev hx, f.ev hy, Builtin.max_, Builtin.max2, e]) k
/-- The empty list, as a fact. -/
theorem emL {α : Type} [r : Rep α] {l : List Oper} (k : J c ops l env L ((@Atom.mk (List α) (@repList α r) (.slice none 0 0) []) :: D)) : J c ops l env L D :=
  adL _ (fun S w _ => nil_list S w) k
end
theorem emC {c : Cx} {Q : Exit → Act → World → Prop} {env : Env} {L : Own} {D : List Atom} {α : Type} [r : Rep α] {x : Code} (k : WC c x Q env L ((@Atom.mk (List α) (@repList α r) (.slice none 0 0) []) :: D)) : WC c x Q env L D :=
  adC _ (fun S w _ => nil_list S w) k

/-! ### Results that stand in a variable of the call's own -/
theorem run_loadVarM {P : Program} {T : TypeId} {b : Nat} {cs : List Value} (h : RowTy P T cs.length) {w : World} {T' : TypeId} (hh : w.heap[b]? = some (.cells cs.toArray T' (0, 0))) : (loadVar T ⟨b, 0, none⟩).run P w = .ok (.agg cs.toArray) w := by
  have := run_loadAtM (P := P) (T := T) (b := b) (o := 0) (cs := cs) h (w := w) (fun j u hu => by
    rw [cell_of_row w b _ _ T' (0, 0) hh]
    simpa using hu)
  simpa only [Instr.loadAt, Instr.sureAddr, Sem.run_bind, Sem.run_pure, Result.andThen_ok] using this
section
variable {env : Env} {L L' : Own} {D : List Atom} {fn : Func} {X : List Nat} {L0 : Own} {β : Type} {R : β → Value → Prop} {L1 : β → Value → Own} {out : β → Value → List Atom} {P : Program} {n : Nat} {w0 : World}
end
end Go.Eng

/- Literals: of several cells, empty ones, structs; literal slices that grow; slices against nil; what fields of a struct of one's own are. Generic: no program. -/

namespace Go.Eng

section
variable {c : Cx} {ops : Array Oper} {Q : Exit → Act → World → Prop} {env : Env} {L : Own} {D : List Atom} {rest : List Oper} {d : Nat} {v : Value} {t : TypeId} {p : String} {af : Array Edge} {x y z : Operand} {T : TypeId} {b o : Nat} {cs : List Value}

theorem run_buildSlice0 {P : Program} {T E : TypeId} {size bytes : Nat} (ht : AppTy P T E size bytes) (w : World) :
    (Instr.buildSlice T 0 #[]).run P w = .ok (.slice (some ⟨w.heap.size, 0, none⟩) 0 0) (w.alloc (.cells #[] E)) := by
  obtain ⟨hu', i, z, hi, hz, hs, hb, hzs, _⟩ := ht
  simp [Instr.buildSlice, run_underlying hu', sizeOf, typeInfo, hi, Instr.fill, newRow, show Array.range 0 = #[] from rfl]
/-- An empty literal. -/
theorem bs0 {E : TypeId} {size bytes : Nat} (ht : AppTy c.P T E size bytes) (hn : Nat.blt d c.n = true) (k : ∀ b, WL Q c ops rest ((d, .slice (some ⟨b, 0, none⟩) 0 0) :: env) (bl b E [] :: L) D) :
    WL Q c ops (⟨some d, .buildSlice T 0 #[], t, p, af, none⟩ :: rest) env L D := by
  refine wpl_any (σ := Nat) rfl rfl (fun b => (d, .slice (some ⟨b, 0, none⟩) 0 0) :: env) (fun b => bl b E [] :: L) (fun _ => D) (fun a w f st dh => ?_) k
  refine ⟨w.heap.size, .slice (some ⟨w.heap.size, 0, none⟩) 0 0, w.alloc (.cells #[] E), ?_, f.put _ (lt_blt hn), bl_push (cs := []) st dh⟩
  simp only [execOp, List.map_toArray, List.map_nil, Sem.run_bind, run_buildSlice0 ht, Result.andThen_ok, Sem.run_pure]
theorem run_buildSliceM {P : Program} {T E : TypeId} {size bytes : Nat} (ht : AppTy P T E size bytes) {us : List Value} (hl : us.length = size) (h0 : us.length ≠ 0) (hb : us.length ≤ 1000) (w : World) :
    (Instr.buildSlice T 1 #[(0, .agg us.toArray)]).run P w = .ok (.slice (some ⟨w.heap.size, 0, none⟩) 1 1) (w.alloc (.cells us.toArray E)) := by
  subst hl
  obtain ⟨hu', i, z, hi, hz, hs, hb', hzs, _⟩ := ht
  refine run_buildSlice w T E 1 _ us.toArray i z hu' hi hz (by rw [hs]; omega) (by rw [hs]; omega) ?_
  rw [hs]
  have hc : (Value.agg us.toArray).cells = us.toArray := rfl
  simp only [Instr.fill, hc, Nat.zero_mul]
  have key : ∀ (l : List Value) (pre post : List Value), l.length = post.length → ((l.zipIdx pre.length).foldl (fun (cs : Array Value) (x : Value × Nat) => cs.setIfInBounds (0 + x.2) x.1) (pre ++ post).toArray) = (pre ++ l).toArray := by
    intro l
    induction l with
    | nil => intro pre post h; have : post = [] := List.eq_nil_of_length_eq_zero (by simpa using h.symm); subst this; rfl
    | cons u l ih =>
      intro pre post h
      obtain ⟨q, post, rfl⟩ : ∃ q r, post = q :: r := by
        cases post with
        | nil => simp at h
        | cons q r => exact ⟨q, r, rfl⟩
      simp only [List.zipIdx_cons, List.foldl_cons]
      have e : ((pre ++ q :: post).toArray.setIfInBounds (0 + pre.length) u) = ((pre ++ [u]) ++ post).toArray := by simp
      rw [e]
      have := ih (pre ++ [u]) post (by simpa using h)
      simp only [List.length_append, List.length_singleton] at this
      rw [this]
      simp
  have hz : ((Array.range (1 * us.length)).map (z.cells[· % z.cells.size]!)).size = us.length := by simp
  generalize ((Array.range (1 * us.length)).map (z.cells[· % z.cells.size]!)) = arr at hz
  have hk := key us [] arr.toList (by simp [hz])
  rw [if_neg (by simp [hz])]
  simp only [List.length_nil, List.nil_append, Array.toArray_toList] at hk
  rw [← Array.foldl_toList, Array.toList_zipIdx]
  simpa using hk
/-- A literal of one element of several cells. -/
theorem bsM {us : List Value} {E : TypeId} {size bytes : Nat} (hx : ev env x = some (.agg us.toArray)) (ht : AppTy c.P T E size bytes) (hs : us.length = size) (h0 : us.isEmpty = false) (hl : Nat.ble us.length 1000 = true) (hn : Nat.blt d c.n = true)
    (k : ∀ b, WL Q c ops rest ((d, .slice (some ⟨b, 0, none⟩) 1 1) :: env) (bl b E us :: L) D) :
    WL Q c ops (⟨some d, .buildSlice T 1 #[(0, x)], t, p, af, none⟩ :: rest) env L D := by
  refine wpl_any (σ := Nat) rfl rfl (fun b => (d, .slice (some ⟨b, 0, none⟩) 1 1) :: env) (fun b => bl b E us :: L) (fun _ => D) (fun a w f st dh => ?_) k
  refine ⟨w.heap.size, .slice (some ⟨w.heap.size, 0, none⟩) 1 1, w.alloc (.cells us.toArray E), ?_, f.put _ (lt_blt hn), bl_push st dh⟩
  have hne : us.length ≠ 0 := fun e => by rw [List.eq_nil_of_length_eq_zero e] at h0; cases h0
  simp only [execOp, List.map_toArray, List.map_cons, List.map_nil, f.ev hx, Sem.run_bind, run_buildSliceM ht hs hne (Nat.le_of_ble_eq_true hl), Result.andThen_ok, Sem.run_pure]

/-- A literal of one's own, from now on as a slice that may grow. -/
theorem rwB {α : Type} [r : Rep α] {l : List Oper} {E : TypeId} (xs : List α) (css : List (List Value)) {n : Nat} (hn : xs.length = n) (hcs : css.flatten = cs) (hr : ∀ S w, (∀ u ∈ D, u.holds S w) → rdL S w css xs) (hl : Nat.ble xs.length 1000 = true)
    (k : WL Q c ops l env (@row α r E (.slice (some ⟨b, 0, none⟩) n n) xs :: L) D) : WL Q c ops l env (bl b E cs :: L) D := by
  subst hn
  intro a w f st dh
  have hl := Nat.le_of_ble_eq_true hl
  have hh : w.heap[b]? = some (.cells cs.toArray E (0, 0)) := st.own _ (List.mem_cons_self ..)
  have hrd : rdL (Sf (Own.bs (bl b E cs :: L)) w) w css xs := hr _ _ dh
  have hlen := hrd.len
  rw [hcs] at hlen
  refine k a w f (st.swap (i := 0) (p := bl b E cs) (q := row E (.slice (some ⟨b, 0, none⟩) xs.length xs.length) xs) rfl rfl ⟨css, ⟨?_, .inr ⟨b, xs.length, cs.toArray, rfl, Nat.zero_le _, hh, Nat.le_refl _, by simp only [maxLen]; omega, by simpa using hlen, ?_⟩⟩, hrd, by omega⟩) (dh.swap (i := 0) (p := bl b E cs) rfl rfl)
  · rw [hcs]; exact hlen
  · rw [hcs, List.take_of_length_le (by simp only [List.toList_toArray]; omega)]

/-- A struct literal. -/
theorem bd {ps : List (Nat × Operand)} {us : List Value} {cs : List Value} (hx : evs env (ps.map (·.2)) = some us) (hb : c.P.built T ((ps.map (·.1)).zip us) = some cs.toArray) (hn : Nat.blt d c.n = true) (k : WL Q c ops rest ((d, .agg cs.toArray) :: env) L D) :
    WL Q c ops (⟨some d, .build T ps.toArray, t, p, af, none⟩ :: rest) env L D :=
  pu rfl rfl hn (fun a w f => by
    have e := f.evs hx
    subst e
    have h2 : (ps.toArray.map fun (i, x) => (i, a.eval x)).toList = (ps.map (·.1)).zip ((ps.map (·.2)).map a.eval) := by
      simp only [List.map_toArray]
      clear hx hb
      induction ps with
      | nil => rfl
      | cons q r ih => simp only [List.map_cons, List.zip_cons_cons, ih]
    have := run_build (P := c.P) w T (ps.toArray.map fun (i, x) => (i, a.eval x)) cs.toArray (by rw [h2]; exact hb)
    simp only [execOp, Sem.run_bind, this, Result.andThen_ok, Sem.run_pure]) k
end

section
variable {c : Cx} {ops : Array Oper} {J : Cx → Array Oper → List Oper → Env → Own → List Atom → Prop} [iJ : IsJ J] {env : Env} {L : Own} {D : List Atom} {rest : List Oper} {d : Nat} {v : Value} {t : TypeId} {p : String} {af : Array Edge} {x y : Operand} {xt yt : TypeId}
include iJ
/-- A slice that stands against nil. -/
theorem eqN {α : Type} {r : Rep α} (i : Nat) {xs : List α} {sv : Value} {E : TypeId} (hu : c.P.underlying xt = some (.slice E)) (hx : ev env x = some sv) (hA : D[i]? = some (@Atom.mk (List α) (@repList α r) sv xs)) (hy : ev env y = some (.slice none 0 0)) (hn : Nat.blt d c.n = true)
    (k : ∀ b : Bool, (b = true → xs = []) → J c ops rest ((d, .bool b) :: env) L D) : J c ops (⟨some d, .binOp .eql xt x y yt, t, p, af, none⟩ :: rest) env L D := by
  refine iJ.fact (q := ∃ A cc, sv = .slice A xs.length cc ∧ (A = none → xs = [])) (fun a w f st dh => ?_) ?_
  · obtain ⟨ha, A, cc, hsv, h1, h2, h3, h4⟩ := dh.at_ i hA
    simp only at hsv ha
    rw [cells_of_not ha] at hsv
    refine ⟨A, cc, by simpa using hsv, fun hA => ?_⟩
    by_cases he : xs = []
    · exact he
    · obtain ⟨b, o, h, _⟩ := h4 he
      rw [h] at hA; cases hA
  · rintro ⟨A, cc, rfl, h⟩
    refine pu rfl rfl hn (fun a w f => ?_) (k A.isNone fun hA => h (by simpa using hA))
    simp [execOp, f.ev hx, f.ev hy, eqGuard, binOp, run_equal_slice_nil w xt E A xs.length cc hu]
end

/-! Structs compared, field by field -/
theorem eqF {P : Program} {d : Nat} {f : Field} {fs : List Field} {xs ys : Array Value} {a b : Value} {r s : Bool} (hn : (f.name == "_") = false) {ds : TypeDesc} (hu : P.underlying f.type = some ds) (hr : ds.isRow = false) (ha : xs[f.offset]? = some a) (hb : ys[f.offset]? = some b)
    (he : ∀ w, (Op.equalIn d f.type a b).run P w = .ok r w) (hrest : ∀ w, (Op.eqFields d xs ys fs).run P w = .ok s w) (w : World) : (Op.eqFields d xs ys (f :: fs)).run P w = .ok (r && s) w := by
  have hn' : f.name ≠ "_" := by simpa using hn
  have hp : ∀ (zs : Array Value) (z : Value), zs[f.offset]? = some z → ∀ w, (part f.type zs f.offset).run P w = .ok z w := by
    intro zs z hz w
    unfold part
    rw [Sem.run_bind, run_isAgg hu, Result.andThen_ok, hr]
    simp [hz]
  unfold Op.eqFields
  rw [if_pos hn']
  simp only [Sem.run_bind, hp xs a ha, hp ys b hb, he, Result.andThen_ok]
  cases r with
  | false => simp
  | true => simpa using hrest w
theorem eqF0 {P : Program} {d : Nat} {xs ys : Array Value} (w : World) : (Op.eqFields d xs ys []).run P w = .ok true w := by simp [Op.eqFields]
theorem eqFi {P : Program} {d : Nat} {T : TypeId} {k k' : IntKind} (hu : P.underlying T = some (.int k')) (a b : Int) (w : World) : (Op.equalIn (d + 1) T (.int k a) (.int k b)).run P w = .ok (decide (a = b)) w := by
  rw [run_equalIn_int w d T k k' a b hu]
  by_cases h : a = b <;> simp [h]
theorem eqFs {P : Program} {d : Nat} {T : TypeId} (hu : P.underlying T = some .string) (a b : ByteArray) (w : World) : (Op.equalIn (d + 1) T (.string a) (.string b)).run P w = .ok (decide (a = b)) w := by
  rw [run_equalIn_string w d T a b hu, beq_ba]
end Go.Eng

/- Ways that meet again inside a region; operations passed over; loops whose unchanged things need not be named. Generic: no program. -/

namespace Go.Eng

section
variable {c : Cx} {ops : Array Oper} {J : Cx → Array Oper → List Oper → Env → Own → List Atom → Prop} [iJ : IsJ J] {env env0 env' : Env} {L : Own} {D D' : List Atom} {l rest : List Oper} {d : Nat} {v : Value}
include iJ

omit iJ in
/-- A guarded group and its pick: what stands behind is shown once. -/
theorem jo {T : Bool} (env0 : Env) (hs : Sub env0 env) (hg : J c ops rest ((d, .bool T) :: env0) L D → J c ops l env L D) (hk : J c ops rest ((d, .bool T) :: env0) L D) : J c ops l env L D := hg hk
theorem jW {b : Bool} (K : J c ops rest ((d, .bool b) :: env0) L D) (hs : Sub env0 env') (hD : SubD D D') : J c ops rest ((d, .bool b) :: env') L D' :=
  iJ.mono (fun a w f st dh => ⟨⟨f.size, f.dn, fun i u hu => by
    simp only [lk] at hu
    by_cases h : d = i
    · subst h
      simp only [beq_self_eq_true, cond_true] at hu
      exact f.at_ _ _ (by simpa only [lk, beq_self_eq_true, cond_true] using hu)
    · have hb : (d == i) = false := by simpa using h
      rw [hb] at hu
      have := lk_of_sub hs _ _ hu
      exact f.at_ _ _ (by simp only [lk, hb, cond_false]; exact this)⟩, dh.sub hD⟩) K
/-- 'and': the way on which the group was walked; the way past it. -/
theorem jA {B X : Bool} (K : J c ops rest ((d, .bool (B && X)) :: env0) L D) (hB : B = true) (hs : Sub env0 env') (hD : SubD D D') : J c ops rest ((d, .bool X) :: env') L D' := by
  subst hB
  exact jW K hs hD
theorem jA0 {B X : Bool} (K : J c ops rest ((d, .bool (B && X)) :: env0) L D) (hB : B = false) (hs : Sub env0 env') (hD : SubD D D') : J c ops rest ((d, .bool false) :: env') L D' := by
  subst hB
  exact jW K hs hD
theorem jR {B X : Bool} (K : J c ops rest ((d, .bool (B || X)) :: env0) L D) (hB : B = false) (hs : Sub env0 env') (hD : SubD D D') : J c ops rest ((d, .bool X) :: env') L D' := by
  subst hB
  exact jW K hs hD
theorem jR0 {B X : Bool} (K : J c ops rest ((d, .bool (B || X)) :: env0) L D) (hB : B = true) (hs : Sub env0 env') (hD : SubD D D') : J c ops rest ((d, .bool true) :: env') L D' := by
  subst hB
  exact jW K hs hD
theorem spA {i : Nat} {t : Bool} (h : lk env i = some (.bool t)) (h1 : t = true → J c ops l ((i, .bool true) :: env) L D) (h2 : t = false → J c ops l ((i, .bool false) :: env) L D) : J c ops l env L D := spB h h1 h2
theorem spO {i : Nat} {t : Bool} (h : lk env i = some (.bool t)) (h2 : t = false → J c ops l ((i, .bool false) :: env) L D) (h1 : t = true → J c ops l ((i, .bool true) :: env) L D) : J c ops l env L D := spB h h1 h2

/-- Operations that are not wanted are passed over. -/
def skips (n : Nat) (ops : Array Oper) : List Oper → Env → Option Env
  | [], env => some env
  | o :: r, env =>
    match o.guard, o.dst with
    | some (j, b), some d =>
      match (ops[j]?).bind (·.dst) with
      | some dj =>
        match lk env dj with
        | some (.bool b') => if b' == b || !Nat.blt d n then none else skips n ops r ((d, undef) :: env)
        | some (.tuple _) => if Nat.blt d n then skips n ops r ((d, undef) :: env) else none
        | _ => none
      | none => none
    | _, _ => none
theorem gS : ∀ {g : List Oper} {env : Env}, skips c.n ops g env = some env' → J c ops rest env' L D → J c ops (g ++ rest) env L D
  | [], env, h, k => by
    simp only [skips, Option.some.injEq] at h
    subst h
    exact k
  | o :: r, env, h, k => by
    obtain ⟨dst, op, t, p, af, g⟩ := o
    cases g with
    | none => simp [skips] at h
    | some g =>
      obtain ⟨j, b⟩ := g
      cases dst with
      | none => simp [skips] at h
      | some d =>
        simp only [skips] at h
        cases hdj : (ops[j]?).bind (·.dst) with
        | none => simp [hdj] at h
        | some dj =>
          simp only [hdj] at h
          cases hv : lk env dj with
          | none => simp [hv] at h
          | some u =>
            simp only [hv] at h
            have key : (∀ a w, Fr c.n a env → St c.w0 c.M w L → DH D w L → Region.wanted ⟨some d, op, t, p, af, some (j, b)⟩ (yielded ops a.tmps) = false) → Nat.blt d c.n = true → skips c.n ops r ((d, undef) :: env) = some env' →
                J c ops (⟨some d, op, t, p, af, some (j, b)⟩ :: (r ++ rest)) env L D := fun hw hn hs =>
              iJ.wantN (env' := (d, undef) :: env) (fun a w f st dh => ⟨hw a w f st dh, f.put undef (lt_blt hn)⟩) (gS hs k)
            cases u with
            | bool b' =>
              simp only at h
              split at h
              · cases h
              · rename_i hn
                simp only [Bool.or_eq_true, Bool.not_eq_true', not_or, Bool.not_eq_true, Bool.not_eq_false] at hn
                refine key (fun a w f st dh => ?_) hn.2 h
                have := f.at_ _ _ hv
                have hne : ¬ b' = b := by simpa using hn.1
                simp [Region.wanted, yielded, hdj, this, hne]
            | tuple ts =>
              simp only at h
              split at h
              · rename_i hn
                refine key (fun a w f st dh => ?_) hn h
                have := f.at_ _ _ hv
                simp [Region.wanted, yielded, hdj, this]
              · cases h
            | _ => cases h
end

section
variable {c : Cx} {Q : Exit → Act → World → Prop} {env : Env} {L : Own} {D : List Atom} {x : Code}
/-- A loop: C, Dc and Lc are what it does not turn. -/
theorem lpE {σ : Type} (C : Env) (Dc : List Atom) (V : σ → Env → Env) (LL : σ → Own) (DD : σ → List Atom → List Atom) (I : σ → Prop) (μ : σ → Nat) (s0 : σ) (hC : Sub C env) (hc : SubD Dc D) (hI : I s0)
    (hE : Sub (V s0 C) env) (hL : LL s0 = L) (hD : SubD (DD s0 Dc) D)
    (body : ∀ s, I s → WC c x (Exit.then (LoopK c (fun s => V s C) LL (fun s => DD s Dc) I μ s) Q) (V s C) (LL s) (DD s Dc)) : WC c (.loop x) Q env L D :=
  lp (fun s => V s C) LL (fun s => DD s Dc) I μ s0 hI hE hL hD body
/-- A loop that turns nothing of its own. -/
theorem lpC {σ : Type} (C : Env) (Dc : List Atom) (V : σ → Env → Env) (I : σ → Prop) (μ : σ → Nat) (s0 : σ) (hC : Sub C env) (hc : SubD Dc D) (hI : I s0)
    (hE : Sub (V s0 C) env)
    (body : ∀ s, I s → WC c x (Exit.then (LoopK c (fun s => V s C) (fun _ => L) (fun _ => Dc) I μ s) Q) (V s C) L Dc) : WC c (.loop x) Q env L D :=
  lp (fun s => V s C) (fun _ => L) (fun _ => Dc) I μ s0 hI hE rfl hc body
theorem all_snoc {P : Nat → Prop} {i : Nat} (h : ∀ j, j < i → P j) (hi : P i) : ∀ j, j < i + 1 → P j := fun j hj => by
  by_cases e : j = i
  · subst e; exact hi
  · exact h j (by omega)
end

/-- 'for all places below n'. -/
def allI (n : Nat) (p : Nat → Bool) : Bool := (List.range n).all p
theorem allI_true {n : Nat} {p : Nat → Bool} (h : ∀ j, j < n → p j = true) : allI n p = true := List.all_eq_true.2 fun j hj => h j (List.mem_range.1 hj)
theorem allI_false {n : Nat} {p : Nat → Bool} (j : Nat) (hj : j < n) (h : p j = false) : allI n p = false := by
  rw [← Bool.not_eq_true]
  intro e
  have := List.all_eq_true.1 e j (List.mem_range.2 hj)
  rw [h] at this
  cases this
theorem allI_iff {n : Nat} {p : Nat → Bool} : allI n p = true ↔ ∀ j, j < n → p j = true := by simp [allI]
theorem list_rd {α : Type} [r : Rep α] {S : Nat → Prop} {w : World} {k : Value} {l : List α} (h : Atom.holds ⟨k, l⟩ S w) : (@repList α r).rd S w [k] l := by
  obtain ⟨ha, hr⟩ := h
  rwa [cells_of_not ha] at hr
theorem getDE {α : Type} {l : List α} {i : Nat} {d : α} (h : i < l.length) : l[i]? = some (l.getD i d) := by simp [List.getD, List.getElem?_eq_getElem h]
end Go.Eng

/- The order of texts. Generic: no program. -/

namespace Go.Eng

theorem bl_ge : ∀ a b : List UInt8, (Op.bytesLess a b || decide (a = b)) = !Op.bytesLess b a
  | [], [] => rfl
  | [], b :: y => by simp [Op.bytesLess]
  | a :: x, [] => by simp [Op.bytesLess]
  | a :: x, b :: y => by
    have ih := bl_ge x y
    simp only [Op.bytesLess]
    rcases Nat.lt_trichotomy a.toNat b.toNat with h | h | h
    · have h1 : a < b := UInt8.lt_iff_toNat_lt.2 h
      have h2 : ¬ b < a := fun e => by have := UInt8.lt_iff_toNat_lt.1 e; omega
      have h3 : ¬ b = a := fun e => by subst e; omega
      simp [h1, h2, h3]
    · obtain rfl := UInt8.toNat_inj.1 h
      have h1 : ¬ a < a := fun e => by have := UInt8.lt_iff_toNat_lt.1 e; omega
      simpa [h1] using ih
    · have h1 : ¬ a < b := fun e => by have := UInt8.lt_iff_toNat_lt.1 e; omega
      have h2 : b < a := UInt8.lt_iff_toNat_lt.2 h
      have h3 : ¬ a = b := fun e => by subst e; omega
      simp [h1, h2, h3]
theorem le_ge (a b : ByteArray) : (ltB a b || decide (a = b)) = !ltB b a := by
  have := bl_ge a.toList b.toList
  have e : decide (a = b) = decide (a.toList = b.toList) := by
    rw [← beq_ba]
    exact Bool.eq_iff_iff.2 (by simp)
  rw [e]
  exact this
theorem ints_all {S : Nat → Prop} {w : World} {v : Value} {xs : List Int} (h : Atom.holds ⟨v, xs⟩ S w) : ∀ x ∈ xs, InI x := by
  intro x hx
  obtain ⟨ha, A, cc, hsv, _, _, h3, h4⟩ := h
  obtain ⟨b, o, _, _, hi⟩ := h4 (List.ne_nil_of_mem hx)
  obtain ⟨i, hi2, rfl⟩ := List.getElem_of_mem hx
  obtain ⟨cs, hc, _⟩ := hi i _ (List.getElem?_eq_getElem hi2)
  exact hc.2
theorem eqG {P : Program} {d : Nat} {f : Field} {fs : List Field} {xs ys : Array Value} {a b : Value} {r s : Bool} {w : World} (hn : (f.name == "_") = false) {ds : TypeDesc} (hu : P.underlying f.type = some ds) (hr : ds.isRow = false) (ha : xs[f.offset]? = some a) (hb : ys[f.offset]? = some b)
    (he : ∀ w, (Op.equalIn d f.type a b).run P w = .ok r w) (hrest : ∀ w, (Op.eqFields d xs ys fs).run P w = .ok s w) : (Op.eqFields d xs ys (f :: fs)).run P w = .ok (r && s) w := eqF hn hu hr ha hb he hrest w
end Go.Eng

/- Entries that the model stands in for; a variable of one's own that is let stand; arrays of one's own. Generic: no program. -/

namespace Go.Eng

structure Ext (P : Program) (f : FuncId) (e : Array Value → Sem Value) : Prop where
  ok : ∃ fn, P.funcs[f]? = some fn ∧ (fn.name == "runtime.NumGoroutine") = false ∧ fn.body.isNone = true ∧ Extern.findNext fn = none ∧ Extern.find fn = some e
def ArrTy (P : Program) (T E : TypeId) (n m : Nat) : Prop := P.underlying T = some (.array n E) ∧ (P.info? E).map (·.size) = some m

section
variable {c : Cx} {ops : Array Oper} {J : Cx → Array Oper → List Oper → Env → Own → List Atom → Prop} [iJ : IsJ J] {env : Env} {L : Own} {D : List Atom} {rest : List Oper} {d : Nat} {v : Value} {t : TypeId} {p : String} {af : Array Edge} {x y : Operand} {T : TypeId} {b o : Nat}
include iJ
theorem cx {f : FuncId} {e : Array Value → Sem Value} (hf : Ext c.P f e) {vs : List Value} (hrun : ∀ w, (e vs.toArray).run c.P w = .ok v w) {xs : List Operand} {ats : Array TypeId} (hxs : evs env xs = some vs) (hn : Nat.blt d c.n = true)
    (k : J c ops rest ((d, v) :: env) L D) : J c ops (⟨some d, .call { callee := .value (.func f), args := xs.toArray, argTypes := ats }, t, p, af, none⟩ :: rest) env L D :=
  pu rfl rfl hn (fun a w fr => by
    obtain ⟨fn, h1, h2, h3, h4, h5⟩ := hf.ok
    have hm : xs.map a.eval = vs := fr.evs hxs
    have hF : a.eval (.func f) = .func (.func f) #[] #[] := rfl
    simp only [execOp, resolve, Deferred.ofValue, hF, invoke, List.map_toArray, hm, Sem.run_bind, Sem.run_pure, Result.andThen_ok]
    have := run_callFunc_extern h1 h2 h3 h4 h5 (vs.toArray) w
    rw [hrun w] at this
    simpa using this) k
/-- The place of an element of an array of one's own. -/
theorem ixA {m : Int} {n : Nat} {E : TypeId} {size : Nat} (hx : ev env x = some (.pointer (some ⟨b, o, none⟩))) (hy : ev env y = some (.int .i64 m)) (ht : ArrTy c.P T E n size) (h0 : 0 ≤ m) (h1 : m < (n : Int)) (hn : Nat.blt d c.n = true)
    (k : J c ops rest ((d, .pointer (some ⟨b, o + m.toNat * size, none⟩)) :: env) L D) : J c ops (⟨some d, .indexAddr T x y, t, p, af, none⟩ :: rest) env L D :=
  pu rfl rfl hn (fun a w f => by
    obtain ⟨j, hj, hs⟩ := Option.map_eq_some_iff.1 ht.2
    simp [execOp, f.ev hx, f.ev hy, Instr.indexAt, asIntOf, run_underlying ht.1, h0, h1, sizeOf, typeInfo, hj, hs, Addr.add_mid, Instr.sureAddr]) k
end
section
variable {c : Cx} {ops : Array Oper} {Q : Exit → Act → World → Prop} {env : Env} {L : Own} {D : List Atom} {b : Nat} {cs : List Value}
/-- A variable of one's own is let stand: it is a pointer to what it has. -/
theorem frP {α : Type} [r : Rep α] {l : List Oper} {T : TypeId} (xx : α) (hr : ∀ S w, (∀ u ∈ D, u.holds S w) → r.rd S w cs xx)
    (k : WL Q c ops l env L ((@Atom.mk (Pt α) (@repPt α r) (.pointer (some ⟨b, 0, none⟩)) ⟨xx⟩) :: D)) : WL Q c ops l env (bl b T cs :: L) D := by
  intro a w f st dh
  refine k a w f st.drop (DH.cons ?_ dh.drop)
  have hh : w.heap[b]? = some (.cells cs.toArray T (0, 0)) := st.own _ (List.mem_cons_self ..)
  have hn := st.nd
  simp only [Own.bs, bsOf, List.nodup_append] at hn
  have hS : Sf L.bs w b := ⟨lt_of_heap hh, fun hx => hn.2.2 b (by simp) b hx rfl⟩
  refine ⟨rfl, b, 0, cs, rfl, hS, hr _ _ fun u hu => dh.drop u hu, fun j u hu => ?_⟩
  rw [Nat.zero_add, cell_of_row w b _ _ T (0, 0) hh]
  simpa using hu
end

theorem spl_app : ∀ (us pre cs : List Value), us.length = cs.length → spl (pre ++ cs) pre.length us = pre ++ us
  | [], pre, cs, h => by
    obtain rfl : cs = [] := List.eq_nil_of_length_eq_zero h.symm
    rfl
  | v :: r, pre, [], h => by cases h
  | v :: r, pre, c :: cs, h => by
    have ih := spl_app r (pre ++ [v]) cs (by simpa using h)
    simp only [List.append_assoc, List.singleton_append, List.length_append, List.length_singleton] at ih
    unfold spl
    rw [List.set_append_right _ _ (Nat.le_refl _), Nat.sub_self]
    exact ih
theorem spl_all {cs us : List Value} (h : us.length = cs.length) : spl cs 0 us = us := by simpa using spl_app us [] cs h
/-- The whole of a variable is written. -/
theorem stW {c : Cx} {ops : Array Oper} {Q : Exit → Act → World → Prop} {env : Env} {L : Own} {D : List Atom} {rest : List Oper} {t : TypeId} {p : String} {af : Array Edge} {x y : Operand} {T E : TypeId} {b : Nat} {cs us : List Value} (i : Nat)
    (hx : ev env x = some (.pointer (some ⟨b, 0, none⟩))) (hy : ev env y = some (.agg us.toArray)) (hi : L[i]? = some (bl b T cs)) (ht : RowTy c.P E us.length) (hu : us.all (·.oneCell') = true) (hl : us.length = cs.length) (k : WL Q c ops rest env (L.set i (bl b T us)) D) :
    WL Q c ops (⟨none, .store E x y, t, p, af, none⟩ :: rest) env L D :=
  stM i hx hy hi ht hu (by omega) (by rw [spl_all hl]; exact k)
/-! 128 bits -/
theorem add64_ok {P : Program} (x y c : Int) (hx : 0 ≤ x) (hy : 0 ≤ y) (hc0 : 0 ≤ c) (hc : c ≤ 1) (w : World) :
    (add64Entry [.int .u64 x, .int .u64 y, .int .u64 c].toArray).run P w = .ok (.tuple #[.int .u64 ((x + y + c) % 18446744073709551616), .int .u64 ((x + y + c) / 18446744073709551616)]) w := run_add64 x y c hx hy hc0 hc w
/-- What a comparison of texts tells. -/
def cmpB (a b : ByteArray) : Int := Go.Lib.compareBytes a.data.toList b.data.toList
theorem cmp_ok {P : Program} (a b : ByteArray) (w : World) : (Extern.BytealgCompare.compare [.string a, .string b].toArray).run P w = .ok (.int .i64 (cmpB a b)) w := Go.Lib.run_compareString a b w
end Go.Eng

/- A region whose order is open at its head, where all only read, and settled at its tail. Generic: no program. -/

namespace Go.Eng

section
variable {P : Program} {ops : Array Oper} {md : Region.Mode} {C : World → Prop}

end

/-! Results, some of which stand in variables of the call's own -/
theorem St.dropA {w0 w : World} {M : List Nat} {L : Own} : ∀ {A : Own}, St w0 M w (A ++ L) → St w0 M w L
  | [], h => h
  | _ :: _, h => St.dropA h.drop
theorem DH.dropA {D : List Atom} {w : World} {L : Own} : ∀ {A : Own}, DH D w (A ++ L) → DH D w L
  | [], h => h
  | _ :: _, h => DH.dropA h.drop
section
variable {env : Env} {L : Own} {D : List Atom} {fn : Func} {X : List Nat} {L0 : Own} {β : Type} {R : β → Value → Prop} {L1 : β → Value → Own} {out : β → Value → List Atom} {P : Program} {n : Nat} {w0 : World} {M : List Nat}
def ResIs (P : Program) (n : Nat) (w0 : World) (M : List Nat) (fn : Func) (env : Env) (L : Own) (v : Value) : Prop := ∀ a w, Fr n a env → St w0 M w L → (results fn a.tmps).run P w = .ok v w
theorem fRG (y : β) (A : Own) {v : Value} (hrun : ResIs P n w0 (L0.bs ++ X) fn env L v) (hR : R y v) (hL : L = A ++ (L1 y v ++ [fz X w0])) (hD : SubD (out y v) D) :
    WQ ⟨P, n, w0, L0.bs ++ X⟩ (PostOf P fn X w0 L0 R L1 out) .ret env L D := by
  intro a w f st dh
  refine bodyPost_ret (hrun a w f st) f.dn ⟨_, rfl, ?_⟩
  subst hL
  exact Fnc.post y hR rfl hD st.dropA dh.dropA (new_of (X := X) (w := w) st.dropA)
theorem own_at {w : World} {b : Nat} {T : TypeId} {cs : List Value} (i : Nat) (hi : L[i]? = some (bl b T cs)) (st : St w0 M w L) : w.heap[b]? = some (.cells cs.toArray T (0, 0)) := st.own _ (List.mem_of_getElem? hi)
theorem rC {t : Nat} {T T' : TypeId} {b : Nat} {cs : List Value} (i : Nat) (hr : fn.results = #[.cell t T]) (h1 : lk env t = some (.pointer (some ⟨b, 0, none⟩))) (hi : L[i]? = some (bl b T' cs)) (ht : RowTy P T cs.length) : ResIs P n w0 M fn env L (.agg cs.toArray) := fun a w f st => by
  simp [results, hr, f.at_ t _ h1, asAddr, Sem.run_bind, run_loadVarM ht (own_at i hi st)]
theorem rCT {t u : Nat} {T T' : TypeId} {b : Nat} {cs : List Value} {v2 : Value} (i : Nat) (hr : fn.results = #[.cell t T, .tmp u]) (h1 : lk env t = some (.pointer (some ⟨b, 0, none⟩))) (h2 : lk env u = some v2)
    (hi : L[i]? = some (bl b T' cs)) (ht : RowTy P T cs.length) : ResIs P n w0 M fn env L (.tuple #[.agg cs.toArray, v2]) := fun a w f st => by
  simp [results, hr, f.at_ t _ h1, f.at_ u _ h2, asAddr, Sem.run_bind, run_loadVarM ht (own_at i hi st)]
end
end Go.Eng

/- Method values. Generic: no program. -/

namespace Go.Eng
section
variable {c : Cx} {ops : Array Oper} {J : Cx → Array Oper → List Oper → Env → Own → List Atom → Prop} [iJ : IsJ J] {env : Env} {L : Own} {D : List Atom} {rest : List Oper} {d : Nat} {v : Value} {t : TypeId} {p : String} {af : Array Edge}
/-- A function value with first arguments of its own. -/
theorem mf1 {fn : Fn} {xs ys : List Operand} {vs us : List Value} (hy : evs env ys = some us) (hx : evs env xs = some vs) (hn : Nat.blt d c.n = true) (k : J c ops rest ((d, .func fn us.toArray vs.toArray) :: env) L D) : J c ops (⟨some d, .makeFunc fn ys.toArray xs.toArray, t, p, af, none⟩ :: rest) env L D :=
  pu rfl rfl hn (fun a w f => by simp [execOp, Instr.makeFunc, f.evs hx, f.evs hy]) k
variable {x y : Operand} {q : IntKind} {m n : Int} {xt yt : TypeId} {T : TypeId}
include iJ
end
end Go.Eng

/- An open order in which two things of its own are laid, in either order. Generic: no program. -/

namespace Go.Eng
section
variable {c : Cx} {l : List Oper} {s : RS} {env : Env} {D : List Atom} {Q : Exit → Act → World → Prop}
end
end Go.Eng
