/- Order-open statements whose values are known; calls in walks that only read; own variables whose content reads as data; scopes. Generic: no program. -/
import Derived.Test.YtcjaodddckbciaaEng7
import Derived.Scope
namespace Go.Eng

/-! ### rgD where most values are known -/
def VV (vals : Nat → Option Value) (V : Nat → Value) (i : Nat) : Value := (vals i).getD (V i)
@[reducible] def sV (s : RS) (vals : Nat → Option Value) : RS := { s with ok := fun i u => match vals i with
  | some v => u = v
  | none => s.ok i u }
def OblV (c : Cx) (l : List Oper) (s : RS) (vals : Nat → Option Value) (env : Env) (D : List Atom) : List Oper → Nat → Prop
  | [], _ => True
  | o :: r, i => (∀ (V : Nat → Value) (De : List Atom), AllP (fun k => vals k = none → s.ok k (V k)) (s.deps i) →
      AllP (fun j => WL (opPost c l (sV s vals) (D ++ De) i (pre s V j)) c l.toArray [o] (envOf l (VV vals V) (s.deps i) ++ env) (s.L (pre s V j)) (atsOf s (VV vals V) (s.deps i) ++ (D ++ De))) (phases l s.effs i)) ∧ OblV c l s vals env D r (i + 1)

theorem AllP.imp {α : Type} {q q' : α → Prop} : ∀ {l : List α}, AllP q l → (∀ x ∈ l, q x → q' x) → AllP q' l
  | [], _, _ => trivial
  | x :: r, h, hi => ⟨hi x (List.mem_cons_self ..) h.1, AllP.imp h.2 fun y hy => hi y (List.mem_cons_of_mem _ hy)⟩
theorem envOf_congr {l : List Oper} {V V' : Nat → Value} : ∀ {ks : List Nat}, (∀ k ∈ ks, (dstOf l k).isSome = true → V k = V' k) → envOf l V ks = envOf l V' ks
  | [], _ => rfl
  | k :: r, h => by
    have ih := envOf_congr (ks := r) fun x hx => h x (List.mem_cons_of_mem _ hx)
    have hk := h k (List.mem_cons_self ..)
    simp only [envOf]
    cases hd : dstOf l k with
    | none => exact ih
    | some d => rw [hd] at hk; simp only; rw [ih, hk rfl]
theorem atsOf_congr {s : RS} {V V' : Nat → Value} : ∀ {ks : List Nat}, (∀ k ∈ ks, V k = V' k) → atsOf s V ks = atsOf s V' ks
  | [], _ => rfl
  | k :: r, h => by
    simp only [atsOf]
    rw [h k (List.mem_cons_self ..), atsOf_congr fun x hx => h x (List.mem_cons_of_mem _ hx)]
theorem VV_of {s : RS} {vals : Nat → Option Value} {V : Nat → Value} {k : Nat} (h : (sV s vals).ok k (V k)) : V k = VV vals V k := by
  unfold VV
  simp only [sV] at h
  split at h
  · rename_i v hv; rw [hv]; exact h
  · rename_i hv; rw [hv]; rfl
theorem ok_of {s : RS} {vals : Nat → Option Value} {V : Nat → Value} {k : Nat} (h : (sV s vals).ok k (V k)) (hn : vals k = none) : s.ok k (V k) := by
  simp only [sV, hn] at h
  exact h

section
variable {c : Cx} {l : List Oper} {s : RS} {vals : Nat → Option Value} {env : Env} {D : List Atom} {Q : Exit → Act → World → Prop}

theorem OblV.to : ∀ {r : List Oper} {i : Nat}, OblV c l s vals env D r i → Obl c l (sV s vals) env D r i
  | [], _, _ => trivial
  | o :: r, i, h => ⟨fun V De hV => by
      have h1 := h.1 V De (hV.imp fun k _ hk => fun hn => ok_of hk hn)
      have e : ∀ k ∈ s.deps i, V k = VV vals V k := fun k hk => VV_of (hV.mem k hk)
      have e1 : envOf l V (s.deps i) = envOf l (VV vals V) (s.deps i) := envOf_congr fun k hk _ => e k hk
      have e2 : atsOf (sV s vals) V (s.deps i) = atsOf s (VV vals V) (s.deps i) := (atsOf_congr e).trans (by
        generalize s.deps i = ks
        induction ks with
        | nil => rfl
        | cons k r ih => simp only [atsOf, ih])
      rw [show (sV s vals).deps i = s.deps i from rfl, e1, e2]
      exact h1, OblV.to h.2⟩

/-- **A statement whose order is open, most of its values known.** -/
theorem rgV {id : Nat} (s : RS) (vals : Nat → Option Value) (hm : c.P.follows .mixedOrders = true) (hok : rgOk l env s c.n = true) {L : Own} (hL : s.L [] = L) (hO : OblV c l s vals env D l 0)
    (k : ∀ V : Nat → Value, AllP (fun i => (dstOf l i).isSome = true → vals i = none → s.ok i (V i)) (List.range l.length) → WQ c Q .normal (envOf l (VV vals V) (List.range l.length) ++ env) (s.L (s.effs.map V)) (atsOf s (VV vals V) ((List.range l.length).filter fun i => (dstOf l i).isSome) ++ D)) : WC c (.region id l.toArray true) Q env L D := by
  refine rgD (sV s vals) hm hok hL hO.to fun V hV => ?_
  have h := k V (hV.imp fun i _ hi hd hn => ok_of (hi hd) hn)
  have e : ∀ k ∈ List.range l.length, (dstOf l k).isSome = true → V k = VV vals V k := fun k hk hd => VV_of (hV.mem k hk hd)
  have e1 : envOf l V (List.range l.length) = envOf l (VV vals V) (List.range l.length) := envOf_congr e
  have e2 : atsOf (sV s vals) V ((List.range l.length).filter fun i => (dstOf l i).isSome) = atsOf s (VV vals V) ((List.range l.length).filter fun i => (dstOf l i).isSome) := by
    refine (atsOf_congr fun k hk => e k (List.mem_filter.1 hk).1 (by simpa using (List.mem_filter.1 hk).2)).trans ?_
    generalize (List.range l.length).filter _ = ks
    induction ks with
    | nil => rfl
    | cons k r ih => simp only [atsOf, ih]
  rw [e1, e2]
  exact h
end

section
variable {c : Cx} {ops : Array Oper} {Q : Exit → Act → World → Prop} {env : Env} {L : Own} {D : List Atom} {rest : List Oper} {d : Nat} {v : Value} {t : TypeId} {p : String} {af : Array Edge}

/-- A call that only reads, in a walk that only reads. -/
theorem cfq {f : FuncId} {vs : List Value} {As : List Atom} {v : Value} (h : FnV c.P f vs As v) (hok : FnOk c.P f) {xs : List Operand} {ats : Array TypeId}
    (hxs : evs env xs = some vs) (hA : SubD As D) (hn : Nat.blt d c.n = true) (k : WLQ Q c ops rest ((d, v) :: env) L D) :
    WLQ Q c ops (⟨some d, .call { callee := .value (.func f), args := xs.toArray, argTypes := ats }, t, p, af, none⟩ :: rest) env L D := by
  intro a w fr st dh
  unfold wpQuiet
  rw [if_pos (show Region.wanted ⟨some d, .call { callee := .value (.func f), args := xs.toArray, argTypes := ats }, t, p, af, none⟩ (yielded ops a.tmps) = true from rfl)]
  refine ⟨v, fun w' hw' => ?_, k _ w (fr.put v (lt_blt hn)) st dh⟩
  have hrun := run_call (P := c.P) (ρ := a.eval) (o := ⟨some d, .call { callee := .value (.func f), args := xs.toArray, argTypes := ats }, t, p, af, none⟩) (x := .func f) (xs := xs) (ats := ats) (f := f) (first := #[]) (cap := #[]) (vs := vs) rfl rfl (fr.evs hxs) hok w'
  simp only [List.nil_append, List.append_nil, Array.toList_empty] at hrun
  unfold Oper.quietAt
  rw [hrun]
  refine ⟨rfl, ?_⟩
  have hc := h L.bs w' (by simpa [Own.bs, bsOf] using st.nd) (fun b hb => Nat.lt_of_lt_of_le (st.lt b hb) hw'.size) (by simp) (fun t ht => by
    have := (dh.step hw'.nil) t (hA t ht)
    simpa [Own.bs, bsOf] using this)
  refine Calls.mono hc fun e w'' ⟨u, he, hp⟩ => ?_
  obtain ⟨hs, y, hR, _⟩ := hp
  have hR' : u = v := hR
  subst hR'
  have hs' : Stp [] w' w'' := by simpa [Own.bs, bsOf] using hs
  exact ⟨he, hw'.trans hs'⟩

theorem oneCell_of_list {α : Type} [Rep α] {S : Nat → Prop} {w : World} {v : Value} {xs : List α} (h : Atom.holds ⟨v, xs⟩ S w) : v.oneCell' = true := by
  obtain ⟨ha, A, cc, hsv, _⟩ := h
  simp only at hsv ha
  rw [cells_of_not ha] at hsv
  have : v = .slice A xs.length cc := by simpa using hsv
  rw [this]; rfl
theorem list_len {α : Type} [Rep α] {S : Nat → Prop} {w : World} {v : Value} {xs : List α} (h : Atom.holds ⟨v, xs⟩ S w) : xs.length ≤ 9223372036854775807 := by
  obtain ⟨ha, A, cc, hsv, _, _, h3, _⟩ := h
  exact h3
/-- A store of a slice that stands. -/
theorem stL {α : Type} {r : Rep α} (i j : Nat) {b o : Nat} {T : TypeId} {cs : List Value} {x y : Operand} {u : Value} {xs : List α} (hx : ev env x = some (.pointer (some ⟨b, o, none⟩))) (hy : ev env y = some u) (hi : L[i]? = some (bl b T cs)) (hj : D[j]? = some (@Atom.mk (List α) (@repList α r) u xs)) {E : TypeId} (ht : OneTy c.P E) (ho : o < cs.length) (k : WL Q c ops rest env (L.set i (bl b T (cs.set o u))) D) :
    WL Q c ops (⟨none, .store E x y, t, p, af, none⟩ :: rest) env L D :=
  gtL (q := u.oneCell' = true) (fun _ _ h => oneCell_of_list (h _ (List.mem_of_getElem? hj))) fun hu => stB i hx hy hi ht hu ho k
/-- A store of a slice of one's own. -/
theorem stR {α : Type} {r : Rep α} (i j : Nat) {b o : Nat} {T e : TypeId} {cs : List Value} {x y : Operand} {u : Value} {xs : List α} (hx : ev env x = some (.pointer (some ⟨b, o, none⟩))) (hy : ev env y = some u) (hi : L[i]? = some (bl b T cs)) (hj : L[j]? = some (@row α r e u xs)) {E : TypeId} (ht : OneTy c.P E) (ho : o < cs.length) (k : WL Q c ops rest env (L.set i (bl b T (cs.set o u))) D) :
    WL Q c ops (⟨none, .store E x y, t, p, af, none⟩ :: rest) env L D :=
  (isJ_WL Q).fact (q := u.oneCell' = true) (fun a w f st dh => by
    obtain ⟨css, hown, _⟩ := st.own _ (List.mem_of_getElem? hj)
    rcases hown.2 with ⟨rfl, _⟩ | ⟨g, cap, cur, rfl, _⟩ <;> rfl) fun hu => stB i hx hy hi ht hu ho k
/-- A call that only reads. -/
theorem cfv {f : FuncId} {vs : List Value} {As : List Atom} {v : Value} (h : FnV c.P f vs As v) (hok : FnOk c.P f) {xs : List Operand} {ats : Array TypeId}
    (hxs : evs env xs = some vs) (hA : SubD As D) (hn : Nat.blt d c.n = true) (k : WL Q c ops rest ((d, v) :: env) L D) :
    WL Q c ops (⟨some d, .call { callee := .value (.func f), args := xs.toArray, argTypes := ats }, t, p, af, none⟩ :: rest) env L D :=
  cf h hok hxs hA hn fun _ u hu => by
    have hu : u = v := hu
    subst hu
    exact k

theorem sc {x : Code} (h : WC c x (Exit.noGoto Q) env L D) : WC c (.scope x) Q env L D := fun a w f s d => wp_scope_straight (h a w f s d)
theorem lb {l : Nat} (h : WQ c Q .normal env L D) : WC c (.label l) Q env L D := fun a w f s d => wp_label (h a w f s d)
/-- A loop, round by round. -/
def LW (P : Program) (x : Code) (Q : Exit → Act → World → Prop) (a : Act) (w : World) : Prop :=
  ∀ (b : Frame) (k : List Item) (cs : List Frame), ∃ e a' w', Q e a' w' ∧ Arrives P (lone (b.at a (.code x :: .inLoop x :: k)) cs w) b k cs e a' w'
def WLo (c : Cx) (x : Code) (Q : Exit → Act → World → Prop) (env : Env) (L : Own) (D : List Atom) : Prop :=
  ∀ a w, Fr c.n a env → St c.w0 c.M w L → DH D w L → LW c.P x Q a w
theorem lu0 {x : Code} (h : WLo c x Q env L D) : WC c (.loop x) Q env L D := fun a w f s d => by
  intro b k cs
  obtain ⟨e, a', w', hq, harr⟩ := h a w f s d b k cs
  exact ⟨e, a', w', hq, .of_steps (.one step_loop) harr⟩
theorem lu1 {x : Code} (h : WC c x (Exit.then (LW c.P x Q) Q) env L D) : WLo c x Q env L D := fun a w f s d => by
  intro b k cs
  obtain ⟨e, a₁, w₁, hq, harr⟩ := h a w f s d b (.inLoop x :: k) cs
  cases e with
  | normal =>
    obtain ⟨e₂, a₂, w₂, hq₂, harr₂⟩ := hq b k cs
    exact ⟨e₂, a₂, w₂, hq₂, .of_steps (Steps.trans harr (.one step_inLoop)) harr₂⟩
  | exit id => exact ⟨_, a₁, w₁, hq, .pass (x := .inLoop x) rfl (fun _ _ => .inl (by simp)) harr⟩
  | goto l => exact ⟨_, a₁, w₁, hq, .pass (x := .inLoop x) rfl (fun _ _ => .inl (by simp)) harr⟩
  | ret => exact ⟨_, a₁, w₁, hq, .pass (x := .inLoop x) rfl (fun _ _ => .inl (by simp)) harr⟩
  | panic ch => exact ⟨_, a₁, w₁, hq, .pass (x := .inLoop x) rfl (fun _ _ => .inl (by simp)) harr⟩
  | outgrown => exact ⟨_, a₁, w₁, hq, .pass (x := .inLoop x) rfl (fun _ _ => .inl (by simp)) harr⟩
theorem lun {x : Code} (h : WLo c x Q env L D) : WQ c (Exit.then (LW c.P x Q) Q) .normal env L D := h
theorem asSl {α : Type} {r : Rep α} {J : Cx → Array Oper → List Oper → Env → Own → List Atom → Prop} [iJ : IsJ J] (j : Nat) {l : List Oper} {u : Value} {xs : List α} (hj : D[j]? = some (@Atom.mk (List α) (@repList α r) u xs)) (k : (∃ A cc, u = .slice A xs.length cc) → J c ops l env L D) : J c ops l env L D :=
  gtL (q := ∃ A cc, u = .slice A xs.length cc) (fun S w h => by
    obtain ⟨ha, A, cc, hsv, _⟩ := h _ (List.mem_of_getElem? hj)
    simp only at hsv ha
    rw [cells_of_not ha] at hsv
    exact ⟨A, cc, by simpa using hsv⟩) k
theorem sN (h : WQ c Q .normal env L D) : WQ c (Exit.noGoto Q) .normal env L D := h
theorem sR (h : WQ c Q .ret env L D) : WQ c (Exit.noGoto Q) .ret env L D := h
theorem sE {id : Nat} (h : WQ c Q (.exit id) env L D) : WQ c (Exit.noGoto Q) (.exit id) env L D := h
end

theorem nil_list {α : Type} {r : Rep α} (S : Nat → Prop) (w : World) : Atom.holds (@Atom.mk (List α) (@repList α r) (.slice none 0 0) []) S w :=
  ⟨rfl, show rdSlice S w _ _ from ⟨none, 0, rfl, Nat.le_refl _, by decide, Nat.zero_le _, fun h => absurd rfl h⟩⟩
/-! ### A variable of the call's own whose content reads as data -/
/-- Block b holds one cell, which reads as x. -/
@[reducible] def vr {α : Type} [r : Rep α] (b : Nat) (T : TypeId) (x : α) : OwnE where
  bs := [b]
  holds S w := ∃ u, w.heap[b]? = some (.cells #[u] T (0, 0)) ∧ Atom.holds ⟨u, x⟩ S w
  valid := by
    rintro S w ⟨u, h, _⟩ b' hb
    simp at hb; subst hb; exact lt_of_heap h
  keep := by
    rintro S S' w w' ⟨u, h, ha⟩ hs hw
    exact ⟨u, (hw b (.inr (by simp))).trans h, Atom.keep ha hs fun b hb => hw b (.inl hb)⟩

section
variable {c : Cx} {ops : Array Oper} {Q : Exit → Act → World → Prop} {env : Env} {L : Own} {D : List Atom} {rest : List Oper} {α : Type} {r : Rep α} {b : Nat} {T : TypeId} {x : α}

theorem bs_set_same {L : Own} {i : Nat} {p q : OwnE} (hi : L[i]? = some p) (hb : q.bs = p.bs) : Own.bs (L.set i q) = L.bs := by
  induction L generalizing i with
  | nil => simp at hi
  | cons y r ih =>
    cases i with
    | zero => simp at hi; subst hi; simp [Own.bs, bsOf, hb]
    | succ i => simp only [List.getElem?_cons_succ] at hi; have := ih hi; simp only [Own.bs, List.set_cons_succ, bsOf] at this ⊢; rw [this]
theorem St.swap {w0 w : World} {M : List Nat} {L : Own} {p q : OwnE} {i : Nat} (hi : L[i]? = some p) (st : St w0 M w L) (hb : q.bs = p.bs) (hq : q.holds (Sf L.bs w) w) : St w0 M w (L.set i q) := by
  have e := bs_set_same hi hb
  refine ⟨st.stp, fun y hy => ?_, by rw [e]; exact st.nd, by rw [e]; exact st.new⟩
  rw [e]
  rcases List.mem_or_eq_of_mem_set hy with h | h
  · exact st.own y h
  · subst h; exact hq
theorem DH.swap {w : World} {D : List Atom} {L : Own} {p q : OwnE} {i : Nat} (hi : L[i]? = some p) (dh : DH D w L) (hb : q.bs = p.bs) : DH D w (L.set i q) := by
  intro t ht
  rw [bs_set_same hi hb]
  exact dh t ht

theorem op_st (i : Nat) {w0 w : World} {M : List Nat} (hi : L[i]? = some (@vr α r b T x)) (st : St w0 M w L) (dh : DH D w L) : ∃ u, St w0 M w (L.set i (bl b T [u])) ∧ DH (⟨u, x⟩ :: D) w (L.set i (bl b T [u])) := by
  obtain ⟨u, h, ha⟩ := st.own _ (List.mem_of_getElem? hi)
  refine ⟨u, st.swap hi rfl h, DH.cons ?_ (dh.swap hi rfl)⟩
  rw [bs_set_same hi (q := bl b T [u]) rfl]
  exact ha
/-- What the variable holds is looked at. -/
theorem opL (i : Nat) {l : List Oper} (hi : L[i]? = some (@vr α r b T x)) (k : ∀ u, WL Q c ops l env (L.set i (bl b T [u])) (⟨u, x⟩ :: D)) : WL Q c ops l env L D := fun a w f st dh => by
  obtain ⟨u, s', d'⟩ := op_st i hi st dh
  exact k u a w f s' d'
theorem opC (i : Nat) {xx : Code} (hi : L[i]? = some (@vr α r b T x)) (k : ∀ u, WC c xx Q env (L.set i (bl b T [u])) (⟨u, x⟩ :: D)) : WC c xx Q env L D := fun a w f st dh => by
  obtain ⟨u, s', d'⟩ := op_st i hi st dh
  exact k u a w f s' d'
theorem opQ (i : Nat) {e : Exit} (hi : L[i]? = some (@vr α r b T x)) (k : ∀ u, WQ c Q e env (L.set i (bl b T [u])) (⟨u, x⟩ :: D)) : WQ c Q e env L D := fun a w f st dh => by
  obtain ⟨u, s', d'⟩ := op_st i hi st dh
  exact k u a w f s' d'
/-- What stands in the variable is let be what it reads as. -/
theorem clL (i j : Nat) {u : Value} {l : List Oper} (hi : L[i]? = some (bl b T [u])) (hj : D[j]? = some ⟨u, x⟩) (k : WL Q c ops l env (L.set i (@vr α r b T x)) D) : WL Q c ops l env L D :=
  fun a w f st dh => k a w f (st.swap hi rfl ⟨u, st.own _ (List.mem_of_getElem? hi), dh.at_ j hj⟩) (dh.swap hi rfl)
theorem clC (i j : Nat) {u : Value} {xx : Code} (hi : L[i]? = some (bl b T [u])) (hj : D[j]? = some ⟨u, x⟩) (k : WC c xx Q env (L.set i (@vr α r b T x)) D) : WC c xx Q env L D :=
  fun a w f st dh => k a w f (st.swap hi rfl ⟨u, st.own _ (List.mem_of_getElem? hi), dh.at_ j hj⟩) (dh.swap hi rfl)
theorem clQ (i j : Nat) {u : Value} {e : Exit} (hi : L[i]? = some (bl b T [u])) (hj : D[j]? = some ⟨u, x⟩) (k : WQ c Q e env (L.set i (@vr α r b T x)) D) : WQ c Q e env L D :=
  fun a w f st dh => k a w f (st.swap hi rfl ⟨u, st.own _ (List.mem_of_getElem? hi), dh.at_ j hj⟩) (dh.swap hi rfl)
end

section
variable {c : Cx} {ops : Array Oper} {J : Cx → Array Oper → List Oper → Env → Own → List Atom → Prop} [iJ : IsJ J] {env : Env} {L : Own} {D : List Atom} {rest : List Oper} {d : Nat} {v : Value} {t : TypeId} {p : String} {af : Array Edge} {x y : Operand} {m n : Int} {xt yt : TypeId}
include iJ
theorem muI (hx : ev env x = some (.int .i64 m)) (hy : ev env y = some (.int .i64 n)) (hb : InI (m * n)) (hn : Nat.blt d c.n = true) (k : J c ops rest ((d, .int .i64 (m * n)) :: env) L D) :
    J c ops (⟨some d, .binOp .mul xt x y yt, t, p, af, none⟩ :: rest) env L D :=
  pu rfl rfl hn (fun a w f => by simp [execOp, f.ev hx, f.ev hy, eqGuard, binOp, Op.intArith, wrap_i64_in hb]) k
theorem mxI {q : IntKind} {ats : Array TypeId} (hx : ev env x = some (.int q m)) (hy : ev env y = some (.int q n)) {r : Int} (hr : max m n = r) (hn : Nat.blt d c.n = true) (k : J c ops rest ((d, .int q r) :: env) L D) :
    J c ops (⟨some d, .call { callee := .builtin .max, args := #[x, y], argTypes := ats }, t, p, af, none⟩ :: rest) env L D :=
  pu rfl rfl hn (fun a w f => by
    subst hr
    have e : max m n = if n > m then n else m := by omega
    simp [execOp, resolve, invoke, builtin, f.ev hx, f.ev hy, Builtin.max_, Builtin.max2, e]) k
/-- The empty list, as a fact. -/
theorem emL {α : Type} [r : Rep α] {l : List Oper} (k : J c ops l env L ((@Atom.mk (List α) (@repList α r) (.slice none 0 0) []) :: D)) : J c ops l env L D :=
  adL _ (fun S w _ => nil_list S w) k
end
theorem emC {c : Cx} {Q : Exit → Act → World → Prop} {env : Env} {L : Own} {D : List Atom} {α : Type} [r : Rep α] {x : Code} (k : WC c x Q env L ((@Atom.mk (List α) (@repList α r) (.slice none 0 0) []) :: D)) : WC c x Q env L D :=
  adC _ (fun S w _ => nil_list S w) k

/-! ### Results that stand in a variable of the call's own -/
theorem run_loadVarM {P : Program} {T : TypeId} {b : Nat} {cs : List Value} (h : RowTy P T cs.length) {w : World} {T' : TypeId} (hh : w.heap[b]? = some (.cells cs.toArray T' (0, 0))) : (loadVar T ⟨b, 0, none⟩).run P w = .ok (.agg cs.toArray) w := by
  have := run_loadAtM (P := P) (T := T) (b := b) (o := 0) (cs := cs) h (w := w) (fun j u hu => by
    rw [cell_of_row w b _ _ T' (0, 0) hh]
    simpa using hu)
  simpa only [Instr.loadAt, Instr.sureAddr, Sem.run_bind, Sem.run_pure, Result.andThen_ok] using this
section
variable {env : Env} {L L' : Own} {D : List Atom} {fn : Func} {X : List Nat} {L0 : Own} {β : Type} {R : β → Value → Prop} {L1 : β → Value → Own} {out : β → Value → List Atom} {P : Program} {n : Nat} {w0 : World}
theorem fRc1 (y : β) {t : Nat} {T T' : TypeId} {b : Nat} {cs : List Value} (hr : fn.results = #[.cell t T]) (hv : lk env t = some (.pointer (some ⟨b, 0, none⟩))) (hB : L = bl b T' cs :: L') (ht : RowTy P T cs.length)
    (hR : R y (.agg cs.toArray)) (hL : L' = L1 y (.agg cs.toArray) ++ [fz X w0]) (hD : SubD (out y (.agg cs.toArray)) D) :
    WQ ⟨P, n, w0, L0.bs ++ X⟩ (PostOf P fn X w0 L0 R L1 out) .ret env L D := by
  intro a w f st dh
  subst hB
  have hh : w.heap[b]? = some (.cells cs.toArray T' (0, 0)) := st.own _ (List.mem_cons_self ..)
  have e1 := f.at_ t _ hv
  have hrun : (results fn a.tmps).run P w = .ok (.agg cs.toArray) w := by
    simp [results, hr, e1, asAddr, Sem.run_bind, run_loadVarM ht hh]
  refine bodyPost_ret hrun f.dn ⟨_, rfl, ?_⟩
  subst hL
  exact Fnc.post y hR rfl hD st.drop dh.drop (new_of (X := X) (w := w) st.drop)
theorem fRc2 (y : β) {t u : Nat} {T T' : TypeId} {b : Nat} {cs : List Value} {v2 : Value} (hr : fn.results = #[.cell t T, .tmp u]) (hv : lk env t = some (.pointer (some ⟨b, 0, none⟩))) (h2 : lk env u = some v2) (hB : L = bl b T' cs :: L') (ht : RowTy P T cs.length)
    (hR : R y (.tuple #[.agg cs.toArray, v2])) (hL : L' = L1 y (.tuple #[.agg cs.toArray, v2]) ++ [fz X w0]) (hD : SubD (out y (.tuple #[.agg cs.toArray, v2])) D) :
    WQ ⟨P, n, w0, L0.bs ++ X⟩ (PostOf P fn X w0 L0 R L1 out) .ret env L D := by
  intro a w f st dh
  subst hB
  have hh : w.heap[b]? = some (.cells cs.toArray T' (0, 0)) := st.own _ (List.mem_cons_self ..)
  have e1 := f.at_ t _ hv
  have e2 := f.at_ u _ h2
  have hrun : (results fn a.tmps).run P w = .ok (.tuple #[.agg cs.toArray, v2]) w := by
    simp [results, hr, e1, e2, asAddr, Sem.run_bind, run_loadVarM ht hh]
  refine bodyPost_ret hrun f.dn ⟨_, rfl, ?_⟩
  subst hL
  exact Fnc.post y hR rfl hD st.drop dh.drop (new_of (X := X) (w := w) st.drop)
end
end Go.Eng
