/- Part 3 of the proof of auditOrder_holds: Eng3. Every text below begins with what it shows. -/
import Derived.Deep.MidRow
import Derived.Test.YtmpoffijcfaalaaGreatAu2

/- Contracts, calls, variables of the call's own, loads and stores. Generic: no program. -/

namespace Go.Eng

theorem bsOf_append (A B : Own) : bsOf (A ++ B) = bsOf A ++ bsOf B := by
  induction A with
  | nil => rfl
  | cons p r ih => simp [bsOf, ih]

/-! ### Contracts -/

def FnPost (X : List Nat) (w : World) (L0 : Own) {β : Type} (R : β → Value → Prop) (L1 : β → Value → Own) (out : β → Value → List Atom) (v : Value) (w' : World) : Prop :=
  Stp L0.bs w w' ∧ ∃ y, R y v ∧ (∀ p ∈ L1 y v, p.holds (Sf ((L1 y v).bs ++ X) w') w') ∧ (L1 y v).bs.Nodup ∧ (∀ b ∈ (L1 y v).bs, b ∈ L0.bs ∨ w.heap.size ≤ b) ∧
    ∀ t ∈ out y v, t.holds (Sf ((L1 y v).bs ++ X) w') w'

/-- The function returns; of its result R holds, its own things L0 turn to L1, and 'out' reads. -/
def Fnc (P : Program) (f : FuncId) (args : List Value) (L0 : Own) (As : List Atom) {β : Type} (R : β → Value → Prop) (L1 : β → Value → Own) (out : β → Value → List Atom) : Prop :=
  ∀ (X : List Nat) (w : World), (L0.bs ++ X).Nodup → (∀ b ∈ X, b < w.heap.size) → (∀ p ∈ L0, p.holds (Sf (L0.bs ++ X) w) w) → (∀ t ∈ As, t.holds (Sf (L0.bs ++ X) w) w) →
    Ret P f args w (FnPost X w L0 R L1 out)

/-- It only reads, and returns v. -/
abbrev FnV (P : Program) (f : FuncId) (args : List Value) (As : List Atom) (v : Value) : Prop := Fnc P f args [] As (fun (_ : Unit) u => u = v) (fun _ _ => []) (fun _ _ => [])

theorem Fnc.proof {P : Program} {f : FuncId} {fn : Func} {x : Code} {args : List Value} {L0 : Own} {As : List Atom} {β : Type} {R : β → Value → Prop} {L1 : β → Value → Own} {out : β → Value → List Atom}
    (hf : P.funcs[f]? = some fn) (hb : fn.body = some x) (n : Nat) (hn : n = fn.ntmps) (hargs : Nat.ble args.length n = true)
    (h : ∀ X w, WC ⟨P, n, w, L0.bs ++ X⟩ x (bodyPost P fn fun e w' => ∃ v, e = .returned v ∧ FnPost X w L0 R L1 out v w') (ent 0 args) (L0 ++ [fz X w]) As) : Fnc P f args L0 As R L1 out := by
  intro X w hnd hx h0 hA
  have hbs : Own.bs (L0 ++ [fz X w]) = L0.bs ++ X := by simp [Own.bs, bsOf_append, bsOf]
  refine enter (L0.bs ++ X) (L0 ++ [fz X w]) As hf hb n hn (Nat.le_of_ble_eq_true hargs) ⟨Stp.refl _ _, ?_, ?_, ?_⟩ ?_ (h X w)
  · intro p hp
    rw [hbs]
    rcases List.mem_append.1 hp with hp | hp
    · exact h0 p hp
    · have : p = fz X w := by simpa using hp
      subst this
      exact ⟨fun _ _ => rfl, hx⟩
  · rw [hbs]; exact hnd
  · rw [hbs]; exact fun b hb => .inl hb
  · intro t ht
    rw [hbs]
    exact hA t ht

theorem Fnc.post {X : List Nat} {w0 w : World} {L0 L : Own} {D : List Atom} {β : Type} {R : β → Value → Prop} {L1 : β → Value → Own} {out : β → Value → List Atom} {v : Value}
    (y : β) (hR : R y v) (hL : L = L1 y v ++ [fz X w0]) (hD : SubD (out y v) D) (st : St w0 (L0.bs ++ X) w L) (d : DH D w L) (hb : ∀ b ∈ (L1 y v).bs, b ∈ L0.bs ∨ w0.heap.size ≤ b) : FnPost X w0 L0 R L1 out v w := by
  subst hL
  have hbs : Own.bs (L1 y v ++ [fz X w0]) = (L1 y v).bs ++ X := by simp [Own.bs, bsOf_append, bsOf]
  have hz := st.own (fz X w0) (by simp)
  refine ⟨⟨st.stp.os, st.stp.tape, st.stp.output, st.stp.size, fun k hk hx => ?_⟩, y, hR, ?_, ?_, hb, ?_⟩
  · by_cases hkX : k ∈ X
    · exact hz.1 k hkX
    · exact st.stp.block k hk (by simp only [List.mem_append, not_or]; exact ⟨hx, hkX⟩)
  · intro p hp
    have := st.own p (List.mem_append.2 (.inl hp))
    rwa [hbs] at this
  · have := st.nd
    rw [hbs] at this
    exact (List.nodup_append.1 this).1
  · intro t ht
    have := d t (hD t ht)
    rwa [hbs] at this

section
variable {c : Cx} {env : Env} {L : Own} {D : List Atom} {fn : Func} {X : List Nat} {L0 : Own} {β : Type} {R : β → Value → Prop} {L1 : β → Value → Own} {out : β → Value → List Atom} {P : Program} {n : Nat} {w0 : World}
abbrev PostOf (P : Program) (fn : Func) (X : List Nat) (w : World) (L0 : Own) {β : Type} (R : β → Value → Prop) (L1 : β → Value → Own) (out : β → Value → List Atom) : Exit → Act → World → Prop :=
  bodyPost P fn fun e w' => ∃ v, e = .returned v ∧ FnPost X w L0 R L1 out v w'

theorem new_of {w : World} {A : Own} (st : St w0 (L0.bs ++ X) w (A ++ [fz X w0])) : ∀ b ∈ A.bs, b ∈ L0.bs ∨ w0.heap.size ≤ b := by
  intro b hb
  have hbs : Own.bs (A ++ [fz X w0]) = A.bs ++ X := by simp [Own.bs, bsOf_append, bsOf]
  have hn := st.nd
  have h := st.new b
  rw [hbs] at hn h
  rcases h (by simp [hb]) with h | h
  · rcases List.mem_append.1 h with h | h
    · exact .inl h
    · exact absurd rfl ((List.nodup_append.1 hn).2.2 b hb b h)
  · exact .inr h

theorem fR1 (y : β) {t : Nat} {v : Value} (hr : fn.results = #[.tmp t]) (hv : lk env t = some v) (hR : R y v) (hL : L = L1 y v ++ [fz X w0]) (hD : SubD (out y v) D) :
    WQ ⟨P, n, w0, L0.bs ++ X⟩ (PostOf P fn X w0 L0 R L1 out) .ret env L D :=
  ret1 (c := ⟨P, n, w0, L0.bs ++ X⟩) hr hv fun w st d => Fnc.post y hR hL hD st d (new_of (X := X) (w := w) (hL ▸ st))
theorem fR2 (y : β) {t u : Nat} {v1 v2 : Value} (hr : fn.results = #[.tmp t, .tmp u]) (h1 : lk env t = some v1) (h2 : lk env u = some v2) (hR : R y (.tuple #[v1, v2])) (hL : L = L1 y (.tuple #[v1, v2]) ++ [fz X w0]) (hD : SubD (out y (.tuple #[v1, v2])) D) :
    WQ ⟨P, n, w0, L0.bs ++ X⟩ (PostOf P fn X w0 L0 R L1 out) .ret env L D :=
  Eng.ret2 (c := ⟨P, n, w0, L0.bs ++ X⟩) hr h1 h2 fun w st d => Fnc.post y hR hL hD st d (new_of (X := X) (w := w) (hL ▸ st))
theorem fR3 (y : β) {t u s : Nat} {v1 v2 v3 : Value} (hr : fn.results = #[.tmp t, .tmp u, .tmp s]) (h1 : lk env t = some v1) (h2 : lk env u = some v2) (h3 : lk env s = some v3) (hR : R y (.tuple #[v1, v2, v3])) (hL : L = L1 y (.tuple #[v1, v2, v3]) ++ [fz X w0]) (hD : SubD (out y (.tuple #[v1, v2, v3])) D) :
    WQ ⟨P, n, w0, L0.bs ++ X⟩ (PostOf P fn X w0 L0 R L1 out) .ret env L D :=
  Eng.ret3 (c := ⟨P, n, w0, L0.bs ++ X⟩) hr h1 h2 h3 fun w st d => Fnc.post y hR hL hD st d (new_of (X := X) (w := w) (hL ▸ st))
theorem fR0 (y : β) (hr : fn.results = #[]) (hR : R y (.tuple #[])) (hL : L = L1 y (.tuple #[]) ++ [fz X w0]) (hD : SubD (out y (.tuple #[])) D) :
    WQ ⟨P, n, w0, L0.bs ++ X⟩ (PostOf P fn X w0 L0 R L1 out) .ret env L D :=
  Eng.ret0 (c := ⟨P, n, w0, L0.bs ++ X⟩) hr fun w st d => Fnc.post y hR hL hD st d (new_of (X := X) (w := w) (hL ▸ st))
theorem fR0N (y : β) (hr : fn.results = #[]) (hR : R y (.tuple #[])) (hL : L = L1 y (.tuple #[]) ++ [fz X w0]) (hD : SubD (out y (.tuple #[])) D) :
    WQ ⟨P, n, w0, L0.bs ++ X⟩ (PostOf P fn X w0 L0 R L1 out) .normal env L D :=
  Eng.ret0N (c := ⟨P, n, w0, L0.bs ++ X⟩) hr fun w st d => Fnc.post y hR hL hD st d (new_of (X := X) (w := w) (hL ▸ st))
end

/-! ### Calls -/

/-- The function is there, and has a body. -/
structure FnOk (P : Program) (f : FuncId) : Prop where
  ok : ∃ fn, P.funcs[f]? = some fn ∧ (fn.name == "runtime.NumGoroutine") = false ∧ fn.body.isNone = false

theorem run_callFunc {P : Program} {f : FuncId} (h : FnOk P f) (args : Array Value) (w : World) : (callFunc f args).run P w = .ok (.enter f args) w := by
  obtain ⟨fn, h1, h2, h3⟩ := h.ok
  have h2' : ¬ fn.name = "runtime.NumGoroutine" := by simpa using h2
  have h3' : ¬ fn.body = none := by intro h; rw [h] at h3; cases h3
  simp [callFunc, program, Sem.run, Sem.run_bind, h1, h2', h3']

section
variable {c : Cx} {ops : Array Oper} {Q : Exit → Act → World → Prop} {env : Env} {L : Own} {D : List Atom} {rest : List Oper} {d : Nat} {v : Value} {t : TypeId} {p : String} {af : Array Edge}

theorem wp_enter {o : Oper} {a : Act} {w : World} {K : Act → World → Prop} {Q : Exit → Act → World → Prop} {f : FuncId} {vs : List Value} {P : Program} (hrun : (execOp a.eval o).run P w = .ok (.enter f vs.toArray) w) {Φ : Value → World → Prop}
    (h : Ret P f vs w Φ) (hk : ∀ v w', Φ v w' → K (a.put o.dst v) w') : o.wp P a w K Q := by
  unfold Oper.wp
  rw [hrun]
  simp only [Oper.upon]
  exact Calls.mono h fun e w' ⟨v, he, hv⟩ => by subst he; exact hk v w' hv

theorem run_call {P : Program} {ρ : Operand → Value} {o : Oper} {x : Operand} {xs : List Operand} {ats : Array TypeId} {f : FuncId} {first cap : Array Value} {vs : List Value} (ho : o.op = .call { callee := .value x, args := xs.toArray, argTypes := ats })
    (hx : ρ x = .func (.func f) first cap) (hxs : xs.map ρ = vs) (hok : FnOk P f) (w : World) : (execOp ρ o).run P w = .ok (.enter f (first.toList ++ vs ++ cap.toList).toArray) w := by
  subst hxs
  simp only [execOp, ho, resolve, Deferred.ofValue, hx, invoke, List.map_toArray, Sem.run_bind, Sem.run_pure, Result.andThen_ok, run_callFunc hok]
  congr 2
  simp

/-- A call: of a function by its name, or of a function value; something of one's own may turn (number i), more may come. -/
theorem ca_gen {x : Operand} {xs : List Operand} {ats : Array TypeId} {f : FuncId} {first cap : Array Value} {vs us : List Value} {β : Type} {R : β → Value → Prop} {out : β → Value → List Atom} {dst : Option Tmp}
    (hx : ev env x = some (.func (.func f) first cap)) (hxs : evs env xs = some vs) (hus : first.toList ++ vs ++ cap.toList = us) (hok : FnOk c.P f)
    (L' : β → Value → Own)
    (hc : ∀ w, St c.w0 c.M w L → DH D w L → Ret c.P f us w (fun v w' => ∃ y, R y v ∧ St c.w0 c.M w' (L' y v) ∧ DH (out y v) w' (L' y v)))
    (env' : β → Value → Env) (he : ∀ y v a, Fr c.n a env → Fr c.n (a.put dst v) (env' y v))
    (k : ∀ y v, R y v → WL Q c ops rest (env' y v) (L' y v) (out y v)) :
    WL Q c ops (⟨dst, .call { callee := .value x, args := xs.toArray, argTypes := ats }, t, p, af, none⟩ :: rest) env L D := by
  intro a w f' st dh
  refine wpList_plain rfl fun K hK => ?_
  have hrun := run_call (P := c.P) (ρ := a.eval) (o := ⟨dst, .call { callee := .value x, args := xs.toArray, argTypes := ats }, t, p, af, none⟩) rfl (f'.ev hx) (f'.evs hxs) hok w
  rw [hus] at hrun
  exact wp_enter hrun (hc w st dh) fun v w' ⟨y, hR, st', dh'⟩ => hK _ _ (k y v hR _ _ (he y v a f') st' dh')

theorem St.many {w0 w w' : World} {M : List Nat} {L A : Own} (h : St w0 M w L) (hs : Stp [] w w') (hA : ∀ q ∈ A, q.holds (Sf (A.bs ++ L.bs) w') w') (hn : A.bs.Nodup) (hb : ∀ b ∈ A.bs, w.heap.size ≤ b) : St w0 M w' (A ++ L) := by
  have h' := h.step hs
  have hbs : Own.bs (A ++ L) = A.bs ++ L.bs := by simp [Own.bs, bsOf_append]
  refine ⟨h'.stp, ?_, ?_, ?_⟩
  · rw [hbs]
    intro q hq
    rcases List.mem_append.1 hq with hq | hq
    · exact hA q hq
    · refine q.keep (h.own q hq) (fun b hb' => ⟨Nat.lt_of_lt_of_le hb'.1 hs.size, ?_⟩) (fun b hb' => ?_)
      · simp only [List.mem_append, not_or]
        exact ⟨fun hx => by have := hb b hx; have := hb'.1; omega, hb'.2⟩
      · refine hs.block b ?_ (by simp)
        rcases hb' with hb' | hb'
        · exact hb'.1
        · exact h.lt b (mem_bsOf.2 ⟨q, hq, hb'⟩)
  · rw [hbs, List.nodup_append]
    refine ⟨hn, h.nd, fun a ha b hb' => ?_⟩
    have := hb a ha
    have := h.lt b hb'
    omega
  · rw [hbs]
    intro b hb'
    rcases List.mem_append.1 hb' with hb' | hb'
    · exact .inr (Nat.le_trans h.stp.size (hb b hb'))
    · exact h.new b hb'
theorem DH.many {D : List Atom} {w w' : World} {L A : Own} (hd : DH D w L) (hs : Stp [] w w') (hb : ∀ b ∈ A.bs, w.heap.size ≤ b) : DH D w' (A ++ L) :=
  hd.turn hs.nil fun b h => by
    simp only [Own.bs, bsOf_append, List.mem_append] at h
    rcases h with h | h
    · exact .inr (hb b h)
    · exact .inl h

/-- A call whose contract takes nothing of one's own. -/
theorem cg0 {f : FuncId} {us : List Value} {As : List Atom} {β : Type} {R : β → Value → Prop} {L1 : β → Value → Own} {out : β → Value → List Atom} (h : Fnc c.P f us [] As R L1 out) (hA : SubD As D) :
    ∀ w, St c.w0 c.M w L → DH D w L → Ret c.P f us w (fun v w' => ∃ y, R y v ∧ St c.w0 c.M w' (L1 y v ++ L) ∧ DH (out y v ++ D) w' (L1 y v ++ L)) := by
  intro w st dh
  refine (h L.bs w (by simpa [Own.bs, bsOf] using st.nd) st.lt (by simp) (fun t ht => ?_)).mono fun v w' hp => ?_
  · have := dh t (hA t ht)
    simpa [Own.bs, bsOf] using this
  · obtain ⟨hs, y, hR, hL, hn, hb, ho⟩ := hp
    have hs' : Stp [] w w' := by simpa [Own.bs, bsOf] using hs
    have hb' : ∀ b ∈ (L1 y v).bs, w.heap.size ≤ b := fun b hx => (hb b hx).resolve_left (by simp [Own.bs, bsOf])
    have hbs : Own.bs (L1 y v ++ L) = (L1 y v).bs ++ L.bs := by simp [Own.bs, bsOf_append]
    refine ⟨y, hR, st.many hs' hL hn hb', ?_⟩
    refine DH.app ?_ (dh.many hs' hb')
    intro t ht
    rw [hbs]
    exact ho t ht

theorem cf {f : FuncId} {vs : List Value} {As : List Atom} {β : Type} {R : β → Value → Prop} {L1 : β → Value → Own} {out : β → Value → List Atom} (h : Fnc c.P f vs [] As R L1 out) (hok : FnOk c.P f) {xs : List Operand} {ats : Array TypeId}
    (hxs : evs env xs = some vs) (hA : SubD As D) (hn : Nat.blt d c.n = true) (k : ∀ y v, R y v → WL Q c ops rest ((d, v) :: env) (L1 y v ++ L) (out y v ++ D)) :
    WL Q c ops (⟨some d, .call { callee := .value (.func f), args := xs.toArray, argTypes := ats }, t, p, af, none⟩ :: rest) env L D :=
  ca_gen (x := .func f) (first := #[]) (cap := #[]) rfl hxs (by simp) hok _ (cg0 h hA) (fun _ v => (d, v) :: env) (fun _ v a f => f.put v (lt_blt hn)) k
/-- The same of a function value that bears captured variables. -/
theorem cfc {f : FuncId} {vs us : List Value} {As : List Atom} {β : Type} {R : β → Value → Prop} {L1 : β → Value → Own} {out : β → Value → List Atom} {first cap : Array Value} {x : Operand} (h : Fnc c.P f us [] As R L1 out) (hok : FnOk c.P f) {xs : List Operand} {ats : Array TypeId}
    (hx : ev env x = some (.func (.func f) first cap)) (hxs : evs env xs = some vs) (hus : first.toList ++ vs ++ cap.toList = us) (hA : SubD As D) (hn : Nat.blt d c.n = true) (k : ∀ y v, R y v → WL Q c ops rest ((d, v) :: env) (L1 y v ++ L) (out y v ++ D)) :
    WL Q c ops (⟨some d, .call { callee := .value x, args := xs.toArray, argTypes := ats }, t, p, af, none⟩ :: rest) env L D :=
  ca_gen hx hxs hus hok _ (cg0 h hA) (fun _ v => (d, v) :: env) (fun _ v a f => f.put v (lt_blt hn)) k

theorem St.upd1 {w0 w w' : World} {M : List Nat} {L A : Own} {q q' : OwnE} (i : Nat) (hi : L[i]? = some q) (h : St w0 M w L) (hs : Stp q.bs w w')
    (X : List Nat) (hX : ∀ b, b ∈ L.bs ↔ b ∈ q.bs ++ X) (hXd : (q.bs ++ X).Nodup)
    (hA : ∀ r ∈ q' :: A, r.holds (Sf (Own.bs (q' :: A) ++ X) w') w') (hn : (Own.bs (q' :: A)).Nodup) (hb : ∀ b ∈ Own.bs (q' :: A), b ∈ q.bs ∨ w.heap.size ≤ b) : St w0 M w' (A ++ L.set i q') := by
  have hqL : ∀ b ∈ q.bs, b ∈ L.bs := fun b hx => mem_bsOf.2 ⟨q, List.mem_of_getElem? hi, hx⟩
  have hlt := h.lt
  have hAq : Own.bs (q' :: A) = q'.bs ++ A.bs := rfl
  rw [hAq] at hn hb
  have hnq := List.nodup_append.1 hn
  have hmem : ∀ b, b ∈ Own.bs (A ++ L.set i q') ↔ b ∈ Own.bs (q' :: A) ++ X := by
    intro b
    simp only [Own.bs, bsOf_append, List.mem_append, bsOf]
    constructor
    · rintro (hx | hx)
      · exact .inl (.inr hx)
      · obtain ⟨r, hr, hrb⟩ := mem_bsOf.1 hx
        obtain ⟨j, hj⟩ := List.getElem?_of_mem hr
        by_cases hij : i = j
        · subst hij
          have : i < L.length := (List.getElem?_eq_some_iff.1 hi).1
          rw [List.getElem?_set_self this] at hj
          injection hj with hj
          subst hj
          exact .inl (.inl hrb)
        · rw [List.getElem?_set_ne hij] at hj
          have hb1 : b ∈ L.bs := mem_bsOf.2 ⟨r, List.mem_of_getElem? hj, hrb⟩
          rcases List.mem_append.1 ((hX b).1 hb1) with h1 | h1
          · exact absurd hrb (St.upd.bs_ne hi hj hij h.nd b h1)
          · exact .inr h1
    · rintro ((hx | hx) | hx)
      · refine .inr (mem_bsOf.2 ⟨q', ?_, hx⟩)
        have : i < L.length := (List.getElem?_eq_some_iff.1 hi).1
        exact List.mem_of_getElem? (List.getElem?_set_self this)
      · exact .inl hx
      · have hb1 : b ∈ L.bs := (hX b).2 (List.mem_append.2 (.inr hx))
        obtain ⟨r, hr, hrb⟩ := mem_bsOf.1 hb1
        obtain ⟨j, hj⟩ := List.getElem?_of_mem hr
        by_cases hij : i = j
        · subst hij
          rw [hi] at hj
          injection hj with hj
          subst hj
          exact absurd rfl ((List.nodup_append.1 hXd).2.2 b hrb b hx)
        · refine .inr (mem_bsOf.2 ⟨r, ?_, hrb⟩)
          exact List.mem_of_getElem? (by rw [List.getElem?_set_ne hij]; exact hj)
  have hSf : ∀ b, Sf (Own.bs (q' :: A) ++ X) w' b → Sf (Own.bs (A ++ L.set i q')) w' b := fun b hx => ⟨hx.1, fun hy => hx.2 ((hmem b).1 hy)⟩
  have hsub : ∀ b, Sf L.bs w b → Sf (Own.bs (A ++ L.set i q')) w' b := fun b hx => ⟨Nat.lt_of_lt_of_le hx.1 hs.size, fun hy => by
    have hy := (hmem b).1 hy
    rcases List.mem_append.1 hy with hy | hy
    · rcases hb b (by rw [hAq] at hy; exact hy) with h1 | h1
      · exact hx.2 (hqL b h1)
      · have := hx.1; omega
    · exact hx.2 ((hX b).2 (List.mem_append.2 (.inr hy)))⟩
  refine ⟨h.stp.trans_new hs (fun b hx => h.new b (hqL b hx)), ?_, ?_, ?_⟩
  · intro r hr
    rcases List.mem_append.1 hr with hr | hr
    · exact r.keep (hA r (List.mem_cons_of_mem _ hr)) hSf (fun _ _ => rfl)
    · obtain ⟨j, hj⟩ := List.getElem?_of_mem hr
      by_cases hij : i = j
      · subst hij
        have : i < L.length := (List.getElem?_eq_some_iff.1 hi).1
        rw [List.getElem?_set_self this] at hj
        injection hj with hj
        subst hj
        exact q'.keep (hA q' (List.mem_cons_self ..)) hSf (fun _ _ => rfl)
      · rw [List.getElem?_set_ne hij] at hj
        have hrm := List.mem_of_getElem? hj
        refine r.keep (h.own r hrm) hsub (fun b hx => hs.block b ?_ ?_)
        · rcases hx with hx | hx
          · exact hx.1
          · exact hlt b (mem_bsOf.2 ⟨r, hrm, hx⟩)
        · rcases hx with hx | hx
          · exact fun hy => hx.2 (hqL b hy)
          · exact fun hy => St.upd.bs_ne hi hj hij h.nd b hy hx
  · have h1 := nodup_set (p' := q') hi h.nd hnq.1 (fun b hx => (hb b (List.mem_append.2 (.inl hx))).imp id (fun h1 h2 => by have := hlt b h2; omega))
    simp only [Own.bs, bsOf_append, List.nodup_append]
    refine ⟨hnq.2.1, h1, fun a ha b hb' e => ?_⟩
    subst e
    rcases bs_set hi a hb' with h2 | h2
    · exact hnq.2.2 a h2 a ha rfl
    · rcases hb a (List.mem_append.2 (.inr ha)) with h3 | h3
      · -- a block of q that A has, and L.set too
        have hy := (hmem a).1 (by simp only [Own.bs, bsOf_append, List.mem_append]; exact .inr hb')
        obtain ⟨r, hr, hrb⟩ := mem_bsOf.1 hb'
        obtain ⟨j, hj⟩ := List.getElem?_of_mem hr
        by_cases hij : i = j
        · subst hij
          have : i < L.length := (List.getElem?_eq_some_iff.1 hi).1
          rw [List.getElem?_set_self this] at hj
          injection hj with hj
          subst hj
          exact hnq.2.2 a hrb a ha rfl
        · rw [List.getElem?_set_ne hij] at hj
          exact St.upd.bs_ne hi hj hij h.nd a h3 hrb
      · have := hlt a h2; omega
  · intro b hx
    have hx := (hmem b).1 hx
    rcases List.mem_append.1 hx with hx | hx
    · rcases hb b (by rw [hAq] at hx; exact hx) with h1 | h1
      · exact h.new b (hqL b h1)
      · exact .inr (Nat.le_trans h.stp.size h1)
    · exact h.new b ((hX b).2 (List.mem_append.2 (.inr hx)))

/-- The blocks of all but number i. -/
def butOf : Nat → Own → List Nat
  | _, [] => []
  | 0, _ :: r => bsOf r
  | i + 1, p :: r => p.bs ++ butOf i r
theorem mem_but : ∀ {L : Own} {i : Nat} {q : OwnE}, L[i]? = some q → ∀ b, b ∈ bsOf L ↔ b ∈ q.bs ++ butOf i L
  | [], i, q, h => by simp at h
  | p :: r, 0, q, h => by simp at h; subst h; intro b; simp [bsOf, butOf]
  | p :: r, i + 1, q, h => by
    simp only [List.getElem?_cons_succ] at h
    intro b
    have := mem_but h b
    simp only [bsOf, butOf, List.mem_append] at this ⊢
    rw [this]
    constructor
    · rintro (h | h | h)
      · exact .inr (.inl h)
      · exact .inl h
      · exact .inr (.inr h)
    · rintro (h | h | h)
      · exact .inr (.inl h)
      · exact .inl h
      · exact .inr (.inr h)
theorem nodup_but : ∀ {L : Own} {i : Nat} {q : OwnE}, L[i]? = some q → (bsOf L).Nodup → (q.bs ++ butOf i L).Nodup
  | [], i, q, h, _ => by simp at h
  | p :: r, 0, q, h, hn => by simp at h; subst h; exact hn
  | p :: r, i + 1, q, h, hn => by
    simp only [List.getElem?_cons_succ] at h
    simp only [bsOf, List.nodup_append] at hn
    have ih := nodup_but h hn.2.1
    have hm := mem_but h
    simp only [butOf, List.nodup_append] at ih ⊢
    refine ⟨ih.1, ⟨hn.1, ih.2.1, fun a ha b hb => hn.2.2 a ha b ((hm b).2 (by simp [hb]))⟩, fun a ha b hb e => ?_⟩
    subst e
    rcases List.mem_append.1 hb with hb | hb
    · exact hn.2.2 a hb a ((hm a).2 (by simp [ha])) rfl
    · exact ih.2.2 a ha a hb rfl

/-- A call whose contract takes number i of one's own. -/
theorem cg1 (i : Nat) {q : OwnE} {f : FuncId} {us : List Value} {As : List Atom} {β : Type} {R : β → Value → Prop} {q' : β → Value → OwnE} {A : β → Value → Own} {out : β → Value → List Atom} (hi : L[i]? = some q) (h : Fnc c.P f us [q] As R (fun y v => q' y v :: A y v) out) (hA : SubD As D) :
    ∀ w, St c.w0 c.M w L → DH D w L → Ret c.P f us w (fun v w' => ∃ y, R y v ∧ St c.w0 c.M w' (A y v ++ L.set i (q' y v)) ∧ DH (out y v ++ D) w' (A y v ++ L.set i (q' y v))) := by
  intro w st dh
  have hm := mem_but hi
  have hsq : ∀ b, Sf L.bs w b → Sf (Own.bs [q] ++ butOf i L) w b := fun b hx => ⟨hx.1, fun hy => hx.2 ((hm b).2 (by simpa [Own.bs, bsOf] using hy))⟩
  refine (h (butOf i L) w (by simpa [Own.bs, bsOf] using nodup_but hi st.nd) (fun b hb => st.lt b ((hm b).2 (by simp [hb]))) (fun p hp => ?_) (fun t ht => ?_)).mono fun v w' hp => ?_
  · have : p = q := by simpa using hp
    subst this
    exact p.keep (st.own p (List.mem_of_getElem? hi)) hsq (fun _ _ => rfl)
  · exact Atom.keep (dh t (hA t ht)) hsq (fun _ _ => rfl)
  · obtain ⟨hs, y, hR, hL, hn, hb, ho⟩ := hp
    have hs' : Stp q.bs w w' := by simpa [Own.bs, bsOf] using hs
    have hb' : ∀ b ∈ Own.bs (q' y v :: A y v), b ∈ q.bs ∨ w.heap.size ≤ b := fun b hx => (hb b hx).imp (fun h => by simpa [Own.bs, bsOf] using h) id
    have st' := st.upd1 (A := A y v) i hi hs' (butOf i L) hm (nodup_but hi st.nd) hL hn hb'
    refine ⟨y, hR, st', DH.app (fun t ht => ?_) (dh.turn (hs'.mono fun b hx => mem_bsOf.2 ⟨q, List.mem_of_getElem? hi, hx⟩) fun b hx => ?_)⟩
    · refine Atom.keep (ho t ht) (fun b hx => ⟨hx.1, fun hy => hx.2 ?_⟩) (fun _ _ => rfl)
      simp only [Own.bs, bsOf_append, List.mem_append] at hy
      rcases hy with hy | hy
      · simp [Own.bs, bsOf, hy]
      · rcases bs_set hi b hy with h1 | h1
        · simp [Own.bs, bsOf, h1]
        · rcases List.mem_append.1 ((hm b).1 h1) with h2 | h2
          · -- a block of q that still stands in L.set: only through q'
            obtain ⟨r, hr, hrb⟩ := mem_bsOf.1 hy
            obtain ⟨j, hj⟩ := List.getElem?_of_mem hr
            by_cases hij : i = j
            · subst hij
              have : i < L.length := (List.getElem?_eq_some_iff.1 hi).1
              rw [List.getElem?_set_self this] at hj
              injection hj with hj
              subst hj
              simp [Own.bs, bsOf, hrb]
            · rw [List.getElem?_set_ne hij] at hj
              exact absurd hrb (St.upd.bs_ne hi hj hij st.nd b h2)
          · simp [h2]
    · simp only [Own.bs, bsOf_append, List.mem_append] at hx
      rcases hx with hx | hx
      · rcases hb' b (by simp [Own.bs, bsOf, hx]) with h1 | h1
        · exact .inl (mem_bsOf.2 ⟨q, List.mem_of_getElem? hi, h1⟩)
        · exact .inr h1
      · rcases bs_set hi b hx with h1 | h1
        · rcases hb' b (by simp [Own.bs, bsOf, h1]) with h2 | h2
          · exact .inl (mem_bsOf.2 ⟨q, List.mem_of_getElem? hi, h2⟩)
          · exact .inr h2
        · exact .inl h1

theorem cf1 (i : Nat) {q : OwnE} {f : FuncId} {vs : List Value} {As : List Atom} {β : Type} {R : β → Value → Prop} {q' : β → Value → OwnE} {A : β → Value → Own} {out : β → Value → List Atom} (h : Fnc c.P f vs [q] As R (fun y v => q' y v :: A y v) out) (hok : FnOk c.P f)
    (hi : L[i]? = some q) {xs : List Operand} {ats : Array TypeId} (hxs : evs env xs = some vs) (hA : SubD As D) (hn : Nat.blt d c.n = true) (k : ∀ y v, R y v → WL Q c ops rest ((d, v) :: env) (A y v ++ L.set i (q' y v)) (out y v ++ D)) :
    WL Q c ops (⟨some d, .call { callee := .value (.func f), args := xs.toArray, argTypes := ats }, t, p, af, none⟩ :: rest) env L D :=
  ca_gen (x := .func f) (first := #[]) (cap := #[]) rfl hxs (by simp) hok _ (cg1 i hi h hA) (fun _ v => (d, v) :: env) (fun _ v a f => f.put v (lt_blt hn)) k
end
end Go.Eng
