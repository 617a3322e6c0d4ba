/- Part 6 of the proof of auditOrder_holds: Eng7. Every text below begins with what it shows. -/
import Derived.Test.YtmpoffijcfaalaaGreatAu5

/- Calls that take several things of one's own; statements whose order is open. Generic: no program. -/

namespace Go.Eng

section
variable {c : Cx} {ops : Array Oper} {Q : Exit → Act → World → Prop} {env : Env} {L : Own} {D : List Atom} {rest : List Oper} {d : Nat} {v : Value} {t : TypeId} {p : String} {af : Array Edge}

theorem bs_perm {L L' : Own} (h : L.Perm L') : (bsOf L).Perm (bsOf L') := by
  induction h with
  | nil => exact .refl _
  | cons x _ ih => exact (List.Perm.append_left x.bs ih)
  | swap x y l =>
    simp only [bsOf, ← List.append_assoc]
    exact List.Perm.append_right _ List.perm_append_comm
  | trans _ _ h1 h2 => exact h1.trans h2
theorem St.perm {w0 w : World} {M : List Nat} {L L' : Own} (h : St w0 M w L) (hp : L.Perm L') : St w0 M w L' := by
  have hb := bs_perm hp
  refine ⟨h.stp, fun q hq => q.keep (h.own q (hp.mem_iff.2 hq)) (fun b hx => ⟨hx.1, fun hy => hx.2 (hb.mem_iff.2 hy)⟩) (fun _ _ => rfl), hb.nodup_iff.1 h.nd, fun b hx => h.new b (hb.mem_iff.2 hx)⟩
theorem DH.perm {w : World} {L L' : Own} (h : DH D w L) (hp : L.Perm L') : DH D w L' := by
  have hb := bs_perm hp
  exact fun t ht => Atom.keep (h t ht) (fun b hx => ⟨hx.1, fun hy => hx.2 (hb.mem_iff.2 hy)⟩) (fun _ _ => rfl)

theorem erase_perm : ∀ {L : Own} {i : Nat} {q : OwnE}, L[i]? = some q → L.Perm (q :: L.eraseIdx i)
  | [], i, q, h => by simp at h
  | p :: r, 0, q, h => by simp at h; subst h; exact .refl _
  | p :: r, i + 1, q, h => by
    simp only [List.getElem?_cons_succ] at h
    exact ((erase_perm h).cons p).trans (.swap _ _ _)
/-- Number i of one's own comes to the top. -/
theorem mtL (i : Nat) {q : OwnE} {l : List Oper} (hi : L[i]? = some q) (k : WL Q c ops l env (q :: L.eraseIdx i) D) : WL Q c ops l env L D :=
  fun a w f st dh => k a w f (st.perm (erase_perm hi)) (dh.perm (erase_perm hi))
theorem mtC (i : Nat) {q : OwnE} {x : Code} (hi : L[i]? = some q) (k : WC c x Q env (q :: L.eraseIdx i) D) : WC c x Q env L D :=
  fun a w f st dh => k a w f (st.perm (erase_perm hi)) (dh.perm (erase_perm hi))
theorem mtQ (i : Nat) {q : OwnE} {e : Exit} (hi : L[i]? = some q) (k : WQ c Q e env (q :: L.eraseIdx i) D) : WQ c Q e env L D :=
  fun a w f st dh => k a w f (st.perm (erase_perm hi)) (dh.perm (erase_perm hi))

/-- A call whose contract takes what stands at the top. -/
theorem cgP {L0 Lr : Own} {f : FuncId} {us : List Value} {As : List Atom} {β : Type} {R : β → Value → Prop} {L1 : β → Value → Own} {out : β → Value → List Atom} (h : Fnc c.P f us L0 As R L1 out) (hA : SubD As D) :
    ∀ w, St c.w0 c.M w (L0 ++ Lr) → DH D w (L0 ++ Lr) → Ret c.P f us w (fun v w' => ∃ y, R y v ∧ St c.w0 c.M w' (L1 y v ++ Lr) ∧ DH (out y v ++ D) w' (L1 y v ++ Lr)) := by
  intro w st dh
  have hbs : ∀ A : Own, Own.bs (A ++ Lr) = A.bs ++ Lr.bs := fun A => by simp [Own.bs, bsOf_append]
  have hnd := st.nd
  rw [hbs] at hnd
  have hlt : ∀ b, b ∈ L0.bs ∨ b ∈ Lr.bs → b < w.heap.size := fun b hb => st.lt b (by rw [hbs]; exact List.mem_append.2 hb)
  refine (h Lr.bs w hnd (fun b hb => hlt b (.inr hb)) (fun q hq => ?_) (fun t ht => ?_)).mono fun v w' hp => ?_
  · have := st.own q (List.mem_append.2 (.inl hq))
    rwa [hbs] at this
  · have := dh t (hA t ht)
    rwa [hbs] at this
  · obtain ⟨hs, y, hR, hL, hn, hb, ho⟩ := hp
    have hmem : ∀ b, b ∈ Own.bs (L1 y v ++ Lr) → b ∈ Own.bs (L0 ++ Lr) ∨ w.heap.size ≤ b := by
      intro b hx
      rw [hbs] at hx ⊢
      rcases List.mem_append.1 hx with hx | hx
      · exact (hb b hx).imp (fun h => List.mem_append.2 (.inl h)) id
      · exact .inl (List.mem_append.2 (.inr hx))
    have hsub : ∀ b, Sf (Own.bs (L0 ++ Lr)) w b → Sf (Own.bs (L1 y v ++ Lr)) w' b := fun b hx => ⟨Nat.lt_of_lt_of_le hx.1 hs.size, fun hy => by
      rcases hmem b hy with h1 | h1
      · exact hx.2 h1
      · have := hx.1; omega⟩
    have hdis := List.nodup_append.1 hnd
    refine ⟨y, hR, ⟨st.stp.trans_new hs (fun b hx => st.new b (by rw [hbs]; exact List.mem_append.2 (.inl hx))), ?_, ?_, ?_⟩, DH.app (fun t ht => ?_) (dh.turn (hs.mono fun b hx => by rw [hbs]; exact List.mem_append.2 (.inl hx)) hmem)⟩
    · intro q hq
      rcases List.mem_append.1 hq with hq | hq
      · rw [hbs]; exact hL q hq
      · refine q.keep (st.own q (List.mem_append.2 (.inr hq))) hsub (fun b hx => hs.block b ?_ ?_)
        · rcases hx with hx | hx
          · exact hx.1
          · exact hlt b (.inr (mem_bsOf.2 ⟨q, hq, hx⟩))
        · rcases hx with hx | hx
          · exact fun hy => hx.2 (by rw [hbs]; exact List.mem_append.2 (.inl hy))
          · exact fun hy => hdis.2.2 b hy b (mem_bsOf.2 ⟨q, hq, hx⟩) rfl
    · rw [hbs, List.nodup_append]
      refine ⟨hn, hdis.2.1, fun a ha b hb' e => ?_⟩
      subst e
      rcases hb a ha with h1 | h1
      · exact hdis.2.2 a h1 a hb' rfl
      · have := hlt a (.inr hb'); omega
    · intro b hx
      rcases hmem b hx with h1 | h1
      · exact st.new b h1
      · exact .inr (Nat.le_trans st.stp.size h1)
    · rw [hbs]; exact ho t ht

theorem cfP {L0 Lr : Own} {f : FuncId} {vs : List Value} {As : List Atom} {β : Type} {R : β → Value → Prop} {L1 : β → Value → Own} {out : β → Value → List Atom} (h : Fnc c.P f vs L0 As R L1 out) (hok : FnOk c.P f) (hL : L = L0 ++ Lr) {xs : List Operand} {ats : Array TypeId}
    (hxs : evs env xs = some vs) (hA : SubD As D) (hn : Nat.blt d c.n = true) (k : ∀ y v, R y v → WL Q c ops rest ((d, v) :: env) (L1 y v ++ Lr) (out y v ++ D)) :
    WL Q c ops (⟨some d, .call { callee := .value (.func f), args := xs.toArray, argTypes := ats }, t, p, af, none⟩ :: rest) env L D := by
  subst hL
  exact ca_gen (x := .func f) (first := #[]) (cap := #[]) rfl hxs (by simp) hok _ (cgP h hA) (fun _ v => (d, v) :: env) (fun _ v a f => f.put v (lt_blt hn)) k
theorem cfPc {L0 Lr : Own} {f : FuncId} {vs us : List Value} {As : List Atom} {β : Type} {R : β → Value → Prop} {L1 : β → Value → Own} {out : β → Value → List Atom} {first cap : Array Value} {x : Operand} (h : Fnc c.P f us L0 As R L1 out) (hok : FnOk c.P f) (hL : L = L0 ++ Lr) {xs : List Operand} {ats : Array TypeId}
    (hx : ev env x = some (.func (.func f) first cap)) (hxs : evs env xs = some vs) (hus : first.toList ++ vs ++ cap.toList = us) (hA : SubD As D) (hn : Nat.blt d c.n = true) (k : ∀ y v, R y v → WL Q c ops rest ((d, v) :: env) (L1 y v ++ Lr) (out y v ++ D)) :
    WL Q c ops (⟨some d, .call { callee := .value x, args := xs.toArray, argTypes := ats }, t, p, af, none⟩ :: rest) env L D := by
  subst hL
  exact ca_gen hx hxs hus hok _ (cgP h hA) (fun _ v => (d, v) :: env) (fun _ v a f => f.put v (lt_blt hn)) k
end

/-! ### A statement whose order is open
Each operation is shown by itself: from the slots of those that it waits for ('deps'), at each number j of turning operations ('effs', a chain) that may be done by then. -/

structure RS where
  deps : Nat → List Nat
  ok : Nat → Value → Prop
  at_ : Nat → Value → List Atom
  L : List Value → Own
  effs : List Nat

def dstOf (l : List Oper) (i : Nat) : Option Nat := (l[i]?).bind (·.dst)
/-- i waits for k. -/
def edge (l : List Oper) (k i : Nat) : Bool := match l[i]? with
  | some o => o.after.toList.any fun e => Region.binds .any e && e.on == k
  | none => false
def keyIn (env : Env) (d : Nat) : Bool := env.any fun p => p.1 == d
def ckDeps (l : List Oper) (deps : Nat → List Nat) : Bool := (List.range l.length).all fun i => (deps i).all fun k => edge l k i && (dstOf l k).isSome
def ckBack (l : List Oper) : Bool := (List.range l.length).all fun i => match l[i]? with
  | some o => o.after.toList.all fun e => !Region.binds .any e || Nat.blt e.on i
  | none => true
def ckDst (l : List Oper) (env : Env) : Bool := (List.range l.length).all fun i => match dstOf l i with
  | none => true
  | some d => !keyIn env d && (List.range l.length).all fun j => i == j || !(dstOf l j == some d)
def ckChain (l : List Oper) : List Nat → Bool
  | [] => true
  | [x] => x < l.length
  | x :: y :: r => edge l x y && x < y && ckChain l (y :: r)
def ckSize (l : List Oper) (n : Nat) : Bool := l.all fun o => match o.dst with
  | none => true
  | some d => Nat.blt d n

def phases (l : List Oper) (effs : List Nat) (i : Nat) : List Nat := (List.range (effs.length + 1)).filter fun j =>
  (List.range effs.length).all fun e => match effs[e]? with
    | none => true
    | some x => (!(x == i) || j == e) && (!(edge l i x) || Nat.ble j e) && (!(edge l x i) || Nat.blt e j)

def envOf (l : List Oper) (V : Nat → Value) : List Nat → Env
  | [] => []
  | k :: r => match dstOf l k with
    | some d => (d, V k) :: envOf l V r
    | none => envOf l V r
def atsOf (s : RS) (V : Nat → Value) : List Nat → List Atom
  | [] => []
  | k :: r => s.at_ k (V k) ++ atsOf s V r
def AllP {α : Type} (q : α → Prop) : List α → Prop
  | [] => True
  | x :: r => q x ∧ AllP q r
theorem AllP.mem {α : Type} {q : α → Prop} : ∀ {l : List α}, AllP q l → ∀ x ∈ l, q x
  | y :: r, h, x, hx => by
    rcases List.mem_cons.1 hx with rfl | hx
    · exact h.1
    · exact AllP.mem h.2 x hx

def nextJ (s : RS) (i j : Nat) : Nat := if s.effs.contains i then j + 1 else j
/-- What the turning operations have yielded by then. -/
def pre (s : RS) (V : Nat → Value) (j : Nat) : List Value := (s.effs.take j).map V
def nextL (s : RS) (vs : List Value) (i : Nat) (u : Value) : Own := if s.effs.contains i then s.L (vs ++ [u]) else s.L vs
def slotV (l : List Oper) (a : Act) (i : Nat) : Value := match dstOf l i with
  | some d => a.tmps.getD d undef
  | none => undef

def opPost (c : Cx) (l : List Oper) (s : RS) (D : List Atom) (i : Nat) (vs : List Value) : Exit → Act → World → Prop := fun e a w =>
  e = .normal ∧ a.defers = [] ∧ St c.w0 c.M w (nextL s vs i (slotV l a i)) ∧ DH D w (nextL s vs i (slotV l a i)) ∧ ∀ d, dstOf l i = some d → s.ok i (a.tmps.getD d undef) ∧ DH (s.at_ i (a.tmps.getD d undef)) w (nextL s vs i (slotV l a i))

/-- What is to be shown of each operation. -/
def Obl (c : Cx) (l : List Oper) (s : RS) (env : Env) (D : List Atom) : List Oper → Nat → Prop
  | [], _ => True
  | o :: r, i => (∀ (V : Nat → Value) (De : List Atom), AllP (fun k => s.ok k (V k)) (s.deps i) →
      AllP (fun j => WL (opPost c l s (D ++ De) i (pre s V j)) c l.toArray [o] (envOf l V (s.deps i) ++ env) (s.L (pre s V j)) (atsOf s V (s.deps i) ++ (D ++ De))) (phases l s.effs i)) ∧ Obl c l s env D r (i + 1)

theorem Obl.at_ {c : Cx} {l : List Oper} {s : RS} {env : Env} {D : List Atom} : ∀ {r : List Oper} {i : Nat}, Obl c l s env D r i → ∀ k o, r[k]? = some o → ∀ (V : Nat → Value) (De : List Atom), AllP (fun k => s.ok k (V k)) (s.deps (i + k)) →
    AllP (fun j => WL (opPost c l s (D ++ De) (i + k) (pre s V j)) c l.toArray [o] (envOf l V (s.deps (i + k)) ++ env) (s.L (pre s V j)) (atsOf s V (s.deps (i + k)) ++ (D ++ De))) (phases l s.effs (i + k))
  | [], _, _, k, o, hk => by simp at hk
  | p :: r, i, h, 0, o, hk => by simp at hk; subst hk; exact h.1
  | p :: r, i, h, k + 1, o, hk => by
    simp only [List.getElem?_cons_succ] at hk
    have := Obl.at_ h.2 k o hk
    rwa [show i + 1 + k = i + (k + 1) by omega] at this

/-- The frame's own values. -/
def valOf (l : List Oper) (a : Act) (i : Nat) : Value := slotV l a i

/-- What holds in the midst: the listed ones are done. -/
structure Mid (c : Cx) (l : List Oper) (s : RS) (env : Env) (D : List Atom) (listed : Array Bool) (a : Act) (w : World) (j : Nat) : Prop where
  fr : Fr c.n a env
  st : St c.w0 c.M w (s.L (pre s (valOf l a) j))
  dh : DH D w (s.L (pre s (valOf l a) j))
  size : listed.size = l.length
  closed : ∀ i k, listed.getD i false = true → edge l k i = true → listed.getD k false = true
  slot : ∀ i d, listed.getD i false = true → dstOf l i = some d → s.ok i (a.tmps.getD d undef) ∧ DH (s.at_ i (a.tmps.getD d undef)) w (s.L (pre s (valOf l a) j))
  done : ∀ e x, s.effs[e]? = some x → (listed.getD x false = true ↔ e < j)
  le : j ≤ s.effs.length

section
variable {c : Cx} {l : List Oper} {s : RS} {env : Env} {D : List Atom} {Q : Exit → Act → World → Prop}

theorem upon_up {P : Program} {o : Oper} {a : Act} {w : World} {K : Act → World → Prop} {Q Q' : Exit → Act → World → Prop} (hp : ∀ ch a w, ¬ Q (.panic ch) a w) (ho : ¬ LetsOut Q) (h : o.wp P a w K Q) : o.wp P a w K Q' := by
  unfold Oper.wp at *
  generalize (execOp a.eval o).run P w = r at *
  cases r with
  | ok n w' =>
    cases n <;> simp only [Oper.upon] at h ⊢ <;> try exact h
    · exact Calls.mono h fun e w'' he => by
        cases e with
        | returned v => exact he
        | panicked ch => exact absurd he (hp _ _ _)
        | outgrown => exact absurd he ho
  | halt x w' =>
    cases x <;> simp only [Oper.upon] at h ⊢ <;> try exact h
    exact absurd h (hp _ _ _)

theorem lk_append {A B : Env} {i : Nat} {v : Value} (h : lk (A ++ B) i = some v) : lk A i = some v ∨ (keyIn A i = false ∧ lk B i = some v) := by
  induction A with
  | nil => exact .inr ⟨rfl, h⟩
  | cons p r ih =>
    obtain ⟨j, u⟩ := p
    simp only [List.cons_append, lk] at h ⊢
    by_cases hj : j = i
    · subst hj
      simp at h ⊢
      exact .inl h
    · have hj' : (j == i) = false := by simpa using hj
      rw [hj'] at h ⊢
      simp only [cond_false] at h ⊢
      rcases ih h with h1 | h1
      · exact .inl h1
      · exact .inr ⟨by simp [keyIn, hj]; simpa [keyIn] using h1.1, h1.2⟩
theorem lk_envOf {V : Nat → Value} : ∀ {is : List Nat} {i : Nat} {v : Value}, lk (envOf l V is) i = some v → ∃ k ∈ is, dstOf l k = some i ∧ V k = v
  | [], _, _, h => by cases h
  | k :: r, i, v, h => by
    simp only [envOf] at h
    split at h
    · rename_i d hd
      simp only [lk] at h
      by_cases hdi : d = i
      · subst hdi
        simp at h
        exact ⟨k, by simp, hd, h⟩
      · have : (d == i) = false := by simpa using hdi
        rw [this] at h
        obtain ⟨k', hk', h1⟩ := lk_envOf h
        exact ⟨k', by simp [hk'], h1⟩
    · obtain ⟨k', hk', h1⟩ := lk_envOf h
      exact ⟨k', by simp [hk'], h1⟩
theorem mem_atsOf {V : Nat → Value} : ∀ {is : List Nat} {t : Atom}, t ∈ atsOf s V is → ∃ k ∈ is, t ∈ s.at_ k (V k)
  | [], _, h => by cases h
  | k :: r, t, h => by
    rcases List.mem_append.1 h with h | h
    · exact ⟨k, by simp, h⟩
    · obtain ⟨k', hk', h1⟩ := mem_atsOf h
      exact ⟨k', by simp [hk'], h1⟩

theorem keyIn_of_lk {env : Env} {i : Nat} {v : Value} (h : lk env i = some v) : keyIn env i = true := by
  induction env with
  | nil => cases h
  | cons p r ih =>
    obtain ⟨j, u⟩ := p
    simp only [lk] at h
    by_cases hj : j = i
    · subst hj; simp [keyIn]
    · have : (j == i) = false := by simpa using hj
      rw [this] at h
      have := ih h
      simp only [keyIn, List.any_cons] at this ⊢
      simp [this]

theorem Mid.frame {listed : Array Bool} {a : Act} {w : World} {j : Nat} (m : Mid c l s env D listed a w j) (hsz : ckSize l c.n = true) {is : List Nat} (hl : ∀ k ∈ is, k < l.length) : Fr c.n a (envOf l (valOf l a) is ++ env) := by
  refine ⟨m.fr.size, m.fr.dn, fun i v hi => ?_⟩
  rcases lk_append hi with h | h
  · obtain ⟨k, hk, hd, hv⟩ := lk_envOf h
    simp only [valOf, hd] at hv
    have hkl := hl k hk
    have hlt : i < c.n := by
      have := List.all_eq_true.1 hsz (l[k]) (List.getElem_mem hkl)
      have hd' : (l[k]).dst = some i := by simpa [dstOf, List.getElem?_eq_getElem hkl] using hd
      rw [hd'] at this
      exact lt_blt this
    have : i < a.tmps.size := by rw [m.fr.size]; exact hlt
    rw [← hv]
    simp [this, slotV, hd]
  · exact m.fr.at_ _ _ h.2

theorem chain_lt : ∀ {effs : List Nat}, ckChain l effs = true → ∀ (e e' x y : Nat), effs[e]? = some x → effs[e']? = some y → e < e' → x < y
  | [], _, e, e', x, y, h, _, _ => by simp at h
  | [z], _, e, e', x, y, h, h', hl => by
    have : e' = 0 := by
      have := (List.getElem?_eq_some_iff.1 h').1
      simp at this
      omega
    omega
  | z :: u :: r, hc, e, e', x, y, h, h', hl => by
    simp only [ckChain, Bool.and_eq_true, decide_eq_true_eq] at hc
    cases e' with
    | zero => omega
    | succ e' =>
      simp only [List.getElem?_cons_succ] at h'
      cases e with
      | succ e =>
        simp only [List.getElem?_cons_succ] at h
        exact chain_lt hc.2 e e' x y h h' (by omega)
      | zero =>
        simp at h
        subst h
        cases e' with
        | zero => simp at h'; subst h'; exact hc.1.2
        | succ e' =>
          have := chain_lt hc.2 0 (e' + 1) u y rfl h' (by omega)
          omega
theorem chain_edge : ∀ {effs : List Nat}, ckChain l effs = true → ∀ (e x y : Nat), effs[e]? = some x → effs[e + 1]? = some y → edge l x y = true
  | [], _, e, x, y, h, _ => by simp at h
  | [z], _, e, x, y, _, h' => by simp at h'
  | z :: u :: r, hc, e, x, y, h, h' => by
    simp only [ckChain, Bool.and_eq_true, decide_eq_true_eq] at hc
    cases e with
    | zero => simp at h h'; subst h h'; exact hc.1.1
    | succ e =>
      simp only [List.getElem?_cons_succ] at h h'
      exact chain_edge hc.2 e x y h h'

theorem edge_mem {k i : Nat} {o : Oper} (ho : l[i]? = some o) : edge l k i = true ↔ ∃ e ∈ o.after, Region.binds .any e = true ∧ e.on = k := by
  simp only [edge, ho, List.any_eq_true, Bool.and_eq_true, beq_iff_eq]
  constructor
  · rintro ⟨e, he, h1, h2⟩; exact ⟨e, Array.mem_toList_iff.1 he, h1, h2⟩
  · rintro ⟨e, he, h1, h2⟩; exact ⟨e, Array.mem_toList_iff.2 he, h1, h2⟩

theorem AllP.intro {α : Type} {q : α → Prop} : ∀ {l : List α}, (∀ x ∈ l, q x) → AllP q l
  | [], _ => trivial
  | y :: r, h => ⟨h y (by simp), AllP.intro fun x hx => h x (by simp [hx])⟩
theorem of_at {V : Nat → Value} {k : Nat} {t : Atom} : ∀ {is : List Nat}, k ∈ is → t ∈ s.at_ k (V k) → t ∈ atsOf s V is
  | y :: r, hk, ht => by
    rcases List.mem_cons.1 hk with rfl | hk
    · exact List.mem_append.2 (.inl ht)
    · exact List.mem_append.2 (.inr (of_at hk ht))
theorem getD_true_false {listed : Array Bool} {i : Nat} (h : i < listed.size) : listed.getD i true = listed.getD i false := by simp [h]
theorem getD_set {listed : Array Bool} {i k : Nat} (hi : i < listed.size) : (listed.setIfInBounds i true).getD k false = (i == k || listed.getD k false) := by
  by_cases h : i = k
  · subst h; simp [hi]
  · have : (i == k) = false := by simpa using h
    simp [Array.getElem?_setIfInBounds_ne h, this]

/-- One operation comes up. -/
theorem Mid.step (h1 : ckDeps l s.deps = true) (h2 : ckDst l env = true) (h4 : ckChain l s.effs = true) (hsz : ckSize l c.n = true) (hO : Obl c l s env D l 0)
    {listed : Array Bool} {a : Act} {w : World} {j i : Nat} (m : Mid c l s env D listed a w j) (hr : i ∈ Region.ready .any l.toArray listed) {K : Act → World → Prop}
    (hK : ∀ a' w' j', Mid c l s env D (listed.setIfInBounds i true) a' w' j' → K a' w') : wpOp c.P l.toArray Q i K a w := by
  obtain ⟨hun, o, ho, hall⟩ := mem_ready.1 hr
  have ho : l[i]? = some o := by simpa using ho
  have hil : i < l.length := (List.getElem?_eq_some_iff.1 ho).1
  have his : i < listed.size := by rw [m.size]; exact hil
  have hun' : listed.getD i false = false := by rw [← getD_true_false his]; exact hun
  have hed : ∀ k, edge l k i = true → listed.getD k false = true := by
    intro k hk
    obtain ⟨e, he, hb, rfl⟩ := (edge_mem ho).1 hk
    exact hall e he hb
  have hphase : j ∈ phases l s.effs i := by
    refine List.mem_filter.2 ⟨List.mem_range.2 (by have := m.le; omega), List.all_eq_true.2 fun e _ => ?_⟩
    split
    · rfl
    · rename_i x hx
      simp only [Bool.and_eq_true, Bool.or_eq_true, Bool.not_eq_true', beq_iff_eq, beq_eq_false_iff_ne]
      refine ⟨⟨?_, ?_⟩, ?_⟩
      · by_cases hxi : x = i
        · right
          subst hxi
          have hj : ¬ e < j := fun h => by
            have := (m.done e x hx).2 h
            rw [this] at hun'; cases hun'
          cases e with
          | zero => omega
          | succ e =>
            have hlt : e < s.effs.length := by have := (List.getElem?_eq_some_iff.1 hx).1; omega
            have hy : s.effs[e]? = some s.effs[e] := List.getElem?_eq_getElem hlt
            have := (m.done e _ hy).1 (hed _ (chain_edge h4 e _ x hy hx))
            omega
        · exact .inl hxi
      · by_cases h : edge l i x = true
        · right
          refine Nat.ble_eq_true_of_le<|Nat.le_of_not_lt fun hlt => ?_
          have := m.closed x i ((m.done e x hx).2 hlt) h
          rw [this] at hun'; cases hun'
        · left; simpa using h
      · by_cases h : edge l x i = true
        · right
          exact Nat.ble_eq_true_of_le ((m.done e x hx).1 (hed x h))
        · left; simpa using h
  have hdep : ∀ k ∈ s.deps i, edge l k i = true ∧ (dstOf l k).isSome = true := by
    intro k hk
    have := List.all_eq_true.1 (List.all_eq_true.1 h1 i (List.mem_range.2 hil)) k hk
    simpa using this
  have hdlt : ∀ k, (dstOf l k).isSome = true → k < l.length := by
    intro k hk
    rcases Nat.lt_or_ge k l.length with h | h
    · exact h
    · simp [dstOf, List.getElem?_eq_none h] at hk
  have hok : AllP (fun k => s.ok k (valOf l a k)) (s.deps i) := AllP.intro fun k hk => by
    obtain ⟨d, hd⟩ := Option.isSome_iff_exists.1 (hdep k hk).2
    have := (m.slot k d (hed k (hdep k hk).1) hd).1
    simpa [valOf, slotV, hd] using this
  let J := (List.range l.length).filter fun k => listed.getD k false && (dstOf l k).isSome
  have hJ : ∀ k, k ∈ J ↔ listed.getD k false = true ∧ (dstOf l k).isSome = true := by
    intro k
    simp only [J, List.mem_filter, List.mem_range, Bool.and_eq_true]
    exact ⟨fun h => h.2, fun h => ⟨hdlt k h.2, h⟩⟩
  have hatJ : ∀ k, k ∈ J → DH (s.at_ k (valOf l a k)) w (s.L (pre s (valOf l a) j)) := by
    intro k hk
    obtain ⟨hk1, hk2⟩ := (hJ k).1 hk
    obtain ⟨d, hd⟩ := Option.isSome_iff_exists.1 hk2
    have := (m.slot k d hk1 hd).2
    simpa [valOf, slotV, hd] using this
  have hwl := (hO.at_ i o ho (valOf l a) (atsOf s (valOf l a) J) (by rw [Nat.zero_add]; exact hok))
  rw [Nat.zero_add] at hwl
  have hwl := hwl.mem j hphase a w (m.frame hsz fun k hk => hdlt k (hdep k hk).2) m.st (DH.app (fun t ht => by
    obtain ⟨k, hk, ht⟩ := mem_atsOf ht
    exact hatJ k ((hJ k).2 ⟨hed k (hdep k hk).1, (hdep k hk).2⟩) t ht) (DH.app m.dh (fun t ht => by
    obtain ⟨k, hk, ht⟩ := mem_atsOf ht
    exact hatJ k hk t ht)))
  have hno : ¬ LetsOut (opPost c l s (D ++ atsOf s (valOf l a) J) i (pre s (valOf l a) j)) := by
    rintro ⟨a', w', h⟩; cases h.1
  -- what is left once it is done
  have hfin : ∀ a' w', (∃ u, a' = a.put o.dst u) → opPost c l s (D ++ atsOf s (valOf l a) J) i (pre s (valOf l a) j) .normal a' w' → K a' w' := by
    rintro a' w' ⟨u, rfl⟩ ⟨_, _, hst', hdh', hslot'⟩
    have hdsts : ∀ d, o.dst = some d → keyIn env d = false ∧ ∀ k, k ≠ i → dstOf l k ≠ some d := by
      intro d hd
      have hdi : dstOf l i = some d := by simp [dstOf, ho, hd]
      have := List.all_eq_true.1 h2 i (List.mem_range.2 hil)
      rw [hdi] at this
      simp only [Bool.and_eq_true, Bool.not_eq_true'] at this
      refine ⟨this.1, fun k hk e => ?_⟩
      have hkl := hdlt k (by rw [e]; rfl)
      have := List.all_eq_true.1 this.2 k (List.mem_range.2 hkl)
      simp [e, Ne.symm hk] at this
    have hvk : ∀ k, k ≠ i → valOf l (a.put o.dst u) k = valOf l a k := by
      intro k hk
      simp only [valOf, slotV]
      cases hdk : dstOf l k with
      | none => rfl
      | some d =>
        cases hd : o.dst with
        | none => rfl
        | some d0 =>
          have hne : d0 ≠ d := by
            rintro rfl
            exact (hdsts d0 hd).2 k hk hdk
          simp [Act.put, Array.getElem?_setIfInBounds_ne hne]
    have hLn : s.L (pre s (valOf l (a.put o.dst u)) (nextJ s i j)) = nextL s (pre s (valOf l a) j) i (slotV l (a.put o.dst u) i) := by
      unfold nextL nextJ
      have hpre : ∀ m, (∀ x ∈ s.effs.take m, x ≠ i) → pre s (valOf l (a.put o.dst u)) m = pre s (valOf l a) m := fun m hm => List.map_congr_left fun x hx => hvk x (hm x hx)
      by_cases hc : s.effs.contains i = true
      · rw [if_pos hc, if_pos hc]
        have hie : i ∈ s.effs := by simpa using hc
        obtain ⟨e0, he0⟩ := List.getElem?_of_mem hie
        have hj0 : j = e0 := by
          have := List.all_eq_true.1 (List.mem_filter.1 hphase).2 e0 (List.mem_range.2 (List.getElem?_eq_some_iff.1 he0).1)
          rw [he0] at this
          simp at this
          exact this.1.1
        subst hj0
        have e1 : pre s (valOf l (a.put o.dst u)) (j + 1) = pre s (valOf l (a.put o.dst u)) j ++ [valOf l (a.put o.dst u) i] := by
          simp [pre, List.take_add_one, he0]
        rw [e1, hpre j fun x hx hxi => ?_]
        · rfl
        · subst hxi
          obtain ⟨e1, he1⟩ := List.getElem?_of_mem hx
          rw [List.getElem?_take] at he1
          split at he1
          · rename_i hlt
            have := chain_lt h4 e1 j x x he1 he0 hlt
            omega
          · cases he1
      · rw [if_neg hc, if_neg hc, hpre j fun x hx hxi => ?_]
        subst hxi
        exact hc (by simpa using List.mem_of_mem_take hx)
    rw [← hLn] at hst' hdh' hslot'
    refine hK _ _ (nextJ s i j) ⟨?_, hst', fun t ht => hdh' t (List.mem_append.2 (.inl ht)), by simp [m.size], ?_, ?_, ?_, ?_⟩
    · cases hd : o.dst with
      | none => exact m.fr
      | some d =>
        have hdn : d < c.n := by
          have := List.all_eq_true.1 hsz o (List.mem_of_getElem? ho)
          rw [hd] at this
          exact lt_blt this
        have f := m.fr.put u hdn
        refine ⟨f.size, f.dn, fun k v hk => f.at_ k v ?_⟩
        have hne : d ≠ k := by
          rintro rfl
          have := keyIn_of_lk hk
          rw [(hdsts d hd).1] at this; cases this
        have : (d == k) = false := by simpa using hne
        simp only [lk, this, cond_false]
        exact hk
    · intro i' k hi' hk
      rw [getD_set his] at hi' ⊢
      simp only [Bool.or_eq_true, beq_iff_eq] at hi' ⊢
      rcases hi' with rfl | hi'
      · exact .inr (hed k hk)
      · exact .inr (m.closed i' k hi' hk)
    · intro i' d hi' hd'
      rw [getD_set his] at hi'
      simp only [Bool.or_eq_true, beq_iff_eq] at hi'
      by_cases hii : i = i'
      · subst hii
        exact hslot' d hd'
      · have hi' : listed.getD i' false = true := by
          rcases hi' with h | h
          · exact absurd h hii
          · exact h
        have hval : (a.put o.dst u).tmps.getD d undef = a.tmps.getD d undef := by
          cases hd : o.dst with
          | none => rfl
          | some d0 =>
            have hne : d0 ≠ d := by
              rintro rfl
              exact (hdsts d0 hd).2 i' (Ne.symm hii) hd'
            simp [Act.put, Array.getElem?_setIfInBounds_ne hne]
        rw [hval]
        refine ⟨(m.slot i' d hi' hd').1, fun t ht => hdh' t (List.mem_append.2 (.inr (of_at (k := i') ((hJ i').2 ⟨hi', by rw [hd']; rfl⟩) ?_)))⟩
        simpa [valOf, slotV, hd'] using ht
    · intro e x hx
      rw [getD_set his]
      simp only [Bool.or_eq_true, beq_iff_eq, nextJ]
      by_cases hie : i ∈ s.effs
      · obtain ⟨e0, he0⟩ := List.getElem?_of_mem hie
        have hj0 : j = e0 := by
          have := List.all_eq_true.1 (List.mem_filter.1 hphase).2 e0 (List.mem_range.2 (List.getElem?_eq_some_iff.1 he0).1)
          rw [he0] at this
          simp at this
          exact this.1.1
        subst hj0
        have hc : s.effs.contains i = true := by simpa using hie
        rw [if_pos hc]
        by_cases hix : i = x
        · subst hix
          have hee : e = j := by
            rcases Nat.lt_trichotomy e j with h | h | h
            · have := chain_lt h4 e j i i hx he0 h; omega
            · exact h
            · have := chain_lt h4 j e i i he0 hx h; omega
          simp only [true_or, true_iff]; omega
        · have hej : e ≠ j := by
            rintro rfl
            rw [he0] at hx
            injection hx with hx
            exact hix hx
          rw [m.done e x hx]
          constructor
          · rintro (h | h)
            · exact absurd h hix
            · omega
          · intro h; right; omega
      · have hc : s.effs.contains i = false := by simpa using hie
        rw [hc]
        simp only [Bool.false_eq_true, if_false]
        have hix : ¬ i = x := by rintro rfl; exact hie (List.mem_of_getElem? hx)
        rw [m.done e x hx]
        simp [hix]
    · simp only [nextJ]
      split
      · rename_i hc
        have hie : i ∈ s.effs := by simpa using hc
        obtain ⟨e0, he0⟩ := List.getElem?_of_mem hie
        have := List.all_eq_true.1 (List.mem_filter.1 hphase).2 e0 (List.mem_range.2 (List.getElem?_eq_some_iff.1 he0).1)
        rw [he0] at this
        simp at this
        have := (List.getElem?_eq_some_iff.1 he0).1
        omega
      · exact m.le
  unfold wpOp
  have ho' : l.toArray[i]? = some o := by simpa using ho
  simp only [ho']
  unfold wpList at hwl
  by_cases hw : Region.wanted o (yielded l.toArray a.tmps) = true
  · rw [if_pos hw] at hwl ⊢
    refine .inl (upon_up (Q := opPost c l s (D ++ atsOf s (valOf l a) J) i (pre s (valOf l a) j)) (fun _ _ _ h => by cases h.1) hno ?_)
    rcases hwl with h | h
    · -- the frame behind it is the one before, with a value put
      have key : ∀ {r : Result Next}, o.upon c.P a (opPost c l s (D ++ atsOf s (valOf l a) J) i (pre s (valOf l a) j) .normal) (opPost c l s (D ++ atsOf s (valOf l a) J) i (pre s (valOf l a) j)) r → o.upon c.P a K (opPost c l s (D ++ atsOf s (valOf l a) J) i (pre s (valOf l a) j)) r := by
        intro r h
        cases r with
        | ok n w' =>
          cases n <;> simp only [Oper.upon] at h ⊢ <;> try exact h
          · exact hfin _ _ ⟨_, rfl⟩ h
          · exact hfin _ _ ⟨_, rfl⟩ h
          · exact Calls.mono h fun e w'' he => by
              cases e with
              | returned v => exact hfin _ _ ⟨_, rfl⟩ he
              | panicked ch => exact he
              | outgrown => exact he
          · have hd := h.2.1
            cases hdst : o.dst <;> simp [hdst, Act.put] at hd
          · exact Rows.mono h fun _ _ he => hfin _ _ ⟨_, rfl⟩ he
        | halt x w' => cases x <;> simp only [Oper.upon] at h ⊢ <;> exact h
      exact key h
    · exact absurd h.2 hno
  · rw [if_neg hw] at hwl ⊢
    exact hfin _ _ ⟨undef, rfl⟩ hwl

theorem countP_lt {α : Type} {p q : α → Bool} : ∀ {L : List α}, (∀ x ∈ L, q x = true → p x = true) → (∃ x ∈ L, p x = true ∧ q x = false) → L.countP q < L.countP p
  | [], _, h => by obtain ⟨x, hx, _⟩ := h; cases hx
  | y :: r, h, hx => by
    have hle : r.countP q ≤ r.countP p := List.countP_mono_left fun x hx => h x (by simp [hx])
    by_cases hy : p y = true ∧ q y = false
    · rw [List.countP_cons_of_pos hy.1, List.countP_cons_of_neg (by simp [hy.2])]
      omega
    · obtain ⟨x, hx, hp, hq⟩ := hx
      have hxr : x ∈ r := by
        rcases List.mem_cons.1 hx with rfl | hx
        · exact absurd ⟨hp, hq⟩ hy
        · exact hx
      have ih := countP_lt (fun x hx => h x (by simp [hx])) ⟨x, hxr, hp, hq⟩
      by_cases hq : q y = true
      · rw [List.countP_cons_of_pos hq, List.countP_cons_of_pos (h y (by simp) hq)]
        omega
      · rw [List.countP_cons_of_neg hq]
        by_cases hp : p y = true
        · rw [List.countP_cons_of_pos hp]; omega
        · rw [List.countP_cons_of_neg hp]; exact ih

theorem chain_in : ∀ {effs : List Nat}, ckChain l effs = true → ∀ (e x : Nat), effs[e]? = some x → x < l.length
  | [], _, e, x, h => by simp at h
  | [z], hc, e, x, h => by
    have : e = 0 := by
      have := (List.getElem?_eq_some_iff.1 h).1
      simp at this; omega
    subst this
    simp at h
    subst h
    simpa [ckChain] using hc
  | z :: u :: r, hc, e, x, h => by
    simp only [ckChain, Bool.and_eq_true, decide_eq_true_eq] at hc
    cases e with
    | succ e =>
      simp only [List.getElem?_cons_succ] at h
      exact chain_in hc.2 e x h
    | zero =>
      simp at h
      subst h
      have := chain_in hc.2 0 u rfl
      omega
theorem getD_rep (m j : Nat) : (Array.replicate m false).getD j false = false := by
  rcases Nat.lt_or_ge j m with h | h
  · simp [h]
  · simp [h]

theorem Mid.all (h1 : ckDeps l s.deps = true) (h2 : ckDst l env = true) (h4 : ckChain l s.effs = true) (h5 : ckBack l = true) (hsz : ckSize l c.n = true) (hO : Obl c l s env D l 0)
    (hK : ∀ a w, (∀ k, k < l.length → True) → Mid c l s env D (Array.replicate l.length true) a w s.effs.length → Q .normal a w) :
    ∀ (fuel : Nat) (listed : Array Bool) (a : Act) (w : World) (j : Nat), Mid c l s env D listed a w j → (List.range l.length).countP (fun i => !listed.getD i false) ≤ fuel → wpAny c.P .any l.toArray Q fuel listed a w := by
  have hfin : ∀ (listed : Array Bool) (a : Act) (w : World) (j : Nat), Mid c l s env D listed a w j → Region.ready .any l.toArray listed = [] → Q .normal a w := by
    intro listed a w j m hr
    have hall : ∀ i, i < l.length → listed.getD i false = true := by
      intro i
      induction i using Nat.strongRecOn with
      | _ i ih =>
        intro hi
        cases hli : listed.getD i false with
        | true => rfl
        | false =>
          exfalso
          have : i ∈ Region.ready .any l.toArray listed := by
            refine mem_ready.2 ⟨by rw [getD_true_false (by rw [m.size]; exact hi)]; exact hli, l[i], by simp [List.getElem?_eq_getElem hi], fun e he hb => ?_⟩
            have hbk := List.all_eq_true.1 h5 i (List.mem_range.2 hi)
            rw [List.getElem?_eq_getElem hi] at hbk
            have := List.all_eq_true.1 hbk e (Array.mem_toList_iff.2 he)
            rw [hb] at this
            have hlt := lt_blt (by simpa using this)
            exact ih e.on hlt (by omega)
          rw [hr] at this
          cases this
    have heq : listed = Array.replicate l.length true := by
      apply Array.ext
      · simp [m.size]
      · intro i h1 h2
        have := hall i (by rw [m.size] at h1; exact h1)
        simp [h1] at this
        simp [this]
    have hj : j = s.effs.length := by
      rcases Nat.lt_or_ge j s.effs.length with h | h
      · have hx : s.effs[j]? = some s.effs[j] := List.getElem?_eq_getElem h
        have hlt : s.effs[j] < l.length := by
          rcases Nat.lt_or_ge s.effs[j] l.length with h' | h'
          · exact h'
          · exfalso
            have := chain_in h4 j _ hx
            omega
        have := (m.done j _ hx).1 (hall _ hlt)
        omega
      · have := m.le; omega
    subst heq hj
    exact hK a w (fun _ _ => trivial) m
  intro fuel
  induction fuel with
  | zero =>
    intro listed a w j m hc
    have hr : Region.ready .any l.toArray listed = [] := by
      apply List.eq_nil_iff_forall_not_mem.2
      intro i hi
      obtain ⟨hun, o, ho, _⟩ := mem_ready.1 hi
      have hil : i < l.length := by
        have := (Array.getElem?_eq_some_iff.1 ho).1
        simpa using this
      have hun' : listed.getD i false = false := by rw [← getD_true_false (by rw [m.size]; exact hil)]; exact hun
      have h0 : (List.range l.length).countP (fun i => !listed.getD i false) = 0 := by omega
      have := List.countP_eq_zero.1 h0 i (List.mem_range.2 hil)
      simp [hun'] at this
    exact ⟨hr, hfin _ _ _ _ m hr⟩
  | succ fuel ih =>
    intro listed a w j m hc
    refine ⟨fun hr => hfin _ _ _ _ m hr, fun i hi => ?_⟩
    refine m.step h1 h2 h4 hsz hO hi fun a' w' j' m' => ih _ a' w' j' m' ?_
    obtain ⟨hun, o, ho, _⟩ := mem_ready.1 hi
    have hil : i < l.length := by
      have := (Array.getElem?_eq_some_iff.1 ho).1
      simpa using this
    have his : i < listed.size := by rw [m.size]; exact hil
    have hun' : listed.getD i false = false := by rw [← getD_true_false his]; exact hun
    have : (List.range l.length).countP (fun k => !(listed.setIfInBounds i true).getD k false) < (List.range l.length).countP (fun k => !listed.getD k false) := by
      refine countP_lt (fun k _ hk => ?_) ⟨i, List.mem_range.2 hil, by rw [hun']; rfl, ?_⟩
      · rw [getD_set his] at hk
        simp only [Bool.not_eq_true', Bool.or_eq_false_iff] at hk
        rw [hk.2]; rfl
      · rw [getD_set his]; simp
    omega
def rgOk (l : List Oper) (env : Env) (s : RS) (n : Nat) : Bool := ckDeps l s.deps && ckDst l env && ckChain l s.effs && ckBack l && ckSize l n

/-- **A statement whose order is open.** -/
theorem rgD {id : Nat} (s : RS) (hm : c.P.follows .mixedOrders = true) (hok : rgOk l env s c.n = true) {L : Own} (hL : s.L [] = L) (hO : Obl c l s env D l 0)
    (k : ∀ V : Nat → Value, AllP (fun i => (dstOf l i).isSome = true → s.ok i (V i)) (List.range l.length) → WQ c Q .normal (envOf l V (List.range l.length) ++ env) (s.L (s.effs.map V)) (atsOf s V ((List.range l.length).filter fun i => (dstOf l i).isSome) ++ D)) : WC c (.region id l.toArray true) Q env L D := by
  intro a w f st dh
  simp only [rgOk, Bool.and_eq_true] at hok
  obtain ⟨⟨⟨⟨h1, h2⟩, h4⟩, h5⟩, hsz⟩ := hok
  subst hL
  refine wp_region_any hm ?_
  have hs := Stp.drew [] w
  have m0 : Mid c l s env D (Array.replicate l.length false) a w.drew 0 := by
    refine ⟨f, st.step hs, dh.step hs.nil, by simp, fun i k h _ => ?_, fun i d h _ => ?_, fun e x _ => ?_, Nat.zero_le _⟩
    · rw [getD_rep] at h; cases h
    · rw [getD_rep] at h; cases h
    · rw [getD_rep]; simp
  have := Mid.all (Q := Q) h1 h2 h4 h5 hsz hO ?_ l.length (Array.replicate l.length false) a w.drew 0 m0 (by
    have := List.countP_le_length (p := fun i => !(Array.replicate l.length false).getD i false) (l := List.range l.length)
    simpa using this)
  · simpa using this
  · intro a' w' _ m
    have hin : ∀ i, (dstOf l i).isSome = true → (Array.replicate l.length true).getD i false = true := by
      intro i hi
      have : i < l.length := by
        rcases Nat.lt_or_ge i l.length with h | h
        · exact h
        · simp [dstOf, List.getElem?_eq_none h] at hi
      simp [this]
    have hst := m.st
    have hdh := m.dh
    have hsl := m.slot
    have hp : pre s (valOf l a') s.effs.length = s.effs.map (valOf l a') := by simp [pre]
    rw [hp] at hst hdh hsl
    refine k (valOf l a') (AllP.intro fun i hi hd => ?_) a' w' (m.frame hsz fun k hk => List.mem_range.1 hk) hst (DH.app (fun t ht => ?_) hdh)
    · obtain ⟨d, hd⟩ := Option.isSome_iff_exists.1 hd
      have := (hsl i d (hin i (by rw [hd]; rfl)) hd).1
      simpa [valOf, slotV, hd] using this
    · obtain ⟨i, hi, ht⟩ := mem_atsOf ht
      have hd := (List.mem_filter.1 hi).2
      obtain ⟨d, hd⟩ := Option.isSome_iff_exists.1 hd
      have := (hsl i d (hin i (by rw [hd]; rfl)) hd).2
      simp only [valOf, slotV, hd] at ht
      exact this t ht

/-- An operation's own end. -/
theorem od {i : Nat} {vs : List Value} {env' : Env} {L' : Own} {D' De : List Atom} {d : Nat} {u : Value} (hd : dstOf l i = some d) (hv : lk env' d = some u) (hL : L' = nextL s vs i u) (hok : s.ok i u) (hat : SubD (s.at_ i u) D') (hD : SubD De D') :
    WQ c (opPost c l s De i vs) .normal env' L' D' := by
  intro a w f st dh
  have e : a.tmps.getD d undef = u := by
    have := f.at_ d u hv
    simp [this]
  have e2 : slotV l a i = u := by simp only [slotV, hd, e]
  subst hL
  refine ⟨rfl, f.dn, by rw [e2]; exact st, by rw [e2]; exact dh.sub hD, fun d' hd' => ?_⟩
  rw [hd] at hd'
  injection hd' with hd'
  subst hd'
  rw [e, e2]
  exact ⟨hok, dh.sub hat⟩
theorem od0 {i : Nat} {vs : List Value} {env' : Env} {L' : Own} {D' De : List Atom} (hd : dstOf l i = none) (hL : L' = nextL s vs i undef) (hD : SubD De D') :
    WQ c (opPost c l s De i vs) .normal env' L' D' := by
  intro a w f st dh
  have e2 : slotV l a i = undef := by simp only [slotV, hd]
  subst hL
  refine ⟨rfl, f.dn, by rw [e2]; exact st, by rw [e2]; exact dh.sub hD, fun d' hd' => ?_⟩
  rw [hd] at hd'
  cases hd'
end
end Go.Eng
