/- Part 3 of dutyPlays_holds. -/
import Derived.Scope
import Derived.Great.BuildSlice
import Derived.Laws.Cover3
import Derived.Laws.Externs
import Derived.Lib.Bytealg
import Derived.Test.YtmpoffijcfaalaaGreatPl2

set_option maxRecDepth 20000
set_option maxHeartbeats 1000000
namespace Go.Eng
section
section
variable {c : Cx} {ops : Array Oper} {Q : Exit → Act → World → Prop} {env : Env} {L : Own} {D : List Atom} {rest : List Oper} {d : Nat} {v : Value} {t : TypeId} {p : String} {af : Array Edge}
theorem bs_perm {L L' : Own} (h : L.Perm L') : (bsOf L).Perm (bsOf L') := by
 induction h with
 | nil => exact .refl _
 | cons x _ ih => exact (List.Perm.append_left x.bs ih)
 | swap x y l =>
  simp only [bsOf, ← List.append_assoc]
  exact List.Perm.append_right _ List.perm_append_comm
 | trans _ _ h1 h2 => exact h1.trans h2
theorem St.perm {w0 w : World} {M : List Nat} {L L' : Own} (h : St w0 M w L) (hp : L.Perm L') : St w0 M w L' := by
 have hb := bs_perm hp
 refine ⟨h.stp, fun q hq => q.keep (h.own q (hp.mem_iff.2 hq)) (fun b hx => ⟨hx.1, fun hy => hx.2 (hb.mem_iff.2 hy)⟩) (fun _ _ => rfl), hb.nodup_iff.1 h.nd, fun b hx => h.new b (hb.mem_iff.2 hx)⟩
theorem DH.perm {w : World} {L L' : Own} (h : DH D w L) (hp : L.Perm L') : DH D w L' := by
 have hb := bs_perm hp
 exact fun t ht => Atom.keep (h t ht) (fun b hx => ⟨hx.1, fun hy => hx.2 (hb.mem_iff.2 hy)⟩) (fun _ _ => rfl)
theorem erase_perm : ∀ {L : Own} {i : Nat} {q : OwnE}, L[i]? = some q → L.Perm (q :: L.eraseIdx i)
 | [], i, q, h => by simp at h
 | p :: r, 0, q, h => by simp at h; subst h; exact .refl _
 | p :: r, i + 1, q, h => by
  simp only [List.getElem?_cons_succ] at h
  exact ((erase_perm h).cons p).trans (.swap _ _ _)
theorem mtL (i : Nat) {q : OwnE} {l : List Oper} (hi : L[i]? = some q) (k : WL Q c ops l env (q :: L.eraseIdx i) D) : WL Q c ops l env L D :=
 fun a w f st dh => k a w f (st.perm (erase_perm hi)) (dh.perm (erase_perm hi))
theorem mtQ (i : Nat) {q : OwnE} {e : Exit} (hi : L[i]? = some q) (k : WQ c Q e env (q :: L.eraseIdx i) D) : WQ c Q e env L D :=
 fun a w f st dh => k a w f (st.perm (erase_perm hi)) (dh.perm (erase_perm hi))
theorem cgP {L0 Lr : Own} {f : FuncId} {us : List Value} {As : List Atom} {β : Type} {R : β → Value → Prop} {L1 : β → Value → Own} {out : β → Value → List Atom} (h : Fnc c.P f us L0 As R L1 out) (hA : SubD As D) :
 ∀ w, St c.w0 c.M w (L0 ++ Lr) → DH D w (L0 ++ Lr) → Ret c.P f us w (fun v w' => ∃ y, R y v ∧ St c.w0 c.M w' (L1 y v ++ Lr) ∧ DH (out y v ++ D) w' (L1 y v ++ Lr)) := by
 intro w st dh
 have hbs : ∀ A : Own, Own.bs (A ++ Lr) = A.bs ++ Lr.bs := fun A => by simp [Own.bs, bsOf_append]
 have hnd := st.nd
 rw [hbs] at hnd
 have hlt : ∀ b, b ∈ L0.bs ∨ b ∈ Lr.bs → b < w.heap.size := fun b hb => st.lt b (by rw [hbs]; exact List.mem_append.2 hb)
 refine (h Lr.bs w hnd (fun b hb => hlt b (.inr hb)) (fun q hq => ?_) (fun t ht => ?_)).mono fun v w' hp => ?_
 · have := st.own q (List.mem_append.2 (.inl hq))
   rwa [hbs] at this
 · have := dh t (hA t ht)
   rwa [hbs] at this
 · obtain ⟨hs, y, hR, hL, hn, hb, ho⟩ := hp
   have hmem : ∀ b, b ∈ Own.bs (L1 y v ++ Lr) → b ∈ Own.bs (L0 ++ Lr) ∨ w.heap.size ≤ b := by
    intro b hx
    rw [hbs] at hx ⊢
    rcases List.mem_append.1 hx with hx | hx
    · exact (hb b hx).imp (fun h => List.mem_append.2 (.inl h)) id
    · exact .inl (List.mem_append.2 (.inr hx))
   have hsub : ∀ b, Sf (Own.bs (L0 ++ Lr)) w b → Sf (Own.bs (L1 y v ++ Lr)) w' b := fun b hx => ⟨Nat.lt_of_lt_of_le hx.1 hs.size, fun hy => by
    rcases hmem b hy with h1 | h1
    · exact hx.2 h1
    · have := hx.1; omega⟩
   have hdis := List.nodup_append.1 hnd
   refine ⟨y, hR, ⟨st.stp.trans_new hs (fun b hx => st.new b (by rw [hbs]; exact List.mem_append.2 (.inl hx))), ?_, ?_, ?_⟩, DH.app (fun t ht => ?_) (dh.turn (hs.mono fun b hx => by rw [hbs]; exact List.mem_append.2 (.inl hx)) hmem)⟩
   · intro q hq
     rcases List.mem_append.1 hq with hq | hq
     · rw [hbs]; exact hL q hq
     · refine q.keep (st.own q (List.mem_append.2 (.inr hq))) hsub (fun b hx => hs.block b ?_ ?_)
       · rcases hx with hx | hx
         · exact hx.1
         · exact hlt b (.inr (mem_bsOf.2 ⟨q, hq, hx⟩))
       · rcases hx with hx | hx
         · exact fun hy => hx.2 (by rw [hbs]; exact List.mem_append.2 (.inl hy))
         · exact fun hy => hdis.2.2 b hy b (mem_bsOf.2 ⟨q, hq, hx⟩) rfl
   · rw [hbs, List.nodup_append]
     refine ⟨hn, hdis.2.1, fun a ha b hb' e => ?_⟩
     subst e
     rcases hb a ha with h1 | h1
     · exact hdis.2.2 a h1 a hb' rfl
     · have := hlt a (.inr hb'); omega
   · intro b hx
     rcases hmem b hx with h1 | h1
     · exact st.new b h1
     · exact .inr (Nat.le_trans st.stp.size h1)
   · rw [hbs]; exact ho t ht
theorem cfP {L0 Lr : Own} {f : FuncId} {vs : List Value} {As : List Atom} {β : Type} {R : β → Value → Prop} {L1 : β → Value → Own} {out : β → Value → List Atom} (h : Fnc c.P f vs L0 As R L1 out) (hok : FnOk c.P f) (hL : L = L0 ++ Lr) {xs : List Operand} {ats : Array TypeId}
 (hxs : evs env xs = some vs) (hA : SubD As D) (hn : Nat.blt d c.n = true) (k : ∀ y v, R y v → WL Q c ops rest ((d, v) :: env) (L1 y v ++ Lr) (out y v ++ D)) :
 WL Q c ops (⟨some d, .call { callee := .value (.func f), args := xs.toArray, argTypes := ats }, t, p, af, none⟩ :: rest) env L D := by
 subst hL
 exact ca_gen (x := .func f) (first := #[]) (cap := #[]) rfl hxs (by simp) hok _ (cgP h hA) (fun _ v => (d, v) :: env) (fun _ v a f => f.put v (lt_blt hn)) k
theorem cfPc {L0 Lr : Own} {f : FuncId} {vs us : List Value} {As : List Atom} {β : Type} {R : β → Value → Prop} {L1 : β → Value → Own} {out : β → Value → List Atom} {first cap : Array Value} {x : Operand} (h : Fnc c.P f us L0 As R L1 out) (hok : FnOk c.P f) (hL : L = L0 ++ Lr) {xs : List Operand} {ats : Array TypeId}
 (hx : ev env x = some (.func (.func f) first cap)) (hxs : evs env xs = some vs) (hus : first.toList ++ vs ++ cap.toList = us) (hA : SubD As D) (hn : Nat.blt d c.n = true) (k : ∀ y v, R y v → WL Q c ops rest ((d, v) :: env) (L1 y v ++ Lr) (out y v ++ D)) :
 WL Q c ops (⟨some d, .call { callee := .value x, args := xs.toArray, argTypes := ats }, t, p, af, none⟩ :: rest) env L D := by
 subst hL
 exact ca_gen hx hxs hus hok _ (cgP h hA) (fun _ v => (d, v) :: env) (fun _ v a f => f.put v (lt_blt hn)) k
end
structure RS where
 deps : Nat → List Nat
 ok : Nat → Value → Prop
 at_ : Nat → Value → List Atom
 L : List Value → Own
 effs : List Nat
def dstOf (l : List Oper) (i : Nat) : Option Nat := (l[i]?).bind (·.dst)
def edge (l : List Oper) (k i : Nat) : Bool := match l[i]? with
 | some o => o.after.toList.any fun e => Region.binds .any e && e.on == k
 | none => false
def keyIn (env : Env) (d : Nat) : Bool := env.any fun p => p.1 == d
def ckDeps (l : List Oper) (deps : Nat → List Nat) : Bool := (List.range l.length).all fun i => (deps i).all fun k => edge l k i && (dstOf l k).isSome
def ckBack (l : List Oper) : Bool := (List.range l.length).all fun i => match l[i]? with
 | some o => o.after.toList.all fun e => !Region.binds .any e || Nat.blt e.on i
 | none => true
def ckDst (l : List Oper) (env : Env) : Bool := (List.range l.length).all fun i => match dstOf l i with
 | none => true
 | some d => !keyIn env d && (List.range l.length).all fun j => i == j || !(dstOf l j == some d)
def ckChain (l : List Oper) : List Nat → Bool
 | [] => true
 | [x] => x < l.length
 | x :: y :: r => edge l x y && x < y && ckChain l (y :: r)
def ckSize (l : List Oper) (n : Nat) : Bool := l.all fun o => match o.dst with
 | none => true
 | some d => Nat.blt d n
def phases (l : List Oper) (effs : List Nat) (i : Nat) : List Nat := (List.range (effs.length + 1)).filter fun j =>
 (List.range effs.length).all fun e => match effs[e]? with
  | none => true
  | some x => (!(x == i) || j == e) && (!(edge l i x) || Nat.ble j e) && (!(edge l x i) || Nat.blt e j)
def envOf (l : List Oper) (V : Nat → Value) : List Nat → Env
 | [] => []
 | k :: r => match dstOf l k with
  | some d => (d, V k) :: envOf l V r
  | none => envOf l V r
def atsOf (s : RS) (V : Nat → Value) : List Nat → List Atom
 | [] => []
 | k :: r => s.at_ k (V k) ++ atsOf s V r
def AllP {α : Type} (q : α → Prop) : List α → Prop
 | [] => True
 | x :: r => q x ∧ AllP q r
theorem AllP.mem {α : Type} {q : α → Prop} : ∀ {l : List α}, AllP q l → ∀ x ∈ l, q x
 | y :: r, h, x, hx => by
  rcases List.mem_cons.1 hx with rfl | hx
  · exact h.1
  · exact AllP.mem h.2 x hx
def nextJ (s : RS) (i j : Nat) : Nat := if s.effs.contains i then j + 1 else j
def pre (s : RS) (V : Nat → Value) (j : Nat) : List Value := (s.effs.take j).map V
def nextL (s : RS) (vs : List Value) (i : Nat) (u : Value) : Own := if s.effs.contains i then s.L (vs ++ [u]) else s.L vs
def slotV (l : List Oper) (a : Act) (i : Nat) : Value := match dstOf l i with
 | some d => a.tmps.getD d undef
 | none => undef
def opPost (c : Cx) (l : List Oper) (s : RS) (D : List Atom) (i : Nat) (vs : List Value) : Exit → Act → World → Prop := fun e a w =>
 e = .normal ∧ a.defers = [] ∧ St c.w0 c.M w (nextL s vs i (slotV l a i)) ∧ DH D w (nextL s vs i (slotV l a i)) ∧ ∀ d, dstOf l i = some d → s.ok i (a.tmps.getD d undef) ∧ DH (s.at_ i (a.tmps.getD d undef)) w (nextL s vs i (slotV l a i))
def Obl (c : Cx) (l : List Oper) (s : RS) (env : Env) (D : List Atom) : List Oper → Nat → Prop
 | [], _ => True
 | o :: r, i => (∀ (V : Nat → Value) (De : List Atom), AllP (fun k => s.ok k (V k)) (s.deps i) →
  AllP (fun j => WL (opPost c l s (D ++ De) i (pre s V j)) c l.toArray [o] (envOf l V (s.deps i) ++ env) (s.L (pre s V j)) (atsOf s V (s.deps i) ++ (D ++ De))) (phases l s.effs i)) ∧ Obl c l s env D r (i + 1)
theorem Obl.at_ {c : Cx} {l : List Oper} {s : RS} {env : Env} {D : List Atom} : ∀ {r : List Oper} {i : Nat}, Obl c l s env D r i → ∀ k o, r[k]? = some o → ∀ (V : Nat → Value) (De : List Atom), AllP (fun k => s.ok k (V k)) (s.deps (i + k)) →
 AllP (fun j => WL (opPost c l s (D ++ De) (i + k) (pre s V j)) c l.toArray [o] (envOf l V (s.deps (i + k)) ++ env) (s.L (pre s V j)) (atsOf s V (s.deps (i + k)) ++ (D ++ De))) (phases l s.effs (i + k))
 | [], _, _, k, o, hk => by simp at hk
 | p :: r, i, h, 0, o, hk => by simp at hk; subst hk; exact h.1
 | p :: r, i, h, k + 1, o, hk => by
  simp only [List.getElem?_cons_succ] at hk
  have := Obl.at_ h.2 k o hk
  rwa [show i + 1 + k = i + (k + 1) by omega] at this
def valOf (l : List Oper) (a : Act) (i : Nat) : Value := slotV l a i
structure Mid (c : Cx) (l : List Oper) (s : RS) (env : Env) (D : List Atom) (listed : Array Bool) (a : Act) (w : World) (j : Nat) : Prop where
 fr : Fr c.n a env
 st : St c.w0 c.M w (s.L (pre s (valOf l a) j))
 dh : DH D w (s.L (pre s (valOf l a) j))
 size : listed.size = l.length
 closed : ∀ i k, listed.getD i false = true → edge l k i = true → listed.getD k false = true
 slot : ∀ i d, listed.getD i false = true → dstOf l i = some d → s.ok i (a.tmps.getD d undef) ∧ DH (s.at_ i (a.tmps.getD d undef)) w (s.L (pre s (valOf l a) j))
 done : ∀ e x, s.effs[e]? = some x → (listed.getD x false = true ↔ e < j)
 le : j ≤ s.effs.length
section
variable {c : Cx} {l : List Oper} {s : RS} {env : Env} {D : List Atom} {Q : Exit → Act → World → Prop}
theorem upon_up {P : Program} {o : Oper} {a : Act} {w : World} {K : Act → World → Prop} {Q Q' : Exit → Act → World → Prop} (hp : ∀ ch a w, ¬ Q (.panic ch) a w) (ho : ¬ LetsOut Q) (h : o.wp P a w K Q) : o.wp P a w K Q' := by
 unfold Oper.wp at *
 generalize (execOp a.eval o).run P w = r at *
 cases r with
 | ok n w' =>
  cases n <;> simp only [Oper.upon] at h ⊢ <;> try exact h
  · exact Calls.mono h fun e w'' he => by
     cases e with
     | returned v => exact he
     | panicked ch => exact absurd he (hp _ _ _)
     | outgrown => exact absurd he ho
 | halt x w' =>
  cases x <;> simp only [Oper.upon] at h ⊢ <;> try exact h
  exact absurd h (hp _ _ _)
theorem lk_append {A B : Env} {i : Nat} {v : Value} (h : lk (A ++ B) i = some v) : lk A i = some v ∨ (keyIn A i = false ∧ lk B i = some v) := by
 induction A with
 | nil => exact .inr ⟨rfl, h⟩
 | cons p r ih =>
  obtain ⟨j, u⟩ := p
  simp only [List.cons_append, lk] at h ⊢
  by_cases hj : j = i
  · subst hj
    simp at h ⊢
    exact .inl h
  · have hj' : (j == i) = false := by simpa using hj
    rw [hj'] at h ⊢
    simp only [cond_false] at h ⊢
    rcases ih h with h1 | h1
    · exact .inl h1
    · exact .inr ⟨by simp [keyIn, hj]; simpa [keyIn] using h1.1, h1.2⟩
theorem lk_envOf {V : Nat → Value} : ∀ {is : List Nat} {i : Nat} {v : Value}, lk (envOf l V is) i = some v → ∃ k ∈ is, dstOf l k = some i ∧ V k = v
 | [], _, _, h => by cases h
 | k :: r, i, v, h => by
  simp only [envOf] at h
  split at h
  · rename_i d hd
    simp only [lk] at h
    by_cases hdi : d = i
    · subst hdi
      simp at h
      exact ⟨k, by simp, hd, h⟩
    · have : (d == i) = false := by simpa using hdi
      rw [this] at h
      obtain ⟨k', hk', h1⟩ := lk_envOf h
      exact ⟨k', by simp [hk'], h1⟩
  · obtain ⟨k', hk', h1⟩ := lk_envOf h
    exact ⟨k', by simp [hk'], h1⟩
theorem mem_atsOf {V : Nat → Value} : ∀ {is : List Nat} {t : Atom}, t ∈ atsOf s V is → ∃ k ∈ is, t ∈ s.at_ k (V k)
 | [], _, h => by cases h
 | k :: r, t, h => by
  rcases List.mem_append.1 h with h | h
  · exact ⟨k, by simp, h⟩
  · obtain ⟨k', hk', h1⟩ := mem_atsOf h
    exact ⟨k', by simp [hk'], h1⟩
theorem keyIn_of_lk {env : Env} {i : Nat} {v : Value} (h : lk env i = some v) : keyIn env i = true := by
 induction env with
 | nil => cases h
 | cons p r ih =>
  obtain ⟨j, u⟩ := p
  simp only [lk] at h
  by_cases hj : j = i
  · subst hj; simp [keyIn]
  · have : (j == i) = false := by simpa using hj
    rw [this] at h
    have := ih h
    simp only [keyIn, List.any_cons] at this ⊢
    simp [this]
theorem Mid.frame {listed : Array Bool} {a : Act} {w : World} {j : Nat} (m : Mid c l s env D listed a w j) (hsz : ckSize l c.n = true) {is : List Nat} (hl : ∀ k ∈ is, k < l.length) : Fr c.n a (envOf l (valOf l a) is ++ env) := by
 refine ⟨m.fr.size, m.fr.dn, fun i v hi => ?_⟩
 rcases lk_append hi with h | h
 · obtain ⟨k, hk, hd, hv⟩ := lk_envOf h
   simp only [valOf, hd] at hv
   have hkl := hl k hk
   have hlt : i < c.n := by
    have := List.all_eq_true.1 hsz (l[k]) (List.getElem_mem hkl)
    have hd' : (l[k]).dst = some i := by simpa [dstOf, List.getElem?_eq_getElem hkl] using hd
    rw [hd'] at this
    exact lt_blt this
   have : i < a.tmps.size := by rw [m.fr.size]; exact hlt
   rw [← hv]
   simp [this, slotV, hd]
 · exact m.fr.at_ _ _ h.2
theorem chain_lt : ∀ {effs : List Nat}, ckChain l effs = true → ∀ (e e' x y : Nat), effs[e]? = some x → effs[e']? = some y → e < e' → x < y
 | [], _, e, e', x, y, h, _, _ => by simp at h
 | [z], _, e, e', x, y, h, h', hl => by
  have : e' = 0 := by
   have := (List.getElem?_eq_some_iff.1 h').1
   simp at this
   omega
  omega
 | z :: u :: r, hc, e, e', x, y, h, h', hl => by
  simp only [ckChain, Bool.and_eq_true, decide_eq_true_eq] at hc
  cases e' with
  | zero => omega
  | succ e' =>
   simp only [List.getElem?_cons_succ] at h'
   cases e with
   | succ e =>
    simp only [List.getElem?_cons_succ] at h
    exact chain_lt hc.2 e e' x y h h' (by omega)
   | zero =>
    simp at h
    subst h
    cases e' with
    | zero => simp at h'; subst h'; exact hc.1.2
    | succ e' =>
     have := chain_lt hc.2 0 (e' + 1) u y rfl h' (by omega)
     omega
theorem chain_edge : ∀ {effs : List Nat}, ckChain l effs = true → ∀ (e x y : Nat), effs[e]? = some x → effs[e + 1]? = some y → edge l x y = true
 | [], _, e, x, y, h, _ => by simp at h
 | [z], _, e, x, y, _, h' => by simp at h'
 | z :: u :: r, hc, e, x, y, h, h' => by
  simp only [ckChain, Bool.and_eq_true, decide_eq_true_eq] at hc
  cases e with
  | zero => simp at h h'; subst h h'; exact hc.1.1
  | succ e =>
   simp only [List.getElem?_cons_succ] at h h'
   exact chain_edge hc.2 e x y h h'
theorem edge_mem {k i : Nat} {o : Oper} (ho : l[i]? = some o) : edge l k i = true ↔ ∃ e ∈ o.after, Region.binds .any e = true ∧ e.on = k := by
 simp only [edge, ho, List.any_eq_true, Bool.and_eq_true, beq_iff_eq]
 constructor
 · rintro ⟨e, he, h1, h2⟩; exact ⟨e, Array.mem_toList_iff.1 he, h1, h2⟩
 · rintro ⟨e, he, h1, h2⟩; exact ⟨e, Array.mem_toList_iff.2 he, h1, h2⟩
theorem AllP.intro {α : Type} {q : α → Prop} : ∀ {l : List α}, (∀ x ∈ l, q x) → AllP q l
 | [], _ => trivial
 | y :: r, h => ⟨h y (by simp), AllP.intro fun x hx => h x (by simp [hx])⟩
theorem of_at {V : Nat → Value} {k : Nat} {t : Atom} : ∀ {is : List Nat}, k ∈ is → t ∈ s.at_ k (V k) → t ∈ atsOf s V is
 | y :: r, hk, ht => by
  rcases List.mem_cons.1 hk with rfl | hk
  · exact List.mem_append.2 (.inl ht)
  · exact List.mem_append.2 (.inr (of_at hk ht))
theorem getD_true_false {listed : Array Bool} {i : Nat} (h : i < listed.size) : listed.getD i true = listed.getD i false := by simp [h]
theorem getD_set {listed : Array Bool} {i k : Nat} (hi : i < listed.size) : (listed.setIfInBounds i true).getD k false = (i == k || listed.getD k false) := by
 by_cases h : i = k
 · subst h; simp [hi]
 · have : (i == k) = false := by simpa using h
   simp [Array.getElem?_setIfInBounds_ne h, this]
theorem Mid.step (h1 : ckDeps l s.deps = true) (h2 : ckDst l env = true) (h4 : ckChain l s.effs = true) (hsz : ckSize l c.n = true) (hO : Obl c l s env D l 0)
 {listed : Array Bool} {a : Act} {w : World} {j i : Nat} (m : Mid c l s env D listed a w j) (hr : i ∈ Region.ready .any l.toArray listed) {K : Act → World → Prop}
 (hK : ∀ a' w' j', Mid c l s env D (listed.setIfInBounds i true) a' w' j' → K a' w') : wpOp c.P l.toArray Q i K a w := by
 obtain ⟨hun, o, ho, hall⟩ := mem_ready.1 hr
 have ho : l[i]? = some o := by simpa using ho
 have hil : i < l.length := (List.getElem?_eq_some_iff.1 ho).1
 have his : i < listed.size := by rw [m.size]; exact hil
 have hun' : listed.getD i false = false := by rw [← getD_true_false his]; exact hun
 have hed : ∀ k, edge l k i = true → listed.getD k false = true := by
  intro k hk
  obtain ⟨e, he, hb, rfl⟩ := (edge_mem ho).1 hk
  exact hall e he hb
 have hphase : j ∈ phases l s.effs i := by
  refine List.mem_filter.2 ⟨List.mem_range.2 (by have := m.le; omega), List.all_eq_true.2 fun e _ => ?_⟩
  split
  · rfl
  · rename_i x hx
    simp only [Bool.and_eq_true, Bool.or_eq_true, Bool.not_eq_true', beq_iff_eq, beq_eq_false_iff_ne]
    refine ⟨⟨?_, ?_⟩, ?_⟩
    · by_cases hxi : x = i
      · right
        subst hxi
        have hj : ¬ e < j := fun h => by
         have := (m.done e x hx).2 h
         rw [this] at hun'; cases hun'
        cases e with
        | zero => omega
        | succ e =>
         have hlt : e < s.effs.length := by have := (List.getElem?_eq_some_iff.1 hx).1; omega
         have hy : s.effs[e]? = some s.effs[e] := List.getElem?_eq_getElem hlt
         have := (m.done e _ hy).1 (hed _ (chain_edge h4 e _ x hy hx))
         omega
      · exact .inl hxi
    · by_cases h : edge l i x = true
      · right
        refine Nat.ble_eq_true_of_le<|Nat.le_of_not_lt fun hlt => ?_
        have := m.closed x i ((m.done e x hx).2 hlt) h
        rw [this] at hun'; cases hun'
      · left; simpa using h
    · by_cases h : edge l x i = true
      · right
        exact Nat.ble_eq_true_of_le ((m.done e x hx).1 (hed x h))
      · left; simpa using h
 have hdep : ∀ k ∈ s.deps i, edge l k i = true ∧ (dstOf l k).isSome = true := by
  intro k hk
  have := List.all_eq_true.1 (List.all_eq_true.1 h1 i (List.mem_range.2 hil)) k hk
  simpa using this
 have hdlt : ∀ k, (dstOf l k).isSome = true → k < l.length := by
  intro k hk
  rcases Nat.lt_or_ge k l.length with h | h
  · exact h
  · simp [dstOf, List.getElem?_eq_none h] at hk
 have hok : AllP (fun k => s.ok k (valOf l a k)) (s.deps i) := AllP.intro fun k hk => by
  obtain ⟨d, hd⟩ := Option.isSome_iff_exists.1 (hdep k hk).2
  have := (m.slot k d (hed k (hdep k hk).1) hd).1
  simpa [valOf, slotV, hd] using this
 let J := (List.range l.length).filter fun k => listed.getD k false && (dstOf l k).isSome
 have hJ : ∀ k, k ∈ J ↔ listed.getD k false = true ∧ (dstOf l k).isSome = true := by
  intro k
  simp only [J, List.mem_filter, List.mem_range, Bool.and_eq_true]
  exact ⟨fun h => h.2, fun h => ⟨hdlt k h.2, h⟩⟩
 have hatJ : ∀ k, k ∈ J → DH (s.at_ k (valOf l a k)) w (s.L (pre s (valOf l a) j)) := by
  intro k hk
  obtain ⟨hk1, hk2⟩ := (hJ k).1 hk
  obtain ⟨d, hd⟩ := Option.isSome_iff_exists.1 hk2
  have := (m.slot k d hk1 hd).2
  simpa [valOf, slotV, hd] using this
 have hwl := (hO.at_ i o ho (valOf l a) (atsOf s (valOf l a) J) (by rw [Nat.zero_add]; exact hok))
 rw [Nat.zero_add] at hwl
 have hwl := hwl.mem j hphase a w (m.frame hsz fun k hk => hdlt k (hdep k hk).2) m.st (DH.app (fun t ht => by
  obtain ⟨k, hk, ht⟩ := mem_atsOf ht
  exact hatJ k ((hJ k).2 ⟨hed k (hdep k hk).1, (hdep k hk).2⟩) t ht) (DH.app m.dh (fun t ht => by
  obtain ⟨k, hk, ht⟩ := mem_atsOf ht
  exact hatJ k hk t ht)))
 have hno : ¬ LetsOut (opPost c l s (D ++ atsOf s (valOf l a) J) i (pre s (valOf l a) j)) := by
  rintro ⟨a', w', h⟩; cases h.1
 -- what is left once it is done
 have hfin : ∀ a' w', (∃ u, a' = a.put o.dst u) → opPost c l s (D ++ atsOf s (valOf l a) J) i (pre s (valOf l a) j) .normal a' w' → K a' w' := by
  rintro a' w' ⟨u, rfl⟩ ⟨_, _, hst', hdh', hslot'⟩
  have hdsts : ∀ d, o.dst = some d → keyIn env d = false ∧ ∀ k, k ≠ i → dstOf l k ≠ some d := by
   intro d hd
   have hdi : dstOf l i = some d := by simp [dstOf, ho, hd]
   have := List.all_eq_true.1 h2 i (List.mem_range.2 hil)
   rw [hdi] at this
   simp only [Bool.and_eq_true, Bool.not_eq_true'] at this
   refine ⟨this.1, fun k hk e => ?_⟩
   have hkl := hdlt k (by rw [e]; rfl)
   have := List.all_eq_true.1 this.2 k (List.mem_range.2 hkl)
   simp [e, Ne.symm hk] at this
  have hvk : ∀ k, k ≠ i → valOf l (a.put o.dst u) k = valOf l a k := by
   intro k hk
   simp only [valOf, slotV]
   cases hdk : dstOf l k with
   | none => rfl
   | some d =>
    cases hd : o.dst with
    | none => rfl
    | some d0 =>
     have hne : d0 ≠ d := by
      rintro rfl
      exact (hdsts d0 hd).2 k hk hdk
     simp [Act.put, Array.getElem?_setIfInBounds_ne hne]
  have hLn : s.L (pre s (valOf l (a.put o.dst u)) (nextJ s i j)) = nextL s (pre s (valOf l a) j) i (slotV l (a.put o.dst u) i) := by
   unfold nextL nextJ
   have hpre : ∀ m, (∀ x ∈ s.effs.take m, x ≠ i) → pre s (valOf l (a.put o.dst u)) m = pre s (valOf l a) m := fun m hm => List.map_congr_left fun x hx => hvk x (hm x hx)
   by_cases hc : s.effs.contains i = true
   · rw [if_pos hc, if_pos hc]
     have hie : i ∈ s.effs := by simpa using hc
     obtain ⟨e0, he0⟩ := List.getElem?_of_mem hie
     have hj0 : j = e0 := by
      have := List.all_eq_true.1 (List.mem_filter.1 hphase).2 e0 (List.mem_range.2 (List.getElem?_eq_some_iff.1 he0).1)
      rw [he0] at this
      simp at this
      exact this.1.1
     subst hj0
     have e1 : pre s (valOf l (a.put o.dst u)) (j + 1) = pre s (valOf l (a.put o.dst u)) j ++ [valOf l (a.put o.dst u) i] := by
      simp [pre, List.take_add_one, he0]
     rw [e1, hpre j fun x hx hxi => ?_]
     · rfl
     · subst hxi
       obtain ⟨e1, he1⟩ := List.getElem?_of_mem hx
       rw [List.getElem?_take] at he1
       split at he1
       · rename_i hlt
         have := chain_lt h4 e1 j x x he1 he0 hlt
         omega
       · cases he1
   · rw [if_neg hc, if_neg hc, hpre j fun x hx hxi => ?_]
     subst hxi
     exact hc (by simpa using List.mem_of_mem_take hx)
  rw [← hLn] at hst' hdh' hslot'
  refine hK _ _ (nextJ s i j) ⟨?_, hst', fun t ht => hdh' t (List.mem_append.2 (.inl ht)), by simp [m.size], ?_, ?_, ?_, ?_⟩
  · cases hd : o.dst with
    | none => exact m.fr
    | some d =>
     have hdn : d < c.n := by
      have := List.all_eq_true.1 hsz o (List.mem_of_getElem? ho)
      rw [hd] at this
      exact lt_blt this
     have f := m.fr.put u hdn
     refine ⟨f.size, f.dn, fun k v hk => f.at_ k v ?_⟩
     have hne : d ≠ k := by
      rintro rfl
      have := keyIn_of_lk hk
      rw [(hdsts d hd).1] at this; cases this
     have : (d == k) = false := by simpa using hne
     simp only [lk, this, cond_false]
     exact hk
  · intro i' k hi' hk
    rw [getD_set his] at hi' ⊢
    simp only [Bool.or_eq_true, beq_iff_eq] at hi' ⊢
    rcases hi' with rfl | hi'
    · exact .inr (hed k hk)
    · exact .inr (m.closed i' k hi' hk)
  · intro i' d hi' hd'
    rw [getD_set his] at hi'
    simp only [Bool.or_eq_true, beq_iff_eq] at hi'
    by_cases hii : i = i'
    · subst hii
      exact hslot' d hd'
    · have hi' : listed.getD i' false = true := by
       rcases hi' with h | h
       · exact absurd h hii
       · exact h
      have hval : (a.put o.dst u).tmps.getD d undef = a.tmps.getD d undef := by
       cases hd : o.dst with
       | none => rfl
       | some d0 =>
        have hne : d0 ≠ d := by
         rintro rfl
         exact (hdsts d0 hd).2 i' (Ne.symm hii) hd'
        simp [Act.put, Array.getElem?_setIfInBounds_ne hne]
      rw [hval]
      refine ⟨(m.slot i' d hi' hd').1, fun t ht => hdh' t (List.mem_append.2 (.inr (of_at (k := i') ((hJ i').2 ⟨hi', by rw [hd']; rfl⟩) ?_)))⟩
      simpa [valOf, slotV, hd'] using ht
  · intro e x hx
    rw [getD_set his]
    simp only [Bool.or_eq_true, beq_iff_eq, nextJ]
    by_cases hie : i ∈ s.effs
    · obtain ⟨e0, he0⟩ := List.getElem?_of_mem hie
      have hj0 : j = e0 := by
       have := List.all_eq_true.1 (List.mem_filter.1 hphase).2 e0 (List.mem_range.2 (List.getElem?_eq_some_iff.1 he0).1)
       rw [he0] at this
       simp at this
       exact this.1.1
      subst hj0
      have hc : s.effs.contains i = true := by simpa using hie
      rw [if_pos hc]
      by_cases hix : i = x
      · subst hix
        have hee : e = j := by
         rcases Nat.lt_trichotomy e j with h | h | h
         · have := chain_lt h4 e j i i hx he0 h; omega
         · exact h
         · have := chain_lt h4 j e i i he0 hx h; omega
        simp only [true_or, true_iff]; omega
      · have hej : e ≠ j := by
         rintro rfl
         rw [he0] at hx
         injection hx with hx
         exact hix hx
        rw [m.done e x hx]
        constructor
        · rintro (h | h)
          · exact absurd h hix
          · omega
        · intro h; right; omega
    · have hc : s.effs.contains i = false := by simpa using hie
      rw [hc]
      simp only [Bool.false_eq_true, if_false]
      have hix : ¬ i = x := by rintro rfl; exact hie (List.mem_of_getElem? hx)
      rw [m.done e x hx]
      simp [hix]
  · simp only [nextJ]
    split
    · rename_i hc
      have hie : i ∈ s.effs := by simpa using hc
      obtain ⟨e0, he0⟩ := List.getElem?_of_mem hie
      have := List.all_eq_true.1 (List.mem_filter.1 hphase).2 e0 (List.mem_range.2 (List.getElem?_eq_some_iff.1 he0).1)
      rw [he0] at this
      simp at this
      have := (List.getElem?_eq_some_iff.1 he0).1
      omega
    · exact m.le
 unfold wpOp
 have ho' : l.toArray[i]? = some o := by simpa using ho
 simp only [ho']
 unfold wpList at hwl
 by_cases hw : Region.wanted o (yielded l.toArray a.tmps) = true
 · rw [if_pos hw] at hwl ⊢
   refine .inl (upon_up (Q := opPost c l s (D ++ atsOf s (valOf l a) J) i (pre s (valOf l a) j)) (fun _ _ _ h => by cases h.1) hno ?_)
   rcases hwl with h | h
   · -- the frame behind it is the one before, with a value put
     have key : ∀ {r : Result Next}, o.upon c.P a (opPost c l s (D ++ atsOf s (valOf l a) J) i (pre s (valOf l a) j) .normal) (opPost c l s (D ++ atsOf s (valOf l a) J) i (pre s (valOf l a) j)) r → o.upon c.P a K (opPost c l s (D ++ atsOf s (valOf l a) J) i (pre s (valOf l a) j)) r := by
      intro r h
      cases r with
      | ok n w' =>
       cases n <;> simp only [Oper.upon] at h ⊢ <;> try exact h
       · exact hfin _ _ ⟨_, rfl⟩ h
       · exact hfin _ _ ⟨_, rfl⟩ h
       · exact Calls.mono h fun e w'' he => by
          cases e with
          | returned v => exact hfin _ _ ⟨_, rfl⟩ he
          | panicked ch => exact he
          | outgrown => exact he
       · have hd := h.2.1
         cases hdst : o.dst <;> simp [hdst, Act.put] at hd
       · exact Rows.mono h fun _ _ he => hfin _ _ ⟨_, rfl⟩ he
      | halt x w' => cases x <;> simp only [Oper.upon] at h ⊢ <;> exact h
     exact key h
   · exact absurd h.2 hno
 · rw [if_neg hw] at hwl ⊢
   exact hfin _ _ ⟨undef, rfl⟩ hwl
theorem countP_lt {α : Type} {p q : α → Bool} : ∀ {L : List α}, (∀ x ∈ L, q x = true → p x = true) → (∃ x ∈ L, p x = true ∧ q x = false) → L.countP q < L.countP p
 | [], _, h => by obtain ⟨x, hx, _⟩ := h; cases hx
 | y :: r, h, hx => by
  have hle : r.countP q ≤ r.countP p := List.countP_mono_left fun x hx => h x (by simp [hx])
  by_cases hy : p y = true ∧ q y = false
  · rw [List.countP_cons_of_pos hy.1, List.countP_cons_of_neg (by simp [hy.2])]
    omega
  · obtain ⟨x, hx, hp, hq⟩ := hx
    have hxr : x ∈ r := by
     rcases List.mem_cons.1 hx with rfl | hx
     · exact absurd ⟨hp, hq⟩ hy
     · exact hx
    have ih := countP_lt (fun x hx => h x (by simp [hx])) ⟨x, hxr, hp, hq⟩
    by_cases hq : q y = true
    · rw [List.countP_cons_of_pos hq, List.countP_cons_of_pos (h y (by simp) hq)]
      omega
    · rw [List.countP_cons_of_neg hq]
      by_cases hp : p y = true
      · rw [List.countP_cons_of_pos hp]; omega
      · rw [List.countP_cons_of_neg hp]; exact ih
theorem chain_in : ∀ {effs : List Nat}, ckChain l effs = true → ∀ (e x : Nat), effs[e]? = some x → x < l.length
 | [], _, e, x, h => by simp at h
 | [z], hc, e, x, h => by
  have : e = 0 := by
   have := (List.getElem?_eq_some_iff.1 h).1
   simp at this; omega
  subst this
  simp at h
  subst h
  simpa [ckChain] using hc
 | z :: u :: r, hc, e, x, h => by
  simp only [ckChain, Bool.and_eq_true, decide_eq_true_eq] at hc
  cases e with
  | succ e =>
   simp only [List.getElem?_cons_succ] at h
   exact chain_in hc.2 e x h
  | zero =>
   simp at h
   subst h
   have := chain_in hc.2 0 u rfl
   omega
theorem getD_rep (m j : Nat) : (Array.replicate m false).getD j false = false := by
 rcases Nat.lt_or_ge j m with h | h
 · simp [h]
 · simp [h]
theorem Mid.all (h1 : ckDeps l s.deps = true) (h2 : ckDst l env = true) (h4 : ckChain l s.effs = true) (h5 : ckBack l = true) (hsz : ckSize l c.n = true) (hO : Obl c l s env D l 0)
 (hK : ∀ a w, (∀ k, k < l.length → True) → Mid c l s env D (Array.replicate l.length true) a w s.effs.length → Q .normal a w) :
 ∀ (fuel : Nat) (listed : Array Bool) (a : Act) (w : World) (j : Nat), Mid c l s env D listed a w j → (List.range l.length).countP (fun i => !listed.getD i false) ≤ fuel → wpAny c.P .any l.toArray Q fuel listed a w := by
 have hfin : ∀ (listed : Array Bool) (a : Act) (w : World) (j : Nat), Mid c l s env D listed a w j → Region.ready .any l.toArray listed = [] → Q .normal a w := by
  intro listed a w j m hr
  have hall : ∀ i, i < l.length → listed.getD i false = true := by
   intro i
   induction i using Nat.strongRecOn with
   | _ i ih =>
    intro hi
    cases hli : listed.getD i false with
    | true => rfl
    | false =>
     exfalso
     have : i ∈ Region.ready .any l.toArray listed := by
      refine mem_ready.2 ⟨by rw [getD_true_false (by rw [m.size]; exact hi)]; exact hli, l[i], by simp [List.getElem?_eq_getElem hi], fun e he hb => ?_⟩
      have hbk := List.all_eq_true.1 h5 i (List.mem_range.2 hi)
      rw [List.getElem?_eq_getElem hi] at hbk
      have := List.all_eq_true.1 hbk e (Array.mem_toList_iff.2 he)
      rw [hb] at this
      have hlt := lt_blt (by simpa using this)
      exact ih e.on hlt (by omega)
     rw [hr] at this
     cases this
  have heq : listed = Array.replicate l.length true := by
   apply Array.ext
   · simp [m.size]
   · intro i h1 h2
     have := hall i (by rw [m.size] at h1; exact h1)
     simp [h1] at this
     simp [this]
  have hj : j = s.effs.length := by
   rcases Nat.lt_or_ge j s.effs.length with h | h
   · have hx : s.effs[j]? = some s.effs[j] := List.getElem?_eq_getElem h
     have hlt : s.effs[j] < l.length := by
      rcases Nat.lt_or_ge s.effs[j] l.length with h' | h'
      · exact h'
      · exfalso
        have := chain_in h4 j _ hx
        omega
     have := (m.done j _ hx).1 (hall _ hlt)
     omega
   · have := m.le; omega
  subst heq hj
  exact hK a w (fun _ _ => trivial) m
 intro fuel
 induction fuel with
 | zero =>
  intro listed a w j m hc
  have hr : Region.ready .any l.toArray listed = [] := by
   apply List.eq_nil_iff_forall_not_mem.2
   intro i hi
   obtain ⟨hun, o, ho, _⟩ := mem_ready.1 hi
   have hil : i < l.length := by
    have := (Array.getElem?_eq_some_iff.1 ho).1
    simpa using this
   have hun' : listed.getD i false = false := by rw [← getD_true_false (by rw [m.size]; exact hil)]; exact hun
   have h0 : (List.range l.length).countP (fun i => !listed.getD i false) = 0 := by omega
   have := List.countP_eq_zero.1 h0 i (List.mem_range.2 hil)
   simp [hun'] at this
  exact ⟨hr, hfin _ _ _ _ m hr⟩
 | succ fuel ih =>
  intro listed a w j m hc
  refine ⟨fun hr => hfin _ _ _ _ m hr, fun i hi => ?_⟩
  refine m.step h1 h2 h4 hsz hO hi fun a' w' j' m' => ih _ a' w' j' m' ?_
  obtain ⟨hun, o, ho, _⟩ := mem_ready.1 hi
  have hil : i < l.length := by
   have := (Array.getElem?_eq_some_iff.1 ho).1
   simpa using this
  have his : i < listed.size := by rw [m.size]; exact hil
  have hun' : listed.getD i false = false := by rw [← getD_true_false his]; exact hun
  have : (List.range l.length).countP (fun k => !(listed.setIfInBounds i true).getD k false) < (List.range l.length).countP (fun k => !listed.getD k false) := by
   refine countP_lt (fun k _ hk => ?_) ⟨i, List.mem_range.2 hil, by rw [hun']; rfl, ?_⟩
   · rw [getD_set his] at hk
     simp only [Bool.not_eq_true', Bool.or_eq_false_iff] at hk
     rw [hk.2]; rfl
   · rw [getD_set his]; simp
  omega
def rgOk (l : List Oper) (env : Env) (s : RS) (n : Nat) : Bool := ckDeps l s.deps && ckDst l env && ckChain l s.effs && ckBack l && ckSize l n
theorem rgD {id : Nat} (s : RS) (hm : c.P.follows .mixedOrders = true) (hok : rgOk l env s c.n = true) {L : Own} (hL : s.L [] = L) (hO : Obl c l s env D l 0)
 (k : ∀ V : Nat → Value, AllP (fun i => (dstOf l i).isSome = true → s.ok i (V i)) (List.range l.length) → WQ c Q .normal (envOf l V (List.range l.length) ++ env) (s.L (s.effs.map V)) (atsOf s V ((List.range l.length).filter fun i => (dstOf l i).isSome) ++ D)) : WC c (.region id l.toArray true) Q env L D := by
 intro a w f st dh
 simp only [rgOk, Bool.and_eq_true] at hok
 obtain ⟨⟨⟨⟨h1, h2⟩, h4⟩, h5⟩, hsz⟩ := hok
 subst hL
 refine wp_region_any hm ?_
 have hs := Stp.drew [] w
 have m0 : Mid c l s env D (Array.replicate l.length false) a w.drew 0 := by
  refine ⟨f, st.step hs, dh.step hs.nil, by simp, fun i k h _ => ?_, fun i d h _ => ?_, fun e x _ => ?_, Nat.zero_le _⟩
  · rw [getD_rep] at h; cases h
  · rw [getD_rep] at h; cases h
  · rw [getD_rep]; simp
 have := Mid.all (Q := Q) h1 h2 h4 h5 hsz hO ?_ l.length (Array.replicate l.length false) a w.drew 0 m0 (by
  have := List.countP_le_length (p := fun i => !(Array.replicate l.length false).getD i false) (l := List.range l.length)
  simpa using this)
 · simpa using this
 · intro a' w' _ m
   have hin : ∀ i, (dstOf l i).isSome = true → (Array.replicate l.length true).getD i false = true := by
    intro i hi
    have : i < l.length := by
     rcases Nat.lt_or_ge i l.length with h | h
     · exact h
     · simp [dstOf, List.getElem?_eq_none h] at hi
    simp [this]
   have hst := m.st
   have hdh := m.dh
   have hsl := m.slot
   have hp : pre s (valOf l a') s.effs.length = s.effs.map (valOf l a') := by simp [pre]
   rw [hp] at hst hdh hsl
   refine k (valOf l a') (AllP.intro fun i hi hd => ?_) a' w' (m.frame hsz fun k hk => List.mem_range.1 hk) hst (DH.app (fun t ht => ?_) hdh)
   · obtain ⟨d, hd⟩ := Option.isSome_iff_exists.1 hd
     have := (hsl i d (hin i (by rw [hd]; rfl)) hd).1
     simpa [valOf, slotV, hd] using this
   · obtain ⟨i, hi, ht⟩ := mem_atsOf ht
     have hd := (List.mem_filter.1 hi).2
     obtain ⟨d, hd⟩ := Option.isSome_iff_exists.1 hd
     have := (hsl i d (hin i (by rw [hd]; rfl)) hd).2
     simp only [valOf, slotV, hd] at ht
     exact this t ht
theorem od {i : Nat} {vs : List Value} {env' : Env} {L' : Own} {D' De : List Atom} {d : Nat} {u : Value} (hd : dstOf l i = some d) (hv : lk env' d = some u) (hL : L' = nextL s vs i u) (hok : s.ok i u) (hat : SubD (s.at_ i u) D') (hD : SubD De D') :
 WQ c (opPost c l s De i vs) .normal env' L' D' := by
 intro a w f st dh
 have e : a.tmps.getD d undef = u := by
  have := f.at_ d u hv
  simp [this]
 have e2 : slotV l a i = u := by simp only [slotV, hd, e]
 subst hL
 refine ⟨rfl, f.dn, by rw [e2]; exact st, by rw [e2]; exact dh.sub hD, fun d' hd' => ?_⟩
 rw [hd] at hd'
 injection hd' with hd'
 subst hd'
 rw [e, e2]
 exact ⟨hok, dh.sub hat⟩
theorem od0 {i : Nat} {vs : List Value} {env' : Env} {L' : Own} {D' De : List Atom} (hd : dstOf l i = none) (hL : L' = nextL s vs i undef) (hD : SubD De D') :
 WQ c (opPost c l s De i vs) .normal env' L' D' := by
 intro a w f st dh
 have e2 : slotV l a i = undef := by simp only [slotV, hd]
 subst hL
 refine ⟨rfl, f.dn, by rw [e2]; exact st, by rw [e2]; exact dh.sub hD, fun d' hd' => ?_⟩
 rw [hd] at hd'
 cases hd'
end
end
section
def VV (vals : Nat → Option Value) (V : Nat → Value) (i : Nat) : Value := (vals i).getD (V i)
@[reducible] def sV (s : RS) (vals : Nat → Option Value) : RS := { s with ok := fun i u => match vals i with
 | some v => u = v
 | none => s.ok i u }
def OblV (c : Cx) (l : List Oper) (s : RS) (vals : Nat → Option Value) (env : Env) (D : List Atom) : List Oper → Nat → Prop
 | [], _ => True
 | o :: r, i => (∀ (V : Nat → Value) (De : List Atom), AllP (fun k => vals k = none → s.ok k (V k)) (s.deps i) →
  AllP (fun j => WL (opPost c l (sV s vals) (D ++ De) i (pre s V j)) c l.toArray [o] (envOf l (VV vals V) (s.deps i) ++ env) (s.L (pre s V j)) (atsOf s (VV vals V) (s.deps i) ++ (D ++ De))) (phases l s.effs i)) ∧ OblV c l s vals env D r (i + 1)
theorem AllP.imp {α : Type} {q q' : α → Prop} : ∀ {l : List α}, AllP q l → (∀ x ∈ l, q x → q' x) → AllP q' l
 | [], _, _ => trivial
 | x :: r, h, hi => ⟨hi x (List.mem_cons_self ..) h.1, AllP.imp h.2 fun y hy => hi y (List.mem_cons_of_mem _ hy)⟩
theorem envOf_congr {l : List Oper} {V V' : Nat → Value} : ∀ {ks : List Nat}, (∀ k ∈ ks, (dstOf l k).isSome = true → V k = V' k) → envOf l V ks = envOf l V' ks
 | [], _ => rfl
 | k :: r, h => by
  have ih := envOf_congr (ks := r) fun x hx => h x (List.mem_cons_of_mem _ hx)
  have hk := h k (List.mem_cons_self ..)
  simp only [envOf]
  cases hd : dstOf l k with
  | none => exact ih
  | some d => rw [hd] at hk; simp only; rw [ih, hk rfl]
theorem atsOf_congr {s : RS} {V V' : Nat → Value} : ∀ {ks : List Nat}, (∀ k ∈ ks, V k = V' k) → atsOf s V ks = atsOf s V' ks
 | [], _ => rfl
 | k :: r, h => by
  simp only [atsOf]
  rw [h k (List.mem_cons_self ..), atsOf_congr fun x hx => h x (List.mem_cons_of_mem _ hx)]
theorem VV_of {s : RS} {vals : Nat → Option Value} {V : Nat → Value} {k : Nat} (h : (sV s vals).ok k (V k)) : V k = VV vals V k := by
 unfold VV
 simp only [sV] at h
 split at h
 · rename_i v hv; rw [hv]; exact h
 · rename_i hv; rw [hv]; rfl
theorem ok_of {s : RS} {vals : Nat → Option Value} {V : Nat → Value} {k : Nat} (h : (sV s vals).ok k (V k)) (hn : vals k = none) : s.ok k (V k) := by
 simp only [sV, hn] at h
 exact h
section
variable {c : Cx} {l : List Oper} {s : RS} {vals : Nat → Option Value} {env : Env} {D : List Atom} {Q : Exit → Act → World → Prop}
theorem OblV.to : ∀ {r : List Oper} {i : Nat}, OblV c l s vals env D r i → Obl c l (sV s vals) env D r i
 | [], _, _ => trivial
 | o :: r, i, h => ⟨fun V De hV => by
  have h1 := h.1 V De (hV.imp fun k _ hk => fun hn => ok_of hk hn)
  have e : ∀ k ∈ s.deps i, V k = VV vals V k := fun k hk => VV_of (hV.mem k hk)
  have e1 : envOf l V (s.deps i) = envOf l (VV vals V) (s.deps i) := envOf_congr fun k hk _ => e k hk
  have e2 : atsOf (sV s vals) V (s.deps i) = atsOf s (VV vals V) (s.deps i) := (atsOf_congr e).trans (by
   generalize s.deps i = ks
   induction ks with
   | nil => rfl
   | cons k r ih => simp only [atsOf, ih])
  rw [show (sV s vals).deps i = s.deps i from rfl, e1, e2]
  exact h1, OblV.to h.2⟩
theorem rgV {id : Nat} (s : RS) (vals : Nat → Option Value) (hm : c.P.follows .mixedOrders = true) (hok : rgOk l env s c.n = true) {L : Own} (hL : s.L [] = L) (hO : OblV c l s vals env D l 0)
 (k : ∀ V : Nat → Value, AllP (fun i => (dstOf l i).isSome = true → vals i = none → s.ok i (V i)) (List.range l.length) → WQ c Q .normal (envOf l (VV vals V) (List.range l.length) ++ env) (s.L (s.effs.map V)) (atsOf s (VV vals V) ((List.range l.length).filter fun i => (dstOf l i).isSome) ++ D)) : WC c (.region id l.toArray true) Q env L D := by
 refine rgD (sV s vals) hm hok hL hO.to fun V hV => ?_
 have h := k V (hV.imp fun i _ hi hd hn => ok_of (hi hd) hn)
 have e : ∀ k ∈ List.range l.length, (dstOf l k).isSome = true → V k = VV vals V k := fun k hk hd => VV_of (hV.mem k hk hd)
 have e1 : envOf l V (List.range l.length) = envOf l (VV vals V) (List.range l.length) := envOf_congr e
 have e2 : atsOf (sV s vals) V ((List.range l.length).filter fun i => (dstOf l i).isSome) = atsOf s (VV vals V) ((List.range l.length).filter fun i => (dstOf l i).isSome) := by
  refine (atsOf_congr fun k hk => e k (List.mem_filter.1 hk).1 (by simpa using (List.mem_filter.1 hk).2)).trans ?_
  generalize (List.range l.length).filter _ = ks
  induction ks with
  | nil => rfl
  | cons k r ih => simp only [atsOf, ih]
 rw [e1, e2]
 exact h
end
section
variable {c : Cx} {ops : Array Oper} {Q : Exit → Act → World → Prop} {env : Env} {L : Own} {D : List Atom} {rest : List Oper} {d : Nat} {v : Value} {t : TypeId} {p : String} {af : Array Edge}
theorem cfq {f : FuncId} {vs : List Value} {As : List Atom} {v : Value} (h : FnV c.P f vs As v) (hok : FnOk c.P f) {xs : List Operand} {ats : Array TypeId}
 (hxs : evs env xs = some vs) (hA : SubD As D) (hn : Nat.blt d c.n = true) (k : WLQ Q c ops rest ((d, v) :: env) L D) :
 WLQ Q c ops (⟨some d, .call { callee := .value (.func f), args := xs.toArray, argTypes := ats }, t, p, af, none⟩ :: rest) env L D := by
 intro a w fr st dh
 unfold wpQuiet
 rw [if_pos (show Region.wanted ⟨some d, .call { callee := .value (.func f), args := xs.toArray, argTypes := ats }, t, p, af, none⟩ (yielded ops a.tmps) = true from rfl)]
 refine ⟨v, fun w' hw' => ?_, k _ w (fr.put v (lt_blt hn)) st dh⟩
 have hrun := run_call (P := c.P) (ρ := a.eval) (o := ⟨some d, .call { callee := .value (.func f), args := xs.toArray, argTypes := ats }, t, p, af, none⟩) (x := .func f) (xs := xs) (ats := ats) (f := f) (first := #[]) (cap := #[]) (vs := vs) rfl rfl (fr.evs hxs) hok w'
 simp only [List.nil_append, List.append_nil, Array.toList_empty] at hrun
 unfold Oper.quietAt
 rw [hrun]
 refine ⟨rfl, ?_⟩
 have hc := h L.bs w' (by simpa [Own.bs, bsOf] using st.nd) (fun b hb => Nat.lt_of_lt_of_le (st.lt b hb) hw'.size) (by simp) (fun t ht => by
  have := (dh.step hw'.nil) t (hA t ht)
  simpa [Own.bs, bsOf] using this)
 refine Calls.mono hc fun e w'' ⟨u, he, hp⟩ => ?_
 obtain ⟨hs, y, hR, _⟩ := hp
 have hR' : u = v := hR
 subst hR'
 have hs' : Stp [] w' w'' := by simpa [Own.bs, bsOf] using hs
 exact ⟨he, hw'.trans hs'⟩
theorem oneCell_of_list {α : Type} [Rep α] {S : Nat → Prop} {w : World} {v : Value} {xs : List α} (h : Atom.holds ⟨v, xs⟩ S w) : v.oneCell' = true := by
 obtain ⟨ha, A, cc, hsv, _⟩ := h
 simp only at hsv ha
 rw [cells_of_not ha] at hsv
 have : v = .slice A xs.length cc := by simpa using hsv
 rw [this]; rfl
theorem list_len {α : Type} [Rep α] {S : Nat → Prop} {w : World} {v : Value} {xs : List α} (h : Atom.holds ⟨v, xs⟩ S w) : xs.length ≤ 9223372036854775807 := by
 obtain ⟨ha, A, cc, hsv, _, _, h3, _⟩ := h
 exact h3
theorem stL {α : Type} {r : Rep α} (i j : Nat) {b o : Nat} {T : TypeId} {cs : List Value} {x y : Operand} {u : Value} {xs : List α} (hx : ev env x = some (.pointer (some ⟨b, o, none⟩))) (hy : ev env y = some u) (hi : L[i]? = some (bl b T cs)) (hj : D[j]? = some (@Atom.mk (List α) (@repList α r) u xs)) {E : TypeId} (ht : OneTy c.P E) (ho : o < cs.length) (k : WL Q c ops rest env (L.set i (bl b T (cs.set o u))) D) :
 WL Q c ops (⟨none, .store E x y, t, p, af, none⟩ :: rest) env L D :=
 gtL (q := u.oneCell' = true) (fun _ _ h => oneCell_of_list (h _ (List.mem_of_getElem? hj))) fun hu => stB i hx hy hi ht hu ho k
theorem stR {α : Type} {r : Rep α} (i j : Nat) {b o : Nat} {T e : TypeId} {cs : List Value} {x y : Operand} {u : Value} {xs : List α} (hx : ev env x = some (.pointer (some ⟨b, o, none⟩))) (hy : ev env y = some u) (hi : L[i]? = some (bl b T cs)) (hj : L[j]? = some (@row α r e u xs)) {E : TypeId} (ht : OneTy c.P E) (ho : o < cs.length) (k : WL Q c ops rest env (L.set i (bl b T (cs.set o u))) D) :
 WL Q c ops (⟨none, .store E x y, t, p, af, none⟩ :: rest) env L D :=
 (isJ_WL Q).fact (q := u.oneCell' = true) (fun a w f st dh => by
  obtain ⟨css, hown, _⟩ := st.own _ (List.mem_of_getElem? hj)
  rcases hown.2 with ⟨rfl, _⟩ | ⟨g, cap, cur, rfl, _⟩ <;> rfl) fun hu => stB i hx hy hi ht hu ho k
theorem cfv {f : FuncId} {vs : List Value} {As : List Atom} {v : Value} (h : FnV c.P f vs As v) (hok : FnOk c.P f) {xs : List Operand} {ats : Array TypeId}
 (hxs : evs env xs = some vs) (hA : SubD As D) (hn : Nat.blt d c.n = true) (k : WL Q c ops rest ((d, v) :: env) L D) :
 WL Q c ops (⟨some d, .call { callee := .value (.func f), args := xs.toArray, argTypes := ats }, t, p, af, none⟩ :: rest) env L D :=
 cf h hok hxs hA hn fun _ u hu => by
  have hu : u = v := hu
  subst hu
  exact k
theorem lb {l : Nat} (h : WQ c Q .normal env L D) : WC c (.label l) Q env L D := fun a w f s d => wp_label (h a w f s d)
def LW (P : Program) (x : Code) (Q : Exit → Act → World → Prop) (a : Act) (w : World) : Prop :=
 ∀ (b : Frame) (k : List Item) (cs : List Frame), ∃ e a' w', Q e a' w' ∧ Arrives P (lone (b.at a (.code x :: .inLoop x :: k)) cs w) b k cs e a' w'
theorem asSl {α : Type} {r : Rep α} {J : Cx → Array Oper → List Oper → Env → Own → List Atom → Prop} [iJ : IsJ J] (j : Nat) {l : List Oper} {u : Value} {xs : List α} (hj : D[j]? = some (@Atom.mk (List α) (@repList α r) u xs)) (k : (∃ A cc, u = .slice A xs.length cc) → J c ops l env L D) : J c ops l env L D :=
 gtL (q := ∃ A cc, u = .slice A xs.length cc) (fun S w h => by
  obtain ⟨ha, A, cc, hsv, _⟩ := h _ (List.mem_of_getElem? hj)
  simp only at hsv ha
  rw [cells_of_not ha] at hsv
  exact ⟨A, cc, by simpa using hsv⟩) k
end
theorem nil_list {α : Type} {r : Rep α} (S : Nat → Prop) (w : World) : Atom.holds (@Atom.mk (List α) (@repList α r) (.slice none 0 0) []) S w :=
 ⟨rfl, show rdSlice S w _ _ from ⟨none, 0, rfl, Nat.le_refl _, by decide, Nat.zero_le _, fun h => absurd rfl h⟩⟩
@[reducible] def vr {α : Type} [r : Rep α] (b : Nat) (T : TypeId) (x : α) : OwnE where
 bs := [b]
 holds S w := ∃ u, w.heap[b]? = some (.cells #[u] T (0, 0)) ∧ Atom.holds ⟨u, x⟩ S w
 valid := by
  rintro S w ⟨u, h, _⟩ b' hb
  simp at hb; subst hb; exact lt_of_heap h
 keep := by
  rintro S S' w w' ⟨u, h, ha⟩ hs hw
  exact ⟨u, (hw b (.inr (by simp))).trans h, Atom.keep ha hs fun b hb => hw b (.inl hb)⟩
section
variable {c : Cx} {ops : Array Oper} {Q : Exit → Act → World → Prop} {env : Env} {L : Own} {D : List Atom} {rest : List Oper} {α : Type} {r : Rep α} {b : Nat} {T : TypeId} {x : α}
theorem bs_set_same {L : Own} {i : Nat} {p q : OwnE} (hi : L[i]? = some p) (hb : q.bs = p.bs) : Own.bs (L.set i q) = L.bs := by
 induction L generalizing i with
 | nil => simp at hi
 | cons y r ih =>
  cases i with
  | zero => simp at hi; subst hi; simp [Own.bs, bsOf, hb]
  | succ i => simp only [List.getElem?_cons_succ] at hi; have := ih hi; simp only [Own.bs, List.set_cons_succ, bsOf] at this ⊢; rw [this]
theorem St.swap {w0 w : World} {M : List Nat} {L : Own} {p q : OwnE} {i : Nat} (hi : L[i]? = some p) (st : St w0 M w L) (hb : q.bs = p.bs) (hq : q.holds (Sf L.bs w) w) : St w0 M w (L.set i q) := by
 have e := bs_set_same hi hb
 refine ⟨st.stp, fun y hy => ?_, by rw [e]; exact st.nd, by rw [e]; exact st.new⟩
 rw [e]
 rcases List.mem_or_eq_of_mem_set hy with h | h
 · exact st.own y h
 · subst h; exact hq
theorem DH.swap {w : World} {D : List Atom} {L : Own} {p q : OwnE} {i : Nat} (hi : L[i]? = some p) (dh : DH D w L) (hb : q.bs = p.bs) : DH D w (L.set i q) := by
 intro t ht
 rw [bs_set_same hi hb]
 exact dh t ht
theorem op_st (i : Nat) {w0 w : World} {M : List Nat} (hi : L[i]? = some (@vr α r b T x)) (st : St w0 M w L) (dh : DH D w L) : ∃ u, St w0 M w (L.set i (bl b T [u])) ∧ DH (⟨u, x⟩ :: D) w (L.set i (bl b T [u])) := by
 obtain ⟨u, h, ha⟩ := st.own _ (List.mem_of_getElem? hi)
 refine ⟨u, st.swap hi rfl h, DH.cons ?_ (dh.swap hi rfl)⟩
 rw [bs_set_same hi (q := bl b T [u]) rfl]
 exact ha
theorem opL (i : Nat) {l : List Oper} (hi : L[i]? = some (@vr α r b T x)) (k : ∀ u, WL Q c ops l env (L.set i (bl b T [u])) (⟨u, x⟩ :: D)) : WL Q c ops l env L D := fun a w f st dh => by
 obtain ⟨u, s', d'⟩ := op_st i hi st dh
 exact k u a w f s' d'
theorem clL (i j : Nat) {u : Value} {l : List Oper} (hi : L[i]? = some (bl b T [u])) (hj : D[j]? = some ⟨u, x⟩) (k : WL Q c ops l env (L.set i (@vr α r b T x)) D) : WL Q c ops l env L D :=
 fun a w f st dh => k a w f (st.swap hi rfl ⟨u, st.own _ (List.mem_of_getElem? hi), dh.at_ j hj⟩) (dh.swap hi rfl)
theorem clQ (i j : Nat) {u : Value} {e : Exit} (hi : L[i]? = some (bl b T [u])) (hj : D[j]? = some ⟨u, x⟩) (k : WQ c Q e env (L.set i (@vr α r b T x)) D) : WQ c Q e env L D :=
 fun a w f st dh => k a w f (st.swap hi rfl ⟨u, st.own _ (List.mem_of_getElem? hi), dh.at_ j hj⟩) (dh.swap hi rfl)
end
section
variable {c : Cx} {ops : Array Oper} {J : Cx → Array Oper → List Oper → Env → Own → List Atom → Prop} [iJ : IsJ J] {env : Env} {L : Own} {D : List Atom} {rest : List Oper} {d : Nat} {v : Value} {t : TypeId} {p : String} {af : Array Edge} {x y : Operand} {m n : Int} {xt yt : TypeId}
include iJ
theorem muI (hx : ev env x = some (.int .i64 m)) (hy : ev env y = some (.int .i64 n)) (hb : InI (m * n)) (hn : Nat.blt d c.n = true) (k : J c ops rest ((d, .int .i64 (m * n)) :: env) L D) :
 J c ops (⟨some d, .binOp .mul xt x y yt, t, p, af, none⟩ :: rest) env L D :=
 pu rfl rfl hn (fun a w f => by simp [execOp, f.ev hx, f.ev hy, eqGuard, binOp, Op.intArith, wrap_i64_in hb]) k
theorem mxI {q : IntKind} {ats : Array TypeId} (hx : ev env x = some (.int q m)) (hy : ev env y = some (.int q n)) {r : Int} (hr : max m n = r) (hn : Nat.blt d c.n = true) (k : J c ops rest ((d, .int q r) :: env) L D) :
 J c ops (⟨some d, .call { callee := .builtin .max, args := #[x, y], argTypes := ats }, t, p, af, none⟩ :: rest) env L D :=
 pu rfl rfl hn (fun a w f => by
  subst hr
  have e : max m n = if n > m then n else m := by omega
  simp [execOp, resolve, invoke, builtin, f.ev hx, f.ev hy, Builtin.max_, Builtin.max2, e]) k
theorem emL {α : Type} [r : Rep α] {l : List Oper} (k : J c ops l env L ((@Atom.mk (List α) (@repList α r) (.slice none 0 0) []) :: D)) : J c ops l env L D :=
 adL _ (fun S w _ => nil_list S w) k
end
theorem emC {c : Cx} {Q : Exit → Act → World → Prop} {env : Env} {L : Own} {D : List Atom} {α : Type} [r : Rep α] {x : Code} (k : WC c x Q env L ((@Atom.mk (List α) (@repList α r) (.slice none 0 0) []) :: D)) : WC c x Q env L D :=
 adC _ (fun S w _ => nil_list S w) k
theorem run_loadVarM {P : Program} {T : TypeId} {b : Nat} {cs : List Value} (h : RowTy P T cs.length) {w : World} {T' : TypeId} (hh : w.heap[b]? = some (.cells cs.toArray T' (0, 0))) : (loadVar T ⟨b, 0, none⟩).run P w = .ok (.agg cs.toArray) w := by
 have := run_loadAtM (P := P) (T := T) (b := b) (o := 0) (cs := cs) h (w := w) (fun j u hu => by
  rw [cell_of_row w b _ _ T' (0, 0) hh]
  simpa using hu)
 simpa only [Instr.loadAt, Instr.sureAddr, Sem.run_bind, Sem.run_pure, Result.andThen_ok] using this
section
variable {env : Env} {L L' : Own} {D : List Atom} {fn : Func} {X : List Nat} {L0 : Own} {β : Type} {R : β → Value → Prop} {L1 : β → Value → Own} {out : β → Value → List Atom} {P : Program} {n : Nat} {w0 : World}
end
end
section
section
variable {c : Cx} {ops : Array Oper} {Q : Exit → Act → World → Prop} {env : Env} {L : Own} {D : List Atom} {rest : List Oper} {d : Nat} {v : Value} {t : TypeId} {p : String} {af : Array Edge} {x y z : Operand} {T : TypeId} {b o : Nat} {cs : List Value}
theorem run_buildSlice0 {P : Program} {T E : TypeId} {size bytes : Nat} (ht : AppTy P T E size bytes) (w : World) :
 (Instr.buildSlice T 0 #[]).run P w = .ok (.slice (some ⟨w.heap.size, 0, none⟩) 0 0) (w.alloc (.cells #[] E)) := by
 obtain ⟨hu', i, z, hi, hz, hs, hb, hzs, _⟩ := ht
 simp [Instr.buildSlice, run_underlying hu', sizeOf, typeInfo, hi, Instr.fill, newRow, show Array.range 0 = #[] from rfl]
theorem bs0 {E : TypeId} {size bytes : Nat} (ht : AppTy c.P T E size bytes) (hn : Nat.blt d c.n = true) (k : ∀ b, WL Q c ops rest ((d, .slice (some ⟨b, 0, none⟩) 0 0) :: env) (bl b E [] :: L) D) :
 WL Q c ops (⟨some d, .buildSlice T 0 #[], t, p, af, none⟩ :: rest) env L D := by
 refine wpl_any (σ := Nat) rfl rfl (fun b => (d, .slice (some ⟨b, 0, none⟩) 0 0) :: env) (fun b => bl b E [] :: L) (fun _ => D) (fun a w f st dh => ?_) k
 refine ⟨w.heap.size, .slice (some ⟨w.heap.size, 0, none⟩) 0 0, w.alloc (.cells #[] E), ?_, f.put _ (lt_blt hn), bl_push (cs := []) st dh⟩
 simp only [execOp, List.map_toArray, List.map_nil, Sem.run_bind, run_buildSlice0 ht, Result.andThen_ok, Sem.run_pure]
theorem run_buildSliceM {P : Program} {T E : TypeId} {size bytes : Nat} (ht : AppTy P T E size bytes) {us : List Value} (hl : us.length = size) (h0 : us.length ≠ 0) (hb : us.length ≤ 1000) (w : World) :
 (Instr.buildSlice T 1 #[(0, .agg us.toArray)]).run P w = .ok (.slice (some ⟨w.heap.size, 0, none⟩) 1 1) (w.alloc (.cells us.toArray E)) := by
 subst hl
 obtain ⟨hu', i, z, hi, hz, hs, hb', hzs, _⟩ := ht
 refine run_buildSlice w T E 1 _ us.toArray i z hu' hi hz (by rw [hs]; omega) (by rw [hs]; omega) ?_
 rw [hs]
 have hc : (Value.agg us.toArray).cells = us.toArray := rfl
 simp only [Instr.fill, hc, Nat.zero_mul]
 have key : ∀ (l : List Value) (pre post : List Value), l.length = post.length → ((l.zipIdx pre.length).foldl (fun (cs : Array Value) (x : Value × Nat) => cs.setIfInBounds (0 + x.2) x.1) (pre ++ post).toArray) = (pre ++ l).toArray := by
  intro l
  induction l with
  | nil => intro pre post h; have : post = [] := List.eq_nil_of_length_eq_zero (by simpa using h.symm); subst this; rfl
  | cons u l ih =>
   intro pre post h
   obtain ⟨q, post, rfl⟩ : ∃ q r, post = q :: r := by
    cases post with
    | nil => simp at h
    | cons q r => exact ⟨q, r, rfl⟩
   simp only [List.zipIdx_cons, List.foldl_cons]
   have e : ((pre ++ q :: post).toArray.setIfInBounds (0 + pre.length) u) = ((pre ++ [u]) ++ post).toArray := by simp
   rw [e]
   have := ih (pre ++ [u]) post (by simpa using h)
   simp only [List.length_append, List.length_singleton] at this
   rw [this]
   simp
 have hz : ((Array.range (1 * us.length)).map (z.cells[· % z.cells.size]!)).size = us.length := by simp
 generalize ((Array.range (1 * us.length)).map (z.cells[· % z.cells.size]!)) = arr at hz
 have hk := key us [] arr.toList (by simp [hz])
 rw [if_neg (by simp [hz])]
 simp only [List.length_nil, List.nil_append, Array.toArray_toList] at hk
 rw [← Array.foldl_toList, Array.toList_zipIdx]
 simpa using hk
theorem bsM {us : List Value} {E : TypeId} {size bytes : Nat} (hx : ev env x = some (.agg us.toArray)) (ht : AppTy c.P T E size bytes) (hs : us.length = size) (h0 : us.isEmpty = false) (hl : Nat.ble us.length 1000 = true) (hn : Nat.blt d c.n = true)
 (k : ∀ b, WL Q c ops rest ((d, .slice (some ⟨b, 0, none⟩) 1 1) :: env) (bl b E us :: L) D) :
 WL Q c ops (⟨some d, .buildSlice T 1 #[(0, x)], t, p, af, none⟩ :: rest) env L D := by
 refine wpl_any (σ := Nat) rfl rfl (fun b => (d, .slice (some ⟨b, 0, none⟩) 1 1) :: env) (fun b => bl b E us :: L) (fun _ => D) (fun a w f st dh => ?_) k
 refine ⟨w.heap.size, .slice (some ⟨w.heap.size, 0, none⟩) 1 1, w.alloc (.cells us.toArray E), ?_, f.put _ (lt_blt hn), bl_push st dh⟩
 have hne : us.length ≠ 0 := fun e => by rw [List.eq_nil_of_length_eq_zero e] at h0; cases h0
 simp only [execOp, List.map_toArray, List.map_cons, List.map_nil, f.ev hx, Sem.run_bind, run_buildSliceM ht hs hne (Nat.le_of_ble_eq_true hl), Result.andThen_ok, Sem.run_pure]
theorem rwB {α : Type} [r : Rep α] {l : List Oper} {E : TypeId} (xs : List α) (css : List (List Value)) {n : Nat} (hn : xs.length = n) (hcs : css.flatten = cs) (hr : ∀ S w, (∀ u ∈ D, u.holds S w) → rdL S w css xs) (hl : Nat.ble xs.length 1000 = true)
 (k : WL Q c ops l env (@row α r E (.slice (some ⟨b, 0, none⟩) n n) xs :: L) D) : WL Q c ops l env (bl b E cs :: L) D := by
 subst hn
 intro a w f st dh
 have hl := Nat.le_of_ble_eq_true hl
 have hh : w.heap[b]? = some (.cells cs.toArray E (0, 0)) := st.own _ (List.mem_cons_self ..)
 have hrd : rdL (Sf (Own.bs (bl b E cs :: L)) w) w css xs := hr _ _ dh
 have hlen := hrd.len
 rw [hcs] at hlen
 refine k a w f (st.swap (i := 0) (p := bl b E cs) (q := row E (.slice (some ⟨b, 0, none⟩) xs.length xs.length) xs) rfl rfl ⟨css, ⟨?_, .inr ⟨b, xs.length, cs.toArray, rfl, Nat.zero_le _, hh, Nat.le_refl _, by simp only [maxLen]; omega, by simpa using hlen, ?_⟩⟩, hrd, by omega⟩) (dh.swap (i := 0) (p := bl b E cs) rfl rfl)
 · rw [hcs]; exact hlen
 · rw [hcs, List.take_of_length_le (by simp only [List.toList_toArray]; omega)]
theorem bd {ps : List (Nat × Operand)} {us : List Value} {cs : List Value} (hx : evs env (ps.map (·.2)) = some us) (hb : c.P.built T ((ps.map (·.1)).zip us) = some cs.toArray) (hn : Nat.blt d c.n = true) (k : WL Q c ops rest ((d, .agg cs.toArray) :: env) L D) :
 WL Q c ops (⟨some d, .build T ps.toArray, t, p, af, none⟩ :: rest) env L D :=
 pu rfl rfl hn (fun a w f => by
  have e := f.evs hx
  subst e
  have h2 : (ps.toArray.map fun (i, x) => (i, a.eval x)).toList = (ps.map (·.1)).zip ((ps.map (·.2)).map a.eval) := by
   simp only [List.map_toArray]
   clear hx hb
   induction ps with
   | nil => rfl
   | cons q r ih => simp only [List.map_cons, List.zip_cons_cons, ih]
  have := run_build (P := c.P) w T (ps.toArray.map fun (i, x) => (i, a.eval x)) cs.toArray (by rw [h2]; exact hb)
  simp only [execOp, Sem.run_bind, this, Result.andThen_ok, Sem.run_pure]) k
end
section
variable {c : Cx} {ops : Array Oper} {J : Cx → Array Oper → List Oper → Env → Own → List Atom → Prop} [iJ : IsJ J] {env : Env} {L : Own} {D : List Atom} {rest : List Oper} {d : Nat} {v : Value} {t : TypeId} {p : String} {af : Array Edge} {x y : Operand} {xt yt : TypeId}
include iJ
theorem eqN {α : Type} {r : Rep α} (i : Nat) {xs : List α} {sv : Value} {E : TypeId} (hu : c.P.underlying xt = some (.slice E)) (hx : ev env x = some sv) (hA : D[i]? = some (@Atom.mk (List α) (@repList α r) sv xs)) (hy : ev env y = some (.slice none 0 0)) (hn : Nat.blt d c.n = true)
 (k : ∀ b : Bool, (b = true → xs = []) → J c ops rest ((d, .bool b) :: env) L D) : J c ops (⟨some d, .binOp .eql xt x y yt, t, p, af, none⟩ :: rest) env L D := by
 refine iJ.fact (q := ∃ A cc, sv = .slice A xs.length cc ∧ (A = none → xs = [])) (fun a w f st dh => ?_) ?_
 · obtain ⟨ha, A, cc, hsv, h1, h2, h3, h4⟩ := dh.at_ i hA
   simp only at hsv ha
   rw [cells_of_not ha] at hsv
   refine ⟨A, cc, by simpa using hsv, fun hA => ?_⟩
   by_cases he : xs = []
   · exact he
   · obtain ⟨b, o, h, _⟩ := h4 he
     rw [h] at hA; cases hA
 · rintro ⟨A, cc, rfl, h⟩
   refine pu rfl rfl hn (fun a w f => ?_) (k A.isNone fun hA => h (by simpa using hA))
   simp [execOp, f.ev hx, f.ev hy, eqGuard, binOp, run_equal_slice_nil w xt E A xs.length cc hu]
end
theorem eqF {P : Program} {d : Nat} {f : Field} {fs : List Field} {xs ys : Array Value} {a b : Value} {r s : Bool} (hn : (f.name == "_") = false) {ds : TypeDesc} (hu : P.underlying f.type = some ds) (hr : ds.isRow = false) (ha : xs[f.offset]? = some a) (hb : ys[f.offset]? = some b)
 (he : ∀ w, (Op.equalIn d f.type a b).run P w = .ok r w) (hrest : ∀ w, (Op.eqFields d xs ys fs).run P w = .ok s w) (w : World) : (Op.eqFields d xs ys (f :: fs)).run P w = .ok (r && s) w := by
 have hn' : f.name ≠ "_" := by simpa using hn
 have hp : ∀ (zs : Array Value) (z : Value), zs[f.offset]? = some z → ∀ w, (part f.type zs f.offset).run P w = .ok z w := by
  intro zs z hz w
  unfold part
  rw [Sem.run_bind, run_isAgg hu, Result.andThen_ok, hr]
  simp [hz]
 unfold Op.eqFields
 rw [if_pos hn']
 simp only [Sem.run_bind, hp xs a ha, hp ys b hb, he, Result.andThen_ok]
 cases r with
 | false => simp
 | true => simpa using hrest w
theorem eqF0 {P : Program} {d : Nat} {xs ys : Array Value} (w : World) : (Op.eqFields d xs ys []).run P w = .ok true w := by simp [Op.eqFields]
theorem eqFi {P : Program} {d : Nat} {T : TypeId} {k k' : IntKind} (hu : P.underlying T = some (.int k')) (a b : Int) (w : World) : (Op.equalIn (d + 1) T (.int k a) (.int k b)).run P w = .ok (decide (a = b)) w := by
 rw [run_equalIn_int w d T k k' a b hu]
 by_cases h : a = b <;> simp [h]
theorem eqFs {P : Program} {d : Nat} {T : TypeId} (hu : P.underlying T = some .string) (a b : ByteArray) (w : World) : (Op.equalIn (d + 1) T (.string a) (.string b)).run P w = .ok (decide (a = b)) w := by
 rw [run_equalIn_string w d T a b hu, beq_ba]
end
section
section
variable {c : Cx} {ops : Array Oper} {J : Cx → Array Oper → List Oper → Env → Own → List Atom → Prop} [iJ : IsJ J] {env env0 env' : Env} {L : Own} {D D' : List Atom} {l rest : List Oper} {d : Nat} {v : Value}
include iJ
omit iJ in
theorem jo {T : Bool} (env0 : Env) (hs : Sub env0 env) (hg : J c ops rest ((d, .bool T) :: env0) L D → J c ops l env L D) (hk : J c ops rest ((d, .bool T) :: env0) L D) : J c ops l env L D := hg hk
theorem jW {b : Bool} (K : J c ops rest ((d, .bool b) :: env0) L D) (hs : Sub env0 env') (hD : SubD D D') : J c ops rest ((d, .bool b) :: env') L D' :=
 iJ.mono (fun a w f st dh => ⟨⟨f.size, f.dn, fun i u hu => by
  simp only [lk] at hu
  by_cases h : d = i
  · subst h
    simp only [beq_self_eq_true, cond_true] at hu
    exact f.at_ _ _ (by simpa only [lk, beq_self_eq_true, cond_true] using hu)
  · have hb : (d == i) = false := by simpa using h
    rw [hb] at hu
    have := lk_of_sub hs _ _ hu
    exact f.at_ _ _ (by simp only [lk, hb, cond_false]; exact this)⟩, dh.sub hD⟩) K
theorem jA {B X : Bool} (K : J c ops rest ((d, .bool (B && X)) :: env0) L D) (hB : B = true) (hs : Sub env0 env') (hD : SubD D D') : J c ops rest ((d, .bool X) :: env') L D' := by
 subst hB
 exact jW K hs hD
theorem jA0 {B X : Bool} (K : J c ops rest ((d, .bool (B && X)) :: env0) L D) (hB : B = false) (hs : Sub env0 env') (hD : SubD D D') : J c ops rest ((d, .bool false) :: env') L D' := by
 subst hB
 exact jW K hs hD
theorem jR {B X : Bool} (K : J c ops rest ((d, .bool (B || X)) :: env0) L D) (hB : B = false) (hs : Sub env0 env') (hD : SubD D D') : J c ops rest ((d, .bool X) :: env') L D' := by
 subst hB
 exact jW K hs hD
theorem jR0 {B X : Bool} (K : J c ops rest ((d, .bool (B || X)) :: env0) L D) (hB : B = true) (hs : Sub env0 env') (hD : SubD D D') : J c ops rest ((d, .bool true) :: env') L D' := by
 subst hB
 exact jW K hs hD
theorem spA {i : Nat} {t : Bool} (h : lk env i = some (.bool t)) (h1 : t = true → J c ops l ((i, .bool true) :: env) L D) (h2 : t = false → J c ops l ((i, .bool false) :: env) L D) : J c ops l env L D := spB h h1 h2
theorem spO {i : Nat} {t : Bool} (h : lk env i = some (.bool t)) (h2 : t = false → J c ops l ((i, .bool false) :: env) L D) (h1 : t = true → J c ops l ((i, .bool true) :: env) L D) : J c ops l env L D := spB h h1 h2
def skips (n : Nat) (ops : Array Oper) : List Oper → Env → Option Env
 | [], env => some env
 | o :: r, env =>
  match o.guard, o.dst with
  | some (j, b), some d =>
   match (ops[j]?).bind (·.dst) with
   | some dj =>
    match lk env dj with
    | some (.bool b') => if b' == b || !Nat.blt d n then none else skips n ops r ((d, undef) :: env)
    | some (.tuple _) => if Nat.blt d n then skips n ops r ((d, undef) :: env) else none
    | _ => none
   | none => none
  | _, _ => none
theorem gS : ∀ {g : List Oper} {env : Env}, skips c.n ops g env = some env' → J c ops rest env' L D → J c ops (g ++ rest) env L D
 | [], env, h, k => by
  simp only [skips, Option.some.injEq] at h
  subst h
  exact k
 | o :: r, env, h, k => by
  obtain ⟨dst, op, t, p, af, g⟩ := o
  cases g with
  | none => simp [skips] at h
  | some g =>
   obtain ⟨j, b⟩ := g
   cases dst with
   | none => simp [skips] at h
   | some d =>
    simp only [skips] at h
    cases hdj : (ops[j]?).bind (·.dst) with
    | none => simp [hdj] at h
    | some dj =>
     simp only [hdj] at h
     cases hv : lk env dj with
     | none => simp [hv] at h
     | some u =>
      simp only [hv] at h
      have key : (∀ a w, Fr c.n a env → St c.w0 c.M w L → DH D w L → Region.wanted ⟨some d, op, t, p, af, some (j, b)⟩ (yielded ops a.tmps) = false) → Nat.blt d c.n = true → skips c.n ops r ((d, undef) :: env) = some env' →
       J c ops (⟨some d, op, t, p, af, some (j, b)⟩ :: (r ++ rest)) env L D := fun hw hn hs =>
       iJ.wantN (env' := (d, undef) :: env) (fun a w f st dh => ⟨hw a w f st dh, f.put undef (lt_blt hn)⟩) (gS hs k)
      cases u with
      | bool b' =>
       simp only at h
       split at h
       · cases h
       · rename_i hn
         simp only [Bool.or_eq_true, Bool.not_eq_true', not_or, Bool.not_eq_true, Bool.not_eq_false] at hn
         refine key (fun a w f st dh => ?_) hn.2 h
         have := f.at_ _ _ hv
         have hne : ¬ b' = b := by simpa using hn.1
         simp [Region.wanted, yielded, hdj, this, hne]
      | tuple ts =>
       simp only at h
       split at h
       · rename_i hn
         refine key (fun a w f st dh => ?_) hn h
         have := f.at_ _ _ hv
         simp [Region.wanted, yielded, hdj, this]
       · cases h
      | _ => cases h
end
section
variable {c : Cx} {Q : Exit → Act → World → Prop} {env : Env} {L : Own} {D : List Atom} {x : Code}
theorem lpE {σ : Type} (C : Env) (Dc : List Atom) (V : σ → Env → Env) (LL : σ → Own) (DD : σ → List Atom → List Atom) (I : σ → Prop) (μ : σ → Nat) (s0 : σ) (hC : Sub C env) (hc : SubD Dc D) (hI : I s0)
 (hE : Sub (V s0 C) env) (hL : LL s0 = L) (hD : SubD (DD s0 Dc) D)
 (body : ∀ s, I s → WC c x (Exit.then (LoopK c (fun s => V s C) LL (fun s => DD s Dc) I μ s) Q) (V s C) (LL s) (DD s Dc)) : WC c (.loop x) Q env L D :=
 lp (fun s => V s C) LL (fun s => DD s Dc) I μ s0 hI hE hL hD body
theorem lpC {σ : Type} (C : Env) (Dc : List Atom) (V : σ → Env → Env) (I : σ → Prop) (μ : σ → Nat) (s0 : σ) (hC : Sub C env) (hc : SubD Dc D) (hI : I s0)
 (hE : Sub (V s0 C) env)
 (body : ∀ s, I s → WC c x (Exit.then (LoopK c (fun s => V s C) (fun _ => L) (fun _ => Dc) I μ s) Q) (V s C) L Dc) : WC c (.loop x) Q env L D :=
 lp (fun s => V s C) (fun _ => L) (fun _ => Dc) I μ s0 hI hE rfl hc body
theorem all_snoc {P : Nat → Prop} {i : Nat} (h : ∀ j, j < i → P j) (hi : P i) : ∀ j, j < i + 1 → P j := fun j hj => by
 by_cases e : j = i
 · subst e; exact hi
 · exact h j (by omega)
end
def allI (n : Nat) (p : Nat → Bool) : Bool := (List.range n).all p
theorem allI_true {n : Nat} {p : Nat → Bool} (h : ∀ j, j < n → p j = true) : allI n p = true := List.all_eq_true.2 fun j hj => h j (List.mem_range.1 hj)
theorem allI_false {n : Nat} {p : Nat → Bool} (j : Nat) (hj : j < n) (h : p j = false) : allI n p = false := by
 rw [← Bool.not_eq_true]
 intro e
 have := List.all_eq_true.1 e j (List.mem_range.2 hj)
 rw [h] at this
 cases this
theorem allI_iff {n : Nat} {p : Nat → Bool} : allI n p = true ↔ ∀ j, j < n → p j = true := by simp [allI]
theorem allI_congr {n : Nat} {p q : Nat → Bool} (h : ∀ j, j < n → p j = q j) : allI n p = allI n q := by
 rw [Bool.eq_iff_iff, allI_iff, allI_iff]
 exact ⟨fun k j hj => by rw [← h j hj]; exact k j hj, fun k j hj => by rw [h j hj]; exact k j hj⟩
theorem list_rd {α : Type} [r : Rep α] {S : Nat → Prop} {w : World} {k : Value} {l : List α} (h : Atom.holds ⟨k, l⟩ S w) : (@repList α r).rd S w [k] l := by
 obtain ⟨ha, hr⟩ := h
 rwa [cells_of_not ha] at hr
theorem getDE {α : Type} {l : List α} {i : Nat} {d : α} (h : i < l.length) : l[i]? = some (l.getD i d) := by simp [List.getD, List.getElem?_eq_getElem h]
end
theorem bl_ge : ∀ a b : List UInt8, (Op.bytesLess a b || decide (a = b)) = !Op.bytesLess b a
 | [], [] => rfl
 | [], b :: y => by simp [Op.bytesLess]
 | a :: x, [] => by simp [Op.bytesLess]
 | a :: x, b :: y => by
  have ih := bl_ge x y
  simp only [Op.bytesLess]
  rcases Nat.lt_trichotomy a.toNat b.toNat with h | h | h
  · have h1 : a < b := UInt8.lt_iff_toNat_lt.2 h
    have h2 : ¬ b < a := fun e => by have := UInt8.lt_iff_toNat_lt.1 e; omega
    have h3 : ¬ b = a := fun e => by subst e; omega
    simp [h1, h2, h3]
  · obtain rfl := UInt8.toNat_inj.1 h
    have h1 : ¬ a < a := fun e => by have := UInt8.lt_iff_toNat_lt.1 e; omega
    simpa [h1] using ih
  · have h1 : ¬ a < b := fun e => by have := UInt8.lt_iff_toNat_lt.1 e; omega
    have h2 : b < a := UInt8.lt_iff_toNat_lt.2 h
    have h3 : ¬ a = b := fun e => by subst e; omega
    simp [h1, h2, h3]
theorem le_ge (a b : ByteArray) : (ltB a b || decide (a = b)) = !ltB b a := by
 have := bl_ge a.toList b.toList
 have e : decide (a = b) = decide (a.toList = b.toList) := by
  rw [← beq_ba]
  exact Bool.eq_iff_iff.2 (by simp)
 rw [e]
 exact this
theorem bl_irrefl : ∀ a : List UInt8, Op.bytesLess a a = false
 | [] => rfl
 | a :: x => by
  have h1 : ¬ a < a := fun e => by have := UInt8.lt_iff_toNat_lt.1 e; omega
  simp [Op.bytesLess, h1, bl_irrefl x]
theorem lt_irrefl (a : ByteArray) : ltB a a = false := bl_irrefl a.toList
theorem bl_trans : ∀ a b c : List UInt8, Op.bytesLess a b = true → Op.bytesLess b c = true → Op.bytesLess a c = true
 | _, _, [], _, h => by simp [Op.bytesLess] at h
 | _, [], _ :: _, h, _ => by simp [Op.bytesLess] at h
 | [], _ :: _, _ :: _, _, _ => rfl
 | a :: x, b :: y, c :: z, h1, h2 => by
  simp only [Op.bytesLess, Bool.or_eq_true, Bool.and_eq_true, decide_eq_true_eq, beq_iff_eq] at h1 h2 ⊢
  rcases h1 with h1 | ⟨rfl, h1⟩
  · rcases h2 with h2 | ⟨rfl, _⟩
    · exact .inl (UInt8.lt_iff_toNat_lt.2 (Nat.lt_trans (UInt8.lt_iff_toNat_lt.1 h1) (UInt8.lt_iff_toNat_lt.1 h2)))
    · exact .inl h1
  · rcases h2 with h2 | ⟨rfl, h2⟩
    · exact .inl h2
    · exact .inr ⟨rfl, bl_trans x y z h1 h2⟩
theorem lt_trans {a b c : ByteArray} (h1 : ltB a b = true) (h2 : ltB b c = true) : ltB a c = true := bl_trans _ _ _ h1 h2
theorem empty_list : ByteArray.empty.toList = [] := by rw [ByteArray.toList_eq]; rfl
theorem lt_empty (a : ByteArray) : ltB a ByteArray.empty = false := by
 unfold ltB
 rw [empty_list]
 cases a.toList <;> rfl
theorem ints_all {S : Nat → Prop} {w : World} {v : Value} {xs : List Int} (h : Atom.holds ⟨v, xs⟩ S w) : ∀ x ∈ xs, InI x := by
 intro x hx
 obtain ⟨ha, A, cc, hsv, _, _, h3, h4⟩ := h
 obtain ⟨b, o, _, _, hi⟩ := h4 (List.ne_nil_of_mem hx)
 obtain ⟨i, hi2, rfl⟩ := List.getElem_of_mem hx
 obtain ⟨cs, hc, _⟩ := hi i _ (List.getElem?_eq_getElem hi2)
 exact hc.2
theorem eqG {P : Program} {d : Nat} {f : Field} {fs : List Field} {xs ys : Array Value} {a b : Value} {r s : Bool} {w : World} (hn : (f.name == "_") = false) {ds : TypeDesc} (hu : P.underlying f.type = some ds) (hr : ds.isRow = false) (ha : xs[f.offset]? = some a) (hb : ys[f.offset]? = some b)
 (he : ∀ w, (Op.equalIn d f.type a b).run P w = .ok r w) (hrest : ∀ w, (Op.eqFields d xs ys fs).run P w = .ok s w) : (Op.eqFields d xs ys (f :: fs)).run P w = .ok (r && s) w := eqF hn hu hr ha hb he hrest w
section
structure Ext (P : Program) (f : FuncId) (e : Array Value → Sem Value) : Prop where
 ok : ∃ fn, P.funcs[f]? = some fn ∧ (fn.name == "runtime.NumGoroutine") = false ∧ fn.body.isNone = true ∧ Extern.findNext fn = none ∧ Extern.find fn = some e
def ArrTy (P : Program) (T E : TypeId) (n m : Nat) : Prop := P.underlying T = some (.array n E) ∧ (P.info? E).map (·.size) = some m
section
variable {c : Cx} {ops : Array Oper} {J : Cx → Array Oper → List Oper → Env → Own → List Atom → Prop} [iJ : IsJ J] {env : Env} {L : Own} {D : List Atom} {rest : List Oper} {d : Nat} {v : Value} {t : TypeId} {p : String} {af : Array Edge} {x y : Operand} {T : TypeId} {b o : Nat}
include iJ
theorem cx {f : FuncId} {e : Array Value → Sem Value} (hf : Ext c.P f e) {vs : List Value} (hrun : ∀ w, (e vs.toArray).run c.P w = .ok v w) {xs : List Operand} {ats : Array TypeId} (hxs : evs env xs = some vs) (hn : Nat.blt d c.n = true)
 (k : J c ops rest ((d, v) :: env) L D) : J c ops (⟨some d, .call { callee := .value (.func f), args := xs.toArray, argTypes := ats }, t, p, af, none⟩ :: rest) env L D :=
 pu rfl rfl hn (fun a w fr => by
  obtain ⟨fn, h1, h2, h3, h4, h5⟩ := hf.ok
  have hm : xs.map a.eval = vs := fr.evs hxs
  have hF : a.eval (.func f) = .func (.func f) #[] #[] := rfl
  simp only [execOp, resolve, Deferred.ofValue, hF, invoke, List.map_toArray, hm, Sem.run_bind, Sem.run_pure, Result.andThen_ok]
  have := run_callFunc_extern h1 h2 h3 h4 h5 (vs.toArray) w
  rw [hrun w] at this
  simpa using this) k
theorem ixA {m : Int} {n : Nat} {E : TypeId} {size : Nat} (hx : ev env x = some (.pointer (some ⟨b, o, none⟩))) (hy : ev env y = some (.int .i64 m)) (ht : ArrTy c.P T E n size) (h0 : 0 ≤ m) (h1 : m < (n : Int)) (hn : Nat.blt d c.n = true)
 (k : J c ops rest ((d, .pointer (some ⟨b, o + m.toNat * size, none⟩)) :: env) L D) : J c ops (⟨some d, .indexAddr T x y, t, p, af, none⟩ :: rest) env L D :=
 pu rfl rfl hn (fun a w f => by
  obtain ⟨j, hj, hs⟩ := Option.map_eq_some_iff.1 ht.2
  simp [execOp, f.ev hx, f.ev hy, Instr.indexAt, asIntOf, run_underlying ht.1, h0, h1, sizeOf, typeInfo, hj, hs, Addr.add_mid, Instr.sureAddr]) k
end
section
variable {c : Cx} {ops : Array Oper} {Q : Exit → Act → World → Prop} {env : Env} {L : Own} {D : List Atom} {b : Nat} {cs : List Value}
theorem frP {α : Type} [r : Rep α] {l : List Oper} {T : TypeId} (xx : α) (hr : ∀ S w, (∀ u ∈ D, u.holds S w) → r.rd S w cs xx)
 (k : WL Q c ops l env L ((@Atom.mk (Pt α) (@repPt α r) (.pointer (some ⟨b, 0, none⟩)) ⟨xx⟩) :: D)) : WL Q c ops l env (bl b T cs :: L) D := by
 intro a w f st dh
 refine k a w f st.drop (DH.cons ?_ dh.drop)
 have hh : w.heap[b]? = some (.cells cs.toArray T (0, 0)) := st.own _ (List.mem_cons_self ..)
 have hn := st.nd
 simp only [Own.bs, bsOf, List.nodup_append] at hn
 have hS : Sf L.bs w b := ⟨lt_of_heap hh, fun hx => hn.2.2 b (by simp) b hx rfl⟩
 refine ⟨rfl, b, 0, cs, rfl, hS, hr _ _ fun u hu => dh.drop u hu, fun j u hu => ?_⟩
 rw [Nat.zero_add, cell_of_row w b _ _ T (0, 0) hh]
 simpa using hu
end
theorem spl_app : ∀ (us pre cs : List Value), us.length = cs.length → spl (pre ++ cs) pre.length us = pre ++ us
 | [], pre, cs, h => by
  obtain rfl : cs = [] := List.eq_nil_of_length_eq_zero h.symm
  rfl
 | v :: r, pre, [], h => by cases h
 | v :: r, pre, c :: cs, h => by
  have ih := spl_app r (pre ++ [v]) cs (by simpa using h)
  simp only [List.append_assoc, List.singleton_append, List.length_append, List.length_singleton] at ih
  unfold spl
  rw [List.set_append_right _ _ (Nat.le_refl _), Nat.sub_self]
  exact ih
theorem spl_all {cs us : List Value} (h : us.length = cs.length) : spl cs 0 us = us := by simpa using spl_app us [] cs h
theorem stW {c : Cx} {ops : Array Oper} {Q : Exit → Act → World → Prop} {env : Env} {L : Own} {D : List Atom} {rest : List Oper} {t : TypeId} {p : String} {af : Array Edge} {x y : Operand} {T E : TypeId} {b : Nat} {cs us : List Value} (i : Nat)
 (hx : ev env x = some (.pointer (some ⟨b, 0, none⟩))) (hy : ev env y = some (.agg us.toArray)) (hi : L[i]? = some (bl b T cs)) (ht : RowTy c.P E us.length) (hu : us.all (·.oneCell') = true) (hl : us.length = cs.length) (k : WL Q c ops rest env (L.set i (bl b T us)) D) :
 WL Q c ops (⟨none, .store E x y, t, p, af, none⟩ :: rest) env L D :=
 stM i hx hy hi ht hu (by omega) (by rw [spl_all hl]; exact k)
theorem add64_ok {P : Program} (x y c : Int) (hx : 0 ≤ x) (hy : 0 ≤ y) (hc0 : 0 ≤ c) (hc : c ≤ 1) (w : World) :
 (add64Entry [.int .u64 x, .int .u64 y, .int .u64 c].toArray).run P w = .ok (.tuple #[.int .u64 ((x + y + c) % 18446744073709551616), .int .u64 ((x + y + c) / 18446744073709551616)]) w := run_add64 x y c hx hy hc0 hc w
def cmpB (a b : ByteArray) : Int := Go.Lib.compareBytes a.data.toList b.data.toList
theorem cmp_ok {P : Program} (a b : ByteArray) (w : World) : (Extern.BytealgCompare.compare [.string a, .string b].toArray).run P w = .ok (.int .i64 (cmpB a b)) w := Go.Lib.run_compareString a b w
theorem cmpL_lt : ∀ a b : List UInt8, (decide (Go.Lib.compareBytes a b < 0)) = Op.bytesLess a b
 | [], [] => rfl
 | [], b :: y => rfl
 | a :: x, [] => rfl
 | a :: x, b :: y => by
  have ih := cmpL_lt x y
  simp only [Go.Lib.compareBytes, Op.bytesLess]
  rcases Nat.lt_trichotomy a.toNat b.toNat with h | h | h
  · have h1 : a < b := UInt8.lt_iff_toNat_lt.2 h
    simp [h1]
  · obtain rfl := UInt8.toNat_inj.1 h
    have h1 : ¬ a < a := fun e => by have := UInt8.lt_iff_toNat_lt.1 e; omega
    simpa [h1] using ih
  · have h1 : ¬ a < b := fun e => by have := UInt8.lt_iff_toNat_lt.1 e; omega
    have h2 : b < a := UInt8.lt_iff_toNat_lt.2 h
    have h3 : ¬ a = b := fun e => by subst e; omega
    simp [h1, h2, h3]
theorem cmp_lt (a b : ByteArray) : (decide (cmpB a b < 0)) = ltB a b := by
 unfold cmpB ltB
 rw [cmpL_lt, ByteArray.toList_eq, ByteArray.toList_eq]
end
end Go.Eng
