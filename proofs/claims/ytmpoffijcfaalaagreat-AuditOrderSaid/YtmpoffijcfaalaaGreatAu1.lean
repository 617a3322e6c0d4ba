/- Part 1 of the proof of auditOrder_holds: Eng1. Every text below begins with what it shows. -/
import Derived.WalkKit
import Derived.WalkSpells
import Derived.WalkLawsBesides
import Derived.Orders

/- The walk's frame: a judgement over code in which a frame is a short list of known slots, memory is a list of the call's own blocks, and what is read is a list of facts on data. Generic: no program. -/

namespace Go.Eng

theorem lt_blt {a b : Nat} (h : Nat.blt a b = true) : a < b := Nat.le_of_ble_eq_true h

abbrev Env := List (Nat × Value)

def lk : Env → Nat → Option Value
  | [], _ => none
  | (j, v) :: r, i => bif j == i then some v else lk r i

def ev (env : Env) : Operand → Option Value
  | .tmp t => lk env t
  | .const v => some v
  | .global g => some (.pointer (some ⟨g, 0, none⟩))
  | .func f => some (.func (.func f) #[] #[])

def evs (env : Env) : List Operand → Option (List Value)
  | [] => some []
  | x :: r => match ev env x, evs env r with
    | some v, some vs => some (v :: vs)
    | _, _ => none

def Sub : Env → Env → Prop
  | [], _ => True
  | (i, v) :: r, e => lk e i = some v ∧ Sub r e

structure Fr (n : Nat) (a : Act) (env : Env) : Prop where
  size : a.tmps.size = n
  dn : a.defers = []
  at_ : ∀ i v, lk env i = some v → a.tmps[i]? = some v

theorem Fr.ev {n : Nat} {a : Act} {env : Env} (h : Fr n a env) {x : Operand} {v : Value} (hx : ev env x = some v) : a.eval x = v := by
  cases x with
  | tmp t =>
    have := h.at_ t v hx
    simp [Act.eval, this]
  | const u => simpa [Eng.ev, Act.eval] using hx
  | global g => simpa [Eng.ev, Act.eval] using hx
  | func f => simpa [Eng.ev, Act.eval] using hx

theorem Fr.evs {n : Nat} {a : Act} {env : Env} (h : Fr n a env) : ∀ {l : List Operand} {vs : List Value}, evs env l = some vs → l.map a.eval = vs
  | [], vs, hx => by simpa [Eng.evs] using hx
  | x :: r, vs, hx => by
    simp only [Eng.evs] at hx
    split at hx
    · rename_i v us h1 h2
      have := h.evs h2
      simp only [Option.some.injEq] at hx
      subst hx
      simp [h.ev h1, this]
    · cases hx

theorem Fr.put {n : Nat} {a : Act} {env : Env} (h : Fr n a env) {d : Nat} (v : Value) (hd : d < n) : Fr n (a.put (some d) v) ((d, v) :: env) := by
  refine ⟨by simp [Act.put, h.size], h.dn, fun i u hi => ?_⟩
  simp only [lk] at hi
  by_cases hdi : d = i
  · subst hdi
    simp at hi
    subst hi
    have : d < a.tmps.size := by rw [h.size]; exact hd
    simp [Act.put, this]
  · have : (d == i) = false := by simpa using hdi
    rw [this] at hi
    simp only [cond_false] at hi
    have := h.at_ i u hi
    simp [Act.put, Array.getElem?_setIfInBounds_ne hdi, this]

theorem Fr.putNone {n : Nat} {a : Act} {env : Env} (h : Fr n a env) (v : Value) : Fr n (a.put none v) env := h

theorem lk_of_sub {env env' : Env} : Sub env' env → ∀ i v, lk env' i = some v → lk env i = some v := by
  intro h
  induction env' with
  | nil => intro i v hi; cases hi
  | cons p r ih =>
    obtain ⟨j, u⟩ := p
    obtain ⟨h1, h2⟩ := h
    intro i v hi
    simp only [lk] at hi
    by_cases hj : j = i
    · subst hj
      simp at hi
      subst hi
      exact h1
    · have : (j == i) = false := by simpa using hj
      rw [this] at hi
      exact ih h2 i v hi

theorem Fr.sub {n : Nat} {a : Act} {env env' : Env} (h : Fr n a env) (hs : Sub env' env) : Fr n a env' :=
  ⟨h.size, h.dn, fun i v hi => h.at_ i v (lk_of_sub hs i v hi)⟩

/-- w' is w with new blocks; of the old ones those outside X are as they were. -/
structure Stp (X : List Nat) (w w' : World) : Prop where
  os : w'.os = w.os
  tape : w'.tape = w.tape
  output : w'.output = w.output
  size : w.heap.size ≤ w'.heap.size
  block : ∀ k, k < w.heap.size → k ∉ X → w'.heap[k]? = w.heap[k]?

theorem Stp.refl (X : List Nat) (w : World) : Stp X w w := ⟨rfl, rfl, rfl, Nat.le_refl _, fun _ _ _ => rfl⟩
theorem Stp.trans {X : List Nat} {a b c : World} (h : Stp X a b) (k : Stp X b c) : Stp X a c :=
  ⟨k.os.trans h.os, k.tape.trans h.tape, k.output.trans h.output, Nat.le_trans h.size k.size, fun i hi hx => (k.block i (Nat.lt_of_lt_of_le hi h.size) hx).trans (h.block i hi hx)⟩
theorem Stp.mono {X Y : List Nat} {a b : World} (h : Stp X a b) (hx : ∀ k, k ∈ X → k ∈ Y) : Stp Y a b :=
  ⟨h.os, h.tape, h.output, h.size, fun i hi hy => h.block i hi (fun hk => hy (hx i hk))⟩
theorem Stp.nil {Y : List Nat} {a b : World} (h : Stp [] a b) : Stp Y a b := h.mono (by simp)
theorem Stp.drew (X : List Nat) (w : World) : Stp X w w.drew := ⟨rfl, rfl, rfl, Nat.le_refl _, fun _ _ _ => rfl⟩
theorem Stp.alloc (X : List Nat) (w : World) (o : Obj) : Stp X w (w.alloc o) :=
  ⟨rfl, rfl, rfl, by simp, fun k hk _ => heap_alloc_old w o hk⟩
/-- trans where the second step may also change blocks that are new since a. -/
theorem Stp.trans_new {X Y : List Nat} {a b c : World} (h : Stp X a b) (k : Stp Y b c) (hn : ∀ i, i ∈ Y → i ∈ X ∨ a.heap.size ≤ i) : Stp X a c :=
  ⟨k.os.trans h.os, k.tape.trans h.tape, k.output.trans h.output, Nat.le_trans h.size k.size, fun i hi hx =>
    (k.block i (Nat.lt_of_lt_of_le hi h.size) (fun hy => by rcases hn i hy with h1 | h1; exact hx h1; omega)).trans (h.block i hi hx)⟩
theorem Stp.below {w w' : World} (h : Stp [] w w') : RowKit.Below w.heap.size w w' := ⟨h.os, h.tape, h.output, h.size, fun k hk => h.block k hk (by simp)⟩
theorem lt_of_heap {w : World} {b : Nat} {o : Obj} (h : w.heap[b]? = some o) : b < w.heap.size := (Array.getElem?_eq_some_iff.1 h).1

/-- How data lies in cells: 'rd S w cs x': the cells cs read as x, through blocks of S alone. -/
class Rep (α : Type) where
  size : Nat
  agg : Bool
  rd : (Nat → Prop) → World → List Value → α → Prop
  len : ∀ {S w cs x}, rd S w cs x → cs.length = size
  one : ∀ {S w cs x}, rd S w cs x → ∀ u ∈ cs, u.oneCell' = true
  keep : ∀ {S S' : Nat → Prop} {w w' : World} {cs x}, rd S w cs x → (∀ b, S b → S' b) → (∀ b, S b → w'.heap[b]? = w.heap[b]?) → rd S' w' cs x

/-- Something of the call's own: its blocks, and what holds of them. -/
structure OwnE where
  bs : List Nat
  holds : (Nat → Prop) → World → Prop
  valid : ∀ {S w}, holds S w → ∀ b ∈ bs, b < w.heap.size
  keep : ∀ {S S' : Nat → Prop} {w w' : World}, holds S w → (∀ b, S b → S' b) → (∀ b, S b ∨ b ∈ bs → w'.heap[b]? = w.heap[b]?) → holds S' w'

abbrev Own := List OwnE
def bsOf : Own → List Nat
  | [] => []
  | p :: r => p.bs ++ bsOf r
abbrev Own.bs (L : Own) : List Nat := bsOf L

theorem mem_bsOf {L : Own} {b : Nat} : b ∈ bsOf L ↔ ∃ p ∈ L, b ∈ p.bs := by
  induction L with
  | nil => simp [bsOf]
  | cons p r ih => simp [bsOf, ih]

/-- The blocks that are there and are none of X. -/
def Sf (X : List Nat) (w : World) : Nat → Prop := fun b => b < w.heap.size ∧ b ∉ X

structure St (w0 : World) (M : List Nat) (w : World) (L : Own) : Prop where
  stp : Stp M w0 w
  own : ∀ p ∈ L, p.holds (Sf L.bs w) w
  nd : L.bs.Nodup
  new : ∀ b ∈ L.bs, b ∈ M ∨ w0.heap.size ≤ b

theorem St.lt {w0 w : World} {M : List Nat} {L : Own} (h : St w0 M w L) : ∀ b ∈ L.bs, b < w.heap.size := by
  intro b hb
  obtain ⟨p, hp, hpb⟩ := mem_bsOf.1 hb
  exact p.valid (h.own p hp) b hpb

structure Atom where
  {α : Type}
  [r : Rep α]
  v : Value
  x : α

def isAggV : Value → Bool
  | .agg _ => true
  | _ => false
def Atom.holds (t : Atom) (S : Nat → Prop) (w : World) : Prop := isAggV t.v = t.r.agg ∧ t.r.rd S w t.v.cells.toList t.x
theorem cells_of_not {v : Value} (h : isAggV v = false) : v.cells = #[v] := by cases v <;> first | rfl | cases h

theorem Atom.keep {t : Atom} {S S' : Nat → Prop} {w w' : World} (h : t.holds S w) (hs : ∀ b, S b → S' b) (hw : ∀ b, S b → w'.heap[b]? = w.heap[b]?) : t.holds S' w' :=
  ⟨h.1, t.r.keep h.2 hs hw⟩

def DH (D : List Atom) (w : World) (L : Own) : Prop := ∀ t ∈ D, t.holds (Sf L.bs w) w

theorem DH.nil {w : World} {L : Own} : DH [] w L := by intro t h; cases h
theorem DH.cons {t : Atom} {D : List Atom} {w : World} {L : Own} (h : t.holds (Sf L.bs w) w) (hd : DH D w L) : DH (t :: D) w L := by
  intro u hu
  rcases List.mem_cons.1 hu with rfl | hu
  · exact h
  · exact hd u hu
theorem DH.app {D1 D2 : List Atom} {w : World} {L : Own} (h : DH D1 w L) (hd : DH D2 w L) : DH (D1 ++ D2) w L := by
  intro u hu
  rcases List.mem_append.1 hu with hu | hu
  · exact h u hu
  · exact hd u hu

def SubD (D' D : List Atom) : Prop := ∀ t ∈ D', t ∈ D
theorem SubD.nil {D : List Atom} : SubD [] D := by intro t h; cases h
theorem SubD.refl {D : List Atom} : SubD D D := fun _ h => h
theorem SubD.tail {D' D : List Atom} {t : Atom} (h : SubD D' D) : SubD D' (t :: D) := fun u hu => List.mem_cons_of_mem _ (h u hu)
theorem SubD.cons {D' D : List Atom} {t : Atom} (i : Nat) (ht : D[i]? = some t) (h : SubD D' D) : SubD (t :: D') D := by
  intro u hu
  rcases List.mem_cons.1 hu with rfl | hu
  · exact List.mem_of_getElem? ht
  · exact h u hu
theorem DH.sub {D D' : List Atom} {w : World} {L : Own} (hd : DH D w L) (h : SubD D' D) : DH D' w L := fun t ht => hd t (h t ht)
theorem DH.at_ {D : List Atom} {w : World} {L : Own} (hd : DH D w L) (i : Nat) {t : Atom} (ht : D[i]? = some t) : t.holds (Sf L.bs w) w := hd t (List.mem_of_getElem? ht)

/-- The same where the own blocks turn to others: to old ones of theirs, or to new blocks. -/
theorem DH.turn {D : List Atom} {w w' : World} {L L' : Own} (hd : DH D w L) (hs : Stp L.bs w w') (hl : ∀ b ∈ L'.bs, b ∈ L.bs ∨ w.heap.size ≤ b) : DH D w' L' := fun t ht =>
  t.keep (hd t ht) (fun b hb => ⟨Nat.lt_of_lt_of_le hb.1 hs.size, fun h => by
    rcases hl b h with h | h
    · exact hb.2 h
    · have := hb.1; omega⟩) (fun b hb => hs.block b hb.1 hb.2)
theorem DH.step {D : List Atom} {w w' : World} {L : Own} (hd : DH D w L) (hs : Stp L.bs w w') : DH D w' L := hd.turn hs fun _ h => .inl h

theorem St.step {w0 w w' : World} {M : List Nat} {L : Own} (h : St w0 M w L) (hs : Stp [] w w') : St w0 M w' L :=
  ⟨h.stp.trans hs.nil, fun p hp => p.keep (h.own p hp) (fun b hb => ⟨Nat.lt_of_lt_of_le hb.1 hs.size, hb.2⟩) (fun b hb => by
      refine hs.block b ?_ (by simp)
      rcases hb with hb | hb
      · exact hb.1
      · exact h.lt b (mem_bsOf.2 ⟨p, hp, hb⟩)), h.nd, h.new⟩

/-- A thing more of the call's own, in blocks that are new. -/
theorem St.push {w0 w w' : World} {M : List Nat} {L : Own} {p : OwnE} (h : St w0 M w L) (hs : Stp [] w w') (hp : p.holds (Sf (Own.bs (p :: L)) w') w')
    (hn : p.bs.Nodup) (hb : ∀ b ∈ p.bs, w.heap.size ≤ b) : St w0 M w' (p :: L) := by
  have h' := h.step hs
  refine ⟨h'.stp, ?_, ?_, ?_⟩
  · intro q hq
    rcases List.mem_cons.1 hq with rfl | hq
    · exact hp
    · refine q.keep (h.own q hq) (fun b hb' => ⟨Nat.lt_of_lt_of_le hb'.1 hs.size, ?_⟩) (fun b hb' => ?_)
      · simp only [Own.bs, bsOf, List.mem_append, not_or]
        exact ⟨fun hx => by have := hb b hx; have := hb'.1; omega, hb'.2⟩
      · refine hs.block b ?_ (by simp)
        rcases hb' with hb' | hb'
        · exact hb'.1
        · exact h.lt b (mem_bsOf.2 ⟨q, hq, hb'⟩)
  · simp only [Own.bs, bsOf, List.nodup_append]
    refine ⟨hn, h.nd, fun a ha b hb' => ?_⟩
    have := hb a ha
    have := h.lt b hb'
    omega
  · intro b hb'
    simp only [Own.bs, bsOf, List.mem_append] at hb'
    rcases hb' with hb' | hb'
    · exact .inr (Nat.le_trans h.stp.size (hb b hb'))
    · exact h.new b hb'
theorem DH.push {D : List Atom} {w w' : World} {L : Own} {p : OwnE} (hd : DH D w L) (hs : Stp [] w w') (hb : ∀ b ∈ p.bs, w.heap.size ≤ b) : DH D w' (p :: L) :=
  hd.turn hs.nil fun b h => by
    simp only [Own.bs, bsOf, List.mem_append] at h
    rcases h with h | h
    · exact .inr (hb b h)
    · exact .inl h

theorem bs_set {L : Own} {i : Nat} {p p' : OwnE} (hi : L[i]? = some p) : ∀ b ∈ Own.bs (L.set i p'), b ∈ p'.bs ∨ b ∈ L.bs := by
  intro b hb
  obtain ⟨q, hq, hqb⟩ := mem_bsOf.1 hb
  rcases List.mem_or_eq_of_mem_set hq with h | h
  · exact .inr (mem_bsOf.2 ⟨q, h, hqb⟩)
  · subst h; exact .inl hqb

theorem nodup_set : ∀ {L : Own} {i : Nat} {p p' : OwnE}, L[i]? = some p → L.bs.Nodup → p'.bs.Nodup → (∀ b ∈ p'.bs, b ∈ p.bs ∨ b ∉ L.bs) → (Own.bs (L.set i p')).Nodup
  | [], i, p, p', hi, _, _, _ => by simp at hi
  | q :: r, 0, p, p', hi, hn, hp, hb => by
    simp at hi
    subst hi
    simp only [List.set_cons_zero, Own.bs, bsOf, List.nodup_append] at hn ⊢
    refine ⟨hp, hn.2.1, fun a ha b hb' e => ?_⟩
    subst e
    rcases hb a ha with h | h
    · exact hn.2.2 a h a hb' rfl
    · exact h (by simp [bsOf, hb'])
  | q :: r, i + 1, p, p', hi, hn, hp, hb => by
    simp only [List.getElem?_cons_succ] at hi
    simp only [List.set_cons_succ, Own.bs, bsOf, List.nodup_append] at hn ⊢
    refine ⟨hn.1, nodup_set hi hn.2.1 hp (fun b hb' => ?_), fun a ha b hb' e => ?_⟩
    · rcases hb b hb' with h | h
      · exact .inl h
      · exact .inr (fun hx => h (by simp [bsOf]; exact .inr hx))
    · subst e
      rcases bs_set hi a hb' with h | h
      · rcases hb a h with h | h
        · exact hn.2.2 a ha a (mem_bsOf.2 ⟨p, List.mem_of_getElem? hi, h⟩) rfl
        · exact h (by simp [bsOf, ha])
      · exact hn.2.2 a ha a h rfl

/-- One thing of the call's own turns. -/
theorem St.upd {w0 w w' : World} {M : List Nat} {L : Own} {p p' : OwnE} (i : Nat) (hi : L[i]? = some p) (h : St w0 M w L) (hs : Stp p.bs w w')
    (hp : p'.holds (Sf (Own.bs (L.set i p')) w') w') (hn : p'.bs.Nodup) (hb : ∀ b ∈ p'.bs, b ∈ p.bs ∨ w.heap.size ≤ b) : St w0 M w' (L.set i p') := by
  have hpb : ∀ b ∈ p.bs, b ∈ L.bs := fun b hx => mem_bsOf.2 ⟨p, List.mem_of_getElem? hi, hx⟩
  have hsub : ∀ b, Sf L.bs w b → Sf (Own.bs (L.set i p')) w' b := fun b hx => ⟨Nat.lt_of_lt_of_le hx.1 hs.size, fun hy => by
    rcases bs_set hi b hy with h1 | h1
    · rcases hb b h1 with h2 | h2
      · exact hx.2 (hpb b h2)
      · have := hx.1; omega
    · exact hx.2 h1⟩
  refine ⟨h.stp.trans_new hs (fun b hx => h.new b (hpb b hx)), ?_, ?_, ?_⟩
  · intro q hq
    obtain ⟨j, hj⟩ := List.getElem?_of_mem hq
    by_cases hij : i = j
    · subst hij
      have hlt : i < L.length := (List.getElem?_eq_some_iff.1 hi).1
      rw [List.getElem?_set_self hlt] at hj
      injection hj with hj
      subst hj
      exact hp
    · rw [List.getElem?_set_ne hij] at hj
      have hqm := List.mem_of_getElem? hj
      refine q.keep (h.own q hqm) hsub (fun b hx => hs.block b ?_ ?_)
      · rcases hx with hx | hx
        · exact hx.1
        · exact h.lt b (mem_bsOf.2 ⟨q, hqm, hx⟩)
      · rcases hx with hx | hx
        · exact fun hy => hx.2 (hpb b hy)
        · exact fun hy => bs_ne hi hj hij h.nd b hy hx
  · exact nodup_set hi h.nd hn (fun b hx => (hb b hx).imp id (fun h1 h2 => by have := h.lt b h2; omega))
  · intro b hx
    rcases bs_set hi b hx with h1 | h1
    · rcases hb b h1 with h2 | h2
      · exact h.new b (hpb b h2)
      · exact .inr (Nat.le_trans h.stp.size h2)
    · exact h.new b h1
where
  bs_ne {L : Own} {i j : Nat} {p q : OwnE} (hi : L[i]? = some p) (hj : L[j]? = some q) (hij : i ≠ j) (hn : L.bs.Nodup) : ∀ b ∈ p.bs, b ∉ q.bs := by
    intro b h1 h2
    induction L generalizing i j with
    | nil => simp at hi
    | cons x r ih =>
      simp only [Own.bs, bsOf, List.nodup_append] at hn
      cases i with
      | zero =>
        cases j with
        | zero => exact hij rfl
        | succ j =>
          simp at hi hj
          subst hi
          exact hn.2.2 b h1 b (mem_bsOf.2 ⟨q, List.mem_of_getElem? hj, h2⟩) rfl
      | succ i =>
        cases j with
        | zero =>
          simp at hi hj
          subst hj
          exact hn.2.2 b h2 b (mem_bsOf.2 ⟨p, List.mem_of_getElem? hi, h1⟩) rfl
        | succ j =>
          simp at hi hj
          exact ih hi hj (by omega) hn.2.1
theorem DH.upd {D : List Atom} {w w' : World} {L : Own} {p p' : OwnE} (i : Nat) (hi : L[i]? = some p) (hd : DH D w L) (hs : Stp p.bs w w') (hb : ∀ b ∈ p'.bs, b ∈ p.bs ∨ w.heap.size ≤ b) : DH D w' (L.set i p') :=
  hd.turn (hs.mono fun b hx => mem_bsOf.2 ⟨p, List.mem_of_getElem? hi, hx⟩) fun b h => by
    rcases bs_set hi b h with h1 | h1
    · exact (hb b h1).imp (fun hx => mem_bsOf.2 ⟨p, List.mem_of_getElem? hi, hx⟩) id
    · exact .inl h1

/-- Something of one's own is let go. -/
theorem St.drop {w0 w : World} {M : List Nat} {p : OwnE} {L : Own} (h : St w0 M w (p :: L)) : St w0 M w L := by
  have hn := h.nd
  simp only [Own.bs, bsOf, List.nodup_append] at hn
  refine ⟨h.stp, fun q hq => q.keep (h.own q (List.mem_cons_of_mem _ hq)) (fun b hb => ⟨hb.1, fun hx => hb.2 (by simp [bsOf]; exact .inr hx)⟩) (fun _ _ => rfl), hn.2.1, fun b hb => h.new b (by simp [bsOf]; exact .inr hb)⟩
theorem DH.drop {D : List Atom} {w : World} {p : OwnE} {L : Own} (hd : DH D w (p :: L)) : DH D w L := fun t ht =>
  t.keep (hd t ht) (fun b hb => ⟨hb.1, fun h => hb.2 (by simp [bsOf]; exact .inr h)⟩) (fun _ _ => rfl)
/-- What is let go reads as data from then on. -/
theorem St.freeze {w0 w : World} {M : List Nat} {p : OwnE} {L : Own} {t : Atom} (h : St w0 M w (p :: L)) (ht : ∀ S, (∀ b ∈ p.bs, S b) → (∀ b, Sf (Own.bs (p :: L)) w b → S b) → p.holds (Sf (Own.bs (p :: L)) w) w → t.holds S w) : t.holds (Sf L.bs w) w := by
  have hn := h.nd
  simp only [Own.bs, bsOf, List.nodup_append] at hn
  refine ht _ (fun b hb => ⟨h.lt b (by simp [bsOf, hb]), fun hx => hn.2.2 b hb b hx rfl⟩) (fun b hb => ⟨hb.1, fun hx => hb.2 (by simp [bsOf]; exact .inr hx)⟩) (h.own p (List.mem_cons_self ..))

/-- The call: its program, its frame's size, the world in which it began, the old blocks that it may change. -/
structure Cx where
  P : Program
  n : Nat
  w0 : World
  M : List Nat

def WL (Q : Exit → Act → World → Prop) (c : Cx) (ops : Array Oper) (l : List Oper) (env : Env) (L : Own) (D : List Atom) : Prop :=
  ∀ a w, Fr c.n a env → St c.w0 c.M w L → DH D w L → wpList c.P ops Q l a w
def WC (c : Cx) (x : Code) (Q : Exit → Act → World → Prop) (env : Env) (L : Own) (D : List Atom) : Prop :=
  ∀ a w, Fr c.n a env → St c.w0 c.M w L → DH D w L → Code.wp c.P x Q a w
def WQ (c : Cx) (Q : Exit → Act → World → Prop) (e : Exit) (env : Env) (L : Own) (D : List Atom) : Prop :=
  ∀ a w, Fr c.n a env → St c.w0 c.M w L → DH D w L → Q e a w

section
variable {c : Cx} {ops : Array Oper} {Q Q' : Exit → Act → World → Prop} {env env' : Env} {L L' : Own} {D D' : List Atom} {x y : Code} {rest : List Oper}

theorem sq (h : WC c x (Exit.then (Code.wp c.P y Q) Q) env L D) : WC c (.seq x y) Q env L D := fun a w f s d => wp_seq (h a w f s d)
theorem nx (h : WC c y Q env L D) : WQ c (Exit.then (Code.wp c.P y Q) Q') .normal env L D := h
theorem rg {id : Nat} {l : List Oper} (h : WL Q c l.toArray l env L D) : WC c (.region id l.toArray false) Q env L D := fun a w f s d => wp_region_lit (h a w f s d)
theorem nl (h : WQ c Q .normal env L D) : WL Q c ops [] env L D := fun a w f s d => wpList_nil (h a w f s d)
theorem bk {id : Nat} (h : WC c x (Exit.inBlock id Q) env L D) : WC c (.block id x) Q env L D := fun a w f s d => wp_block (h a w f s d)
theorem ex {id : Nat} (h : WQ c Q (.exit id) env L D) : WC c (.exit id) Q env L D := fun a w f s d => wp_exit (h a w f s d)
theorem rt (h : WQ c Q .ret env L D) : WC c .ret Q env L D := fun a w f s d => wp_ret (h a w f s d)
theorem sk (h : WQ c Q .normal env L D) : WC c .skip Q env L D := fun a w f s d => wp_skip (h a w f s d)

theorem tR {K : Act → World → Prop} (h : WQ c Q .ret env L D) : WQ c (Exit.then K Q) .ret env L D := h
theorem tE {K : Act → World → Prop} {id : Nat} (h : WQ c Q (.exit id) env L D) : WQ c (Exit.then K Q) (.exit id) env L D := h
theorem bR {id : Nat} (h : WQ c Q .ret env L D) : WQ c (Exit.inBlock id Q) .ret env L D := h
theorem bN {id : Nat} (h : WQ c Q .normal env L D) : WQ c (Exit.inBlock id Q) .normal env L D := h
theorem bE {id : Nat} (h : WQ c Q .normal env L D) : WQ c (Exit.inBlock id Q) (.exit id) env L D := fun a w f s d => by
  simp only [Exit.inBlock, if_true]; exact h a w f s d
/-- Forget slots and facts. -/
theorem wkL (env' : Env) (D' : List Atom) (he : Sub env' env) (hd : SubD D' D) {l : List Oper} (h : WL Q c ops l env' L D') : WL Q c ops l env L D := fun a w f s d => h a w (f.sub he) s (d.sub hd)
theorem wkQ {e : Exit} (env' : Env) (D' : List Atom) (he : Sub env' env) (hd : SubD D' D) (h : WQ c Q e env' L D') : WQ c Q e env L D := fun a w f s d => h a w (f.sub he) s (d.sub hd)
theorem dpQ {e : Exit} {p : OwnE} (h : WQ c Q e env L D) : WQ c Q e env (p :: L) D := fun a w f s d => h a w f s.drop d.drop
/-- A test over a Bool. -/
theorem cdB {o : Operand} {t : Bool} (hc : ev env o = some (.bool t)) (h1 : t = true → WC c x Q env L D) (h2 : t = false → WC c y Q env L D) : WC c (.cond o x y) Q env L D :=
  fun a w f s d => wp_cond_split (f.ev hc) (fun h => h1 h a w f s d) (fun h => h2 h a w f s d)
theorem cdT {o : Operand} (hc : ev env o = some (.bool true)) (h1 : WC c x Q env L D) : WC c (.cond o x y) Q env L D :=
  fun a w f s d => wp_cond_true (f.ev hc) (h1 a w f s d)
theorem cdF {o : Operand} (hc : ev env o = some (.bool false)) (h1 : WC c y Q env L D) : WC c (.cond o x y) Q env L D :=
  fun a w f s d => wp_cond_false (f.ev hc) (h1 a w f s d)
/-- A test over a proposition that is decided. -/
theorem cdP {o : Operand} {p : Prop} [Decidable p] (hc : ev env o = some (.bool (decide p))) (h1 : p → WC c x Q env L D) (h2 : ¬ p → WC c y Q env L D) : WC c (.cond o x y) Q env L D :=
  cdB hc (fun h => h1 (of_decide_eq_true h)) (fun h => h2 (of_decide_eq_false h))
theorem cdN {o : Operand} {p : Prop} [Decidable p] (hc : ev env o = some (.bool (!decide p))) (h1 : ¬ p → WC c x Q env L D) (h2 : p → WC c y Q env L D) : WC c (.cond o x y) Q env L D :=
  cdB hc (fun h => h1 (by simpa using h)) (fun h => h2 (by simpa using h))

/-- The loop: states σ, each with its slots, own blocks and facts. -/
def LoopK (c : Cx) {σ : Type} (E : σ → Env) (LL : σ → Own) (DD : σ → List Atom) (I : σ → Prop) (μ : σ → Nat) (s : σ) : Act → World → Prop :=
  fun a w => ∃ s', I s' ∧ μ s' < μ s ∧ Fr c.n a (E s') ∧ St c.w0 c.M w (LL s') ∧ DH (DD s') w (LL s')

theorem lp {σ : Type} (E : σ → Env) (LL : σ → Own) (DD : σ → List Atom) (I : σ → Prop) (μ : σ → Nat) (s0 : σ) (hI : I s0)
    (hE : Sub (E s0) env) (hL : LL s0 = L) (hD : SubD (DD s0) D)
    (body : ∀ s, I s → WC c x (Exit.then (LoopK c E LL DD I μ s) Q) (E s) (LL s) (DD s)) : WC c (.loop x) Q env L D := by
  intro a w f st d
  subst hL
  -- the measure has to be read off the frame and the world: it is chosen
  have key : ∀ (m : Nat) (s : σ), μ s = m → I s → ∀ a w, Fr c.n a (E s) → St c.w0 c.M w (LL s) → DH (DD s) w (LL s) →
      ∀ (b : Frame) (k : List Item) (cs : List Frame), ∃ e a' w', Q e a' w' ∧ Arrives c.P (lone (b.at a (.code x :: .inLoop x :: k)) cs w) b k cs e a' w' := by
    intro m
    induction m using Nat.strongRecOn with
    | _ m ih =>
      intro s hm hI a w f st d b k cs
      obtain ⟨e, a₁, w₁, hq, harr⟩ := body s hI a w f st d b (.inLoop x :: k) cs
      cases e with
      | normal =>
        obtain ⟨s', hI', hlt, f', st', d'⟩ := hq
        obtain ⟨e₂, a₂, w₂, hq₂, harr₂⟩ := ih (μ s') (hm ▸ hlt) s' rfl hI' a₁ w₁ f' st' d' b k cs
        exact ⟨e₂, a₂, w₂, hq₂, .of_steps (Steps.trans harr (.one step_inLoop)) harr₂⟩
      | exit id => exact ⟨_, a₁, w₁, hq, .pass (x := .inLoop x) rfl (fun _ _ => .inl (by simp)) harr⟩
      | goto l => exact ⟨_, a₁, w₁, hq, .pass (x := .inLoop x) rfl (fun _ _ => .inl (by simp)) harr⟩
      | ret => exact ⟨_, a₁, w₁, hq, .pass (x := .inLoop x) rfl (fun _ _ => .inl (by simp)) harr⟩
      | panic ch => exact ⟨_, a₁, w₁, hq, .pass (x := .inLoop x) rfl (fun _ _ => .inl (by simp)) harr⟩
      | outgrown => exact ⟨_, a₁, w₁, hq, .pass (x := .inLoop x) rfl (fun _ _ => .inl (by simp)) harr⟩
  intro b k cs
  obtain ⟨e, a', w', hq, harr⟩ := key _ s0 rfl hI a w (f.sub hE) st (d.sub hD) b k cs
  exact ⟨e, a', w', hq, .of_steps (.one step_loop) harr⟩

theorem ag {σ : Type} {E : σ → Env} {LL : σ → Own} {DD : σ → List Atom} {I : σ → Prop} {μ : σ → Nat} {s : σ} (s' : σ) (hI : I s') (hμ : μ s' < μ s)
    (hE : Sub (E s') env) (hL : LL s' = L) (hD : SubD (DD s') D) : WQ c (Exit.then (LoopK c E LL DD I μ s) Q) .normal env L D := by
  intro a w f st d
  subst hL
  exact ⟨s', hI, hμ, f.sub hE, st, d.sub hD⟩

/-- What stands behind code whose ways meet again: shown once, from what all ways leave. -/
def JK (c : Cx) {σ : Type} (E : σ → Env) (LL : σ → Own) (DD : σ → List Atom) (I : σ → Prop) : Act → World → Prop :=
  fun a w => ∃ s', I s' ∧ Fr c.n a (E s') ∧ St c.w0 c.M w (LL s') ∧ DH (DD s') w (LL s')
/-- The ways of x meet at its normal end: 'WC c x (Exit.then JK Q)' and then on, from any state. -/
theorem jn {σ : Type} (E : σ → Env) (LL : σ → Own) (DD : σ → List Atom) (I : σ → Prop)
    (h1 : WC c x (Exit.then (JK c E LL DD I) Q) env L D) (h2 : ∀ s, I s → WQ c Q .normal (E s) (LL s) (DD s)) : WC c x Q env L D := by
  intro a w f st d
  refine wp_mono (h1 a w f st d) ?_
  intro e a' w' hq
  cases e with
  | normal => obtain ⟨s, hI, f', st', d'⟩ := hq; exact h2 s hI a' w' f' st' d'
  | _ => exact hq
theorem jx {σ : Type} {E : σ → Env} {LL : σ → Own} {DD : σ → List Atom} {I : σ → Prop} (s' : σ) (hI : I s')
    (hE : Sub (E s') env) (hL : LL s' = L) (hD : SubD (DD s') D) : WQ c (Exit.then (JK c E LL DD I) Q) .normal env L D := by
  intro a w f st d
  subst hL
  exact ⟨s', hI, f.sub hE, st, d.sub hD⟩
end

/-- A contract: the call returns a value, and of it and the world Φ holds. -/
def Ret (P : Program) (f : FuncId) (args : List Value) (w : World) (Φ : Value → World → Prop) : Prop :=
  Calls P f args.toArray w fun e w' => ∃ v, e = .returned v ∧ Φ v w'

theorem Ret.mono {P : Program} {f : FuncId} {args : List Value} {w : World} {Φ Ψ : Value → World → Prop} (h : Ret P f args w Φ) (hm : ∀ v w', Φ v w' → Ψ v w') : Ret P f args w Ψ :=
  Calls.mono h fun _ w' ⟨v, he, hv⟩ => ⟨v, he, hm v w' hv⟩

def ent : Nat → List Value → Env
  | _, [] => []
  | i, v :: r => (i, v) :: ent (i + 1) r

theorem lk_ent : ∀ (l : List Value) (i j : Nat) (v : Value), lk (ent i l) j = some v → i ≤ j ∧ l[j - i]? = some v
  | [], _, _, _, h => by cases h
  | u :: r, i, j, v, h => by
    simp only [ent, lk] at h
    by_cases hij : i = j
    · subst hij
      simp at h
      subst h
      simp
    · have : (i == j) = false := by simpa using hij
      rw [this] at h
      have := lk_ent r (i + 1) j v h
      refine ⟨by omega, ?_⟩
      rw [show j - i = (j - (i + 1)) + 1 by omega]
      simpa using this.2

/-- A function's body, from its arguments on. -/
theorem enter {P : Program} {f : FuncId} {fn : Func} {x : Code} {args : List Value} {w : World} {Φ : Value → World → Prop} (M : List Nat) (L : Own) (D : List Atom)
    (hf : P.funcs[f]? = some fn) (hb : fn.body = some x) (n : Nat) (hn : n = fn.ntmps) (hargs : args.length ≤ n) (hst : St w M w L) (hd : DH D w L)
    (h : WC ⟨P, n, w, M⟩ x (bodyPost P fn fun e w' => ∃ v, e = .returned v ∧ Φ v w') (ent 0 args) L D) : Ret P f args w Φ := by
  subst hn
  refine calls_of_wp hf hb (h _ w ⟨?_, rfl, ?_⟩ hst hd)
  · simp; omega
  · intro i v hi
    obtain ⟨_, hi⟩ := lk_ent args 0 i v hi
    have : i < args.length := (List.getElem?_eq_some_iff.1 hi).1
    simp only [Nat.sub_zero] at hi
    rw [Array.getElem?_append_left (by simpa using this)]
    simpa using hi

theorem St.start (w : World) (M : List Nat) : St w M w [] := ⟨Stp.refl _ _, by simp, by simp [bsOf], by simp [bsOf]⟩

section
variable {c : Cx} {env : Env} {L : Own} {D : List Atom} {fn : Func} {Φ : Value → World → Prop}
theorem ret1 {t : Nat} {v : Value} (hr : fn.results = #[.tmp t]) (hv : lk env t = some v)
    (h : ∀ w, St c.w0 c.M w L → DH D w L → Φ v w) : WQ c (bodyPost c.P fn fun e w' => ∃ v, e = .returned v ∧ Φ v w') .ret env L D := by
  intro a w f st d
  refine bodyPost_ret (results_tmp hr _ _ _) f.dn ⟨_, rfl, ?_⟩
  have := f.at_ t v hv
  simpa [this] using h w st d
theorem ret2 {t u : Nat} {v1 v2 : Value} (hr : fn.results = #[.tmp t, .tmp u]) (h1 : lk env t = some v1) (h2 : lk env u = some v2)
    (h : ∀ w, St c.w0 c.M w L → DH D w L → Φ (.tuple #[v1, v2]) w) : WQ c (bodyPost c.P fn fun e w' => ∃ v, e = .returned v ∧ Φ v w') .ret env L D := by
  intro a w f st d
  refine bodyPost_ret (results_tmp2 hr _ _ _) f.dn ⟨_, rfl, ?_⟩
  have e1 := f.at_ t v1 h1
  have e2 := f.at_ u v2 h2
  simpa [e1, e2] using h w st d
theorem ret3 {t u s : Nat} {v1 v2 v3 : Value} (hr : fn.results = #[.tmp t, .tmp u, .tmp s]) (h1 : lk env t = some v1) (h2 : lk env u = some v2) (h3 : lk env s = some v3)
    (h : ∀ w, St c.w0 c.M w L → DH D w L → Φ (.tuple #[v1, v2, v3]) w) : WQ c (bodyPost c.P fn fun e w' => ∃ v, e = .returned v ∧ Φ v w') .ret env L D := by
  intro a w f st d
  refine bodyPost_ret (results_tmp3 hr _ _ _) f.dn ⟨_, rfl, ?_⟩
  have e1 := f.at_ t v1 h1
  have e2 := f.at_ u v2 h2
  have e3 := f.at_ s v3 h3
  simpa [e1, e2, e3] using h w st d
theorem ret0N (hr : fn.results = #[])
    (h : ∀ w, St c.w0 c.M w L → DH D w L → Φ (.tuple #[]) w) : WQ c (bodyPost c.P fn fun e w' => ∃ v, e = .returned v ∧ Φ v w') .normal env L D := by
  intro a w f st d
  exact bodyPost_end (results_none hr _ _ _) f.dn ⟨_, rfl, h w st d⟩
theorem ret0 (hr : fn.results = #[])
    (h : ∀ w, St c.w0 c.M w L → DH D w L → Φ (.tuple #[]) w) : WQ c (bodyPost c.P fn fun e w' => ∃ v, e = .returned v ∧ Φ v w') .ret env L D := by
  intro a w f st d
  exact bodyPost_ret (results_none hr _ _ _) f.dn ⟨_, rfl, h w st d⟩
end
end Go.Eng
