/- Part 1 of auditPlays_holds. -/
import Derived.WalkKit
import Derived.WalkSpells
import Derived.WalkLawsBesides
import Derived.Orders
import Derived.Deep.MidRow

set_option maxRecDepth 20000
set_option maxHeartbeats 1000000
namespace Go.Eng
section
theorem lt_blt {a b : Nat} (h : Nat.blt a b = true) : a < b := Nat.le_of_ble_eq_true h
abbrev Env := List (Nat × Value)
def lk : Env → Nat → Option Value
 | [], _ => none
 | (j, v) :: r, i => bif j == i then some v else lk r i
def ev (env : Env) : Operand → Option Value
 | .tmp t => lk env t
 | .const v => some v
 | .global g => some (.pointer (some ⟨g, 0, none⟩))
 | .func f => some (.func (.func f) #[] #[])
def evs (env : Env) : List Operand → Option (List Value)
 | [] => some []
 | x :: r => match ev env x, evs env r with
  | some v, some vs => some (v :: vs)
  | _, _ => none
def Sub : Env → Env → Prop
 | [], _ => True
 | (i, v) :: r, e => lk e i = some v ∧ Sub r e
structure Fr (n : Nat) (a : Act) (env : Env) : Prop where
 size : a.tmps.size = n
 dn : a.defers = []
 at_ : ∀ i v, lk env i = some v → a.tmps[i]? = some v
theorem Fr.ev {n : Nat} {a : Act} {env : Env} (h : Fr n a env) {x : Operand} {v : Value} (hx : ev env x = some v) : a.eval x = v := by
 cases x with
 | tmp t =>
  have := h.at_ t v hx
  simp [Act.eval, this]
 | const u => simpa [Eng.ev, Act.eval] using hx
 | global g => simpa [Eng.ev, Act.eval] using hx
 | func f => simpa [Eng.ev, Act.eval] using hx
theorem Fr.evs {n : Nat} {a : Act} {env : Env} (h : Fr n a env) : ∀ {l : List Operand} {vs : List Value}, evs env l = some vs → l.map a.eval = vs
 | [], vs, hx => by simpa [Eng.evs] using hx
 | x :: r, vs, hx => by
  simp only [Eng.evs] at hx
  split at hx
  · rename_i v us h1 h2
    have := h.evs h2
    simp only [Option.some.injEq] at hx
    subst hx
    simp [h.ev h1, this]
  · cases hx
theorem Fr.put {n : Nat} {a : Act} {env : Env} (h : Fr n a env) {d : Nat} (v : Value) (hd : d < n) : Fr n (a.put (some d) v) ((d, v) :: env) := by
 refine ⟨by simp [Act.put, h.size], h.dn, fun i u hi => ?_⟩
 simp only [lk] at hi
 by_cases hdi : d = i
 · subst hdi
   simp at hi
   subst hi
   have : d < a.tmps.size := by rw [h.size]; exact hd
   simp [Act.put, this]
 · have : (d == i) = false := by simpa using hdi
   rw [this] at hi
   simp only [cond_false] at hi
   have := h.at_ i u hi
   simp [Act.put, Array.getElem?_setIfInBounds_ne hdi, this]
theorem Fr.putNone {n : Nat} {a : Act} {env : Env} (h : Fr n a env) (v : Value) : Fr n (a.put none v) env := h
theorem lk_of_sub {env env' : Env} : Sub env' env → ∀ i v, lk env' i = some v → lk env i = some v := by
 intro h
 induction env' with
 | nil => intro i v hi; cases hi
 | cons p r ih =>
  obtain ⟨j, u⟩ := p
  obtain ⟨h1, h2⟩ := h
  intro i v hi
  simp only [lk] at hi
  by_cases hj : j = i
  · subst hj
    simp at hi
    subst hi
    exact h1
  · have : (j == i) = false := by simpa using hj
    rw [this] at hi
    exact ih h2 i v hi
theorem Fr.sub {n : Nat} {a : Act} {env env' : Env} (h : Fr n a env) (hs : Sub env' env) : Fr n a env' :=
 ⟨h.size, h.dn, fun i v hi => h.at_ i v (lk_of_sub hs i v hi)⟩
structure Stp (X : List Nat) (w w' : World) : Prop where
 os : w'.os = w.os
 tape : w'.tape = w.tape
 output : w'.output = w.output
 size : w.heap.size ≤ w'.heap.size
 block : ∀ k, k < w.heap.size → k ∉ X → w'.heap[k]? = w.heap[k]?
theorem Stp.refl (X : List Nat) (w : World) : Stp X w w := ⟨rfl, rfl, rfl, Nat.le_refl _, fun _ _ _ => rfl⟩
theorem Stp.trans {X : List Nat} {a b c : World} (h : Stp X a b) (k : Stp X b c) : Stp X a c :=
 ⟨k.os.trans h.os, k.tape.trans h.tape, k.output.trans h.output, Nat.le_trans h.size k.size, fun i hi hx => (k.block i (Nat.lt_of_lt_of_le hi h.size) hx).trans (h.block i hi hx)⟩
theorem Stp.mono {X Y : List Nat} {a b : World} (h : Stp X a b) (hx : ∀ k, k ∈ X → k ∈ Y) : Stp Y a b :=
 ⟨h.os, h.tape, h.output, h.size, fun i hi hy => h.block i hi (fun hk => hy (hx i hk))⟩
theorem Stp.nil {Y : List Nat} {a b : World} (h : Stp [] a b) : Stp Y a b := h.mono (by simp)
theorem Stp.drew (X : List Nat) (w : World) : Stp X w w.drew := ⟨rfl, rfl, rfl, Nat.le_refl _, fun _ _ _ => rfl⟩
theorem Stp.alloc (X : List Nat) (w : World) (o : Obj) : Stp X w (w.alloc o) :=
 ⟨rfl, rfl, rfl, by simp, fun k hk _ => heap_alloc_old w o hk⟩
theorem Stp.trans_new {X Y : List Nat} {a b c : World} (h : Stp X a b) (k : Stp Y b c) (hn : ∀ i, i ∈ Y → i ∈ X ∨ a.heap.size ≤ i) : Stp X a c :=
 ⟨k.os.trans h.os, k.tape.trans h.tape, k.output.trans h.output, Nat.le_trans h.size k.size, fun i hi hx =>
  (k.block i (Nat.lt_of_lt_of_le hi h.size) (fun hy => by rcases hn i hy with h1 | h1; exact hx h1; omega)).trans (h.block i hi hx)⟩
theorem Stp.below {w w' : World} (h : Stp [] w w') : RowKit.Below w.heap.size w w' := ⟨h.os, h.tape, h.output, h.size, fun k hk => h.block k hk (by simp)⟩
theorem lt_of_heap {w : World} {b : Nat} {o : Obj} (h : w.heap[b]? = some o) : b < w.heap.size := (Array.getElem?_eq_some_iff.1 h).1
class Rep (α : Type) where
 size : Nat
 agg : Bool
 rd : (Nat → Prop) → World → List Value → α → Prop
 len : ∀ {S w cs x}, rd S w cs x → cs.length = size
 one : ∀ {S w cs x}, rd S w cs x → ∀ u ∈ cs, u.oneCell' = true
 keep : ∀ {S S' : Nat → Prop} {w w' : World} {cs x}, rd S w cs x → (∀ b, S b → S' b) → (∀ b, S b → w'.heap[b]? = w.heap[b]?) → rd S' w' cs x
structure OwnE where
 bs : List Nat
 holds : (Nat → Prop) → World → Prop
 valid : ∀ {S w}, holds S w → ∀ b ∈ bs, b < w.heap.size
 keep : ∀ {S S' : Nat → Prop} {w w' : World}, holds S w → (∀ b, S b → S' b) → (∀ b, S b ∨ b ∈ bs → w'.heap[b]? = w.heap[b]?) → holds S' w'
 ty : TypeId := 0
 cs : List Value := []
abbrev Own := List OwnE
def bsOf : Own → List Nat
 | [] => []
 | p :: r => p.bs ++ bsOf r
abbrev Own.bs (L : Own) : List Nat := bsOf L
theorem mem_bsOf {L : Own} {b : Nat} : b ∈ bsOf L ↔ ∃ p ∈ L, b ∈ p.bs := by
 induction L with
 | nil => simp [bsOf]
 | cons p r ih => simp [bsOf, ih]
def Sf (X : List Nat) (w : World) : Nat → Prop := fun b => b < w.heap.size ∧ b ∉ X
structure St (w0 : World) (M : List Nat) (w : World) (L : Own) : Prop where
 stp : Stp M w0 w
 own : ∀ p ∈ L, p.holds (Sf L.bs w) w
 nd : L.bs.Nodup
 new : ∀ b ∈ L.bs, b ∈ M ∨ w0.heap.size ≤ b
theorem St.lt {w0 w : World} {M : List Nat} {L : Own} (h : St w0 M w L) : ∀ b ∈ L.bs, b < w.heap.size := by
 intro b hb
 obtain ⟨p, hp, hpb⟩ := mem_bsOf.1 hb
 exact p.valid (h.own p hp) b hpb
structure Atom where
 {α : Type}
 [r : Rep α]
 v : Value
 x : α
def isAggV : Value → Bool
 | .agg _ => true
 | _ => false
def Atom.holds (t : Atom) (S : Nat → Prop) (w : World) : Prop := isAggV t.v = t.r.agg ∧ t.r.rd S w t.v.cells.toList t.x
theorem cells_of_not {v : Value} (h : isAggV v = false) : v.cells = #[v] := by cases v <;> first | rfl | cases h
theorem Atom.keep {t : Atom} {S S' : Nat → Prop} {w w' : World} (h : t.holds S w) (hs : ∀ b, S b → S' b) (hw : ∀ b, S b → w'.heap[b]? = w.heap[b]?) : t.holds S' w' :=
 ⟨h.1, t.r.keep h.2 hs hw⟩
def DH (D : List Atom) (w : World) (L : Own) : Prop := ∀ t ∈ D, t.holds (Sf L.bs w) w
theorem DH.nil {w : World} {L : Own} : DH [] w L := by intro t h; cases h
theorem DH.cons {t : Atom} {D : List Atom} {w : World} {L : Own} (h : t.holds (Sf L.bs w) w) (hd : DH D w L) : DH (t :: D) w L := by
 intro u hu
 rcases List.mem_cons.1 hu with rfl | hu
 · exact h
 · exact hd u hu
theorem DH.app {D1 D2 : List Atom} {w : World} {L : Own} (h : DH D1 w L) (hd : DH D2 w L) : DH (D1 ++ D2) w L := by
 intro u hu
 rcases List.mem_append.1 hu with hu | hu
 · exact h u hu
 · exact hd u hu
def SubD (D' D : List Atom) : Prop := ∀ t ∈ D', t ∈ D
theorem SubD.nil {D : List Atom} : SubD [] D := by intro t h; cases h
theorem SubD.refl {D : List Atom} : SubD D D := fun _ h => h
theorem SubD.tail {D' D : List Atom} {t : Atom} (h : SubD D' D) : SubD D' (t :: D) := fun u hu => List.mem_cons_of_mem _ (h u hu)
theorem SubD.cons {D' D : List Atom} {t : Atom} (i : Nat) (ht : D[i]? = some t) (h : SubD D' D) : SubD (t :: D') D := by
 intro u hu
 rcases List.mem_cons.1 hu with rfl | hu
 · exact List.mem_of_getElem? ht
 · exact h u hu
theorem DH.sub {D D' : List Atom} {w : World} {L : Own} (hd : DH D w L) (h : SubD D' D) : DH D' w L := fun t ht => hd t (h t ht)
theorem DH.at_ {D : List Atom} {w : World} {L : Own} (hd : DH D w L) (i : Nat) {t : Atom} (ht : D[i]? = some t) : t.holds (Sf L.bs w) w := hd t (List.mem_of_getElem? ht)
theorem DH.turn {D : List Atom} {w w' : World} {L L' : Own} (hd : DH D w L) (hs : Stp L.bs w w') (hl : ∀ b ∈ L'.bs, b ∈ L.bs ∨ w.heap.size ≤ b) : DH D w' L' := fun t ht =>
 t.keep (hd t ht) (fun b hb => ⟨Nat.lt_of_lt_of_le hb.1 hs.size, fun h => by
  rcases hl b h with h | h
  · exact hb.2 h
  · have := hb.1; omega⟩) (fun b hb => hs.block b hb.1 hb.2)
theorem DH.step {D : List Atom} {w w' : World} {L : Own} (hd : DH D w L) (hs : Stp L.bs w w') : DH D w' L := hd.turn hs fun _ h => .inl h
theorem St.step {w0 w w' : World} {M : List Nat} {L : Own} (h : St w0 M w L) (hs : Stp [] w w') : St w0 M w' L :=
 ⟨h.stp.trans hs.nil, fun p hp => p.keep (h.own p hp) (fun b hb => ⟨Nat.lt_of_lt_of_le hb.1 hs.size, hb.2⟩) (fun b hb => by
  refine hs.block b ?_ (by simp)
  rcases hb with hb | hb
  · exact hb.1
  · exact h.lt b (mem_bsOf.2 ⟨p, hp, hb⟩)), h.nd, h.new⟩
theorem St.push {w0 w w' : World} {M : List Nat} {L : Own} {p : OwnE} (h : St w0 M w L) (hs : Stp [] w w') (hp : p.holds (Sf (Own.bs (p :: L)) w') w')
 (hn : p.bs.Nodup) (hb : ∀ b ∈ p.bs, w.heap.size ≤ b) : St w0 M w' (p :: L) := by
 have h' := h.step hs
 refine ⟨h'.stp, ?_, ?_, ?_⟩
 · intro q hq
   rcases List.mem_cons.1 hq with rfl | hq
   · exact hp
   · refine q.keep (h.own q hq) (fun b hb' => ⟨Nat.lt_of_lt_of_le hb'.1 hs.size, ?_⟩) (fun b hb' => ?_)
     · simp only [Own.bs, bsOf, List.mem_append, not_or]
       exact ⟨fun hx => by have := hb b hx; have := hb'.1; omega, hb'.2⟩
     · refine hs.block b ?_ (by simp)
       rcases hb' with hb' | hb'
       · exact hb'.1
       · exact h.lt b (mem_bsOf.2 ⟨q, hq, hb'⟩)
 · simp only [Own.bs, bsOf, List.nodup_append]
   refine ⟨hn, h.nd, fun a ha b hb' => ?_⟩
   have := hb a ha
   have := h.lt b hb'
   omega
 · intro b hb'
   simp only [Own.bs, bsOf, List.mem_append] at hb'
   rcases hb' with hb' | hb'
   · exact .inr (Nat.le_trans h.stp.size (hb b hb'))
   · exact h.new b hb'
theorem DH.push {D : List Atom} {w w' : World} {L : Own} {p : OwnE} (hd : DH D w L) (hs : Stp [] w w') (hb : ∀ b ∈ p.bs, w.heap.size ≤ b) : DH D w' (p :: L) :=
 hd.turn hs.nil fun b h => by
  simp only [Own.bs, bsOf, List.mem_append] at h
  rcases h with h | h
  · exact .inr (hb b h)
  · exact .inl h
theorem bs_set {L : Own} {i : Nat} {p p' : OwnE} (hi : L[i]? = some p) : ∀ b ∈ Own.bs (L.set i p'), b ∈ p'.bs ∨ b ∈ L.bs := by
 intro b hb
 obtain ⟨q, hq, hqb⟩ := mem_bsOf.1 hb
 rcases List.mem_or_eq_of_mem_set hq with h | h
 · exact .inr (mem_bsOf.2 ⟨q, h, hqb⟩)
 · subst h; exact .inl hqb
theorem nodup_set : ∀ {L : Own} {i : Nat} {p p' : OwnE}, L[i]? = some p → L.bs.Nodup → p'.bs.Nodup → (∀ b ∈ p'.bs, b ∈ p.bs ∨ b ∉ L.bs) → (Own.bs (L.set i p')).Nodup
 | [], i, p, p', hi, _, _, _ => by simp at hi
 | q :: r, 0, p, p', hi, hn, hp, hb => by
  simp at hi
  subst hi
  simp only [List.set_cons_zero, Own.bs, bsOf, List.nodup_append] at hn ⊢
  refine ⟨hp, hn.2.1, fun a ha b hb' e => ?_⟩
  subst e
  rcases hb a ha with h | h
  · exact hn.2.2 a h a hb' rfl
  · exact h (by simp [bsOf, hb'])
 | q :: r, i + 1, p, p', hi, hn, hp, hb => by
  simp only [List.getElem?_cons_succ] at hi
  simp only [List.set_cons_succ, Own.bs, bsOf, List.nodup_append] at hn ⊢
  refine ⟨hn.1, nodup_set hi hn.2.1 hp (fun b hb' => ?_), fun a ha b hb' e => ?_⟩
  · rcases hb b hb' with h | h
    · exact .inl h
    · exact .inr (fun hx => h (by simp [bsOf]; exact .inr hx))
  · subst e
    rcases bs_set hi a hb' with h | h
    · rcases hb a h with h | h
      · exact hn.2.2 a ha a (mem_bsOf.2 ⟨p, List.mem_of_getElem? hi, h⟩) rfl
      · exact h (by simp [bsOf, ha])
    · exact hn.2.2 a ha a h rfl
theorem St.upd {w0 w w' : World} {M : List Nat} {L : Own} {p p' : OwnE} (i : Nat) (hi : L[i]? = some p) (h : St w0 M w L) (hs : Stp p.bs w w')
 (hp : p'.holds (Sf (Own.bs (L.set i p')) w') w') (hn : p'.bs.Nodup) (hb : ∀ b ∈ p'.bs, b ∈ p.bs ∨ w.heap.size ≤ b) : St w0 M w' (L.set i p') := by
 have hpb : ∀ b ∈ p.bs, b ∈ L.bs := fun b hx => mem_bsOf.2 ⟨p, List.mem_of_getElem? hi, hx⟩
 have hsub : ∀ b, Sf L.bs w b → Sf (Own.bs (L.set i p')) w' b := fun b hx => ⟨Nat.lt_of_lt_of_le hx.1 hs.size, fun hy => by
  rcases bs_set hi b hy with h1 | h1
  · rcases hb b h1 with h2 | h2
    · exact hx.2 (hpb b h2)
    · have := hx.1; omega
  · exact hx.2 h1⟩
 refine ⟨h.stp.trans_new hs (fun b hx => h.new b (hpb b hx)), ?_, ?_, ?_⟩
 · intro q hq
   obtain ⟨j, hj⟩ := List.getElem?_of_mem hq
   by_cases hij : i = j
   · subst hij
     have hlt : i < L.length := (List.getElem?_eq_some_iff.1 hi).1
     rw [List.getElem?_set_self hlt] at hj
     injection hj with hj
     subst hj
     exact hp
   · rw [List.getElem?_set_ne hij] at hj
     have hqm := List.mem_of_getElem? hj
     refine q.keep (h.own q hqm) hsub (fun b hx => hs.block b ?_ ?_)
     · rcases hx with hx | hx
       · exact hx.1
       · exact h.lt b (mem_bsOf.2 ⟨q, hqm, hx⟩)
     · rcases hx with hx | hx
       · exact fun hy => hx.2 (hpb b hy)
       · exact fun hy => bs_ne hi hj hij h.nd b hy hx
 · exact nodup_set hi h.nd hn (fun b hx => (hb b hx).imp id (fun h1 h2 => by have := h.lt b h2; omega))
 · intro b hx
   rcases bs_set hi b hx with h1 | h1
   · rcases hb b h1 with h2 | h2
     · exact h.new b (hpb b h2)
     · exact .inr (Nat.le_trans h.stp.size h2)
   · exact h.new b h1
where
 bs_ne {L : Own} {i j : Nat} {p q : OwnE} (hi : L[i]? = some p) (hj : L[j]? = some q) (hij : i ≠ j) (hn : L.bs.Nodup) : ∀ b ∈ p.bs, b ∉ q.bs := by
  intro b h1 h2
  induction L generalizing i j with
  | nil => simp at hi
  | cons x r ih =>
   simp only [Own.bs, bsOf, List.nodup_append] at hn
   cases i with
   | zero =>
    cases j with
    | zero => exact hij rfl
    | succ j =>
     simp at hi hj
     subst hi
     exact hn.2.2 b h1 b (mem_bsOf.2 ⟨q, List.mem_of_getElem? hj, h2⟩) rfl
   | succ i =>
    cases j with
    | zero =>
     simp at hi hj
     subst hj
     exact hn.2.2 b h2 b (mem_bsOf.2 ⟨p, List.mem_of_getElem? hi, h1⟩) rfl
    | succ j =>
     simp at hi hj
     exact ih hi hj (by omega) hn.2.1
theorem DH.upd {D : List Atom} {w w' : World} {L : Own} {p p' : OwnE} (i : Nat) (hi : L[i]? = some p) (hd : DH D w L) (hs : Stp p.bs w w') (hb : ∀ b ∈ p'.bs, b ∈ p.bs ∨ w.heap.size ≤ b) : DH D w' (L.set i p') :=
 hd.turn (hs.mono fun b hx => mem_bsOf.2 ⟨p, List.mem_of_getElem? hi, hx⟩) fun b h => by
  rcases bs_set hi b h with h1 | h1
  · exact (hb b h1).imp (fun hx => mem_bsOf.2 ⟨p, List.mem_of_getElem? hi, hx⟩) id
  · exact .inl h1
theorem St.drop {w0 w : World} {M : List Nat} {p : OwnE} {L : Own} (h : St w0 M w (p :: L)) : St w0 M w L := by
 have hn := h.nd
 simp only [Own.bs, bsOf, List.nodup_append] at hn
 refine ⟨h.stp, fun q hq => q.keep (h.own q (List.mem_cons_of_mem _ hq)) (fun b hb => ⟨hb.1, fun hx => hb.2 (by simp [bsOf]; exact .inr hx)⟩) (fun _ _ => rfl), hn.2.1, fun b hb => h.new b (by simp [bsOf]; exact .inr hb)⟩
theorem DH.drop {D : List Atom} {w : World} {p : OwnE} {L : Own} (hd : DH D w (p :: L)) : DH D w L := fun t ht =>
 t.keep (hd t ht) (fun b hb => ⟨hb.1, fun h => hb.2 (by simp [bsOf]; exact .inr h)⟩) (fun _ _ => rfl)
theorem St.freeze {w0 w : World} {M : List Nat} {p : OwnE} {L : Own} {t : Atom} (h : St w0 M w (p :: L)) (ht : ∀ S, (∀ b ∈ p.bs, S b) → (∀ b, Sf (Own.bs (p :: L)) w b → S b) → p.holds (Sf (Own.bs (p :: L)) w) w → t.holds S w) : t.holds (Sf L.bs w) w := by
 have hn := h.nd
 simp only [Own.bs, bsOf, List.nodup_append] at hn
 refine ht _ (fun b hb => ⟨h.lt b (by simp [bsOf, hb]), fun hx => hn.2.2 b hb b hx rfl⟩) (fun b hb => ⟨hb.1, fun hx => hb.2 (by simp [bsOf]; exact .inr hx)⟩) (h.own p (List.mem_cons_self ..))
structure Cx where
 P : Program
 n : Nat
 w0 : World
 M : List Nat
def WL (Q : Exit → Act → World → Prop) (c : Cx) (ops : Array Oper) (l : List Oper) (env : Env) (L : Own) (D : List Atom) : Prop :=
 ∀ a w, Fr c.n a env → St c.w0 c.M w L → DH D w L → wpList c.P ops Q l a w
def WC (c : Cx) (x : Code) (Q : Exit → Act → World → Prop) (env : Env) (L : Own) (D : List Atom) : Prop :=
 ∀ a w, Fr c.n a env → St c.w0 c.M w L → DH D w L → Code.wp c.P x Q a w
def WQ (c : Cx) (Q : Exit → Act → World → Prop) (e : Exit) (env : Env) (L : Own) (D : List Atom) : Prop :=
 ∀ a w, Fr c.n a env → St c.w0 c.M w L → DH D w L → Q e a w
section
variable {c : Cx} {ops : Array Oper} {Q Q' : Exit → Act → World → Prop} {env env' : Env} {L L' : Own} {D D' : List Atom} {x y : Code} {rest : List Oper}
theorem sq (h : WC c x (Exit.then (Code.wp c.P y Q) Q) env L D) : WC c (.seq x y) Q env L D := fun a w f s d => wp_seq (h a w f s d)
theorem nx (h : WC c y Q env L D) : WQ c (Exit.then (Code.wp c.P y Q) Q') .normal env L D := h
theorem rg {id : Nat} {l : List Oper} (h : WL Q c l.toArray l env L D) : WC c (.region id l.toArray false) Q env L D := fun a w f s d => wp_region_lit (h a w f s d)
theorem nl (h : WQ c Q .normal env L D) : WL Q c ops [] env L D := fun a w f s d => wpList_nil (h a w f s d)
theorem bk {id : Nat} (h : WC c x (Exit.inBlock id Q) env L D) : WC c (.block id x) Q env L D := fun a w f s d => wp_block (h a w f s d)
theorem ex {id : Nat} (h : WQ c Q (.exit id) env L D) : WC c (.exit id) Q env L D := fun a w f s d => wp_exit (h a w f s d)
theorem rt (h : WQ c Q .ret env L D) : WC c .ret Q env L D := fun a w f s d => wp_ret (h a w f s d)
theorem sk (h : WQ c Q .normal env L D) : WC c .skip Q env L D := fun a w f s d => wp_skip (h a w f s d)
theorem tR {K : Act → World → Prop} (h : WQ c Q .ret env L D) : WQ c (Exit.then K Q) .ret env L D := h
theorem tE {K : Act → World → Prop} {id : Nat} (h : WQ c Q (.exit id) env L D) : WQ c (Exit.then K Q) (.exit id) env L D := h
theorem bR {id : Nat} (h : WQ c Q .ret env L D) : WQ c (Exit.inBlock id Q) .ret env L D := h
theorem bN {id : Nat} (h : WQ c Q .normal env L D) : WQ c (Exit.inBlock id Q) .normal env L D := h
theorem bE {id : Nat} (h : WQ c Q .normal env L D) : WQ c (Exit.inBlock id Q) (.exit id) env L D := fun a w f s d => by
 simp only [Exit.inBlock, if_true]; exact h a w f s d
theorem wkL (env' : Env) (D' : List Atom) (he : Sub env' env) (hd : SubD D' D) {l : List Oper} (h : WL Q c ops l env' L D') : WL Q c ops l env L D := fun a w f s d => h a w (f.sub he) s (d.sub hd)
theorem wkC (env' : Env) (D' : List Atom) (he : Sub env' env) (hd : SubD D' D) (h : WC c x Q env' L D') : WC c x Q env L D := fun a w f s d => h a w (f.sub he) s (d.sub hd)
theorem wkQ {e : Exit} (env' : Env) (D' : List Atom) (he : Sub env' env) (hd : SubD D' D) (h : WQ c Q e env' L D') : WQ c Q e env L D := fun a w f s d => h a w (f.sub he) s (d.sub hd)
theorem dpQ {e : Exit} {p : OwnE} (h : WQ c Q e env L D) : WQ c Q e env (p :: L) D := fun a w f s d => h a w f s.drop d.drop
theorem dpL {l : List Oper} {p : OwnE} (h : WL Q c ops l env L D) : WL Q c ops l env (p :: L) D := fun a w f s d => h a w f s.drop d.drop
theorem cdB {o : Operand} {t : Bool} (hc : ev env o = some (.bool t)) (h1 : t = true → WC c x Q env L D) (h2 : t = false → WC c y Q env L D) : WC c (.cond o x y) Q env L D :=
 fun a w f s d => wp_cond_split (f.ev hc) (fun h => h1 h a w f s d) (fun h => h2 h a w f s d)
theorem cdT {o : Operand} (hc : ev env o = some (.bool true)) (h1 : WC c x Q env L D) : WC c (.cond o x y) Q env L D :=
 fun a w f s d => wp_cond_true (f.ev hc) (h1 a w f s d)
theorem cdF {o : Operand} (hc : ev env o = some (.bool false)) (h1 : WC c y Q env L D) : WC c (.cond o x y) Q env L D :=
 fun a w f s d => wp_cond_false (f.ev hc) (h1 a w f s d)
theorem cdP {o : Operand} {p : Prop} [Decidable p] (hc : ev env o = some (.bool (decide p))) (h1 : p → WC c x Q env L D) (h2 : ¬ p → WC c y Q env L D) : WC c (.cond o x y) Q env L D :=
 cdB hc (fun h => h1 (of_decide_eq_true h)) (fun h => h2 (of_decide_eq_false h))
theorem cdN {o : Operand} {p : Prop} [Decidable p] (hc : ev env o = some (.bool (!decide p))) (h1 : ¬ p → WC c x Q env L D) (h2 : p → WC c y Q env L D) : WC c (.cond o x y) Q env L D :=
 cdB hc (fun h => h1 (by simpa using h)) (fun h => h2 (by simpa using h))
def LoopK (c : Cx) {σ : Type} (E : σ → Env) (LL : σ → Own) (DD : σ → List Atom) (I : σ → Prop) (μ : σ → Nat) (s : σ) : Act → World → Prop :=
 fun a w => ∃ s', I s' ∧ μ s' < μ s ∧ Fr c.n a (E s') ∧ St c.w0 c.M w (LL s') ∧ DH (DD s') w (LL s')
theorem lp {σ : Type} (E : σ → Env) (LL : σ → Own) (DD : σ → List Atom) (I : σ → Prop) (μ : σ → Nat) (s0 : σ) (hI : I s0)
 (hE : Sub (E s0) env) (hL : LL s0 = L) (hD : SubD (DD s0) D)
 (body : ∀ s, I s → WC c x (Exit.then (LoopK c E LL DD I μ s) Q) (E s) (LL s) (DD s)) : WC c (.loop x) Q env L D := by
 intro a w f st d
 subst hL
 -- the measure has to be read off the frame and the world: it is chosen
 have key : ∀ (m : Nat) (s : σ), μ s = m → I s → ∀ a w, Fr c.n a (E s) → St c.w0 c.M w (LL s) → DH (DD s) w (LL s) →
  ∀ (b : Frame) (k : List Item) (cs : List Frame), ∃ e a' w', Q e a' w' ∧ Arrives c.P (lone (b.at a (.code x :: .inLoop x :: k)) cs w) b k cs e a' w' := by
  intro m
  induction m using Nat.strongRecOn with
  | _ m ih =>
   intro s hm hI a w f st d b k cs
   obtain ⟨e, a₁, w₁, hq, harr⟩ := body s hI a w f st d b (.inLoop x :: k) cs
   cases e with
   | normal =>
    obtain ⟨s', hI', hlt, f', st', d'⟩ := hq
    obtain ⟨e₂, a₂, w₂, hq₂, harr₂⟩ := ih (μ s') (hm ▸ hlt) s' rfl hI' a₁ w₁ f' st' d' b k cs
    exact ⟨e₂, a₂, w₂, hq₂, .of_steps (Steps.trans harr (.one step_inLoop)) harr₂⟩
   | exit id => exact ⟨_, a₁, w₁, hq, .pass (x := .inLoop x) rfl (fun _ _ => .inl (by simp)) harr⟩
   | goto l => exact ⟨_, a₁, w₁, hq, .pass (x := .inLoop x) rfl (fun _ _ => .inl (by simp)) harr⟩
   | ret => exact ⟨_, a₁, w₁, hq, .pass (x := .inLoop x) rfl (fun _ _ => .inl (by simp)) harr⟩
   | panic ch => exact ⟨_, a₁, w₁, hq, .pass (x := .inLoop x) rfl (fun _ _ => .inl (by simp)) harr⟩
   | outgrown => exact ⟨_, a₁, w₁, hq, .pass (x := .inLoop x) rfl (fun _ _ => .inl (by simp)) harr⟩
 intro b k cs
 obtain ⟨e, a', w', hq, harr⟩ := key _ s0 rfl hI a w (f.sub hE) st (d.sub hD) b k cs
 exact ⟨e, a', w', hq, .of_steps (.one step_loop) harr⟩
theorem ag {σ : Type} {E : σ → Env} {LL : σ → Own} {DD : σ → List Atom} {I : σ → Prop} {μ : σ → Nat} {s : σ} (s' : σ) (hI : I s') (hμ : μ s' < μ s)
 (hE : Sub (E s') env) (hL : LL s' = L) (hD : SubD (DD s') D) : WQ c (Exit.then (LoopK c E LL DD I μ s) Q) .normal env L D := by
 intro a w f st d
 subst hL
 exact ⟨s', hI, hμ, f.sub hE, st, d.sub hD⟩
def JK (c : Cx) {σ : Type} (E : σ → Env) (LL : σ → Own) (DD : σ → List Atom) (I : σ → Prop) : Act → World → Prop :=
 fun a w => ∃ s', I s' ∧ Fr c.n a (E s') ∧ St c.w0 c.M w (LL s') ∧ DH (DD s') w (LL s')
theorem jn {σ : Type} (E : σ → Env) (LL : σ → Own) (DD : σ → List Atom) (I : σ → Prop)
 (h1 : WC c x (Exit.then (JK c E LL DD I) Q) env L D) (h2 : ∀ s, I s → WQ c Q .normal (E s) (LL s) (DD s)) : WC c x Q env L D := by
 intro a w f st d
 refine wp_mono (h1 a w f st d) ?_
 intro e a' w' hq
 cases e with
 | normal => obtain ⟨s, hI, f', st', d'⟩ := hq; exact h2 s hI a' w' f' st' d'
 | _ => exact hq
theorem jx {σ : Type} {E : σ → Env} {LL : σ → Own} {DD : σ → List Atom} {I : σ → Prop} (s' : σ) (hI : I s')
 (hE : Sub (E s') env) (hL : LL s' = L) (hD : SubD (DD s') D) : WQ c (Exit.then (JK c E LL DD I) Q) .normal env L D := by
 intro a w f st d
 subst hL
 exact ⟨s', hI, f.sub hE, st, d.sub hD⟩
end
def Ret (P : Program) (f : FuncId) (args : List Value) (w : World) (Φ : Value → World → Prop) : Prop :=
 Calls P f args.toArray w fun e w' => ∃ v, e = .returned v ∧ Φ v w'
theorem Ret.mono {P : Program} {f : FuncId} {args : List Value} {w : World} {Φ Ψ : Value → World → Prop} (h : Ret P f args w Φ) (hm : ∀ v w', Φ v w' → Ψ v w') : Ret P f args w Ψ :=
 Calls.mono h fun _ w' ⟨v, he, hv⟩ => ⟨v, he, hm v w' hv⟩
def ent : Nat → List Value → Env
 | _, [] => []
 | i, v :: r => (i, v) :: ent (i + 1) r
theorem lk_ent : ∀ (l : List Value) (i j : Nat) (v : Value), lk (ent i l) j = some v → i ≤ j ∧ l[j - i]? = some v
 | [], _, _, _, h => by cases h
 | u :: r, i, j, v, h => by
  simp only [ent, lk] at h
  by_cases hij : i = j
  · subst hij
    simp at h
    subst h
    simp
  · have : (i == j) = false := by simpa using hij
    rw [this] at h
    have := lk_ent r (i + 1) j v h
    refine ⟨by omega, ?_⟩
    rw [show j - i = (j - (i + 1)) + 1 by omega]
    simpa using this.2
theorem enter {P : Program} {f : FuncId} {fn : Func} {x : Code} {args : List Value} {w : World} {Φ : Value → World → Prop} (M : List Nat) (L : Own) (D : List Atom)
 (hf : P.funcs[f]? = some fn) (hb : fn.body = some x) (n : Nat) (hn : n = fn.ntmps) (hargs : args.length ≤ n) (hst : St w M w L) (hd : DH D w L)
 (h : WC ⟨P, n, w, M⟩ x (bodyPost P fn fun e w' => ∃ v, e = .returned v ∧ Φ v w') (ent 0 args) L D) : Ret P f args w Φ := by
 subst hn
 refine calls_of_wp hf hb (h _ w ⟨?_, rfl, ?_⟩ hst hd)
 · simp; omega
 · intro i v hi
   obtain ⟨_, hi⟩ := lk_ent args 0 i v hi
   have : i < args.length := (List.getElem?_eq_some_iff.1 hi).1
   simp only [Nat.sub_zero] at hi
   rw [Array.getElem?_append_left (by simpa using this)]
   simpa using hi
theorem St.start (w : World) (M : List Nat) : St w M w [] := ⟨Stp.refl _ _, by simp, by simp [bsOf], by simp [bsOf]⟩
section
variable {c : Cx} {env : Env} {L : Own} {D : List Atom} {fn : Func} {Φ : Value → World → Prop}
theorem ret1 {t : Nat} {v : Value} (hr : fn.results = #[.tmp t]) (hv : lk env t = some v)
 (h : ∀ w, St c.w0 c.M w L → DH D w L → Φ v w) : WQ c (bodyPost c.P fn fun e w' => ∃ v, e = .returned v ∧ Φ v w') .ret env L D := by
 intro a w f st d
 refine bodyPost_ret (results_tmp hr _ _ _) f.dn ⟨_, rfl, ?_⟩
 have := f.at_ t v hv
 simpa [this] using h w st d
theorem ret2 {t u : Nat} {v1 v2 : Value} (hr : fn.results = #[.tmp t, .tmp u]) (h1 : lk env t = some v1) (h2 : lk env u = some v2)
 (h : ∀ w, St c.w0 c.M w L → DH D w L → Φ (.tuple #[v1, v2]) w) : WQ c (bodyPost c.P fn fun e w' => ∃ v, e = .returned v ∧ Φ v w') .ret env L D := by
 intro a w f st d
 refine bodyPost_ret (results_tmp2 hr _ _ _) f.dn ⟨_, rfl, ?_⟩
 have e1 := f.at_ t v1 h1
 have e2 := f.at_ u v2 h2
 simpa [e1, e2] using h w st d
theorem ret3 {t u s : Nat} {v1 v2 v3 : Value} (hr : fn.results = #[.tmp t, .tmp u, .tmp s]) (h1 : lk env t = some v1) (h2 : lk env u = some v2) (h3 : lk env s = some v3)
 (h : ∀ w, St c.w0 c.M w L → DH D w L → Φ (.tuple #[v1, v2, v3]) w) : WQ c (bodyPost c.P fn fun e w' => ∃ v, e = .returned v ∧ Φ v w') .ret env L D := by
 intro a w f st d
 refine bodyPost_ret (results_tmp3 hr _ _ _) f.dn ⟨_, rfl, ?_⟩
 have e1 := f.at_ t v1 h1
 have e2 := f.at_ u v2 h2
 have e3 := f.at_ s v3 h3
 simpa [e1, e2, e3] using h w st d
theorem ret0N (hr : fn.results = #[])
 (h : ∀ w, St c.w0 c.M w L → DH D w L → Φ (.tuple #[]) w) : WQ c (bodyPost c.P fn fun e w' => ∃ v, e = .returned v ∧ Φ v w') .normal env L D := by
 intro a w f st d
 exact bodyPost_end (results_none hr _ _ _) f.dn ⟨_, rfl, h w st d⟩
theorem ret0 (hr : fn.results = #[])
 (h : ∀ w, St c.w0 c.M w L → DH D w L → Φ (.tuple #[]) w) : WQ c (bodyPost c.P fn fun e w' => ∃ v, e = .returned v ∧ Φ v w') .ret env L D := by
 intro a w f st d
 exact bodyPost_ret (results_none hr _ _ _) f.dn ⟨_, rfl, h w st d⟩
end
end
section
def InI (x : Int) : Prop := -9223372036854775808 ≤ x ∧ x ≤ 9223372036854775807
@[reducible] def Rep.cell {α : Type} (f : α → Value) (wf : α → Prop) (h1 : ∀ x, (f x).oneCell' = true := by intro x; rfl) : Rep α where
 size := 1
 agg := false
 rd _ _ cs x := cs = [f x] ∧ wf x
 len h := by rw [h.1]; rfl
 one h := by rw [h.1]; intro u hu; simp at hu; rw [hu]; exact h1 _
 keep h _ _ := h
instance repInt : Rep Int := Rep.cell (fun x => .int .i64 x) InI
instance repBool : Rep Bool := Rep.cell (fun x => .bool x) (fun _ => True)
instance repByte : Rep UInt8 := Rep.cell (fun x => .int .u8 (x.toNat : Int)) (fun _ => True)
instance repStr : Rep ByteArray := Rep.cell (fun x => .string x) (fun x => x.size ≤ 9223372036854775807)
instance repU64 : Rep UInt64 := Rep.cell (fun x => .int .u64 (x.toNat : Int)) (fun _ => True)
instance repU32 : Rep UInt32 := Rep.cell (fun x => .int .u32 (x.toNat : Int)) (fun _ => True)
class CellR {α : Type} (r : Rep α) where
 g : α → Value
 wf : α → Prop
 h : ∀ {S w cs x}, r.rd S w cs x → cs = [g x] ∧ wf x
@[reducible] instance cellInt : CellR repInt := ⟨fun x => .int .i64 x, InI, fun h => h⟩
@[reducible] instance cellByte : CellR repByte := ⟨fun x => .int .u8 (x.toNat : Int), fun _ => True, fun h => h⟩
@[reducible] instance cellStr : CellR repStr := ⟨fun x => .string x, fun x => x.size ≤ 9223372036854775807, fun h => h⟩
def Lies (w : World) (b o : Nat) (cs : List Value) : Prop := ∀ j u, cs[j]? = some u → w.cell? ⟨b, o + j, none⟩ = some u
theorem Lies.keep {w w' : World} {b o : Nat} {cs : List Value} (h : Lies w b o cs) (hw : w'.heap[b]? = w.heap[b]?) : Lies w' b o cs :=
 fun j u hu => (World.cell?_of_block (w := w) (a := ⟨b, o + j, none⟩) hw).trans (h j u hu)
def rdSlice {α : Type} [Rep α] (S : Nat → Prop) (w : World) (cs : List Value) (xs : List α) : Prop :=
 ∃ A c, cs = [.slice A xs.length c] ∧ xs.length ≤ c ∧ c ≤ 9223372036854775807 ∧ xs.length ≤ 9223372036854775807 ∧
  (xs ≠ [] → ∃ b o, A = some ⟨b, o, none⟩ ∧ S b ∧ ∀ i x, xs[i]? = some x → ∃ ds, Rep.rd S w ds x ∧ Lies w b (o + i * Rep.size α) ds)
instance repList {α : Type} [Rep α] : Rep (List α) where
 size := 1
 agg := false
 rd := rdSlice
 len := by rintro S w cs x ⟨A, c, rfl, _⟩; rfl
 one := by rintro S w cs x ⟨A, c, rfl, _⟩ u hu; simp at hu; rw [hu]; rfl
 keep := by
  rintro S S' w w' cs xs ⟨A, c, rfl, h1, h2, h3, h4⟩ hs hw
  refine ⟨A, c, rfl, h1, h2, h3, fun hx => ?_⟩
  obtain ⟨b, o, hA, hb, hi⟩ := h4 hx
  refine ⟨b, o, hA, hs b hb, fun i x hx => ?_⟩
  obtain ⟨ds, hd, hl⟩ := hi i x hx
  exact ⟨ds, Rep.keep hd hs hw, hl.keep (hw b hb)⟩
structure Shape (α : Type) where
 H : Type
 size : Nat
 cells : α → H → List Value
 sub : α → H → List Atom
 wf : α → Prop
 len : ∀ x h, (cells x h).length = size
 one : ∀ {S w} x h, (∀ t ∈ sub x h, t.holds S w) → ∀ u ∈ cells x h, u.oneCell' = true
@[reducible] def Rep.ofShape {α : Type} (s : Shape α) : Rep α where
 size := s.size
 agg := true
 rd S w cs x := ∃ h, cs = s.cells x h ∧ (∀ t ∈ s.sub x h, t.holds S w) ∧ s.wf x
 len := by rintro S w cs x ⟨h, rfl, _⟩; exact s.len x h
 one := by rintro S w cs x ⟨h, rfl, h1, _⟩; exact s.one x h h1
 keep := by
  rintro S S' w w' cs x ⟨h, rfl, h1, h2⟩ hs hw
  exact ⟨h, rfl, fun t ht => Atom.keep (h1 t ht) hs hw, h2⟩
structure Pt (α : Type) where
 x : α
instance repPt {α : Type} [Rep α] : Rep (Pt α) where
 size := 1
 agg := false
 rd S w cs p := ∃ b o ds, cs = [.pointer (some ⟨b, o, none⟩)] ∧ S b ∧ Rep.rd S w ds p.x ∧ Lies w b o ds
 len := by rintro S w cs x ⟨b, o, ds, rfl, _⟩; rfl
 one := by rintro S w cs x ⟨b, o, ds, rfl, _⟩ u hu; simp at hu; rw [hu]; rfl
 keep := by
  rintro S S' w w' cs p ⟨b, o, ds, rfl, h1, h2, h3⟩ hs hw
  exact ⟨b, o, ds, rfl, hs b h1, Rep.keep h2 hs hw, h3.keep (hw b h1)⟩
@[reducible] def bl (b : Nat) (T : TypeId) (cs : List Value) : OwnE where
 bs := [b]
 ty := T
 cs := cs
 holds _ w := w.heap[b]? = some (.cells cs.toArray T (0, 0))
 valid h b' hb := by simp at hb; subst hb; exact lt_of_heap h
 keep h _ hw := (hw b (.inr (by simp))).trans h
def rdL {α : Type} [Rep α] (S : Nat → Prop) (w : World) : List (List Value) → List α → Prop
 | [], [] => True
 | c :: cs, x :: xs => Rep.rd S w c x ∧ rdL S w cs xs
 | _, _ => False
theorem rdL.len {α : Type} [Rep α] {S : Nat → Prop} {w : World} : ∀ {css : List (List Value)} {xs : List α}, rdL S w css xs → css.flatten.length = xs.length * Rep.size α
 | [], [], _ => by simp
 | c :: cs, _ :: xs, h => by
  have h1 := Rep.len h.1
  have h2 := rdL.len h.2
  rw [List.flatten_cons, List.length_append, h1, h2, List.length_cons, Nat.succ_mul]
  omega
 | [], _ :: _, h => h.elim
 | _ :: _, [], h => h.elim
theorem rdL.one {α : Type} [Rep α] {S : Nat → Prop} {w : World} : ∀ {css : List (List Value)} {xs : List α}, rdL S w css xs → ∀ u ∈ css.flatten, u.oneCell' = true
 | [], [], _, u, hu => by simp at hu
 | c :: cs, _ :: xs, h, u, hu => by
  rw [List.flatten_cons] at hu
  rcases List.mem_append.1 hu with hu | hu
  · exact Rep.one h.1 u hu
  · exact rdL.one h.2 u hu
 | [], _ :: _, h, _, _ => h.elim
 | _ :: _, [], h, _, _ => h.elim
theorem rdL.app {α : Type} [Rep α] {S : Nat → Prop} {w : World} : ∀ {css dss : List (List Value)} {xs ys : List α}, rdL S w css xs → rdL S w dss ys → rdL S w (css ++ dss) (xs ++ ys)
 | [], _, [], _, _, h => h
 | _ :: _, _, _ :: _, _, h, h' => ⟨h.1, rdL.app h.2 h'⟩
 | [], _, _ :: _, _, h, _ => h.elim
 | _ :: _, _, [], _, h, _ => h.elim
theorem rdL.keep {α : Type} [Rep α] {S S' : Nat → Prop} {w w' : World} : ∀ {css : List (List Value)} {xs : List α}, rdL S w css xs → (∀ b, S b → S' b) → (∀ b, S b → w'.heap[b]? = w.heap[b]?) → rdL S' w' css xs
 | [], [], _, _, _ => trivial
 | _ :: _, _ :: _, h, hs, hw => ⟨Rep.keep h.1 hs hw, rdL.keep h.2 hs hw⟩
 | [], _ :: _, h, _, _ => h.elim
 | _ :: _, [], h, _, _ => h.elim
@[reducible] def fz (X : List Nat) (w0 : World) : OwnE where
 bs := X
 holds _ w := (∀ b ∈ X, w.heap[b]? = w0.heap[b]?) ∧ (∀ b ∈ X, b < w.heap.size)
 valid h := h.2
 keep := by
  intro S S' w w' h _ hw
  have e : ∀ b ∈ X, w'.heap[b]? = w.heap[b]? := fun b hb => hw b (.inr hb)
  refine ⟨fun b hb => (e b hb).trans (h.1 b hb), fun b hb => ?_⟩
  have h1 := e b hb
  rw [Array.getElem?_eq_getElem (h.2 b hb)] at h1
  exact (Array.getElem?_eq_some_iff.1 h1).1
theorem own_valid {v : Value} {w : World} {e : TypeId} {size n : Nat} {xs : List Value} (h : w.ownsRow 0 e size v n xs) : ∀ b ∈ v.ownBlock.toList, b < w.heap.size := by
 intro b hb
 have : v.ownBlock = some b := by simpa using hb
 exact (World.ownsRow.lt h b this).2
@[reducible] def row {α : Type} [Rep α] (e : TypeId) (v : Value) (xs : List α) : OwnE where
 bs := v.ownBlock.toList
 holds S w := ∃ css, w.ownsRow 0 e (Rep.size α) v xs.length css.flatten ∧ rdL S w css xs ∧ xs.length ≤ 140737488355328
 valid := by rintro S w ⟨css, h, _⟩; exact own_valid h
 keep := by
  rintro S S' w w' ⟨css, h1, h2, h3⟩ hs hw
  refine ⟨css, ⟨h1.1, ?_⟩, h2.keep hs (fun b hb => hw b (.inl hb)), h3⟩
  rcases h1.2 with hn | ⟨g, cap, cur, rfl, hb, hg, rest⟩
  · exact .inl hn
  · exact .inr ⟨g, cap, cur, rfl, hb, (hw g (.inr (by simp [Value.ownBlock]))).trans hg, rest⟩
class IsJ (J : Cx → Array Oper → List Oper → Env → Own → List Atom → Prop) : Prop where
 read : ∀ {c : Cx} {ops : Array Oper} {env : Env} {L : Own} {D : List Atom} {rest : List Oper} {o : Oper} {dst : Option Tmp} {σ : Type}, o.guard = none → o.dst = dst → ∀ (env' : σ → Env) (D' : σ → List Atom),
  (∀ a w, Fr c.n a env → St c.w0 c.M w L → DH D w L → ∃ s u, (∀ w', Stp [] w w' → (execOp a.eval o).run c.P w' = .ok (.value u) w') ∧ Fr c.n (a.put dst u) (env' s) ∧ DH (D' s) w L) →
  (∀ s, J c ops rest (env' s) L (D' s)) → J c ops (o :: rest) env L D
 wantY : ∀ {c : Cx} {ops : Array Oper} {env : Env} {L : Own} {D : List Atom} {rest : List Oper} {dst : Option Tmp} {op : Op} {t : TypeId} {p : String} {af : Array Edge} {g : Option (Nat × Bool)},
  (∀ a w, Fr c.n a env → St c.w0 c.M w L → DH D w L → Region.wanted ⟨dst, op, t, p, af, g⟩ (yielded ops a.tmps) = true) → J c ops (⟨dst, op, t, p, af, none⟩ :: rest) env L D → J c ops (⟨dst, op, t, p, af, g⟩ :: rest) env L D
 wantN : ∀ {c : Cx} {ops : Array Oper} {env env' : Env} {L : Own} {D : List Atom} {rest : List Oper} {o : Oper},
  (∀ a w, Fr c.n a env → St c.w0 c.M w L → DH D w L → Region.wanted o (yielded ops a.tmps) = false ∧ Fr c.n (a.put o.dst undef) env') → J c ops rest env' L D → J c ops (o :: rest) env L D
 mono : ∀ {c : Cx} {ops : Array Oper} {env env' : Env} {L : Own} {D D' : List Atom} {l : List Oper}, (∀ a w, Fr c.n a env → St c.w0 c.M w L → DH D w L → Fr c.n a env' ∧ DH D' w L) → J c ops l env' L D' → J c ops l env L D
 fact : ∀ {c : Cx} {ops : Array Oper} {env : Env} {L : Own} {D : List Atom} {l : List Oper} {q : Prop}, (∀ a w, Fr c.n a env → St c.w0 c.M w L → DH D w L → q) → (q → J c ops l env L D) → J c ops l env L D
instance isJ_WL (Q : Exit → Act → World → Prop) : IsJ (WL Q) where
 read := by
  intro c ops env L D rest o dst σ hg hd env' D' hrun k a w f st dh
  refine wpList_plain hg fun K hK => ?_
  obtain ⟨s, u, hr, f', dh'⟩ := hrun a w f st dh
  unfold Oper.wp
  rw [hr w (Stp.refl _ _)]
  simp only [Oper.upon, hd]
  exact hK _ _ (k s _ _ f' st dh')
 wantY := by
  intro c ops env L D rest dst op t p af g hw k a w f st dh
  have := k a w f st dh
  unfold wpList at this ⊢
  rw [if_pos (hw a w f st dh)]
  rw [if_pos (show Region.wanted ⟨dst, op, t, p, af, none⟩ (yielded ops a.tmps) = true from rfl)] at this
  exact this
 wantN := by
  intro c ops env env' L D rest o hw k a w f st dh
  obtain ⟨h1, h2⟩ := hw a w f st dh
  unfold wpList
  rw [h1]
  simp only [Bool.false_eq_true, if_false]
  exact k _ _ h2 st dh
 mono := by
  intro c ops env env' L D D' l h k a w f st dh
  obtain ⟨h1, h2⟩ := h a w f st dh
  exact k a w h1 st h2
 fact := by
  intro c ops env L D l q h k a w f st dh
  exact k (h a w f st dh) a w f st dh
theorem wrap_i64_in {n : Int} (h : InI n) : IntKind.i64.wrap n = n := by
 rw [IntKind.wrap_i64]
 unfold InI at h
 omega
section
variable {c : Cx} {ops : Array Oper} {J : Cx → Array Oper → List Oper → Env → Own → List Atom → Prop} [iJ : IsJ J] {env : Env} {L : Own} {D : List Atom} {rest : List Oper} {d : Nat} {v : Value} {t : TypeId} {p : String} {af : Array Edge}
include iJ
theorem pu {o : Oper} (hg : o.guard = none) (hd : o.dst = some d) (hn : Nat.blt d c.n = true) (hrun : ∀ a w, Fr c.n a env → (execOp a.eval o).run c.P w = .ok (.value v) w)
 (k : J c ops rest ((d, v) :: env) L D) : J c ops (o :: rest) env L D :=
 iJ.read (σ := Unit) hg hd (fun _ => (d, v) :: env) (fun _ => D) (fun a w f st dh => ⟨(), v, fun w' _ => hrun a w' f, f.put v (lt_blt hn), dh⟩) (fun _ => k)
theorem gY {oj : Oper} {j dj : Nat} {b : Bool} (hj : ops[j]? = some oj) (hdj : oj.dst = some dj) (hb : lk env dj = some (.bool b)) {op : Op} {dst : Option Tmp}
 (k : J c ops (⟨dst, op, t, p, af, none⟩ :: rest) env L D) : J c ops (⟨dst, op, t, p, af, some (j, b)⟩ :: rest) env L D :=
 iJ.wantY (fun a w f st dh => by
  have := f.at_ _ _ hb
  simp [Region.wanted, yielded, hj, hdj, this]) k
theorem gN {oj : Oper} {j dj : Nat} {b b' : Bool} (hj : ops[j]? = some oj) (hdj : oj.dst = some dj) (hb : lk env dj = some (.bool b')) (hbb : (b' == b) = false) {op : Op} (hn : Nat.blt d c.n = true)
 (k : J c ops rest ((d, undef) :: env) L D) : J c ops (⟨some d, op, t, p, af, some (j, b)⟩ :: rest) env L D :=
 iJ.wantN (fun a w f st dh => by
  have := f.at_ _ _ hb
  have hne : ¬ b' = b := by simpa using hbb
  exact ⟨by simp [Region.wanted, yielded, hj, hdj, this, hne], f.put undef (lt_blt hn)⟩) k
theorem mv {x : Operand} (hv : ev env x = some v) (hn : Nat.blt d c.n = true) (k : J c ops rest ((d, v) :: env) L D) : J c ops (⟨some d, .move x, t, p, af, none⟩ :: rest) env L D :=
 pu rfl rfl hn (fun a w f => by simp [execOp, f.ev hv]) k
theorem asg {x : Operand} (hv : ev env x = some v) (hn : Nat.blt d c.n = true) (k : J c ops rest ((d, v) :: env) L D) : J c ops (⟨some d, .assign x, t, p, af, none⟩ :: rest) env L D :=
 pu rfl rfl hn (fun a w f => by simp [execOp, f.ev hv]) k
theorem pkT {x y z : Operand} (hx : ev env x = some (.bool true)) (hv : ev env y = some v) (hn : Nat.blt d c.n = true) (k : J c ops rest ((d, v) :: env) L D) : J c ops (⟨some d, .pick x y z, t, p, af, none⟩ :: rest) env L D :=
 pu rfl rfl hn (fun a w f => by simp [execOp, f.ev hx, f.ev hv, asBool]) k
theorem pkF {x y z : Operand} (hx : ev env x = some (.bool false)) (hv : ev env z = some v) (hn : Nat.blt d c.n = true) (k : J c ops rest ((d, v) :: env) L D) : J c ops (⟨some d, .pick x y z, t, p, af, none⟩ :: rest) env L D :=
 pu rfl rfl hn (fun a w f => by simp [execOp, f.ev hx, f.ev hv, asBool]) k
theorem xt {x : Operand} {vs : Array Value} {i : Nat} (hx : ev env x = some (.tuple vs)) (hv : vs[i]? = some v) (hn : Nat.blt d c.n = true) (k : J c ops rest ((d, v) :: env) L D) : J c ops (⟨some d, .extract x i, t, p, af, none⟩ :: rest) env L D :=
 pu rfl rfl hn (fun a w f => by simp [execOp, f.ev hx, Instr.extract, hv]) k
theorem mf {fn : Fn} {xs : List Operand} {vs : List Value} (hx : evs env xs = some vs) (hn : Nat.blt d c.n = true) (k : J c ops rest ((d, .func fn #[] vs.toArray) :: env) L D) : J c ops (⟨some d, .makeFunc fn #[] xs.toArray, t, p, af, none⟩ :: rest) env L D :=
 pu rfl rfl hn (fun a w f => by simp [execOp, Instr.makeFunc, f.evs hx]) k
variable {x y : Operand} {q : IntKind} {m n : Int} {xt yt : TypeId}
theorem adI (hx : ev env x = some (.int .i64 m)) (hy : ev env y = some (.int .i64 n)) (hb : InI (m + n)) (hn : Nat.blt d c.n = true) (k : J c ops rest ((d, .int .i64 (m + n)) :: env) L D) :
 J c ops (⟨some d, .binOp .add xt x y yt, t, p, af, none⟩ :: rest) env L D :=
 pu rfl rfl hn (fun a w f => by simp [execOp, f.ev hx, f.ev hy, eqGuard, binOp, Op.intArith, wrap_i64_in hb]) k
theorem sbI (hx : ev env x = some (.int .i64 m)) (hy : ev env y = some (.int .i64 n)) (hb : InI (m - n)) (hn : Nat.blt d c.n = true) (k : J c ops rest ((d, .int .i64 (m - n)) :: env) L D) :
 J c ops (⟨some d, .binOp .sub xt x y yt, t, p, af, none⟩ :: rest) env L D :=
 pu rfl rfl hn (fun a w f => by simp [execOp, f.ev hx, f.ev hy, eqGuard, binOp, Op.intArith, wrap_i64_in hb]) k
theorem adW (hx : ev env x = some (.int q m)) (hy : ev env y = some (.int q n)) (hn : Nat.blt d c.n = true) (k : J c ops rest ((d, .int q (q.wrap (m + n))) :: env) L D) :
 J c ops (⟨some d, .binOp .add xt x y yt, t, p, af, none⟩ :: rest) env L D :=
 pu rfl rfl hn (fun a w f => by simp [execOp, f.ev hx, f.ev hy, eqGuard, binOp, Op.intArith]) k
theorem muW (hx : ev env x = some (.int q m)) (hy : ev env y = some (.int q n)) (hn : Nat.blt d c.n = true) (k : J c ops rest ((d, .int q (q.wrap (m * n))) :: env) L D) :
 J c ops (⟨some d, .binOp .mul xt x y yt, t, p, af, none⟩ :: rest) env L D :=
 pu rfl rfl hn (fun a w f => by simp [execOp, f.ev hx, f.ev hy, eqGuard, binOp, Op.intArith]) k
theorem quW (hx : ev env x = some (.int q m)) (hy : ev env y = some (.int q n)) (h0 : n ≠ 0) (hn : Nat.blt d c.n = true) (k : J c ops rest ((d, .int q (q.wrap (m.tdiv n))) :: env) L D) :
 J c ops (⟨some d, .binOp .quo xt x y yt, t, p, af, none⟩ :: rest) env L D :=
 pu rfl rfl hn (fun a w f => by simp [execOp, f.ev hx, f.ev hy, eqGuard, binOp, Op.intDiv, h0]) k
theorem reW (hx : ev env x = some (.int q m)) (hy : ev env y = some (.int q n)) (h0 : n ≠ 0) (hn : Nat.blt d c.n = true) (k : J c ops rest ((d, .int q (m.tmod n)) :: env) L D) :
 J c ops (⟨some d, .binOp .rem xt x y yt, t, p, af, none⟩ :: rest) env L D :=
 pu rfl rfl hn (fun a w f => by simp [execOp, f.ev hx, f.ev hy, eqGuard, binOp, Op.intDiv, h0]) k
def bitV (op : BinOp) (k : IntKind) (x y : Int) : Int :=
 let a := BitVec.ofInt k.bits x
 let b := BitVec.ofInt k.bits y
 match op with
 | .and => k.wrap (a &&& b).toNat
 | .or => k.wrap (a ||| b).toNat
 | .xor => k.wrap (a ^^^ b).toNat
 | .andNot => k.wrap (a &&& ~~~b).toNat
 | _ => 0
theorem btA (hx : ev env x = some (.int q m)) (hy : ev env y = some (.int q n)) {r : Int} (hr : bitV .and q m n = r) (hn : Nat.blt d c.n = true) (k : J c ops rest ((d, .int q r) :: env) L D) :
 J c ops (⟨some d, .binOp .and xt x y yt, t, p, af, none⟩ :: rest) env L D :=
 pu rfl rfl hn (fun a w f => by subst hr; simp [execOp, f.ev hx, f.ev hy, eqGuard, binOp, Op.intBits, bitV]) k
theorem btO (hx : ev env x = some (.int q m)) (hy : ev env y = some (.int q n)) {r : Int} (hr : bitV .or q m n = r) (hn : Nat.blt d c.n = true) (k : J c ops rest ((d, .int q r) :: env) L D) :
 J c ops (⟨some d, .binOp .or xt x y yt, t, p, af, none⟩ :: rest) env L D :=
 pu rfl rfl hn (fun a w f => by subst hr; simp [execOp, f.ev hx, f.ev hy, eqGuard, binOp, Op.intBits, bitV]) k
theorem shL {q' : IntKind} (hx : ev env x = some (.int q m)) (hy : ev env y = some (.int q' n)) (h0 : 0 ≤ n) {r : Int} (hr : q.wrap (m * 2 ^ min n.toNat q.bits) = r) (hn : Nat.blt d c.n = true) (k : J c ops rest ((d, .int q r) :: env) L D) :
 J c ops (⟨some d, .binOp .shl xt x y yt, t, p, af, none⟩ :: rest) env L D :=
 pu rfl rfl hn (fun a w f => by subst hr; simp [execOp, f.ev hx, f.ev hy, eqGuard, binOp, Op.shift, Int.not_lt.2 h0]) k
theorem shR {q' : IntKind} (hx : ev env x = some (.int q m)) (hy : ev env y = some (.int q' n)) (h0 : 0 ≤ n) {r : Int} (hr : m.fdiv (2 ^ min n.toNat q.bits) = r) (hn : Nat.blt d c.n = true) (k : J c ops rest ((d, .int q r) :: env) L D) :
 J c ops (⟨some d, .binOp .shr xt x y yt, t, p, af, none⟩ :: rest) env L D :=
 pu rfl rfl hn (fun a w f => by subst hr; simp [execOp, f.ev hx, f.ev hy, eqGuard, binOp, Op.shift, Int.not_lt.2 h0]) k
theorem ltI (hx : ev env x = some (.int q m)) (hy : ev env y = some (.int q n)) (hn : Nat.blt d c.n = true) (k : J c ops rest ((d, .bool (decide (m < n))) :: env) L D) :
 J c ops (⟨some d, .binOp .lss xt x y yt, t, p, af, none⟩ :: rest) env L D :=
 pu rfl rfl hn (fun a w f => by simp [execOp, f.ev hx, f.ev hy, eqGuard, binOp, Op.intCmp]) k
theorem leI (hx : ev env x = some (.int q m)) (hy : ev env y = some (.int q n)) (hn : Nat.blt d c.n = true) (k : J c ops rest ((d, .bool (decide (m ≤ n))) :: env) L D) :
 J c ops (⟨some d, .binOp .leq xt x y yt, t, p, af, none⟩ :: rest) env L D :=
 pu rfl rfl hn (fun a w f => by simp [execOp, f.ev hx, f.ev hy, eqGuard, binOp, Op.intCmp]) k
theorem gtI (hx : ev env x = some (.int q m)) (hy : ev env y = some (.int q n)) (hn : Nat.blt d c.n = true) (k : J c ops rest ((d, .bool (decide (n < m))) :: env) L D) :
 J c ops (⟨some d, .binOp .gtr xt x y yt, t, p, af, none⟩ :: rest) env L D :=
 pu rfl rfl hn (fun a w f => by simp [execOp, f.ev hx, f.ev hy, eqGuard, binOp, Op.intCmp]) k
theorem geI (hx : ev env x = some (.int q m)) (hy : ev env y = some (.int q n)) (hn : Nat.blt d c.n = true) (k : J c ops rest ((d, .bool (decide (n ≤ m))) :: env) L D) :
 J c ops (⟨some d, .binOp .geq xt x y yt, t, p, af, none⟩ :: rest) env L D :=
 pu rfl rfl hn (fun a w f => by simp [execOp, f.ev hx, f.ev hy, eqGuard, binOp, Op.intCmp]) k
theorem eqI (hx : ev env x = some (.int q m)) (hy : ev env y = some (.int q n)) (hn : Nat.blt d c.n = true) (k : J c ops rest ((d, .bool (decide (m = n))) :: env) L D) :
 J c ops (⟨some d, .binOp .eql xt x y yt, t, p, af, none⟩ :: rest) env L D :=
 pu rfl rfl hn (fun a w f => by simp [execOp, f.ev hx, f.ev hy, eqGuard, binOp, Op.intCmp]; rfl) k
theorem neI (hx : ev env x = some (.int q m)) (hy : ev env y = some (.int q n)) (hn : Nat.blt d c.n = true) (k : J c ops rest ((d, .bool (!decide (m = n))) :: env) L D) :
 J c ops (⟨some d, .binOp .neq xt x y yt, t, p, af, none⟩ :: rest) env L D :=
 pu rfl rfl hn (fun a w f => by simp [execOp, f.ev hx, f.ev hy, eqGuard, binOp, Op.intCmp]; rfl) k
theorem nt {b : Bool} (hx : ev env x = some (.bool b)) (hn : Nat.blt d c.n = true) (k : J c ops rest ((d, .bool (!b)) :: env) L D) :
 J c ops (⟨some d, .unOp .not xt x, t, p, af, none⟩ :: rest) env L D :=
 pu rfl rfl hn (fun a w f => by simp [execOp, f.ev hx, Op.unary]) k
theorem ngI (hx : ev env x = some (.int .i64 m)) (hb : InI (-m)) (hn : Nat.blt d c.n = true) (k : J c ops rest ((d, .int .i64 (-m)) :: env) L D) :
 J c ops (⟨some d, .unOp .neg xt x, t, p, af, none⟩ :: rest) env L D :=
 pu rfl rfl hn (fun a w f => by
  simp [execOp, f.ev hx, Op.unary, Op.intArith, wrap_i64_in hb]) k
theorem cpW (hx : ev env x = some (.int q m)) {r : Int} (hr : bitV .xor q (if q.signed then -1 else q.max) m = r) (hn : Nat.blt d c.n = true) (k : J c ops rest ((d, .int q r) :: env) L D) :
 J c ops (⟨some d, .unOp .xor xt x, t, p, af, none⟩ :: rest) env L D :=
 pu rfl rfl hn (fun a w f => by subst hr; simp [execOp, f.ev hx, Op.unary, Op.intBits, bitV]) k
theorem cv {src dst : TypeId} {q' : IntKind} {ds : TypeDesc} (hs : c.P.underlying src = some ds) (hd : c.P.underlying dst = some (.int q')) (hx : ev env x = some (.int q m)) {r : Int} (hr : q'.wrap m = r) (hn : Nat.blt d c.n = true)
 (k : J c ops rest ((d, .int q' r) :: env) L D) : J c ops (⟨some d, .convert src dst x, t, p, af, none⟩ :: rest) env L D :=
 pu rfl rfl hn (fun a w f => by
  subst hr
  simp [execOp, f.ev hx, convert, run_underlying hs, run_underlying hd, Conv.intToInt]) k
end
end
section
theorem bsOf_append (A B : Own) : bsOf (A ++ B) = bsOf A ++ bsOf B := by
 induction A with
 | nil => rfl
 | cons p r ih => simp [bsOf, ih]
def FnPost (X : List Nat) (w : World) (L0 : Own) {β : Type} (R : β → Value → Prop) (L1 : β → Value → Own) (out : β → Value → List Atom) (v : Value) (w' : World) : Prop :=
 Stp L0.bs w w' ∧ ∃ y, R y v ∧ (∀ p ∈ L1 y v, p.holds (Sf ((L1 y v).bs ++ X) w') w') ∧ (L1 y v).bs.Nodup ∧ (∀ b ∈ (L1 y v).bs, b ∈ L0.bs ∨ w.heap.size ≤ b) ∧
  ∀ t ∈ out y v, t.holds (Sf ((L1 y v).bs ++ X) w') w'
def Fnc (P : Program) (f : FuncId) (args : List Value) (L0 : Own) (As : List Atom) {β : Type} (R : β → Value → Prop) (L1 : β → Value → Own) (out : β → Value → List Atom) : Prop :=
 ∀ (X : List Nat) (w : World), (L0.bs ++ X).Nodup → (∀ b ∈ X, b < w.heap.size) → (∀ p ∈ L0, p.holds (Sf (L0.bs ++ X) w) w) → (∀ t ∈ As, t.holds (Sf (L0.bs ++ X) w) w) →
  Ret P f args w (FnPost X w L0 R L1 out)
abbrev FnV (P : Program) (f : FuncId) (args : List Value) (As : List Atom) (v : Value) : Prop := Fnc P f args [] As (fun (_ : Unit) u => u = v) (fun _ _ => []) (fun _ _ => [])
theorem Fnc.proof {P : Program} {f : FuncId} {fn : Func} {x : Code} {args : List Value} {L0 : Own} {As : List Atom} {β : Type} {R : β → Value → Prop} {L1 : β → Value → Own} {out : β → Value → List Atom}
 (hf : P.funcs[f]? = some fn) (hb : fn.body = some x) (n : Nat) (hn : n = fn.ntmps) (hargs : Nat.ble args.length n = true)
 (h : ∀ X w, WC ⟨P, n, w, L0.bs ++ X⟩ x (bodyPost P fn fun e w' => ∃ v, e = .returned v ∧ FnPost X w L0 R L1 out v w') (ent 0 args) (L0 ++ [fz X w]) As) : Fnc P f args L0 As R L1 out := by
 intro X w hnd hx h0 hA
 have hbs : Own.bs (L0 ++ [fz X w]) = L0.bs ++ X := by simp [Own.bs, bsOf_append, bsOf]
 refine enter (L0.bs ++ X) (L0 ++ [fz X w]) As hf hb n hn (Nat.le_of_ble_eq_true hargs) ⟨Stp.refl _ _, ?_, ?_, ?_⟩ ?_ (h X w)
 · intro p hp
   rw [hbs]
   rcases List.mem_append.1 hp with hp | hp
   · exact h0 p hp
   · have : p = fz X w := by simpa using hp
     subst this
     exact ⟨fun _ _ => rfl, hx⟩
 · rw [hbs]; exact hnd
 · rw [hbs]; exact fun b hb => .inl hb
 · intro t ht
   rw [hbs]
   exact hA t ht
theorem Fnc.post {X : List Nat} {w0 w : World} {L0 L : Own} {D : List Atom} {β : Type} {R : β → Value → Prop} {L1 : β → Value → Own} {out : β → Value → List Atom} {v : Value}
 (y : β) (hR : R y v) (hL : L = L1 y v ++ [fz X w0]) (hD : SubD (out y v) D) (st : St w0 (L0.bs ++ X) w L) (d : DH D w L) (hb : ∀ b ∈ (L1 y v).bs, b ∈ L0.bs ∨ w0.heap.size ≤ b) : FnPost X w0 L0 R L1 out v w := by
 subst hL
 have hbs : Own.bs (L1 y v ++ [fz X w0]) = (L1 y v).bs ++ X := by simp [Own.bs, bsOf_append, bsOf]
 have hz := st.own (fz X w0) (by simp)
 refine ⟨⟨st.stp.os, st.stp.tape, st.stp.output, st.stp.size, fun k hk hx => ?_⟩, y, hR, ?_, ?_, hb, ?_⟩
 · by_cases hkX : k ∈ X
   · exact hz.1 k hkX
   · exact st.stp.block k hk (by simp only [List.mem_append, not_or]; exact ⟨hx, hkX⟩)
 · intro p hp
   have := st.own p (List.mem_append.2 (.inl hp))
   rwa [hbs] at this
 · have := st.nd
   rw [hbs] at this
   exact (List.nodup_append.1 this).1
 · intro t ht
   have := d t (hD t ht)
   rwa [hbs] at this
section
variable {c : Cx} {env : Env} {L : Own} {D : List Atom} {fn : Func} {X : List Nat} {L0 : Own} {β : Type} {R : β → Value → Prop} {L1 : β → Value → Own} {out : β → Value → List Atom} {P : Program} {n : Nat} {w0 : World}
abbrev PostOf (P : Program) (fn : Func) (X : List Nat) (w : World) (L0 : Own) {β : Type} (R : β → Value → Prop) (L1 : β → Value → Own) (out : β → Value → List Atom) : Exit → Act → World → Prop :=
 bodyPost P fn fun e w' => ∃ v, e = .returned v ∧ FnPost X w L0 R L1 out v w'
theorem new_of {w : World} {A : Own} (st : St w0 (L0.bs ++ X) w (A ++ [fz X w0])) : ∀ b ∈ A.bs, b ∈ L0.bs ∨ w0.heap.size ≤ b := by
 intro b hb
 have hbs : Own.bs (A ++ [fz X w0]) = A.bs ++ X := by simp [Own.bs, bsOf_append, bsOf]
 have hn := st.nd
 have h := st.new b
 rw [hbs] at hn h
 rcases h (by simp [hb]) with h | h
 · rcases List.mem_append.1 h with h | h
   · exact .inl h
   · exact absurd rfl ((List.nodup_append.1 hn).2.2 b hb b h)
 · exact .inr h
theorem fR1 (y : β) {t : Nat} {v : Value} (hr : fn.results = #[.tmp t]) (hv : lk env t = some v) (hR : R y v) (hL : L = L1 y v ++ [fz X w0]) (hD : SubD (out y v) D) :
 WQ ⟨P, n, w0, L0.bs ++ X⟩ (PostOf P fn X w0 L0 R L1 out) .ret env L D :=
 ret1 (c := ⟨P, n, w0, L0.bs ++ X⟩) hr hv fun w st d => Fnc.post y hR hL hD st d (new_of (X := X) (w := w) (hL ▸ st))
theorem fR2 (y : β) {t u : Nat} {v1 v2 : Value} (hr : fn.results = #[.tmp t, .tmp u]) (h1 : lk env t = some v1) (h2 : lk env u = some v2) (hR : R y (.tuple #[v1, v2])) (hL : L = L1 y (.tuple #[v1, v2]) ++ [fz X w0]) (hD : SubD (out y (.tuple #[v1, v2])) D) :
 WQ ⟨P, n, w0, L0.bs ++ X⟩ (PostOf P fn X w0 L0 R L1 out) .ret env L D :=
 Eng.ret2 (c := ⟨P, n, w0, L0.bs ++ X⟩) hr h1 h2 fun w st d => Fnc.post y hR hL hD st d (new_of (X := X) (w := w) (hL ▸ st))
theorem fR3 (y : β) {t u s : Nat} {v1 v2 v3 : Value} (hr : fn.results = #[.tmp t, .tmp u, .tmp s]) (h1 : lk env t = some v1) (h2 : lk env u = some v2) (h3 : lk env s = some v3) (hR : R y (.tuple #[v1, v2, v3])) (hL : L = L1 y (.tuple #[v1, v2, v3]) ++ [fz X w0]) (hD : SubD (out y (.tuple #[v1, v2, v3])) D) :
 WQ ⟨P, n, w0, L0.bs ++ X⟩ (PostOf P fn X w0 L0 R L1 out) .ret env L D :=
 Eng.ret3 (c := ⟨P, n, w0, L0.bs ++ X⟩) hr h1 h2 h3 fun w st d => Fnc.post y hR hL hD st d (new_of (X := X) (w := w) (hL ▸ st))
theorem fR0 (y : β) (hr : fn.results = #[]) (hR : R y (.tuple #[])) (hL : L = L1 y (.tuple #[]) ++ [fz X w0]) (hD : SubD (out y (.tuple #[])) D) :
 WQ ⟨P, n, w0, L0.bs ++ X⟩ (PostOf P fn X w0 L0 R L1 out) .ret env L D :=
 Eng.ret0 (c := ⟨P, n, w0, L0.bs ++ X⟩) hr fun w st d => Fnc.post y hR hL hD st d (new_of (X := X) (w := w) (hL ▸ st))
theorem fR0N (y : β) (hr : fn.results = #[]) (hR : R y (.tuple #[])) (hL : L = L1 y (.tuple #[]) ++ [fz X w0]) (hD : SubD (out y (.tuple #[])) D) :
 WQ ⟨P, n, w0, L0.bs ++ X⟩ (PostOf P fn X w0 L0 R L1 out) .normal env L D :=
 Eng.ret0N (c := ⟨P, n, w0, L0.bs ++ X⟩) hr fun w st d => Fnc.post y hR hL hD st d (new_of (X := X) (w := w) (hL ▸ st))
end
structure FnOk (P : Program) (f : FuncId) : Prop where
 ok : ∃ fn, P.funcs[f]? = some fn ∧ (fn.name == "runtime.NumGoroutine") = false ∧ fn.body.isNone = false
theorem run_callFunc {P : Program} {f : FuncId} (h : FnOk P f) (args : Array Value) (w : World) : (callFunc f args).run P w = .ok (.enter f args) w := by
 obtain ⟨fn, h1, h2, h3⟩ := h.ok
 have h2' : ¬ fn.name = "runtime.NumGoroutine" := by simpa using h2
 have h3' : ¬ fn.body = none := by intro h; rw [h] at h3; cases h3
 simp [callFunc, program, Sem.run, Sem.run_bind, h1, h2', h3']
section
variable {c : Cx} {ops : Array Oper} {Q : Exit → Act → World → Prop} {env : Env} {L : Own} {D : List Atom} {rest : List Oper} {d : Nat} {v : Value} {t : TypeId} {p : String} {af : Array Edge}
theorem wp_enter {o : Oper} {a : Act} {w : World} {K : Act → World → Prop} {Q : Exit → Act → World → Prop} {f : FuncId} {vs : List Value} {P : Program} (hrun : (execOp a.eval o).run P w = .ok (.enter f vs.toArray) w) {Φ : Value → World → Prop}
 (h : Ret P f vs w Φ) (hk : ∀ v w', Φ v w' → K (a.put o.dst v) w') : o.wp P a w K Q := by
 unfold Oper.wp
 rw [hrun]
 simp only [Oper.upon]
 exact Calls.mono h fun e w' ⟨v, he, hv⟩ => by subst he; exact hk v w' hv
theorem run_call {P : Program} {ρ : Operand → Value} {o : Oper} {x : Operand} {xs : List Operand} {ats : Array TypeId} {f : FuncId} {first cap : Array Value} {vs : List Value} (ho : o.op = .call { callee := .value x, args := xs.toArray, argTypes := ats })
 (hx : ρ x = .func (.func f) first cap) (hxs : xs.map ρ = vs) (hok : FnOk P f) (w : World) : (execOp ρ o).run P w = .ok (.enter f (first.toList ++ vs ++ cap.toList).toArray) w := by
 subst hxs
 simp only [execOp, ho, resolve, Deferred.ofValue, hx, invoke, List.map_toArray, Sem.run_bind, Sem.run_pure, Result.andThen_ok, run_callFunc hok]
 congr 2
 simp
theorem ca_gen {x : Operand} {xs : List Operand} {ats : Array TypeId} {f : FuncId} {first cap : Array Value} {vs us : List Value} {β : Type} {R : β → Value → Prop} {out : β → Value → List Atom} {dst : Option Tmp}
 (hx : ev env x = some (.func (.func f) first cap)) (hxs : evs env xs = some vs) (hus : first.toList ++ vs ++ cap.toList = us) (hok : FnOk c.P f)
 (L' : β → Value → Own)
 (hc : ∀ w, St c.w0 c.M w L → DH D w L → Ret c.P f us w (fun v w' => ∃ y, R y v ∧ St c.w0 c.M w' (L' y v) ∧ DH (out y v) w' (L' y v)))
 (env' : β → Value → Env) (he : ∀ y v a, Fr c.n a env → Fr c.n (a.put dst v) (env' y v))
 (k : ∀ y v, R y v → WL Q c ops rest (env' y v) (L' y v) (out y v)) :
 WL Q c ops (⟨dst, .call { callee := .value x, args := xs.toArray, argTypes := ats }, t, p, af, none⟩ :: rest) env L D := by
 intro a w f' st dh
 refine wpList_plain rfl fun K hK => ?_
 have hrun := run_call (P := c.P) (ρ := a.eval) (o := ⟨dst, .call { callee := .value x, args := xs.toArray, argTypes := ats }, t, p, af, none⟩) rfl (f'.ev hx) (f'.evs hxs) hok w
 rw [hus] at hrun
 exact wp_enter hrun (hc w st dh) fun v w' ⟨y, hR, st', dh'⟩ => hK _ _ (k y v hR _ _ (he y v a f') st' dh')
theorem St.many {w0 w w' : World} {M : List Nat} {L A : Own} (h : St w0 M w L) (hs : Stp [] w w') (hA : ∀ q ∈ A, q.holds (Sf (A.bs ++ L.bs) w') w') (hn : A.bs.Nodup) (hb : ∀ b ∈ A.bs, w.heap.size ≤ b) : St w0 M w' (A ++ L) := by
 have h' := h.step hs
 have hbs : Own.bs (A ++ L) = A.bs ++ L.bs := by simp [Own.bs, bsOf_append]
 refine ⟨h'.stp, ?_, ?_, ?_⟩
 · rw [hbs]
   intro q hq
   rcases List.mem_append.1 hq with hq | hq
   · exact hA q hq
   · refine q.keep (h.own q hq) (fun b hb' => ⟨Nat.lt_of_lt_of_le hb'.1 hs.size, ?_⟩) (fun b hb' => ?_)
     · simp only [List.mem_append, not_or]
       exact ⟨fun hx => by have := hb b hx; have := hb'.1; omega, hb'.2⟩
     · refine hs.block b ?_ (by simp)
       rcases hb' with hb' | hb'
       · exact hb'.1
       · exact h.lt b (mem_bsOf.2 ⟨q, hq, hb'⟩)
 · rw [hbs, List.nodup_append]
   refine ⟨hn, h.nd, fun a ha b hb' => ?_⟩
   have := hb a ha
   have := h.lt b hb'
   omega
 · rw [hbs]
   intro b hb'
   rcases List.mem_append.1 hb' with hb' | hb'
   · exact .inr (Nat.le_trans h.stp.size (hb b hb'))
   · exact h.new b hb'
theorem DH.many {D : List Atom} {w w' : World} {L A : Own} (hd : DH D w L) (hs : Stp [] w w') (hb : ∀ b ∈ A.bs, w.heap.size ≤ b) : DH D w' (A ++ L) :=
 hd.turn hs.nil fun b h => by
  simp only [Own.bs, bsOf_append, List.mem_append] at h
  rcases h with h | h
  · exact .inr (hb b h)
  · exact .inl h
theorem cg0 {f : FuncId} {us : List Value} {As : List Atom} {β : Type} {R : β → Value → Prop} {L1 : β → Value → Own} {out : β → Value → List Atom} (h : Fnc c.P f us [] As R L1 out) (hA : SubD As D) :
 ∀ w, St c.w0 c.M w L → DH D w L → Ret c.P f us w (fun v w' => ∃ y, R y v ∧ St c.w0 c.M w' (L1 y v ++ L) ∧ DH (out y v ++ D) w' (L1 y v ++ L)) := by
 intro w st dh
 refine (h L.bs w (by simpa [Own.bs, bsOf] using st.nd) st.lt (by simp) (fun t ht => ?_)).mono fun v w' hp => ?_
 · have := dh t (hA t ht)
   simpa [Own.bs, bsOf] using this
 · obtain ⟨hs, y, hR, hL, hn, hb, ho⟩ := hp
   have hs' : Stp [] w w' := by simpa [Own.bs, bsOf] using hs
   have hb' : ∀ b ∈ (L1 y v).bs, w.heap.size ≤ b := fun b hx => (hb b hx).resolve_left (by simp [Own.bs, bsOf])
   have hbs : Own.bs (L1 y v ++ L) = (L1 y v).bs ++ L.bs := by simp [Own.bs, bsOf_append]
   refine ⟨y, hR, st.many hs' hL hn hb', ?_⟩
   refine DH.app ?_ (dh.many hs' hb')
   intro t ht
   rw [hbs]
   exact ho t ht
theorem cf {f : FuncId} {vs : List Value} {As : List Atom} {β : Type} {R : β → Value → Prop} {L1 : β → Value → Own} {out : β → Value → List Atom} (h : Fnc c.P f vs [] As R L1 out) (hok : FnOk c.P f) {xs : List Operand} {ats : Array TypeId}
 (hxs : evs env xs = some vs) (hA : SubD As D) (hn : Nat.blt d c.n = true) (k : ∀ y v, R y v → WL Q c ops rest ((d, v) :: env) (L1 y v ++ L) (out y v ++ D)) :
 WL Q c ops (⟨some d, .call { callee := .value (.func f), args := xs.toArray, argTypes := ats }, t, p, af, none⟩ :: rest) env L D :=
 ca_gen (x := .func f) (first := #[]) (cap := #[]) rfl hxs (by simp) hok _ (cg0 h hA) (fun _ v => (d, v) :: env) (fun _ v a f => f.put v (lt_blt hn)) k
theorem cfc {f : FuncId} {vs us : List Value} {As : List Atom} {β : Type} {R : β → Value → Prop} {L1 : β → Value → Own} {out : β → Value → List Atom} {first cap : Array Value} {x : Operand} (h : Fnc c.P f us [] As R L1 out) (hok : FnOk c.P f) {xs : List Operand} {ats : Array TypeId}
 (hx : ev env x = some (.func (.func f) first cap)) (hxs : evs env xs = some vs) (hus : first.toList ++ vs ++ cap.toList = us) (hA : SubD As D) (hn : Nat.blt d c.n = true) (k : ∀ y v, R y v → WL Q c ops rest ((d, v) :: env) (L1 y v ++ L) (out y v ++ D)) :
 WL Q c ops (⟨some d, .call { callee := .value x, args := xs.toArray, argTypes := ats }, t, p, af, none⟩ :: rest) env L D :=
 ca_gen hx hxs hus hok _ (cg0 h hA) (fun _ v => (d, v) :: env) (fun _ v a f => f.put v (lt_blt hn)) k
theorem St.upd1 {w0 w w' : World} {M : List Nat} {L A : Own} {q q' : OwnE} (i : Nat) (hi : L[i]? = some q) (h : St w0 M w L) (hs : Stp q.bs w w')
 (X : List Nat) (hX : ∀ b, b ∈ L.bs ↔ b ∈ q.bs ++ X) (hXd : (q.bs ++ X).Nodup)
 (hA : ∀ r ∈ q' :: A, r.holds (Sf (Own.bs (q' :: A) ++ X) w') w') (hn : (Own.bs (q' :: A)).Nodup) (hb : ∀ b ∈ Own.bs (q' :: A), b ∈ q.bs ∨ w.heap.size ≤ b) : St w0 M w' (A ++ L.set i q') := by
 have hqL : ∀ b ∈ q.bs, b ∈ L.bs := fun b hx => mem_bsOf.2 ⟨q, List.mem_of_getElem? hi, hx⟩
 have hlt := h.lt
 have hAq : Own.bs (q' :: A) = q'.bs ++ A.bs := rfl
 rw [hAq] at hn hb
 have hnq := List.nodup_append.1 hn
 have hmem : ∀ b, b ∈ Own.bs (A ++ L.set i q') ↔ b ∈ Own.bs (q' :: A) ++ X := by
  intro b
  simp only [Own.bs, bsOf_append, List.mem_append, bsOf]
  constructor
  · rintro (hx | hx)
    · exact .inl (.inr hx)
    · obtain ⟨r, hr, hrb⟩ := mem_bsOf.1 hx
      obtain ⟨j, hj⟩ := List.getElem?_of_mem hr
      by_cases hij : i = j
      · subst hij
        have : i < L.length := (List.getElem?_eq_some_iff.1 hi).1
        rw [List.getElem?_set_self this] at hj
        injection hj with hj
        subst hj
        exact .inl (.inl hrb)
      · rw [List.getElem?_set_ne hij] at hj
        have hb1 : b ∈ L.bs := mem_bsOf.2 ⟨r, List.mem_of_getElem? hj, hrb⟩
        rcases List.mem_append.1 ((hX b).1 hb1) with h1 | h1
        · exact absurd hrb (St.upd.bs_ne hi hj hij h.nd b h1)
        · exact .inr h1
  · rintro ((hx | hx) | hx)
    · refine .inr (mem_bsOf.2 ⟨q', ?_, hx⟩)
      have : i < L.length := (List.getElem?_eq_some_iff.1 hi).1
      exact List.mem_of_getElem? (List.getElem?_set_self this)
    · exact .inl hx
    · have hb1 : b ∈ L.bs := (hX b).2 (List.mem_append.2 (.inr hx))
      obtain ⟨r, hr, hrb⟩ := mem_bsOf.1 hb1
      obtain ⟨j, hj⟩ := List.getElem?_of_mem hr
      by_cases hij : i = j
      · subst hij
        rw [hi] at hj
        injection hj with hj
        subst hj
        exact absurd rfl ((List.nodup_append.1 hXd).2.2 b hrb b hx)
      · refine .inr (mem_bsOf.2 ⟨r, ?_, hrb⟩)
        exact List.mem_of_getElem? (by rw [List.getElem?_set_ne hij]; exact hj)
 have hSf : ∀ b, Sf (Own.bs (q' :: A) ++ X) w' b → Sf (Own.bs (A ++ L.set i q')) w' b := fun b hx => ⟨hx.1, fun hy => hx.2 ((hmem b).1 hy)⟩
 have hsub : ∀ b, Sf L.bs w b → Sf (Own.bs (A ++ L.set i q')) w' b := fun b hx => ⟨Nat.lt_of_lt_of_le hx.1 hs.size, fun hy => by
  have hy := (hmem b).1 hy
  rcases List.mem_append.1 hy with hy | hy
  · rcases hb b (by rw [hAq] at hy; exact hy) with h1 | h1
    · exact hx.2 (hqL b h1)
    · have := hx.1; omega
  · exact hx.2 ((hX b).2 (List.mem_append.2 (.inr hy)))⟩
 refine ⟨h.stp.trans_new hs (fun b hx => h.new b (hqL b hx)), ?_, ?_, ?_⟩
 · intro r hr
   rcases List.mem_append.1 hr with hr | hr
   · exact r.keep (hA r (List.mem_cons_of_mem _ hr)) hSf (fun _ _ => rfl)
   · obtain ⟨j, hj⟩ := List.getElem?_of_mem hr
     by_cases hij : i = j
     · subst hij
       have : i < L.length := (List.getElem?_eq_some_iff.1 hi).1
       rw [List.getElem?_set_self this] at hj
       injection hj with hj
       subst hj
       exact q'.keep (hA q' (List.mem_cons_self ..)) hSf (fun _ _ => rfl)
     · rw [List.getElem?_set_ne hij] at hj
       have hrm := List.mem_of_getElem? hj
       refine r.keep (h.own r hrm) hsub (fun b hx => hs.block b ?_ ?_)
       · rcases hx with hx | hx
         · exact hx.1
         · exact hlt b (mem_bsOf.2 ⟨r, hrm, hx⟩)
       · rcases hx with hx | hx
         · exact fun hy => hx.2 (hqL b hy)
         · exact fun hy => St.upd.bs_ne hi hj hij h.nd b hy hx
 · have h1 := nodup_set (p' := q') hi h.nd hnq.1 (fun b hx => (hb b (List.mem_append.2 (.inl hx))).imp id (fun h1 h2 => by have := hlt b h2; omega))
   simp only [Own.bs, bsOf_append, List.nodup_append]
   refine ⟨hnq.2.1, h1, fun a ha b hb' e => ?_⟩
   subst e
   rcases bs_set hi a hb' with h2 | h2
   · exact hnq.2.2 a h2 a ha rfl
   · rcases hb a (List.mem_append.2 (.inr ha)) with h3 | h3
     · -- a block of q that A has, and L.set too
       have hy := (hmem a).1 (by simp only [Own.bs, bsOf_append, List.mem_append]; exact .inr hb')
       obtain ⟨r, hr, hrb⟩ := mem_bsOf.1 hb'
       obtain ⟨j, hj⟩ := List.getElem?_of_mem hr
       by_cases hij : i = j
       · subst hij
         have : i < L.length := (List.getElem?_eq_some_iff.1 hi).1
         rw [List.getElem?_set_self this] at hj
         injection hj with hj
         subst hj
         exact hnq.2.2 a hrb a ha rfl
       · rw [List.getElem?_set_ne hij] at hj
         exact St.upd.bs_ne hi hj hij h.nd a h3 hrb
     · have := hlt a h2; omega
 · intro b hx
   have hx := (hmem b).1 hx
   rcases List.mem_append.1 hx with hx | hx
   · rcases hb b (by rw [hAq] at hx; exact hx) with h1 | h1
     · exact h.new b (hqL b h1)
     · exact .inr (Nat.le_trans h.stp.size h1)
   · exact h.new b ((hX b).2 (List.mem_append.2 (.inr hx)))
def butOf : Nat → Own → List Nat
 | _, [] => []
 | 0, _ :: r => bsOf r
 | i + 1, p :: r => p.bs ++ butOf i r
theorem mem_but : ∀ {L : Own} {i : Nat} {q : OwnE}, L[i]? = some q → ∀ b, b ∈ bsOf L ↔ b ∈ q.bs ++ butOf i L
 | [], i, q, h => by simp at h
 | p :: r, 0, q, h => by simp at h; subst h; intro b; simp [bsOf, butOf]
 | p :: r, i + 1, q, h => by
  simp only [List.getElem?_cons_succ] at h
  intro b
  have := mem_but h b
  simp only [bsOf, butOf, List.mem_append] at this ⊢
  rw [this]
  constructor
  · rintro (h | h | h)
    · exact .inr (.inl h)
    · exact .inl h
    · exact .inr (.inr h)
  · rintro (h | h | h)
    · exact .inr (.inl h)
    · exact .inl h
    · exact .inr (.inr h)
theorem nodup_but : ∀ {L : Own} {i : Nat} {q : OwnE}, L[i]? = some q → (bsOf L).Nodup → (q.bs ++ butOf i L).Nodup
 | [], i, q, h, _ => by simp at h
 | p :: r, 0, q, h, hn => by simp at h; subst h; exact hn
 | p :: r, i + 1, q, h, hn => by
  simp only [List.getElem?_cons_succ] at h
  simp only [bsOf, List.nodup_append] at hn
  have ih := nodup_but h hn.2.1
  have hm := mem_but h
  simp only [butOf, List.nodup_append] at ih ⊢
  refine ⟨ih.1, ⟨hn.1, ih.2.1, fun a ha b hb => hn.2.2 a ha b ((hm b).2 (by simp [hb]))⟩, fun a ha b hb e => ?_⟩
  subst e
  rcases List.mem_append.1 hb with hb | hb
  · exact hn.2.2 a hb a ((hm a).2 (by simp [ha])) rfl
  · exact ih.2.2 a ha a hb rfl
theorem cg1 (i : Nat) {q : OwnE} {f : FuncId} {us : List Value} {As : List Atom} {β : Type} {R : β → Value → Prop} {q' : β → Value → OwnE} {A : β → Value → Own} {out : β → Value → List Atom} (hi : L[i]? = some q) (h : Fnc c.P f us [q] As R (fun y v => q' y v :: A y v) out) (hA : SubD As D) :
 ∀ w, St c.w0 c.M w L → DH D w L → Ret c.P f us w (fun v w' => ∃ y, R y v ∧ St c.w0 c.M w' (A y v ++ L.set i (q' y v)) ∧ DH (out y v ++ D) w' (A y v ++ L.set i (q' y v))) := by
 intro w st dh
 have hm := mem_but hi
 have hsq : ∀ b, Sf L.bs w b → Sf (Own.bs [q] ++ butOf i L) w b := fun b hx => ⟨hx.1, fun hy => hx.2 ((hm b).2 (by simpa [Own.bs, bsOf] using hy))⟩
 refine (h (butOf i L) w (by simpa [Own.bs, bsOf] using nodup_but hi st.nd) (fun b hb => st.lt b ((hm b).2 (by simp [hb]))) (fun p hp => ?_) (fun t ht => ?_)).mono fun v w' hp => ?_
 · have : p = q := by simpa using hp
   subst this
   exact p.keep (st.own p (List.mem_of_getElem? hi)) hsq (fun _ _ => rfl)
 · exact Atom.keep (dh t (hA t ht)) hsq (fun _ _ => rfl)
 · obtain ⟨hs, y, hR, hL, hn, hb, ho⟩ := hp
   have hs' : Stp q.bs w w' := by simpa [Own.bs, bsOf] using hs
   have hb' : ∀ b ∈ Own.bs (q' y v :: A y v), b ∈ q.bs ∨ w.heap.size ≤ b := fun b hx => (hb b hx).imp (fun h => by simpa [Own.bs, bsOf] using h) id
   have st' := st.upd1 (A := A y v) i hi hs' (butOf i L) hm (nodup_but hi st.nd) hL hn hb'
   refine ⟨y, hR, st', DH.app (fun t ht => ?_) (dh.turn (hs'.mono fun b hx => mem_bsOf.2 ⟨q, List.mem_of_getElem? hi, hx⟩) fun b hx => ?_)⟩
   · refine Atom.keep (ho t ht) (fun b hx => ⟨hx.1, fun hy => hx.2 ?_⟩) (fun _ _ => rfl)
     simp only [Own.bs, bsOf_append, List.mem_append] at hy
     rcases hy with hy | hy
     · simp [Own.bs, bsOf, hy]
     · rcases bs_set hi b hy with h1 | h1
       · simp [Own.bs, bsOf, h1]
       · rcases List.mem_append.1 ((hm b).1 h1) with h2 | h2
         · -- a block of q that still stands in L.set: only through q'
           obtain ⟨r, hr, hrb⟩ := mem_bsOf.1 hy
           obtain ⟨j, hj⟩ := List.getElem?_of_mem hr
           by_cases hij : i = j
           · subst hij
             have : i < L.length := (List.getElem?_eq_some_iff.1 hi).1
             rw [List.getElem?_set_self this] at hj
             injection hj with hj
             subst hj
             simp [Own.bs, bsOf, hrb]
           · rw [List.getElem?_set_ne hij] at hj
             exact absurd hrb (St.upd.bs_ne hi hj hij st.nd b h2)
         · simp [h2]
   · simp only [Own.bs, bsOf_append, List.mem_append] at hx
     rcases hx with hx | hx
     · rcases hb' b (by simp [Own.bs, bsOf, hx]) with h1 | h1
       · exact .inl (mem_bsOf.2 ⟨q, List.mem_of_getElem? hi, h1⟩)
       · exact .inr h1
     · rcases bs_set hi b hx with h1 | h1
       · rcases hb' b (by simp [Own.bs, bsOf, h1]) with h2 | h2
         · exact .inl (mem_bsOf.2 ⟨q, List.mem_of_getElem? hi, h2⟩)
         · exact .inr h2
       · exact .inl h1
theorem cf1 (i : Nat) {q : OwnE} {f : FuncId} {vs : List Value} {As : List Atom} {β : Type} {R : β → Value → Prop} {q' : β → Value → OwnE} {A : β → Value → Own} {out : β → Value → List Atom} (h : Fnc c.P f vs [q] As R (fun y v => q' y v :: A y v) out) (hok : FnOk c.P f)
 (hi : L[i]? = some q) {xs : List Operand} {ats : Array TypeId} (hxs : evs env xs = some vs) (hA : SubD As D) (hn : Nat.blt d c.n = true) (k : ∀ y v, R y v → WL Q c ops rest ((d, v) :: env) (A y v ++ L.set i (q' y v)) (out y v ++ D)) :
 WL Q c ops (⟨some d, .call { callee := .value (.func f), args := xs.toArray, argTypes := ats }, t, p, af, none⟩ :: rest) env L D :=
 ca_gen (x := .func f) (first := #[]) (cap := #[]) rfl hxs (by simp) hok _ (cg1 i hi h hA) (fun _ v => (d, v) :: env) (fun _ v a f => f.put v (lt_blt hn)) k
end
end
end Go.Eng
