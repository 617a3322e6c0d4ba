/- Part 8 of auditPlays_holds. -/
import Derived.Test.YtmpoffijcfaalaaGreatAp7

set_option maxRecDepth 20000
set_option maxHeartbeats 1000000
namespace Go.Eng
section
section
variable {c : Cx} {l : List Oper} {s : RH} {env : Env} {D : List Atom} {Q : Exit → Act → World → Prop}
def reachB (l : List Oper) (k : Nat) : Nat → Nat → Bool
 | 0, _ => false
 | f + 1, i => (List.range i).any fun j => edge l j i && (j == k || reachB l k f j)
theorem reach_listed {l : List Oper} {listed : Array Bool} (hcl : ∀ i k, listed.getD i false = true → edge l k i = true → listed.getD k false = true) {k : Nat} : ∀ (f i : Nat), (∀ j, edge l j i = true → listed.getD j false = true) → reachB l k f i = true → listed.getD k false = true
 | 0, _, _, h => by cases h
 | f + 1, i, hi, h => by
  rw [reachB, List.any_eq_true] at h
  obtain ⟨j, _, hj⟩ := h
  simp only [Bool.and_eq_true, Bool.or_eq_true, beq_iff_eq] at hj
  have hjl := hi j hj.1
  rcases hj.2 with rfl | h2
  · exact hjl
  · exact reach_listed hcl f j (fun q hq => hcl j q hjl hq) h2
def tailB (l : List Oper) (hd : Nat) : Bool := ((List.range hd).all fun k => reachB l k hd hd) && ((List.range l.length).all fun i => Nat.ble i hd || edge l (i - 1) i)
theorem tailB_spec {l : List Oper} {hd : Nat} (h : tailB l hd = true) (listed : Array Bool) (hcl : ∀ i k, listed.getD i false = true → edge l k i = true → listed.getD k false = true) :
 ∀ i, hd ≤ i → i < l.length → (∀ k, edge l k i = true → listed.getD k false = true) → ∀ k, k < hd → listed.getD k false = true := by
 simp only [tailB, Bool.and_eq_true] at h
 intro i
 induction i with
 | zero =>
  intro hi hl hp k hk
  omega
 | succ i ih =>
  intro hi hl hp k hk
  by_cases he : i + 1 = hd
  · exact reach_listed hcl hd hd (by rw [← he]; exact hp) (List.all_eq_true.1 h.1 k (List.mem_range.2 hk))
  · have hc := List.all_eq_true.1 h.2 (i + 1) (List.mem_range.2 hl)
    simp only [Bool.or_eq_true, Nat.add_sub_cancel] at hc
    rcases hc with hc | hc
    · have := Nat.le_of_ble_eq_true hc
      omega
    · have hi1 := hp i hc
      exact ih (by omega) (by omega) (fun q hq => hcl i q hi1 hq) k hk
def rhOkT (hd : Nat) (l : List Oper) (env : Env) (s : RH) (n : Nat) : Bool := ckDeps l s.deps && (List.range hd).all (fun i => ckDst1 l env i) && ckBack l && ckSize l n && ckH l s && tailB l hd && Region.seqB .any l.toArray (l.drop hd).length hd (headL hd l.length)
theorem wpAny_fin {hd : Nat} {L : Own} (hk : WL Q c l.toArray (l.drop hd) env L D) (hseq : Region.seqB .any l.toArray (l.drop hd).length hd (headL hd l.length) = true) {a : Act} {w : World} (f : Fr c.n a env) (st : St c.w0 c.M w L) (dh : DH D w L) :
 wpAny c.P .any l.toArray Q (l.length - hd) (headL hd l.length) a w := by
 have h := wpAny_of_seq (md := .any) (Q' := Q) (l.drop hd) hd (headL hd l.length) a w (fun j => by simp [List.getElem?_drop]) hseq (hk a w f st dh)
 rwa [List.length_drop] at h
theorem rgHG (hd : Nat) (s : RH) (hhs : s.hs = [[]]) (hok : rhOkT hd l env s c.n = true) (hhd : hd ≤ l.length) {L : Own} (hL : s.L [] [] = L) (hO : OblH c l s env D (l.take hd) 0) (A : Nat → Array Bool → Act → World → Prop)
 (hA : ∀ f listed a w, Region.ready .any l.toArray listed ≠ [] → (∀ i ∈ Region.ready .any l.toArray listed, ∀ Q', wpOp c.P l.toArray Q' i (A f (listed.setIfInBounds i true)) a w) → A (f + 1) listed a w)
 (k : ∀ V : Nat → Value, AllP (fun i => (dstOf l i).isSome = true → s.vals i = none → s.ok i (V i)) (List.range hd) → ∀ a w, Fr c.n a (envOf l (VV s.vals V) (List.range hd) ++ env) → St c.w0 c.M w L → DH (atsOf s.rs (VV s.vals V) ((List.range hd).filter fun i => (dstOf l i).isSome) ++ D) w L → A (l.length - hd) (headL hd l.length) a w)
 {a : Act} {w : World} (f : Fr c.n a env) (st : St c.w0 c.M w L) (dh : DH D w L) : A l.length (Array.replicate l.length false) a w.drew := by
 simp only [rhOkT, Bool.and_eq_true] at hok
 obtain ⟨⟨⟨⟨⟨⟨h1, h2⟩, h5⟩, hsz⟩, h4⟩, hT0⟩, _⟩ := hok
 subst hL
 obtain ⟨q1, q2⟩ := quietH hd s hhs h4 h5
 exact headH hd s (fun _ => s.L [] []) h1 h2 h5 hsz h4 (tailB_spec hT0) q1 hhd rfl q2 hO A hA k f st dh
theorem rgHT {id : Nat} (hd : Nat) (s : RH) (hhs : s.hs = [[]]) (hm : c.P.follows .mixedOrders = true) (hok : rhOkT hd l env s c.n = true) (hhd : hd ≤ l.length) {L : Own} (hL : s.L [] [] = L) (hO : OblH c l s env D (l.take hd) 0)
 (k : ∀ V : Nat → Value, AllP (fun i => (dstOf l i).isSome = true → s.vals i = none → s.ok i (V i)) (List.range hd) →
  WL Q c l.toArray (l.drop hd) (envOf l (VV s.vals V) (List.range hd) ++ env) L (atsOf s.rs (VV s.vals V) ((List.range hd).filter fun i => (dstOf l i).isSome) ++ D)) : WC c (.region id l.toArray true) Q env L D := fun a w f st dh => by
 have hseq : Region.seqB .any l.toArray (l.drop hd).length hd (headL hd l.length) = true := by
  simp only [rhOkT, Bool.and_eq_true] at hok
  exact hok.2
 exact wp_region_any hm (rgHG hd s hhs hok hhd hL hO (wpAny c.P .any l.toArray Q) (fun _ _ _ _ h0 h => ⟨fun h1 => absurd h1 h0, fun i hi => h i hi Q⟩) (fun V hV a w f st dh => wpAny_fin (k V hV) hseq f st dh) f st dh)
end
theorem eqGr {P : Program} {d m : Nat} {f : Field} {fs : List Field} {xs ys zs1 zs2 : Array Value} {r s : Bool} {w : World} (hn : (f.name == "_") = false) {ds : TypeDesc} (hu : P.underlying f.type = some ds) (hr : ds.isRow = true) (hm : (P.info? f.type).map (·.size) = some m) (ha : xs.extract f.offset (f.offset + m) = zs1) (hb : ys.extract f.offset (f.offset + m) = zs2)
 (he : ∀ w, (Op.equalIn d f.type (.agg zs1) (.agg zs2)).run P w = .ok r w) (hrest : ∀ w, (Op.eqFields d xs ys fs).run P w = .ok s w) : (Op.eqFields d xs ys (f :: fs)).run P w = .ok (r && s) w := by
 have hn' : f.name ≠ "_" := by simpa using hn
 obtain ⟨j, hj, hs⟩ := Option.map_eq_some_iff.1 hm
 have hp : ∀ (zs z : Array Value), zs.extract f.offset (f.offset + m) = z → ∀ w, (part f.type zs f.offset).run P w = .ok (.agg z) w := by
  intro zs z hz w
  unfold part
  rw [Sem.run_bind, run_isAgg hu, Result.andThen_ok, hr]
  simp [sizeOf, typeInfo, hj, hs, hz]
 unfold Op.eqFields
 rw [if_pos hn']
 simp only [Sem.run_bind, hp xs zs1 ha, hp ys zs2 hb, he, Result.andThen_ok]
 cases r with
 | false => simp
 | true => simpa using hrest w
end
end Go.Eng
namespace Go.Eng
open Go.RowKit
section
structure OneC where
instance repOne : Rep OneC where
 size := 1
 agg := false
 rd _ _ cs _ := ∃ u : Value, cs = [u] ∧ u.oneCell' = true
 len := by rintro S w cs x ⟨u, rfl, _⟩; rfl
 one := by
  rintro S w cs x ⟨u, rfl, h⟩ u' hu
  have : u' = u := by simpa using hu
  rw [this]
  exact h
 keep := by
  rintro S S' w w' cs x h _ _
  exact h
theorem one_holds {S : Nat → Prop} {w : World} {u : Value} (h : u.oneCell' = true) : Atom.holds (@Atom.mk OneC repOne u ⟨⟩) S w := by
 have ha : isAggV u = false := by cases u <;> first | rfl | simp [Value.oneCell'] at h
 exact ⟨ha, u, by rw [show (Atom.mk u (⟨⟩ : OneC)).v = u from rfl, cells_of_not ha], h⟩
theorem one_of {S : Nat → Prop} {w : World} {u : Value} (h : Atom.holds (@Atom.mk OneC repOne u ⟨⟩) S w) : u.oneCell' = true := by
 obtain ⟨ha, u', h1, h2⟩ := h
 have ha : isAggV u = false := ha
 have h1 : u.cells.toList = [u'] := h1
 rw [cells_of_not ha] at h1
 have : u = u' := by simpa using h1
 rw [this]
 exact h2
@[reducible] def oneAs (cs : List Value) : List Atom := cs.map fun u => @Atom.mk OneC repOne u ⟨⟩
theorem ones_hold {S : Nat → Prop} {w : World} {cs : List Value} (h : ∀ u ∈ cs, u.oneCell' = true) : ∀ t ∈ oneAs cs, t.holds S w := fun t ht => by
 obtain ⟨u, hu, rfl⟩ := List.mem_map.1 ht
 exact one_holds (h u hu)
@[reducible] def Shape.raw {α : Type} (s : Shape α) : Shape (α × s.H) where
 H := Unit
 size := s.size
 cells x _ := s.cells x.1 x.2
 sub x _ := oneAs (s.cells x.1 x.2)
 wf x := s.wf x.1
 len x _ := s.len x.1 x.2
 one := by
  intro S w x h ht u hu
  exact one_of (ht _ (List.mem_map.2 ⟨u, hu, rfl⟩))
@[reducible] def rawR {α : Type} (s : Shape α) : Rep (α × s.H) := Rep.ofShape s.raw
@[reducible] def rawA {α : Type} (s : Shape α) (v : Value) (ys : List (α × s.H)) : Atom := @Atom.mk (List (α × s.H)) (@repList _ (rawR s)) v ys
theorem raw_pick {α : Type} {s : Shape α} {S : Nat → Prop} {w : World} {b o : Nat} : ∀ (xs : List α) (k : Nat), (∀ i x, xs[i]? = some x → ∃ ds, @Rep.rd α (Rep.ofShape s) S w ds x ∧ Lies w b (o + (k + i) * s.size) ds) →
 ∃ ys : List (α × s.H), ys.map Prod.fst = xs ∧ (∀ i y, ys[i]? = some y → ∃ ds, @Rep.rd _ (rawR s) S w ds y ∧ Lies w b (o + (k + i) * s.size) ds) ∧ ∀ y ∈ ys, ∀ t ∈ s.sub y.1 y.2, t.holds S w
 | [], _, _ => ⟨[], rfl, by simp, by simp⟩
 | x :: xs, k, h => by
  obtain ⟨ds, ⟨hh, rfl, hsub, hwf⟩, hl⟩ := h 0 x rfl
  obtain ⟨ys, h1, h2, h3⟩ := raw_pick xs (k + 1) (fun i x' hx => by
   have := h (i + 1) x' hx
   rwa [show k + (i + 1) = k + 1 + i by omega] at this)
  refine ⟨(x, hh) :: ys, by rw [List.map_cons, h1], fun i y hy => ?_, fun y hy => ?_⟩
  · cases i with
    | zero =>
     have : y = (x, hh) := by simpa using hy.symm
     subst this
     exact ⟨_, ⟨(), rfl, ones_hold fun u hu => s.one x hh hsub u hu, hwf⟩, hl⟩
    | succ i =>
     have := h2 i y (by simpa using hy)
     rwa [show k + (i + 1) = k + 1 + i by omega]
  · rcases List.mem_cons.1 hy with rfl | hy
    · exact hsub
    · exact h3 y hy
theorem raw_of {α : Type} {s : Shape α} {S : Nat → Prop} {w : World} {v : Value} {xs : List α} (h : Atom.holds (@Atom.mk (List α) (@repList α (Rep.ofShape s)) v xs) S w) :
 ∃ ys : List (α × s.H), ys.map Prod.fst = xs ∧ (rawA s v ys).holds S w ∧ ∀ y ∈ ys, ∀ t ∈ s.sub y.1 y.2, t.holds S w := by
 obtain ⟨ha, A, cc, hsv, h1, h2, h3, h4⟩ := h
 by_cases hx : xs = []
 · subst hx
   exact ⟨[], rfl, ⟨ha, A, cc, hsv, h1, h2, h3, fun h => absurd rfl h⟩, by simp⟩
 · obtain ⟨b, o, hA, hS, hi⟩ := h4 hx
   obtain ⟨ys, g1, g2, g3⟩ := raw_pick (s := s) (S := S) (w := w) (b := b) (o := o) xs 0 (fun i x hx => by have := hi i x hx; rw [Nat.zero_add]; exact this)
   have hl : ys.length = xs.length := by rw [← g1]; simp
   refine ⟨ys, g1, ⟨ha, A, cc, ?_, by simpa only [hl] using h1, h2, by simpa only [hl] using h3, fun _ => ⟨b, o, hA, hS, fun i y hy => by have := g2 i y hy; rw [Nat.zero_add] at this; exact this⟩⟩, g3⟩
   simp only [hl]
   exact hsv
theorem emp_any {α : Type} {r : Rep α} {S S' : Nat → Prop} {w w' : World} {v : Value} (h : Atom.holds (@Atom.mk (List α) (@repList α r) v []) S w) : Atom.holds (@Atom.mk (List α) (@repList α r) v []) S' w' := by
 obtain ⟨ha, A, cc, hsv, h1, h2, h3, _⟩ := h
 exact ⟨ha, A, cc, hsv, h1, h2, h3, fun h => absurd rfl h⟩
theorem rdL_of_raw {α : Type} {s : Shape α} {S S' : Nat → Prop} {w : World} : ∀ (css : List (List Value)) (ys : List (α × s.H)), @rdL _ (rawR s) S w css ys → (∀ y ∈ ys, ∀ t ∈ s.sub y.1 y.2, t.holds S' w) → @rdL α (Rep.ofShape s) S' w css (ys.map Prod.fst)
 | [], [], _, _ => trivial
 | c :: css, y :: ys, ⟨⟨_, hc, _, hwf⟩, hr⟩, h => ⟨⟨y.2, hc, h y (List.mem_cons_self ..), hwf⟩, rdL_of_raw css ys hr fun z hz => h z (List.mem_cons_of_mem _ hz)⟩
 | [], _ :: _, h, _ => h.elim
 | _ :: _, [], h, _ => h.elim
theorem row_of_raw {α : Type} {s : Shape α} {S S' : Nat → Prop} {w : World} {e : TypeId} {v : Value} {ys : List (α × s.H)} (h : (@row _ (rawR s) e v ys).holds S w) (hs : ∀ y ∈ ys, ∀ t ∈ s.sub y.1 y.2, t.holds S' w) : (@row α (Rep.ofShape s) e v (ys.map Prod.fst)).holds S' w := by
 obtain ⟨css, h1, h2, h3⟩ := h
 exact ⟨css, by rw [List.length_map]; exact h1, rdL_of_raw css ys h2 hs, by rw [List.length_map]; exact h3⟩
theorem raw_row_any {α : Type} {s : Shape α} {S S' : Nat → Prop} {w : World} {e : TypeId} {v : Value} {ys : List (α × s.H)} (h : (@row _ (rawR s) e v ys).holds S w) : (@row _ (rawR s) e v ys).holds S' w := by
 obtain ⟨css, h1, h2, h3⟩ := h
 refine ⟨css, h1, ?_, h3⟩
 clear h1 h3
 induction css generalizing ys with
 | nil => cases ys <;> exact h2
 | cons c css ih =>
  cases ys with
  | nil => exact h2
  | cons y ys => exact ⟨by obtain ⟨_, hc, hs, hw⟩ := h2.1; exact ⟨(), hc, ones_hold fun u hu => one_of (hs _ (List.mem_map.2 ⟨u, hu, rfl⟩)), hw⟩, ih h2.2⟩
section
variable {c : Cx} {ops : Array Oper} {J : Cx → Array Oper → List Oper → Env → Own → List Atom → Prop} {Q : Exit → Act → World → Prop} {env : Env} {L : Own} {D : List Atom} {x : Code}
theorem rawL {α : Type} {s : Shape α} {l : List Oper} (i : Nat) {v : Value} {xs : List α} (hi : D[i]? = some (@Atom.mk (List α) (@repList α (Rep.ofShape s)) v xs))
 (k : ∀ ys : List (α × s.H), ys.map Prod.fst = xs → (∀ y ∈ ys, ∀ t ∈ s.sub y.1 y.2, ∃ S w, t.holds S w) → WL Q c ops l env L (rawA s v ys :: D)) : WL Q c ops l env L D := by
 intro a w f st dh
 obtain ⟨ys, h1, h2, h3⟩ := raw_of (dh.at_ i hi)
 exact k ys h1 (fun y hy t ht => ⟨_, _, h3 y hy t ht⟩) a w f st (DH.cons h2 dh)
theorem jnW {σ : Type} (E : σ → Env) (Ψ : σ → World → Prop) (h1 : WC c x (Exit.then (fun a w => ∃ s, Fr c.n a (E s) ∧ Ψ s w) Q) env L D) (h2 : ∀ s w, Ψ s w → ∀ a, Fr c.n a (E s) → Q .normal a w) : WC c x Q env L D := by
 intro a w f st d
 refine wp_mono (h1 a w f st d) ?_
 intro e a' w' hq
 cases e with
 | normal => obtain ⟨s, f', hp⟩ := hq; exact h2 s w' hp a' f'
 | _ => exact hq
end
structure KC (n₀ b : Nat) (E : TypeId) (A B : World) : Prop where
 size : A.heap.size ≤ B.heap.size
 block : ∀ k, k < n₀ → k ≠ b → B.heap[k]? = A.heap[k]?
 typed : ∀ k cs T fl, k ≠ b → T ≠ E → A.heap[k]? = some (.cells cs T fl) → B.heap[k]? = some (.cells cs T fl)
theorem KC.trans {n₀ b : Nat} {E : TypeId} {A B C : World} (h : KC n₀ b E A B) (k : KC n₀ b E B C) : KC n₀ b E A C :=
 ⟨Nat.le_trans h.size k.size, fun i hi hb => (k.block i hi hb).trans (h.block i hi hb), fun i cs T fl hb hT hi => k.typed i cs T fl hb hT (h.typed i cs T fl hb hT hi)⟩
theorem KC.putObj {n₀ b l : Nat} {E : TypeId} {W : World} {o o' : Obj} (hl : n₀ ≤ l) (ho : W.heap[l]? = some o) (hc : o.isCells = false) : KC n₀ b E W (W.putObj l o') :=
 ⟨by simp [World.putObj], fun k hk _ => World.putObj_heap_other (by omega), fun k cs T fl _ _ hk => by
  by_cases e : k = l
  · subst e
    rw [ho] at hk
    cases hk
    cases hc
  · exact (World.putObj_heap_other e).trans hk⟩
theorem Stp.kc {n₀ b : Nat} {E : TypeId} {M : List Nat} {A B : World} (h : Stp M A B) (hn : n₀ ≤ A.heap.size) (hM : ∀ k, k ∈ M → k < A.heap.size → k = b ∨ (n₀ ≤ k ∧ ∃ cs fl, A.heap[k]? = some (.cells cs E fl))) : KC n₀ b E A B :=
 ⟨h.size, fun k hk hb => h.block k (Nat.lt_of_lt_of_le hk hn) (fun hm => by
  rcases hM k hm (Nat.lt_of_lt_of_le hk hn) with h1 | ⟨h1, _⟩
  · exact hb h1
  · omega), fun k cs T fl hb hT hk => (h.block k (lt_of_heap hk) (fun hm => by
  rcases hM k hm (lt_of_heap hk) with h1 | ⟨_, cs', fl', h1⟩
  · exact hb h1
  · rw [hk] at h1
    cases h1
    exact hT rfl)).trans hk⟩
def Rd {α : Type} [Rep α] (n₀ b3 : Nat) (E : TypeId) (bs : List Nat) (v : Value) (ys : List α) (w : World) : Prop :=
 ∃ S : Nat → Prop, Atom.holds ⟨v, ys⟩ S w ∧ ∀ b, S b → b < w.heap.size ∧ b ∉ bs ∧ b ≠ b3 ∧ (b < n₀ ∨ ∃ cs T fl, w.heap[b]? = some (.cells cs T fl) ∧ T ≠ E)
theorem Rd.keep {α : Type} [Rep α] {n₀ b3 : Nat} {E : TypeId} {bs : List Nat} {v : Value} {ys : List α} {w w' : World} (h : Rd n₀ b3 E bs v ys w) (k : KC n₀ b3 E w w') : Rd n₀ b3 E bs v ys w' := by
 obtain ⟨S, h1, h2⟩ := h
 have hk : ∀ b, S b → w'.heap[b]? = w.heap[b]? := fun b hb => by
  obtain ⟨_, _, g1, g2⟩ := h2 b hb
  rcases g2 with g2 | ⟨cs, T, fl, g3, g4⟩
  · exact k.block b g2 g1
  · rw [g3]; exact k.typed b cs T fl g1 g4 g3
 refine ⟨S, Atom.keep h1 (fun _ h => h) hk, fun b hb => ?_⟩
 obtain ⟨g0, g1, g2, g3⟩ := h2 b hb
 refine ⟨Nat.lt_of_lt_of_le g0 k.size, g1, g2, ?_⟩
 rcases g3 with g3 | ⟨cs, T, fl, g3, g4⟩
 · exact .inl g3
 · exact .inr ⟨cs, T, fl, (hk b hb).trans g3, g4⟩
theorem Rd.holds {α : Type} [Rep α] {n₀ b3 : Nat} {E : TypeId} {bs : List Nat} {v : Value} {ys : List α} {w : World} (h : Rd n₀ b3 E bs v ys w) {L : Own} (hL : ∀ b ∈ L.bs, b ∈ bs) : Atom.holds ⟨v, ys⟩ (Sf L.bs w) w := by
 obtain ⟨S, h1, h2⟩ := h
 exact Atom.keep h1 (fun b hb => ⟨(h2 b hb).1, fun hx => (h2 b hb).2.1 (hL b hx)⟩) (fun _ _ => rfl)
theorem listIn_head {m : Nat} {P : Program} {ops : Array Oper} {Q : Exit → Act → World → Prop} {tl : List Oper} : ∀ (hd : List Oper), ∀ a w, wpList P ops (fun e a w => e = .normal ∧ wpListIn Fence.wide m P ops Q tl a w) hd a w → wpListIn Fence.wide m P ops Q (hd ++ tl) a w
 | [], a, w, h => h.2
 | o :: rest, a, w, h => by
  have ih := listIn_head (m := m) (P := P) (ops := ops) (Q := Q) (tl := tl) rest
  have hno : ¬ LetsOut (fun (e : Exit) (a : Act) (w : World) => e = .normal ∧ wpListIn Fence.wide m P ops Q tl a w) := by
   rintro ⟨a', w', h⟩
   cases h.1
  unfold wpList at h
  rw [List.cons_append]
  unfold wpListIn
  by_cases hw : Region.wanted o (yielded ops a.tmps) = true
  · rw [if_pos hw] at h ⊢
    have h := h.elim id fun h => absurd h.2 hno
    refine ⟨fun _ _ => trivial, ?_⟩
    unfold Oper.wp at h
    have hs : Oper.semAt Fence.wide.round a.eval o = execOp a.eval o := rfl
    rw [hs]
    generalize (execOp a.eval o).run P w = r at *
    cases r with
    | ok nx w' =>
     cases nx <;> simp only [Oper.upon, Oper.uponIn] at h ⊢ <;> try exact h
     · exact ih _ _ h
     · exact ih _ _ h
     · refine ⟨(fun hd => by cases hd), callsIn_wide.2 (Calls.mono h fun e w'' he => ?_)⟩
       cases e with
       | returned v => exact ih _ _ he
       | panicked ch => exact absurd he.1 (by intro h; cases h)
       | outgrown => exact absurd he hno
     · exact ih _ _ h
     · exact ⟨(fun hd => by cases hd), fun c cs _ => by obtain ⟨v, w', hR, hs⟩ := h c cs; exact ⟨v, w', ih _ _ hR, stepsIn_wide.2 hs⟩⟩
    | halt x w' => cases x <;> simp only [Oper.upon, Oper.uponIn] at h ⊢ <;> first | exact h | exact absurd h.1 (by intro h; cases h)
  · rw [if_neg hw] at h ⊢
    exact ⟨fun _ _ => trivial, ih _ _ h⟩
theorem listIn_plain {F : Fence} {n : Nat} {P : Program} {ops : Array Oper} {Q : Exit → Act → World → Prop} {rest : List Oper} {o : Oper} {a : Act} {w : World} (hg : o.guard = none) (h : o.wpIn F n P a w (fun a' w' => wpListIn F n P ops Q rest a' w') Q) : wpListIn F n P ops Q (o :: rest) a w := by
 unfold wpListIn
 rw [if_pos (by unfold Region.wanted; rw [hg])]
 exact h
theorem stp_drop {M : List Nat} {A B : World} (h : Stp M A B) (hM : ∀ k ∈ M, B.heap[k]? = A.heap[k]?) : Stp [] A B := ⟨h.os, h.tape, h.output, h.size, fun k hk _ => by
 by_cases e : k ∈ M
 · exact hM k e
 · exact h.block k hk e⟩
section
variable {c : Cx} {ops : Array Oper} {J : Cx → Array Oper → List Oper → Env → Own → List Atom → Prop} [iJ : IsJ J] {env : Env} {L : Own} {D : List Atom} {rest : List Oper} {d : Nat} {t : TypeId} {p : String} {af : Array Edge} {x : Operand}
include iJ
theorem ldRaw {α : Type} {s : Shape α} (i : Nat) {ov : α} {hh : s.H} {pv : Value} (hx : ev env x = some pv) (hA : D[i]? = some (@Atom.mk (Pt (α × s.H)) (@repPt _ (rawR s)) pv ⟨(ov, hh)⟩)) {E : TypeId} (ht : RowTy c.P E s.size) (hn : Nat.blt d c.n = true)
 (k : s.wf ov → J c ops rest ((d, .agg (s.cells ov hh).toArray) :: env) L D) : J c ops (⟨some d, .load E x, t, p, af, none⟩ :: rest) env L D :=
 ldS (s := s.raw) i hx hA ht hn fun _ hw => iJ.mono (fun _ _ f _ dh => ⟨f, fun u hu => dh u (List.mem_cons_of_mem _ (List.mem_append_right _ hu))⟩) (k hw)
end
theorem rd_of_row {α : Type} {s : Shape α} {n₀ b3 : Nat} {E T : TypeId} {bs : List Nat} {v : Value} {ys : List (α × s.H)} {w : World} {S : Nat → Prop} (h : (@row _ (rawR s) T v ys).holds S w) (hT : T ≠ E) (hb : ∀ b ∈ v.ownBlock.toList, b ∉ bs ∧ b ≠ b3) : @Rd _ (rawR s) n₀ b3 E bs v ys w := by
 refine ⟨fun b => b ∈ v.ownBlock.toList, row_list (raw_row_any (S' := fun _ => False) h) (fun _ h => h.elim) (fun b hb => hb), fun b hb' => ?_⟩
 obtain ⟨css, hown, _⟩ := h
 rcases hown.2 with ⟨rfl, _⟩ | ⟨g, cap, cur, rfl, _, hg, _⟩
 · simp [Value.ownBlock] at hb'
 · have : b = g := by simpa [Value.ownBlock] using hb'
   subst this
   have hg : w.heap[b]? = some (.cells cur T (0, 0)) := by simpa using hg
   exact ⟨lt_of_heap hg, (hb b hb').1, (hb b hb').2, .inr ⟨_, _, _, hg, hT⟩⟩
end
end Go.Eng
namespace Go.YtmpoffijcfaalaaGreat
open Go.Eng
abbrev HA := TAccount × sAccount.H
abbrev HC := Tcounted × scounted.H
@[reducible] instance rHA : Rep HA := rawR sAccount
@[reducible] instance rHC : Rep HC := rawR scounted
def cmpC (x y : Tcounted) : Int := cmpB x.fAccount.fKey y.fAccount.fKey
def ltC (x y : Tcounted) : Bool := decide (cmpC x y < 0)
def stOf (ss : List TState) (gr : Int) : TState := (firstI ss.length (fun j => decide ((ss.getD j default).fGroup = gr))).elim zeroState (fun j => ss.getD j default)
def isOf (ss : List TState) (gr : Int) : Bool := (firstI ss.length (fun j => decide ((ss.getD j default).fGroup = gr))).isSome
def waitsP (ss : List TState) (s : TState) : Bool :=
 if s.fOut.fNumber = 0 then false else !isOf ss s.fOut.fTo || decide ((stOf ss s.fOut.fTo).fAbsorbed < s.fOut.fNumber) || decide ((stOf ss s.fOut.fTo).fRefused = s.fOut.fNumber)
def imgA (a : TAccount) : Bool := !decide (errF (accP a) = 0) || aplainP a || !decide (a.fLock.fClient = 0) || decide ((a.fHolders.length : Int) > 0) || !decide (a.fRound = 0)
def imgB (s : TState) (l : List TAccount) (j : Nat) : Bool := !within s.fOut.fLo s.fOut.fHi (l.getD j default).fKey || (decide ((j : Int) > 0) && (ltB (l.getD j default).fKey (l.getD ((j : Int) - 1).toNat default).fKey || decide ((l.getD j default).fKey = (l.getD ((j : Int) - 1).toNat default).fKey)))
def imgAll (s : TState) (l : List TAccount) : Bool := allI l.length (fun j => !imgA (l.getD j default) && !imgB s l j)
def imagedP (s : TState) : Bool :=
 if s.fOut.fNumber = 0 then true else if (!decide ((rdState s.fImage).2 = 0) || decide (((rdState s.fImage).1.fAccounts.length : Int) > 12)) = true then false else imgAll s (rdState s.fImage).1.fAccounts
def badR (l : List TRight) : Bool := !decide (errF (ledgerP l) = 0)
def sndA (c : TChart) (ss : List TState) (rr : List (List TRight)) : Bool := !decide ((ss.length : Int) = 7) || decide ((rr.length : Int) > 5) || !decide (errF (planP c) = 0)
def sndB (ss : List TState) (j : Nat) : Bool := !decide ((ss.getD j default).fGroup = (j : Int) + 1) || !decide (errF (srightP (ss.getD j default)) = 0) || !imagedP (ss.getD j default)
def soundP (c : TChart) (ss : List TState) (rr : List (List TRight)) : Bool :=
 if sndA c ss rr = true then false else if allI ss.length (fun j => !sndB ss j) = true then !decide (placeI (firstI rr.length (fun j => badR (rr.getD j default))) ≥ 0) else false
def netP (l : List TRight) (gr : Int) (key : ByteArray) (n : Int) : Int :=
 if ¬ errF (ledgerP l) = 0 then 0 else match firstI l.length (fun j => decide (l.getD j default = ({ fGroup := gr, fKey := key, fLease := n, fNet := (l.getD j default).fNet } : TRight))) with
  | some j => (l.getD j default).fNet
  | none => 0
def zdeal : TDeal := ({ fClient := 0, fSeq := 0, fKey := ByteArray.empty, fOther := ByteArray.empty, fN := 0, fMine := 0, fTheirs := 0, fFate := 0 } : TDeal)
def findD (l : List TDeal) (c q : Int) : TDeal := if (decide (placeI (placeO l c q) < 0) || !decide (errF (dealsP l) = 0)) = true then zdeal else l.getD ((placeO l c q).getD 0) default
def isD (l : List TDeal) (c q : Int) : Bool := if (decide (placeI (placeO l c q) < 0) || !decide (errF (dealsP l) = 0)) = true then false else true
theorem placeO_ok {l : List TDeal} {c q : Int} (h : (decide (placeI (placeO l c q) < 0) || !decide (errF (dealsP l) = 0)) = false) : ∃ k, placeO l c q = some k ∧ k < l.length := by
 cases e : placeO l c q with
 | none =>
  rw [e] at h
  simp [placeI] at h
 | some k => exact ⟨k, rfl, firstI_lt e⟩
theorem netP_in {l : List TRight} (h : ∀ r ∈ l, r.wf) (gr : Int) (key : ByteArray) (n : Int) : InI (netP l gr key n) := by
 unfold netP
 split
 · exact ⟨by decide, by decide⟩
 · split
   · rename_i j e
     exact (h _ (getD_mem (firstI_lt e))).2.2.2
   · exact ⟨by decide, by decide⟩
def hpart (rr : List (List TRight)) (c : Tcounted) (h : THolder) : List Int :=
 if (decide (h.fNode ≥ 1) && decide (h.fNode ≤ (rr.length : Int))) = true then [netP (rr.getD (h.fNode - 1).toNat default) c.fGroup c.fAccount.fKey h.fLease] else []
def partsL (rr : List (List TRight)) (c : Tcounted) : Nat → List Int
 | 0 => [c.fAccount.fBase]
 | i + 1 => partsL rr c i ++ hpart rr c (c.fAccount.fHolders.getD i default)
theorem partsL_len (rr : List (List TRight)) (c : Tcounted) : ∀ i, (partsL rr c i).length ≤ i + 1
 | 0 => Nat.le_refl _
 | i + 1 => by
  have := partsL_len rr c i
  rw [partsL, List.length_append, hpart]
  split <;> simp <;> omega
theorem partsL_T {rr : List (List TRight)} {c : Tcounted} {i : Nat} (h : (c.fAccount.fHolders.getD i default).fNode ≥ 1 ∧ (c.fAccount.fHolders.getD i default).fNode ≤ (rr.length : Int)) :
 partsL rr c (i + 1) = partsL rr c i ++ [netP (rr.getD ((c.fAccount.fHolders.getD i default).fNode - 1).toNat default) c.fGroup c.fAccount.fKey (c.fAccount.fHolders.getD i default).fLease] := by
 rw [partsL, hpart, if_pos (by simpa only [Bool.and_eq_true, decide_eq_true_eq] using h)]
theorem partsL_F {rr : List (List TRight)} {c : Tcounted} {i : Nat} (h : (decide ((c.fAccount.fHolders.getD i default).fNode ≥ 1) && decide ((c.fAccount.fHolders.getD i default).fNode ≤ (rr.length : Int))) = false) : partsL rr c (i + 1) = partsL rr c i := by
 rw [partsL, hpart, if_neg (by rw [h]; decide), List.append_nil]
def lockPart (ss : List TState) (a : TAccount) : List Int :=
 if (isOf ss a.fLock.fHome && !decide (a.fLock.fClient = 0)) = true then (if (isD (stOf ss a.fLock.fHome).fDeals a.fLock.fClient a.fLock.fSeq && decide ((findD (stOf ss a.fLock.fHome).fDeals a.fLock.fClient a.fLock.fSeq).fFate = 1)) = true then [a.fLock.fN] else []) else []
def partsC (ss : List TState) (rr : List (List TRight)) (c : Tcounted) : List Int := partsL rr c c.fAccount.fHolders.length ++ lockPart ss c.fAccount
def hasV (ss : List TState) (rr : List (List TRight)) (c : Tcounted) : Int × Bool := (sumI (partsC ss rr c).sum, decide (sumE (partsC ss rr c).sum = 0) && hasP c.fAccount.fSpan (sumI (partsC ss rr c).sum))
def listP (ss : List TState) (s : TState) : List TAccount := if waitsP ss s = true then s.fAccounts ++ (rdState s.fImage).1.fAccounts else s.fAccounts
def cntOf (gr : Int) (a : TAccount) : Tcounted := ⟨a, gr⟩
def allU (ss : List TState) : Nat → List Tcounted
 | 0 => []
 | i + 1 => allU ss i ++ (listP ss (ss.getD i default)).map (cntOf (ss.getD i default).fGroup)
theorem allU_le (ss : List TState) : ∀ (j i : Nat), (allU ss i).length ≤ (allU ss (i + j)).length
 | 0, _ => Nat.le_refl _
 | j + 1, i => Nat.le_trans (allU_le ss j i) (by rw [← Nat.add_assoc, allU, List.length_append]; omega)
def keyC (l : List Tcounted) (j : Nat) : ByteArray := (l.getD j default).fAccount.fKey
def dupB (l : List Tcounted) : Bool := !allI (l.length - 1) (fun j => !decide (keyC l (j + 1) = keyC l j))
def accC (ss : List TState) (rr : List (List TRight)) (c : Tcounted) : TAccount := { fKey := c.fAccount.fKey, fSpan := c.fAccount.fSpan, fBase := (hasV ss rr c).1, fRound := 0, fHolders := [], fLock := { fClient := 0, fSeq := 0, fHome := 0, fN := 0 } }
def totC (ss : List TState) (rr : List (List TRight)) (c : Tcounted) : TTotal := { fKey := c.fAccount.fKey, fSpan := c.fAccount.fSpan, fValue := (hasV ss rr c).1 }
def totL (ss : List TState) (rr : List (List TRight)) (l : List Tcounted) : Nat → List TTotal
 | 0 => []
 | i + 1 => totL ss rr l i ++ (if aplainP (accC ss rr (l.getD i default)) = true then [] else [totC ss rr (l.getD i default)])
theorem totL_len (ss : List TState) (rr : List (List TRight)) (l : List Tcounted) : ∀ i, (totL ss rr l i).length ≤ i
 | 0 => Nat.le_refl _
 | i + 1 => by
  have := totL_len ss rr l i
  rw [totL, List.length_append]
  split <;> simp <;> omega
def srtC (ss : List TState) : List Tcounted := sortP ltC (allU ss ss.length)
def truthP (c : TChart) (ss : List TState) (rr : List (List TRight)) : List TTotal × Int :=
 if soundP c ss rr = false then ([], 1) else if dupB (srtC ss) = true then ([], 171)
 else if allI (srtC ss).length (fun j => (hasV ss rr ((srtC ss).getD j default)).2) = true then (totL ss rr (srtC ss) (srtC ss).length, 0) else ([], 150)
structure BigS (S : TState) : Prop where
 acc : S.fAccounts.length ≤ 100000
 hold : ∀ j, j < S.fAccounts.length → (S.fAccounts.getD j default).fHolders.length ≤ 100000
 marks : S.fMarks.length ≤ 100000
 waits : S.fWaits.length ≤ 100000
 deals : S.fDeals.length ≤ 100000
 ends : S.fEnds.length ≤ 100000
 image : S.fImage.length ≤ 140737488355328
structure BkS (S : TState) : Prop where
 acc : S.fAccounts.length ≤ 1048576
 hold : ∀ j, (S.fAccounts.getD j default).fHolders.length ≤ 1048576
 marks : S.fMarks.length ≤ 1048576
 waits : S.fWaits.length ≤ 1048576
 deals : S.fDeals.length ≤ 1048576
 ends : S.fEnds.length ≤ 1048576
 image : S.fImage.length ≤ 1048576
structure BkV (v : TScene) : Prop where
 places : v.fChart.fPlaces.length ≤ 1048576
 marks : v.fChart.fMarks.length ≤ 1048576
 states : v.fStates.length ≤ 1048576
 state : ∀ j, j < v.fStates.length → BkS (v.fStates.getD j default)
 rights : v.fRights.length ≤ 1048576
 ages : v.fAges.length ≤ 1048576
def allSame {α : Type} [Inhabited α] (p : α → α → Bool) (x y : List α) : Bool := decide (x.length = y.length) && allI x.length (fun j => p (x.getD j default) (y.getD j default))
theorem all_len {α : Type} [Inhabited α] {p : α → α → Bool} {x y : List α} (h : x.length ≠ y.length) : allSame p x y = false := by simp [allSame, h]
theorem all_no {α : Type} [Inhabited α] {p : α → α → Bool} {x y : List α} (i : Nat) (hi : i < x.length) (h : p (x.getD i default) (y.getD i default) = false) : allSame p x y = false := by rw [allSame, allI_false i hi h, Bool.and_false]
theorem all_yes {α : Type} [Inhabited α] {p : α → α → Bool} {x y : List α} (hl : x.length = y.length) (h : ∀ j, j < x.length → p (x.getD j default) (y.getD j default) = true) : allSame p x y = true := by
 rw [allSame, allI_true h, decide_eq_true hl]
 rfl
theorem all_self {α : Type} [Inhabited α] {p : α → α → Bool} (hp : ∀ x, p x x = true) (x : List α) : allSame p x x = true := all_yes rfl fun _ _ => hp _
theorem not_true {b : Bool} (h : (!b) = true) : b = false := by simpa using h
theorem not_false' {b : Bool} (h : (!b) = false) : b = true := by simpa using h
def sameState1 (x y : TState) : Bool := (!decide (x.fGroup = y.fGroup)) || (!decide (x.fIndex = y.fIndex)) || (!decide (x.fOwns = y.fOwns)) || (!decide (x.fLo = y.fLo)) || (!decide (x.fHi = y.fHi)) || (!decide (x.fEpoch = y.fEpoch)) || (!allSame sameAcc x.fAccounts y.fAccounts) || (!decide (x.fMarks = y.fMarks)) || (!decide (x.fWaits = y.fWaits))
def sameState (x y : TState) : Bool := if sameState1 x y = true then false else decide (x.fDeals = y.fDeals) && decide (x.fEnds = y.fEnds) && decide (x.fSeal = y.fSeal) && decide (x.fOut = y.fOut) && decide (x.fImage = y.fImage) && decide (x.fAbsorbed = y.fAbsorbed) && decide (x.fRefused = y.fRefused) && decide (x.fUndone = y.fUndone)
theorem sameAcc_self (a : TAccount) : sameAcc a a = true := by unfold sameAcc; simp
theorem sameState_self (x : TState) : sameState x x = true := by
 have h : sameState1 x x = false := by unfold sameState1; simp [all_self sameAcc_self]
 rw [sameState, if_neg (by rw [h]; decide)]
 simp
def sameChart (x y : TChart) : Bool := decide (x.fIndex = y.fIndex) && decide (x.fPlaces = y.fPlaces) && decide (x.fNext = y.fNext) && decide (x.fLast = y.fLast) && decide (x.fPlan = y.fPlan) && decide (x.fMarks = y.fMarks)
theorem sameChart_self (x : TChart) : sameChart x x = true := by unfold sameChart; simp
theorem take_snoc {α : Type} [Inhabited α] {l : List α} {i : Nat} (h : i < l.length) : l.take i ++ [l.getD i default] = l.take (i + 1) := by
 rw [List.take_add_one]
 simp [List.getD, List.getElem?_eq_getElem h]
def ageM (c q : Int) (a : TAge) : Bool := decide (a.fClient = c) && decide (a.fSeq = q)
def ageP (l : List TAge) (c q : Int) : Nat → Int
 | 0 => 0
 | i + 1 => if ageM c q (l.getD i default) = true then max (ageP l c q i) (l.getD i default).fTicks else ageP l c q i
def oldP (v : TScene) (c q : Int) : Bool := decide (ageP v.fAges c q v.fAges.length ≥ 8)
def zpl : TPlan := ⟨0, 0, 0, ByteArray.empty, ByteArray.empty, 0, 0⟩
end Go.YtmpoffijcfaalaaGreat
namespace Go.Proofs.YtmpoffijcfaalaaGreat
open Go.Eng Go.YtmpoffijcfaalaaGreat Go.ChangeShapes Go.WideShapes Go.ChangeAt Go.RowKit
section
theorem bulk_one {H : Type} (d : DataW H) : 1 ≤ Rows.uptoBulk d := by
 cases d with
 | lit l => cases l <;> simp [Rows.uptoBulk]
 | nil => simp [Rows.uptoBulk]
 | ptr d => simp [Rows.uptoBulk]
 | slice elems spare => simp [Rows.uptoBulk]
 | agg parts => simp [Rows.uptoBulk]
 | iface t d => simp [Rows.uptoBulk]
 | map entries => simp [Rows.uptoBulk]
 | held h => simp [Rows.uptoBulk]
theorem bulk_len {H : Type} (l : List (DataW H)) : l.length ≤ Rows.uptoBulkAll l := by
 induction l with
 | nil => simp [Rows.uptoBulkAll]
 | cons x r ih =>
  have := bulk_one x
  simp only [Rows.uptoBulkAll, List.length_cons]
  omega
theorem bulk_mem {H : Type} {d : DataW H} : ∀ {l : List (DataW H)}, d ∈ l → Rows.uptoBulk d ≤ Rows.uptoBulkAll l
 | x :: r, h => by
  simp only [Rows.uptoBulkAll]
  rcases List.mem_cons.1 h with rfl | h
  ·
   omega
  ·
   have := bulk_mem h
   omega
section
variable {P : Program} {H : Type} {enc : TypeId × Value → H} {w : World}
theorem field_bulk {fuel : Nat} {T : TypeId} {fs : Array Field} {cs : List Value} {x : DataW H × List MemPlace} (hu : P.underlying T = some (.struct fs)) (h : DataW.trod enc P w 0 (fun _ => true) true fuel T cs = some x) (i o n : Nat) {U : TypeId}
  (hf : fs[i]?.map (fun f => (f.type, f.offset)) = some (U, o)) (hn : P.cellsOf U = n) : ∃ m y, DataW.trod enc P w 0 (fun _ => true) true m U ((cs.drop o).take n) = some y ∧ Rows.uptoBulk y.1 ≤ Rows.uptoBulk x.1 := by
 obtain ⟨xs, m, _, rfl, _, hlen, hx⟩ := DataW.trod_struct hu h
 cases hfi : fs[i]? with
 | none => rw [hfi] at hf; cases hf
 | some f =>
  rw [hfi] at hf
  simp only [Option.map_some, Option.some.injEq, Prod.mk.injEq] at hf
  obtain ⟨rfl, rfl⟩ := hf
  subst hn
  have hi : i < xs.length := by rw [hlen]; exact (Array.getElem?_eq_some_iff.1 hfi).1
  have := hx i f hfi
  rw [List.getElem?_eq_getElem hi] at this
  refine ⟨m, _, this, ?_⟩
  have := bulk_mem (List.mem_map_of_mem (f := fun y : DataW H × List MemPlace => y.1) (List.getElem_mem hi))
  simp only [Rows.uptoBulk]
  omega
theorem list_bulk2 {fuel : Nat} {T E : TypeId} {α : Type} {r : Rep α} {v : Value} {x : DataW H × List MemPlace} {l : List α} {S : Nat → Prop}
  (hu : P.underlying T = some (.slice E)) (hs : P.cellsOf E = r.size) (h : DataW.trod enc P w 0 (fun _ => true) true fuel T [v] = some x) (hl : Atom.holds (@Atom.mk (List α) (@repList α r) v l) S w) :
  l.length ≤ Rows.uptoBulk x.1 ∧ ∀ (i : Nat) (e : α), l[i]? = some e → ∃ m cs y, DataW.trod enc P w 0 (fun _ => true) true m E cs = some y ∧ Rows.uptoBulk y.1 ≤ Rows.uptoBulk x.1 ∧ r.rd S w cs e := by
 obtain ⟨ha, A, cc, hcs, _, _, _, h4⟩ := hl
 rcases Deep.open_slice hu h with ⟨hc, hx⟩ | ⟨a, len, cap, m, n, D, Pl, hc, _, hlc, hcm, hm, hx, hi⟩
 ·
  obtain rfl : v = .slice none 0 0 := by simpa using hc
  have this : [Value.slice none 0 0] = [Value.slice A l.length cc] := hcs
  simp only [List.cons.injEq, Value.slice.injEq, and_true] at this
  have h0 : l.length = 0 := this.2.1.symm
  refine ⟨by omega, fun i e he => ?_⟩
  rw [List.length_eq_zero_iff.1 h0] at he
  cases he
 ·
  obtain rfl : v = .slice (some a) len cap := by simpa using hc
  have this : [Value.slice (some a) len cap] = [Value.slice A l.length cc] := hcs
  simp only [List.cons.injEq, Value.slice.injEq, and_true] at this
  obtain ⟨rfl, h0, _⟩ := this
  have h0 := h0.symm
  subst hx
  have hb := bulk_len ((List.range len).map D)
  simp only [List.length_map, List.length_range] at hb
  refine ⟨by simp only [Rows.uptoBulk]; omega, fun i e he => ?_⟩
  have hil : i < l.length := (List.getElem?_eq_some_iff.1 he).1
  have hne : l ≠ [] := fun e => by rw [e] at hil; cases hil
  obtain ⟨b, o, hab, _, hr⟩ := h4 hne
  obtain ⟨cs', h1, h2⟩ := hr i e he
  obtain ⟨cs2, g1, g2⟩ := hi i (by rw [hm]; split <;> omega)
  simp only [Option.some.injEq] at hab
  subst hab
  obtain ⟨k1, k2⟩ := cells_lies g1
  have hlen := r.len h1
  have e2 : cs' = cs2 := by
   refine List.ext_getElem? fun j => ?_
   rcases Nat.lt_or_ge j cs'.length with hj | hj
   ·
    have q1 := h2 j _ (List.getElem?_eq_getElem hj)
    have q2 := k2 j _ (List.getElem?_eq_getElem (by omega))
    rw [hs, Addr.add_mid, Addr.add_mid] at q2
    rw [List.getElem?_eq_getElem hj, List.getElem?_eq_getElem (by omega)]
    exact q1.symm.trans q2
   ·
    rw [List.getElem?_eq_none hj, List.getElem?_eq_none (by omega)]
  subst e2
  refine ⟨n, cs', _, g2, ?_, h1⟩
  have := bulk_mem (List.mem_map_of_mem (f := D) (List.mem_range.2 (h0 ▸ hil)))
  simp only [Rows.uptoBulk]
  omega
end
section
variable {H : Type} {enc : TypeId × Value → H} {w : World} {S : Nat → Prop}
theorem acc_bulk {fuel : Nat} {cs : List Value} {x : DataW H × List MemPlace} {a : TAccount} (h : DataW.trod enc Tryz.prog w 0 (fun _ => true) true fuel 70 cs = some x) (hr : rAccount.rd S w cs a) : a.fHolders.length ≤ Rows.uptoBulk x.1 := by
 obtain ⟨k, rfl, hs, _⟩ := hr
 obtain ⟨m, y, t, b⟩ := field_bulk Tryz.underlying70 h 4 5 1 rfl cells_66
 exact Nat.le_trans (list_bulk2 Tryz.underlying66 cells_165 t (hs ⟨k, a.fHolders⟩ (List.mem_cons_self ..))).1 b
theorem state_bulk {fuel n : Nat} {cs : List Value} {x : DataW H × List MemPlace} {s : TState} (h : DataW.trod enc Tryz.prog w 0 (fun _ => true) true fuel 55 cs = some x) (hr : rState.rd S w cs s) (hn : Rows.uptoBulk x.1 ≤ 1048576) : BkS s := by
 obtain ⟨⟨k0, k1, k2, k3, k4, k5⟩, rfl, hs, _⟩ := hr
 obtain ⟨m0, y0, t0, b0⟩ := field_bulk Tryz.underlying55 h 6 6 1 rfl cells_50
 obtain ⟨m1, y1, t1, b1⟩ := field_bulk Tryz.underlying55 h 7 7 1 rfl cells_25
 obtain ⟨m2, y2, t2, b2⟩ := field_bulk Tryz.underlying55 h 8 8 1 rfl cells_51
 obtain ⟨m3, y3, t3, b3⟩ := field_bulk Tryz.underlying55 h 9 9 1 rfl cells_52
 obtain ⟨m4, y4, t4, b4⟩ := field_bulk Tryz.underlying55 h 10 10 1 rfl cells_53
 obtain ⟨m5, y5, t5, b5⟩ := field_bulk Tryz.underlying55 h 13 25 1 rfl cells_35
 obtain ⟨l0, e0⟩ := list_bulk2 Tryz.underlying50 cells_70 t0 (hs ⟨k0, s.fAccounts⟩ (by simp))
 obtain ⟨l1, _⟩ := list_bulk2 Tryz.underlying25 cells_122 t1 (hs ⟨k1, s.fMarks⟩ (by simp))
 obtain ⟨l2, _⟩ := list_bulk2 Tryz.underlying51 cells_108 t2 (hs ⟨k2, s.fWaits⟩ (by simp))
 obtain ⟨l3, _⟩ := list_bulk2 Tryz.underlying52 cells_126 t3 (hs ⟨k3, s.fDeals⟩ (by simp))
 obtain ⟨l4, _⟩ := list_bulk2 Tryz.underlying53 cells_129 t4 (hs ⟨k4, s.fEnds⟩ (by simp))
 obtain ⟨l5, _⟩ := list_bulk2 Tryz.underlying35 cells_5 t5 (hs ⟨k5, s.fImage⟩ (by simp))
 refine ⟨by omega, fun j => ?_, by omega, by omega, by omega, by omega, by omega⟩
 rcases Nat.lt_or_ge j s.fAccounts.length with hj | hj
 ·
  obtain ⟨m, cs, y, t, b, r⟩ := e0 j (s.fAccounts.getD j default) (by simp [List.getD, List.getElem?_eq_getElem hj])
  have := acc_bulk t r
  omega
 ·
  rw [List.getD_eq_getElem?_getD, List.getElem?_eq_none hj]
  decide
theorem scene_bulk {fuel : Nat} {cs : List Value} {x : DataW H × List MemPlace} {v : TScene} (h : DataW.trod enc Tryz.prog w 0 (fun _ => true) true fuel 32 cs = some x) (hr : rScene.rd S w cs v) (hn : Rows.uptoBulk x.1 ≤ 1048576) : BkV v := by
 obtain ⟨⟨k0, k1, k2, k3, k4⟩, rfl, hs, _⟩ := hr
 obtain ⟨m, y, t, b⟩ := field_bulk Tryz.underlying32 h 2 2 12 rfl cells_27
 obtain ⟨m0, y0, t0, b0⟩ := field_bulk Tryz.underlying27 t 1 1 1 rfl cells_22
 obtain ⟨m1, y1, t1, b1⟩ := field_bulk Tryz.underlying27 t 5 11 1 rfl cells_25
 obtain ⟨m2, y2, t2, b2⟩ := field_bulk Tryz.underlying32 h 3 14 1 rfl cells_28
 obtain ⟨m3, y3, t3, b3⟩ := field_bulk Tryz.underlying32 h 4 15 1 rfl cells_29
 obtain ⟨m4, y4, t4, b4⟩ := field_bulk Tryz.underlying32 h 5 16 1 rfl cells_30
 obtain ⟨l0, _⟩ := list_bulk2 Tryz.underlying22 cells_90 t0 (hs ⟨k0, v.fChart.fPlaces⟩ (by simp))
 obtain ⟨l1, _⟩ := list_bulk2 Tryz.underlying25 cells_122 t1 (hs ⟨k1, v.fChart.fMarks⟩ (by simp))
 obtain ⟨l2, e2⟩ := list_bulk2 Tryz.underlying28 cells_55 t2 (hs ⟨k2, v.fStates⟩ (by simp))
 obtain ⟨l3, _⟩ := list_bulk2 Tryz.underlying29 cells_59 t3 (hs ⟨k3, v.fRights⟩ (by simp))
 obtain ⟨l4, _⟩ := list_bulk2 Tryz.underlying30 cells_62 t4 (hs ⟨k4, v.fAges⟩ (by simp))
 refine ⟨by omega, by omega, by omega, fun j hj => ?_, by omega, by omega⟩
 obtain ⟨m, cs, y, t, b, r⟩ := e2 j (v.fStates.getD j default) (by simp [List.getD, List.getElem?_eq_getElem hj])
 exact state_bulk (n := 0) t r (by omega)
end
end
end Go.Proofs.YtmpoffijcfaalaaGreat
namespace Go.Proofs.YtmpoffijcfaalaaGreat
open Go.Eng
theorem app_220 : AppTy Pg 220 3 1 8 := AppTy.mk Tryz.underlying220 (by kernel_rfl) (by decide)
theorem arr_294 : ArrTy Tryz.prog 294 4 8 1 := ⟨Tryz.underlying294, by kernel_rfl⟩
theorem ext_220 : Ext Tryz.prog 220 Extern.BytealgCompare.compare := ⟨⟨_, Tryz.func220, by kernel_rfl, by kernel_rfl, by kernel_rfl, by kernel_rfl⟩⟩
theorem ext_222 : Ext Tryz.prog 222 add64Entry := ⟨⟨_, Tryz.func222, by kernel_rfl, by kernel_rfl, by kernel_rfl, by kernel_rfl⟩⟩
theorem mixed : Tryz.prog.follows .mixedOrders = true := by kernel_rfl
theorem one_3 : OneTy Pg 3 := ⟨⟨_, Tryz.underlying3, rfl⟩, by kernel_rfl⟩
theorem slt_22 : SliceTy Pg 22 90 3 := ⟨Tryz.underlying22, by kernel_rfl⟩
theorem slt_220 : SliceTy Pg 220 3 1 := ⟨Tryz.underlying220, by kernel_rfl⟩
theorem slt_25 : SliceTy Pg 25 122 7 := ⟨Tryz.underlying25, by kernel_rfl⟩
theorem slt_29 : SliceTy Pg 29 59 4 := ⟨Tryz.underlying29, by kernel_rfl⟩
theorem slt_50 : SliceTy Pg 50 70 10 := ⟨Tryz.underlying50, by kernel_rfl⟩
theorem slt_52 : SliceTy Pg 52 126 8 := ⟨Tryz.underlying52, by kernel_rfl⟩
theorem slt_53 : SliceTy Pg 53 129 2 := ⟨Tryz.underlying53, by kernel_rfl⟩
theorem slt_66 : SliceTy Pg 66 165 4 := ⟨Tryz.underlying66, by kernel_rfl⟩
theorem zero_122 : ZeroOf Pg 122 [.int .i64 0, .int .i64 0, .bool false, .int .i64 0, .int .i64 0, .int .i64 0, .int .i64 0] := ZeroOf.mk (by kernel_rfl)
theorem zero_126 : ZeroOf Pg 126 [.int .i64 0, .int .i64 0, .string ByteArray.empty, .string ByteArray.empty, .int .i64 0, .int .i64 0, .int .i64 0, .int .i64 0] := ZeroOf.mk (by kernel_rfl)
theorem zero_129 : ZeroOf Pg 129 [.int .i64 0, .int .i64 0] := ZeroOf.mk (by kernel_rfl)
theorem zero_165 : ZeroOf Pg 165 [.int .i64 0, .int .i64 0, .int .i64 0, .int .i64 0] := ZeroOf.mk (by kernel_rfl)
theorem zero_294 : ZeroOf Pg 294 [.bool false, .bool false, .bool false, .bool false, .bool false, .bool false, .bool false, .bool false] := ZeroOf.mk (by kernel_rfl)
theorem zero_34 : ZeroOf Pg 34 [.int .i64 0, .string ByteArray.empty, .string ByteArray.empty, .int .i64 0, .int .i64 0, .int .i64 0] := ZeroOf.mk (by kernel_rfl)
theorem zero_59 : ZeroOf Pg 59 [.int .i64 0, .string ByteArray.empty, .int .i64 0, .int .i64 0] := ZeroOf.mk (by kernel_rfl)
theorem zero_70 : ZeroOf Pg 70 [.string ByteArray.empty, .int .i64 0, .int .i64 0, .int .i64 0, .int .i64 0, .slice none 0 0, .int .i64 0, .int .i64 0, .int .i64 0, .int .i64 0] := ZeroOf.mk (by kernel_rfl)
theorem zero_90 : ZeroOf Pg 90 [.int .i64 0, .string ByteArray.empty, .int .i64 0] := ZeroOf.mk (by kernel_rfl)
end Go.Proofs.YtmpoffijcfaalaaGreat
namespace Go.Proofs.YtmpoffijcfaalaaGreat
open Go.Eng Go.YtmpoffijcfaalaaGreat
section
variable (k : ByteArray) (c q n g : Int) (lo hi key : ByteArray)
theorem sgroup_c (h_g : InI g) : FnV Pg 169 [.int .i64 g] [] (.bool (okGroup g)) := by
 refine Fnc.proof Tryz.func169 G 9 G G fun X w => ?_
 obtain ⟨h_g1, h_g2⟩ := id h_g
 exact sa 1 G<|qg<|ru 3 G<|ja 5 3 [] [] G G G<|ru 1 G<|nl<|nx<|rt<|fR1 () G G (by rfl) G Sn
theorem rgroup_c (h_g : InI g) : FnV Pg 243 [.int .i64 g] [] (.bool (okGroup g)) := by
 refine Fnc.proof Tryz.func243 G 9 G G fun X w => ?_
 obtain ⟨h_g1, h_g2⟩ := id h_g
 exact sa 1 G<|qg<|ru 3 G<|ja 5 3 [] [] G G G<|ru 1 G<|nl<|nx<|rt<|fR1 () G G (by rfl) G Sn
theorem lgroup_c (h_g : InI g) : FnV Pg 98 [.int .i64 g] [] (.bool (okGroup g)) := by
 refine Fnc.proof Tryz.func98 G 9 G G fun X w => ?_
 obtain ⟨h_g1, h_g2⟩ := id h_g
 exact sa 1 G<|qg<|ru 3 G<|ja 5 3 [] [] G G G<|ru 1 G<|nl<|nx<|rt<|fR1 () G G (by rfl) G Sn
theorem group19_c (h_g : InI g) : FnV Pg 132 [.int .i64 g] [] (.bool (okGroup g)) := by
 refine Fnc.proof Tryz.func132 G 9 G G fun X w => ?_
 obtain ⟨h_g1, h_g2⟩ := id h_g
 exact sa 1 G<|qg<|ru 3 G<|ja 5 3 [] [] G G G<|ru 1 G<|nl<|nx<|rt<|fR1 () G G (by rfl) G Sn
theorem group16_c (h_g : InI g) : FnV Pg 102 [.int .i64 g] [] (.bool (okGroup g)) := by
 refine Fnc.proof Tryz.func102 G 9 G G fun X w => ?_
 obtain ⟨h_g1, h_g2⟩ := id h_g
 exact sa 1 G<|qg<|ru 3 G<|ja 5 3 [] [] G G G<|ru 1 G<|nl<|nx<|rt<|fR1 () G G (by rfl) G Sn
theorem number19_c (h_n : InI n) : FnV Pg 133 [.int .i64 n] [] (.bool (okNum n)) := by
 refine Fnc.proof Tryz.func133 G 9 G G fun X w => ?_
 obtain ⟨h_n1, h_n2⟩ := id h_n
 exact sa 1 G<|qg<|ru 3 G<|ja 5 3 [] [] G G G<|ru 1 G<|nl<|nx<|rt<|fR1 () G G (by rfl) G Sn
theorem number20_c (h_n : InI n) : FnV Pg 126 [.int .i64 n] [] (.bool (okNum n)) := by
 refine Fnc.proof Tryz.func126 G 9 G G fun X w => ?_
 obtain ⟨h_n1, h_n2⟩ := id h_n
 exact sa 1 G<|qg<|ru 3 G<|ja 5 3 [] [] G G G<|ru 1 G<|nl<|nx<|rt<|fR1 () G G (by rfl) G Sn
theorem client14_c (h_n : InI n) : FnV Pg 37 [.int .i64 n] [] (.bool (okClient n)) := by
 refine Fnc.proof Tryz.func37 G 9 G G fun X w => ?_
 obtain ⟨h_n1, h_n2⟩ := id h_n
 exact sa 1 G<|qg<|ru 3 G<|ja 5 3 [] [] G G G<|ru 1 G<|nl<|nx<|rt<|fR1 () G G (by rfl) G Sn
theorem seq14_c (h_n : InI n) : FnV Pg 38 [.int .i64 n] [] (.bool (okSeq n)) := by
 refine Fnc.proof Tryz.func38 G 9 G G fun X w => ?_
 obtain ⟨h_n1, h_n2⟩ := id h_n
 exact sa 1 G<|qg<|ru 3 G<|ja 5 3 [] [] G G G<|ru 1 G<|nl<|nx<|rt<|fR1 () G G (by rfl) G Sn
theorem key15_c : FnV Pg 168 [.string k] [] (.bool (okKey k)) := by
 refine Fnc.proof Tryz.func168 G 11 G G fun X w => sa 1 G<|qg<|mv G G<|lnS G Tryz.underlying9 G<|ru 2 G ?_
 refine jy 6 4 [] G G (fun h6 K10 => by
  have p6 := of_decide_eq_true h6
  exact ru 1 G<|gY G G G<|lnS G Tryz.underlying9 G<|ru 2 G<|K10 G Sr) ?_
 exact ru 1 G<|nl<|nx<|rt<|fR1 () G G (by rfl) G Sn
theorem skeyed_c : FnV Pg 241 [.string k] [] (.bool (okKey k)) := by
 refine Fnc.proof Tryz.func241 G 11 G G fun X w => sa 1 G<|qg<|mv G G<|lnS G Tryz.underlying9 G<|ru 2 G ?_
 refine jy 6 4 [] G G (fun h6 K10 => by
  have p6 := of_decide_eq_true h6
  exact ru 1 G<|gY G G G<|lnS G Tryz.underlying9 G<|ru 2 G<|K10 G Sr) ?_
 exact ru 1 G<|nl<|nx<|rt<|fR1 () G G (by rfl) G Sn
theorem swhose_c (h_c : InI c) (h_q : InI q) : FnV Pg 240 [.int .i64 c, .int .i64 q] [] (.bool (okWhose c q)) := by
 refine Fnc.proof Tryz.func240 G 19 G G fun X w => ?_
 obtain ⟨h_c1, h_c2⟩ := id h_c
 obtain ⟨h_q1, h_q2⟩ := id h_q
 exact sa 1 G<|qg<|ru 3 G<|ja 7 3 [] [1] G G G<|mv G G<|ja 11 3 [] [1] G G G<|mv G G<|ja 15 3 [] [] G G G<|ru 1 G<|nl<|nx<|rt<|fR1 () G G (by rfl) G Sn
theorem dwhose_c (h_c : InI c) (h_q : InI q) : FnV Pg 239 [.int .i64 c, .int .i64 q] [] (.bool (okWhose c q)) := by
 refine Fnc.proof Tryz.func239 G 19 G G fun X w => ?_
 obtain ⟨h_c1, h_c2⟩ := id h_c
 obtain ⟨h_q1, h_q2⟩ := id h_q
 exact sa 1 G<|qg<|ru 3 G<|ja 7 3 [] [1] G G G<|mv G G<|ja 11 3 [] [1] G G G<|mv G G<|ja 15 3 [] [] G G G<|ru 1 G<|nl<|nx<|rt<|fR1 () G G (by rfl) G Sn
theorem pwhose_c (h_c : InI c) (h_q : InI q) : FnV Pg 190 [.int .i64 c, .int .i64 q] [] (.bool (okWhose c q)) := by
 refine Fnc.proof Tryz.func190 G 19 G G fun X w => ?_
 obtain ⟨h_c1, h_c2⟩ := id h_c
 obtain ⟨h_q1, h_q2⟩ := id h_q
 exact sa 1 G<|qg<|ru 3 G<|ja 7 3 [] [1] G G G<|mv G G<|ja 11 3 [] [1] G G G<|mv G G<|ja 15 3 [] [] G G G<|ru 1 G<|nl<|nx<|rt<|fR1 () G G (by rfl) G Sn
theorem within_c : FnV Pg 80 [.string lo, .string hi, .string key] [] (.bool (within lo hi key)) := by
 refine Fnc.proof Tryz.func80 G 19 G G fun X w => sa 1 G<|qg<|ru 2 G<|leS G G G<|mv G G ?_
 refine jy 10 8 [] G G (fun h10 K18 => by
  refine ru 3 G ?_
  refine jz 13 4 [10] G G (fun h13 K17 => by
   have p13 := of_decide_eq_false h13
   exact ru 2 G<|gY G G G<|ltS G G G<|ru 1 G<|K17 G Sr) ?_
  exact ru 1 G<|K18 G Sr) ?_
 exact ru 1 G<|nl<|nx<|rt<|fR1 () G G (by rfl) G Sn
theorem within17_c : FnV Pg 82 [.string lo, .string hi, .string key] [] (.bool (within lo hi key)) := by
 refine Fnc.proof Tryz.func82 G 19 G G fun X w => sa 1 G<|qg<|ru 2 G<|geS G G G<|mv G G ?_
 refine jy 10 8 [] G G (fun h10 K18 => by
  refine ru 3 G ?_
  refine jz 13 4 [10] G G (fun h13 K17 => by
   have p13 := of_decide_eq_false h13
   exact ru 2 G<|gY G G G<|ltS G G G<|ru 1 G<|K17 G Sr) ?_
  exact ru 1 G<|K18 G Sr) ?_
 exact ru 1 G<|nl<|nx<|rt<|fR1 () G G (by first | rfl | (simp only [within, le_ge, Bool.not_not]; rfl) | (simp only [within, le_ge, Bool.not_not])) G Sn
theorem spans_c : FnV Pg 237 [.string lo, .string hi] [] (.bool (spansP lo hi)) := by
 refine Fnc.proof Tryz.func237 G 22 G G fun X w => sa 1 G<|qg<|mv G G<|lnS G Tryz.underlying9 G<|ru 2 G ?_
 refine jy 8 4 [0,1] G G (fun h8 K12 => by
  have p8 := of_decide_eq_true h8
  exact ru 1 G<|gY G G G<|lnS G Tryz.underlying9 G<|ru 2 G<|K12 G Sr) ?_
 refine mv G G ?_
 refine jy 13 8 [] G G (fun h13 K21 => by
  refine ru 3 G ?_
  refine jz 16 4 [13] G G (fun h16 K20 => by
   have p16 := of_decide_eq_false h16
   exact ru 2 G<|gY G G G<|gtS G G G<|ru 1 G<|K20 G Sr) ?_
  exact ru 1 G<|K21 G Sr) ?_
 exact ru 1 G<|nl<|nx<|rt<|fR1 () G G (by first | rfl | (simp only [spansP, le_ge, Bool.not_not]; rfl) | (simp only [spansP, le_ge, Bool.not_not])) G Sn
theorem span19_c : FnV Pg 134 [.string lo, .string hi] [] (.bool (spansP lo hi)) := by
 refine Fnc.proof Tryz.func134 G 22 G G fun X w => sa 1 G<|qg<|mv G G<|lnS G Tryz.underlying9 G<|ru 2 G ?_
 refine jy 8 4 [0,1] G G (fun h8 K12 => by
  have p8 := of_decide_eq_true h8
  exact ru 1 G<|gY G G G<|lnS G Tryz.underlying9 G<|ru 2 G<|K12 G Sr) ?_
 refine mv G G ?_
 refine jy 13 8 [] G G (fun h13 K21 => by
  refine ru 3 G ?_
  refine jz 16 4 [13] G G (fun h16 K20 => by
   have p16 := of_decide_eq_false h16
   exact ru 2 G<|gY G G G<|ltS G G G<|ru 1 G<|K20 G Sr) ?_
  exact ru 1 G<|K21 G Sr) ?_
 exact ru 1 G<|nl<|nx<|rt<|fR1 () G G (by first | rfl | (simp only [spansP, le_ge, Bool.not_not]; rfl) | (simp only [spansP, le_ge, Bool.not_not])) G Sn
end
section
variable (r : TRight) (m t : Int) (p : TPlan) (v_l : Value) (l : List TPlace) (i : Int) (s : TState) (s_0 s_1 s_2 s_3 s_4 s_5 : Value) (key : ByteArray)
theorem has_c (s : TSpan) (v : Int) (h_s : s.wf) (h_v : InI v) : FnV Pg 165 [.agg (cSpan s).toArray, .int .i64 v] [] (.bool (hasP s v)) := by
 refine Fnc.proof Tryz.func165 G 15 G G fun X w => ?_
 obtain ⟨h_v1, h_v2⟩ := id h_v
 exact qg<|bx G G G fun b2 => ru 1 G<|nl<|nx<|qg<|rl 5 [0] G G<|ja 9 5 [0] [] G G G<|ru 1 G<|nl<|nx<|rt<|dpQ<|fR1 () G G (by rfl) G Sn
theorem has01_c (s : TSpan) (v : Int) (h_s : s.wf) (h_v : InI v) : FnV Pg 153 [.agg (cSpan s).toArray, .int .i64 v] [] (.bool (hasP s v)) := by
 refine Fnc.proof Tryz.func153 G 15 G G fun X w => ?_
 obtain ⟨h_v1, h_v2⟩ := id h_v
 exact qg<|bx G G G fun b2 => ru 1 G<|nl<|nx<|qg<|rl 5 [0] G G<|ja 9 5 [0] [] G G G<|ru 1 G<|nl<|nx<|rt<|dpQ<|fR1 () G G (by rfl) G Sn
theorem owns_c (h_s : s.wf) : FnV Pg 78 [.agg (cState s s_0 s_1 s_2 s_3 s_4 s_5).toArray, .string key] [⟨s_0, s.fAccounts⟩, ⟨s_1, s.fMarks⟩, ⟨s_2, s.fWaits⟩, ⟨s_3, s.fDeals⟩, ⟨s_4, s.fEnds⟩, ⟨s_5, s.fImage⟩] (.bool (ownsP s key)) := by
 exact Fnc.proof Tryz.func78 G 15 G G fun X w => qg<|bx G G G fun b2 => ru 1 G<|nl<|nx<|qg<|rl 3 [0] G G<|jy 7 7 [] G G (fun h7 K14 => rl 5 [0,0] G G<|gY G G G<|cfv (within_c _ _ _) (Kg G) G Sn G<|ru 1 G<|K14 G Sr)<|ru 1 G<|nl<|nx<|rt<|dpQ<|fR1 () G G (by rfl) G Sn
theorem owns19_c (h_s : s.wf) : FnV Pg 81 [.agg (cState s s_0 s_1 s_2 s_3 s_4 s_5).toArray, .string key] [⟨s_0, s.fAccounts⟩, ⟨s_1, s.fMarks⟩, ⟨s_2, s.fWaits⟩, ⟨s_3, s.fDeals⟩, ⟨s_4, s.fEnds⟩, ⟨s_5, s.fImage⟩] (.bool (ownsP s key)) := by
 exact Fnc.proof Tryz.func81 G 15 G G fun X w => qg<|bx G G G fun b2 => ru 1 G<|nl<|nx<|qg<|rl 3 [0] G G<|jy 7 7 [] G G (fun h7 K14 => rl 5 [0,0] G G<|gY G G G<|cfv (within17_c _ _ _) (Kg G) G Sn G<|ru 1 G<|K14 G Sr)<|ru 1 G<|nl<|nx<|rt<|dpQ<|fR1 () G G (by rfl) G Sn
theorem sealed_c (h_s : s.wf) : FnV Pg 242 [.agg (cState s s_0 s_1 s_2 s_3 s_4 s_5).toArray, .string key] [⟨s_0, s.fAccounts⟩, ⟨s_1, s.fMarks⟩, ⟨s_2, s.fWaits⟩, ⟨s_3, s.fDeals⟩, ⟨s_4, s.fEnds⟩, ⟨s_5, s.fImage⟩] (.bool (sealedP s key)) := by
 refine Fnc.proof Tryz.func242 G 19 G G fun X w => qg<|bx G G G fun b2 => ru 1 G<|nl<|nx<|qg<|rl 5 [0] G G ?_
 refine jy 9 9 [] G G (fun h9 K18 => by
  have p9 := h9
  simp only [Bool.not_eq_true', Bool.not_eq_false', decide_eq_true_eq, decide_eq_false_iff_not] at p9
  exact rl 7 [0,0] G G<|gY G G G<|cfv (within_c _ _ _) (Kg G) G Sn G<|ru 1 G<|K18 G Sr) ?_
 exact ru 1 G<|nl<|nx<|rt<|dpQ<|fR1 () G G (by rfl) G Sn
theorem sealed19_c (h_s : s.wf) : FnV Pg 196 [.agg (cState s s_0 s_1 s_2 s_3 s_4 s_5).toArray, .string key] [⟨s_0, s.fAccounts⟩, ⟨s_1, s.fMarks⟩, ⟨s_2, s.fWaits⟩, ⟨s_3, s.fDeals⟩, ⟨s_4, s.fEnds⟩, ⟨s_5, s.fImage⟩] (.bool (sealedP s key)) := by
 refine Fnc.proof Tryz.func196 G 19 G G fun X w => qg<|bx G G G fun b2 => ru 1 G<|nl<|nx<|qg<|rl 5 [0] G G ?_
 refine jy 9 9 [] G G (fun h9 K18 => by
  have p9 := h9
  simp only [Bool.not_eq_true', Bool.not_eq_false', decide_eq_true_eq, decide_eq_false_iff_not] at p9
  exact rl 7 [0,0] G G<|gY G G G<|cfv (within17_c _ _ _) (Kg G) G Sn G<|ru 1 G<|K18 G Sr) ?_
 exact ru 1 G<|nl<|nx<|rt<|dpQ<|fR1 () G G (by rfl) G Sn
theorem planned_c (h_p : p.wf) : FnV Pg 186 [.agg (cPlan p).toArray] [] (.bool (plannedP p)) := by
 exact Fnc.proof Tryz.func186 G 35 G G fun X w => qg<|bx G G G fun b1 => ru 1 G<|nl<|nx<|qg<|rl 4 [0] G G<|ja 6 4 [0] [1] G G G<|mv G G<|jy 11 4 [1] G G (fun h11 K15 => rl 2 [0] G G<|gY G G G<|cfv (sgroup_c _ h_p.2.1) (Kg G) G Sn G<|ru 1 G<|K15 G Sr)<|mv G G<|jy 16 4 [1] G G (fun h16 K20 => rl 2 [0] G G<|gY G G G<|cfv (sgroup_c _ h_p.2.2.1) (Kg G) G Sn G<|ru 1 G<|K20 G Sr)<|mv G G<|ja 21 6 [0,0] [1] G G G<|mv G G<|jy 28 6 [] G G (fun h28 K34 => rl 4 [0,0] G G<|gY G G G<|cfv (spans_c _ _) (Kg G) G Sn G<|ru 1 G<|K34 G Sr)<|ru 1 G<|nl<|nx<|rt<|dpQ<|fR1 () G G (by rfl) G Sn
theorem plan19_c (h_p : p.wf) : FnV Pg 139 [.agg (cPlan p).toArray] [] (.bool (plan19 p)) := by
 exact Fnc.proof Tryz.func139 G 35 G G fun X w => qg<|bx G G G fun b1 => ru 1 G<|nl<|nx<|qg<|rl 2 [0] G G<|cfv (number19_c _ h_p.1) (Kg G) G Sn G<|mv G G<|ja 6 4 [0] [1] G G G<|mv G G<|jy 11 4 [1] G G (fun h11 K15 => rl 2 [0] G G<|gY G G G<|cfv (group19_c _ h_p.2.1) (Kg G) G Sn G<|ru 1 G<|K15 G Sr)<|mv G G<|jy 16 4 [1] G G (fun h16 K20 => rl 2 [0] G G<|gY G G G<|cfv (group19_c _ h_p.2.2.1) (Kg G) G Sn G<|ru 1 G<|K20 G Sr)<|mv G G<|ja 21 6 [0,0] [1] G G G<|mv G G<|jy 28 6 [] G G (fun h28 K34 => rl 4 [0,0] G G<|gY G G G<|cfv (span19_c _ _) (Kg G) G Sn G<|ru 1 G<|K34 G Sr)<|ru 1 G<|nl<|nx<|rt<|dpQ<|fR1 () G G (by rfl) G Sn
theorem keeper_c (l : TLock) (h_l : l.wf) : FnV Pg 225 [.agg (cLock l).toArray] [] (.bool (keeperP l)) := by
 exact Fnc.proof Tryz.func225 G 21 G G fun X w => qg<|bx G G G fun b1 => ru 1 G<|nl<|nx<|qg<|rl 4 [0] G G<|ja 6 4 [0] [1] G G G<|mv G G<|ja 11 4 [0] [1] G G G<|mv G G<|ja 16 4 [0] [] G G G<|ru 1 G<|nl<|nx<|rt<|dpQ<|fR1 () G G (by rfl) G Sn
theorem locked_c (a : TAccount) (a_0 : Value) (h_a : a.wf) : FnV Pg 167 [.agg (cAccount a a_0).toArray] [⟨a_0, a.fHolders⟩] (.bool (lockedP a)) := by
 exact Fnc.proof Tryz.func167 G 7 G G fun X w => qg<|bx G G G fun b1 => ru 1 G<|nl<|nx<|sb 5 [0] G G<|rt<|dpQ<|fR1 () G G (by rfl) G Sn
theorem fate_c (h_m : InI m) (h_t : InI t) : FnV Pg 284 [.int .i64 m, .int .i64 t] [] (.int .i64 (fateP m t)) := by
 refine Fnc.proof Tryz.func284 G 19 G G fun X w => ?_
 obtain ⟨h_m1, h_m2⟩ := id h_m
 obtain ⟨h_t1, h_t2⟩ := id h_t
 refine sa 1 G<|sq<|bk<|qg<|ru 3 G<|jb 8 3 [] [0,1] G G G<|ru 1 G<|nl<|nx<|cdB G (fun h5 => ?_) (fun h5 => ?_)
 · exact sa 1 G<|rt<|bR<|tR<|fR1 () G G (by simp_all [fateP]) G Sn
 ·
  refine qg<|ru 3 G<|ja 15 3 [] [] G G G<|ru 1 G<|nl<|nx<|cdB G (fun h12 => ?_) (fun h12 => ?_)
  · exact sa 1 G<|rt<|bR<|tR<|fR1 () G G (by simp_all [fateP]) G Sn
  · exact sk<|bN<|nx<|sa 1 G<|rt<|fR1 () G G (by simp_all [fateP]) G Sn
theorem fate18_c (h_m : InI m) (h_t : InI t) : FnV Pg 246 [.int .i64 m, .int .i64 t] [] (.int .i64 (fate18 m t)) := by
 refine Fnc.proof Tryz.func246 G 19 G G fun X w => ?_
 obtain ⟨h_m1, h_m2⟩ := id h_m
 obtain ⟨h_t1, h_t2⟩ := id h_t
 refine sa 1 G<|sq<|bk<|qg<|ru 3 G<|ja 8 3 [] [0,1] G G G<|ru 1 G<|nl<|nx<|cdB G (fun h5 => ?_) (fun h5 => ?_)
 · exact sa 1 G<|rt<|bR<|tR<|fR1 () G G (by simp_all [fate18]) G Sn
 ·
  refine qg<|ru 3 G<|jb 15 3 [] [] G G G<|ru 1 G<|nl<|nx<|cdB G (fun h12 => ?_) (fun h12 => ?_)
  · exact sa 1 G<|rt<|bR<|tR<|fR1 () G G (by simp_all [fate18]) G Sn
  · exact sk<|bN<|nx<|sa 1 G<|rt<|fR1 () G G (by simp_all [fate18]) G Sn
theorem lmay_c (h_r : r.wf) : FnV Pg 124 [.agg (cRight r).toArray] [] (.bool (lmayP r)) := by
 exact Fnc.proof Tryz.func124 G 23 G G fun X w => qg<|bx G G G fun b1 => ru 1 G<|nl<|nx<|qg<|rl 2 [0] G G<|cfv (lgroup_c _ h_r.1) (Kg G) G Sn G<|mv G G<|jy 6 5 [1] G G (fun h6 K11 => rl 2 [0] G G<|gY G G G<|lnS G Tryz.underlying9 G<|ru 2 G<|K11 G Sr)<|mv G G<|jy 12 5 [1] G G (fun h12 K17 => rl 2 [0] G G<|gY G G G<|lnS G Tryz.underlying9 G<|ru 2 G<|K17 G Sr)<|mv G G<|ja 18 4 [0] [] G G G<|ru 1 G<|nl<|nx<|rt<|dpQ<|fR1 () G G (by rfl) G Sn
theorem lmay16_c (h_r : r.wf) : FnV Pg 130 [.agg (cRight r).toArray] [] (.bool (lmay16 r)) := by
 exact Fnc.proof Tryz.func130 G 16 G G fun X w => qg<|bx G G G fun b1 => ru 1 G<|nl<|nx<|qg<|rl 2 [0] G G<|cfv (group16_c _ h_r.1) (Kg G) G Sn G<|mv G G<|jy 6 4 [1] G G (fun h6 K10 => rl 2 [0] G G<|gY G G G<|cfv (key15_c _) (Kg G) G Sn G<|ru 1 G<|K10 G Sr)<|mv G G<|ja 11 4 [0] [] G G G<|ru 1 G<|nl<|nx<|rt<|dpQ<|fR1 () G G (by rfl) G Sn
theorem end_c (h_i : InI i) : FnV Pg 245 [v_l, .int .i64 i] [⟨v_l, l⟩] (.string (endP l i)) := by
 refine Fnc.proof Tryz.func245 G 20 G G fun X w => ?_
 obtain ⟨h_i1, h_i2⟩ := id h_i
 refine gtC (q := l.length ≤ 9223372036854775807) (fun S w h => list_len (h _ (List.mem_of_getElem? (i := 0) G))) fun hlen => sa 1 G<|sq<|qg<|ru 3 G ?_
 refine jz 7 6 [0,1] G G (fun h7 K13 => by
  have p7 := of_decide_eq_false h7
  exact ru 2 G<|gY G G G<|lnP 0 G G Tryz.underlying22 G fun l10 => gY G G G<|sbI G G inI G<|ru 2 G<|K13 G Sr) ?_
 refine nl<|nx<|cdB G (fun h13 => ?_) (fun h13 => ?_)
 · exact sa 1 G<|rt<|tR<|fR1 () G G (by rw [endP, if_pos h13]; try rfl) G Sn
 ·
  have q13 := h13
  simp at q13
  exact sk<|nx<|qg<|ru 2 G<|adI G G inI G<|ixQ 0 G G G slt_22 G fun v17 => faP (α := TPlace) (β := ByteArray) 0 (fun x : TPlace => x.fFrom) G G (Fg G) pPlace_1 G fun v18 => ldV 0 G G (Og G) G fun w19 => ru 1 G<|nl<|nx<|rt<|fR1 () G G (by rw [endP, if_neg (by rw [h13]; decide)]; try rfl) G Sn
theorem end17_c (h_i : InI i) : FnV Pg 92 [v_l, .int .i64 i] [⟨v_l, l⟩] (.string (endP l i)) := by
 refine Fnc.proof Tryz.func92 G 20 G G fun X w => ?_
 obtain ⟨h_i1, h_i2⟩ := id h_i
 refine gtC (q := l.length ≤ 9223372036854775807) (fun S w h => list_len (h _ (List.mem_of_getElem? (i := 0) G))) fun hlen => sa 1 G<|sq<|qg<|ru 3 G ?_
 refine jz 7 6 [0,1] G G (fun h7 K13 => by
  have p7 := of_decide_eq_false h7
  exact ru 2 G<|gY G G G<|lnP 0 G G Tryz.underlying22 G fun l10 => gY G G G<|sbI G G inI G<|ru 2 G<|K13 G Sr) ?_
 refine nl<|nx<|cdB G (fun h13 => ?_) (fun h13 => ?_)
 · exact sa 1 G<|rt<|tR<|fR1 () G G (by rw [endP, if_pos h13]; try rfl) G Sn
 ·
  have q13 := h13
  simp at q13
  exact sk<|nx<|qg<|ru 2 G<|adI G G inI G<|ixQ 0 G G G slt_22 G fun v17 => faP (α := TPlace) (β := ByteArray) 0 (fun x : TPlace => x.fFrom) G G (Fg G) pPlace_1 G fun v18 => ldV 0 G G (Og G) G fun w19 => ru 1 G<|nl<|nx<|rt<|fR1 () G G (by rw [endP, if_neg (by rw [h13]; decide)]; try rfl) G Sn
end
theorem eq_Span : EqTy Pg 65 cSpan := by
 refine ⟨by kernel_rfl, fun a b w => ?_⟩
 rw [run_equalIn_struct w 9999 65 _ _ (by simp only [Program.fieldsOf, Tryz.underlying65]) (by kernel_rfl)]
 simp only [Program.fieldsOf, Tryz.underlying65]
 refine Eq.trans (eqG G Tryz.underlying3 G G G (eqFi Tryz.underlying3 _ _) (fun w => eqG G Tryz.underlying3 G G G (eqFi Tryz.underlying3 _ _) (fun w => eqF0 w))) ?_
 congr 1
 obtain ⟨a0, a1⟩ := a
 obtain ⟨b0, b1⟩ := b
 simp [TSpan.mk.injEq, Bool.and_assoc]
theorem eq_Answer : EqTy Pg 120 cAnswer := by
 refine ⟨by kernel_rfl, fun a b w => ?_⟩
 rw [run_equalIn_struct w 9999 120 _ _ (by simp only [Program.fieldsOf, Tryz.underlying120]) (by kernel_rfl)]
 simp only [Program.fieldsOf, Tryz.underlying120]
 refine Eq.trans (eqG G Tryz.underlying38 G G G (eqFi Tryz.underlying38 _ _) (fun w => eqG G Tryz.underlying3 G G G (eqFi Tryz.underlying3 _ _) (fun w => eqG G Tryz.underlying3 G G G (eqFi Tryz.underlying3 _ _) (fun w => eqG G Tryz.underlying3 G G G (eqFi Tryz.underlying3 _ _) (fun w => eqF0 w))))) ?_
 congr 1
 obtain ⟨a0, a1, a2, a3⟩ := a
 obtain ⟨b0, b1, b2, b3⟩ := b
 simp [TAnswer.mk.injEq, Bool.and_assoc]
theorem eq_Plan : EqTy Pg 24 cPlan := by
 refine ⟨by kernel_rfl, fun a b w => ?_⟩
 rw [run_equalIn_struct w 9999 24 _ _ (by simp only [Program.fieldsOf, Tryz.underlying24]) (by kernel_rfl)]
 simp only [Program.fieldsOf, Tryz.underlying24]
 refine Eq.trans (eqG G Tryz.underlying3 G G G (eqFi Tryz.underlying3 _ _) (fun w => eqG G Tryz.underlying3 G G G (eqFi Tryz.underlying3 _ _) (fun w => eqG G Tryz.underlying3 G G G (eqFi Tryz.underlying3 _ _) (fun w => eqG G Tryz.underlying9 G G G (eqFs Tryz.underlying9 _ _) (fun w => eqG G Tryz.underlying9 G G G (eqFs Tryz.underlying9 _ _) (fun w => eqG G Tryz.underlying3 G G G (eqFi Tryz.underlying3 _ _) (fun w => eqG G Tryz.underlying3 G G G (eqFi Tryz.underlying3 _ _) (fun w => eqF0 w)))))))) ?_
 congr 1
 obtain ⟨a0, a1, a2, a3, a4, a5, a6⟩ := a
 obtain ⟨b0, b1, b2, b3, b4, b5, b6⟩ := b
 simp [TPlan.mk.injEq, Bool.and_assoc]
theorem eq_Op : EqTy Pg 34 cOp := by
 refine ⟨by kernel_rfl, fun a b w => ?_⟩
 rw [run_equalIn_struct w 9999 34 _ _ (by simp only [Program.fieldsOf, Tryz.underlying34]) (by kernel_rfl)]
 simp only [Program.fieldsOf, Tryz.underlying34]
 refine Eq.trans (eqG G Tryz.underlying3 G G G (eqFi Tryz.underlying3 _ _) (fun w => eqG G Tryz.underlying9 G G G (eqFs Tryz.underlying9 _ _) (fun w => eqG G Tryz.underlying9 G G G (eqFs Tryz.underlying9 _ _) (fun w => eqG G Tryz.underlying3 G G G (eqFi Tryz.underlying3 _ _) (fun w => eqG G Tryz.underlying3 G G G (eqFi Tryz.underlying3 _ _) (fun w => eqG G Tryz.underlying3 G G G (eqFi Tryz.underlying3 _ _) (fun w => eqF0 w))))))) ?_
 congr 1
 obtain ⟨a0, a1, a2, a3, a4, a5⟩ := a
 obtain ⟨b0, b1, b2, b3, b4, b5⟩ := b
 simp [TOp.mk.injEq, Bool.and_assoc]
theorem eq_Lock : EqTy Pg 68 cLock := by
 refine ⟨by kernel_rfl, fun a b w => ?_⟩
 rw [run_equalIn_struct w 9999 68 _ _ (by simp only [Program.fieldsOf, Tryz.underlying68]) (by kernel_rfl)]
 simp only [Program.fieldsOf, Tryz.underlying68]
 refine Eq.trans (eqG G Tryz.underlying3 G G G (eqFi Tryz.underlying3 _ _) (fun w => eqG G Tryz.underlying3 G G G (eqFi Tryz.underlying3 _ _) (fun w => eqG G Tryz.underlying3 G G G (eqFi Tryz.underlying3 _ _) (fun w => eqG G Tryz.underlying3 G G G (eqFi Tryz.underlying3 _ _) (fun w => eqF0 w))))) ?_
 congr 1
 obtain ⟨a0, a1, a2, a3⟩ := a
 obtain ⟨b0, b1, b2, b3⟩ := b
 simp [TLock.mk.injEq, Bool.and_assoc]
section
variable (v_l : Value) (l : List TPlace) (gr : Int) (key : ByteArray)
theorem find_c : FnV Pg 35 [v_l, .string key] [⟨v_l, l⟩] (.int .i64 (findP l key : Int)) := by
 refine Fnc.proof Tryz.func35 G 22 G G fun X w => sa 1 G<|sa 1 G<|sq<|qg<|mv G G<|lnP 0 G G Tryz.underlying22 G fun l9 => mv G G<|nl<|nx<|bk<|lpC (σ := Nat × Nat) [(1, _), (8, _), (9, _)] _ (fun s C => (10, .int .i64 (s.1 : Int)) :: (5, .int .i64 (s.2 : Int)) :: C) (fun s => s.1 ≤ l.length ∧ s.2 = lastI s.1 (fun j => !ltB key (l.getD j default).fFrom)) (fun s => l.length - s.1) (0, 0) (Gs G) (Sc 0 G Sn) ⟨Nat.zero_le _, G⟩ (Gs G) ?_
 rintro ⟨i, a⟩ ⟨hi, ha⟩
 simp only at hi ha
 refine sa 1 G<|sq<|cdP G (fun h11 => ?_) (fun h11 => ?_)
 ·
  refine sk<|nx<|sq<|bk<|qg<|mv G G<|ixQ 0 G G G slt_22 G fun v13 => ldS 0 G G (Rg G) G fun q14 w14 => al zero_90 G fun b7 => ru 1 G<|stW 0 (us := (cPlace ((l.getD i default)))) G G G (Rg G) G G<|nl<|nx<|qg<|rl 3 [0] G G<|leS G G G<|nl<|nx<|cdB G (fun h18 => ?_) (fun h18 => ?_)
  ·
   refine ra 2 G<|bN<|nx<|rg<|adI G G inI G<|mv G G<|nl<|dpQ ?_
   exact ag (i + 1, i) ⟨by show i + 1 ≤ l.length; omega, by show i = if (!ltB key (l.getD i default).fFrom) = true then i else lastI i (fun j => !ltB key (l.getD j default).fFrom); rw [if_pos (by rw [← le_ge]; exact h18)]⟩ (by show l.length - (i + 1) < l.length - i; omega) (Gs G) G (Sc 2 G Sn)
  ·
   refine sk<|bN<|nx<|rg<|adI G G inI G<|mv G G<|nl<|dpQ ?_
   exact ag (i + 1, a) ⟨by show i + 1 ≤ l.length; omega, by show a = if (!ltB key (l.getD i default).fFrom) = true then i else lastI i (fun j => !ltB key (l.getD j default).fFrom); rw [if_neg (by rw [← le_ge, h18]; decide)]; exact ha⟩ (by show l.length - (i + 1) < l.length - i; omega) (Gs G) G (Sc 2 G Sn)
 · exact ex<|tE<|tE<|bE<|nx<|sa 2 G<|rt<|fR1 () G G (by have e : i = l.length := (by omega); show Value.int .i64 (a : Int) = _; rw [ha, e, findP]) G Sn
theorem find17_c : FnV Pg 39 [v_l, .string key] [⟨v_l, l⟩] (.int .i64 (find17 l key : Int)) := by
 refine Fnc.proof Tryz.func39 G 23 G G fun X w => sa 1 G<|sq<|sa 1 G<|bk<|lpC (σ := Nat) [(0, _), (1, _)] _ (fun i C => (5, .int .i64 (i : Int)) :: C) (fun i => i ≤ l.length ∧ (∀ j, j < i → within (l.getD j default).fFrom (endP l j) key = false)) (fun i => l.length - i) 0 (Gs G) (Sc 0 G Sn) ⟨Nat.zero_le _, fun j hj => absurd hj (Nat.not_lt_zero j)⟩ (Gs G) ?_
 rintro i ⟨hi, hall⟩
 refine sq<|qg<|ru 2 G<|lnP 0 G G Tryz.underlying22 G fun l8 => ru 1 G<|nl<|nx<|cdP G (fun h9 => ?_) (fun h9 => ?_)
 ·
  refine sk<|nx<|sq<|bk<|sq<|rgQ mixed (by kernel_rfl)<|ru 2 G<|ixQ 0 G G G slt_22 G fun v14 => faP (α := TPlace) (β := ByteArray) 0 (fun x : TPlace => x.fFrom) G G (Fg G) pPlace_1 G fun v15 => ldV 0 G G (Og G) G fun w16 => ru 2 G<|cfq (end17_c _ _ _ inI) (Kg G) G (Sc 2 G Sn) G<|mv G G<|cfq (within17_c _ _ _) (Kg G) G Sn G<|nlQ<|nx<|cdB G (fun h21 => ?_) (fun h21 => ?_)
  · exact sa 2 G<|rt<|bR<|tR<|tR<|bR<|tR<|fR1 () G G (by rw [find17, firstI_some (j := i) (by omega) hall h21]; try rfl) G Sn
  ·
   refine sk<|bN<|nx<|rg<|mv G G<|adI G G inI G<|ru 1 G<|nl ?_
   exact ag (i + 1) ⟨(by omega), (all_snoc hall (h21))⟩ (by omega) (Gs G) G (Sc 2 G Sn)
 · exact ex<|tE<|tE<|bE<|nx<|sa 1 G<|rt<|fR1 () G G (by rw [find17, firstI_none (fun k hk => hall k (by omega))]; try rfl) G Sn
theorem of_c (h_gr : InI gr) : FnV Pg 173 [v_l, .int .i64 gr] [⟨v_l, l⟩] (ofV (ofP l gr)) := by
 refine Fnc.proof Tryz.func173 G 21 G G fun X w => ?_
 obtain ⟨h_gr1, h_gr2⟩ := id h_gr
 refine sa 2 G<|sq<|qg<|mv G G<|lnP 0 G G Tryz.underlying22 G fun l9 => mv G G<|nl<|nx<|bk<|lpC (σ := Nat) [(1, _), (8, _), (9, _)] _ (fun i C => (10, .int .i64 (i : Int)) :: C) (fun i => i ≤ l.length ∧ (∀ j, j < i → decide ((l.getD j default).fGroup = gr) = false)) (fun i => l.length - i) 0 (Gs G) (Sc 0 G Sn) ⟨Nat.zero_le _, fun j hj => absurd hj (Nat.not_lt_zero j)⟩ (Gs G) ?_
 rintro i ⟨hi, hall⟩
 refine sa 1 G<|sq<|cdP G (fun h11 => ?_) (fun h11 => ?_)
 ·
  refine sk<|nx<|sq<|bk<|qg<|mv G G<|ixQ 0 G G G slt_22 G fun v13 => ldS 0 G G (Rg G) G fun q14 w14 => al zero_90 G fun b7 => ru 1 G<|stW 0 (us := (cPlace ((l.getD i default)))) G G G (Rg G) G G<|nl<|nx<|sb 4 [0] G G<|cdP G (fun h18 => ?_) (fun h18 => ?_)
  · exact sa 3 G<|rt<|bR<|tR<|tR<|bR<|tR<|dpQ<|fR2 () G G G (by rw [ofP, firstI_some (j := i) (by omega) hall (decide_eq_true h18)]; try rfl) G Sn
  ·
   refine sk<|bN<|nx<|rg<|adI G G inI G<|mv G G<|nl<|dpQ ?_
   exact ag (i + 1) ⟨(by omega), (all_snoc hall (decide_eq_false h18))⟩ (by omega) (Gs G) G (Sc 2 G Sn)
 · exact ex<|tE<|tE<|bE<|nx<|sa 2 G<|rt<|fR2 () G G G (by rw [ofP, firstI_none (fun k hk => hall k (by omega))]; try rfl) G Sn
theorem of17_c (h_gr : InI gr) : FnV Pg 117 [v_l, .int .i64 gr] [⟨v_l, l⟩] (ofV (ofP l gr)) := by
 refine Fnc.proof Tryz.func117 G 21 G G fun X w => ?_
 obtain ⟨h_gr1, h_gr2⟩ := id h_gr
 refine sa 2 G<|sq<|sa 1 G<|bk<|lpC (σ := Nat) [(0, _), (1, _)] _ (fun i C => (6, .int .i64 (i : Int)) :: C) (fun i => i ≤ l.length ∧ (∀ j, j < i → decide ((l.getD j default).fGroup = gr) = false)) (fun i => l.length - i) 0 (Gs G) (Sc 0 G Sn) ⟨Nat.zero_le _, fun j hj => absurd hj (Nat.not_lt_zero j)⟩ (Gs G) ?_
 rintro i ⟨hi, hall⟩
 refine sq<|qg<|ru 2 G<|lnP 0 G G Tryz.underlying22 G fun l9 => ru 1 G<|nl<|nx<|cdP G (fun h10 => ?_) (fun h10 => ?_)
 ·
  refine sk<|nx<|sq<|bk<|qg<|ru 2 G<|ixQ 0 G G G slt_22 G fun v15 => faP (α := TPlace) (β := Int) 0 (fun x : TPlace => x.fGroup) G G (Fg G) pPlace_0 G fun v16 => ldV 0 G G (Og G) G fun w17 => ru 2 G<|nl<|nx<|cdP G (fun h19 => ?_) (fun h19 => ?_)
  · exact sa 3 G<|rt<|bR<|tR<|tR<|bR<|tR<|fR2 () G G G (by rw [ofP, firstI_some (j := i) (by omega) hall (decide_eq_true h19)]; try rfl) G Sn
  ·
   refine sk<|bN<|nx<|rg<|mv G G<|adI G G inI G<|ru 1 G<|nl ?_
   exact ag (i + 1) ⟨(by omega), (all_snoc hall (decide_eq_false h19))⟩ (by omega) (Gs G) G (Sc 2 G Sn)
 · exact ex<|tE<|tE<|bE<|nx<|sa 2 G<|rt<|fR2 () G G G (by rw [ofP, firstI_none (fun k hk => hall k (by omega))]; try rfl) G Sn
theorem counts_c (l : List Int) : FnV Pg 179 [v_l] [⟨v_l, l⟩] (.bool (countsP l)) := by
 refine Fnc.proof Tryz.func179 G 18 G G fun X w => sa 1 G<|sq<|qg<|mv G G<|lnP 0 G G Tryz.underlying220 G fun l6 => mv G G<|nl<|nx<|bk<|lpC (σ := Nat) [(5, _), (6, _)] _ (fun i C => (7, .int .i64 (i : Int)) :: C) (fun i => i ≤ l.length ∧ (∀ j, j < i → (!(decide (l.getD j default < 0) || decide (l.getD j default > far))) = true)) (fun i => l.length - i) 0 (Gs G) (Sc 0 G Sn) ⟨Nat.zero_le _, fun j hj => absurd hj (Nat.not_lt_zero j)⟩ (Gs G) ?_
 rintro i ⟨hi, hall⟩
 refine sa 1 G<|sq<|cdP G (fun h8 => ?_) (fun h8 => ?_)
 ·
  refine sk<|nx<|sq<|bk<|qg<|ixQ 0 G G G slt_220 G fun v9 => ldV 0 G G (Og G) G fun w10 => ru 1 G<|nl<|nx<|qg<|ru 3 G<|jb 13 3 [] [5,6,7] G G G<|nl<|nx<|cdB G (fun h16 => ?_) (fun h16 => ?_)
  · exact sa 1 G<|rt<|bR<|tR<|tR<|bR<|tR<|fR1 () G G (by rw [countsP, allI_false i (by omega) (not_t h16)]; try rfl) G Sn
  ·
   refine sk<|bN<|nx<|rg<|adI G G inI G<|mv G G<|nl ?_
   exact ag (i + 1) ⟨(by omega), (all_snoc hall (not_f h16))⟩ (by omega) (Gs G) G (Sc 1 G Sn)
 · exact ex<|tE<|tE<|bE<|nx<|sa 1 G<|rt<|fR1 () G G (by rw [countsP, allI_true (fun j hj => hall j (by omega))]; try rfl) G Sn
theorem scheck_c (l : List TMark) : FnV Pg 182 [v_l] [⟨v_l, l⟩] (.int .i64 (errF (marksP l))) := by
 refine Fnc.proof Tryz.func182 G 49 G G fun X w => sa 1 G<|sa 1 G<|sq<|qg<|mv G G<|lnP 0 G G Tryz.underlying25 G fun l7 => mv G G<|nl<|nx<|bk<|lpC (σ := Nat) [(6, _), (7, _)] _ (fun i C => (8, .int .i64 (i : Int)) :: (3, .int .i64 (prevI (fun k => (l.getD k default).fClient) i)) :: C) (fun i => i ≤ l.length ∧ (∀ j, j < i → (!markP (prevI (fun k => (l.getD k default).fClient) j) (l.getD j default)) = true)) (fun i => l.length - i) 0 (Gs G) (Sc 0 G Sn) ⟨Nat.zero_le _, fun j hj => absurd hj (Nat.not_lt_zero j)⟩ (Gs G) ?_
 rintro i ⟨hi, hall⟩
 refine sa 1 G<|sq<|cdP G (fun h9 => ?_) (fun h9 => ?_)
 ·
  refine sk<|nx<|sq<|bk<|qg<|ixQ 0 G G G slt_25 G fun v10 => ldS 0 G G (Rg G) G fun q11 w11 => al zero_122 G fun b5 => stW 0 (us := (cMark ((l.getD i default)))) G G G (Rg G) G G<|nl<|nx<|sq<|qg<|rl 5 [0] G G<|jb 16 4 [0] [5,6,7,8] G G G<|mv G G<|jb 21 4 [0] [5,6,7,8] G G G<|mv G G<|jb 26 4 [0] [5,6,7,8] G G G<|mv G G ?_
  refine jz 31 14 [5,6,7,8] G G (fun h31 K45 => by
   refine rl 3 [0] G G ?_
   refine jy 34 10 [5,6,7,8,31] G G (fun h34 K44 => by
    refine rl 4 [0] G G ?_
    refine jz 38 5 [5,6,7,8,31,34] G G (fun h38 K43 => by
     have p38 := of_decide_eq_false h38
     exact ru 1 G<|gY G G G<|ldM 0 (cAnswer ((l.getD i default).fAnswer)) G G (Rg G) G G<|gY G G G<|bd (ps := []) (cs := (cAnswer ((⟨0, 0, 0, 0⟩ : TAnswer)))) (by rfl) (by kernel_rfl) G<|gY G G G<|neT eq_Answer ((l.getD i default).fAnswer) ((⟨0, 0, 0, 0⟩ : TAnswer)) G G G<|ru 1 G<|K43 G Sr) ?_
    exact ru 1 G<|K44 G Sr) ?_
   exact ru 1 G<|K45 G Sr) ?_
  refine nl<|nx<|cdB G (fun h45 => ?_) (fun h45 => ?_)
  · exact sa 1 G<|rt<|tR<|bR<|tR<|tR<|bR<|tR<|dpQ<|fR1 () G G (by rw [marksP, allI_false i (by omega) (not_t h45)]; try rfl) G Sn
  ·
   refine sk<|nx<|rb 3 [0] G G<|bN<|nx<|rg<|adI G G inI G<|mv G G<|nl<|dpQ ?_
   exact ag (i + 1) ⟨(by omega), (all_snoc hall (not_f h45))⟩ (by omega) (Gs G) G (Sc 2 G Sn)
 · exact ex<|tE<|tE<|bE<|nx<|sa 1 G<|rt<|fR1 () G G (by rw [marksP, allI_true (fun j hj => hall j (by omega))]; try rfl) G Sn
theorem dends_c (l : List TEnd) : FnV Pg 184 [v_l] [⟨v_l, l⟩] (.int .i64 (errF (endsP l))) := by
 refine Fnc.proof Tryz.func184 G 27 G G fun X w => sa 1 G<|sa 1 G<|sq<|qg<|mv G G<|lnP 0 G G Tryz.underlying53 G fun l7 => mv G G<|nl<|nx<|bk<|lpC (σ := Nat) [(6, _), (7, _)] _ (fun i C => (8, .int .i64 (i : Int)) :: (3, .int .i64 (prevI (fun k => (l.getD k default).fClient) i)) :: C) (fun i => i ≤ l.length ∧ (∀ j, j < i → (!(decide ((l.getD j default).fClient ≤ prevI (fun k => (l.getD k default).fClient) j) || !okWhose (l.getD j default).fClient (l.getD j default).fSeq)) = true)) (fun i => l.length - i) 0 (Gs G) (Sc 0 G Sn) ⟨Nat.zero_le _, fun j hj => absurd hj (Nat.not_lt_zero j)⟩ (Gs G) ?_
 rintro i ⟨hi, hall⟩
 refine sa 1 G<|sq<|cdP G (fun h9 => ?_) (fun h9 => ?_)
 ·
  refine sk<|nx<|sq<|bk<|qg<|ixQ 0 G G G slt_53 G fun v10 => ldS 0 G G (Rg G) G fun q11 w11 => al zero_129 G fun b5 => stW 0 (us := (cEnd ((l.getD i default)))) G G G (Rg G) G G<|nl<|nx<|sq<|qg<|rl 5 [0] G G ?_
  refine jz 16 7 [5,6,7,8] G G (fun h16 K23 => by
   have p16 := of_decide_eq_false h16
   exact rl 4 [0,0] G G<|gY G G G<|cfv (dwhose_c _ _ w11.1 w11.2) (Kg G) G Sn G<|ru 2 G<|K23 G Sr) ?_
  refine nl<|nx<|cdB G (fun h23 => ?_) (fun h23 => ?_)
  · exact sa 1 G<|rt<|tR<|bR<|tR<|tR<|bR<|tR<|dpQ<|fR1 () G G (by rw [endsP, allI_false i (by omega) (not_t h23)]; try rfl) G Sn
  ·
   refine sk<|nx<|rb 3 [0] G G<|bN<|nx<|rg<|adI G G inI G<|mv G G<|nl<|dpQ ?_
   exact ag (i + 1) ⟨(by omega), (all_snoc hall (not_f h23))⟩ (by omega) (Gs G) G (Sc 2 G Sn)
 · exact ex<|tE<|tE<|bE<|nx<|sa 1 G<|rt<|fR1 () G G (by rw [endsP, allI_true (fun j hj => hall j (by omega))]; try rfl) G Sn
end
end Go.Proofs.YtmpoffijcfaalaaGreat
