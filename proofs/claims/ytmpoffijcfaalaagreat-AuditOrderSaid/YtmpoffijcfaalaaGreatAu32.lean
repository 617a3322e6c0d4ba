/- Part 32 of the proof of auditOrder_holds: Eng33, Eng34, AudJ, DutL1. Every text below begins with what it shows. -/
import Derived.Test.YtmpoffijcfaalaaGreatAu31

/- Walks in a frame that has marks: splits, loops, open orders that only read, returns. Generic: no program. -/

namespace Go.Eng
open Go.RowKit
section
variable {ds : List Deferred} {c : Cx} {x y : Code} {Q Q' : Exit → Act → World → Prop} {env : Env} {L : Own} {D : List Atom} {ops : Array Oper}
theorem cdBD {o : Operand} {t : Bool} (hc : ev env o = some (.bool t)) (h1 : t = true → WCD ds c x Q env L D) (h2 : t = false → WCD ds c y Q env L D) : WCD ds c (.cond o x y) Q env L D :=
  fun a w f s d => wp_cond_split (show Act.eval { a with defers := ds } o = _ from f.ev hc) (fun h => h1 h a w f s d) (fun h => h2 h a w f s d)
theorem cdPD {o : Operand} {p : Prop} [Decidable p] (hc : ev env o = some (.bool (decide p))) (h1 : p → WCD ds c x Q env L D) (h2 : ¬ p → WCD ds c y Q env L D) : WCD ds c (.cond o x y) Q env L D :=
  cdBD hc (fun h => h1 (of_decide_eq_true h)) (fun h => h2 (of_decide_eq_false h))
theorem tRD {K : Act → World → Prop} (h : WQD ds c Q .ret env L D) : WQD ds c (Exit.then K Q) .ret env L D := h
theorem bRD {id : Nat} (h : WQD ds c Q .ret env L D) : WQD ds c (Exit.inBlock id Q) .ret env L D := h
theorem dpQD {e : Exit} {p : OwnE} (h : WQD ds c Q e env L D) : WQD ds c Q e env (p :: L) D := fun a w f s d => h a w f s.drop d.drop
theorem mtQD {e : Exit} (i : Nat) {q : OwnE} (hi : L[i]? = some q) (k : WQD ds c Q e env (q :: L.eraseIdx i) D) : WQD ds c Q e env L D :=
  fun a w f st dh => k a w f (st.perm (erase_perm hi)) (dh.perm (erase_perm hi))
theorem frRCD {α : Type} {r : Rep α} {e : TypeId} {sv : Value} {xs : List α} (k : WCD ds c x Q env L ((@Atom.mk (List α) (@repList α r) sv xs) :: D)) : WCD ds c x Q env (@row α r e sv xs :: L) D :=
  fun a w f st dh => k a w f st.drop (DH.cons (st.freeze fun S hb hS h => row_list h hS hb) dh.drop)
theorem rwCD (α : Type) [Rep α] (e : TypeId) (k : WCD ds c x Q env (row e (.slice none 0 0) ([] : List α) :: L) D) : WCD ds c x Q env L D := by
  intro a w f st dh
  refine k a w f (st.push (p := row e (.slice none 0 0) ([] : List α)) (Stp.refl _ _) ⟨[], World.ownsRow_nil _ _ _ _, trivial, by simp⟩ (by simp [Value.ownBlock]) (by simp [Value.ownBlock])) (dh.push (Stp.refl _ _) (by simp [Value.ownBlock]))
theorem emQD {e : Exit} {α : Type} [r : Rep α] (k : WQD ds c Q e env L ((@Atom.mk (List α) (@repList α r) (.slice none 0 0) []) :: D)) : WQD ds c Q e env L D :=
  fun a w f st dh => k a w f st (DH.cons (nil_list _ _) dh)
def LoopKD (ds : List Deferred) (c : Cx) {σ : Type} (E : σ → Env) (LL : σ → Own) (DD : σ → List Atom) (I : σ → Prop) (μ : σ → Nat) (s : σ) : Act → World → Prop :=
  fun a w => ∃ a0 : Act, a = { a0 with defers := ds } ∧ LoopK c E LL DD I μ s a0 w
theorem lpD {σ : Type} (E : σ → Env) (LL : σ → Own) (DD : σ → List Atom) (I : σ → Prop) (μ : σ → Nat) (s0 : σ) (hI : I s0)
    (hE : Sub (E s0) env) (hL : LL s0 = L) (hD : SubD (DD s0) D)
    (body : ∀ s, I s → WCD ds c x (Exit.then (LoopKD ds c E LL DD I μ s) Q) (E s) (LL s) (DD s)) : WCD ds c (.loop x) Q env L D := by
  intro a w f st d
  subst hL
  have key : ∀ (m : Nat) (s : σ), μ s = m → I s → ∀ a w, Fr c.n a (E s) → St c.w0 c.M w (LL s) → DH (DD s) w (LL s) →
      ∀ (b : Frame) (k : List Item) (cs : List Frame), ∃ e a' w', Q e a' w' ∧ Arrives c.P (lone (b.at { a with defers := ds } (.code x :: .inLoop x :: k)) cs w) b k cs e a' w' := by
    intro m
    induction m using Nat.strongRecOn with
    | _ m ih =>
      intro s hm hI a w f st d b k cs
      obtain ⟨e, a₁, w₁, hq, harr⟩ := body s hI a w f st d b (.inLoop x :: k) cs
      cases e with
      | normal =>
        obtain ⟨a0, rfl, s', hI', hlt, f', st', d'⟩ := hq
        obtain ⟨e₂, a₂, w₂, hq₂, harr₂⟩ := ih (μ s') (hm ▸ hlt) s' rfl hI' a0 w₁ f' st' d' b k cs
        exact ⟨e₂, a₂, w₂, hq₂, .of_steps (Steps.trans harr (.one step_inLoop)) harr₂⟩
      | exit id => exact ⟨_, a₁, w₁, hq, .pass (x := .inLoop x) rfl (fun _ _ => .inl (by simp)) harr⟩
      | goto l => exact ⟨_, a₁, w₁, hq, .pass (x := .inLoop x) rfl (fun _ _ => .inl (by simp)) harr⟩
      | ret => exact ⟨_, a₁, w₁, hq, .pass (x := .inLoop x) rfl (fun _ _ => .inl (by simp)) harr⟩
      | panic ch => exact ⟨_, a₁, w₁, hq, .pass (x := .inLoop x) rfl (fun _ _ => .inl (by simp)) harr⟩
      | outgrown => exact ⟨_, a₁, w₁, hq, .pass (x := .inLoop x) rfl (fun _ _ => .inl (by simp)) harr⟩
  intro b k cs
  obtain ⟨e, a', w', hq, harr⟩ := key _ s0 rfl hI a w (f.sub hE) st (d.sub hD) b k cs
  exact ⟨e, a', w', hq, .of_steps (.one step_loop) harr⟩
theorem lpED {σ : Type} (C : Env) (Dc : List Atom) (V : σ → Env → Env) (LL : σ → Own) (DD : σ → List Atom → List Atom) (I : σ → Prop) (μ : σ → Nat) (s0 : σ) (_hC : Sub C env) (_hc : SubD Dc D) (hI : I s0)
    (hE : Sub (V s0 C) env) (hL : LL s0 = L) (hD : SubD (DD s0 Dc) D)
    (body : ∀ s, I s → WCD ds c x (Exit.then (LoopKD ds c (fun s => V s C) LL (fun s => DD s Dc) I μ s) Q) (V s C) (LL s) (DD s Dc)) : WCD ds c (.loop x) Q env L D :=
  lpD (fun s => V s C) LL (fun s => DD s Dc) I μ s0 hI hE hL hD body
theorem lpCD {σ : Type} (C : Env) (Dc : List Atom) (V : σ → Env → Env) (I : σ → Prop) (μ : σ → Nat) (s0 : σ) (_hC : Sub C env) (hc : SubD Dc D) (hI : I s0)
    (hE : Sub (V s0 C) env)
    (body : ∀ s, I s → WCD ds c x (Exit.then (LoopKD ds c (fun s => V s C) (fun _ => L) (fun _ => Dc) I μ s) Q) (V s C) L Dc) : WCD ds c (.loop x) Q env L D :=
  lpD (fun s => V s C) (fun _ => L) (fun _ => Dc) I μ s0 hI hE rfl hc body
theorem agD {σ : Type} {E : σ → Env} {LL : σ → Own} {DD : σ → List Atom} {I : σ → Prop} {μ : σ → Nat} {s : σ} (s' : σ) (hI : I s') (hμ : μ s' < μ s)
    (hE : Sub (E s') env) (hL : LL s' = L) (hD : SubD (DD s') D) : WQD ds c (Exit.then (LoopKD ds c E LL DD I μ s) Q) .normal env L D := by
  intro a w f st d
  subst hL
  exact ⟨a, rfl, s', hI, hμ, f.sub hE, st, d.sub hD⟩
theorem wpQuiet_wd {P : Program} {C : World → Prop} {K : Act → Prop} (ds : List Deferred) : ∀ (l : List Oper) (a : Act), wpQuiet P ops C (fun a => K { a with defers := ds }) l a → wpQuiet P ops C K l { a with defers := ds }
  | [], _, h => h
  | o :: l, a, h => by
    unfold wpQuiet at h ⊢
    by_cases hw : Region.wanted o (yielded ops a.tmps) = true
    · rw [if_pos hw] at h
      rw [if_pos (show Region.wanted o (yielded ops ({ a with defers := ds } : Act).tmps) = true from hw)]
      obtain ⟨v, h1, h2⟩ := h
      refine ⟨v, h1, ?_⟩
      have := wpQuiet_wd ds l _ h2
      cases hd : o.dst <;> rw [hd] at this <;> exact this
    · rw [if_neg hw] at h
      rw [if_neg (show ¬ Region.wanted o (yielded ops ({ a with defers := ds } : Act).tmps) = true from hw)]
      have := wpQuiet_wd ds l _ h
      cases hd : o.dst <;> rw [hd] at this <;> exact this
theorem rgQD {id : Nat} {l : List Oper} (hm : c.P.follows .mixedOrders = true) (hB : Region.lexB .any l.toArray = true) (h : WLQ (fun e a w => Q e { a with defers := ds } w) c l.toArray l env L D) : WCD ds c (.region id l.toArray true) Q env L D :=
  fun a w f st dh => wp_region_quiet (C := fun w' => Stp [] w w') hm hB (Stp.drew [] w) (wpQuiet_wd ds l a (h a w f st dh))
theorem nlQD (h : WQD ds c Q .normal env L D) : WLQ (fun e a w => Q e { a with defers := ds } w) c ops [] env L D := nlQ h
end
/-! ### The way out -/
section
variable {P : Program} {fn : Func} {x : Code} {f : FuncId} {args : List Value} {As : List Atom} {n m : Nat} {env : Env} {L : Own} {D : List Atom} {X : List Nat} {w0 : World} {β : Type} {R : β → Value → Prop} {out : β → Value → List Atom}
abbrev PostG (m : Nat) (P : Program) (fn : Func) (X : List Nat) (w : World) {β : Type} (R : β → Value → Prop) (out : β → Value → List Atom) : Exit → Act → World → Prop :=
  bodyPostM Fence.wide m P fn fun e w' => ∃ v, e = .returned v ∧ FnPost X w [] R (fun _ _ => []) out v w'
theorem Fnc.proofZ (m : Nat) (hf : P.funcs[f]? = some fn) (hb : fn.body = some x) (n : Nat) (hn : n = fn.ntmps) (hargs : Nat.ble args.length n = true)
    (h : ∀ X w, WC ⟨P, n, w, [] ++ X⟩ x (PostG m P fn X w R out) (ent 0 args) ([] ++ [fz X w]) As) : Fnc P f args [] As R (fun _ _ => []) out := by
  intro X w hnd hx h0 hA
  have hbs : Own.bs ([] ++ [fz X w]) = X := by simp [Own.bs, bsOf]
  refine enterM m ([] ++ X) ([] ++ [fz X w]) As hf hb n hn (Nat.le_of_ble_eq_true hargs) ⟨Stp.refl _ _, ?_, ?_, ?_⟩ ?_ (h X w)
  · intro p hp
    have : p = fz X w := by simpa using hp
    subst this
    exact ⟨fun _ _ => rfl, hx⟩
  · rw [hbs]; exact hnd
  · rw [hbs]; exact fun b hb => .inl hb
  · intro t ht
    rw [hbs]
    exact hA t ht
/-- A return of two values with no mark. -/
theorem fR2Z (y : β) (A : Own) {t u : Nat} {v1 v2 : Value} (hr : fn.results = #[.tmp t, .tmp u]) (h1 : lk env t = some v1) (h2 : lk env u = some v2) (hR : R y (.tuple #[v1, v2])) (hL : L = A ++ [fz X w0]) (hD : SubD (out y (.tuple #[v1, v2])) D) : WQ ⟨P, n, w0, [] ++ X⟩ (PostG m P fn X w0 R out) .ret env L D := by
  intro a w f st d
  subst hL
  refine (show LeavesInM Fence.wide m P fn _ _ a.defers .returning w from ?_)
  rw [f.dn]
  refine ⟨_, results_tmp2 hr _ _ _, _, rfl, ?_⟩
  have e1 := f.at_ t v1 h1
  have e2 := f.at_ u v2 h2
  rw [show a.tmps.getD t undef = v1 by simp [e1], show a.tmps.getD u undef = v2 by simp [e2]]
  exact Fnc.post (L0 := []) (L1 := fun _ _ => []) y hR rfl hD st.dropA d.dropA (by simp [Own.bs, bsOf])
/-- A return of two values with marks. -/
theorem fR2D (y : β) (ks : List Nat) (A : Own) {t u : Nat} {v1 v2 : Value} (hr : fn.results = #[.tmp t, .tmp u]) (h1 : lk env t = some v1) (h2 : lk env u = some v2) (hR : R y (.tuple #[v1, v2])) (hL : L = ks.map dk ++ (A ++ [fz X w0])) (hD : SubD (out y (.tuple #[v1, v2])) D) : WQD (ks.map mk) ⟨P, n, w0, [] ++ X⟩ (PostG m P fn X w0 R out) .ret env L D := by
  intro a w f st d
  subst hL
  have hbs : Own.bs (ks.map dk) = ks := by
    have : ∀ l : List Nat, bsOf (l.map dk) = l := fun l => by
      induction l with
      | nil => rfl
      | cons k l ih => simp [bsOf, ih]
    exact this ks
  refine (show LeavesInM Fence.wide m P fn _ _ (ks.map mk) .returning w from ?_)
  refine leavesM ks w (fun k hk => st.own (dk k) (List.mem_append.2 (.inl (List.mem_map.2 ⟨k, hk, rfl⟩)))) ?_ fun W' hs => ⟨_, results_tmp2 hr _ _ _, _, rfl, ?_⟩
  · have := st.nd
    rw [Own.bs, bsOf_append] at this
    have := (List.nodup_append.1 this).1
    rwa [← Own.bs, hbs] at this
  · have e1 := f.at_ t v1 h1
    have e2 := f.at_ u v2 h2
    rw [show a.tmps.getD t undef = v1 by simp [e1], show a.tmps.getD u undef = v2 by simp [e2]]
    have hz := st.own (fz X w0) (by simp)
    have hks : ∀ k ∈ ks, w0.heap.size ≤ k ∧ k ∉ X := fun k hk => by
      have hm : k ∈ Own.bs (ks.map dk) := by rw [hbs]; exact hk
      have hkx : k ∉ X := fun hx => by
        have hnd := st.nd
        rw [Own.bs, bsOf_append] at hnd
        exact (List.nodup_append.1 hnd).2.2 k hm k (by rw [bsOf_append]; exact List.mem_append.2 (.inr (by simpa [bsOf] using hx))) rfl
      refine ⟨?_, hkx⟩
      rcases st.new k (by rw [Own.bs, bsOf_append]; exact List.mem_append.2 (.inl hm)) with h | h
      · exact absurd (by simpa using h) hkx
      · exact h
    refine ⟨⟨hs.os.trans st.stp.os, hs.tape.trans st.stp.tape, hs.output.trans st.stp.output, Nat.le_trans st.stp.size hs.size, fun k hk _ => ?_⟩, y, hR, by simp, by simp [Own.bs, bsOf], by simp [Own.bs, bsOf], fun t ht => ?_⟩
    · have e : W'.heap[k]? = w.heap[k]? := hs.block k (Nat.lt_of_lt_of_le hk st.stp.size) (fun hm => by have := (hks k hm).1; omega)
      by_cases hkx : k ∈ X
      · exact e.trans (hz.1 k hkx)
      · exact e.trans (st.stp.block k hk (by simpa using hkx))
    · refine Atom.keep (d t (hD t ht)) (fun b hb => ⟨Nat.lt_of_lt_of_le hb.1 hs.size, fun hx => hb.2 ?_⟩) (fun b hb => hs.block b hb.1 (fun hm => hb.2 ?_))
      · have hx : b ∈ X := by simpa [Own.bs, bsOf] using hx
        exact mem_bsOf.2 ⟨fz X w0, by simp, hx⟩
      · rw [Own.bs, bsOf_append]; exact List.mem_append.2 (.inl (by rw [← Own.bs, hbs]; exact hm))
end
end Go.Eng

/- What stands behind a range over a function; the library's sort keeps what all changes keep. Generic: no program. -/

namespace Go.Eng
open Go.RowKit
theorem bs_set1 {b : Nat} {T : TypeId} {u v : List Value} : ∀ (L : Own) (i : Nat), L[i]? = some (bl b T u) → Own.bs (L.set i (bl b T v)) = Own.bs L
  | [], _, h => by simp at h
  | p :: L, 0, h => by
    simp only [List.getElem?_cons_zero, Option.some.injEq] at h
    subst h
    rfl
  | p :: L, i + 1, h => by
    simp only [List.getElem?_cons_succ] at h
    simp only [List.set_cons_succ, Own.bs, bsOf]
    rw [← Own.bs, ← Own.bs, bs_set1 L i h]
theorem range_end {w0 w1 W : World} {M : List Nat} {L : Own} {D : List Atom} {i b : Nat} {T : TypeId} {u v : List Value} (st : St w0 M w1 L) (dh : DH D w1 L) (hi : L[i]? = some (bl b T u)) (hs : Stp [b] w1 W) (hb : W.heap[b]? = some (.cells v.toArray T (0, 0))) (A : Own) (hA1 : ∀ k ∈ A.bs, w1.heap.size ≤ k) (hAn : A.bs.Nodup)
    (hA : ∀ p ∈ A, p.holds (Sf (Own.bs (A ++ L.set i (bl b T v))) W) W) : St w0 M W (A ++ L.set i (bl b T v)) ∧ DH D W (A ++ L.set i (bl b T v)) := by
  have hbs : Own.bs (A ++ L.set i (bl b T v)) = A.bs ++ L.bs := by rw [Own.bs, bsOf_append, ← Own.bs, ← Own.bs, bs_set1 L i hi]
  have hbL : b ∈ L.bs := mem_bsOf.2 ⟨_, List.mem_of_getElem? hi, by simp⟩
  have hbM : b ∈ M ∨ w0.heap.size ≤ b := st.new b hbL
  have hS : ∀ k, Sf L.bs w1 k → Sf (A.bs ++ L.bs) W k := fun k hk => ⟨Nat.lt_of_lt_of_le hk.1 hs.size, fun hx => by
    rcases List.mem_append.1 hx with h | h
    · have := hA1 k h
      have := hk.1
      omega
    · exact hk.2 h⟩
  have hH : ∀ k, Sf L.bs w1 k → W.heap[k]? = w1.heap[k]? := fun k hk => hs.block k hk.1 (fun hx => by
    have : k = b := by simpa using hx
    exact hk.2 (this ▸ hbL))
  refine ⟨⟨⟨hs.os.trans st.stp.os, hs.tape.trans st.stp.tape, hs.output.trans st.stp.output, Nat.le_trans st.stp.size hs.size, fun k hk hx => ?_⟩, ?_, ?_, ?_⟩, ?_⟩
  · refine (hs.block k (Nat.lt_of_lt_of_le hk st.stp.size) (fun hm => ?_)).trans (st.stp.block k hk hx)
    have : k = b := by simpa using hm
    subst this
    rcases hbM with h | h
    · exact hx h
    · omega
  · intro p hp
    rcases List.mem_append.1 hp with hp | hp
    · exact hA p hp
    · obtain ⟨j, hj⟩ := List.mem_iff_getElem?.1 hp
      rw [List.getElem?_set] at hj
      rw [hbs]
      split at hj
      · split at hj
        · have : p = bl b T v := by simpa using hj.symm
          subst this
          exact hb
        · cases hj
      · rename_i hne
        have hpL := st.own p (List.mem_of_getElem? hj)
        refine p.keep hpL hS (fun k hk => ?_)
        rcases hk with hk | hk
        · exact hH k hk
        · refine hs.block k (p.valid hpL k hk) (fun hx => ?_)
          have hkb : k = b := by simpa using hx
          subst hkb
          rcases Nat.lt_or_gt_of_ne hne with h | h
          · exact nd_ne st.nd hi hj h (by simp) hk rfl
          · exact nd_ne st.nd hj hi h hk (by simp) rfl
  · rw [hbs]
    refine List.nodup_append.2 ⟨hAn, st.nd, fun k hk k' hk' e => ?_⟩
    subst e
    have h1 := hA1 k hk
    have h2 := st.lt k hk'
    omega
  · rw [hbs]
    intro k hk
    rcases List.mem_append.1 hk with h | h
    · exact .inr (Nat.le_trans st.stp.size (hA1 k h))
    · exact st.new k h
  · intro t ht
    rw [hbs]
    exact Atom.keep (dh t ht) hS hH
theorem Fr.round1 {n : Nat} {a : Act} {env : Env} (f : Fr n a env) {p : Nat} (hp : p < n) (u : Value) :
    Fr n { tmps := ((#[p] : Array Tmp).zip #[u]).foldl (fun t (p, v) => t.setIfInBounds p v) a.tmps, defers := [] } ((p, u) :: env) := by
  have h := f.put (d := p) u hp
  have e : (a.put (some p) u) = { tmps := a.tmps.setIfInBounds p u, defers := [] } := by
    simp [Act.put, f.dn]
  rw [e] at h
  simpa using h
section
variable {α : Type} [Inhabited α] {lt : α → α → Bool} {P : List α → Prop} (hP : ∀ ys i j, P ys → P (swapL ys i j))
include hP
theorem insJ_ind (a : Nat) : ∀ (j : Nat) (xs : List α), P xs → P (insJ lt a j xs)
  | 0, _, h => h
  | j + 1, xs, h => by
    rw [insJ]
    split
    · exact insJ_ind a j _ (hP _ _ _ h)
    · exact h
theorem insI_ind (a : Nat) : ∀ (n i : Nat) (xs : List α), P xs → P (insI lt a n i xs)
  | 0, _, _, h => h
  | n + 1, i, xs, h => insI_ind a n (i + 1) _ (insJ_ind hP a i xs h)
theorem shU_ind : ∀ (n k : Nat) (xs : List α), P xs → P (shU n k xs)
  | 0, _, _, h => h
  | n + 1, k, xs, h => shU_ind n (k + 1) _ (hP _ _ _ h)
theorem shD_ind : ∀ (n k : Nat) (xs : List α), P xs → P (shD n k xs)
  | 0, _, _, h => h
  | n + 1, k, xs, h => shD_ind n (k - 1) _ (hP _ _ _ h)
theorem swR_ind (a b : Nat) : ∀ (n i : Nat) (xs : List α), P xs → P (swR a b n i xs)
  | 0, _, _, h => h
  | n + 1, i, xs, h => swR_ind a b n (i + 1) _ (hP _ _ _ h)
theorem rotF_ind (m : Nat) : ∀ (f i j : Nat) (xs : List α), P xs → P (rotF m f i j xs)
  | 0, i, _, xs, h => swR_ind hP _ _ _ _ _ h
  | f + 1, i, j, xs, h => by
    rw [rotF]
    split
    · exact swR_ind hP _ _ _ _ _ h
    · split
      · exact rotF_ind m f _ _ _ (swR_ind hP _ _ _ _ _ h)
      · exact rotF_ind m f _ _ _ (swR_ind hP _ _ _ _ _ h)
theorem symP_ind : ∀ (f a m b : Nat) (xs : List α), P xs → P (symP lt f a m b xs)
  | 0, _, _, _, _, h => h
  | f + 1, a, m, b, xs, h => by
    rw [symP]
    split
    · exact shU_ind hP _ _ _ h
    · split
      · exact shD_ind hP _ _ _ h
      · simp only
        have h1 : P (if symS lt a m b xs < m ∧ m < (a + b) / 2 + m - symS lt a m b xs then rotP (symS lt a m b xs) m ((a + b) / 2 + m - symS lt a m b xs) xs else xs) := by
          split
          · exact rotF_ind hP _ _ _ _ _ h
          · exact h
        have h2 := fun q1 q2 q3 => symP_ind f q1 q2 q3 _ h1
        split
        · refine symP_ind f _ _ _ _ ?_
          split
          · exact h2 _ _ _
          · exact h1
        · split
          · exact h2 _ _ _
          · exact h1
theorem blkP_ind (n : Nat) : ∀ (f a : Nat) (xs : List α), P xs → P (blkP lt n f a xs)
  | 0, _, _, h => insI_ind hP _ _ _ _ h
  | f + 1, a, xs, h => by
    rw [blkP]
    split
    · exact blkP_ind n f _ _ (insI_ind hP _ _ _ _ h)
    · exact insI_ind hP _ _ _ _ h
theorem mrgP_ind (n z : Nat) : ∀ (f a : Nat) (xs : List α), P xs → P (mrgP lt n z f a xs)
  | 0, _, _, h => by
    rw [mrgP]
    split
    · exact symP_ind hP _ _ _ _ _ h
    · exact h
  | f + 1, a, xs, h => by
    rw [mrgP]
    split
    · exact mrgP_ind n z f _ _ (symP_ind hP _ _ _ _ _ h)
    · split
      · exact symP_ind hP _ _ _ _ _ h
      · exact h
theorem outP_ind (n : Nat) : ∀ (f z : Nat) (xs : List α), P xs → P (outP lt n f z xs)
  | 0, _, _, h => h
  | f + 1, z, xs, h => by
    rw [outP]
    split
    · exact outP_ind n f _ _ (mrgP_ind hP _ _ _ _ _ h)
    · exact h
theorem sortP_ind {xs : List α} (h : P xs) : P (sortP lt xs) := outP_ind hP _ _ _ _ (blkP_ind hP _ _ _ _ h)
end
theorem swapL_mem {α : Type} [Inhabited α] {xs ys : List α} (h : ∀ x ∈ ys, x ∈ xs ∨ x = default) (i j : Nat) : ∀ x ∈ swapL ys i j, x ∈ xs ∨ x = default := by
  have hg : ∀ k, ys.getD k default ∈ xs ∨ ys.getD k default = default := fun k => by
    rw [List.getD_eq_getElem?_getD]
    cases e : ys[k]? with
    | none => exact .inr rfl
    | some y => exact h y (List.mem_of_getElem? e)
  intro x hx
  rw [swapL] at hx
  rcases List.mem_or_eq_of_mem_set hx with hx | rfl
  · rcases List.mem_or_eq_of_mem_set hx with hx | rfl
    · exact h x hx
    · exact hg j
  · exact hg i
theorem sortP_mem {α : Type} [Inhabited α] {lt : α → α → Bool} {xs : List α} : ∀ x ∈ sortP lt xs, x ∈ xs ∨ x = default :=
  sortP_ind (P := fun ys => ∀ x ∈ ys, x ∈ xs ∨ x = default) (fun _ i j h => swapL_mem h i j) (fun _ hx => .inl hx)
theorem slice_of {α : Type} {r : Rep α} {S : Nat → Prop} {w : World} {u : Value} {xs : List α} (h : Atom.holds (@Atom.mk (List α) (@repList α r) u xs) S w) : ∃ A cc, u = .slice A xs.length cc := by
  obtain ⟨ha, A, cc, hsv, _⟩ := h
  simp only at hsv ha
  rw [cells_of_not ha] at hsv
  exact ⟨A, cc, by simpa using hsv⟩
end Go.Eng

/- A range over all accounts that count, on the caller's side. -/

namespace Go.Proofs.YtmpoffijcfaalaaGreat.Al
open Go.Eng Go.YtmpoffijcfaalaaGreat Go.RowKit
set_option maxHeartbeats 1000000

theorem row_blk {α : Type} {r : Rep α} {S : Nat → Prop} {w : World} {e : TypeId} {v : Value} {xs : List α} (h : (@row α r e v xs).holds S w) : ∀ b ∈ v.ownBlock.toList, ∃ cur, w.heap[b]? = some (.cells cur e (0, 0)) := fun b hb => by
  obtain ⟨css, hown, _⟩ := h
  rcases hown.2 with ⟨rfl, _⟩ | ⟨g, cap, cur, rfl, _, hg, _⟩
  · simp [Value.ownBlock] at hb
  · have : b = g := by simpa [Value.ownBlock] using hb
    subst this
    exact ⟨cur, by simpa using hg⟩
structure Inv {SS : Nat → Prop} {W0 : World} (w1 : World) (b8 : Nat) (pre : List (Item SS W0)) (W : World) : Prop where
  size : w1.heap.size ≤ W.heap.size
  stp : Stp [b8] w1 W
  row : ∃ rv, W.heap[b8]? = some (.cells #[rv] 145 (0, 0)) ∧ (∀ S, (@row HC rHC 150 rv (pre.map (·.1))).holds S W) ∧ ∀ b ∈ rv.ownBlock.toList, w1.heap.size ≤ b
structure InA {SS : Nat → Prop} {W0 : World} (w1 : World) (b8 : Nat) (x : Item SS W0) (a : Act) (W : World) : Prop where
  ex : ∃ B9, w1.heap.size ≤ B9 ∧ W.heap[B9]? = some (.cells (ccounted x.1.1 x.1.2).toArray 150 (0, 0)) ∧ (∀ rv, W.heap[b8]? = some (.cells #[rv] 145 (0, 0)) → B9 ∉ rv.ownBlock.toList) ∧ Fr 88 a [(9, .pointer (some ⟨B9, 0, none⟩)), (8, .pointer (some ⟨b8, 0, none⟩))]
theorem cells_keep {B : Nat} {W W' : World} {row : Option Nat} (hg : W.grownBy W' row) (hr : ∀ r, row = some r → B ≤ r ∧ ∃ o : Obj, W.heap[r]? = some o ∧ o.isCells = false) {k : Nat} {cs : Array Value} {T : TypeId} {fl : Nat × Nat} (hk : W.heap[k]? = some (.cells cs T fl)) : W'.heap[k]? = some (.cells cs T fl) :=
  (hg.block k (lt_of_heap hk) fun e => by
    obtain ⟨_, o, ho, hc⟩ := hr k e.symm
    rw [hk] at ho
    cases ho
    cases hc).trans hk
theorem inv_step {SS : Nat → Prop} {W0 w1 W W' : World} {b8 : Nat} {pre : List (Item SS W0)} (h : Inv w1 b8 pre W) (hs : W.heap.size ≤ W'.heap.size) (h1 : Stp [b8] w1 W') (hc : ∀ (k : Nat) (cs : Array Value) (T : TypeId) (fl : Nat × Nat), W.heap[k]? = some (Obj.cells cs T fl) → W'.heap[k]? = some (Obj.cells cs T fl)) : Inv w1 b8 pre W' := by
  obtain ⟨rv, h8, hrow, hnew⟩ := h.row
  refine ⟨Nat.le_trans h.size hs, h1, rv, hc _ _ _ _ h8, fun S => ?_, hnew⟩
  refine (@row HC rHC 150 rv (pre.map (·.1))).keep (hrow (fun _ => False)) (fun _ h => h.elim) (fun b hb => ?_)
  rcases hb with hb | hb
  · exact hb.elim
  · obtain ⟨cur, hcur⟩ := row_blk (hrow (fun _ => False)) b hb
    rw [hcur]
    exact hc _ _ _ _ hcur
theorem inv_own {SS : Nat → Prop} {W0 w1 : World} {b8 : Nat} : OwnFrom w1.heap.size (Inv (SS := SS) (W0 := W0) w1 b8) := fun s W W' row hs hg hr =>
  inv_step hs hg.size ⟨hg.os.trans hs.stp.os, hg.tape.trans hs.stp.tape, hg.output.trans hs.stp.output, Nat.le_trans hs.size hg.size, fun k hk hx => (hg.block k (Nat.lt_of_lt_of_le hk hs.size) (fun e => by
    have := (hr k e.symm).1
    omega)).trans (hs.stp.block k hk hx)⟩ fun k cs T fl hk => cells_keep hg hr hk
theorem ina_own {SS : Nat → Prop} {W0 w1 : World} {b8 : Nat} (hb8 : b8 < w1.heap.size) (x : Item SS W0) (a : Act) : OwnFrom w1.heap.size (fun (_ : Unit) W => InA w1 b8 x a W) := fun _ W W' row hs hg hr => by
  obtain ⟨B9, h1, h2, h3, h4⟩ := hs.ex
  refine ⟨B9, h1, cells_keep hg hr h2, fun rv hrv => h3 rv ?_, h4⟩
  have hb : b8 < W.heap.size := Nat.lt_of_lt_of_le hb8 (Nat.le_trans h1 (Nat.le_of_lt (lt_of_heap h2)))
  rw [← hg.block b8 hb (fun e => by have := (hr b8 e.symm).1; omega)]
  exact hrv
theorem stp_nil {W W' : World} (hs : Stp [] W W') : ∀ (k : Nat) (cs : Array Value) (T : TypeId) (fl : Nat × Nat), W.heap[k]? = some (Obj.cells cs T fl) → W'.heap[k]? = some (Obj.cells cs T fl) := fun k cs T fl hk => (hs.block k (lt_of_heap hk) (by simp)).trans hk
theorem stp_more {b8 : Nat} {w1 W W' : World} (h : Stp [b8] w1 W) {M : List Nat} (hs : Stp M W W') (hM : ∀ k ∈ M, k = b8 ∨ w1.heap.size ≤ k) : Stp [b8] w1 W' :=
  ⟨hs.os.trans h.os, hs.tape.trans h.tape, hs.output.trans h.output, Nat.le_trans h.size hs.size, fun k hk hx => (hs.block k (Nat.lt_of_lt_of_le hk h.size) (fun hm => by
    rcases hM k hm with e | e
    · exact hx (by simp [e])
    · omega)).trans (h.block k hk hx)⟩
theorem seqA (m : Nat) {w1 : World} {b1 b8 : Nat} {SS : Nat → Prop} (hSS : ∀ b, SS b → b < w1.heap.size ∧ b ≠ b1 ∧ b ≠ b8) {k5 : Value} {ss : List TState} (hB : Bs SS k5 ss w1) (hb1 : b1 < w1.heap.size) (hb8 : b8 < w1.heap.size) (hne : b1 ≠ b8) (box : w1.heap[b1]? = some (.cells #[k5] 28 (0, 0))) :
    SeqStopsK Fence.wide m Tryz.prog 158 #[.pointer (some ⟨b1, 0, none⟩)] (encA (SS := SS) (W0 := w1)) (KC w1.heap.size b8 150) (fun xs => dat xs = allU ss ss.length) (fun _ => True) (allU ss ss.length).length w1 := by
  intro ll J Jx W hW hJ hJx hY h0
  have hkc : KC w1.heap.size b8 150 w1 W := ⟨hW.size, fun k hk _ => hW.block k hk, fun k cs T fl _ _ hk => (hW.block k (lt_of_heap hk)).trans hk⟩
  refine callsIn_wide.2 (Calls.mono (iterA m ll hSS J Jx W k5 ss hB hb1 hb8 hne hW.size ((hW.block b1 hb1).trans box) hkc hJ hJx hY h0) ?_)
  rintro e w' ⟨v, rfl, h⟩
  refine ⟨⟨v, rfl⟩, ?_⟩
  rcases h with ⟨xs, h1, h2⟩ | ⟨pre, h⟩
  · exact .inl ⟨xs, h1, h2⟩
  · exact .inr ⟨pre, trivial, h⟩
theorem stV {b8 : Nat} {rv : Value} {w : World} (box : w.heap[b8]? = some (.cells #[rv] 145 (0, 0))) : St w [b8] w [bl b8 145 [rv]] := ⟨Stp.refl _ _, fun p hp => by
  have : p = bl b8 145 [rv] := by simpa using hp
  subst this
  exact box, by simp [Own.bs, bsOf], fun b hb => .inl (by simpa [Own.bs, bsOf] using hb)⟩
/-- A round begins: what it is handed is put into a variable. -/
theorem assignA {SS : Nat → Prop} {W0 w1 W : World} {b8 l n : Nat} {env : Env} {a : Act} {pre : List (Item SS W0)} {x : Item SS W0} {K : Act → World → Prop} (f : Fr 88 a env) (he : lk env 8 = some (.pointer (some ⟨b8, 0, none⟩))) (hb8 : b8 < w1.heap.size) (hI : Inv w1 b8 pre W)
    (hK : ∀ a' W', KeepsFrom w1.heap.size W W' → KC w1.heap.size b8 150 W W' → Inv w1 b8 pre W' → InA w1 b8 x a' W' → K a' W') {id : Nat} {p1 p2 : String} {t1 t2 : TypeId} {af1 af2 : Array Edge} :
    (Code.region id #[⟨some 9, .alloc 150, t1, p1, af1, none⟩, ⟨none, .store 150 (.tmp 9) (.tmp 23), t2, p2, af2, none⟩] false).wpIn (Fence.wide.inRound l) n Tryz.prog (Exit.then K (fun _ _ _ => False)) { tmps := ((#[23] : Array Tmp).zip (encA x)).foldl (fun t (p, v) => t.setIfInBounds p v) a.tmps, defers := [] } W := by
  obtain ⟨rv, h8, hrow, hnew⟩ := hI.row
  refine round_region (ops := [⟨some 9, .alloc 150, t1, p1, af1, none⟩, ⟨none, .store 150 (.tmp 9) (.tmp 23), t2, p2, af2, none⟩]) (K := K) rfl (fun _ _ h => h) ?_
  have hone : x.1.2.oneCell' = true := oneCell_of_list x.2.2
  refine (show WL _ ⟨Tryz.prog, 88, W, [b8]⟩ _ _ [(23, .agg (ccounted x.1.1 x.1.2).toArray), (8, .pointer (some ⟨b8, 0, none⟩))] [bl b8 145 [rv]] [] from ?_) _ W ((f.round1 (show 23 < 88 by decide) (.agg (ccounted x.1.1 x.1.2).toArray)).sub ⟨rfl, he, trivial⟩) (stV h8) DH.nil
  refine al zero_150 rfl fun b9 => stW 0 (us := ccounted x.1.1 x.1.2) rfl rfl rfl row_150 (by simp only [List.all_cons, List.all_nil, Bool.and_true, hone]; rfl) rfl<|nl ?_
  intro a' w' f' st' dh'
  have st' : St W [b8] w' [bl b9 150 (ccounted x.1.1 x.1.2), bl b8 145 [rv]] := st'
  have h9 : w'.heap[b9]? = some (.cells (ccounted x.1.1 x.1.2).toArray 150 (0, 0)) := Ep.bl_at 0 rfl st'
  have h8' : w'.heap[b8]? = some (.cells #[rv] 145 (0, 0)) := Ep.bl_at 1 rfl st'
  have hn9 : b9 ≠ b8 := nd_ne st'.nd (i := 0) (j := 1) rfl rfl (by decide) (by simp) (by simp)
  have hge : W.heap.size ≤ b9 := by
    rcases st'.new b9 (by simp [Own.bs, bsOf]) with h | h
    · exact absurd (by simpa using h) hn9
    · exact h
  have hs : Stp [] W w' := Ep.stp_own st'.stp (h8'.trans h8.symm)
  refine ⟨rfl, hK a' w' ⟨hs.size, fun k o _ hk _ => (hs.block k (Array.getElem?_eq_some_iff.1 hk).1 (by simp)).trans hk⟩ (hs.kc hI.size (by simp)) (inv_step hI hs.size (stp_more hI.stp hs (by simp)) (stp_nil hs)) ⟨b9, Nat.le_trans hI.size hge, h9, fun rv' hrv' hm => ?_, f'.sub ⟨rfl, rfl, trivial⟩⟩⟩
  rw [h8'] at hrv'
  have e : rv = rv' := by simpa using hrv'
  subst e
  obtain ⟨cur, hcur⟩ := row_blk (hrow (fun _ => False)) b9 hm
  have := lt_of_heap hcur
  omega
/-- A round: one more. -/
theorem bodyA {SS : Nat → Prop} {W0 w1 W : World} {b8 l n N : Nat} {a' : Act} {pre : List (Item SS W0)} {x : Item SS W0} (hb8 : b8 < w1.heap.size) (hI : Inv w1 b8 pre W) (hA : InA w1 b8 x a' W) (hlen : pre.length < N) (hN : N ≤ 100000) {id id2 : Nat} {p1 p2 p3 p4 p5 : String} {t1 t2 t3 t4 t5 : TypeId} {af1 af2 af3 af4 af5 : Array Edge} :
    (Code.block id (.region id2 #[⟨some 24, .load 145 (.tmp 8), t1, p1, af1, none⟩, ⟨some 25, .load 150 (.tmp 9), t2, p2, af2, none⟩, ⟨some 26, .buildSlice 145 1 #[(0, .tmp 25)], t3, p3, af3, none⟩, ⟨some 27, .call { callee := .builtin .append, args := #[.tmp 24, .tmp 26], argTypes := #[145, 145] }, t4, p4, af4, none⟩, ⟨none, .store 145 (.tmp 8) (.tmp 27), t5, p5, af5, none⟩] false)).wpIn (Fence.wide.inRound l) n Tryz.prog
      (ownPostG w1.heap.size (KC w1.heap.size b8 150) (Inv w1 b8) (fun _ _ _ => False) (pre ++ [x]) W) a' W := by
  obtain ⟨rv, h8, hrow, hnew⟩ := hI.row
  obtain ⟨B9, hB9, hp9, hn9, f'⟩ := hA.ex
  have h98 : B9 ≠ b8 := by omega
  have hone : x.1.2.oneCell' = true := oneCell_of_list x.2.2
  have hcr := row_blk (hrow (fun _ => False))
  refine wpIn_block (round_region (ops := [_, _, _, _, _]) (K := fun a W' => ownPostG w1.heap.size (KC w1.heap.size b8 150) (Inv w1 b8) (fun _ _ _ => False) (pre ++ [x]) W .normal a W') rfl (fun _ _ h => h) ?_)
  refine (show WL _ ⟨Tryz.prog, 88, W, rv.ownBlock.toList ++ [B9, b8]⟩ _ _ [(9, .pointer (some ⟨B9, 0, none⟩)), (8, .pointer (some ⟨b8, 0, none⟩))] [@row HC rHC 150 rv (pre.map (·.1)), bl B9 150 (ccounted x.1.1 x.1.2), bl b8 145 [rv]] [] from ?_) _ W f' ⟨Stp.refl _ _, ?_, ?_, ?_⟩ DH.nil
  · refine ldB 2 rfl rfl one_145 rfl rfl ?_
    refine ldM 1 (ccounted x.1.1 x.1.2) rfl rfl row_150 rfl rfl<|bsM rfl app_145 rfl rfl rfl rfl fun b26 => ?_
    refine frS1 (α := HC) x.1 (fun S w h => ⟨(), rfl, ones_hold (fun u hu => by
      simp only [List.mem_cons, List.not_mem_nil, or_false] at hu
      rcases hu with rfl | rfl | rfl | rfl | rfl | rfl | rfl | rfl | rfl | rfl | rfl <;> first | rfl | exact hone), x.2.1⟩) ?_
    have hpl : (pre.map (fun y : Item SS W0 => y.1)).length = pre.length := by simp
    refine ap 0 0 rfl rfl rfl rfl app_145 (by simp only [List.length_map, List.length_cons, List.length_nil]; omega) (by simp only [List.length_map, List.length_cons, List.length_nil]; omega) rfl fun v27 => stR 2 0 rfl rfl rfl rfl one_145 (Nat.lt_succ_self _)<|nl ?_
    intro a2 w2 f2 st2 dh2
    have st2 : St W (rv.ownBlock.toList ++ [B9, b8]) w2 [@row HC rHC 150 v27 (pre.map (·.1) ++ [x.1]), bl B9 150 (ccounted x.1.1 x.1.2), bl b8 145 [v27]] := st2
    have h8' : w2.heap[b8]? = some (.cells #[v27] 145 (0, 0)) := Ep.bl_at 2 rfl st2
    have hs := st2.stp
    have hM : ∀ k ∈ rv.ownBlock.toList ++ [B9, b8], k = b8 ∨ (w1.heap.size ≤ k ∧ ∃ cs fl, W.heap[k]? = some (.cells cs 150 fl)) := fun k hk => by
      simp only [List.mem_append, List.mem_cons, List.not_mem_nil, or_false] at hk
      rcases hk with hk | rfl | rfl
      · obtain ⟨cur, hc⟩ := hcr k hk
        exact .inr ⟨hnew k hk, _, _, hc⟩
      · exact .inr ⟨hB9, _, _, hp9⟩
      · exact .inl rfl
    refine ⟨rfl, ⟨hs.size, fun k o hB hk ho => (hs.block k (Array.getElem?_eq_some_iff.1 hk).1 (fun hm => ?_)).trans hk⟩, hs.kc hI.size (fun k hk _ => hM k hk), Nat.le_trans hI.size hs.size, stp_more hI.stp hs (fun k hk => (hM k hk).imp_right (·.1)), v27, h8', fun S => ?_, fun b hb => ?_⟩
    · rcases hM k hm with e | ⟨_, cs, fl, e⟩
      · omega
      · rw [hk] at e
        cases e
        cases ho
    · have := st2.own _ (List.mem_cons_self ..)
      rw [List.map_append]
      exact raw_row_any this
    · have hb8' : b ≠ b8 := nd_ne st2.nd (i := 0) (j := 2) rfl rfl (by decide) hb (by simp)
      rcases st2.new b (mem_bsOf.2 ⟨_, List.mem_cons_self .., hb⟩) with h | h
      · rcases hM b h with e | ⟨e, _⟩
        · exact absurd e hb8'
        · exact e
      · exact Nat.le_trans hI.size h
  · intro p hp
    simp only [List.mem_cons, List.not_mem_nil, or_false] at hp
    rcases hp with rfl | rfl | rfl
    · exact hrow _
    · exact hp9
    · exact h8
  · show (rv.ownBlock.toList ++ ([B9] ++ ([b8] ++ []))).Nodup
    refine List.nodup_append.2 ⟨by cases rv.ownBlock <;> simp, by simp [h98], fun k hk k' hk' e => ?_⟩
    subst e
    simp only [List.cons_append, List.nil_append, List.mem_cons, List.not_mem_nil, or_false] at hk'
    rcases hk' with rfl | rfl
    · exact hn9 rv h8 hk
    · have := hnew k hk
      omega
  · intro b hb
    exact .inl (by simpa [Own.bs, bsOf] using hb)
theorem rangeAll {w0 : World} {M : List Nat} {Q : Exit → Act → World → Prop} {env : Env} {L : Go.Eng.Own} {D : List Atom} {b1 b8 : Nat} {k5 : Value} {ss : List TState} (i j k : Nat) (hi : L[i]? = some (bl b1 28 [k5])) (hj : L[j]? = some (bl b8 145 [.slice none 0 0])) (hij : Nat.blt i j = true) (hA : D[k]? = some ⟨k5, ss⟩)
    (hacc : ∀ S ∈ ss, S.fAccounts.length ≤ 500) (himg : ∀ S ∈ ss, waitsP ss S = true → (rdState S.fImage).1.fAccounts.length ≤ 500 ∧ ∀ a ∈ (rdState S.fImage).1.fAccounts, a.fHolders = []) (hN : (allU ss ss.length).length ≤ 100000)
    (hg : ev env (.tmp 22) = some (.func (.func 158) #[] #[.pointer (some ⟨b1, 0, none⟩)])) (he : lk env 8 = some (.pointer (some ⟨b8, 0, none⟩)))
    {id id1 id2 : Nat} {q1 q2 p1 p2 p3 p4 p5 : String} {u1 u2 t1 t2 t3 t4 t5 : TypeId} {bf1 bf2 af1 af2 af3 af4 af5 : Array Edge}
    (kk : ∀ Dm v, WQD [mk Dm] ⟨Tryz.prog, 88, w0, M⟩ Q .normal env ([dk Dm, @row Tcounted rcounted 150 v (allU ss ss.length)] ++ L.set j (bl b8 145 [v])) D) :
    WC ⟨Tryz.prog, 88, w0, M⟩ (.rangeFunc (.tmp 22) #[23] (.region id1 #[⟨some 9, .alloc 150, u1, q1, bf1, none⟩, ⟨none, .store 150 (.tmp 9) (.tmp 23), u2, q2, bf2, none⟩] false)
      (.block id (.region id2 #[⟨some 24, .load 145 (.tmp 8), t1, p1, af1, none⟩, ⟨some 25, .load 150 (.tmp 9), t2, p2, af2, none⟩, ⟨some 26, .buildSlice 145 1 #[(0, .tmp 25)], t3, p3, af3, none⟩, ⟨some 27, .call { callee := .builtin .append, args := #[.tmp 24, .tmp 26], argTypes := #[145, 145] }, t4, p4, af4, none⟩, ⟨none, .store 145 (.tmp 8) (.tmp 27), t5, p5, af5, none⟩] false))) Q env L D := by
  intro a w1 f st dh
  have m1 : b1 ∈ L.bs := mem_bsOf.2 ⟨_, List.mem_of_getElem? hi, by simp⟩
  have m8 : b8 ∈ L.bs := mem_bsOf.2 ⟨_, List.mem_of_getElem? hj, by simp⟩
  have hb1 : b1 < w1.heap.size := st.lt b1 m1
  have hb8 : b8 < w1.heap.size := st.lt b8 m8
  have hne : b1 ≠ b8 := nd_ne st.nd hi hj (lt_blt hij) (by simp) (by simp)
  have box1 : w1.heap[b1]? = some (.cells #[k5] 28 (0, 0)) := st.own _ (List.mem_of_getElem? hi)
  have box8 : w1.heap[b8]? = some (.cells #[.slice none 0 0] 145 (0, 0)) := st.own _ (List.mem_of_getElem? hj)
  have hSS : ∀ b, Sf L.bs w1 b → b < w1.heap.size ∧ b ≠ b1 ∧ b ≠ b8 := fun b hb => ⟨hb.1, fun e => hb.2 (e ▸ m1), fun e => hb.2 (e ▸ m8)⟩
  have hBs : Bs (Sf L.bs w1) k5 ss w1 := ⟨dh _ (List.mem_of_getElem? hA), hacc, himg⟩
  refine (wpIn_wide (n := 2)).1 (wpIn_rangeFunc_ownH (gf := 158) (lb := #[.pointer (some ⟨b1, 0, none⟩)]) (encs := encA (SS := Sf L.bs w1) (W0 := w1)) (Kp := KC w1.heap.size b8 150) (S := fun xs => dat xs = allU ss ss.length) (Sp := fun _ => True) (N := (allU ss ss.length).length) (w0 := w1) rfl (by decide) (f.ev hg) trivial (run_callFunc ok_158)
    (seqA _ hSS hBs hb1 hb8 hne box1) (fun h h' => h.trans h') (fun W ll o o' h hl ho _ => KC.putObj h hl ho) (Below.refl _ _) (fun _ => rfl) (Inv w1 b8) (fun _ _ _ => False) inv_own (fun _ _ _ _ _ h => h.elim)
    ⟨Nat.le_refl _, Stp.refl _ _, .slice none 0 0, box8, fun S => ⟨[], World.ownsRow_nil _ _ _ _, trivial, by simp⟩, by simp [Value.ownBlock]⟩ (InA w1 b8) (fun x a => ina_own hb8 x a) ?_ ?_ ?_ ?_)
  · intro ll pre x W K hI hK
    exact assignA f he hb8 hI hK
  · intro ll pre x a' W _ _ hI hA hlen
    exact bodyA hb8 hI hA hlen hN
  · intro Dm xs W hDm hxs hI hK
    obtain ⟨rv, h8, hrow, hnew⟩ := hI.row
    have hcr := row_blk (hrow (fun _ => False))
    have re := range_end st dh hj hI.stp h8 [dk Dm, @row Tcounted rcounted 150 rv (allU ss ss.length)] (fun q hq => by
      have hq : q = Dm ∨ q ∈ rv.ownBlock.toList := by simpa [Own.bs, bsOf] using hq
      rcases hq with rfl | hq
      · exact hDm
      · exact hnew q hq) (by
      show ([Dm] ++ (rv.ownBlock.toList ++ [])).Nodup
      refine List.nodup_append.2 ⟨by simp, by cases rv.ownBlock <;> simp, fun q hq q' hq' e => ?_⟩
      subst e
      have e : q = Dm := by simpa using hq
      subst e
      obtain ⟨cur, hc⟩ := hcr q (by simpa using hq')
      rw [hK] at hc
      cases hc) (fun p hp => by
      simp only [List.mem_cons, List.not_mem_nil, or_false] at hp
      rcases hp with rfl | rfl
      · exact hK
      · have hr := row_of_raw (s := scounted) (hrow (fun _ => False)) (S' := Sf (Own.bs ([dk Dm, @row Tcounted rcounted 150 rv (allU ss ss.length)] ++ L.set j (bl b8 145 [rv]))) W) (fun y hy t ht => by
          obtain ⟨x, _, rfl⟩ := List.mem_map.1 hy
          have ht : t = ⟨x.1.2, x.1.1.fAccount.fHolders⟩ := by simpa using ht
          subst ht
          refine Atom.keep x.2.2 (fun b hb => ⟨Nat.lt_of_lt_of_le hb.1 hI.size, fun hx => ?_⟩) (fun b hb => hI.stp.block b hb.1 (fun hx => ?_))
          · rw [Own.bs, bsOf_append] at hx
            rcases List.mem_append.1 hx with hx | hx
            · have hx : b = Dm ∨ b ∈ rv.ownBlock.toList := by simpa [bsOf] using hx
              have h1 := hb.1
              rcases hx with rfl | hx
              · omega
              · have := hnew b hx
                omega
            · rw [← Own.bs, bs_set1 L j hj] at hx
              exact hb.2 hx
          · have hx : b = b8 := by simpa using hx
            exact hb.2 (hx ▸ m8))
        have e : (xs.map (·.1)).map Prod.fst = allU ss ss.length := by rw [← hxs, dat, List.map_map]; rfl
        rw [e] at hr
        exact hr)
    have := kk Dm rv a W f re.1 re.2
    rw [f.dn]
    exact this
  · intro _ _ _ _ _ _ h
    exact h.elim
end Go.Proofs.YtmpoffijcfaalaaGreat.Al

/- What the program's checks tell is what the reference's tell: marks, ends, deals, waits, rights. No program. -/

namespace Go.YtmpoffijcfaalaaGreat
open Go.Eng

end Go.YtmpoffijcfaalaaGreat
