/- Part 15 of auditPlays_holds. -/
import Derived.Test.YtmpoffijcfaalaaGreatAp14

set_option maxRecDepth 20000
set_option maxHeartbeats 1000000
namespace Go.Eng
open Go.RowKit
section
section
variable {ds : List Deferred} {c : Cx} {x y : Code} {Q Q' : Exit → Act → World → Prop} {env : Env} {L : Own} {D : List Atom} {ops : Array Oper}
theorem cdBD {o : Operand} {t : Bool} (hc : ev env o = some (.bool t)) (h1 : t = true → WCD ds c x Q env L D) (h2 : t = false → WCD ds c y Q env L D) : WCD ds c (.cond o x y) Q env L D :=
 fun a w f s d => wp_cond_split (show Act.eval { a with defers := ds } o = _ from f.ev hc) (fun h => h1 h a w f s d) (fun h => h2 h a w f s d)
theorem cdPD {o : Operand} {p : Prop} [Decidable p] (hc : ev env o = some (.bool (decide p))) (h1 : p → WCD ds c x Q env L D) (h2 : ¬ p → WCD ds c y Q env L D) : WCD ds c (.cond o x y) Q env L D :=
 cdBD hc (fun h => h1 (of_decide_eq_true h)) (fun h => h2 (of_decide_eq_false h))
theorem tRD {K : Act → World → Prop} (h : WQD ds c Q .ret env L D) : WQD ds c (Exit.then K Q) .ret env L D := h
theorem bRD {id : Nat} (h : WQD ds c Q .ret env L D) : WQD ds c (Exit.inBlock id Q) .ret env L D := h
theorem dpQD {e : Exit} {p : OwnE} (h : WQD ds c Q e env L D) : WQD ds c Q e env (p :: L) D := fun a w f s d => h a w f s.drop d.drop
theorem mtQD {e : Exit} (i : Nat) {q : OwnE} (hi : L[i]? = some q) (k : WQD ds c Q e env (q :: L.eraseIdx i) D) : WQD ds c Q e env L D :=
 fun a w f st dh => k a w f (st.perm (erase_perm hi)) (dh.perm (erase_perm hi))
theorem frRCD {α : Type} {r : Rep α} {e : TypeId} {sv : Value} {xs : List α} (k : WCD ds c x Q env L ((@Atom.mk (List α) (@repList α r) sv xs) :: D)) : WCD ds c x Q env (@row α r e sv xs :: L) D :=
 fun a w f st dh => k a w f st.drop (DH.cons (st.freeze fun S hb hS h => row_list h hS hb) dh.drop)
theorem rwCD (α : Type) [Rep α] (e : TypeId) (k : WCD ds c x Q env (row e (.slice none 0 0) ([] : List α) :: L) D) : WCD ds c x Q env L D := by
 intro a w f st dh
 refine k a w f (st.push (p := row e (.slice none 0 0) ([] : List α)) (Stp.refl _ _) ⟨[], World.ownsRow_nil _ _ _ _, trivial, by simp⟩ (by simp [Value.ownBlock]) (by simp [Value.ownBlock])) (dh.push (Stp.refl _ _) (by simp [Value.ownBlock]))
theorem emQD {e : Exit} {α : Type} [r : Rep α] (k : WQD ds c Q e env L ((@Atom.mk (List α) (@repList α r) (.slice none 0 0) []) :: D)) : WQD ds c Q e env L D :=
 fun a w f st dh => k a w f st (DH.cons (nil_list _ _) dh)
def LoopKD (ds : List Deferred) (c : Cx) {σ : Type} (E : σ → Env) (LL : σ → Own) (DD : σ → List Atom) (I : σ → Prop) (μ : σ → Nat) (s : σ) : Act → World → Prop :=
 fun a w => ∃ a0 : Act, a = { a0 with defers := ds } ∧ LoopK c E LL DD I μ s a0 w
theorem lpD {σ : Type} (E : σ → Env) (LL : σ → Own) (DD : σ → List Atom) (I : σ → Prop) (μ : σ → Nat) (s0 : σ) (hI : I s0)
 (hE : Sub (E s0) env) (hL : LL s0 = L) (hD : SubD (DD s0) D)
 (body : ∀ s, I s → WCD ds c x (Exit.then (LoopKD ds c E LL DD I μ s) Q) (E s) (LL s) (DD s)) : WCD ds c (.loop x) Q env L D := by
 intro a w f st d
 subst hL
 have key : ∀ (m : Nat) (s : σ), μ s = m → I s → ∀ a w, Fr c.n a (E s) → St c.w0 c.M w (LL s) → DH (DD s) w (LL s) →
  ∀ (b : Frame) (k : List Item) (cs : List Frame), ∃ e a' w', Q e a' w' ∧ Arrives c.P (lone (b.at { a with defers := ds } (.code x :: .inLoop x :: k)) cs w) b k cs e a' w' := by
  intro m
  induction m using Nat.strongRecOn with
  | _ m ih =>
   intro s hm hI a w f st d b k cs
   obtain ⟨e, a₁, w₁, hq, harr⟩ := body s hI a w f st d b (.inLoop x :: k) cs
   cases e with
   | normal =>
    obtain ⟨a0, rfl, s', hI', hlt, f', st', d'⟩ := hq
    obtain ⟨e₂, a₂, w₂, hq₂, harr₂⟩ := ih (μ s') (hm ▸ hlt) s' rfl hI' a0 w₁ f' st' d' b k cs
    exact ⟨e₂, a₂, w₂, hq₂, .of_steps (Steps.trans harr (.one step_inLoop)) harr₂⟩
   | exit id => exact ⟨_, a₁, w₁, hq, .pass (x := .inLoop x) rfl (fun _ _ => .inl (by simp)) harr⟩
   | goto l => exact ⟨_, a₁, w₁, hq, .pass (x := .inLoop x) rfl (fun _ _ => .inl (by simp)) harr⟩
   | ret => exact ⟨_, a₁, w₁, hq, .pass (x := .inLoop x) rfl (fun _ _ => .inl (by simp)) harr⟩
   | panic ch => exact ⟨_, a₁, w₁, hq, .pass (x := .inLoop x) rfl (fun _ _ => .inl (by simp)) harr⟩
   | outgrown => exact ⟨_, a₁, w₁, hq, .pass (x := .inLoop x) rfl (fun _ _ => .inl (by simp)) harr⟩
 intro b k cs
 obtain ⟨e, a', w', hq, harr⟩ := key _ s0 rfl hI a w (f.sub hE) st (d.sub hD) b k cs
 exact ⟨e, a', w', hq, .of_steps (.one step_loop) harr⟩
theorem lpED {σ : Type} (C : Env) (Dc : List Atom) (V : σ → Env → Env) (LL : σ → Own) (DD : σ → List Atom → List Atom) (I : σ → Prop) (μ : σ → Nat) (s0 : σ) (_hC : Sub C env) (_hc : SubD Dc D) (hI : I s0)
 (hE : Sub (V s0 C) env) (hL : LL s0 = L) (hD : SubD (DD s0 Dc) D)
 (body : ∀ s, I s → WCD ds c x (Exit.then (LoopKD ds c (fun s => V s C) LL (fun s => DD s Dc) I μ s) Q) (V s C) (LL s) (DD s Dc)) : WCD ds c (.loop x) Q env L D :=
 lpD (fun s => V s C) LL (fun s => DD s Dc) I μ s0 hI hE hL hD body
theorem lpCD {σ : Type} (C : Env) (Dc : List Atom) (V : σ → Env → Env) (I : σ → Prop) (μ : σ → Nat) (s0 : σ) (_hC : Sub C env) (hc : SubD Dc D) (hI : I s0)
 (hE : Sub (V s0 C) env)
 (body : ∀ s, I s → WCD ds c x (Exit.then (LoopKD ds c (fun s => V s C) (fun _ => L) (fun _ => Dc) I μ s) Q) (V s C) L Dc) : WCD ds c (.loop x) Q env L D :=
 lpD (fun s => V s C) (fun _ => L) (fun _ => Dc) I μ s0 hI hE rfl hc body
theorem agD {σ : Type} {E : σ → Env} {LL : σ → Own} {DD : σ → List Atom} {I : σ → Prop} {μ : σ → Nat} {s : σ} (s' : σ) (hI : I s') (hμ : μ s' < μ s)
 (hE : Sub (E s') env) (hL : LL s' = L) (hD : SubD (DD s') D) : WQD ds c (Exit.then (LoopKD ds c E LL DD I μ s) Q) .normal env L D := by
 intro a w f st d
 subst hL
 exact ⟨a, rfl, s', hI, hμ, f.sub hE, st, d.sub hD⟩
theorem wpQuiet_wd {P : Program} {C : World → Prop} {K : Act → Prop} (ds : List Deferred) : ∀ (l : List Oper) (a : Act), wpQuiet P ops C (fun a => K { a with defers := ds }) l a → wpQuiet P ops C K l { a with defers := ds }
 | [], _, h => h
 | o :: l, a, h => by
  unfold wpQuiet at h ⊢
  by_cases hw : Region.wanted o (yielded ops a.tmps) = true
  · rw [if_pos hw] at h
    rw [if_pos (show Region.wanted o (yielded ops ({ a with defers := ds } : Act).tmps) = true from hw)]
    obtain ⟨v, h1, h2⟩ := h
    refine ⟨v, h1, ?_⟩
    have := wpQuiet_wd ds l _ h2
    cases hd : o.dst <;> rw [hd] at this <;> exact this
  · rw [if_neg hw] at h
    rw [if_neg (show ¬ Region.wanted o (yielded ops ({ a with defers := ds } : Act).tmps) = true from hw)]
    have := wpQuiet_wd ds l _ h
    cases hd : o.dst <;> rw [hd] at this <;> exact this
theorem rgQD {id : Nat} {l : List Oper} (hm : c.P.follows .mixedOrders = true) (hB : Region.lexB .any l.toArray = true) (h : WLQ (fun e a w => Q e { a with defers := ds } w) c l.toArray l env L D) : WCD ds c (.region id l.toArray true) Q env L D :=
 fun a w f st dh => wp_region_quiet (C := fun w' => Stp [] w w') hm hB (Stp.drew [] w) (wpQuiet_wd ds l a (h a w f st dh))
theorem nlQD (h : WQD ds c Q .normal env L D) : WLQ (fun e a w => Q e { a with defers := ds } w) c ops [] env L D := nlQ h
end
section
variable {P : Program} {fn : Func} {x : Code} {f : FuncId} {args : List Value} {As : List Atom} {n m : Nat} {env : Env} {L : Own} {D : List Atom} {X : List Nat} {w0 : World} {β : Type} {R : β → Value → Prop} {out : β → Value → List Atom}
abbrev PostG (m : Nat) (P : Program) (fn : Func) (X : List Nat) (w : World) {β : Type} (R : β → Value → Prop) (out : β → Value → List Atom) : Exit → Act → World → Prop :=
 bodyPostM Fence.wide m P fn fun e w' => ∃ v, e = .returned v ∧ FnPost X w [] R (fun _ _ => []) out v w'
theorem Fnc.proofZ (m : Nat) (hf : P.funcs[f]? = some fn) (hb : fn.body = some x) (n : Nat) (hn : n = fn.ntmps) (hargs : Nat.ble args.length n = true)
 (h : ∀ X w, WC ⟨P, n, w, [] ++ X⟩ x (PostG m P fn X w R out) (ent 0 args) ([] ++ [fz X w]) As) : Fnc P f args [] As R (fun _ _ => []) out := by
 intro X w hnd hx h0 hA
 have hbs : Own.bs ([] ++ [fz X w]) = X := by simp [Own.bs, bsOf]
 refine enterM m ([] ++ X) ([] ++ [fz X w]) As hf hb n hn (Nat.le_of_ble_eq_true hargs) ⟨Stp.refl _ _, ?_, ?_, ?_⟩ ?_ (h X w)
 · intro p hp
   have : p = fz X w := by simpa using hp
   subst this
   exact ⟨fun _ _ => rfl, hx⟩
 · rw [hbs]; exact hnd
 · rw [hbs]; exact fun b hb => .inl hb
 · intro t ht
   rw [hbs]
   exact hA t ht
theorem fR2Z (y : β) (A : Own) {t u : Nat} {v1 v2 : Value} (hr : fn.results = #[.tmp t, .tmp u]) (h1 : lk env t = some v1) (h2 : lk env u = some v2) (hR : R y (.tuple #[v1, v2])) (hL : L = A ++ [fz X w0]) (hD : SubD (out y (.tuple #[v1, v2])) D) : WQ ⟨P, n, w0, [] ++ X⟩ (PostG m P fn X w0 R out) .ret env L D := by
 intro a w f st d
 subst hL
 refine (show LeavesInM Fence.wide m P fn _ _ a.defers .returning w from ?_)
 rw [f.dn]
 refine ⟨_, results_tmp2 hr _ _ _, _, rfl, ?_⟩
 have e1 := f.at_ t v1 h1
 have e2 := f.at_ u v2 h2
 rw [show a.tmps.getD t undef = v1 by simp [e1], show a.tmps.getD u undef = v2 by simp [e2]]
 exact Fnc.post (L0 := []) (L1 := fun _ _ => []) y hR rfl hD st.dropA d.dropA (by simp [Own.bs, bsOf])
theorem fR2D (y : β) (ks : List Nat) (A : Own) {t u : Nat} {v1 v2 : Value} (hr : fn.results = #[.tmp t, .tmp u]) (h1 : lk env t = some v1) (h2 : lk env u = some v2) (hR : R y (.tuple #[v1, v2])) (hL : L = ks.map dk ++ (A ++ [fz X w0])) (hD : SubD (out y (.tuple #[v1, v2])) D) : WQD (ks.map mk) ⟨P, n, w0, [] ++ X⟩ (PostG m P fn X w0 R out) .ret env L D := by
 intro a w f st d
 subst hL
 have hbs : Own.bs (ks.map dk) = ks := by
  have : ∀ l : List Nat, bsOf (l.map dk) = l := fun l => by
   induction l with
   | nil => rfl
   | cons k l ih => simp [bsOf, ih]
  exact this ks
 refine (show LeavesInM Fence.wide m P fn _ _ (ks.map mk) .returning w from ?_)
 refine leavesM ks w (fun k hk => st.own (dk k) (List.mem_append.2 (.inl (List.mem_map.2 ⟨k, hk, rfl⟩)))) ?_ fun W' hs => ⟨_, results_tmp2 hr _ _ _, _, rfl, ?_⟩
 · have := st.nd
   rw [Own.bs, bsOf_append] at this
   have := (List.nodup_append.1 this).1
   rwa [← Own.bs, hbs] at this
 · have e1 := f.at_ t v1 h1
   have e2 := f.at_ u v2 h2
   rw [show a.tmps.getD t undef = v1 by simp [e1], show a.tmps.getD u undef = v2 by simp [e2]]
   have hz := st.own (fz X w0) (by simp)
   have hks : ∀ k ∈ ks, w0.heap.size ≤ k ∧ k ∉ X := fun k hk => by
    have hm : k ∈ Own.bs (ks.map dk) := by rw [hbs]; exact hk
    have hkx : k ∉ X := fun hx => by
     have hnd := st.nd
     rw [Own.bs, bsOf_append] at hnd
     exact (List.nodup_append.1 hnd).2.2 k hm k (by rw [bsOf_append]; exact List.mem_append.2 (.inr (by simpa [bsOf] using hx))) rfl
    refine ⟨?_, hkx⟩
    rcases st.new k (by rw [Own.bs, bsOf_append]; exact List.mem_append.2 (.inl hm)) with h | h
    · exact absurd (by simpa using h) hkx
    · exact h
   refine ⟨⟨hs.os.trans st.stp.os, hs.tape.trans st.stp.tape, hs.output.trans st.stp.output, Nat.le_trans st.stp.size hs.size, fun k hk _ => ?_⟩, y, hR, by simp, by simp [Own.bs, bsOf], by simp [Own.bs, bsOf], fun t ht => ?_⟩
   · have e : W'.heap[k]? = w.heap[k]? := hs.block k (Nat.lt_of_lt_of_le hk st.stp.size) (fun hm => by have := (hks k hm).1; omega)
     by_cases hkx : k ∈ X
     · exact e.trans (hz.1 k hkx)
     · exact e.trans (st.stp.block k hk (by simpa using hkx))
   · refine Atom.keep (d t (hD t ht)) (fun b hb => ⟨Nat.lt_of_lt_of_le hb.1 hs.size, fun hx => hb.2 ?_⟩) (fun b hb => hs.block b hb.1 (fun hm => hb.2 ?_))
     · have hx : b ∈ X := by simpa [Own.bs, bsOf] using hx
       exact mem_bsOf.2 ⟨fz X w0, by simp, hx⟩
     · rw [Own.bs, bsOf_append]; exact List.mem_append.2 (.inl (by rw [← Own.bs, hbs]; exact hm))
end
end
section
theorem bs_set1 {b : Nat} {T : TypeId} {u v : List Value} : ∀ (L : Own) (i : Nat), L[i]? = some (bl b T u) → Own.bs (L.set i (bl b T v)) = Own.bs L
 | [], _, h => by simp at h
 | p :: L, 0, h => by
  simp only [List.getElem?_cons_zero, Option.some.injEq] at h
  subst h
  rfl
 | p :: L, i + 1, h => by
  simp only [List.getElem?_cons_succ] at h
  simp only [List.set_cons_succ, Own.bs, bsOf]
  rw [← Own.bs, ← Own.bs, bs_set1 L i h]
theorem range_end {w0 w1 W : World} {M : List Nat} {L : Own} {D : List Atom} {i b : Nat} {T : TypeId} {u v : List Value} (st : St w0 M w1 L) (dh : DH D w1 L) (hi : L[i]? = some (bl b T u)) (hs : Stp [b] w1 W) (hb : W.heap[b]? = some (.cells v.toArray T (0, 0))) (A : Own) (hA1 : ∀ k ∈ A.bs, w1.heap.size ≤ k) (hAn : A.bs.Nodup)
 (hA : ∀ p ∈ A, p.holds (Sf (Own.bs (A ++ L.set i (bl b T v))) W) W) : St w0 M W (A ++ L.set i (bl b T v)) ∧ DH D W (A ++ L.set i (bl b T v)) := by
 have hbs : Own.bs (A ++ L.set i (bl b T v)) = A.bs ++ L.bs := by rw [Own.bs, bsOf_append, ← Own.bs, ← Own.bs, bs_set1 L i hi]
 have hbL : b ∈ L.bs := mem_bsOf.2 ⟨_, List.mem_of_getElem? hi, by simp⟩
 have hbM : b ∈ M ∨ w0.heap.size ≤ b := st.new b hbL
 have hS : ∀ k, Sf L.bs w1 k → Sf (A.bs ++ L.bs) W k := fun k hk => ⟨Nat.lt_of_lt_of_le hk.1 hs.size, fun hx => by
  rcases List.mem_append.1 hx with h | h
  · have := hA1 k h
    have := hk.1
    omega
  · exact hk.2 h⟩
 have hH : ∀ k, Sf L.bs w1 k → W.heap[k]? = w1.heap[k]? := fun k hk => hs.block k hk.1 (fun hx => by
  have : k = b := by simpa using hx
  exact hk.2 (this ▸ hbL))
 refine ⟨⟨⟨hs.os.trans st.stp.os, hs.tape.trans st.stp.tape, hs.output.trans st.stp.output, Nat.le_trans st.stp.size hs.size, fun k hk hx => ?_⟩, ?_, ?_, ?_⟩, ?_⟩
 · refine (hs.block k (Nat.lt_of_lt_of_le hk st.stp.size) (fun hm => ?_)).trans (st.stp.block k hk hx)
   have : k = b := by simpa using hm
   subst this
   rcases hbM with h | h
   · exact hx h
   · omega
 · intro p hp
   rcases List.mem_append.1 hp with hp | hp
   · exact hA p hp
   · obtain ⟨j, hj⟩ := List.mem_iff_getElem?.1 hp
     rw [List.getElem?_set] at hj
     rw [hbs]
     split at hj
     · split at hj
       · have : p = bl b T v := by simpa using hj.symm
         subst this
         exact hb
       · cases hj
     · rename_i hne
       have hpL := st.own p (List.mem_of_getElem? hj)
       refine p.keep hpL hS (fun k hk => ?_)
       rcases hk with hk | hk
       · exact hH k hk
       · refine hs.block k (p.valid hpL k hk) (fun hx => ?_)
         have hkb : k = b := by simpa using hx
         subst hkb
         rcases Nat.lt_or_gt_of_ne hne with h | h
         · exact nd_ne st.nd hi hj h (by simp) hk rfl
         · exact nd_ne st.nd hj hi h hk (by simp) rfl
 · rw [hbs]
   refine List.nodup_append.2 ⟨hAn, st.nd, fun k hk k' hk' e => ?_⟩
   subst e
   have h1 := hA1 k hk
   have h2 := st.lt k hk'
   omega
 · rw [hbs]
   intro k hk
   rcases List.mem_append.1 hk with h | h
   · exact .inr (Nat.le_trans st.stp.size (hA1 k h))
   · exact st.new k h
 · intro t ht
   rw [hbs]
   exact Atom.keep (dh t ht) hS hH
theorem Fr.round1 {n : Nat} {a : Act} {env : Env} (f : Fr n a env) {p : Nat} (hp : p < n) (u : Value) :
 Fr n { tmps := ((#[p] : Array Tmp).zip #[u]).foldl (fun t (p, v) => t.setIfInBounds p v) a.tmps, defers := [] } ((p, u) :: env) := by
 have h := f.put (d := p) u hp
 have e : (a.put (some p) u) = { tmps := a.tmps.setIfInBounds p u, defers := [] } := by
  simp [Act.put, f.dn]
 rw [e] at h
 simpa using h
section
variable {α : Type} [Inhabited α] {lt : α → α → Bool} {P : List α → Prop} (hP : ∀ ys i j, P ys → P (swapL ys i j))
include hP
theorem insJ_ind (a : Nat) : ∀ (j : Nat) (xs : List α), P xs → P (insJ lt a j xs)
 | 0, _, h => h
 | j + 1, xs, h => by
  rw [insJ]
  split
  · exact insJ_ind a j _ (hP _ _ _ h)
  · exact h
theorem insI_ind (a : Nat) : ∀ (n i : Nat) (xs : List α), P xs → P (insI lt a n i xs)
 | 0, _, _, h => h
 | n + 1, i, xs, h => insI_ind a n (i + 1) _ (insJ_ind hP a i xs h)
theorem shU_ind : ∀ (n k : Nat) (xs : List α), P xs → P (shU n k xs)
 | 0, _, _, h => h
 | n + 1, k, xs, h => shU_ind n (k + 1) _ (hP _ _ _ h)
theorem shD_ind : ∀ (n k : Nat) (xs : List α), P xs → P (shD n k xs)
 | 0, _, _, h => h
 | n + 1, k, xs, h => shD_ind n (k - 1) _ (hP _ _ _ h)
theorem swR_ind (a b : Nat) : ∀ (n i : Nat) (xs : List α), P xs → P (swR a b n i xs)
 | 0, _, _, h => h
 | n + 1, i, xs, h => swR_ind a b n (i + 1) _ (hP _ _ _ h)
theorem rotF_ind (m : Nat) : ∀ (f i j : Nat) (xs : List α), P xs → P (rotF m f i j xs)
 | 0, i, _, xs, h => swR_ind hP _ _ _ _ _ h
 | f + 1, i, j, xs, h => by
  rw [rotF]
  split
  · exact swR_ind hP _ _ _ _ _ h
  · split
    · exact rotF_ind m f _ _ _ (swR_ind hP _ _ _ _ _ h)
    · exact rotF_ind m f _ _ _ (swR_ind hP _ _ _ _ _ h)
theorem symP_ind : ∀ (f a m b : Nat) (xs : List α), P xs → P (symP lt f a m b xs)
 | 0, _, _, _, _, h => h
 | f + 1, a, m, b, xs, h => by
  rw [symP]
  split
  · exact shU_ind hP _ _ _ h
  · split
    · exact shD_ind hP _ _ _ h
    · simp only
      have h1 : P (if symS lt a m b xs < m ∧ m < (a + b) / 2 + m - symS lt a m b xs then rotP (symS lt a m b xs) m ((a + b) / 2 + m - symS lt a m b xs) xs else xs) := by
       split
       · exact rotF_ind hP _ _ _ _ _ h
       · exact h
      have h2 := fun q1 q2 q3 => symP_ind f q1 q2 q3 _ h1
      split
      · refine symP_ind f _ _ _ _ ?_
        split
        · exact h2 _ _ _
        · exact h1
      · split
        · exact h2 _ _ _
        · exact h1
theorem blkP_ind (n : Nat) : ∀ (f a : Nat) (xs : List α), P xs → P (blkP lt n f a xs)
 | 0, _, _, h => insI_ind hP _ _ _ _ h
 | f + 1, a, xs, h => by
  rw [blkP]
  split
  · exact blkP_ind n f _ _ (insI_ind hP _ _ _ _ h)
  · exact insI_ind hP _ _ _ _ h
theorem mrgP_ind (n z : Nat) : ∀ (f a : Nat) (xs : List α), P xs → P (mrgP lt n z f a xs)
 | 0, _, _, h => by
  rw [mrgP]
  split
  · exact symP_ind hP _ _ _ _ _ h
  · exact h
 | f + 1, a, xs, h => by
  rw [mrgP]
  split
  · exact mrgP_ind n z f _ _ (symP_ind hP _ _ _ _ _ h)
  · split
    · exact symP_ind hP _ _ _ _ _ h
    · exact h
theorem outP_ind (n : Nat) : ∀ (f z : Nat) (xs : List α), P xs → P (outP lt n f z xs)
 | 0, _, _, h => h
 | f + 1, z, xs, h => by
  rw [outP]
  split
  · exact outP_ind n f _ _ (mrgP_ind hP _ _ _ _ _ h)
  · exact h
theorem sortP_ind {xs : List α} (h : P xs) : P (sortP lt xs) := outP_ind hP _ _ _ _ (blkP_ind hP _ _ _ _ h)
end
theorem swapL_mem {α : Type} [Inhabited α] {xs ys : List α} (h : ∀ x ∈ ys, x ∈ xs ∨ x = default) (i j : Nat) : ∀ x ∈ swapL ys i j, x ∈ xs ∨ x = default := by
 have hg : ∀ k, ys.getD k default ∈ xs ∨ ys.getD k default = default := fun k => by
  rw [List.getD_eq_getElem?_getD]
  cases e : ys[k]? with
  | none => exact .inr rfl
  | some y => exact h y (List.mem_of_getElem? e)
 intro x hx
 rw [swapL] at hx
 rcases List.mem_or_eq_of_mem_set hx with hx | rfl
 · rcases List.mem_or_eq_of_mem_set hx with hx | rfl
   · exact h x hx
   · exact hg j
 · exact hg i
theorem sortP_mem {α : Type} [Inhabited α] {lt : α → α → Bool} {xs : List α} : ∀ x ∈ sortP lt xs, x ∈ xs ∨ x = default :=
 sortP_ind (P := fun ys => ∀ x ∈ ys, x ∈ xs ∨ x = default) (fun _ i j h => swapL_mem h i j) (fun _ hx => .inl hx)
theorem slice_of {α : Type} {r : Rep α} {S : Nat → Prop} {w : World} {u : Value} {xs : List α} (h : Atom.holds (@Atom.mk (List α) (@repList α r) u xs) S w) : ∃ A cc, u = .slice A xs.length cc := by
 obtain ⟨ha, A, cc, hsv, _⟩ := h
 simp only at hsv ha
 rw [cells_of_not ha] at hsv
 exact ⟨A, cc, by simpa using hsv⟩
end
section
def WLI (m : Nat) (Q : Exit → Act → World → Prop) (c : Cx) (ops : Array Oper) (l : List Oper) (env : Env) (L : Own) (D : List Atom) : Prop :=
 ∀ a w, Fr c.n a env → St c.w0 c.M w L → DH D w L → wpListIn Fence.wide m c.P ops Q l a w
instance isJ_WLI (m : Nat) (Q : Exit → Act → World → Prop) : IsJ (WLI m Q) where
 read := by
  intro c ops env L D rest o dst σ hg hd env' D' hrun k a w f st dh
  obtain ⟨s, u, hr, f', dh'⟩ := hrun a w f st dh
  refine listIn_plain hg ⟨fun _ _ => trivial, ?_⟩
  have hs : Oper.semAt Fence.wide.round a.eval o = execOp a.eval o := rfl
  rw [hs, hr w (Stp.refl _ _)]
  simp only [Oper.uponIn, hd]
  exact k s _ _ f' st dh'
 wantY := by
  intro c ops env L D rest dst op t p af g hw k a w f st dh
  have := k a w f st dh
  unfold wpListIn at this ⊢
  rw [if_pos (hw a w f st dh)]
  rw [if_pos (show Region.wanted ⟨dst, op, t, p, af, none⟩ (yielded ops a.tmps) = true from rfl)] at this
  exact this
 wantN := by
  intro c ops env env' L D rest o hw k a w f st dh
  obtain ⟨h1, h2⟩ := hw a w f st dh
  unfold wpListIn
  rw [h1]
  simp only [Bool.false_eq_true, if_false]
  exact ⟨fun _ _ => trivial, k _ _ h2 st dh⟩
 mono := by
  intro c ops env env' L D D' l h k a w f st dh
  obtain ⟨h1, h2⟩ := h a w f st dh
  exact k a w h1 st h2
 fact := by
  intro c ops env L D l q h k a w f st dh
  exact k (h a w f st dh) a w f st dh
section
variable {m : Nat} {c : Cx} {ops : Array Oper} {Q : Exit → Act → World → Prop} {env : Env} {L : Own} {D : List Atom} {rest : List Oper} {d : Nat} {t : TypeId} {p : String} {af : Array Edge}
end
section
variable {P : Program} {n : Nat} {l dd : Nat} {r : Loop} {X : List Nat} {w0 : World} {L0 : Own} {β : Type} {R : β → Value → Prop} {L1 : β → Value → Own} {out : β → Value → List Atom} {env : Env} {L : Own} {D : List Atom} {ops opsB : List Oper} {M : List Nat}
end
section
variable {ds : List Deferred} {c : Cx} {Q : Exit → Act → World → Prop} {env : Env} {L : Own} {D : List Atom}
end
end
section
section
variable {c : Cx} {ops : Array Oper} {J : Cx → Array Oper → List Oper → Env → Own → List Atom → Prop} [iJ : IsJ J] {env : Env} {L : Own} {D : List Atom} {rest : List Oper} {d : Nat} {t : TypeId} {p : String} {af : Array Edge} {T : TypeId}
include iJ
theorem neBo {x y : Operand} {xt yt : TypeId} {b b' : Bool} (hu : c.P.underlying xt = some .bool) (hx : ev env x = some (.bool b)) (hy : ev env y = some (.bool b')) (hn : Nat.blt d c.n = true) (k : J c ops rest ((d, .bool (!decide (b = b'))) :: env) L D) :
 J c ops (⟨some d, .binOp .neq xt x y yt, t, p, af, none⟩ :: rest) env L D :=
 pu rfl rfl hn (fun a w f => by
  have h := run_eql_bool (P := c.P) w _ b b' hu
  simp [binOp] at h
  simp [execOp, f.ev hx, f.ev hy, eqGuard, binOp]
  generalize Sem.run c.P (Op.equal xt (.bool b) (.bool b')) w = r at h ⊢
  cases r with
  | ok v w' =>
   simp [Result.andThen] at h ⊢
   obtain ⟨rfl, rfl⟩ := h
   cases b <;> cases b' <;> simp
  | halt v w' => simp [Result.andThen] at h) k
end
theorem eqFb {P : Program} {d : Nat} {T : TypeId} (hu : P.underlying T = some .bool) (a b : Bool) (w : World) : (Op.equalIn (d + 1) T (.bool a) (.bool b)).run P w = .ok (decide (a = b)) w := by
 rw [run_equalIn_bool w d T a b hu]
 cases a <;> cases b <;> rfl
end
end Go.Eng
namespace Go.Proofs.YtmpoffijcfaalaaGreat
open Go.Eng Go.YtmpoffijcfaalaaGreat
theorem eq_Mark : EqTy Pg 122 cMark := by
 refine ⟨by kernel_rfl, fun a b w => ?_⟩
 rw [run_equalIn_struct w 9999 122 _ _ (by simp only [Program.fieldsOf, Tryz.underlying122]) (by kernel_rfl)]
 simp only [Program.fieldsOf, Tryz.underlying122]
 refine Eq.trans (eqG G Tryz.underlying3 G G G (eqFi Tryz.underlying3 _ _) (fun w => eqG G Tryz.underlying3 G G G (eqFi Tryz.underlying3 _ _) (fun w => eqG G Tryz.underlying4 G G G (eqFb Tryz.underlying4 _ _) (fun w => eqGr (m := 4) (zs1 := #[.int .i64 a.fAnswer.fErr, .int .i64 a.fAnswer.fValue, .int .i64 a.fAnswer.fLeast, .int .i64 a.fAnswer.fMost]) (zs2 := #[.int .i64 b.fAnswer.fErr, .int .i64 b.fAnswer.fValue, .int .i64 b.fAnswer.fLeast, .int .i64 b.fAnswer.fMost]) (r := (decide (a.fAnswer.fErr = b.fAnswer.fErr) && (decide (a.fAnswer.fValue = b.fAnswer.fValue) && (decide (a.fAnswer.fLeast = b.fAnswer.fLeast) && (decide (a.fAnswer.fMost = b.fAnswer.fMost) && true))))) G Tryz.underlying120 G (by kernel_rfl) (by simp) (by simp) (fun w => ?_) (fun w => eqF0 w))))) ?_
 ·
  rw [run_equalIn_struct w 9998 120 _ _ (by simp only [Program.fieldsOf, Tryz.underlying120]) (by kernel_rfl)]
  simp only [Program.fieldsOf, Tryz.underlying120]
  exact eqG G Tryz.underlying38 G G G (eqFi Tryz.underlying38 _ _) (fun w => eqG G Tryz.underlying3 G G G (eqFi Tryz.underlying3 _ _) (fun w => eqG G Tryz.underlying3 G G G (eqFi Tryz.underlying3 _ _) (fun w => eqG G Tryz.underlying3 G G G (eqFi Tryz.underlying3 _ _) (fun w => eqF0 w))))
 congr 1
 obtain ⟨a0, a1, a2, ⟨a3_0, a3_1, a3_2, a3_3⟩⟩ := a
 obtain ⟨b0, b1, b2, ⟨b3_0, b3_1, b3_2, b3_3⟩⟩ := b
 simp [TMark.mk.injEq, TAnswer.mk.injEq, Bool.and_assoc]
theorem eq_Wait : EqTy Pg 108 cWait := by
 refine ⟨by kernel_rfl, fun a b w => ?_⟩
 rw [run_equalIn_struct w 9999 108 _ _ (by simp only [Program.fieldsOf, Tryz.underlying108]) (by kernel_rfl)]
 simp only [Program.fieldsOf, Tryz.underlying108]
 refine Eq.trans (eqG G Tryz.underlying3 G G G (eqFi Tryz.underlying3 _ _) (fun w => eqG G Tryz.underlying3 G G G (eqFi Tryz.underlying3 _ _) (fun w => eqG G Tryz.underlying3 G G G (eqFi Tryz.underlying3 _ _) (fun w => eqG G Tryz.underlying3 G G G (eqFi Tryz.underlying3 _ _) (fun w => eqG G Tryz.underlying3 G G G (eqFi Tryz.underlying3 _ _) (fun w => eqGr (m := 6) (zs1 := #[.int .i64 a.fOp.fKind, .string a.fOp.fKey, .string a.fOp.fOther, .int .i64 a.fOp.fN, .int .i64 a.fOp.fLo, .int .i64 a.fOp.fHi]) (zs2 := #[.int .i64 b.fOp.fKind, .string b.fOp.fKey, .string b.fOp.fOther, .int .i64 b.fOp.fN, .int .i64 b.fOp.fLo, .int .i64 b.fOp.fHi]) (r := (decide (a.fOp.fKind = b.fOp.fKind) && (decide (a.fOp.fKey = b.fOp.fKey) && (decide (a.fOp.fOther = b.fOp.fOther) && (decide (a.fOp.fN = b.fOp.fN) && (decide (a.fOp.fLo = b.fOp.fLo) && (decide (a.fOp.fHi = b.fOp.fHi) && true))))))) G Tryz.underlying34 G (by kernel_rfl) (by simp) (by simp) (fun w => ?_) (fun w => eqF0 w))))))) ?_
 ·
  rw [run_equalIn_struct w 9998 34 _ _ (by simp only [Program.fieldsOf, Tryz.underlying34]) (by kernel_rfl)]
  simp only [Program.fieldsOf, Tryz.underlying34]
  exact eqG G Tryz.underlying3 G G G (eqFi Tryz.underlying3 _ _) (fun w => eqG G Tryz.underlying9 G G G (eqFs Tryz.underlying9 _ _) (fun w => eqG G Tryz.underlying9 G G G (eqFs Tryz.underlying9 _ _) (fun w => eqG G Tryz.underlying3 G G G (eqFi Tryz.underlying3 _ _) (fun w => eqG G Tryz.underlying3 G G G (eqFi Tryz.underlying3 _ _) (fun w => eqG G Tryz.underlying3 G G G (eqFi Tryz.underlying3 _ _) (fun w => eqF0 w))))))
 congr 1
 obtain ⟨a0, a1, a2, a3, a4, ⟨a5_0, a5_1, a5_2, a5_3, a5_4, a5_5⟩⟩ := a
 obtain ⟨b0, b1, b2, b3, b4, ⟨b5_0, b5_1, b5_2, b5_3, b5_4, b5_5⟩⟩ := b
 simp [TWait.mk.injEq, TOp.mk.injEq, Bool.and_assoc]
theorem eq_Deal : EqTy Pg 126 cDeal := by
 refine ⟨by kernel_rfl, fun a b w => ?_⟩
 rw [run_equalIn_struct w 9999 126 _ _ (by simp only [Program.fieldsOf, Tryz.underlying126]) (by kernel_rfl)]
 simp only [Program.fieldsOf, Tryz.underlying126]
 refine Eq.trans (eqG G Tryz.underlying3 G G G (eqFi Tryz.underlying3 _ _) (fun w => eqG G Tryz.underlying3 G G G (eqFi Tryz.underlying3 _ _) (fun w => eqG G Tryz.underlying9 G G G (eqFs Tryz.underlying9 _ _) (fun w => eqG G Tryz.underlying9 G G G (eqFs Tryz.underlying9 _ _) (fun w => eqG G Tryz.underlying3 G G G (eqFi Tryz.underlying3 _ _) (fun w => eqG G Tryz.underlying3 G G G (eqFi Tryz.underlying3 _ _) (fun w => eqG G Tryz.underlying3 G G G (eqFi Tryz.underlying3 _ _) (fun w => eqG G Tryz.underlying3 G G G (eqFi Tryz.underlying3 _ _) (fun w => eqF0 w))))))))) ?_
 congr 1
 obtain ⟨a0, a1, a2, a3, a4, a5, a6, a7⟩ := a
 obtain ⟨b0, b1, b2, b3, b4, b5, b6, b7⟩ := b
 simp [TDeal.mk.injEq, Bool.and_assoc]
theorem eq_End : EqTy Pg 129 cEnd := by
 refine ⟨by kernel_rfl, fun a b w => ?_⟩
 rw [run_equalIn_struct w 9999 129 _ _ (by simp only [Program.fieldsOf, Tryz.underlying129]) (by kernel_rfl)]
 simp only [Program.fieldsOf, Tryz.underlying129]
 refine Eq.trans (eqG G Tryz.underlying3 G G G (eqFi Tryz.underlying3 _ _) (fun w => eqG G Tryz.underlying3 G G G (eqFi Tryz.underlying3 _ _) (fun w => eqF0 w))) ?_
 congr 1
 obtain ⟨a0, a1⟩ := a
 obtain ⟨b0, b1⟩ := b
 simp [TEnd.mk.injEq, Bool.and_assoc]
theorem eq_Place : EqTy Pg 90 cPlace := by
 refine ⟨by kernel_rfl, fun a b w => ?_⟩
 rw [run_equalIn_struct w 9999 90 _ _ (by simp only [Program.fieldsOf, Tryz.underlying90]) (by kernel_rfl)]
 simp only [Program.fieldsOf, Tryz.underlying90]
 refine Eq.trans (eqG G Tryz.underlying3 G G G (eqFi Tryz.underlying3 _ _) (fun w => eqG G Tryz.underlying9 G G G (eqFs Tryz.underlying9 _ _) (fun w => eqG G Tryz.underlying3 G G G (eqFi Tryz.underlying3 _ _) (fun w => eqF0 w)))) ?_
 congr 1
 obtain ⟨a0, a1, a2⟩ := a
 obtain ⟨b0, b1, b2⟩ := b
 simp [TPlace.mk.injEq, Bool.and_assoc]
theorem plainMark_c (v_x : Value) (x : List TMark) (v_y : Value) (y : List TMark) : FnV Pg 65 [v_x, v_y] [⟨v_x, x⟩, ⟨v_y, y⟩] (.bool (decide (x = y))) := by
 refine Fnc.proof Tryz.func65 G 26 G G fun X w => gtC (q := x.length ≤ 9223372036854775807) (fun S w h => list_len (h _ (List.mem_of_getElem? (i := 0) G))) fun hlx => gtC (q := y.length ≤ 9223372036854775807) (fun S w h => list_len (h _ (List.mem_of_getElem? (i := 1) G))) fun hly => sa 1 G<|sq<|qg<|mv G G<|lnP 0 G G Tryz.underlying25 G fun l7 => mv G G<|lnP 1 G G Tryz.underlying25 G fun l9 => ru 1 G<|nl<|nx<|cdN G (fun h10 => ?_) (fun h10 => ?_)
 · exact sa 1 G<|rt<|tR<|fR1 () G G (by rw [plain_len (by omega)]) G Sn
 ·
  have hl : x.length = y.length := by omega
  refine sk<|nx<|sq<|sa 1 G<|bk<|lpC (σ := Nat) [(0, _), (1, _)] _ (fun i C => (5, .int .i64 (i : Int)) :: C) (fun i => i ≤ x.length ∧ (∀ j, j < i → x.getD j default = y.getD j default)) (fun i => x.length - i) 0 (Gs G) (Sc 0 G (Sc 1 G Sn)) ⟨Nat.zero_le _, fun j hj => absurd hj (Nat.not_lt_zero j)⟩ (Gs G) ?_
  rintro i ⟨hi, hall⟩
  refine sq<|qg<|ru 2 G<|lnP 0 G G Tryz.underlying25 G fun l13 => ru 1 G<|nl<|nx<|cdP G (fun h14 => ?_) (fun h14 => ?_)
  ·
   refine sk<|nx<|sq<|bk<|sq<|rgQ mixed (by kernel_rfl)<|ru 2 G<|ixQ 0 G G G slt_25 G fun v19 => ldS 0 G G (Rg G) G fun q20 w20 => ru 2 G<|ixQ 3 G G G slt_25 G fun v23 => ldS 0 G G (Rg G) G fun q24 w24 => neT eq_Mark ((x.getD i default)) ((y.getD i default)) G G G<|nlQ<|nx<|cdN G (fun h25 => ?_) (fun h25 => ?_)
   · exact sa 1 G<|rt<|bR<|tR<|tR<|bR<|tR<|fR1 () G G (by rw [plain_at i (by simpa using h25)]) G Sn
   ·
    refine sk<|bN<|nx<|rg<|mv G G<|adI G G inI G<|ru 1 G<|nl ?_
    exact ag (i + 1) ⟨(by omega), (all_snoc hall (by simpa using h25))⟩ (by omega) (Gs G) G (Si [4,5] G)
  · exact ex<|tE<|tE<|bE<|nx<|sa 1 G<|rt<|fR1 () G G (by rw [plain_all hl (fun j hj => hall j (by omega))]) G Sn
theorem plainWait_c (v_x : Value) (x : List TWait) (v_y : Value) (y : List TWait) : FnV Pg 66 [v_x, v_y] [⟨v_x, x⟩, ⟨v_y, y⟩] (.bool (decide (x = y))) := by
 refine Fnc.proof Tryz.func66 G 26 G G fun X w => gtC (q := x.length ≤ 9223372036854775807) (fun S w h => list_len (h _ (List.mem_of_getElem? (i := 0) G))) fun hlx => gtC (q := y.length ≤ 9223372036854775807) (fun S w h => list_len (h _ (List.mem_of_getElem? (i := 1) G))) fun hly => sa 1 G<|sq<|qg<|mv G G<|lnP 0 G G Tryz.underlying51 G fun l7 => mv G G<|lnP 1 G G Tryz.underlying51 G fun l9 => ru 1 G<|nl<|nx<|cdN G (fun h10 => ?_) (fun h10 => ?_)
 · exact sa 1 G<|rt<|tR<|fR1 () G G (by rw [plain_len (by omega)]) G Sn
 ·
  have hl : x.length = y.length := by omega
  refine sk<|nx<|sq<|sa 1 G<|bk<|lpC (σ := Nat) [(0, _), (1, _)] _ (fun i C => (5, .int .i64 (i : Int)) :: C) (fun i => i ≤ x.length ∧ (∀ j, j < i → x.getD j default = y.getD j default)) (fun i => x.length - i) 0 (Gs G) (Sc 0 G (Sc 1 G Sn)) ⟨Nat.zero_le _, fun j hj => absurd hj (Nat.not_lt_zero j)⟩ (Gs G) ?_
  rintro i ⟨hi, hall⟩
  refine sq<|qg<|ru 2 G<|lnP 0 G G Tryz.underlying51 G fun l13 => ru 1 G<|nl<|nx<|cdP G (fun h14 => ?_) (fun h14 => ?_)
  ·
   refine sk<|nx<|sq<|bk<|sq<|rgQ mixed (by kernel_rfl)<|ru 2 G<|ixQ 0 G G G slt_51 G fun v19 => ldS 0 G G (Rg G) G fun q20 w20 => ru 2 G<|ixQ 3 G G G slt_51 G fun v23 => ldS 0 G G (Rg G) G fun q24 w24 => neT eq_Wait ((x.getD i default)) ((y.getD i default)) G G G<|nlQ<|nx<|cdN G (fun h25 => ?_) (fun h25 => ?_)
   · exact sa 1 G<|rt<|bR<|tR<|tR<|bR<|tR<|fR1 () G G (by rw [plain_at i (by simpa using h25)]) G Sn
   ·
    refine sk<|bN<|nx<|rg<|mv G G<|adI G G inI G<|ru 1 G<|nl ?_
    exact ag (i + 1) ⟨(by omega), (all_snoc hall (by simpa using h25))⟩ (by omega) (Gs G) G (Si [4,5] G)
  · exact ex<|tE<|tE<|bE<|nx<|sa 1 G<|rt<|fR1 () G G (by rw [plain_all hl (fun j hj => hall j (by omega))]) G Sn
theorem plainDeal_c (v_x : Value) (x : List TDeal) (v_y : Value) (y : List TDeal) : FnV Pg 67 [v_x, v_y] [⟨v_x, x⟩, ⟨v_y, y⟩] (.bool (decide (x = y))) := by
 refine Fnc.proof Tryz.func67 G 26 G G fun X w => gtC (q := x.length ≤ 9223372036854775807) (fun S w h => list_len (h _ (List.mem_of_getElem? (i := 0) G))) fun hlx => gtC (q := y.length ≤ 9223372036854775807) (fun S w h => list_len (h _ (List.mem_of_getElem? (i := 1) G))) fun hly => sa 1 G<|sq<|qg<|mv G G<|lnP 0 G G Tryz.underlying52 G fun l7 => mv G G<|lnP 1 G G Tryz.underlying52 G fun l9 => ru 1 G<|nl<|nx<|cdN G (fun h10 => ?_) (fun h10 => ?_)
 · exact sa 1 G<|rt<|tR<|fR1 () G G (by rw [plain_len (by omega)]) G Sn
 ·
  have hl : x.length = y.length := by omega
  refine sk<|nx<|sq<|sa 1 G<|bk<|lpC (σ := Nat) [(0, _), (1, _)] _ (fun i C => (5, .int .i64 (i : Int)) :: C) (fun i => i ≤ x.length ∧ (∀ j, j < i → x.getD j default = y.getD j default)) (fun i => x.length - i) 0 (Gs G) (Sc 0 G (Sc 1 G Sn)) ⟨Nat.zero_le _, fun j hj => absurd hj (Nat.not_lt_zero j)⟩ (Gs G) ?_
  rintro i ⟨hi, hall⟩
  refine sq<|qg<|ru 2 G<|lnP 0 G G Tryz.underlying52 G fun l13 => ru 1 G<|nl<|nx<|cdP G (fun h14 => ?_) (fun h14 => ?_)
  ·
   refine sk<|nx<|sq<|bk<|sq<|rgQ mixed (by kernel_rfl)<|ru 2 G<|ixQ 0 G G G slt_52 G fun v19 => ldS 0 G G (Rg G) G fun q20 w20 => ru 2 G<|ixQ 3 G G G slt_52 G fun v23 => ldS 0 G G (Rg G) G fun q24 w24 => neT eq_Deal ((x.getD i default)) ((y.getD i default)) G G G<|nlQ<|nx<|cdN G (fun h25 => ?_) (fun h25 => ?_)
   · exact sa 1 G<|rt<|bR<|tR<|tR<|bR<|tR<|fR1 () G G (by rw [plain_at i (by simpa using h25)]) G Sn
   ·
    refine sk<|bN<|nx<|rg<|mv G G<|adI G G inI G<|ru 1 G<|nl ?_
    exact ag (i + 1) ⟨(by omega), (all_snoc hall (by simpa using h25))⟩ (by omega) (Gs G) G (Si [4,5] G)
  · exact ex<|tE<|tE<|bE<|nx<|sa 1 G<|rt<|fR1 () G G (by rw [plain_all hl (fun j hj => hall j (by omega))]) G Sn
theorem plainEnd_c (v_x : Value) (x : List TEnd) (v_y : Value) (y : List TEnd) : FnV Pg 68 [v_x, v_y] [⟨v_x, x⟩, ⟨v_y, y⟩] (.bool (decide (x = y))) := by
 refine Fnc.proof Tryz.func68 G 26 G G fun X w => gtC (q := x.length ≤ 9223372036854775807) (fun S w h => list_len (h _ (List.mem_of_getElem? (i := 0) G))) fun hlx => gtC (q := y.length ≤ 9223372036854775807) (fun S w h => list_len (h _ (List.mem_of_getElem? (i := 1) G))) fun hly => sa 1 G<|sq<|qg<|mv G G<|lnP 0 G G Tryz.underlying53 G fun l7 => mv G G<|lnP 1 G G Tryz.underlying53 G fun l9 => ru 1 G<|nl<|nx<|cdN G (fun h10 => ?_) (fun h10 => ?_)
 · exact sa 1 G<|rt<|tR<|fR1 () G G (by rw [plain_len (by omega)]) G Sn
 ·
  have hl : x.length = y.length := by omega
  refine sk<|nx<|sq<|sa 1 G<|bk<|lpC (σ := Nat) [(0, _), (1, _)] _ (fun i C => (5, .int .i64 (i : Int)) :: C) (fun i => i ≤ x.length ∧ (∀ j, j < i → x.getD j default = y.getD j default)) (fun i => x.length - i) 0 (Gs G) (Sc 0 G (Sc 1 G Sn)) ⟨Nat.zero_le _, fun j hj => absurd hj (Nat.not_lt_zero j)⟩ (Gs G) ?_
  rintro i ⟨hi, hall⟩
  refine sq<|qg<|ru 2 G<|lnP 0 G G Tryz.underlying53 G fun l13 => ru 1 G<|nl<|nx<|cdP G (fun h14 => ?_) (fun h14 => ?_)
  ·
   refine sk<|nx<|sq<|bk<|sq<|rgQ mixed (by kernel_rfl)<|ru 2 G<|ixQ 0 G G G slt_53 G fun v19 => ldS 0 G G (Rg G) G fun q20 w20 => ru 2 G<|ixQ 3 G G G slt_53 G fun v23 => ldS 0 G G (Rg G) G fun q24 w24 => neT eq_End ((x.getD i default)) ((y.getD i default)) G G G<|nlQ<|nx<|cdN G (fun h25 => ?_) (fun h25 => ?_)
   · exact sa 1 G<|rt<|bR<|tR<|tR<|bR<|tR<|fR1 () G G (by rw [plain_at i (by simpa using h25)]) G Sn
   ·
    refine sk<|bN<|nx<|rg<|mv G G<|adI G G inI G<|ru 1 G<|nl ?_
    exact ag (i + 1) ⟨(by omega), (all_snoc hall (by simpa using h25))⟩ (by omega) (Gs G) G (Si [4,5] G)
  · exact ex<|tE<|tE<|bE<|nx<|sa 1 G<|rt<|fR1 () G G (by rw [plain_all hl (fun j hj => hall j (by omega))]) G Sn
theorem plainPlace_c (v_x : Value) (x : List TPlace) (v_y : Value) (y : List TPlace) : FnV Pg 69 [v_x, v_y] [⟨v_x, x⟩, ⟨v_y, y⟩] (.bool (decide (x = y))) := by
 refine Fnc.proof Tryz.func69 G 26 G G fun X w => gtC (q := x.length ≤ 9223372036854775807) (fun S w h => list_len (h _ (List.mem_of_getElem? (i := 0) G))) fun hlx => gtC (q := y.length ≤ 9223372036854775807) (fun S w h => list_len (h _ (List.mem_of_getElem? (i := 1) G))) fun hly => sa 1 G<|sq<|qg<|mv G G<|lnP 0 G G Tryz.underlying22 G fun l7 => mv G G<|lnP 1 G G Tryz.underlying22 G fun l9 => ru 1 G<|nl<|nx<|cdN G (fun h10 => ?_) (fun h10 => ?_)
 · exact sa 1 G<|rt<|tR<|fR1 () G G (by rw [plain_len (by omega)]) G Sn
 ·
  have hl : x.length = y.length := by omega
  refine sk<|nx<|sq<|sa 1 G<|bk<|lpC (σ := Nat) [(0, _), (1, _)] _ (fun i C => (5, .int .i64 (i : Int)) :: C) (fun i => i ≤ x.length ∧ (∀ j, j < i → x.getD j default = y.getD j default)) (fun i => x.length - i) 0 (Gs G) (Sc 0 G (Sc 1 G Sn)) ⟨Nat.zero_le _, fun j hj => absurd hj (Nat.not_lt_zero j)⟩ (Gs G) ?_
  rintro i ⟨hi, hall⟩
  refine sq<|qg<|ru 2 G<|lnP 0 G G Tryz.underlying22 G fun l13 => ru 1 G<|nl<|nx<|cdP G (fun h14 => ?_) (fun h14 => ?_)
  ·
   refine sk<|nx<|sq<|bk<|sq<|rgQ mixed (by kernel_rfl)<|ru 2 G<|ixQ 0 G G G slt_22 G fun v19 => ldS 0 G G (Rg G) G fun q20 w20 => ru 2 G<|ixQ 3 G G G slt_22 G fun v23 => ldS 0 G G (Rg G) G fun q24 w24 => neT eq_Place ((x.getD i default)) ((y.getD i default)) G G G<|nlQ<|nx<|cdN G (fun h25 => ?_) (fun h25 => ?_)
   · exact sa 1 G<|rt<|bR<|tR<|tR<|bR<|tR<|fR1 () G G (by rw [plain_at i (by simpa using h25)]) G Sn
   ·
    refine sk<|bN<|nx<|rg<|mv G G<|adI G G inI G<|ru 1 G<|nl ?_
    exact ag (i + 1) ⟨(by omega), (all_snoc hall (by simpa using h25))⟩ (by omega) (Gs G) G (Si [4,5] G)
  · exact ex<|tE<|tE<|bE<|nx<|sa 1 G<|rt<|fR1 () G G (by rw [plain_all hl (fun j hj => hall j (by omega))]) G Sn
theorem sameAccs_c (v_x : Value) (x : List TAccount) (v_y : Value) (y : List TAccount) : FnV Pg 141 [v_x, v_y, .func (.func 142) #[] #[]] [⟨v_x, x⟩, ⟨v_y, y⟩] (.bool (allSame sameAcc x y)) := by
 refine Fnc.proof Tryz.func141 G 30 G G fun X w => gtC (q := x.length ≤ 9223372036854775807) (fun S w h => list_len (h _ (List.mem_of_getElem? (i := 0) G))) fun hlx => gtC (q := y.length ≤ 9223372036854775807) (fun S w h => list_len (h _ (List.mem_of_getElem? (i := 1) G))) fun hly => sa 1 G<|sq<|qg<|mv G G<|lnP 0 G G Tryz.underlying50 G fun l9 => mv G G<|lnP 1 G G Tryz.underlying50 G fun l11 => ru 1 G<|nl<|nx<|cdN G (fun h12 => ?_) (fun h12 => ?_)
 · exact sa 1 G<|rt<|tR<|fR1 () G G (by rw [all_len (by omega)]) G Sn
 ·
  have hl : x.length = y.length := by omega
  refine sk<|nx<|sq<|sa 1 G<|bk<|lpC (σ := Nat) [(0, _), (1, _), (2, _)] _ (fun i C => (7, .int .i64 (i : Int)) :: C) (fun i => i ≤ x.length ∧ (∀ j, j < i → sameAcc (x.getD j default) (y.getD j default) = true)) (fun i => x.length - i) 0 (Gs G) (Sc 0 G (Sc 1 G Sn)) ⟨Nat.zero_le _, fun j hj => absurd hj (Nat.not_lt_zero j)⟩ (Gs G) ?_
  rintro i ⟨hi, hall⟩
  refine sq<|qg<|ru 2 G<|lnP 0 G G Tryz.underlying50 G fun l15 => ru 1 G<|nl<|nx<|cdP G (fun h16 => ?_) (fun h16 => ?_)
  ·
   refine sk<|nx<|sq<|bk<|sq<|rgT 9 mixed (by kernel_rfl)<|ru 3 G<|ixQ 0 G G G slt_50 G fun v22 => ldS 0 G G (Rg G) G fun q23 w23 => ru 2 G<|ixQ 4 G G G slt_50 G fun v26 => ldS 0 G G (Rg G) G fun q27 w27 => nlT<|cfc (sameAcc_c _ _ _ _ w23 w27) (Kg G) G G G (Si [4,1] G) G fun y28 v28 h28 => ?_
   subst h28
   refine nt G G<|nl<|nx<|cdB G (fun h29 => ?_) (fun h29 => ?_)
   · exact sa 1 G<|rt<|bR<|tR<|tR<|bR<|tR<|fR1 () G G (by rw [all_no i (by omega) (not_true h29)]) G Sn
   ·
    refine sk<|bN<|nx<|rg<|mv G G<|adI G G inI G<|ru 1 G<|nl ?_
    exact ag (i + 1) ⟨(by omega), (all_snoc hall (not_false' h29))⟩ (by omega) (Gs G) G (Si [6,7] G)
  · exact ex<|tE<|tE<|bE<|nx<|sa 1 G<|rt<|fR1 () G G (by rw [all_yes hl (fun j hj => hall j (by omega))]) G Sn
theorem accounts_c (v_x : Value) (x : List TAccount) (v_y : Value) (y : List TAccount) : FnV Pg 64 [v_x, v_y] [⟨v_x, x⟩, ⟨v_y, y⟩] (.bool (allSame sameAcc x y)) := by
 exact Fnc.proof Tryz.func64 G 8 G G fun X w => sa 1 G<|qg<|ru 2 G<|cfv (sameAccs_c _ _ _ _) (Kg G) G (Si [0,1] G) G<|ru 1 G<|nl<|nx<|rt<|fR1 () G G (by rfl) G Sn
theorem sameState_c (x : TState) (x_0 x_1 x_2 x_3 x_4 x_5 : Value) (y : TState) (y_0 y_1 y_2 y_3 y_4 y_5 : Value) (h_x : x.wf) (h_y : y.wf) : FnV Pg 20 [.agg (cState x x_0 x_1 x_2 x_3 x_4 x_5).toArray, .agg (cState y y_0 y_1 y_2 y_3 y_4 y_5).toArray] [⟨x_0, x.fAccounts⟩, ⟨x_1, x.fMarks⟩, ⟨x_2, x.fWaits⟩, ⟨x_3, x.fDeals⟩, ⟨x_4, x.fEnds⟩, ⟨x_5, x.fImage⟩, ⟨y_0, y.fAccounts⟩, ⟨y_1, y.fMarks⟩, ⟨y_2, y.fWaits⟩, ⟨y_3, y.fDeals⟩, ⟨y_4, y.fEnds⟩, ⟨y_5, y.fImage⟩] (.bool (sameState x y)) := by
 refine Fnc.proof Tryz.func20 G 123 G G fun X w => qg<|bx G G G fun b2 => bx G G G fun b3 => ru 1 G<|nl<|nx<|sq<|qg<|rl 3 [1] G G<|rl 3 [0] G G<|jb 10 6 [1,0] [2,3] G G G<|mv G G<|jz 17 6 [2,3] G G (fun h17 K23 => rl 4 [1,0] G G<|gY G G G<|neBo Tryz.underlying4 G G G<|ru 1 G<|K23 G Sr)<|mv G G<|jb 24 6 [1,0] [2,3] G G G<|mv G G<|jb 31 6 [1,0] [2,3] G G G<|mv G G<|jb 38 6 [1,0] [2,3] G G G<|mv G G<|jz 45 7 [2,3] G G (fun h45 K52 => rl 4 [1,0] G G<|gY G G G<|cfv (accounts_c _ _ _ _) (Kg G) G (Si [0,6] G) G<|ru 2 G<|K52 G Sr)<|mv G G ?_
 refine jz 53 7 [2,3] G G (fun h53 K60 => rl 4 [1,0] G G<|gY G G G<|cfv (plainMark_c _ _ _ _) (Kg G) G (Si [1,7] G) G<|ru 2 G<|K60 G Sr)<|mv G G<|jz 61 7 [2,3] G G (fun h61 K68 => rl 4 [1,0] G G<|gY G G G<|cfv (plainWait_c _ _ _ _) (Kg G) G (Si [2,8] G) G<|ru 2 G<|K68 G Sr)<|nl<|nx<|cdB G (fun h68 => ?_) (fun h68 => ?_)
 ·
  have e68 : (sameState1 x y) = true := h68
  exact sa 1 G<|rt<|tR<|dpQ<|dpQ<|fR1 () G G (by rw [sameState, e68]; try rfl) G Sn
 ·
  have e68 : (sameState1 x y) = false := h68
  refine sk<|nx<|qg<|rl 4 [1,0] G G<|cfv (plainDeal_c _ _ _ _) (Kg G) G (Si [3,9] G) G<|mv G G<|jy 74 6 [2,3] G G (fun h74 K80 => rl 4 [1,0] G G<|gY G G G<|cfv (plainEnd_c _ _ _ _) (Kg G) G (Si [4,10] G) G<|ru 1 G<|K80 G Sr)<|mv G G<|jy 81 6 [2,3] G G (fun h81 K87 => ru 1 G<|gY G G G<|ldM 1 (cPlan x.fSeal) G G (Rg G) G G<|ru 1 G<|gY G G G<|ldM 0 (cPlan y.fSeal) G G (Rg G) G G<|gY G G G<|eqT eq_Plan (x.fSeal) (y.fSeal) G G G<|ru 1 G<|K87 G Sr)<|mv G G<|jy 88 6 [2,3] G G (fun h88 K94 => ru 1 G<|gY G G G<|ldM 1 (cPlan x.fOut) G G (Rg G) G G<|ru 1 G<|gY G G G<|ldM 0 (cPlan y.fOut) G G (Rg G) G G<|gY G G G<|eqT eq_Plan (x.fOut) (y.fOut) G G G<|ru 1 G<|K94 G Sr)<|mv G G<|jy 95 6 [2,3] G G (fun h95 K101 => rl 4 [1,0] G G<|gY G G G<|cfv (sameBytes_c _ _ _ _) (Kg G) G (Si [5,11] G) G<|ru 1 G<|K101 G Sr)<|mv G G<|ja 102 6 [1,0] [2,3] G G G<|mv G G<|ja 109 6 [1,0] [2,3] G G G<|mv G G<|ja 116 6 [1,0] [] G G G ?_
  exact ru 1 G<|nl<|nx<|rt<|dpQ<|dpQ<|fR1 () G G (by rw [sameState, e68]; try rfl) G Sn
theorem sameChart_c (x : TChart) (x_0 x_1 : Value) (y : TChart) (y_0 y_1 : Value) (h_x : x.wf) (h_y : y.wf) : FnV Pg 21 [.agg (cChart x x_0 x_1).toArray, .agg (cChart y y_0 y_1).toArray] [⟨x_0, x.fPlaces⟩, ⟨x_1, x.fMarks⟩, ⟨y_0, y.fPlaces⟩, ⟨y_1, y.fMarks⟩] (.bool (sameChart x y)) := by
 refine Fnc.proof Tryz.func21 G 45 G G fun X w => qg<|bx G G G fun b2 => bx G G G fun b3 => ru 1 G<|nl<|nx<|qg<|rl 4 [1,0] G G<|ru 2 G ?_
 refine jy 10 6 [2,3] G G (fun h10 K16 => by
  have p10 := of_decide_eq_true h10
  exact rl 4 [1,0] G G<|gY G G G<|cfv (plainPlace_c _ _ _ _) (Kg G) G (Si [0,2] G) G<|ru 1 G<|K16 G Sr) ?_
 exact mv G G<|ja 17 6 [1,0] [2,3] G G G<|mv G G<|ja 24 6 [1,0] [2,3] G G G<|mv G G<|jy 31 6 [2,3] G G (fun h31 K37 => ru 1 G<|gY G G G<|ldM 1 (cPlan x.fPlan) G G (Rg G) G G<|ru 1 G<|gY G G G<|ldM 0 (cPlan y.fPlan) G G (Rg G) G G<|gY G G G<|eqT eq_Plan (x.fPlan) (y.fPlan) G G G<|ru 1 G<|K37 G Sr)<|mv G G<|jy 38 6 [] G G (fun h38 K44 => rl 4 [1,0] G G<|gY G G G<|cfv (plainMark_c _ _ _ _) (Kg G) G (Si [1,3] G) G<|ru 1 G<|K44 G Sr)<|ru 1 G<|nl<|nx<|rt<|dpQ<|dpQ<|fR1 () G G (by rfl) G Sn
end Go.Proofs.YtmpoffijcfaalaaGreat
namespace Go.Proofs.YtmpoffijcfaalaaGreat
open Go.Eng
end Go.Proofs.YtmpoffijcfaalaaGreat
namespace Go.YtmpoffijcfaalaaGreat
open Go.Eng
theorem allI_ind {n : Nat} {p q : Nat → Bool} (h : ∀ j, j < n → (∀ k, k < j → q k = true) → p j = q j) : allI n p = allI n q := by
 rw [Bool.eq_iff_iff, allI_iff, allI_iff]
 constructor
 · intro hp j
   induction j using Nat.strongRecOn with
   | _ j ih =>
    intro hj
    rw [← h j hj fun k hk => ih k hk (by omega)]
    exact hp j hj
 · intro hq j hj
   rw [h j hj fun k hk => hq k (by omega)]
   exact hq j hj
theorem allI_and {n : Nat} {p q : Nat → Bool} : (allI n p && allI n q) = allI n (fun j => p j && q j) := by
 rw [Bool.eq_iff_iff, Bool.and_eq_true, allI_iff, allI_iff, allI_iff]
 constructor
 · rintro ⟨h1, h2⟩ j hj; rw [h1 j hj, h2 j hj]; rfl
 · intro h
   exact ⟨fun j hj => (Bool.and_eq_true .. ▸ h j hj).1, fun j hj => (Bool.and_eq_true .. ▸ h j hj).2⟩
theorem mark_eq (p : Int) (m : TMark) : markP p m = mark14 p m := by
 unfold markP mark14
 by_cases h : m.fSeq < 0
 · simp [h]
 · rw [show decide (m.fSeq = 0) = decide (m.fSeq < 1) from decide_eq_decide.2 (by omega)]
theorem marks_eq (l : List TMark) : marksP l = marks14 l := allI_congr fun j _ => by rw [mark_eq]
theorem prev_nn {f : Nat → Int} : ∀ {j : Nat}, (∀ k, k < j → prevI f k < f k) → 0 ≤ prevI f j
 | 0, _ => by simp [prevI]
 | j + 1, h => by
  have ih := prev_nn (f := f) (j := j) fun k hk => h k (by omega)
  have := h j (by omega)
  simp only [prevI]
  omega
theorem ends_eq (l : List TEnd) : endsP l = ends18 l := allI_ind fun j hj hk => by
 have hp : 0 ≤ prevI (fun k => (l.getD k default).fClient) j := prev_nn fun k hkj => by
  have := hk k hkj
  simp only [Bool.not_eq_true', Bool.or_eq_false_iff, decide_eq_false_iff_not] at this
  omega
 rw [Bool.eq_iff_iff]
 simp only [okWhose, okSeq, Bool.not_eq_true', Bool.or_eq_false_iff, decide_eq_false_iff_not, Bool.not_eq_false', Bool.and_eq_true, decide_eq_true_eq]
 omega
theorem fate_eq (m t : Int) : fateP m t = fate18 m t := by
 unfold fateP fate18
 by_cases h1 : m = 1 <;> by_cases h2 : t = 1 <;> by_cases h3 : m = 2 <;> by_cases h4 : t = 2 <;> simp_all
theorem dmay_eq (d : TDeal) : dmayP d = may18 d := by
 unfold dmayP may18
 rw [fate_eq]
 have key : (dmay1 d || dmay2 d) = may18a d := by
  rw [Bool.eq_iff_iff]
  by_cases hk : d.fKey = d.fOther
  · simp [dmay1, may18a, hk]
  · simp only [dmay1, dmay2, may18a, okKey, okWhose, okClient, okSeq, hk, decide_false, Bool.or_false, Bool.or_eq_true, Bool.not_eq_true', Bool.and_eq_false_iff, decide_eq_true_eq, decide_eq_false_iff_not]
    omega
 rw [← key]
 cases dmay1 d <;> cases dmay2 d <;> rfl
theorem deals_eq (l : List TDeal) : dealsP l = books18 l := by
 unfold dealsP books18 books18a
 by_cases h : (l.length : Int) > 4
 · rw [if_pos (decide_eq_true h), decide_eq_false (show ¬ (l.length : Int) ≤ 4 by omega), Bool.and_false]
 · rw [if_neg (by simpa using h), decide_eq_true (show (l.length : Int) ≤ 4 by omega), Bool.and_true]
   exact allI_congr fun j _ => by unfold dealsj; rw [dmay_eq]
theorem waitP0_eq (s : TState) (w : TWait) : waitP0 s w = wait19a s w := by
 unfold waitP0 wait19a
 rw [show okWhose w.fClient w.fSeq = (okClient w.fClient && okSeq w.fSeq) by simp only [okWhose, okClient, okSeq, Bool.and_assoc], Bool.not_and]
theorem wait_eq (s : TState) (w : TWait) : waitP s w = wait19 s w := by
 unfold waitP wait19
 rw [waitP0_eq, show waitPrep w = wait19p w by unfold waitPrep wait19p; rw [Bool.and_assoc (decide _ && _), Bool.and_assoc (decide _ && _), Bool.and_comm (!decide _)]]
 rfl
theorem planned_eq (p : TPlan) : plannedP p = plan19 p := by
 unfold plannedP plan19 okNum
 rw [show (decide (p.fNumber ≥ 1) && decide (p.fNumber ≤ far)) = (decide (p.fNumber ≥ 0) && decide (p.fNumber ≤ far) && decide (p.fNumber > 0)) by
  rw [Bool.eq_iff_iff]
  simp only [Bool.and_eq_true, decide_eq_true_eq]
  omega]
theorem lmay_eq (r : TRight) : lmayP r = lmay16 r := by
 unfold lmayP lmay16 okKey
 simp only [Bool.and_assoc]
theorem order_eq (x y : TRight) : decide (orderP x y ≥ 0) = !belowP x y := by
 unfold orderP belowP
 by_cases h : x.fGroup = y.fGroup
 · have h1 : ¬ x.fGroup < y.fGroup := by omega
   rw [← cmp_lt]
   simp only [h, decide_true, Bool.not_true, Bool.false_eq_true, if_false, Bool.true_and, Int.lt_irrefl, decide_false, Bool.false_or]
   rw [← decide_not]
   exact decide_eq_decide.2 (by omega)
 · by_cases h1 : x.fGroup < y.fGroup
   · simp [h, h1]
   · simp [h, h1]
theorem ledger_eq (l : List TRight) : ledgerP l = rights16 l := allI_congr fun j _ => by
 unfold ledgerj right16j
 rw [lmay_eq, order_eq]
theorem isNil_size (k : ByteArray) : isNil k = decide ((k.size : Int) < 1) := by
 unfold isNil
 refine decide_eq_decide.2 ⟨fun h => by rw [h]; decide, fun h => ?_⟩
 have h0 : k.size = 0 := by omega
 rcases k with ⟨a⟩
 have : a.size = 0 := h0
 rw [Array.size_eq_zero_iff] at this
 rw [this]
 rfl
theorem owned_eq (s : TState) : ownedP s = !q19b s := by
 unfold ownedP q19b isNil
 cases s.fOwns with
 | false =>
  rw [show decide ((s.fAccounts.length : Int) = 0) = !decide ((s.fAccounts.length : Int) > 0) by rw [← decide_not]; exact decide_eq_decide.2 (by omega),
   show decide ((s.fWaits.length : Int) = 0) = !decide ((s.fWaits.length : Int) > 0) by rw [← decide_not]; exact decide_eq_decide.2 (by omega)]
  simp [Bool.and_assoc]
 | true =>
  rw [show decide (s.fEpoch ≥ 1) = !decide (s.fEpoch < 1) by rw [← decide_not]; exact decide_eq_decide.2 (by omega)]
  simp
theorem counts_eq (a b c d e : Int) : countsP [a, b, c, d, e] = (okNum a && okNum b && okNum c && okNum d && okNum e) := by
 rw [Bool.eq_iff_iff]
 unfold countsP
 rw [allI_iff]
 simp only [okNum, Bool.and_eq_true, decide_eq_true_eq, List.length_cons, List.length_nil, Bool.not_eq_true', Bool.or_eq_false_iff, decide_eq_false_iff_not]
 constructor
 · intro h
   have h0 := h 0 (by omega)
   have h1 := h 1 (by omega)
   have h2 := h 2 (by omega)
   have h3 := h 3 (by omega)
   have h4 := h 4 (by omega)
   simp only [List.getD_cons_zero, List.getD_cons_succ] at h0 h1 h2 h3 h4
   omega
 · intro h j hj
   match j, hj with
   | 0, _ => simp only [List.getD_cons_zero]; omega
   | 1, _ => simp only [List.getD_cons_zero, List.getD_cons_succ]; omega
   | 2, _ => simp only [List.getD_cons_zero, List.getD_cons_succ]; omega
   | 3, _ => simp only [List.getD_cons_zero, List.getD_cons_succ]; omega
   | 4, _ => simp only [List.getD_cons_zero, List.getD_cons_succ]; omega
theorem in0 : InI 0 := ⟨by decide, by decide⟩
theorem errF_z {b : Bool} : errF b = 0 ↔ b = true := by cases b <;> simp [errF]
theorem rising {n B : Nat} {f : Nat → Int} (h : ∀ j, j < n → f j > prevI f j ∧ f j ≤ (B : Int)) : n ≤ B := by
 have key : ∀ j, j < n → f j ≥ (j : Int) + 1 := by
  intro j
  induction j with
  | zero =>
   intro hj
   have := (h 0 hj).1
   simp only [prevI] at this
   omega
  | succ j ih =>
   intro hj
   have h1 := (h (j + 1) hj).1
   simp only [prevI] at h1
   have := ih (by omega)
   omega
 cases n with
 | zero => omega
 | succ n =>
  have h1 := key n (by omega)
  have h2 := (h n (by omega)).2
  omega
theorem marks_len {l : List TMark} (h : marksP l = true) : l.length ≤ 8 := by
 refine rising (f := fun k => (l.getD k default).fClient) fun j hj => ?_
 have := (allI_iff.1 h) j hj
 simp only [markP, Bool.not_eq_true', Bool.or_eq_false_iff, decide_eq_false_iff_not] at this
 omega
theorem ends_len {l : List TEnd} (h : endsP l = true) : l.length ≤ 8 := by
 refine rising (f := fun k => (l.getD k default).fClient) fun j hj => ?_
 have := (allI_iff.1 h) j hj
 simp only [okWhose, Bool.not_eq_true', Bool.or_eq_false_iff, Bool.not_eq_false', Bool.and_eq_true, decide_eq_false_iff_not, decide_eq_true_eq] at this
 omega
theorem deals_len {l : List TDeal} (h : dealsP l = true) : l.length ≤ 4 := by
 unfold dealsP at h
 split at h
 · cases h
 · rename_i hn
   simp only [decide_eq_true_eq] at hn
   omega
theorem accA_hold {a : TAccount} (h : accP a = true) : a.fHolders.length ≤ 5 := by
 unfold accP at h
 split at h
 · cases h
 · rename_i hn
   simp only [acc1, Bool.or_eq_true, not_or, Bool.not_eq_true', Bool.not_eq_false] at hn
   exact hold_len hn.2
theorem accs_facts {s : TState} (h : accsP s = true) : s.fAccounts.length ≤ 12 ∧ ∀ j, j < s.fAccounts.length → (s.fAccounts.getD j default).fHolders.length ≤ 5 := by
 unfold accsP at h
 split at h
 · cases h
 · rename_i hn
   simp only [decide_eq_true_eq] at hn
   refine ⟨by omega, fun j hj => ?_⟩
   have := (allI_iff.1 h) j hj
   simp only [accsj, Bool.not_eq_true', Bool.or_eq_false_iff, Bool.not_eq_false', decide_eq_true_eq] at this
   exact accA_hold (errF_z.1 this.1.1.1)
theorem rd_len {b : List UInt8} (h : (rdState b).2 = 0) : b.length ≤ 65536 := by
 by_cases he : 65536 < b.length
 · exfalso
   unfold rdState errO at h
   rw [if_pos he] at h
   simp at h
 · omega
theorem sright_facts {s : TState} (h : srightP s = true) : accsP s = true ∧ marksP s.fMarks = true ∧ dealsP s.fDeals = true ∧ endsP s.fEnds = true ∧ s.fWaits.length ≤ 8 ∧ s.fImage.length ≤ 65536 := by
 unfold srightP at h
 split at h
 · cases h
 · rename_i h1
   split at h
   · cases h
   · rename_i h2
     simp only [sright1, Bool.or_eq_true, not_or, Bool.not_eq_true', Bool.not_eq_false] at h1
     simp only [sright2, Bool.or_eq_true, not_or, Bool.not_eq_true', Bool.not_eq_false, decide_eq_true_eq, errF_z] at h2
     split at h
     · split at h
       · cases h
       · split at h
         · have : s.fImage.length = 0 := by
            have := of_decide_eq_true h
            omega
           exact ⟨h1.2, h2.1.1.1, h2.1.1.2, h2.1.2, by omega, by omega⟩
         · simp only [sright5, Bool.and_eq_true, decide_eq_true_eq] at h
           exact ⟨h1.2, h2.1.1.1, h2.1.1.2, h2.1.2, by omega, rd_len h.2⟩
     · cases h
theorem bigS {s : TState} (h : srightP s = true) : BigS s := by
 obtain ⟨h1, h2, h3, h4, h5, h6⟩ := sright_facts h
 have ha := accs_facts h1
 exact ⟨by omega, fun j hj => Nat.le_trans (ha.2 j hj) (by decide), Nat.le_trans (marks_len h2) (by decide), by omega, Nat.le_trans (deals_len h3) (by decide), Nat.le_trans (ends_len h4) (by decide), by omega⟩
theorem getD_of_mem {α : Type} [Inhabited α] {l : List α} {x : α} (h : x ∈ l) : ∃ j, j < l.length ∧ l.getD j default = x := by
 obtain ⟨j, hj, rfl⟩ := List.getElem_of_mem h
 exact ⟨j, hj, by simp [List.getD, List.getElem?_eq_getElem hj]⟩
structure SndF (ss : List TState) : Prop where
 len : ss.length = 7
 acc : ∀ S ∈ ss, S.fAccounts.length ≤ 500
 img : ∀ S ∈ ss, waitsP ss S = true → (rdState S.fImage).1.fAccounts.length ≤ 500 ∧ ∀ a ∈ (rdState S.fImage).1.fAccounts, a.fHolders = []
 big : (allU ss ss.length).length ≤ 100000
 hold : ∀ c ∈ srtC ss, c.fAccount.fHolders.length ≤ 1000
theorem img_facts {ss : List TState} {s : TState} (h : imagedP s = true) (hw : waitsP ss s = true) : (rdState s.fImage).1.fAccounts.length ≤ 12 ∧ ∀ a ∈ (rdState s.fImage).1.fAccounts, a.fHolders = [] := by
 unfold waitsP at hw
 split at hw
 · cases hw
 · rename_i hn
   unfold imagedP at h
   rw [if_neg hn] at h
   split at h
   · cases h
   · rename_i h1
     simp only [Bool.or_eq_true, not_or, Bool.not_eq_true', decide_eq_true_eq] at h1
     refine ⟨by omega, fun a ha => ?_⟩
     obtain ⟨j, hj, rfl⟩ := getD_of_mem ha
     have := (allI_iff.1 h) j hj
     simp only [imgA, Bool.and_eq_true, Bool.not_eq_true', Bool.or_eq_false_iff, decide_eq_false_iff_not] at this
     have := this.1.1.2
     exact List.eq_nil_of_length_eq_zero (by omega)
theorem sound_facts {c : TChart} {ss : List TState} {rr : List (List TRight)} (h : soundP c ss rr = true) : SndF ss := by
 unfold soundP at h
 split at h
 · cases h
 · rename_i h1
   simp only [sndA, Bool.or_eq_true, not_or, Bool.not_eq_true', Bool.not_eq_false, decide_eq_true_eq] at h1
   split at h
   · rename_i h2
     have hall : ∀ S ∈ ss, srightP S = true ∧ imagedP S = true := fun S hS => by
      obtain ⟨j, hj, rfl⟩ := getD_of_mem hS
      have := (allI_iff.1 h2) j hj
      simp only [sndB, Bool.not_eq_true', Bool.or_eq_false_iff, Bool.not_eq_false', decide_eq_true_eq, errF_z] at this
      exact ⟨this.1.2, this.2⟩
     have hacc : ∀ S ∈ ss, S.fAccounts.length ≤ 12 ∧ ∀ a ∈ S.fAccounts, a.fHolders.length ≤ 5 := fun S hS => by
      have := accs_facts (sright_facts (hall S hS).1).1
      refine ⟨this.1, fun a ha => ?_⟩
      obtain ⟨j, hj, rfl⟩ := getD_of_mem ha
      exact this.2 j hj
     have hlist : ∀ S ∈ ss, (listP ss S).length ≤ 24 ∧ ∀ a ∈ listP ss S, a.fHolders.length ≤ 5 := fun S hS => by
      unfold listP
      split
      · rename_i hw
        obtain ⟨i1, i2⟩ := img_facts (hall S hS).2 hw
        obtain ⟨a1, a2⟩ := hacc S hS
        refine ⟨by rw [List.length_append]; omega, fun a ha => ?_⟩
        rcases List.mem_append.1 ha with ha | ha
        · exact a2 a ha
        · rw [i2 a ha]; decide
      · exact ⟨by have := (hacc S hS).1; omega, (hacc S hS).2⟩
     have hU : ∀ i, i ≤ ss.length → (allU ss i).length ≤ 24 * i ∧ ∀ c ∈ allU ss i, c.fAccount.fHolders.length ≤ 5 := by
      intro i
      induction i with
      | zero => intro _; exact ⟨Nat.le_refl _, fun c hc => by cases hc⟩
      | succ i ih =>
       intro hi
       obtain ⟨g1, g2⟩ := ih (by omega)
       have hm : ss.getD i default ∈ ss := getD_mem (by omega)
       obtain ⟨l1, l2⟩ := hlist _ hm
       refine ⟨by rw [allU, List.length_append, List.length_map]; omega, fun c hc => ?_⟩
       rw [allU] at hc
       rcases List.mem_append.1 hc with hc | hc
       · exact g2 c hc
       · obtain ⟨a, ha, rfl⟩ := List.mem_map.1 hc
         exact l2 a ha
     have hl : ss.length = 7 := by omega
     obtain ⟨u1, u2⟩ := hU ss.length (Nat.le_refl _)
     refine ⟨hl, fun S hS => Nat.le_trans (hacc S hS).1 (by decide), fun S hS hw => ?_, by omega, fun c hc => ?_⟩
     · obtain ⟨i1, i2⟩ := img_facts (hall S hS).2 hw
       exact ⟨by omega, i2⟩
     · rcases sortP_mem c hc with hc | rfl
       · exact Nat.le_trans (u2 c hc) (by decide)
       · exact Nat.zero_le _
   · cases h
def zchart : TChart := ({ fIndex := 0, fPlaces := [], fNext := 0, fLast := 0, fPlan := ({ fNumber := 0, fFrom := 0, fTo := 0, fLo := ByteArray.empty, fHi := ByteArray.empty, fClient := 0, fSeq := 0 } : TPlan), fMarks := [] } : TChart)
theorem zchart_wf : zchart.wf := ⟨in0, trivial, in0, in0, ⟨in0, in0, in0, by decide, by decide, in0, in0⟩, trivial⟩
def upC (c : TChart) (v : TScene) : TChart := if v.fChart.fIndex > c.fIndex then v.fChart else c
def chF (l : List TScene) : Nat → TChart
 | 0 => (l.getD 0 default).fChart
 | j + 1 => upC (chF l j) ((l.drop 1).getD j default)
def upS (v : TScene) (xs : List TState) : Nat → List TState
 | 0 => xs
 | i + 1 => if (v.fStates.getD i default).fIndex > ((upS v xs i).getD i default).fIndex then (upS v xs i).set i (v.fStates.getD i default) else upS v xs i
def stF (l : List TScene) : Nat → List TState
 | 0 => (l.getD 0 default).fStates
 | j + 1 => upS ((l.drop 1).getD j default) (stF l j) ((l.drop 1).getD j default).fStates.length
def rightAll (l : List TScene) : Bool := allI l.length (fun j => drightP (l.getD j default))
def furC (l : List TScene) : TChart := if l.length = 0 then zchart else if rightAll l = true then chF l (l.drop 1).length else zchart
def furS (l : List TScene) : List TState := if l.length = 0 then [] else if rightAll l = true then stF l (l.drop 1).length else []
def furE (l : List TScene) : Int := if l.length = 0 then 1 else if rightAll l = true then 0 else 21
theorem upS_len (v : TScene) (xs : List TState) : ∀ i, (upS v xs i).length = xs.length
 | 0 => rfl
 | i + 1 => by
  rw [upS]
  split
  · rw [List.length_set, upS_len v xs i]
  · exact upS_len v xs i
theorem stF_len (l : List TScene) : ∀ j, (stF l j).length = (l.getD 0 default).fStates.length
 | 0 => rfl
 | j + 1 => by rw [stF, upS_len, stF_len l j]
theorem upS_mem {v : TScene} {xs : List TState} {P : TState → Prop} (hx : ∀ s ∈ xs, P s) (hv : ∀ s ∈ v.fStates, P s) : ∀ i, i ≤ v.fStates.length → ∀ s ∈ upS v xs i, P s
 | 0, _ => hx
 | i + 1, hi => by
  rw [upS]
  split
  · intro s hs
    rcases List.mem_or_eq_of_mem_set hs with hs | rfl
    · exact upS_mem hx hv i (by omega) s hs
    · exact hv _ (getD_mem (by omega))
  · exact upS_mem hx hv i (by omega)
theorem drop_getD {l : List TScene} {j : Nat} (hj : j < (l.drop 1).length) : (l.drop 1).getD j default ∈ l := List.mem_of_mem_drop (getD_mem hj)
theorem stF_mem {l : List TScene} {P : TState → Prop} (h : ∀ v ∈ l, ∀ s ∈ v.fStates, P s) (h0 : 0 < l.length) : ∀ j, j ≤ (l.drop 1).length → ∀ s ∈ stF l j, P s
 | 0, _ => h _ (getD_mem h0)
 | j + 1, hj => by
  rw [stF]
  exact upS_mem (stF_mem h h0 j (by omega)) (h _ (drop_getD (by omega))) _ (Nat.le_refl _)
theorem chF_mem {l : List TScene} {P : TChart → Prop} (h : ∀ v ∈ l, P v.fChart) (h0 : 0 < l.length) : ∀ j, j ≤ (l.drop 1).length → P (chF l j)
 | 0, _ => h _ (getD_mem h0)
 | j + 1, hj => by
  rw [chF, upC]
  split
  · exact h _ (drop_getD (by omega))
  · exact chF_mem h h0 j (by omega)
theorem right_mem {l : List TScene} (h : rightAll l = true) : ∀ v ∈ l, drightP v = true := fun v hv => by
 obtain ⟨j, hj, rfl⟩ := getD_of_mem hv
 exact (allI_iff.1 h) j hj
theorem dright_parts {v : TScene} (h : drightP v = true) : (∀ s ∈ v.fStates, srightP s = true) ∧ planP v.fChart = true := by
 unfold drightP at h
 split at h
 · cases h
 · split at h
   · rename_i h2
     simp only [Bool.and_eq_true, decide_eq_true_eq, errF_z] at h
     refine ⟨fun s hs => ?_, h.1⟩
     obtain ⟨j, hj, rfl⟩ := getD_of_mem hs
     have := (allI_iff.1 h2) j hj
     simp only [drightj, Bool.not_eq_true', Bool.or_eq_false_iff, Bool.not_eq_false', decide_eq_true_eq, errF_z] at this
     exact this.2
   · cases h
theorem plan_parts {c : TChart} (h : planP c = true) : c.fPlaces.length ≤ 7 ∧ c.fMarks.length ≤ 8 := by
 unfold planP at h
 split at h
 · cases h
 · split at h
   · cases h
   · rename_i h2
     simp only [plan2, Bool.or_eq_true, not_or, Bool.not_eq_true', Bool.not_eq_false, decide_eq_true_eq, errF_z] at h2
     exact ⟨rplaces_len h2.1, marks_len h2.2⟩
theorem set_getD_self {α : Type} [Inhabited α] {xs : List α} {i : Nat} (h : i < xs.length) : xs.set i (xs.getD i default) = xs := by
 refine List.ext_getElem? fun q => ?_
 rw [List.getElem?_set]
 split
 · rename_i e
   subst e
   simp [List.getD, List.getElem?_eq_getElem h]
 · rfl
theorem sum_nn : ∀ {l : List Int}, (∀ x ∈ l, 0 ≤ x) → 0 ≤ l.sum
 | [], _ => by simp
 | x :: r, h => by
  have ih := sum_nn (l := r) fun y hy => h y (List.mem_cons_of_mem _ hy)
  have := h x (List.mem_cons_self ..)
  simp only [List.sum_cons]
  omega
theorem hold_mem {l : List THolder} (hh : holdersP l = true) {x : THolder} (hx : x ∈ l) : 0 ≤ x.fUp ∧ 0 ≤ x.fDown := by
 obtain ⟨i, hi, rfl⟩ := List.getElem_of_mem hx
 have := hold_at hh hi
 rw [getD_at hi] at this
 exact ⟨this.2.2.2.1, this.2.2.2.2⟩
theorem ups_ge {a : TAccount} (hh : holdersP a.fHolders = true) : a.fBase ≤ upsS a := by
 unfold upsS
 have := sum_nn (l := a.fHolders.map (·.fUp)) fun x hx => by
  obtain ⟨y, hy, rfl⟩ := List.mem_map.1 hx
  exact (hold_mem hh hy).1
 omega
theorem downs_le {a : TAccount} (hh : holdersP a.fHolders = true) : downsS a ≤ a.fBase := by
 unfold downsS
 have := sum_nn (l := a.fHolders.map (·.fDown)) fun x hx => by
  obtain ⟨y, hy, rfl⟩ := List.mem_map.1 hx
  exact (hold_mem hh hy).2
 omega
theorem sum_ok {x : Int} (h : sumOk x = true) : sumI x = x ∧ sumE x = 0 := by unfold sumI sumE; rw [if_pos h, if_pos h]; exact ⟨rfl, rfl⟩
theorem sum_no {x : Int} (h : sumOk x = false) : sumI x = 0 ∧ sumE x = 10 := by unfold sumI sumE; rw [h]; exact ⟨rfl, rfl⟩
theorem acc2_eq {a : TAccount} (hw : a.wf) (hh : holdersP a.fHolders = true) : acc2 a = r15b a := by
 have h1 := ups_ge hh
 have h2 := downs_le hh
 obtain ⟨hs1, hs2⟩ := hw.2.1
 obtain ⟨l1, l2⟩ := hs1
 obtain ⟨u1, u2⟩ := hs2
 obtain ⟨b1, b2⟩ := hw.2.2.1
 have hd : decide ((wide (downsS a - a.fSpan.fLo)).fHi < 0) = decide (downsS a < a.fSpan.fLo) := decide_eq_decide.2 (by
  show (downsS a - a.fSpan.fLo) / 18446744073709551616 < 0 ↔ _
  omega)
 have hu : aboveP (upsS a) a.fSpan.fHi = decide (upsS a > a.fSpan.fHi) := decide_eq_decide.2 (by omega)
 unfold acc2 r15b
 rw [hd, hu]
 cases e1 : sumOk (upsS a) with
 | true =>
  rw [(sum_ok e1).1, (sum_ok e1).2]
  cases e2 : sumOk (downsS a) with
  | true => rw [(sum_ok e2).1, (sum_ok e2).2]; simp
  | false =>
   rw [(sum_no e2).1, (sum_no e2).2]
   have : downsS a < a.fSpan.fLo := by
    simp only [sumOk, Bool.and_eq_false_iff, decide_eq_false_iff_not] at e2
    omega
   simp [this]
 | false =>
  rw [(sum_no e1).1, (sum_no e1).2]
  have : upsS a > a.fSpan.fHi := by
   simp only [sumOk, Bool.and_eq_false_iff, decide_eq_false_iff_not] at e1
   omega
  simp [this]
theorem fits_eq {a : TAccount} : (sumOk (a.fBase + a.fLock.fN) && fits15 a) = fitsP a a.fLock := by
 unfold fitsP fits15
 cases e : sumOk (a.fBase + a.fLock.fN) with
 | true =>
  rw [(sum_ok e).1, (sum_ok e).2]
  have : IntKind.i64.wrap ((a.fBase + a.fLock.fN) % 18446744073709551616) = a.fBase + a.fLock.fN := by
   rw [wrapi]
   simp only [sumOk, Bool.and_eq_true, decide_eq_true_eq] at e
   omega
  rw [this]
  simp
 | false => rw [(sum_no e).1, (sum_no e).2]; simp
theorem acc1_eq (a : TAccount) : acc1 a = (r15a a || !holdersP a.fHolders) := by
 unfold acc1 r15a okKey
 rw [show (decide ((a.fKey.size : Int) < 1) || decide ((a.fKey.size : Int) > 16)) = !(decide ((a.fKey.size : Int) ≥ 1) && decide ((a.fKey.size : Int) ≤ 16)) by
  rw [Bool.eq_iff_iff]
  simp only [Bool.or_eq_true, Bool.not_eq_true', Bool.and_eq_false_iff, decide_eq_true_eq, decide_eq_false_iff_not]
  omega]
theorem acc_eq {a : TAccount} (hw : a.wf) : accP a = right15 a := by
 unfold accP right15
 rw [acc1_eq]
 cases r15a a with
 | true => rfl
 | false =>
  cases hh : holdersP a.fHolders with
  | false => rfl
  | true =>
   simp only [Bool.not_true, Bool.or_false, Bool.false_eq_true, if_false, if_true]
   rw [acc2_eq hw hh, Bool.and_assoc _ (sumOk _), fits_eq]
theorem acc_key {a : TAccount} (h : accP a = true) : okKey a.fKey = true ∧ (a.fLock.fClient = 0 → a.fLock = ⟨0, 0, 0, 0⟩) := by
 unfold accP at h
 split at h
 · cases h
 · rename_i h1
   rw [acc1_eq] at h1
   simp only [Bool.or_eq_true, not_or, r15a, Bool.not_eq_true', Bool.not_eq_false] at h1
   refine ⟨h1.1.1.1, fun hc => ?_⟩
   split at h
   · cases h
   · rw [if_pos (decide_eq_true hc)] at h
     exact of_decide_eq_true h
theorem plain_eq {a : TAccount} (h : accP a = true) : aplainP a = plain15 a := by
 obtain ⟨hk, hl⟩ := acc_key h
 unfold aplainP plain15 sameAcc new15 newE lockedP
 rw [h, hk]
 simp only [if_true, decide_true, Bool.true_and, Bool.not_not]
 rw [show decide (a.fHolders = []) = decide ((a.fHolders.length : Int) = 0) from decide_eq_decide.2 (by
  rw [← List.length_eq_zero_iff]
  omega)]
 rw [show decide (a.fLock = ⟨0, 0, 0, 0⟩) = decide (a.fLock.fClient = 0) from decide_eq_decide.2 ⟨fun e => by rw [e], hl⟩]
 cases decide (a.fSpan = ⟨0, 0⟩) <;> cases decide (a.fBase = 0) <;> cases decide ((a.fHolders.length : Int) = 0) <;> cases decide (a.fRound = 0) <;> cases decide (a.fLock.fClient = 0) <;> rfl
theorem accs_eq {s : TState} (hw : ∀ a ∈ s.fAccounts, a.wf) : accsP s = (rising19 s.fAccounts && accs19 s) := by
 unfold accsP rising19 accs19
 by_cases h : (s.fAccounts.length : Int) > 12
 · rw [if_pos (decide_eq_true h), decide_eq_false (show ¬ (s.fAccounts.length : Int) ≤ 12 by omega)]
   split <;> rfl
 · rw [if_neg (by simpa using h), decide_eq_true (show (s.fAccounts.length : Int) ≤ 12 by omega)]
   have e : ∀ b : Bool, (if b = true then true else false) = b := fun b => by cases b <;> rfl
   rw [e, allI_and]
   refine allI_congr fun j hj => ?_
   have hm := hw _ (getD_mem (l := s.fAccounts) hj)
   unfold accsj risj
   rw [errF_ok, ← acc_eq hm]
   cases ha : accP (s.fAccounts.getD j default) with
   | false => rfl
   | true =>
    rw [plain_eq ha]
    cases plain15 (s.fAccounts.getD j default) <;> cases ownsP s (s.fAccounts.getD j default).fKey <;> simp
theorem state_eq {s : TState} (hw : ∀ a ∈ s.fAccounts, a.wf) : srightP s = sright19 s := by
 unfold srightP sright19
 have h1 : sright1 s = (q19a s || q19b s || !(rising19 s.fAccounts && accs19 s)) := by
  unfold sright1 q19a
  rw [counts_eq, owned_eq, accs_eq hw]
  simp only [Bool.not_and, Bool.not_not, Bool.or_assoc]
 have h2 : (sright2 s || !rising19 s.fAccounts) = q19c s := by
  unfold sright2 q19c
  rw [errF_ok, errF_ok, errF_ok, marks_eq, deals_eq, ends_eq]
  cases rising19 s.fAccounts <;> simp
 have h3 : sright3 s = q19d s := by unfold sright3 q19d; rw [planned_eq]
 have h4 : srightW s = waits19 s := by unfold srightW waits19; exact allI_congr fun j _ => wait_eq _ _
 have h5 : sright5 s = q19e s := by
  unfold sright5 q19e
  rw [planned_eq]
  cases plan19 s.fOut <;> cases decide (s.fOut.fFrom = s.fGroup) <;> cases decide ((rdState s.fImage).2 = 0) <;> rfl
 rw [h1, h3, h4, h5, ← h2]
 cases q19a s <;> cases q19b s <;> cases rising19 s.fAccounts <;> cases accs19 s <;> cases sright2 s <;> cases waits19 s <;> rfl
end Go.YtmpoffijcfaalaaGreat
