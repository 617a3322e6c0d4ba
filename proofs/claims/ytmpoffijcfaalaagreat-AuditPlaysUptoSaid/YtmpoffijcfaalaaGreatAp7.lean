/- Part 7 of auditPlays_holds. -/
import Derived.OrdersIn
import Derived.RangeFuncNested
import Derived.RangeFuncLeaves
import Derived.Lib.AppendZeros
import Derived.Test.YtmpoffijcfaalaaGreatAp6

set_option maxRecDepth 20000
set_option maxHeartbeats 1000000
namespace Go.Eng
section
theorem wpOpIn_of_wpOp {P : Program} {ops : Array Oper} {Q : Exit → Act → World → Prop} {i n : Nat} {K : Act → World → Prop} {a : Act} {w : World} (h : wpOp P ops (fun _ _ _ => False) i K a w) : wpOpIn Fence.wide n P ops Q i K a w := by
 unfold wpOp at h
 unfold wpOpIn
 split
 · rename_i hn
   rw [hn] at h
   exact h
 · rename_i o ho
   rw [ho] at h
   simp only at h
   by_cases hw : Region.wanted o (yielded ops a.tmps) = true
   · rw [if_pos hw] at h ⊢
     have h := h.elim id fun h => by obtain ⟨_, _, h⟩ := h.2; exact h.elim
     refine ⟨fun _ _ => trivial, ?_⟩
     unfold Oper.wp at h
     have hs : Oper.semAt Fence.wide.round a.eval o = execOp a.eval o := rfl
     rw [hs]
     generalize (execOp a.eval o).run P w = r at *
     cases r with
     | ok nx w' =>
      cases nx <;> simp only [Oper.upon, Oper.uponIn] at h ⊢ <;> try exact h
      · refine ⟨(fun hd => by cases hd), callsIn_wide.2 (Calls.mono h fun e w'' he => ?_)⟩
        cases e with
        | returned v => exact he
        | panicked ch => exact he.elim
        | outgrown => obtain ⟨_, _, he⟩ := he; exact he.elim
      · exact ⟨(fun hd => by cases hd), fun c cs _ => by obtain ⟨v, w', hR, hs⟩ := h c cs; exact ⟨v, w', hR, stepsIn_wide.2 hs⟩⟩
     | halt x w' => cases x <;> simp only [Oper.upon, Oper.uponIn] at h ⊢ <;> exact h.elim
   · rw [if_neg hw] at h ⊢
     exact ⟨fun _ _ => trivial, h⟩
theorem cnt_one : ∀ (n : Nat) (f g : Nat → Bool) (i : Nat), i < n → f i = true → g i = false → (∀ j, j ≠ i → g j = f j) → (List.range n).countP g + 1 = (List.range n).countP f
 | 0, _, _, _, h, _, _, _ => by omega
 | n + 1, f, g, i, hi, hf, hg, he => by
  rw [List.range_succ, List.countP_append, List.countP_append]
  by_cases h : i = n
  · subst h
    have : (List.range i).countP g = (List.range i).countP f := List.countP_congr fun j hj => by rw [he j (by have := List.mem_range.1 hj; omega)]
    rw [this]
    simp [hf, hg]
  · have ih := cnt_one n f g i (by omega) hf hg he
    have e : [n].countP g = [n].countP f := by simp only [List.countP_cons, List.countP_nil, he n (Ne.symm h)]
    rw [e]
    omega
section
variable {c : Cx} {l : List Oper} {s : RH} {env : Env} {D : List Atom} {Q : Exit → Act → World → Prop}
def headL (hd n : Nat) : Array Bool := ((List.range n).map fun i => decide (i < hd)).toArray
theorem OblH.take_at {r : List Oper} {hd : Nat} (h : OblH c l s env D (r.take hd) 0) {i : Nat} (hi : i < hd) {o : Oper} (ho : r[i]? = some o) (V : Nat → Value) (De : List Atom) (hV : AllP (fun k => s.vals k = none → s.ok k (V k)) (s.deps i)) :
 AllP (fun h => WL (opPostH c l s (D ++ De) i h (h.map V)) c l.toArray [o] (envOf l (VV s.vals V) (s.deps i) ++ env) (s.L h (h.map V)) (atsOf s.rs (VV s.vals V) (s.deps i) ++ (D ++ De))) (phH l s i) := by
 have := h.at_ i o (by rw [List.getElem?_take, if_pos hi]; exact ho) V De (by rw [Nat.zero_add]; exact hV)
 rwa [Nat.zero_add] at this
theorem edge_lt (h5 : ckBack l = true) {k i : Nat} (h : edge l k i = true) : k < i := by
 rcases Nat.lt_or_ge i l.length with hil | hil
 · have ho : l[i]? = some l[i] := List.getElem?_eq_getElem hil
   obtain ⟨e, he, hb, rfl⟩ := (edge_mem ho).1 h
   have hbk := List.all_eq_true.1 h5 i (List.mem_range.2 hil)
   rw [ho] at hbk
   have := List.all_eq_true.1 hbk e (Array.mem_toList_iff.2 he)
   rw [hb] at this
   exact lt_blt (by simpa using this)
 · rw [edge, List.getElem?_eq_none hil] at h
   cases h
theorem quietH (hd : Nat) (s : RH) (hhs : s.hs = [[]]) (h4 : ckH l s = true) (h5 : ckBack l = true) : (s.effs.all fun x => Nat.blt x hd) = true ∧ AllP (fun h => ∀ V : Nat → Value, s.L h (h.map V) = s.L [] []) (fullH s) := by
 have he : ∀ x, x ∈ s.effs → False := by
  intro x
  induction x using Nat.strongRecOn with
  | _ x ih =>
   intro hx
   simp only [ckH, Bool.and_eq_true] at h4
   have h := h4.2
   rw [hhs] at h
   have h := List.all_eq_true.1 (List.all_eq_true.1 h [] (List.mem_cons_self ..)) x hx
   simp only [List.contains_nil, Bool.or_false, Bool.false_or, Bool.or_eq_true, Bool.not_eq_true', List.nil_append] at h
   rcases h with h | h
   · obtain ⟨y, hy, hyx⟩ := List.all_eq_false.1 h
     exact ih y (edge_lt h5 (by simpa using hyx)) hy
   · simp at h
 refine ⟨List.all_eq_true.2 fun x hx => (he x hx).elim, ?_⟩
 rw [fullH, hhs]
 refine AllP.intro fun h hh => ?_
 have := (List.mem_filter.1 hh).1
 simp only [List.mem_cons, List.not_mem_nil, or_false] at this
 subst this
 exact fun _ => rfl
theorem headH (hd : Nat) (s : RH) (Le : (Nat → Value) → Own) (h1 : ckDeps l s.deps = true) (h2 : (List.range hd).all (fun i => ckDst1 l env i) = true) (h5 : ckBack l = true) (hsz : ckSize l c.n = true) (h4 : ckH l s = true)
 (hT : ∀ listed : Array Bool, (∀ i k, listed.getD i false = true → edge l k i = true → listed.getD k false = true) → ∀ i, hd ≤ i → i < l.length → (∀ k, edge l k i = true → listed.getD k false = true) → ∀ k, k < hd → listed.getD k false = true)
 (hef : (s.effs.all fun x => Nat.blt x hd) = true) (hhd : hd ≤ l.length) {L : Own} (hL : s.L [] [] = L) (hE : AllP (fun h => ∀ V : Nat → Value, s.L h (h.map V) = Le V) (fullH s)) (hO : OblH c l s env D (l.take hd) 0) (A : Nat → Array Bool → Act → World → Prop)
 (hA : ∀ f listed a w, Region.ready .any l.toArray listed ≠ [] → (∀ i ∈ Region.ready .any l.toArray listed, ∀ Q', wpOp c.P l.toArray Q' i (A f (listed.setIfInBounds i true)) a w) → A (f + 1) listed a w)
 (k : ∀ V : Nat → Value, AllP (fun i => (dstOf l i).isSome = true → s.vals i = none → s.ok i (V i)) (List.range hd) → ∀ a w, Fr c.n a (envOf l (VV s.vals V) (List.range hd) ++ env) → St c.w0 c.M w (Le V) → DH (atsOf s.rs (VV s.vals V) ((List.range hd).filter fun i => (dstOf l i).isSome) ++ D) w (Le V) → A (l.length - hd) (headL hd l.length) a w)
 {a : Act} {w : World} (f : Fr c.n a env) (st : St c.w0 c.M w L) (dh : DH D w L) : A l.length (Array.replicate l.length false) a w.drew := by
 subst hL
 have hs := Stp.drew [] w
 have m0 : MidH c l s env D (Array.replicate l.length false) a w.drew [] := by
  refine ⟨f, st.step hs, dh.step hs.nil, by simp, fun i k h _ => ?_, fun i d h _ => ?_, fun x _ => ?_, fun x hx => (by cases hx), ?_⟩
  · rw [getD_rep] at h; cases h
  · rw [getD_rep] at h; cases h
  · rw [getD_rep]; simp
  · simp only [ckH, Bool.and_eq_true] at h4
    simpa using h4.1.1
 have key : ∀ (m : Nat) (listed : Array Bool) (a : Act) (w : World) (hh : List Nat), MidH c l s env D listed a w hh → (∀ i, hd ≤ i → listed.getD i false = false) → (List.range hd).countP (fun i => !listed.getD i false) = m →
  A (m + (l.length - hd)) listed a w := by
  intro m
  induction m with
  | zero =>
   intro listed a w hh mm ht hc
   have hall : ∀ i, i < hd → listed.getD i false = true := fun i hi => by
    have := List.countP_eq_zero.1 hc i (List.mem_range.2 hi)
    simpa using this
   have heq : listed = headL hd l.length := by
    apply Array.ext
    · simp [mm.size, headL]
    · intro i g1 g2
      have e : listed[i] = listed.getD i false := by simp [g1]
      rw [e]
      simp only [headL, List.getElem_toArray, List.getElem_map, List.getElem_range]
      by_cases hi : i < hd
      · rw [hall i hi]; simp [hi]
      · rw [ht i (by omega)]; simp [hi]
   have hf : hh ∈ fullH s := List.mem_filter.2 ⟨mm.mem, List.all_eq_true.2 fun x hx => by simpa using (mm.done x hx).1 (hall x (lt_blt (List.all_eq_true.1 hef x hx)))⟩
   have hp := hE.mem hh hf (valOf l a)
   have hst := mm.st
   have hdh := mm.dh
   have hsl := mm.slot
   rw [hp] at hst hdh hsl
   subst heq
   rw [Nat.zero_add]
   have hok2 : ∀ k, k < hd → (dstOf l k).isSome = true → s.ok2 k (valOf l a k) := fun k hk hd' => by
    obtain ⟨d, hd'⟩ := Option.isSome_iff_exists.1 hd'
    have := (hsl k d (hall k hk) hd').1
    simpa [valOf, slotV, hd'] using this
   have e1 : envOf l (valOf l a) (List.range hd) = envOf l (VV s.vals (valOf l a)) (List.range hd) := envOf_congr fun k hk hd' => ok2_VV (hok2 k (List.mem_range.1 hk) hd')
   have e2 : atsOf s.rs (valOf l a) ((List.range hd).filter fun i => (dstOf l i).isSome) = atsOf s.rs (VV s.vals (valOf l a)) ((List.range hd).filter fun i => (dstOf l i).isSome) := atsOf_congr fun k hk => ok2_VV (hok2 k (List.mem_range.1 (List.mem_filter.1 hk).1) (by simpa using (List.mem_filter.1 hk).2))
   have hk := k (valOf l a) (AllP.intro fun i hi hd' hn => ok2_of (hok2 i (List.mem_range.1 hi) hd') hn)
   rw [← e1, ← e2] at hk
   refine hk _ _ (mm.frame hsz fun k hk => Nat.lt_of_lt_of_le (List.mem_range.1 hk) hhd) hst (DH.app (fun t ht => ?_) hdh)
   obtain ⟨i, hi, ht⟩ := mem_atsOf ht
   obtain ⟨hi1, hd'⟩ := List.mem_filter.1 hi
   obtain ⟨d, hd'⟩ := Option.isSome_iff_exists.1 hd'
   have := (hsl i d (hall i (List.mem_range.1 hi1)) hd').2
   simp only [valOf, slotV, hd'] at ht
   exact this t ht
  | succ m ih =>
   intro listed a w hh mm ht hc
   rw [show m + 1 + (l.length - hd) = (m + (l.length - hd)) + 1 by omega]
   have hex : ∃ i, i < hd ∧ listed.getD i false = false := by
    refine Classical.byContradiction fun hn => ?_
    have : (List.range hd).countP (fun i => !listed.getD i false) = 0 := List.countP_eq_zero.2 fun i hi => by
     simp only [Bool.not_eq_true', Bool.not_eq_false]
     refine Classical.byContradiction fun h => hn ⟨i, List.mem_range.1 hi, by simpa using h⟩
    omega
   refine hA _ _ _ _ (fun hr => ?_) (fun i hi Q' => ?_)
   · exfalso
     obtain ⟨i0, hi0, hu0⟩ := hex
     have hall : ∀ i, i < l.length → listed.getD i false = true := by
      intro i
      induction i using Nat.strongRecOn with
      | _ i ih2 =>
       intro hil
       cases hli : listed.getD i false with
       | true => rfl
       | false =>
        exfalso
        have : i ∈ Region.ready .any l.toArray listed := by
         refine mem_ready.2 ⟨by rw [getD_true_false (by rw [mm.size]; exact hil)]; exact hli, l[i], by simp [List.getElem?_eq_getElem hil], fun e he hb => ?_⟩
         have hbk := List.all_eq_true.1 h5 i (List.mem_range.2 hil)
         rw [List.getElem?_eq_getElem hil] at hbk
         have := List.all_eq_true.1 hbk e (Array.mem_toList_iff.2 he)
         rw [hb] at this
         have hlt := lt_blt (by simpa using this)
         exact ih2 e.on hlt (by omega)
        rw [hr] at this
        cases this
     rw [hall i0 (by omega)] at hu0
     cases hu0
   · obtain ⟨hun, o, ho1, hpre⟩ := mem_ready.1 hi
     have ho : l[i]? = some o := by simpa using ho1
     have hil : i < l.length := (List.getElem?_eq_some_iff.1 ho).1
     have his : i < listed.size := by rw [mm.size]; exact hil
     have hun' : listed.getD i false = false := by rw [← getD_true_false his]; exact hun
     have hid : i < hd := by
      rcases Nat.lt_or_ge i hd with h | h
      · exact h
      · obtain ⟨i0, hi0, hu0⟩ := hex
        have := hT listed mm.closed i h hil (fun k hk => by
         obtain ⟨e, he, hb, rfl⟩ := (edge_mem ho).1 hk
         exact hpre e he hb) i0 hi0
        rw [this] at hu0; cases hu0
     refine (mm.step1 (Q := Q') h1 (List.all_eq_true.1 h2 i (List.mem_range.2 hid)) h4 hsz hi (fun o' ho' V De hV => hO.take_at hid ho' V De hV) fun a' w' h' m' => ?_)
     refine ih _ a' w' h' m' (fun j hj => ?_) ?_
     · rw [getD_set his, ht j hj]
       have : (i == j) = false := by simpa using (by omega : i ≠ j)
       rw [this]; rfl
     · have hlt : (List.range hd).countP (fun k => !(listed.setIfInBounds i true).getD k false) + 1 = (List.range hd).countP (fun k => !listed.getD k false) := by
        refine cnt_one hd _ _ i hid (by rw [hun']; rfl) (by rw [getD_set his]; simp) fun j hj => ?_
        rw [getD_set his]
        have : (i == j) = false := by simpa using Ne.symm hj
        rw [this]; rfl
       omega
 have hn0 : (List.range hd).countP (fun i => !(Array.replicate l.length false).getD i false) = hd := by
  rw [List.countP_eq_length_filter, List.filter_eq_self.2 fun i _ => by rw [getD_rep]; rfl, List.length_range]
 have := key hd _ a w.drew [] m0 (fun i _ => getD_rep _ _) hn0
 rwa [show hd + (l.length - hd) = l.length by omega] at this
theorem rgTail {id n hd : Nat} (s : RH) (hhs : s.hs = [[]]) (hm : c.P.follows .mixedOrders = true) (hok : rhOk l env s c.n = true) (hhd : hd ≤ l.length) {L : Own} (hL : s.L [] [] = L) (hO : OblH c l s env D (l.take hd) 0)
 (hT : ∀ listed : Array Bool, (∀ i k, listed.getD i false = true → edge l k i = true → listed.getD k false = true) → ∀ i, hd ≤ i → i < l.length → (∀ k, edge l k i = true → listed.getD k false = true) → ∀ k, k < hd → listed.getD k false = true)
 (k : ∀ V : Nat → Value, AllP (fun i => (dstOf l i).isSome = true → s.vals i = none → s.ok i (V i)) (List.range hd) → ∀ a w, Fr c.n a (envOf l (VV s.vals V) (List.range hd) ++ env) → St c.w0 c.M w L →
  DH (atsOf s.rs (VV s.vals V) ((List.range hd).filter fun i => (dstOf l i).isSome) ++ D) w L → wpAnyIn Fence.wide n c.P .any l.toArray Q (l.length - hd) (headL hd l.length) a w) : WC c (.region id l.toArray true) Q env L D := by
 intro a w f st dh
 simp only [rhOk, Bool.and_eq_true] at hok
 obtain ⟨⟨⟨⟨h1, h2⟩, h5⟩, hsz⟩, h4⟩ := hok
 subst hL
 obtain ⟨q1, q2⟩ := quietH hd s hhs h4 h5
 exact (wpIn_wide (n := n)).1 (wpIn_region_any hm (headH hd s (fun _ => s.L [] []) h1 (List.all_eq_true.2 fun i hi => List.all_eq_true.1 h2 i (List.mem_range.2 (Nat.lt_of_lt_of_le (List.mem_range.1 hi) hhd))) h5 hsz h4 hT q1 hhd rfl q2 hO (wpAnyIn Fence.wide n c.P .any l.toArray Q) (fun _ _ _ _ h0 h => ⟨fun h1 => absurd h1 h0, fun i hi => wpOpIn_of_wpOp (h i hi _)⟩) k f st dh))
end
end
section
theorem Stp.grown {w w' : World} (h : Stp [] w w') : w.grownBy w' none := ⟨h.os, h.tape, h.output, h.size, fun k hk _ => h.block k hk (by simp)⟩
section
variable {c : Cx} {Q : Exit → Act → World → Prop} {env : Env} {L : Own} {D : List Atom} {x : Code}
theorem lpW {σ : Type} (E : σ → Env) (Ψ : σ → World → Prop) (μ : σ → Nat) (s0 : σ) (hE : Sub (E s0) env) (h0 : ∀ w, St c.w0 c.M w L → DH D w L → Ψ s0 w)
 (body : ∀ s w, Ψ s w → ∀ a, Fr c.n a (E s) → Code.wp c.P x (Exit.then (fun a w' => ∃ s', μ s' < μ s ∧ Fr c.n a (E s') ∧ Ψ s' w') Q) a w) : WC c (.loop x) Q env L D := by
 intro a w f st d
 have key : ∀ (m : Nat) (s : σ), μ s = m → ∀ w, Ψ s w → ∀ a, Fr c.n a (E s) →
  ∀ (b : Frame) (k : List Item) (cs : List Frame), ∃ e a' w', Q e a' w' ∧ Arrives c.P (lone (b.at a (.code x :: .inLoop x :: k)) cs w) b k cs e a' w' := by
  intro m
  induction m using Nat.strongRecOn with
  | _ m ih =>
   intro s hm w hΨ a f b k cs
   obtain ⟨e, a₁, w₁, hq, harr⟩ := body s w hΨ a f b (.inLoop x :: k) cs
   cases e with
   | normal =>
    obtain ⟨s', hlt, f', h'⟩ := hq
    obtain ⟨e₂, a₂, w₂, hq₂, harr₂⟩ := ih (μ s') (hm ▸ hlt) s' rfl w₁ h' a₁ f' b k cs
    exact ⟨e₂, a₂, w₂, hq₂, .of_steps (Steps.trans harr (.one step_inLoop)) harr₂⟩
   | exit id => exact ⟨_, a₁, w₁, hq, .pass (x := .inLoop x) rfl (fun _ _ => .inl (by simp)) harr⟩
   | goto l => exact ⟨_, a₁, w₁, hq, .pass (x := .inLoop x) rfl (fun _ _ => .inl (by simp)) harr⟩
   | ret => exact ⟨_, a₁, w₁, hq, .pass (x := .inLoop x) rfl (fun _ _ => .inl (by simp)) harr⟩
   | panic ch => exact ⟨_, a₁, w₁, hq, .pass (x := .inLoop x) rfl (fun _ _ => .inl (by simp)) harr⟩
   | outgrown => exact ⟨_, a₁, w₁, hq, .pass (x := .inLoop x) rfl (fun _ _ => .inl (by simp)) harr⟩
 intro b k cs
 obtain ⟨e, a', w', hq, harr⟩ := key _ s0 rfl w (h0 w st d) a (f.sub hE) b k cs
 exact ⟨e, a', w', hq, .of_steps (.one step_loop) harr⟩
theorem run_round {P : Program} {ρ : Operand → Value} {o : Oper} {x : Operand} {xs : List Operand} {ats : Array TypeId} {l : Nat} {vs : List Value} {fn : FuncId} {tmps : Array Value} {assign body : Code} (ho : o.op = .call { callee := .value x, args := xs.toArray, argTypes := ats })
 (hx : ρ x = .func (.yield l) #[] #[]) (hxs : xs.map ρ = vs) {w : World} (hy : (Instr.yield l vs.toArray).run P w = .ok (.round l fn tmps assign body) w) : (execOp ρ o).run P w = .ok (.round l fn tmps assign body) w := by
 subst hxs
 simp only [execOp, ho, resolve, Deferred.ofValue, hx, invoke, List.map_toArray, Sem.run_bind, Sem.run_pure, Result.andThen_ok]
 simpa using hy
theorem wpOpIn_plain {F : Fence} {n : Nat} {P : Program} {ops : Array Oper} {Q : Exit → Act → World → Prop} {i : Nat} {K : Act → World → Prop} {a : Act} {w : World} {o : Oper} (ho : ops[i]? = some o) (hg : o.guard = none) (h : o.wpIn F n P a w K Q) : wpOpIn F n P ops Q i K a w := by
 unfold wpOpIn
 rw [ho]
 simp only
 rw [if_pos]
 · exact h
 · unfold Region.wanted
   rw [hg]
theorem not_in {F : Fence} {n : Nat} {P : Program} {o : Oper} {a : Act} {w : World} {K : Act → World → Prop} {Q : Exit → Act → World → Prop} {xt : TypeId} {x : Operand} {b : Bool} (hro : F.round = none) (ho : o.op = .unOp .not xt x) (hx : a.eval x = .bool b) (hF : ∀ f, F.fn f) (h : K (a.put o.dst (.bool (!b))) w) : o.wpIn F n P a w K Q := by
 refine ⟨fun f _ => hF f, ?_⟩
 rw [hro, Oper.semAt_none]
 have : (execOp a.eval o).run P w = .ok (.value (.bool (!b))) w := by simp [execOp, ho, hx, Op.unary]
 rw [this]
 exact h
theorem round_in {F : Fence} {n : Nat} {P : Program} {o : Oper} {a : Act} {w : World} {K : Act → World → Prop} {Q : Exit → Act → World → Prop} {l : Nat} {fn : FuncId} {tmps : Array Value} {assign body : Code} (hro : F.round = none) (hd : F.depth = none) (hF : ∀ f, F.fn f)
 (hrun : (execOp a.eval o).run P w = .ok (.round l fn tmps assign body) w) (h : RoundIn F (n - 1) P l fn tmps assign body w (fun e w'' => ∃ v, e = .returned v ∧ K (a.put o.dst v) w'')) : o.wpIn F n P a w K Q := by
 refine ⟨fun f _ => hF f, ?_⟩
 rw [hro, Oper.semAt_none, hrun]
 refine ⟨(fun h => by rw [hd] at h; cases h), h.mono ?_⟩
 rintro e w'' ⟨v, rfl, hk⟩
 exact hk
end
end
end Go.Eng
namespace Go.Eng
open Go.RowKit
structure KB (n₀ b : Nat) (A B : World) : Prop where
 size : A.heap.size ≤ B.heap.size
 block : ∀ k, k < n₀ → k ≠ b → B.heap[k]? = A.heap[k]?
theorem KB.trans {n₀ b : Nat} {A B C : World} (h : KB n₀ b A B) (k : KB n₀ b B C) : KB n₀ b A C := ⟨Nat.le_trans h.size k.size, fun i hi hb => (k.block i hi hb).trans (h.block i hi hb)⟩
theorem Stp.kb {n₀ b : Nat} {M : List Nat} {A B : World} (h : Stp M A B) (hn : n₀ ≤ A.heap.size) (hM : ∀ k, k < n₀ → k ∈ M → k = b) : KB n₀ b A B :=
 ⟨h.size, fun k hk hb => h.block k (Nat.lt_of_lt_of_le hk hn) (fun hm => hb (hM k hk hm))⟩
theorem KB.putObj {n₀ b l : Nat} {W : World} {o : Obj} (hl : n₀ ≤ l) : KB n₀ b W (W.putObj l o) :=
 ⟨by simp [World.putObj], fun k hk _ => World.putObj_heap_other (by omega)⟩
theorem wpListIn_inRound {l n : Nat} {P : Program} {ops : Array Oper} {Q : Exit → Act → World → Prop} (hQ : ∀ e a w, Q e a w → e = .normal) : ∀ (rest : List Oper), rest.all (fun o => match o.op with | .defer _ => false | _ => true) = true → ∀ a w, wpList P ops Q rest a w → wpListIn (Fence.wide.inRound l) n P ops Q rest a w
 | [], _, _, _, h => h
 | o :: rest, hd, a, w, h => by
  simp only [List.all_cons, Bool.and_eq_true] at hd
  have ih := wpListIn_inRound (l := l) (n := n) (P := P) (ops := ops) hQ rest hd.2
  have hnd : ∀ c, o.op ≠ .defer c := fun c e => by rw [e] at hd; cases hd.1
  have hno : ¬ LetsOut Q := by
   rintro ⟨a', w', h⟩
   cases hQ _ _ _ h
  unfold wpList at h
  unfold wpListIn
  by_cases hw : Region.wanted o (yielded ops a.tmps) = true
  · rw [if_pos hw] at h ⊢
    have h := h.elim id fun h => absurd h.2 hno
    refine ⟨fun _ _ => trivial, ?_⟩
    unfold Oper.wp at h
    have hs : Oper.semAt (Fence.wide.inRound l).round a.eval o = execOp a.eval o := Oper.semAt_some l _ _ hnd
    rw [hs]
    generalize (execOp a.eval o).run P w = r at *
    cases r with
    | ok nx w' =>
     cases nx <;> simp only [Oper.upon, Oper.uponIn] at h ⊢ <;> try exact h
     · exact ih _ _ h
     · exact ih _ _ h
     · refine ⟨(fun hd => by cases hd), CallsIn.inRound l (callsIn_wide.2 (Calls.mono h fun e w'' he => ?_))⟩
       cases e with
       | returned v => exact ih _ _ he
       | panicked ch => exact absurd (hQ _ _ _ he) (by intro h; cases h)
       | outgrown => exact absurd he hno
     · exact ih _ _ h
     · exact ⟨(fun hd => by cases hd), fun c cs _ => by obtain ⟨v, w', hR, hs⟩ := h c cs; exact ⟨v, w', ih _ _ hR, stepsIn_wide.2 hs⟩⟩
    | halt x w' => cases x <;> simp only [Oper.upon, Oper.uponIn] at h ⊢ <;> exact h
  · rw [if_neg hw] at h ⊢
    exact ⟨fun _ _ => trivial, ih _ _ h⟩
theorem round_region {l n id : Nat} {P : Program} {ops : List Oper} {Q : Exit → Act → World → Prop} {K : Act → World → Prop} {a : Act} {w : World} (hd : ops.all (fun o => match o.op with | .defer _ => false | _ => true) = true) (hK : ∀ a w, K a w → Q .normal a w)
 (h : wpList P ops.toArray (fun e a w => e = .normal ∧ K a w) ops a w) : (Code.region id ops.toArray false).wpIn (Fence.wide.inRound l) n P Q a w :=
 Code.wpIn_mono (fun e a w h => by obtain ⟨rfl, h⟩ := h; exact hK _ _ h) (wpIn_region_lit (wpListIn_inRound (fun _ _ _ h => h.1) ops hd a w h))
theorem Fr.round2 {n : Nat} {a : Act} {env : Env} (f : Fr n a env) {p q : Nat} (hp : p < n) (hq : q < n) (u v : Value) :
 Fr n { tmps := ((#[p, q] : Array Tmp).zip #[u, v]).foldl (fun t (p, v) => t.setIfInBounds p v) a.tmps, defers := [] } ((q, v) :: (p, u) :: env) := by
 have h := (f.put (d := p) u hp).put (d := q) v hq
 have e : (a.put (some p) u).put (some q) v = { tmps := (a.tmps.setIfInBounds p u).setIfInBounds q v, defers := [] } := by
  simp [Act.put, f.dn]
 rw [e] at h
 simpa using h
theorem wpList_val {P : Program} {ops : Array Oper} {Q : Exit → Act → World → Prop} {rest : List Oper} {o : Oper} {a : Act} {w : World} {v : Value} (hg : o.guard = none) (hrun : (execOp a.eval o).run P w = .ok (.value v) w) (h : wpList P ops Q rest (a.put o.dst v) w) : wpList P ops Q (o :: rest) a w := by
 refine wpList_plain hg fun K hK => ?_
 unfold Oper.wp
 rw [hrun]
 exact hK _ _ h
theorem enterM {P : Program} {f : FuncId} {fn : Func} {x : Code} {args : List Value} {w : World} {Φ : Value → World → Prop} (m : Nat) (M : List Nat) (L : Go.Eng.Own) (D : List Atom)
 (hf : P.funcs[f]? = some fn) (hb : fn.body = some x) (n : Nat) (hn : n = fn.ntmps) (hargs : args.length ≤ n) (hst : St w M w L) (hd : DH D w L)
 (h : WC ⟨P, n, w, M⟩ x (bodyPostM Fence.wide m P fn fun e w' => ∃ v, e = .returned v ∧ Φ v w') (ent 0 args) L D) : Ret P f args w Φ := by
 subst hn
 refine (callsIn_wide (n := m)).1 (callsIn_of_wp_marks hf hb trivial (wpIn_wide.2 (h _ w ⟨?_, rfl, ?_⟩ hst hd)))
 · simp; omega
 · intro i v hi
   obtain ⟨_, hi⟩ := lk_ent args 0 i v hi
   have : i < args.length := (List.getElem?_eq_some_iff.1 hi).1
   simp only [Nat.sub_zero] at hi
   rw [Array.getElem?_append_left (by simpa using this)]
   simpa using hi
theorem FnV.proofM {P : Program} {f : FuncId} {fn : Func} {x : Code} {args : List Value} {As : List Atom} {u : Value} (m : Nat)
 (hf : P.funcs[f]? = some fn) (hb : fn.body = some x) (n : Nat) (hn : n = fn.ntmps) (hargs : Nat.ble args.length n = true)
 (h : ∀ w, WC ⟨P, n, w, []⟩ x (bodyPostM Fence.wide m P fn fun e w' => ∃ v, e = .returned v ∧ v = u ∧ Stp [] w w') (ent 0 args) [] As) : FnV P f args As u := by
 intro X w hnd hx h0 hA
 refine Ret.mono (enterM m [] [] As hf hb n hn (Nat.le_of_ble_eq_true hargs) (St.start w []) (fun t ht => Atom.keep (hA t ht) ?_ (fun _ _ => rfl)) (h w)) ?_
 · rintro b ⟨hb1, hb2⟩
   exact ⟨hb1, by simp [Own.bs, bsOf]⟩
 · intro v w' ⟨hv, hs⟩
   exact ⟨hs, (), hv, by simp, by simp [Own.bs, bsOf], by simp [Own.bs, bsOf], by simp⟩
section
def mk (k : Nat) : Deferred := { target := .collected k, args := #[] }
@[reducible] def dk (b : Nat) : OwnE where
 bs := [b]
 holds _ w := w.heap[b]? = some (.deferred (some []))
 valid h b' hb := by simp at hb; subst hb; exact (Array.getElem?_eq_some_iff.1 h).1
 keep h _ hw := (hw b (.inr (by simp))).trans h
def WCD (ds : List Deferred) (c : Cx) (x : Code) (Q : Exit → Act → World → Prop) (env : Env) (L : Own) (D : List Atom) : Prop :=
 ∀ a w, Fr c.n a env → St c.w0 c.M w L → DH D w L → Code.wp c.P x Q { a with defers := ds } w
def WQD (ds : List Deferred) (c : Cx) (Q : Exit → Act → World → Prop) (e : Exit) (env : Env) (L : Own) (D : List Atom) : Prop :=
 ∀ a w, Fr c.n a env → St c.w0 c.M w L → DH D w L → Q e { a with defers := ds } w
def _root_.Go.Act.dd (a : Act) (ds : List Deferred) : Act := { a with defers := a.defers ++ ds }
theorem put_dd (a : Act) (ds : List Deferred) (d : Option Tmp) (v : Value) : (a.dd ds).put d v = (a.put d v).dd ds := by cases d <;> rfl
theorem Fr.dd {n : Nat} {a : Act} {env : Env} (f : Fr n a env) (ds : List Deferred) : a.dd ds = { a with defers := ds } := by
 unfold Act.dd
 rw [f.dn]
 rfl
theorem wpList_wd {P : Program} {ops : Array Oper} {Q : Exit → Act → World → Prop} (ds : List Deferred) : ∀ (rest : List Oper) a w, wpList P ops (fun e a w => Q e (a.dd ds) w) rest a w → wpList P ops Q rest (a.dd ds) w
 | [], _, _, h => h
 | o :: rest, a, w, h => by
  have ih := wpList_wd (P := P) (ops := ops) (Q := Q) ds rest
  have hlo : LetsOut (fun e (a : Act) w => Q e (a.dd ds) w) → LetsOut Q := fun ⟨a', w', h⟩ => ⟨_, w', h⟩
  unfold wpList at h ⊢
  have ey : yielded ops (a.dd ds).tmps = yielded ops a.tmps := rfl
  rw [ey]
  by_cases hw : Region.wanted o (yielded ops a.tmps) = true
  · rw [if_pos hw] at h ⊢
    rcases h with h | ⟨h1, h2⟩
    · left
      unfold Oper.wp at h ⊢
      have ee : (execOp (a.dd ds).eval o).run P w = (execOp a.eval o).run P w := rfl
      rw [ee]
      generalize (execOp a.eval o).run P w = r at *
      cases r with
      | ok nx w' =>
       cases nx <;> simp only [Oper.upon] at h ⊢ <;> try exact h
       · rw [put_dd]; exact ih _ _ h
       · rw [put_dd]; exact ih _ _ h
       · refine Calls.mono h fun e w'' he => ?_
         cases e with
         | returned v =>
          show wpList P ops Q rest ((a.dd ds).put o.dst v) w''
          rw [put_dd]; exact ih _ _ he
         | panicked ch => exact he
         | outgrown => exact hlo he
       · have := ih _ _ h
         rw [← put_dd] at this
         exact this
       · exact Rows.mono h fun _ _ he => by rw [put_dd]; exact ih _ _ he
      | halt x w' => cases x <;> simp only [Oper.upon] at h ⊢ <;> exact h
    · exact .inr ⟨h1, hlo h2⟩
  · rw [if_neg hw] at h ⊢
    rw [put_dd]
    exact ih _ _ h
section
variable {ds : List Deferred} {c : Cx} {x y : Code} {Q Q' : Exit → Act → World → Prop} {env : Env} {L : Own} {D : List Atom} {ops : Array Oper}
theorem sqD (h : WCD ds c x (Exit.then (Code.wp c.P y Q) Q) env L D) : WCD ds c (.seq x y) Q env L D := fun a w f s d => wp_seq (h a w f s d)
theorem nxD (h : WCD ds c y Q env L D) : WQD ds c (Exit.then (Code.wp c.P y Q) Q') .normal env L D := h
theorem rgM {id : Nat} {l : List Oper} (h : WL (fun e a w => Q e (a.dd ds) w) c l.toArray l env L D) : WCD ds c (.region id l.toArray false) Q env L D := fun a w f s d => by
 rw [← f.dd]
 exact wp_region_lit (wpList_wd ds l a w (h a w f s d))
theorem nlD (h : WQD ds c Q .normal env L D) : WL (fun e a w => Q e (a.dd ds) w) c ops [] env L D := fun a w f s d => wpList_nil (by rw [f.dd]; exact h a w f s d)
theorem skD (h : WQD ds c Q .normal env L D) : WCD ds c .skip Q env L D := fun a w f s d => wp_skip (h a w f s d)
theorem exD {id : Nat} (h : WQD ds c Q (.exit id) env L D) : WCD ds c (.exit id) Q env L D := fun a w f s d => wp_exit (h a w f s d)
theorem rtD (h : WQD ds c Q .ret env L D) : WCD ds c .ret Q env L D := fun a w f s d => wp_ret (h a w f s d)
theorem bkD {id : Nat} (h : WCD ds c x (Exit.inBlock id Q) env L D) : WCD ds c (.block id x) Q env L D := fun a w f s d => wp_block (h a w f s d)
theorem tED {K : Act → World → Prop} {id : Nat} (h : WQD ds c Q (.exit id) env L D) : WQD ds c (Exit.then K Q) (.exit id) env L D := h
theorem bND {id : Nat} (h : WQD ds c Q .normal env L D) : WQD ds c (Exit.inBlock id Q) .normal env L D := h
theorem bED {id : Nat} (h : WQD ds c Q .normal env L D) : WQD ds c (Exit.inBlock id Q) (.exit id) env L D := fun a w f s d => by
 simp only [Exit.inBlock, if_true]; exact h a w f s d
end
theorem nd_ne : ∀ {L : Own} {i j : Nat} {p q : OwnE} {a b : Nat}, L.bs.Nodup → L[i]? = some p → L[j]? = some q → i < j → a ∈ p.bs → b ∈ q.bs → a ≠ b
 | [], _, _, _, _, _, _, _, hi, _, _, _, _ => by simp at hi
 | r :: L, 0, j + 1, p, q, a, b, hn, hi, hj, _, ha, hb => by
  simp only [List.getElem?_cons_zero, Option.some.injEq] at hi
  subst hi
  simp only [Own.bs, bsOf, List.nodup_append] at hn
  simp only [List.getElem?_cons_succ] at hj
  exact hn.2.2 a ha b (mem_bsOf.2 ⟨q, List.mem_of_getElem? hj, hb⟩)
 | r :: L, i + 1, j + 1, p, q, a, b, hn, hi, hj, hij, ha, hb => by
  simp only [Own.bs, bsOf, List.nodup_append] at hn
  simp only [List.getElem?_cons_succ] at hi hj
  exact nd_ne (L := L) hn.2.1 hi hj (by omega) ha hb
section
variable {ds : List Deferred} {c : Cx} {Q : Exit → Act → World → Prop} {env : Env} {L : Own} {D : List Atom}
end
theorem leavesM {P : Program} {fn : Func} {tmps : Array Value} {R : Ending → World → Prop} {n : Nat} : ∀ (ks : List Nat) (W : World), (∀ k ∈ ks, W.heap[k]? = some (.deferred (some []))) → ks.Nodup → (∀ W', Stp ks W W' → ∃ v, (results fn tmps).run P W' = .ok v W' ∧ R (.returned v) W') → LeavesInM Fence.wide n P fn tmps R (ks.map mk) .returning W
 | [], W, _, _, h => h W (Stp.refl _ _)
 | b :: ks, W, hk, hn, h => by
  have hb := hk b (by simp)
  have hs : Stp [b] W (W.putObj b (.deferred none)) := ⟨rfl, rfl, rfl, by simp [World.putObj], fun i hi hx => World.putObj_heap_other (by simpa using hx)⟩
  refine ⟨by simp, .inl ⟨_, _, rfl, run_takeDeferred hb, leavesM ks _ (fun k hk' => ?_) (List.nodup_cons.1 hn).2 fun W' hs' => h W' ?_⟩⟩
  · refine (World.putObj_heap_other fun e => ?_).trans (hk k (List.mem_cons_of_mem _ hk'))
    subst e
    exact (List.nodup_cons.1 hn).1 hk'
  · exact (hs.mono fun k hk => by simp at hk; simp [hk]).trans (hs'.mono fun k hk => List.mem_cons_of_mem _ hk)
section
variable {P : Program} {fn : Func} {x : Code} {f : FuncId} {args : List Value} {As : List Atom} {u : Value} {n m : Nat} {env : Env} {L : Own} {D : List Atom} {X : List Nat} {w0 : World}
end
end
section
def elp : Value → Nat → Value
 | .slice (some a) _ _, o => .pointer (some (a.add o))
 | _, _ => undef
theorem spl_at : ∀ (us cs : List Value) (o j : Nat), o + us.length ≤ cs.length → (spl cs o us)[j]? = if o ≤ j ∧ j < o + us.length then us[j - o]? else cs[j]?
 | [], cs, o, j, _ => by
  rw [spl, if_neg (by simp)]
 | u :: us, cs, o, j, h => by
  simp only [List.length_cons] at h
  rw [spl, spl_at us (cs.set o u) (o + 1) j (by simp; omega)]
  by_cases h1 : o + 1 ≤ j ∧ j < o + 1 + us.length
  · rw [if_pos h1, if_pos (by simp only [List.length_cons]; omega), show j - o = (j - (o + 1)) + 1 by omega]
    rfl
  · rw [if_neg h1]
    by_cases h2 : j = o
    · subst h2
      rw [if_pos (by simp), List.getElem?_set_self (by omega)]
      simp
    · rw [if_neg (by simp only [List.length_cons]; omega), List.getElem?_set_ne (Ne.symm h2)]
theorem spl_len : ∀ (us cs : List Value) (o : Nat), (spl cs o us).length = cs.length
 | [], _, _ => rfl
 | _ :: us, cs, o => by rw [spl, spl_len us]; simp
theorem row_open {α : Type} [r : Rep α] {S : Nat → Prop} {w : World} {e : TypeId} {v : Value} {xs : List α} (h : (row e v xs).holds S w) (hx : xs ≠ []) :
 ∃ (g cap : Nat) (cs : List Value) (css : List (List Value)), v = .slice (some ⟨g, 0, none⟩) xs.length cap ∧ w.heap[g]? = some (.cells cs.toArray e (0, 0)) ∧ xs.length ≤ cap ∧ cap ≤ maxLen ∧ cs.length = cap * Rep.size α ∧ cs.take (xs.length * Rep.size α) = css.flatten ∧ rdL S w css xs ∧ xs.length ≤ 140737488355328 := by
 obtain ⟨css, hown, hrd, hl⟩ := h
 rcases hown.2 with ⟨_, hn⟩ | ⟨g, cap, cur, hv, _, hg, hc, hm, hs, ht⟩
 · exact absurd (List.length_eq_zero_iff.1 hn) hx
 · exact ⟨g, cap, cur.toList, css, hv, by simpa using hg, hc, hm, by simpa using hs, ht, hrd, hl⟩
theorem row_lies {w : World} {g : Nat} {e : TypeId} {cs fl : List Value} {k : Nat} (hg : w.heap[g]? = some (.cells cs.toArray e (0, 0))) (ht : cs.take k = fl) : Lies w g 0 fl := fun j u hj => by
 subst ht
 rw [List.getElem?_take] at hj
 split at hj
 · rw [cell_of_row w g _ _ e (0, 0) hg]
   simpa using hj
 · cases hj
section
variable {c : Cx} {ops : Array Oper} {J : Cx → Array Oper → List Oper → Env → Own → List Atom → Prop} [iJ : IsJ J] {env : Env} {L : Own} {D : List Atom} {rest : List Oper} {d : Nat} {v : Value} {t : TypeId} {p : String} {af : Array Edge} {x y z : Operand} {T : TypeId}
include iJ
theorem ixR {α : Type} {r : Rep α} (i : Nat) {xs : List α} {m : Int} {E e : TypeId} (hx : ev env x = some v) (hi : L[i]? = some (@row α r e v xs)) (hy : ev env y = some (.int .i64 m)) (ht : SliceTy c.P T E r.size) (h0 : 0 ≤ m) (h1 : m < (xs.length : Int)) (hn : Nat.blt d c.n = true)
 (k : J c ops rest ((d, elp v (m.toNat * r.size)) :: env) L D) : J c ops (⟨some d, .indexAddr T x y, t, p, af, none⟩ :: rest) env L D :=
 iJ.read (σ := Unit) rfl rfl (fun _ => (d, elp v (m.toNat * r.size)) :: env) (fun _ => D) (fun a w f st dh => by
  obtain ⟨g, cap, cs, css, rfl, _⟩ := @row_open α r _ _ _ _ _ (st.own _ (List.mem_of_getElem? hi)) (by intro e; rw [e] at h1; simp at h1; omega)
  obtain ⟨j, hj, hs⟩ := Option.map_eq_some_iff.1 ht.2
  refine ⟨(), _, fun w' hs' => ?_, f.put _ (lt_blt hn), dh⟩
  simp [execOp, f.ev hx, f.ev hy, Instr.indexAt, asIntOf, run_underlying ht.1, h0, h1, sizeOf, typeInfo, hj, hs, elp]) (fun _ => k)
theorem ldR {α : Type} {s : Shape α} (i m : Nat) {xs : List α} {ov : α} {e : TypeId} (hx : ev env x = some (elp v (m * s.size))) (hi : L[i]? = some (@row α (Rep.ofShape s) e v xs)) (hm : xs[m]? = some ov) {E : TypeId} (ht : RowTy c.P E s.size) (hn : Nat.blt d c.n = true)
 (k : ∀ h, s.wf ov → J c ops rest ((d, .agg (s.cells ov h).toArray) :: env) L ((@Atom.mk α (Rep.ofShape s) (.agg (s.cells ov h).toArray) ov) :: (s.sub ov h ++ D))) :
 J c ops (⟨some d, .load E x, t, p, af, none⟩ :: rest) env L D :=
 iJ.read (σ := { h // s.wf ov }) rfl rfl (fun h => (d, .agg (s.cells ov h.1).toArray) :: env) (fun h => (@Atom.mk α (Rep.ofShape s) (.agg (s.cells ov h.1).toArray) ov) :: (s.sub ov h.1 ++ D)) (fun a w f st dh => by
  have hmem := List.mem_of_getElem? hi
  obtain ⟨g, cap, cs, css, rfl, hg, _, _, _, htk, hrd, _⟩ := @row_open α (Rep.ofShape s) _ _ _ _ _ (st.own _ hmem) (by intro e; rw [e] at hm; simp at hm)
  obtain ⟨ds, ⟨h, rfl, hsub, hwf⟩, hl⟩ := @lies_of α (Rep.ofShape s) _ _ _ css xs 0 hrd (row_lies hg htk) m ov hm
  have hgb : g ∈ L.bs := mem_bsOf.2 ⟨_, hmem, by simp [Value.ownBlock]⟩
  refine ⟨⟨h, hwf⟩, .agg (s.cells ov h).toArray, fun w' hs => ?_, f.put _ (lt_blt hn), DH.cons ⟨rfl, ⟨h, by simp [Value.cells], hsub, hwf⟩⟩ (DH.app (fun t ht => hsub t ht) dh)⟩
  have hl' : Lies w' g (0 + m * s.size) (s.cells ov h) := hl.keep (hs.block g (lt_of_heap hg) (by simp))
  have hrun := run_loadAtM (P := c.P) (T := E) (b := g) (o := 0 + m * s.size) (cs := s.cells ov h) (by rw [s.len]; exact ht) hl'
  have hx' := f.ev hx
  simp only [elp, Addr.add_mid, Nat.zero_add] at hx' hrun
  simp [execOp, hx', hrun]) (fun h => k h.1 h.2)
end
section
variable {c : Cx} {ops : Array Oper} {Q : Exit → Act → World → Prop} {env : Env} {L : Own} {D : List Atom} {rest : List Oper} {v : Value} {t : TypeId} {p : String} {af : Array Edge} {x y z : Operand}
theorem stE {α : Type} {s : Shape α} (i m : Nat) {xs : List α} {ov : α} {e : TypeId} (h : s.H) (hx : ev env x = some (elp v (m * s.size))) (hy : ev env y = some (.agg (s.cells ov h).toArray)) (hi : L[i]? = some (@row α (Rep.ofShape s) e v xs)) (hm : m < xs.length) {E : TypeId} (ht : RowTy c.P E s.size) (hA : SubD (s.sub ov h) D) (hw : s.wf ov)
 (k : WL Q c ops rest env (L.set i (@row α (Rep.ofShape s) e v (xs.set m ov))) D) : WL Q c ops (⟨none, .store E x y, t, p, af, none⟩ :: rest) env L D := by
 refine wpl_skip (env' := env) rfl rfl (fun a w f st dh => ?_) k
 have hmem := List.mem_of_getElem? hi
 obtain ⟨g, cap, cs, css, rfl, hg, hc, hmx, hsz, htk, hrd, hlen⟩ := @row_open α (Rep.ofShape s) _ _ _ _ _ (st.own _ hmem) (by intro e; rw [e] at hm; simp at hm)
 have hR : @Rep.size α (Rep.ofShape s) = s.size := rfl
 rw [hR] at hsz htk
 obtain ⟨us, hus⟩ : ∃ us, us = s.cells ov h := ⟨_, rfl⟩
 have hul : us.length = s.size := by rw [hus]; exact s.len ov h
 have hgb : g ∈ L.bs := mem_bsOf.2 ⟨_, hmem, by simp [Value.ownBlock]⟩
 have hm1 : (m + 1) * s.size ≤ cap * s.size := Nat.mul_le_mul_right _ (by omega)
 rw [Nat.succ_mul] at hm1
 have hsub : ∀ t ∈ s.sub ov h, t.holds (Sf L.bs w) w := fun t ht => dh t (hA t ht)
 have hone : us.toArray.all (·.oneCell') = true := by
  rw [hus]
  simpa using s.one ov h hsub
 have hs : Stp [g] w (w.setCells g (m * s.size) us) := stp_setCells g us _ w
 have hg' := heap_setCells us cs (m * s.size) w hg
 have hsv : Stp (@row α (Rep.ofShape s) e (.slice (some ⟨g, 0, none⟩) xs.length cap) xs).bs w (w.setCells g (m * s.size) us) := hs.mono fun b hb => by simpa [Value.ownBlock] using hb
 have hSS : ∀ b, Sf L.bs w b → Sf (Own.bs (L.set i (@row α (Rep.ofShape s) e (.slice (some ⟨g, 0, none⟩) xs.length cap) (xs.set m ov)))) (w.setCells g (m * s.size) us) b := fun b hb => ⟨Nat.lt_of_lt_of_le hb.1 hs.size, fun hx => by
  rcases bs_set hi b hx with h1 | h1
  · have : b = g := by simpa [Value.ownBlock] using h1
    exact hb.2 (this ▸ hgb)
  · exact hb.2 h1⟩
 have hHH : ∀ b, Sf L.bs w b → (w.setCells g (m * s.size) us).heap[b]? = w.heap[b]? := fun b hb => hs.block b hb.1 (fun hx => by
  have : b = g := by simpa using hx
  exact hb.2 (this ▸ hgb))
 have hst := st.upd (p' := @row α (Rep.ofShape s) e (.slice (some ⟨g, 0, none⟩) xs.length cap) (xs.set m ov)) i hi hsv ?_ (by simp [Value.ownBlock]) (fun b hb => .inl hb)
 · have hdh := dh.upd (p' := @row α (Rep.ofShape s) e (.slice (some ⟨g, 0, none⟩) xs.length cap) (xs.set m ov)) i hi hsv (fun b hb => .inl hb)
   refine ⟨w.setCells g (m * s.size) us, ?_, f.putNone _, hst, hdh⟩
   have hrun := run_storeAt_mid (P := c.P) w g (m * s.size) E us.toArray (fun j hj => by
    have hj' : m * s.size + j < cs.length := by simp at hj; omega
    exact ⟨by rw [cell_of_row w g _ _ e (0, 0) hg]; simp [List.getElem?_eq_getElem hj'], frozen_of_row w g _ _ e hg⟩) (by rw [show us.toArray.size = s.size by simpa using hul]; exact ht.2) hone
   have hx' := f.ev hx
   simp only [elp, Addr.add_mid, Nat.zero_add] at hx'
   have hy' := f.ev hy
   rw [← hus] at hy'
   simp [execOp, hx', hy', hrun]
 · -- the row as it is now
   have hlie : ∀ i' x', (xs.set m ov)[i']? = some x' → ∃ ds, @Rep.rd α (Rep.ofShape s) (Sf (Own.bs (L.set i (@row α (Rep.ofShape s) e (.slice (some ⟨g, 0, none⟩) xs.length cap) (xs.set m ov)))) (w.setCells g (m * s.size) us)) (w.setCells g (m * s.size) us) ds x' ∧ Lies (w.setCells g (m * s.size) us) g (0 + (0 + i') * s.size) ds := by
    intro i' x' hx'
    by_cases him : i' = m
    · subst him
      rw [List.getElem?_set_self hm] at hx'
      have : x' = ov := by simpa using hx'.symm
      subst this
      refine ⟨us, ⟨h, hus, fun t ht => Atom.keep (hsub t ht) hSS hHH, hw⟩, fun j u hj => ?_⟩
      have hj' : j < us.length := (List.getElem?_eq_some_iff.1 hj).1
      simp only [Nat.zero_add]
      rw [cell_of_row _ g _ _ e (0, 0) hg', List.getElem?_toArray, spl_at us cs _ _ (by omega), if_pos (by omega), show i' * s.size + j - i' * s.size = j by omega]
      exact hj
    · rw [List.getElem?_set_ne (Ne.symm him)] at hx'
      obtain ⟨ds, hd1, hd2⟩ := @lies_of α (Rep.ofShape s) _ _ _ css xs 0 hrd (row_lies hg htk) i' x' hx'
      have hdl : ds.length = s.size := @Rep.len α (Rep.ofShape s) _ _ _ _ hd1
      refine ⟨ds, @Rep.keep α (Rep.ofShape s) _ _ _ _ _ _ hd1 hSS hHH, fun j u hj => ?_⟩
      have hj' : j < ds.length := (List.getElem?_eq_some_iff.1 hj).1
      have hold := hd2 j u hj
      simp only [Nat.zero_add] at hold ⊢
      rw [cell_of_row w g _ _ e (0, 0) hg, List.getElem?_toArray] at hold
      rw [cell_of_row _ g _ _ e (0, 0) hg', List.getElem?_toArray, spl_at us cs _ _ (by omega), if_neg ?_]
      · exact hold
      · rcases Nat.lt_or_gt_of_ne him with hlt | hlt
        · have := Nat.mul_le_mul_right s.size (show i' + 1 ≤ m by omega)
          rw [Nat.succ_mul] at this
          omega
        · have := Nat.mul_le_mul_right s.size (show m + 1 ≤ i' by omega)
          rw [Nat.succ_mul] at this
          omega
   obtain ⟨css', hr', hl'⟩ := @rdL_of α (Rep.ofShape s) _ _ g 0 (xs.set m ov) 0 hlie
   have hfl := @rdL.len α (Rep.ofShape s) _ _ css' _ hr'
   rw [hR, List.length_set] at hfl
   refine ⟨css', ⟨by rw [List.length_set]; exact hfl, .inr ⟨g, cap, (spl cs (m * s.size) us).toArray, by rw [List.length_set], Nat.zero_le _, hg', by rw [List.length_set]; exact hc, hmx, (show (spl cs (m * s.size) us).toArray.size = cap * s.size by simpa [spl_len] using hsz), ?_⟩⟩, hr', by rw [List.length_set]; exact hlen⟩
   rw [List.length_set]
   show List.take (xs.length * s.size) _ = css'.flatten
   refine List.ext_getElem? fun j => ?_
   by_cases hj : j < xs.length * s.size
   · rw [List.getElem?_take, if_pos hj]
     have hj2 : j < css'.flatten.length := by rw [hfl]; exact hj
     have := hl' j _ (List.getElem?_eq_getElem hj2)
     rw [cell_of_row _ g _ _ e (0, 0) hg', List.getElem?_toArray] at this
     rw [List.getElem?_eq_getElem hj2, ← this]
     simp
   · rw [List.getElem?_eq_none (by simp; omega), List.getElem?_eq_none (by omega)]
end
end
end Go.Eng
namespace Go.Eng
section
section
variable {α : Type} [Inhabited α]
def swapL (xs : List α) (i j : Nat) : List α := (xs.set i (xs.getD j default)).set j (xs.getD i default)
theorem swapL_len (xs : List α) (i j : Nat) : (swapL xs i j).length = xs.length := by simp [swapL]
variable (lt : α → α → Bool)
def insJ (a : Nat) : Nat → List α → List α
 | 0, xs => xs
 | j + 1, xs => if a < j + 1 ∧ lt (xs.getD (j + 1) default) (xs.getD j default) = true then insJ a j (swapL xs (j + 1) j) else xs
theorem insJ_len (a : Nat) : ∀ (j : Nat) (xs : List α), (insJ lt a j xs).length = xs.length
 | 0, _ => rfl
 | j + 1, xs => by
  rw [insJ]
  split
  · rw [insJ_len a j, swapL_len]
  · rfl
def insI (a : Nat) : Nat → Nat → List α → List α
 | 0, _, xs => xs
 | n + 1, i, xs => insI a n (i + 1) (insJ lt a i xs)
theorem insI_len (a : Nat) : ∀ (n i : Nat) (xs : List α), (insI lt a n i xs).length = xs.length
 | 0, _, _ => rfl
 | n + 1, i, xs => by rw [insI, insI_len a n, insJ_len]
def insP (a b : Nat) (xs : List α) : List α := insI lt a (b - (a + 1)) (a + 1) xs
theorem insP_len (a b : Nat) (xs : List α) : (insP lt a b xs).length = xs.length := insI_len lt a _ _ xs
def search (f : Nat → Bool) : Nat → Nat → Nat → Nat
 | 0, i, _ => i
 | n + 1, i, j => if i < j then (if f ((i + j) / 2) = true then search f n ((i + j) / 2 + 1) j else search f n i ((i + j) / 2)) else i
theorem search_le (f : Nat → Bool) : ∀ (n i j : Nat), i ≤ j → i ≤ search f n i j ∧ search f n i j ≤ j
 | 0, i, j, h => ⟨Nat.le_refl _, h⟩
 | n + 1, i, j, h => by
  rw [search]
  split
  · rename_i hi
    split
    · have := search_le f n ((i + j) / 2 + 1) j (by omega); omega
    · have := search_le f n i ((i + j) / 2) (by omega); omega
  · omega
theorem search_end (f : Nat → Bool) (n i j : Nat) (h : j ≤ i) : search f n i j = i := by
 cases n
 · rfl
 · rw [search, if_neg (by omega)]
def shU : Nat → Nat → List α → List α
 | 0, _, xs => xs
 | n + 1, k, xs => shU n (k + 1) (swapL xs k (k + 1))
theorem shU_len : ∀ (n k : Nat) (xs : List α), (shU n k xs).length = xs.length
 | 0, _, _ => rfl
 | n + 1, k, xs => by rw [shU, shU_len n, swapL_len]
def shD : Nat → Nat → List α → List α
 | 0, _, xs => xs
 | n + 1, k, xs => shD n (k - 1) (swapL xs k (k - 1))
theorem shD_len : ∀ (n k : Nat) (xs : List α), (shD n k xs).length = xs.length
 | 0, _, _ => rfl
 | n + 1, k, xs => by rw [shD, shD_len n, swapL_len]
def swR (a b : Nat) : Nat → Nat → List α → List α
 | 0, _, xs => xs
 | n + 1, i, xs => swR a b n (i + 1) (swapL xs (a + i) (b + i))
theorem swR_len (a b : Nat) : ∀ (n i : Nat) (xs : List α), (swR a b n i xs).length = xs.length
 | 0, _, _ => rfl
 | n + 1, i, xs => by rw [swR, swR_len a b n, swapL_len]
def rotF (m : Nat) : Nat → Nat → Nat → List α → List α
 | 0, i, _, xs => swR (m - i) m i 0 xs
 | f + 1, i, j, xs => if i = j then swR (m - i) m i 0 xs else if j < i then rotF m f (i - j) j (swR (m - i) m j 0 xs) else rotF m f i (j - i) (swR (m - i) (m + j - i) i 0 xs)
theorem rotF_len (m : Nat) : ∀ (f i j : Nat) (xs : List α), (rotF m f i j xs).length = xs.length
 | 0, _, _, _ => swR_len ..
 | f + 1, i, j, xs => by
  rw [rotF]
  split
  · exact swR_len ..
  · split
    · rw [rotF_len m f, swR_len]
    · rw [rotF_len m f, swR_len]
def rotP (a m b : Nat) (xs : List α) : List α := rotF m (b - a) (m - a) (b - m) xs
theorem rotP_len (a m b : Nat) (xs : List α) : (rotP a m b xs).length = xs.length := rotF_len ..
def symS (a m b : Nat) (xs : List α) : Nat :=
 if (a + b) / 2 < m then search (fun c => !lt (xs.getD ((a + b) / 2 + m - 1 - c) default) (xs.getD c default)) (b - a) ((a + b) / 2 + m - b) ((a + b) / 2)
 else search (fun c => !lt (xs.getD ((a + b) / 2 + m - 1 - c) default) (xs.getD c default)) (b - a) a m
def symP : Nat → Nat → Nat → Nat → List α → List α
 | 0, _, _, _, xs => xs
 | f + 1, a, m, b, xs =>
  if m - a = 1 then shU (search (fun h => lt (xs.getD h default) (xs.getD a default)) (b - m) m b - 1 - a) a xs
  else if b - m = 1 then shD (m - search (fun h => !lt (xs.getD m default) (xs.getD h default)) (m - a) a m) m xs
  else
   let s := symS lt a m b xs
   let e := (a + b) / 2 + m - s
   let x1 := if s < m ∧ m < e then rotP s m e xs else xs
   let x2 := if a < s ∧ s < (a + b) / 2 then symP f a s ((a + b) / 2) x1 else x1
   if (a + b) / 2 < e ∧ e < b then symP f ((a + b) / 2) e b x2 else x2
theorem symP_len : ∀ (f a m b : Nat) (xs : List α), (symP lt f a m b xs).length = xs.length
 | 0, _, _, _, _ => rfl
 | f + 1, a, m, b, xs => by
  rw [symP]
  split
  · exact shU_len ..
  · split
    · exact shD_len ..
    · simp only
      split
      · rw [symP_len f]
        split
        · rw [symP_len f]
          split
          · exact rotP_len ..
          · rfl
        · split
          · exact rotP_len ..
          · rfl
      · split
        · rw [symP_len f]
          split
          · exact rotP_len ..
          · rfl
        · split
          · exact rotP_len ..
          · rfl
def blkP (n : Nat) : Nat → Nat → List α → List α
 | 0, a, xs => insP lt a n xs
 | f + 1, a, xs => if a + 20 ≤ n then blkP n f (a + 20) (insP lt a (a + 20) xs) else insP lt a n xs
theorem blkP_len (n : Nat) : ∀ (f a : Nat) (xs : List α), (blkP lt n f a xs).length = xs.length
 | 0, _, _ => insP_len ..
 | f + 1, a, xs => by
  rw [blkP]
  split
  · rw [blkP_len n f, insP_len]
  · exact insP_len ..
def mrgP (n z : Nat) : Nat → Nat → List α → List α
 | 0, a, xs => if a + z < n then symP lt (n - a) a (a + z) n xs else xs
 | f + 1, a, xs => if a + 2 * z ≤ n then mrgP n z f (a + 2 * z) (symP lt (2 * z) a (a + z) (a + 2 * z) xs) else if a + z < n then symP lt (n - a) a (a + z) n xs else xs
theorem mrgP_len (n z : Nat) : ∀ (f a : Nat) (xs : List α), (mrgP lt n z f a xs).length = xs.length
 | 0, _, _ => by
  rw [mrgP]
  split
  · exact symP_len ..
  · rfl
 | f + 1, a, xs => by
  rw [mrgP]
  split
  · rw [mrgP_len n z f, symP_len]
  · split
    · exact symP_len ..
    · rfl
def outP (n : Nat) : Nat → Nat → List α → List α
 | 0, _, xs => xs
 | f + 1, z, xs => if z < n then outP n f (2 * z) (mrgP lt n z n 0 xs) else xs
theorem outP_len (n : Nat) : ∀ (f z : Nat) (xs : List α), (outP lt n f z xs).length = xs.length
 | 0, _, _ => rfl
 | f + 1, z, xs => by
  rw [outP]
  split
  · rw [outP_len n f, mrgP_len]
  · rfl
def sortP (xs : List α) : List α := outP lt xs.length xs.length 20 (blkP lt xs.length xs.length 0 xs)
theorem sortP_len (xs : List α) : (sortP lt xs).length = xs.length := by rw [sortP, outP_len, blkP_len]
end
end
end Go.Eng
namespace Go.Eng
open Go.RowKit
section
theorem row_put {α : Type} {s : Shape α} {c : Cx} {w w' : World} {L : Own} {D : List Atom} (i m : Nat) {xs : List α} {ov : α} {e : TypeId} {g cap : Nat} {cs : List Value} (h : s.H) (hi : L[i]? = some (@row α (Rep.ofShape s) e (.slice (some ⟨g, 0, none⟩) xs.length cap) xs)) (hm : m < xs.length) (hA : SubD (s.sub ov h) D) (hw : s.wf ov)
 (st : St c.w0 c.M w L) (dh : DH D w L) (hg : w.heap[g]? = some (.cells cs.toArray e (0, 0))) (hs : Stp [g] w w') (hg' : w'.heap[g]? = some (.cells (spl cs (m * s.size) (s.cells ov h)).toArray e (0, 0))) :
 St c.w0 c.M w' (L.set i (@row α (Rep.ofShape s) e (.slice (some ⟨g, 0, none⟩) xs.length cap) (xs.set m ov))) ∧ DH D w' (L.set i (@row α (Rep.ofShape s) e (.slice (some ⟨g, 0, none⟩) xs.length cap) (xs.set m ov))) := by
 have hmem := List.mem_of_getElem? hi
 obtain ⟨g1, cap1, cs1, css, hv1, hg1, hc, hmx, hsz, htk, hrd, hlen⟩ := @row_open α (Rep.ofShape s) _ _ _ _ _ (st.own _ hmem) (by intro e; rw [e] at hm; simp at hm)
 simp only [Value.slice.injEq, Option.some.injEq, Addr.mk.injEq, and_true, true_and] at hv1
 obtain ⟨rfl, rfl⟩ := hv1
 rw [hg] at hg1
 have hcs : cs = cs1 := by simpa using hg1
 subst hcs
 have hR : @Rep.size α (Rep.ofShape s) = s.size := rfl
 rw [hR] at hsz htk
 obtain ⟨us, hus⟩ : ∃ us, us = s.cells ov h := ⟨_, rfl⟩
 have hul : us.length = s.size := by rw [hus]; exact s.len ov h
 rw [← hus] at hg'
 have hgb : g ∈ L.bs := mem_bsOf.2 ⟨_, hmem, by simp [Value.ownBlock]⟩
 have hm1 : (m + 1) * s.size ≤ cap * s.size := Nat.mul_le_mul_right _ (by omega)
 rw [Nat.succ_mul] at hm1
 have hsub : ∀ t ∈ s.sub ov h, t.holds (Sf L.bs w) w := fun t ht => dh t (hA t ht)
 have hsv : Stp (@row α (Rep.ofShape s) e (.slice (some ⟨g, 0, none⟩) xs.length cap) xs).bs w w' := hs.mono fun b hb => by simpa [Value.ownBlock] using hb
 have hSS : ∀ b, Sf L.bs w b → Sf (Own.bs (L.set i (@row α (Rep.ofShape s) e (.slice (some ⟨g, 0, none⟩) xs.length cap) (xs.set m ov)))) w' b := fun b hb => ⟨Nat.lt_of_lt_of_le hb.1 hs.size, fun hx => by
  rcases bs_set hi b hx with h1 | h1
  · have : b = g := by simpa [Value.ownBlock] using h1
    exact hb.2 (this ▸ hgb)
  · exact hb.2 h1⟩
 have hHH : ∀ b, Sf L.bs w b → w'.heap[b]? = w.heap[b]? := fun b hb => hs.block b hb.1 (fun hx => by
  have : b = g := by simpa using hx
  exact hb.2 (this ▸ hgb))
 refine ⟨st.upd (p' := @row α (Rep.ofShape s) e (.slice (some ⟨g, 0, none⟩) xs.length cap) (xs.set m ov)) i hi hsv ?_ (by simp [Value.ownBlock]) (fun b hb => .inl hb), dh.upd (p' := @row α (Rep.ofShape s) e (.slice (some ⟨g, 0, none⟩) xs.length cap) (xs.set m ov)) i hi hsv (fun b hb => .inl hb)⟩
 have hlie : ∀ i' x', (xs.set m ov)[i']? = some x' → ∃ ds, @Rep.rd α (Rep.ofShape s) (Sf (Own.bs (L.set i (@row α (Rep.ofShape s) e (.slice (some ⟨g, 0, none⟩) xs.length cap) (xs.set m ov)))) w') w' ds x' ∧ Lies w' g (0 + (0 + i') * s.size) ds := by
  intro i' x' hx'
  by_cases him : i' = m
  · subst him
    rw [List.getElem?_set_self hm] at hx'
    have : x' = ov := by simpa using hx'.symm
    subst this
    refine ⟨us, ⟨h, hus, fun t ht => Atom.keep (hsub t ht) hSS hHH, hw⟩, fun j u hj => ?_⟩
    have hj' : j < us.length := (List.getElem?_eq_some_iff.1 hj).1
    simp only [Nat.zero_add]
    rw [cell_of_row _ g _ _ e (0, 0) hg', List.getElem?_toArray, spl_at us cs _ _ (by omega), if_pos (by omega), show i' * s.size + j - i' * s.size = j by omega]
    exact hj
  · rw [List.getElem?_set_ne (Ne.symm him)] at hx'
    obtain ⟨ds, hd1, hd2⟩ := @lies_of α (Rep.ofShape s) _ _ _ css xs 0 hrd (row_lies hg htk) i' x' hx'
    have hdl : ds.length = s.size := @Rep.len α (Rep.ofShape s) _ _ _ _ hd1
    refine ⟨ds, @Rep.keep α (Rep.ofShape s) _ _ _ _ _ _ hd1 hSS hHH, fun j u hj => ?_⟩
    have hj' : j < ds.length := (List.getElem?_eq_some_iff.1 hj).1
    have hold := hd2 j u hj
    simp only [Nat.zero_add] at hold ⊢
    rw [cell_of_row w g _ _ e (0, 0) hg, List.getElem?_toArray] at hold
    rw [cell_of_row _ g _ _ e (0, 0) hg', List.getElem?_toArray, spl_at us cs _ _ (by omega), if_neg ?_]
    · exact hold
    · rcases Nat.lt_or_gt_of_ne him with hlt | hlt
      · have := Nat.mul_le_mul_right s.size (show i' + 1 ≤ m by omega)
        rw [Nat.succ_mul] at this
        omega
      · have := Nat.mul_le_mul_right s.size (show m + 1 ≤ i' by omega)
        rw [Nat.succ_mul] at this
        omega
 obtain ⟨css', hr', hl'⟩ := @rdL_of α (Rep.ofShape s) _ _ g 0 (xs.set m ov) 0 hlie
 have hfl := @rdL.len α (Rep.ofShape s) _ _ css' _ hr'
 rw [hR, List.length_set] at hfl
 refine ⟨css', ⟨by rw [List.length_set]; exact hfl, .inr ⟨g, cap, (spl cs (m * s.size) us).toArray, by rw [List.length_set], Nat.zero_le _, hg', by rw [List.length_set]; exact hc, hmx, (show (spl cs (m * s.size) us).toArray.size = cap * s.size by simpa [spl_len] using hsz), ?_⟩⟩, hr', by rw [List.length_set]; exact hlen⟩
 rw [List.length_set]
 show List.take (xs.length * s.size) _ = css'.flatten
 refine List.ext_getElem? fun j => ?_
 by_cases hj : j < xs.length * s.size
 · rw [List.getElem?_take, if_pos hj]
   have hj2 : j < css'.flatten.length := by rw [hfl]; exact hj
   have := hl' j _ (List.getElem?_eq_getElem hj2)
   rw [cell_of_row _ g _ _ e (0, 0) hg', List.getElem?_toArray] at this
   rw [List.getElem?_eq_getElem hj2, ← this]
   simp
 · rw [List.getElem?_eq_none (by simp; omega), List.getElem?_eq_none (by omega)]
section
variable {c : Cx} {ops : Array Oper} {J : Cx → Array Oper → List Oper → Env → Own → List Atom → Prop} [iJ : IsJ J] {env : Env} {L : Own} {D : List Atom} {rest : List Oper} {d : Nat} {v : Value} {t : TypeId} {p : String} {af : Array Edge} {x y z : Operand} {T : TypeId}
include iJ
theorem ixN {α : Type} {r : Rep α} (i n : Nat) {xs : List α} {m : Int} {E e : TypeId} (hx : ev env x = some v) (hi : L[i]? = some (@row α r e v xs)) (hy : ev env y = some (.int .i64 m)) (ht : SliceTy c.P T E r.size) (hm : m = (n : Int)) (h1 : n < xs.length) (hn : Nat.blt d c.n = true)
 (k : J c ops rest ((d, elp v (n * r.size)) :: env) L D) : J c ops (⟨some d, .indexAddr T x y, t, p, af, none⟩ :: rest) env L D :=
 ixR i hx hi hy ht (by omega) (by omega) hn (by rw [hm]; exact k)
omit iJ in
theorem elp_fields {S : Nat → Prop} {w : World} {α : Type} [r : Rep α] {e : TypeId} {v : Value} {xs : List α} (h : (row e v xs).holds S w) (hx : xs ≠ []) : ∃ g cap, v = .slice (some ⟨g, 0, none⟩) xs.length cap := by
 obtain ⟨g, cap, cs, css, hv, _⟩ := row_open h hx
 exact ⟨g, cap, hv⟩
theorem faE {α : Type} {r : Rep α} (i : Nat) {xs : List α} {e : TypeId} {o off j : Nat} (hx : ev env x = some (elp v o)) (hi : L[i]? = some (@row α r e v xs)) (hne : 0 < xs.length) (hF : FieldAt c.P T j off) (hn : Nat.blt d c.n = true)
 (k : J c ops rest ((d, elp v (o + off)) :: env) L D) : J c ops (⟨some d, .fieldAddr T x j, t, p, af, none⟩ :: rest) env L D :=
 iJ.fact (q := ∃ g cap, v = .slice (some ⟨g, 0, none⟩) xs.length cap) (fun a w f st dh => @elp_fields _ _ α r _ _ _ (st.own _ (List.mem_of_getElem? hi)) (by intro e; rw [e] at hne; simp at hne)) fun ⟨g, cap, hv⟩ => by
  subst hv
  simp only [elp, Addr.add_mid] at hx k
  exact fa hx hF hn (by rw [Nat.add_assoc]; exact k)
theorem ldE {α : Type} {s : Shape α} (i m o : Nat) {xs : List α} {ov : α} {e : TypeId} (u : s.H → Value) (hx : ev env x = some (elp v (m * s.size + o))) (hi : L[i]? = some (@row α (Rep.ofShape s) e v xs)) (hm : xs[m]? = some ov) (hu : ∀ h, (s.cells ov h)[o]? = some (u h)) {E : TypeId} (ht : OneTy c.P E) (hn : Nat.blt d c.n = true)
 (k : ∀ h, s.wf ov → J c ops rest ((d, u h) :: env) L (s.sub ov h ++ D)) :
 J c ops (⟨some d, .load E x, t, p, af, none⟩ :: rest) env L D :=
 iJ.read (σ := { h // s.wf ov }) rfl rfl (fun h => (d, u h.1) :: env) (fun h => s.sub ov h.1 ++ D) (fun a w f st dh => by
  have hmem := List.mem_of_getElem? hi
  obtain ⟨g, cap, cs, css, rfl, hg, _, _, _, htk, hrd, _⟩ := @row_open α (Rep.ofShape s) _ _ _ _ _ (st.own _ hmem) (by intro e; rw [e] at hm; simp at hm)
  obtain ⟨ds, ⟨h, rfl, hsub, hwf⟩, hl⟩ := @lies_of α (Rep.ofShape s) _ _ _ css xs 0 hrd (row_lies hg htk) m ov hm
  have hgb : g ∈ L.bs := mem_bsOf.2 ⟨_, hmem, by simp [Value.ownBlock]⟩
  refine ⟨⟨h, hwf⟩, u h, fun w' hs => ?_, f.put _ (lt_blt hn), DH.app (fun t ht => hsub t ht) dh⟩
  have hl' : Lies w' g (0 + m * s.size) (s.cells ov h) := hl.keep (hs.block g (lt_of_heap hg) (by simp))
  have hc := hl' o _ (hu h)
  have hrun := run_loadAt1 (P := c.P) ht (a := ⟨g, m * s.size + o, none⟩) (v := u h) (w := w') (by simpa using hc)
  have hx' := f.ev hx
  simp only [elp, Addr.add_mid, Nat.zero_add] at hx'
  simp [execOp, hx', hrun]) (fun h => k h.1 h.2)
end
section
variable {c : Cx} {ops : Array Oper} {Q : Exit → Act → World → Prop} {env : Env} {L : Own} {D : List Atom} {rest : List Oper} {d : Nat} {v : Value} {t : TypeId} {p : String} {af : Array Edge} {x y z : Operand}
theorem stA {α : Type} {s : Shape α} (i m j : Nat) {xs : List α} {ov : α} {u : Value} {e : TypeId} (hx : ev env x = some (elp v (m * s.size))) (hy : ev env y = some u) (hj : D[j]? = some (@Atom.mk α (Rep.ofShape s) u ov)) (hi : L[i]? = some (@row α (Rep.ofShape s) e v xs)) (hm : m < xs.length) {E : TypeId} (ht : RowTy c.P E s.size)
 (k : WL Q c ops rest env (L.set i (@row α (Rep.ofShape s) e v (xs.set m ov))) D) : WL Q c ops (⟨none, .store E x y, t, p, af, none⟩ :: rest) env L D := by
 intro a w f st dh
 obtain ⟨ha, h, hcs, hsub, hwf⟩ := dh.at_ j hj
 have hu : u = .agg (s.cells ov h).toArray := by
  cases u with
  | agg cs =>
   simp only [Value.cells] at hcs
   rw [← hcs]
  | _ => exact absurd ha (by simp [isAggV, Rep.ofShape])
 subst hu
 exact stE (D := s.sub ov h ++ D) i m h hx hy hi hm ht (fun t ht => List.mem_append_left _ ht) hwf (fun a w f st dh => k a w f st (fun t ht => dh t (List.mem_append_right _ ht))) a w f st (DH.app (fun t ht => hsub t ht) dh)
theorem stF {α β : Type} {s : Shape α} {r2 : Rep β} (i m o j : Nat) (h' : s.H) {xs : List α} {ys : List β} {ov : α} {u : Value} {e : TypeId} (hx : ev env x = some (elp v (m * s.size + o))) (hy : ev env y = some u) (hj : D[j]? = some (@Atom.mk (List β) (@repList β r2) u ys)) (hi : L[i]? = some (@row α (Rep.ofShape s) e v xs)) (hm : xs[m]? = some ov) (ho : o < s.size)
 (hc : ∀ h, (s.cells ov h).set o u = s.cells ov h') (hA : SubD (s.sub ov h') D) {E : TypeId} (ht : OneTy c.P E) (k : WL Q c ops rest env L D) : WL Q c ops (⟨none, .store E x y, t, p, af, none⟩ :: rest) env L D := by
 refine gtL (iJ := isJ_WL Q) (q := u.oneCell' = true) (fun _ _ h => oneCell_of_list (h _ (List.mem_of_getElem? hj))) fun hu => wpl_skip (env' := env) rfl rfl (fun a w f st dh => ?_) k
 have hmem := List.mem_of_getElem? hi
 have hml : m < xs.length := (List.getElem?_eq_some_iff.1 hm).1
 obtain ⟨g, cap, cs, css, rfl, hg, hc1, hmx, hsz, htk, hrd, hlen⟩ := @row_open α (Rep.ofShape s) _ _ _ _ _ (st.own _ hmem) (by intro e; rw [e] at hm; simp at hm)
 have hR : @Rep.size α (Rep.ofShape s) = s.size := rfl
 rw [hR] at hsz
 have hm1 : (m + 1) * s.size ≤ cap * s.size := Nat.mul_le_mul_right _ (by omega)
 rw [Nat.succ_mul] at hm1
 obtain ⟨ds, ⟨h, rfl, hsub, hwf⟩, hl⟩ := @lies_of α (Rep.ofShape s) _ _ _ css xs 0 hrd (row_lies hg htk) m ov hm
 rw [hR] at hl
 have hlen0 : (s.cells ov h).length = s.size := s.len ov h
 have hlen1 : (s.cells ov h').length = s.size := s.len ov h'
 have hspl : spl cs (m * s.size) (s.cells ov h') = cs.set (m * s.size + o) u := by
  refine List.ext_getElem? fun q => ?_
  rw [spl_at _ _ _ _ (by omega)]
  by_cases hq : m * s.size ≤ q ∧ q < m * s.size + (s.cells ov h').length
  · rw [if_pos hq, ← hc h, List.getElem?_set, List.getElem?_set]
    by_cases hqo : o = q - m * s.size
    · rw [if_pos hqo, if_pos (by omega), if_pos (by omega), if_pos (by omega)]
    · rw [if_neg hqo, if_neg (by omega)]
      have := hl (q - m * s.size) _ (List.getElem?_eq_getElem (show q - m * s.size < (s.cells ov h).length by omega))
      rw [cell_of_row w g _ _ e (0, 0) hg, List.getElem?_toArray, show 0 + m * s.size + (q - m * s.size) = q by omega] at this
      rw [this, List.getElem?_eq_getElem (by omega)]
  · rw [if_neg hq, List.getElem?_set_ne (by omega)]
 have hs : Stp [g] w (w.setCell ⟨g, m * s.size + o, none⟩ u) := stp_setCell w g (m * s.size + o) u
 have hg' : (w.setCell ⟨g, m * s.size + o, none⟩ u).heap[g]? = some (.cells (spl cs (m * s.size) (s.cells ov h')).toArray e (0, 0)) := by
  rw [hspl, heap_setCell_same w g _ _ e u hg]
  simp
 have hput := row_put i m h' hi hml hA hwf st dh hg hs hg'
 have hset : xs.set m ov = xs := by
  refine List.ext_getElem? fun q => ?_
  rw [List.getElem?_set]
  split
  · rename_i e1
    subst e1
    rw [hm]
  · rfl
 have hLL : L.set i (@row α (Rep.ofShape s) e (.slice (some ⟨g, 0, none⟩) xs.length cap) (xs.set m ov)) = L := by
  rw [hset]
  refine List.ext_getElem? fun q => ?_
  rw [List.getElem?_set]
  split
  · rename_i e1
    subst e1
    rw [if_pos (List.getElem?_eq_some_iff.1 hi).1, hi]
  · rfl
 rw [hLL] at hput
 refine ⟨w.setCell ⟨g, m * s.size + o, none⟩ u, ?_, f.putNone _, hput.1, hput.2⟩
 have h1 : w.cell? ⟨g, m * s.size + o, none⟩ = some cs[m * s.size + o] := by rw [cell_of_row w g _ _ e (0, 0) hg, List.getElem?_toArray, List.getElem?_eq_getElem (by omega)]
 have h2 : w.frozen? ⟨g, m * s.size + o, none⟩ = false := frozen_of_row w g _ _ e hg
 obtain ⟨j', hj', hs'⟩ := Option.map_eq_some_iff.1 ht.2
 have hcu : u.cells = #[u] := by cases u <;> first | rfl | simp [Value.oneCell'] at hu
 have hst : (store ⟨g, m * s.size + o, none⟩ u).run c.P w = .ok () (w.setCell ⟨g, m * s.size + o, none⟩ u) := by
  rw [run_store c.P w ⟨g, m * s.size + o, none⟩ u .plain hu]
  simp [stored, h1, h2]
 have hx' := f.ev hx
 simp only [elp, Addr.add_mid, Nat.zero_add] at hx'
 simp [execOp, hx', f.ev hy, Instr.storeAt, Instr.sureAddr, storeVar, hcu, sizeOf, typeInfo, hj', hs', storeCells, Addr.add, hst]
theorem cfqc {f : FuncId} {vs us : List Value} {As : List Atom} {v : Value} {first cap : Array Value} {x : Operand} (h : FnV c.P f us As v) (hok : FnOk c.P f) {xs : List Operand} {ats : Array TypeId}
 (hx : ev env x = some (.func (.func f) first cap)) (hxs : evs env xs = some vs) (hus : first.toList ++ vs ++ cap.toList = us) (hA : SubD As D) (hn : Nat.blt d c.n = true) (k : WLQ Q c ops rest ((d, v) :: env) L D) :
 WLQ Q c ops (⟨some d, .call { callee := .value x, args := xs.toArray, argTypes := ats }, t, p, af, none⟩ :: rest) env L D := by
 intro a w fr st dh
 subst hus
 unfold wpQuiet
 rw [if_pos (show Region.wanted ⟨some d, .call { callee := .value x, args := xs.toArray, argTypes := ats }, t, p, af, none⟩ (yielded ops a.tmps) = true from rfl)]
 refine ⟨v, fun w' hw' => ?_, k _ w (fr.put v (lt_blt hn)) st dh⟩
 have hrun := run_call (P := c.P) (ρ := a.eval) (o := ⟨some d, .call { callee := .value x, args := xs.toArray, argTypes := ats }, t, p, af, none⟩) (x := x) (xs := xs) (ats := ats) (f := f) (first := first) (cap := cap) (vs := vs) rfl (fr.ev hx) (fr.evs hxs) hok w'
 unfold Oper.quietAt
 rw [hrun]
 refine ⟨rfl, ?_⟩
 have hc := h L.bs w' (by simpa [Own.bs, bsOf] using st.nd) (fun b hb => Nat.lt_of_lt_of_le (st.lt b hb) hw'.size) (by simp) (fun t ht => by
  have := (dh.step hw'.nil) t (hA t ht)
  simpa [Own.bs, bsOf] using this)
 refine Calls.mono hc fun e w'' ⟨u, he, hp⟩ => ?_
 obtain ⟨hs, y, hR, _⟩ := hp
 have hR' : u = v := hR
 subst hR'
 have hs' : Stp [] w' w'' := by simpa [Own.bs, bsOf] using hs
 exact ⟨he, hw'.trans hs'⟩
end
end
section
section
variable {c : Cx} {Q : Exit → Act → World → Prop} {env : Env} {L : Own} {D : List Atom}
theorem lenRC {xx : Code} {α : Type} {r : Rep α} (i : Nat) {xs : List α} {v : Value} {e : TypeId} (hi : L[i]? = some (@row α r e v xs)) (k : xs.length ≤ 140737488355328 → WC c xx Q env L D) : WC c xx Q env L D := by
 intro a w f st dh
 obtain ⟨css, _, _, hl⟩ := st.own _ (List.mem_of_getElem? hi)
 exact k hl a w f st dh
end
section
variable {c : Cx} {ops : Array Oper} {J : Cx → Array Oper → List Oper → Env → Own → List Atom → Prop} [iJ : IsJ J] {env : Env} {L : Own} {D : List Atom} {rest : List Oper} {d : Nat} {t : TypeId} {p : String} {af : Array Edge} {x y : Operand} {xt yt : TypeId}
include iJ
theorem sbE {m n r : Int} (hx : ev env x = some (.int .i64 m)) (hy : ev env y = some (.int .i64 n)) (hr : m - n = r) (hi : InI r) (hn : Nat.blt d c.n = true) (k : J c ops rest ((d, .int .i64 r) :: env) L D) :
 J c ops (⟨some d, .binOp .sub xt x y yt, t, p, af, none⟩ :: rest) env L D := by
 subst hr
 exact sbI hx hy hi hn k
theorem adE {m n r : Int} (hx : ev env x = some (.int .i64 m)) (hy : ev env y = some (.int .i64 n)) (hr : m + n = r) (hi : InI r) (hn : Nat.blt d c.n = true) (k : J c ops rest ((d, .int .i64 r) :: env) L D) :
 J c ops (⟨some d, .binOp .add xt x y yt, t, p, af, none⟩ :: rest) env L D := by
 subst hr
 exact adI hx hy hi hn k
theorem mlE {m n r : Int} (hx : ev env x = some (.int .i64 m)) (hy : ev env y = some (.int .i64 n)) (hr : m * n = r) (hi : InI r) (hn : Nat.blt d c.n = true) (k : J c ops rest ((d, .int .i64 r) :: env) L D) :
 J c ops (⟨some d, .binOp .mul xt x y yt, t, p, af, none⟩ :: rest) env L D := by
 subst hr
 exact muW hx hy hn (by rw [wrap_i64_in hi]; exact k)
end
section
variable {c : Cx} {Q : Exit → Act → World → Prop} {env : Env} {L : Own} {D : List Atom} {x : Code}
theorem jnC {σ : Type} (C : Env) (Dc : List Atom) (V : σ → Env → Env) (LL : σ → Own) (I : σ → Prop) (_hC : Go.Eng.Sub C env) (_hc : SubD Dc D) (h1 : WC c x (Exit.then (JK c (fun s => V s C) LL (fun _ => Dc) I) Q) env L D) (h2 : ∀ s, I s → WQ c Q .normal (V s C) (LL s) Dc) : WC c x Q env L D :=
 jn (fun s => V s C) LL (fun _ => Dc) I h1 h2
end
theorem u64_nat {n : Nat} (h : n < 9223372036854775808) : IntKind.u64.wrap (n : Int) = (n : Int) := by
 simp [IntKind.wrap, IntKind.signed, IntKind.bits]
 omega
theorem i64_nat {n : Nat} (h : n < 9223372036854775808) : IntKind.i64.wrap (n : Int) = (n : Int) := wrap_i64_in ⟨by omega, by omega⟩
theorem shr1n (u : Nat) : ((u : Int)).fdiv (2 ^ min (1 : Int).toNat IntKind.u64.bits) = ((u / 2 : Nat) : Int) := by
 rw [show ((2 : Int) ^ min (1 : Int).toNat IntKind.u64.bits) = 2 by decide]
 rw [Int.fdiv_eq_ediv_of_nonneg _ (by decide)]
 omega
section
variable {α : Type} [Inhabited α]
theorem search_lt (f : Nat → Bool) {n i j : Nat} (h : i < j) (hn : 0 < n) : search f n i j = if f ((i + j) / 2) = true then search f (n - 1) ((i + j) / 2 + 1) j else search f (n - 1) i ((i + j) / 2) := by
 obtain ⟨n, rfl⟩ : ∃ k, n = k + 1 := ⟨n - 1, by omega⟩
 rw [search, if_pos h]
 rfl
theorem search_t (f : Nat → Bool) {n i j : Nat} (h : i < j) (hn : j - i ≤ n) (hf : f ((i + j) / 2) = true) : search f n i j = search f (n - 1) ((i + j) / 2 + 1) j := by rw [search_lt f h (by omega), if_pos hf]
theorem search_f (f : Nat → Bool) {n i j : Nat} (h : i < j) (hn : j - i ≤ n) (hf : ¬ f ((i + j) / 2) = true) : search f n i j = search f (n - 1) i ((i + j) / 2) := by rw [search_lt f h (by omega), if_neg hf]
theorem rotF_gt (m : Nat) {f i j : Nat} {xs : List α} (h : j < i) (hf : 0 < f) : rotF m f i j xs = rotF m (f - 1) (i - j) j (swR (m - i) m j 0 xs) := by
 obtain ⟨f, rfl⟩ : ∃ k, f = k + 1 := ⟨f - 1, by omega⟩
 rw [rotF, if_neg (by omega), if_pos h]
 rfl
theorem rotF_lt (m : Nat) {f i j : Nat} {xs : List α} (h : i < j) (hf : 0 < f) : rotF m f i j xs = rotF m (f - 1) i (j - i) (swR (m - i) (m + j - i) i 0 xs) := by
 obtain ⟨f, rfl⟩ : ∃ k, f = k + 1 := ⟨f - 1, by omega⟩
 rw [rotF, if_neg (by omega), if_neg (by omega)]
 rfl
theorem rotF_end (m : Nat) {f i : Nat} {xs : List α} : rotF m f i i xs = swR (m - i) m i 0 xs := by
 cases f
 · rfl
 · rw [rotF, if_pos rfl]
theorem shU_lt {k e : Nat} {xs : List α} (h : k < e) : shU (e - k) k xs = shU (e - (k + 1)) (k + 1) (swapL xs k (k + 1)) := by rw [show e - k = e - (k + 1) + 1 by omega, shU]
theorem shD_gt {k e : Nat} {xs : List α} (h : e < k) : shD (k - e) k xs = shD (k - 1 - e) (k - 1) (swapL xs k (k - 1)) := by rw [show k - e = k - 1 - e + 1 by omega, shD]
theorem blkP_le (lt : α → α → Bool) {n f a : Nat} {xs : List α} (h : a + 20 ≤ n) (hf : 0 < f) : blkP lt n f a xs = blkP lt n (f - 1) (a + 20) (insP lt a (a + 20) xs) := by
 obtain ⟨f, rfl⟩ : ∃ k, f = k + 1 := ⟨f - 1, by omega⟩
 rw [blkP, if_pos h]
 rfl
theorem blkP_end (lt : α → α → Bool) {n f a : Nat} {xs : List α} (h : ¬ a + 20 ≤ n) : blkP lt n f a xs = insP lt a n xs := by
 cases f
 · rfl
 · rw [blkP, if_neg h]
theorem mrgP_le (lt : α → α → Bool) {n z f a : Nat} {xs : List α} (h : a + 2 * z ≤ n) (hf : 0 < f) : mrgP lt n z f a xs = mrgP lt n z (f - 1) (2 * z + a) (symP lt (2 * z) a (a + z) (2 * z + a) xs) := by
 rw [Nat.add_comm (2 * z) a]
 obtain ⟨f, rfl⟩ : ∃ k, f = k + 1 := ⟨f - 1, by omega⟩
 rw [mrgP, if_pos h]
 rfl
theorem mrgP_end (lt : α → α → Bool) {n z f a : Nat} {xs : List α} (h : ¬ a + 2 * z ≤ n) : mrgP lt n z f a xs = if a + z < n then symP lt (n - a) a (a + z) n xs else xs := by
 cases f
 · rfl
 · rw [mrgP, if_neg h]
theorem outP_lt (lt : α → α → Bool) {n z f : Nat} {xs : List α} (h : z < n) (hf : 0 < f) : outP lt n f z xs = outP lt n (f - 1) (2 * z) (mrgP lt n z n 0 xs) := by
 obtain ⟨f, rfl⟩ : ∃ k, f = k + 1 := ⟨f - 1, by omega⟩
 rw [outP, if_pos h]
 rfl
theorem outP_end (lt : α → α → Bool) {n z f : Nat} {xs : List α} (h : ¬ z < n) : outP lt n f z xs = xs := by
 cases f
 · rfl
 · rw [outP, if_neg h]
theorem insJ_eq (lt : α → α → Bool) (a j : Nat) (xs : List α) : insJ lt a j xs = if a < j ∧ lt (xs.getD j default) (xs.getD (j - 1) default) = true then insJ lt a (j - 1) (swapL xs j (j - 1)) else xs := by
 cases j with
 | zero => rw [if_neg (by omega)]; rfl
 | succ j => rfl
end
end
section
section
variable {c : Cx} {ops : Array Oper} {J : Cx → Array Oper → List Oper → Env → Own → List Atom → Prop} [iJ : IsJ J] {env : Env} {L : Own} {D : List Atom} {rest : List Oper} {d : Nat} {t : TypeId} {p : String} {af : Array Edge} {x y : Operand} {T : TypeId}
include iJ
theorem cpV {A : Option Addr} {m cc : Nat} {E : TypeId} (hx : ev env x = some (.slice A m cc)) (ht : c.P.underlying T = some (.slice E)) (hn : Nat.blt d c.n = true)
 (k : J c ops rest ((d, .int .i64 (cc : Int)) :: env) L D) :
 J c ops (⟨some d, .call { callee := .builtin .cap, args := #[x], argTypes := #[T] }, t, p, af, none⟩ :: rest) env L D :=
 pu rfl rfl hn (fun a w f => by simp [execOp, resolve, invoke, builtin, f.ev hx, Builtin.cap_, run_underlying ht, goInt]) k
theorem slV {A : Option Addr} {m cc h : Nat} {E : TypeId} {sz : Nat} {hi : Operand} (hx : ev env x = some (.slice A m cc)) (ht : SliceTy c.P T E sz) (e2 : ev env hi = some (.int .i64 (h : Int))) (h3 : h ≤ cc) (hn : Nat.blt d c.n = true)
 (k : J c ops rest ((d, .slice A h cc) :: env) L D) :
 J c ops (⟨some d, .slice T x none (some hi) none, t, p, af, none⟩ :: rest) env L D :=
 pu rfl rfl hn (fun a w f => by
  obtain ⟨j, hj, hs⟩ := Option.map_eq_some_iff.1 ht.2
  have b2 : (0 : Int) ≤ h ∧ (h : Int) ≤ (cc : Int) := by omega
  have e0 : (if cc = 0 then A else A.map (·.add 0)) = A := by
   split
   · rfl
   · cases A
     · rfl
     · simp [Addr.add_mid, Addr.add]
  simp [execOp, f.ev hx, f.ev e2, Instr.sliceAt, run_underlying ht.1, Instr.slice, Instr.sliceBounds, Instr.sliceBound, asIntOf, b2, sizeOf, typeInfo, hj, hs]
  rw [if_pos h3, e0]) k
end
section
variable {c : Cx} {ops : Array Oper} {Q : Exit → Act → World → Prop} {env : Env} {L : Own} {D : List Atom} {rest : List Oper} {d : Nat} {t : TypeId} {p : String} {af : Array Edge} {x y : Operand} {T : TypeId}
theorem apZ {e tn : TypeId} {sz bytes n : Nat} {kn : IntKind} (hx : ev env x = some (.slice none 0 0)) (hy : ev env y = some (.int .i64 (n : Int))) (ht : AppTy c.P T e sz bytes) (htn : c.P.underlying tn = some (.int kn)) (h0 : 0 < n) (hb : n * bytes ≤ 140737488355328) (hb2 : n ≤ 140737488355328) (hn : Nat.blt d c.n = true)
 (k : ∀ b G cs, cs.length = G * sz → n ≤ G → G ≤ maxLen → WL Q c ops rest ((d, .slice (some ⟨b, 0, none⟩) n G) :: env) (bl b e cs :: L) D) :
 WL Q c ops (⟨some d, .call { callee := .builtin .append, args := #[x, y], argTypes := #[T, tn] }, t, p, af, none⟩ :: rest) env L D := by
 obtain ⟨hu, ii, zz, hi', hz, hs, hbb, hzs, hpos⟩ := ht
 refine wpl_any (σ := { q : Nat × Nat × List Value // q.2.2.length = q.2.1 * sz ∧ n ≤ q.2.1 ∧ q.2.1 ≤ maxLen }) rfl rfl (fun q => (d, .slice (some ⟨q.1.1, 0, none⟩) n q.1.2.1) :: env) (fun q => bl q.1.1 e q.1.2.2 :: L) (fun _ => D) (fun a w f st dh => ?_) (fun q => k _ _ _ q.2.1 q.2.2.1 q.2.2.2)
 have hrun := Lib.run_append_nil_zeros (P := c.P) w T tn t e ii zz .i64 kn hu htn hi' hz n h0 (by omega) (by omega) (by rw [hbb]; omega)
 have hG := grownCap_ge w n 0 e
 have hM := grownCap_le_maxLen w n 0 e (by simp only [maxLen]; omega)
 obtain ⟨G, hGe⟩ : ∃ G, G = grownCap w n 0 e := ⟨_, rfl⟩
 rw [← hGe] at hrun hG hM
 obtain ⟨A, hA⟩ : ∃ A, A = Builtin.zeroCells zz.cells n ++ Builtin.zeroCells zz.cells (G - n) := ⟨_, rfl⟩
 rw [← hA] at hrun
 have hAs : A.size = G * sz := by
  rw [hA]
  simp only [Array.size_append, size_zeroCells, hzs, ← Nat.add_mul]
  congr 1
  omega
 have hd := Stp.drew [] w
 have hb3 := bl_push (T := e) (cs := A.toList) (st.step hd) (dh.step hd.nil)
 refine ⟨⟨(w.heap.size, G, A.toList), by simpa using hAs, hG, hM⟩, _, _, ?_, f.put _ (lt_blt hn), hb3⟩
 have hx' := f.ev hx
 have hy' := f.ev hy
 simp only [execOp, resolve, invoke, builtin, Sem.run_bind, Sem.run_pure, Result.andThen_ok, List.map_toArray, List.map_cons, List.map_nil, hx', hy', hrun]
theorem rwZ {α : Type} [r : Rep α] {l : List Oper} {E : TypeId} {b G : Nat} {cs : List Value} (hl : cs.length = G * r.size) (hG : G ≤ maxLen) (k : WL Q c ops l env (@row α r E (.slice (some ⟨b, 0, none⟩) 0 G) [] :: L) D) : WL Q c ops l env (bl b E cs :: L) D := by
 intro a w f st dh
 have hh : w.heap[b]? = some (.cells cs.toArray E (0, 0)) := st.own _ (List.mem_cons_self ..)
 exact k a w f (st.swap (i := 0) (p := bl b E cs) (q := row E (.slice (some ⟨b, 0, none⟩) 0 G) []) rfl rfl ⟨[], ⟨by simp, .inr ⟨b, G, cs.toArray, rfl, Nat.zero_le _, hh, Nat.zero_le _, hG, by simpa using hl, by simp⟩⟩, trivial, by simp⟩) (dh.swap (i := 0) (p := bl b E cs) rfl rfl)
end
def sumL {α : Type} (q : List (List α)) (i : Nat) : Nat := ((q.take i).map List.length).sum
def catL {α : Type} (q : List (List α)) (i : Nat) : List α := (q.take i).flatten
theorem take_snocL {α : Type} {q : List (List α)} {i : Nat} (h : i < q.length) : q.take (i + 1) = q.take i ++ [q.getD i default] := by
 rw [List.take_add_one, List.getD_eq_getElem?_getD, List.getElem?_eq_getElem h]
 rfl
theorem sumL_succ {α : Type} {q : List (List α)} {i : Nat} (h : i < q.length) : sumL q (i + 1) = sumL q i + (q.getD i default).length := by
 rw [sumL, sumL, take_snocL h]
 simp
theorem catL_succ {α : Type} {q : List (List α)} {i : Nat} (h : i < q.length) : catL q (i + 1) = catL q i ++ q.getD i default := by
 rw [catL, catL, take_snocL h]
 simp
theorem sumL_le {α : Type} {q : List (List α)} : ∀ (j i : Nat), i + j = q.length → sumL q i ≤ sumL q q.length
 | 0, i, h => by
  have : i = q.length := by omega
  rw [this]
  exact Nat.le_refl _
 | j + 1, i, h => Nat.le_trans (by rw [sumL_succ (by omega)]; omega) (sumL_le j (i + 1) (by omega))
theorem catL_len {α : Type} (q : List (List α)) (i : Nat) : (catL q i).length = sumL q i := by
 rw [catL, sumL, List.length_flatten]
theorem catL_all {α : Type} (q : List (List α)) : catL q q.length = q.flatten := by
 rw [catL, List.take_length]
end
end Go.Eng
