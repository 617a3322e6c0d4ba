/- Part 15 of the proof of auditOrder_holds: DutS6, Eng21, Eng22, Eng23, Eng25. Every text below begins with what it shows. -/
import Derived.OrdersIn
import Derived.RangeFuncNested
import Derived.RangeFuncLeaves
import Derived.Test.YtmpoffijcfaalaaGreatAu14

/- What is quiet. No program. -/

namespace Go.YtmpoffijcfaalaaGreat
open Go.Eng

theorem dright_len {v : TScene} (h : drightP v = true) : v.fStates.length = 7 := by
  unfold drightP at h
  split at h
  · cases h
  · rename_i hn
    simp only [dright1, Bool.or_eq_true, not_or, Bool.not_eq_true', Bool.not_eq_false, decide_eq_true_eq] at hn
    omega
end Go.YtmpoffijcfaalaaGreat

/- An open order whose head only reads and whose tail is walked by hand: a round of a range over a function may stand in it. Generic: no program. -/

namespace Go.Eng
theorem wpOpIn_of_wpOp {P : Program} {ops : Array Oper} {Q : Exit → Act → World → Prop} {i n : Nat} {K : Act → World → Prop} {a : Act} {w : World} (h : wpOp P ops (fun _ _ _ => False) i K a w) : wpOpIn Fence.wide n P ops Q i K a w := by
  unfold wpOp at h
  unfold wpOpIn
  split
  · rename_i hn
    rw [hn] at h
    exact h
  · rename_i o ho
    rw [ho] at h
    simp only at h
    by_cases hw : Region.wanted o (yielded ops a.tmps) = true
    · rw [if_pos hw] at h ⊢
      have h := h.elim id fun h => by obtain ⟨_, _, h⟩ := h.2; exact h.elim
      refine ⟨fun _ _ => trivial, ?_⟩
      unfold Oper.wp at h
      have hs : Oper.semAt Fence.wide.round a.eval o = execOp a.eval o := rfl
      rw [hs]
      generalize (execOp a.eval o).run P w = r at *
      cases r with
      | ok nx w' =>
        cases nx <;> simp only [Oper.upon, Oper.uponIn] at h ⊢ <;> try exact h
        · refine ⟨(fun hd => by cases hd), callsIn_wide.2 (Calls.mono h fun e w'' he => ?_)⟩
          cases e with
          | returned v => exact he
          | panicked ch => exact he.elim
          | outgrown => obtain ⟨_, _, he⟩ := he; exact he.elim
        · exact ⟨(fun hd => by cases hd), fun c cs _ => by obtain ⟨v, w', hR, hs⟩ := h c cs; exact ⟨v, w', hR, stepsIn_wide.2 hs⟩⟩
      | halt x w' => cases x <;> simp only [Oper.upon, Oper.uponIn] at h ⊢ <;> exact h.elim
    · rw [if_neg hw] at h ⊢
      exact ⟨fun _ _ => trivial, h⟩
theorem cnt_one : ∀ (n : Nat) (f g : Nat → Bool) (i : Nat), i < n → f i = true → g i = false → (∀ j, j ≠ i → g j = f j) → (List.range n).countP g + 1 = (List.range n).countP f
  | 0, _, _, _, h, _, _, _ => by omega
  | n + 1, f, g, i, hi, hf, hg, he => by
    rw [List.range_succ, List.countP_append, List.countP_append]
    by_cases h : i = n
    · subst h
      have : (List.range i).countP g = (List.range i).countP f := List.countP_congr fun j hj => by rw [he j (by have := List.mem_range.1 hj; omega)]
      rw [this]
      simp [hf, hg]
    · have ih := cnt_one n f g i (by omega) hf hg he
      have e : [n].countP g = [n].countP f := by simp only [List.countP_cons, List.countP_nil, he n (Ne.symm h)]
      rw [e]
      omega
section
variable {c : Cx} {l : List Oper} {s : RH} {env : Env} {D : List Atom} {Q : Exit → Act → World → Prop}
/-- One operation comes up. -/
def ckDst1 (l : List Oper) (env : Env) (i : Nat) : Bool := match dstOf l i with
  | none => true
  | some d => !keyIn env d && (List.range l.length).all fun j => i == j || !(dstOf l j == some d)
theorem MidH.step1 {i : Nat} (h1 : ckDeps l s.deps = true) (h2 : ckDst1 l env i = true) (h4 : ckH l s = true) (hsz : ckSize l c.n = true)
    {listed : Array Bool} {a : Act} {w : World} {hh : List Nat} (m : MidH c l s env D listed a w hh) (hr : i ∈ Region.ready .any l.toArray listed)
    (hO : ∀ o, l[i]? = some o → ∀ (V : Nat → Value) (De : List Atom), AllP (fun k => s.vals k = none → s.ok k (V k)) (s.deps i) → AllP (fun h => WL (opPostH c l s (D ++ De) i h (h.map V)) c l.toArray [o] (envOf l (VV s.vals V) (s.deps i) ++ env) (s.L h (h.map V)) (atsOf s.rs (VV s.vals V) (s.deps i) ++ (D ++ De))) (phH l s i)) {K : Act → World → Prop}
    (hK : ∀ a' w' h', MidH c l s env D (listed.setIfInBounds i true) a' w' h' → K a' w') : wpOp c.P l.toArray Q i K a w := by
  obtain ⟨hun, o, ho, hall⟩ := mem_ready.1 hr
  have ho : l[i]? = some o := by simpa using ho
  have hil : i < l.length := (List.getElem?_eq_some_iff.1 ho).1
  have his : i < listed.size := by rw [m.size]; exact hil
  have hun' : listed.getD i false = false := by rw [← getD_true_false his]; exact hun
  have hed : ∀ k, edge l k i = true → listed.getD k false = true := by
    intro k hk
    obtain ⟨e, he, hb, rfl⟩ := (edge_mem ho).1 hk
    exact hall e he hb
  have hnot : i ∉ hh := fun hi => by
    have := m.hin i hi
    rw [this] at hun'; cases hun'
  have hpre : ∀ x ∈ s.effs, edge l x i = true → x ∈ hh := fun x hx he => (m.done x hx).1 (hed x he)
  have hphase : hh ∈ phH l s i := by
    refine List.mem_filter.2 ⟨m.mem, ?_⟩
    simp only [Bool.and_eq_true, Bool.or_eq_true, Bool.not_eq_true', List.all_eq_true, List.contains_eq_mem, decide_eq_true_eq, decide_eq_false_iff_not]
    refine ⟨.inr hnot, fun x hx => ⟨?_, ?_⟩⟩
    · by_cases h : edge l x i = true
      · exact .inr (hpre x hx h)
      · left; simpa using h
    · by_cases h : edge l i x = true
      · right
        intro hxh
        have := m.closed x i (m.hin x hxh) h
        rw [this] at hun'; cases hun'
      · left; simpa using h
  have hdep : ∀ k ∈ s.deps i, edge l k i = true ∧ (dstOf l k).isSome = true := by
    intro k hk
    have := List.all_eq_true.1 (List.all_eq_true.1 h1 i (List.mem_range.2 hil)) k hk
    simpa using this
  have hdlt : ∀ k, (dstOf l k).isSome = true → k < l.length := by
    intro k hk
    rcases Nat.lt_or_ge k l.length with h | h
    · exact h
    · simp [dstOf, List.getElem?_eq_none h] at hk
  have hok2 : ∀ k ∈ s.deps i, s.ok2 k (valOf l a k) := fun k hk => by
    obtain ⟨d, hd⟩ := Option.isSome_iff_exists.1 (hdep k hk).2
    have := (m.slot k d (hed k (hdep k hk).1) hd).1
    simpa [valOf, slotV, hd] using this
  let J := (List.range l.length).filter fun k => listed.getD k false && (dstOf l k).isSome
  have hJ : ∀ k, k ∈ J ↔ listed.getD k false = true ∧ (dstOf l k).isSome = true := by
    intro k
    simp only [J, List.mem_filter, List.mem_range, Bool.and_eq_true]
    exact ⟨fun h => h.2, fun h => ⟨hdlt k h.2, h⟩⟩
  have hatJ : ∀ k, k ∈ J → DH (s.at_ k (valOf l a k)) w (s.L hh (hh.map (valOf l a))) := by
    intro k hk
    obtain ⟨hk1, hk2⟩ := (hJ k).1 hk
    obtain ⟨d, hd⟩ := Option.isSome_iff_exists.1 hk2
    have := (m.slot k d hk1 hd).2
    simpa [valOf, slotV, hd] using this
  have e0 : ∀ k ∈ s.deps i, valOf l a k = VV s.vals (valOf l a) k := fun k hk => ok2_VV (hok2 k hk)
  have e1 : envOf l (valOf l a) (s.deps i) = envOf l (VV s.vals (valOf l a)) (s.deps i) := envOf_congr fun k hk _ => e0 k hk
  have e2 : atsOf s.rs (valOf l a) (s.deps i) = atsOf s.rs (VV s.vals (valOf l a)) (s.deps i) := atsOf_congr e0
  have hwl := (hO o ho (valOf l a) (atsOf s.rs (valOf l a) J) (AllP.intro fun k hk hn => ok2_of (hok2 k hk) hn))
  rw [← e1, ← e2] at hwl
  have hwl := hwl.mem hh hphase a w (m.frame hsz fun k hk => hdlt k (hdep k hk).2) m.st (DH.app (fun t ht => by
    obtain ⟨k, hk, ht⟩ := mem_atsOf ht
    exact hatJ k ((hJ k).2 ⟨hed k (hdep k hk).1, (hdep k hk).2⟩) t ht) (DH.app m.dh (fun t ht => by
    obtain ⟨k, hk, ht⟩ := mem_atsOf ht
    exact hatJ k hk t ht)))
  have hno : ¬ LetsOut (opPostH c l s (D ++ atsOf s.rs (valOf l a) J) i hh (hh.map (valOf l a))) := by
    rintro ⟨a', w', h⟩; cases h.1
  -- what is left once it is done
  have hfin : ∀ a' w', (∃ u, a' = a.put o.dst u) → opPostH c l s (D ++ atsOf s.rs (valOf l a) J) i hh (hh.map (valOf l a)) .normal a' w' → K a' w' := by
    rintro a' w' ⟨u, rfl⟩ ⟨_, _, hst', hdh', hslot'⟩
    have hdsts : ∀ d, o.dst = some d → keyIn env d = false ∧ ∀ k, k ≠ i → dstOf l k ≠ some d := by
      intro d hd
      have hdi : dstOf l i = some d := by simp [dstOf, ho, hd]
      have := h2
      unfold ckDst1 at this
      rw [hdi] at this
      simp only [Bool.and_eq_true, Bool.not_eq_true'] at this
      refine ⟨this.1, fun k hk e => ?_⟩
      have hkl := hdlt k (by rw [e]; rfl)
      have := List.all_eq_true.1 this.2 k (List.mem_range.2 hkl)
      simp [e, Ne.symm hk] at this
    have hvk : ∀ k, k ≠ i → valOf l (a.put o.dst u) k = valOf l a k := by
      intro k hk
      simp only [valOf, slotV]
      cases hdk : dstOf l k with
      | none => rfl
      | some d =>
        cases hd : o.dst with
        | none => rfl
        | some d0 =>
          have hne : d0 ≠ d := by
            rintro rfl
            exact (hdsts d0 hd).2 k hk hdk
          simp [Act.put, Array.getElem?_setIfInBounds_ne hne]
    have hmap : hh.map (valOf l (a.put o.dst u)) = hh.map (valOf l a) := List.map_congr_left fun x hx => hvk x (fun e => hnot (e ▸ hx))
    let h' := if s.effs.contains i = true then hh ++ [i] else hh
    have hLn : s.L h' (h'.map (valOf l (a.put o.dst u))) = nextH s hh (hh.map (valOf l a)) i (slotV l (a.put o.dst u) i) := by
      unfold nextH
      simp only [h']
      by_cases hc : s.effs.contains i = true
      · rw [if_pos hc, if_pos hc, List.map_append, hmap]; rfl
      · rw [if_neg hc, if_neg hc, hmap]
    rw [← hLn] at hst' hdh' hslot'
    have hmem' : ∀ x, x ∈ h' ↔ x ∈ hh ∨ (x = i ∧ s.effs.contains i = true) := by
      intro x
      simp only [h']
      by_cases hc : s.effs.contains i = true
      · rw [if_pos hc]; simp only [List.mem_append, List.mem_singleton, hc, and_true]
      · rw [if_neg hc]; simp only [hc, and_false, or_false]; simp
    refine hK _ _ h' ⟨?_, hst', fun t ht => hdh' t (List.mem_append.2 (.inl ht)), by simp [m.size], ?_, ?_, ?_, ?_, ?_⟩
    · cases hd : o.dst with
      | none => exact m.fr
      | some d =>
        have hdn : d < c.n := by
          have := List.all_eq_true.1 hsz o (List.mem_of_getElem? ho)
          rw [hd] at this
          exact lt_blt this
        have f := m.fr.put u hdn
        refine ⟨f.size, f.dn, fun k v hk => f.at_ k v ?_⟩
        have hne : d ≠ k := by
          rintro rfl
          have := keyIn_of_lk hk
          rw [(hdsts d hd).1] at this; cases this
        have : (d == k) = false := by simpa using hne
        simp only [lk, this, cond_false]
        exact hk
    · intro i' k hi' hk
      rw [getD_set his] at hi' ⊢
      simp only [Bool.or_eq_true, beq_iff_eq] at hi' ⊢
      rcases hi' with rfl | hi'
      · exact .inr (hed k hk)
      · exact .inr (m.closed i' k hi' hk)
    · intro i' d hi' hd'
      rw [getD_set his] at hi'
      simp only [Bool.or_eq_true, beq_iff_eq] at hi'
      by_cases hii : i = i'
      · subst hii
        exact hslot' d hd'
      · have hi' : listed.getD i' false = true := by
          rcases hi' with h | h
          · exact absurd h hii
          · exact h
        have hval : (a.put o.dst u).tmps.getD d undef = a.tmps.getD d undef := by
          cases hd : o.dst with
          | none => rfl
          | some d0 =>
            have hne : d0 ≠ d := by
              rintro rfl
              exact (hdsts d0 hd).2 i' (Ne.symm hii) hd'
            simp [Act.put, Array.getElem?_setIfInBounds_ne hne]
        rw [hval]
        refine ⟨(m.slot i' d hi' hd').1, fun t ht => hdh' t (List.mem_append.2 (.inr (of_at (s := s.rs) (k := i') ((hJ i').2 ⟨hi', by rw [hd']; rfl⟩) ?_)))⟩
        simpa [valOf, slotV, hd'] using ht
    · intro x hx
      rw [getD_set his, hmem' x]
      simp only [Bool.or_eq_true, beq_iff_eq]
      rw [m.done x hx]
      constructor
      · rintro (rfl | h)
        · right; exact ⟨rfl, by simpa using hx⟩
        · exact .inl h
      · rintro (h | ⟨rfl, _⟩)
        · exact .inr h
        · exact .inl rfl
    · intro x hx
      rw [getD_set his]
      simp only [Bool.or_eq_true, beq_iff_eq]
      rcases (hmem' x).1 hx with h | ⟨rfl, _⟩
      · exact .inr (m.hin x h)
      · exact .inl rfl
    · simp only [h']
      by_cases hc : s.effs.contains i = true
      · rw [if_pos hc]
        simp only [ckH, Bool.and_eq_true] at h4
        have hie : i ∈ s.effs := by simpa using hc
        have := List.all_eq_true.1 (List.all_eq_true.1 h4.2 hh m.mem) i hie
        simp only [Bool.or_eq_true, Bool.not_eq_true'] at this
        rcases this with (h | h) | h
        · exact absurd (by simpa using h) hnot
        · exfalso
          rw [← Bool.not_eq_true, List.all_eq_true] at h
          refine h fun x hx => ?_
          simp only [Bool.or_eq_true, Bool.not_eq_true']
          by_cases he : edge l x i = true
          · right; simpa using hpre x hx he
          · left; simpa using he
        · simpa using h
      · rw [if_neg hc]; exact m.mem
  unfold wpOp
  have ho' : l.toArray[i]? = some o := by simpa using ho
  simp only [ho']
  unfold wpList at hwl
  by_cases hw : Region.wanted o (yielded l.toArray a.tmps) = true
  · rw [if_pos hw] at hwl ⊢
    refine .inl (upon_up (Q := opPostH c l s (D ++ atsOf s.rs (valOf l a) J) i hh (hh.map (valOf l a))) (fun _ _ _ h => by cases h.1) hno ?_)
    rcases hwl with h | h
    · -- the frame behind it is the one before, with a value put
      have key : ∀ {r : Result Next}, o.upon c.P a (opPostH c l s (D ++ atsOf s.rs (valOf l a) J) i hh (hh.map (valOf l a)) .normal) (opPostH c l s (D ++ atsOf s.rs (valOf l a) J) i hh (hh.map (valOf l a))) r → o.upon c.P a K (opPostH c l s (D ++ atsOf s.rs (valOf l a) J) i hh (hh.map (valOf l a))) r := by
        intro r h
        cases r with
        | ok n w' =>
          cases n <;> simp only [Oper.upon] at h ⊢ <;> try exact h
          · exact hfin _ _ ⟨_, rfl⟩ h
          · exact hfin _ _ ⟨_, rfl⟩ h
          · exact Calls.mono h fun e w'' he => by
              cases e with
              | returned v => exact hfin _ _ ⟨_, rfl⟩ he
              | panicked ch => exact he
              | outgrown => exact he
          · have hd := h.2.1
            cases hdst : o.dst <;> simp [hdst, Act.put] at hd
          · exact Rows.mono h fun _ _ he => hfin _ _ ⟨_, rfl⟩ he
        | halt x w' => cases x <;> simp only [Oper.upon] at h ⊢ <;> exact h
      exact key h
    · exact absurd h.2 hno
  · rw [if_neg hw] at hwl ⊢
    exact hfin _ _ ⟨undef, rfl⟩ hwl

def headL (hd n : Nat) : Array Bool := ((List.range n).map fun i => decide (i < hd)).toArray
theorem OblH.take_at {r : List Oper} {hd : Nat} (h : OblH c l s env D (r.take hd) 0) {i : Nat} (hi : i < hd) {o : Oper} (ho : r[i]? = some o) (V : Nat → Value) (De : List Atom) (hV : AllP (fun k => s.vals k = none → s.ok k (V k)) (s.deps i)) :
    AllP (fun h => WL (opPostH c l s (D ++ De) i h (h.map V)) c l.toArray [o] (envOf l (VV s.vals V) (s.deps i) ++ env) (s.L h (h.map V)) (atsOf s.rs (VV s.vals V) (s.deps i) ++ (D ++ De))) (phH l s i) := by
  have := h.at_ i o (by rw [List.getElem?_take, if_pos hi]; exact ho) V De (by rw [Nat.zero_add]; exact hV)
  rwa [Nat.zero_add] at this
/-- **An open order, its tail behind all of its head.** -/
theorem rgTail {id n hd : Nat} (s : RH) (hhs : s.hs = [[]]) (hm : c.P.follows .mixedOrders = true) (hok : rhOk l env s c.n = true) (hhd : hd ≤ l.length) {L : Own} (hL : s.L [] [] = L) (hO : OblH c l s env D (l.take hd) 0)
    (hT : ∀ listed : Array Bool, (∀ i k, listed.getD i false = true → edge l k i = true → listed.getD k false = true) → ∀ i, hd ≤ i → i < l.length → (∀ k, edge l k i = true → listed.getD k false = true) → ∀ k, k < hd → listed.getD k false = true)
    (k : ∀ V : Nat → Value, AllP (fun i => (dstOf l i).isSome = true → s.vals i = none → s.ok i (V i)) (List.range hd) → ∀ a w, Fr c.n a (envOf l (VV s.vals V) (List.range hd) ++ env) → St c.w0 c.M w L →
      DH (atsOf s.rs (VV s.vals V) ((List.range hd).filter fun i => (dstOf l i).isSome) ++ D) w L → wpAnyIn Fence.wide n c.P .any l.toArray Q (l.length - hd) (headL hd l.length) a w) : WC c (.region id l.toArray true) Q env L D := by
  intro a w f st dh
  simp only [rhOk, Bool.and_eq_true] at hok
  obtain ⟨⟨⟨⟨h1, h2⟩, h5⟩, hsz⟩, h4⟩ := hok
  subst hL
  refine (wpIn_wide (n := n)).1 (wpIn_region_any hm ?_)
  have hs := Stp.drew [] w
  have m0 : MidH c l s env D (Array.replicate l.length false) a w.drew [] := by
    refine ⟨f, st.step hs, dh.step hs.nil, by simp, fun i k h _ => ?_, fun i d h _ => ?_, fun x _ => ?_, fun x hx => (by cases hx), ?_⟩
    · rw [getD_rep] at h; cases h
    · rw [getD_rep] at h; cases h
    · rw [getD_rep]; simp
    · simp only [ckH, Bool.and_eq_true] at h4
      simpa using h4.1.1
  have key : ∀ (m : Nat) (listed : Array Bool) (a : Act) (w : World), MidH c l s env D listed a w [] → (∀ i, hd ≤ i → listed.getD i false = false) → (List.range hd).countP (fun i => !listed.getD i false) = m →
      wpAnyIn Fence.wide n c.P .any l.toArray Q (m + (l.length - hd)) listed a w := by
    intro m
    induction m with
    | zero =>
      intro listed a w mm ht hc
      have hall : ∀ i, i < hd → listed.getD i false = true := fun i hi => by
        have := List.countP_eq_zero.1 hc i (List.mem_range.2 hi)
        simpa using this
      have heq : listed = headL hd l.length := by
        apply Array.ext
        · simp [mm.size, headL]
        · intro i g1 g2
          have e : listed[i] = listed.getD i false := by simp [g1]
          rw [e]
          simp only [headL, List.getElem_toArray, List.getElem_map, List.getElem_range]
          by_cases hi : i < hd
          · rw [hall i hi]; simp [hi]
          · rw [ht i (by omega)]; simp [hi]
      subst heq
      rw [Nat.zero_add]
      have hok2 : ∀ k, k < hd → (dstOf l k).isSome = true → s.ok2 k (valOf l a k) := fun k hk hd' => by
        obtain ⟨d, hd'⟩ := Option.isSome_iff_exists.1 hd'
        have := (mm.slot k d (hall k hk) hd').1
        simpa [valOf, slotV, hd'] using this
      have e1 : envOf l (valOf l a) (List.range hd) = envOf l (VV s.vals (valOf l a)) (List.range hd) := envOf_congr fun k hk hd' => ok2_VV (hok2 k (List.mem_range.1 hk) hd')
      have e2 : atsOf s.rs (valOf l a) ((List.range hd).filter fun i => (dstOf l i).isSome) = atsOf s.rs (VV s.vals (valOf l a)) ((List.range hd).filter fun i => (dstOf l i).isSome) := atsOf_congr fun k hk => ok2_VV (hok2 k (List.mem_range.1 (List.mem_filter.1 hk).1) (by simpa using (List.mem_filter.1 hk).2))
      have hk := k (valOf l a) (AllP.intro fun i hi hd' hn => ok2_of (hok2 i (List.mem_range.1 hi) hd') hn)
      rw [← e1, ← e2] at hk
      refine hk a w (mm.frame hsz fun k hk => Nat.lt_of_lt_of_le (List.mem_range.1 hk) hhd) mm.st (DH.app (fun t ht => ?_) mm.dh)
      obtain ⟨i, hi, ht⟩ := mem_atsOf ht
      obtain ⟨hi1, hd'⟩ := List.mem_filter.1 hi
      obtain ⟨d, hd'⟩ := Option.isSome_iff_exists.1 hd'
      have := (mm.slot i d (hall i (List.mem_range.1 hi1)) hd').2
      simp only [valOf, slotV, hd'] at ht
      exact this t ht
    | succ m ih =>
      intro listed a w mm ht hc
      rw [show m + 1 + (l.length - hd) = (m + (l.length - hd)) + 1 by omega]
      have hex : ∃ i, i < hd ∧ listed.getD i false = false := by
        refine Classical.byContradiction fun hn => ?_
        have : (List.range hd).countP (fun i => !listed.getD i false) = 0 := List.countP_eq_zero.2 fun i hi => by
          simp only [Bool.not_eq_true', Bool.not_eq_false]
          refine Classical.byContradiction fun h => hn ⟨i, List.mem_range.1 hi, by simpa using h⟩
        omega
      refine ⟨fun hr => ?_, fun i hi => ?_⟩
      · exfalso
        obtain ⟨i0, hi0, hu0⟩ := hex
        have hall : ∀ i, i < l.length → listed.getD i false = true := by
          intro i
          induction i using Nat.strongRecOn with
          | _ i ih2 =>
            intro hil
            cases hli : listed.getD i false with
            | true => rfl
            | false =>
              exfalso
              have : i ∈ Region.ready .any l.toArray listed := by
                refine mem_ready.2 ⟨by rw [getD_true_false (by rw [mm.size]; exact hil)]; exact hli, l[i], by simp [List.getElem?_eq_getElem hil], fun e he hb => ?_⟩
                have hbk := List.all_eq_true.1 h5 i (List.mem_range.2 hil)
                rw [List.getElem?_eq_getElem hil] at hbk
                have := List.all_eq_true.1 hbk e (Array.mem_toList_iff.2 he)
                rw [hb] at this
                have hlt := lt_blt (by simpa using this)
                exact ih2 e.on hlt (by omega)
              rw [hr] at this
              cases this
        rw [hall i0 (by omega)] at hu0
        cases hu0
      · obtain ⟨hun, o, ho1, hpre⟩ := mem_ready.1 hi
        have ho : l[i]? = some o := by simpa using ho1
        have hil : i < l.length := (List.getElem?_eq_some_iff.1 ho).1
        have his : i < listed.size := by rw [mm.size]; exact hil
        have hun' : listed.getD i false = false := by rw [← getD_true_false his]; exact hun
        have hid : i < hd := by
          rcases Nat.lt_or_ge i hd with h | h
          · exact h
          · obtain ⟨i0, hi0, hu0⟩ := hex
            have := hT listed mm.closed i h hil (fun k hk => by
              obtain ⟨e, he, hb, rfl⟩ := (edge_mem ho).1 hk
              exact hpre e he hb) i0 hi0
            rw [this] at hu0; cases hu0
        refine wpOpIn_of_wpOp (mm.step1 (Q := fun _ _ _ => False) h1 (List.all_eq_true.1 h2 i (List.mem_range.2 hil)) h4 hsz hi (fun o' ho' V De hV => hO.take_at hid ho' V De hV) fun a' w' h' m' => ?_)
        have hh : h' = [] := by
          have := m'.mem
          rw [hhs] at this
          simpa using this
        subst hh
        refine ih _ a' w' m' (fun j hj => ?_) ?_
        · rw [getD_set his, ht j hj]
          have : (i == j) = false := by simpa using (by omega : i ≠ j)
          rw [this]; rfl
        · have hlt : (List.range hd).countP (fun k => !(listed.setIfInBounds i true).getD k false) + 1 = (List.range hd).countP (fun k => !listed.getD k false) := by
            refine cnt_one hd _ _ i hid (by rw [hun']; rfl) (by rw [getD_set his]; simp) fun j hj => ?_
            rw [getD_set his]
            have : (i == j) = false := by simpa using Ne.symm hj
            rw [this]; rfl
          omega
  have hn0 : (List.range hd).countP (fun i => !(Array.replicate l.length false).getD i false) = hd := by
    rw [List.countP_eq_length_filter, List.filter_eq_self.2 fun i _ => by rw [getD_rep]; rfl, List.length_range]
  have := key hd _ a w.drew m0 (fun i _ => getD_rep _ _) hn0
  rwa [show hd + (l.length - hd) = l.length by omega] at this
end
end Go.Eng

/- A loop whose rounds begin in worlds of their own. Generic: no program. -/

namespace Go.Eng
theorem Stp.grown {w w' : World} (h : Stp [] w w') : w.grownBy w' none := ⟨h.os, h.tape, h.output, h.size, fun k hk _ => h.block k hk (by simp)⟩
section
variable {c : Cx} {Q : Exit → Act → World → Prop} {env : Env} {L : Own} {D : List Atom} {x : Code}
/-- The loop: states σ; what holds of the world where a round begins. -/
theorem lpW {σ : Type} (E : σ → Env) (Ψ : σ → World → Prop) (μ : σ → Nat) (s0 : σ) (hE : Sub (E s0) env) (h0 : ∀ w, St c.w0 c.M w L → DH D w L → Ψ s0 w)
    (body : ∀ s w, Ψ s w → ∀ a, Fr c.n a (E s) → Code.wp c.P x (Exit.then (fun a w' => ∃ s', μ s' < μ s ∧ Fr c.n a (E s') ∧ Ψ s' w') Q) a w) : WC c (.loop x) Q env L D := by
  intro a w f st d
  have key : ∀ (m : Nat) (s : σ), μ s = m → ∀ w, Ψ s w → ∀ a, Fr c.n a (E s) →
      ∀ (b : Frame) (k : List Item) (cs : List Frame), ∃ e a' w', Q e a' w' ∧ Arrives c.P (lone (b.at a (.code x :: .inLoop x :: k)) cs w) b k cs e a' w' := by
    intro m
    induction m using Nat.strongRecOn with
    | _ m ih =>
      intro s hm w hΨ a f b k cs
      obtain ⟨e, a₁, w₁, hq, harr⟩ := body s w hΨ a f b (.inLoop x :: k) cs
      cases e with
      | normal =>
        obtain ⟨s', hlt, f', h'⟩ := hq
        obtain ⟨e₂, a₂, w₂, hq₂, harr₂⟩ := ih (μ s') (hm ▸ hlt) s' rfl w₁ h' a₁ f' b k cs
        exact ⟨e₂, a₂, w₂, hq₂, .of_steps (Steps.trans harr (.one step_inLoop)) harr₂⟩
      | exit id => exact ⟨_, a₁, w₁, hq, .pass (x := .inLoop x) rfl (fun _ _ => .inl (by simp)) harr⟩
      | goto l => exact ⟨_, a₁, w₁, hq, .pass (x := .inLoop x) rfl (fun _ _ => .inl (by simp)) harr⟩
      | ret => exact ⟨_, a₁, w₁, hq, .pass (x := .inLoop x) rfl (fun _ _ => .inl (by simp)) harr⟩
      | panic ch => exact ⟨_, a₁, w₁, hq, .pass (x := .inLoop x) rfl (fun _ _ => .inl (by simp)) harr⟩
      | outgrown => exact ⟨_, a₁, w₁, hq, .pass (x := .inLoop x) rfl (fun _ _ => .inl (by simp)) harr⟩
  intro b k cs
  obtain ⟨e, a', w', hq, harr⟩ := key _ s0 rfl w (h0 w st d) a (f.sub hE) b k cs
  exact ⟨e, a', w', hq, .of_steps (.one step_loop) harr⟩
/-- A call of the round of a range over a function. -/
theorem run_round {P : Program} {ρ : Operand → Value} {o : Oper} {x : Operand} {xs : List Operand} {ats : Array TypeId} {l : Nat} {vs : List Value} {fn : FuncId} {tmps : Array Value} {assign body : Code} (ho : o.op = .call { callee := .value x, args := xs.toArray, argTypes := ats })
    (hx : ρ x = .func (.yield l) #[] #[]) (hxs : xs.map ρ = vs) {w : World} (hy : (Instr.yield l vs.toArray).run P w = .ok (.round l fn tmps assign body) w) : (execOp ρ o).run P w = .ok (.round l fn tmps assign body) w := by
  subst hxs
  simp only [execOp, ho, resolve, Deferred.ofValue, hx, invoke, List.map_toArray, Sem.run_bind, Sem.run_pure, Result.andThen_ok]
  simpa using hy
theorem wpOpIn_plain {F : Fence} {n : Nat} {P : Program} {ops : Array Oper} {Q : Exit → Act → World → Prop} {i : Nat} {K : Act → World → Prop} {a : Act} {w : World} {o : Oper} (ho : ops[i]? = some o) (hg : o.guard = none) (h : o.wpIn F n P a w K Q) : wpOpIn F n P ops Q i K a w := by
  unfold wpOpIn
  rw [ho]
  simp only
  rw [if_pos]
  · exact h
  · unfold Region.wanted
    rw [hg]
theorem not_in {F : Fence} {n : Nat} {P : Program} {o : Oper} {a : Act} {w : World} {K : Act → World → Prop} {Q : Exit → Act → World → Prop} {xt : TypeId} {x : Operand} {b : Bool} (hro : F.round = none) (ho : o.op = .unOp .not xt x) (hx : a.eval x = .bool b) (hF : ∀ f, F.fn f) (h : K (a.put o.dst (.bool (!b))) w) : o.wpIn F n P a w K Q := by
  refine ⟨fun f _ => hF f, ?_⟩
  rw [hro, Oper.semAt_none]
  have : (execOp a.eval o).run P w = .ok (.value (.bool (!b))) w := by simp [execOp, ho, hx, Op.unary]
  rw [this]
  exact h
theorem round_in {F : Fence} {n : Nat} {P : Program} {o : Oper} {a : Act} {w : World} {K : Act → World → Prop} {Q : Exit → Act → World → Prop} {l : Nat} {fn : FuncId} {tmps : Array Value} {assign body : Code} (hro : F.round = none) (hd : F.depth = none) (hF : ∀ f, F.fn f)
    (hrun : (execOp a.eval o).run P w = .ok (.round l fn tmps assign body) w) (h : RoundIn F (n - 1) P l fn tmps assign body w (fun e w'' => ∃ v, e = .returned v ∧ K (a.put o.dst v) w'')) : o.wpIn F n P a w K Q := by
  refine ⟨fun f _ => hF f, ?_⟩
  rw [hro, Oper.semAt_none, hrun]
  refine ⟨(fun h => by rw [hd] at h; cases h), h.mono ?_⟩
  rintro e w'' ⟨v, rfl, hk⟩
  exact hk
end
end Go.Eng

/- A range over a function, on the caller's side: its rounds, its mark. Generic: no program. -/

namespace Go.Eng
open Go.RowKit
/-- What a round keeps: everything that lay there, but one block. -/
structure KB (n₀ b : Nat) (A B : World) : Prop where
  size : A.heap.size ≤ B.heap.size
  block : ∀ k, k < n₀ → k ≠ b → B.heap[k]? = A.heap[k]?
theorem KB.trans {n₀ b : Nat} {A B C : World} (h : KB n₀ b A B) (k : KB n₀ b B C) : KB n₀ b A C := ⟨Nat.le_trans h.size k.size, fun i hi hb => (k.block i hi hb).trans (h.block i hi hb)⟩
theorem Stp.kb {n₀ b : Nat} {M : List Nat} {A B : World} (h : Stp M A B) (hn : n₀ ≤ A.heap.size) (hM : ∀ k, k < n₀ → k ∈ M → k = b) : KB n₀ b A B :=
  ⟨h.size, fun k hk hb => h.block k (Nat.lt_of_lt_of_le hk hn) (fun hm => hb (hM k hk hm))⟩
theorem KB.putObj {n₀ b l : Nat} {W : World} {o : Obj} (hl : n₀ ≤ l) : KB n₀ b W (W.putObj l o) :=
  ⟨by simp [World.putObj], fun k hk _ => World.putObj_heap_other (by omega)⟩
theorem wpListIn_inRound {l n : Nat} {P : Program} {ops : Array Oper} {Q : Exit → Act → World → Prop} (hQ : ∀ e a w, Q e a w → e = .normal) : ∀ (rest : List Oper), rest.all (fun o => match o.op with | .defer _ => false | _ => true) = true → ∀ a w, wpList P ops Q rest a w → wpListIn (Fence.wide.inRound l) n P ops Q rest a w
  | [], _, _, _, h => h
  | o :: rest, hd, a, w, h => by
    simp only [List.all_cons, Bool.and_eq_true] at hd
    have ih := wpListIn_inRound (l := l) (n := n) (P := P) (ops := ops) hQ rest hd.2
    have hnd : ∀ c, o.op ≠ .defer c := fun c e => by rw [e] at hd; cases hd.1
    have hno : ¬ LetsOut Q := by
      rintro ⟨a', w', h⟩
      cases hQ _ _ _ h
    unfold wpList at h
    unfold wpListIn
    by_cases hw : Region.wanted o (yielded ops a.tmps) = true
    · rw [if_pos hw] at h ⊢
      have h := h.elim id fun h => absurd h.2 hno
      refine ⟨fun _ _ => trivial, ?_⟩
      unfold Oper.wp at h
      have hs : Oper.semAt (Fence.wide.inRound l).round a.eval o = execOp a.eval o := Oper.semAt_some l _ _ hnd
      rw [hs]
      generalize (execOp a.eval o).run P w = r at *
      cases r with
      | ok nx w' =>
        cases nx <;> simp only [Oper.upon, Oper.uponIn] at h ⊢ <;> try exact h
        · exact ih _ _ h
        · exact ih _ _ h
        · refine ⟨(fun hd => by cases hd), CallsIn.inRound l (callsIn_wide.2 (Calls.mono h fun e w'' he => ?_))⟩
          cases e with
          | returned v => exact ih _ _ he
          | panicked ch => exact absurd (hQ _ _ _ he) (by intro h; cases h)
          | outgrown => exact absurd he hno
        · exact ih _ _ h
        · exact ⟨(fun hd => by cases hd), fun c cs _ => by obtain ⟨v, w', hR, hs⟩ := h c cs; exact ⟨v, w', ih _ _ hR, stepsIn_wide.2 hs⟩⟩
      | halt x w' => cases x <;> simp only [Oper.upon, Oper.uponIn] at h ⊢ <;> exact h
    · rw [if_neg hw] at h ⊢
      exact ⟨fun _ _ => trivial, ih _ _ h⟩
/-- A block of a round that runs through. -/
theorem round_region {l n id : Nat} {P : Program} {ops : List Oper} {Q : Exit → Act → World → Prop} {K : Act → World → Prop} {a : Act} {w : World} (hd : ops.all (fun o => match o.op with | .defer _ => false | _ => true) = true) (hK : ∀ a w, K a w → Q .normal a w)
    (h : wpList P ops.toArray (fun e a w => e = .normal ∧ K a w) ops a w) : (Code.region id ops.toArray false).wpIn (Fence.wide.inRound l) n P Q a w :=
  Code.wpIn_mono (fun e a w h => by obtain ⟨rfl, h⟩ := h; exact hK _ _ h) (wpIn_region_lit (wpListIn_inRound (fun _ _ _ h => h.1) ops hd a w h))
theorem Fr.round2 {n : Nat} {a : Act} {env : Env} (f : Fr n a env) {p q : Nat} (hp : p < n) (hq : q < n) (u v : Value) :
    Fr n { tmps := ((#[p, q] : Array Tmp).zip #[u, v]).foldl (fun t (p, v) => t.setIfInBounds p v) a.tmps, defers := [] } ((q, v) :: (p, u) :: env) := by
  have h := (f.put (d := p) u hp).put (d := q) v hq
  have e : (a.put (some p) u).put (some q) v = { tmps := (a.tmps.setIfInBounds p u).setIfInBounds q v, defers := [] } := by
    simp [Act.put, f.dn]
  rw [e] at h
  simpa using h
theorem wpList_val {P : Program} {ops : Array Oper} {Q : Exit → Act → World → Prop} {rest : List Oper} {o : Oper} {a : Act} {w : World} {v : Value} (hg : o.guard = none) (hrun : (execOp a.eval o).run P w = .ok (.value v) w) (h : wpList P ops Q rest (a.put o.dst v) w) : wpList P ops Q (o :: rest) a w := by
  refine wpList_plain hg fun K hK => ?_
  unfold Oper.wp
  rw [hrun]
  exact hK _ _ h
theorem enterM {P : Program} {f : FuncId} {fn : Func} {x : Code} {args : List Value} {w : World} {Φ : Value → World → Prop} (m : Nat) (M : List Nat) (L : Go.Eng.Own) (D : List Atom)
    (hf : P.funcs[f]? = some fn) (hb : fn.body = some x) (n : Nat) (hn : n = fn.ntmps) (hargs : args.length ≤ n) (hst : St w M w L) (hd : DH D w L)
    (h : WC ⟨P, n, w, M⟩ x (bodyPostM Fence.wide m P fn fun e w' => ∃ v, e = .returned v ∧ Φ v w') (ent 0 args) L D) : Ret P f args w Φ := by
  subst hn
  refine (callsIn_wide (n := m)).1 (callsIn_of_wp_marks hf hb trivial (wpIn_wide.2 (h _ w ⟨?_, rfl, ?_⟩ hst hd)))
  · simp; omega
  · intro i v hi
    obtain ⟨_, hi⟩ := lk_ent args 0 i v hi
    have : i < args.length := (List.getElem?_eq_some_iff.1 hi).1
    simp only [Nat.sub_zero] at hi
    rw [Array.getElem?_append_left (by simpa using this)]
    simpa using hi
/-- The contract of a function that leaves a mark and hands back a value. -/
theorem FnV.proofM {P : Program} {f : FuncId} {fn : Func} {x : Code} {args : List Value} {As : List Atom} {u : Value} (m : Nat)
    (hf : P.funcs[f]? = some fn) (hb : fn.body = some x) (n : Nat) (hn : n = fn.ntmps) (hargs : Nat.ble args.length n = true)
    (h : ∀ w, WC ⟨P, n, w, []⟩ x (bodyPostM Fence.wide m P fn fun e w' => ∃ v, e = .returned v ∧ v = u ∧ Stp [] w w') (ent 0 args) [] As) : FnV P f args As u := by
  intro X w hnd hx h0 hA
  refine Ret.mono (enterM m [] [] As hf hb n hn (Nat.le_of_ble_eq_true hargs) (St.start w []) (fun t ht => Atom.keep (hA t ht) ?_ (fun _ _ => rfl)) (h w)) ?_
  · rintro b ⟨hb1, hb2⟩
    exact ⟨hb1, by simp [Own.bs, bsOf]⟩
  · intro v w' ⟨hv, hs⟩
    exact ⟨hs, (), hv, by simp, by simp [Own.bs, bsOf], by simp [Own.bs, bsOf], by simp⟩
end Go.Eng

/- Walks in a frame that has marks to take when it leaves; a range over a function that calls nothing. Generic: no program. -/

namespace Go.Eng
open Go.RowKit
def mk (k : Nat) : Deferred := { target := .collected k, args := #[] }
/-- A mark's block. -/
@[reducible] def dk (b : Nat) : OwnE where
  bs := [b]
  holds _ w := w.heap[b]? = some (.deferred (some []))
  valid h b' hb := by simp at hb; subst hb; exact (Array.getElem?_eq_some_iff.1 h).1
  keep h _ hw := (hw b (.inr (by simp))).trans h
def WCD (ds : List Deferred) (c : Cx) (x : Code) (Q : Exit → Act → World → Prop) (env : Env) (L : Own) (D : List Atom) : Prop :=
  ∀ a w, Fr c.n a env → St c.w0 c.M w L → DH D w L → Code.wp c.P x Q { a with defers := ds } w
def WQD (ds : List Deferred) (c : Cx) (Q : Exit → Act → World → Prop) (e : Exit) (env : Env) (L : Own) (D : List Atom) : Prop :=
  ∀ a w, Fr c.n a env → St c.w0 c.M w L → DH D w L → Q e { a with defers := ds } w
/-- The frame with marks below what it has. -/
def _root_.Go.Act.dd (a : Act) (ds : List Deferred) : Act := { a with defers := a.defers ++ ds }
theorem put_dd (a : Act) (ds : List Deferred) (d : Option Tmp) (v : Value) : (a.dd ds).put d v = (a.put d v).dd ds := by cases d <;> rfl
theorem Fr.dd {n : Nat} {a : Act} {env : Env} (f : Fr n a env) (ds : List Deferred) : a.dd ds = { a with defers := ds } := by
  unfold Act.dd
  rw [f.dn]
  rfl
theorem wpList_wd {P : Program} {ops : Array Oper} {Q : Exit → Act → World → Prop} (ds : List Deferred) : ∀ (rest : List Oper) a w, wpList P ops (fun e a w => Q e (a.dd ds) w) rest a w → wpList P ops Q rest (a.dd ds) w
  | [], _, _, h => h
  | o :: rest, a, w, h => by
    have ih := wpList_wd (P := P) (ops := ops) (Q := Q) ds rest
    have hlo : LetsOut (fun e (a : Act) w => Q e (a.dd ds) w) → LetsOut Q := fun ⟨a', w', h⟩ => ⟨_, w', h⟩
    unfold wpList at h ⊢
    have ey : yielded ops (a.dd ds).tmps = yielded ops a.tmps := rfl
    rw [ey]
    by_cases hw : Region.wanted o (yielded ops a.tmps) = true
    · rw [if_pos hw] at h ⊢
      rcases h with h | ⟨h1, h2⟩
      · left
        unfold Oper.wp at h ⊢
        have ee : (execOp (a.dd ds).eval o).run P w = (execOp a.eval o).run P w := rfl
        rw [ee]
        generalize (execOp a.eval o).run P w = r at *
        cases r with
        | ok nx w' =>
          cases nx <;> simp only [Oper.upon] at h ⊢ <;> try exact h
          · rw [put_dd]; exact ih _ _ h
          · rw [put_dd]; exact ih _ _ h
          · refine Calls.mono h fun e w'' he => ?_
            cases e with
            | returned v =>
              show wpList P ops Q rest ((a.dd ds).put o.dst v) w''
              rw [put_dd]; exact ih _ _ he
            | panicked ch => exact he
            | outgrown => exact hlo he
          · have := ih _ _ h
            rw [← put_dd] at this
            exact this
          · exact Rows.mono h fun _ _ he => by rw [put_dd]; exact ih _ _ he
        | halt x w' => cases x <;> simp only [Oper.upon] at h ⊢ <;> exact h
      · exact .inr ⟨h1, hlo h2⟩
    · rw [if_neg hw] at h ⊢
      rw [put_dd]
      exact ih _ _ h
section
variable {ds : List Deferred} {c : Cx} {x y : Code} {Q Q' : Exit → Act → World → Prop} {env : Env} {L : Own} {D : List Atom} {ops : Array Oper}
theorem sqD (h : WCD ds c x (Exit.then (Code.wp c.P y Q) Q) env L D) : WCD ds c (.seq x y) Q env L D := fun a w f s d => wp_seq (h a w f s d)
theorem nxD (h : WCD ds c y Q env L D) : WQD ds c (Exit.then (Code.wp c.P y Q) Q') .normal env L D := h
theorem rgM {id : Nat} {l : List Oper} (h : WL (fun e a w => Q e (a.dd ds) w) c l.toArray l env L D) : WCD ds c (.region id l.toArray false) Q env L D := fun a w f s d => by
  rw [← f.dd]
  exact wp_region_lit (wpList_wd ds l a w (h a w f s d))
theorem nlD (h : WQD ds c Q .normal env L D) : WL (fun e a w => Q e (a.dd ds) w) c ops [] env L D := fun a w f s d => wpList_nil (by rw [f.dd]; exact h a w f s d)
theorem skD (h : WQD ds c Q .normal env L D) : WCD ds c .skip Q env L D := fun a w f s d => wp_skip (h a w f s d)
theorem exD {id : Nat} (h : WQD ds c Q (.exit id) env L D) : WCD ds c (.exit id) Q env L D := fun a w f s d => wp_exit (h a w f s d)
theorem rtD (h : WQD ds c Q .ret env L D) : WCD ds c .ret Q env L D := fun a w f s d => wp_ret (h a w f s d)
theorem bkD {id : Nat} (h : WCD ds c x (Exit.inBlock id Q) env L D) : WCD ds c (.block id x) Q env L D := fun a w f s d => wp_block (h a w f s d)
theorem tED {K : Act → World → Prop} {id : Nat} (h : WQD ds c Q (.exit id) env L D) : WQD ds c (Exit.then K Q) (.exit id) env L D := h
theorem bND {id : Nat} (h : WQD ds c Q .normal env L D) : WQD ds c (Exit.inBlock id Q) .normal env L D := h
theorem bED {id : Nat} (h : WQD ds c Q .normal env L D) : WQD ds c (Exit.inBlock id Q) (.exit id) env L D := fun a w f s d => by
  simp only [Exit.inBlock, if_true]; exact h a w f s d
end
/-! ### The loop that calls nothing -/
theorem nd_ne : ∀ {L : Own} {i j : Nat} {p q : OwnE} {a b : Nat}, L.bs.Nodup → L[i]? = some p → L[j]? = some q → i < j → a ∈ p.bs → b ∈ q.bs → a ≠ b
  | [], _, _, _, _, _, _, _, hi, _, _, _, _ => by simp at hi
  | r :: L, 0, j + 1, p, q, a, b, hn, hi, hj, _, ha, hb => by
    simp only [List.getElem?_cons_zero, Option.some.injEq] at hi
    subst hi
    simp only [Own.bs, bsOf, List.nodup_append] at hn
    simp only [List.getElem?_cons_succ] at hj
    exact hn.2.2 a ha b (mem_bsOf.2 ⟨q, List.mem_of_getElem? hj, hb⟩)
  | r :: L, i + 1, j + 1, p, q, a, b, hn, hi, hj, hij, ha, hb => by
    simp only [Own.bs, bsOf, List.nodup_append] at hn
    simp only [List.getElem?_cons_succ] at hi hj
    exact nd_ne (L := L) hn.2.1 hi hj (by omega) ha hb
section
variable {ds : List Deferred} {c : Cx} {Q : Exit → Act → World → Prop} {env : Env} {L : Own} {D : List Atom}
end
/-! ### The way out -/
theorem leavesM {P : Program} {fn : Func} {tmps : Array Value} {R : Ending → World → Prop} {n : Nat} : ∀ (ks : List Nat) (W : World), (∀ k ∈ ks, W.heap[k]? = some (.deferred (some []))) → ks.Nodup → (∀ W', Stp ks W W' → ∃ v, (results fn tmps).run P W' = .ok v W' ∧ R (.returned v) W') → LeavesInM Fence.wide n P fn tmps R (ks.map mk) .returning W
  | [], W, _, _, h => h W (Stp.refl _ _)
  | b :: ks, W, hk, hn, h => by
    have hb := hk b (by simp)
    have hs : Stp [b] W (W.putObj b (.deferred none)) := ⟨rfl, rfl, rfl, by simp [World.putObj], fun i hi hx => World.putObj_heap_other (by simpa using hx)⟩
    refine ⟨by simp, .inl ⟨_, _, rfl, run_takeDeferred hb, leavesM ks _ (fun k hk' => ?_) (List.nodup_cons.1 hn).2 fun W' hs' => h W' ?_⟩⟩
    · refine (World.putObj_heap_other fun e => ?_).trans (hk k (List.mem_cons_of_mem _ hk'))
      subst e
      exact (List.nodup_cons.1 hn).1 hk'
    · exact (hs.mono fun k hk => by simp at hk; simp [hk]).trans (hs'.mono fun k hk => List.mem_cons_of_mem _ hk)
section
variable {P : Program} {fn : Func} {x : Code} {f : FuncId} {args : List Value} {As : List Atom} {u : Value} {n m : Nat} {env : Env} {L : Own} {D : List Atom} {X : List Nat} {w0 : World}
end
end Go.Eng
