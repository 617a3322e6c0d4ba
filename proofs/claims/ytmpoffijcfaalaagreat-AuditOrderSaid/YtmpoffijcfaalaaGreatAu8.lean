/- Part 8 of the proof of auditOrder_holds: Eng18, Eng24, Words. Every text below begins with what it shows. -/
import Derived.Test.YtmpoffijcfaalaaGreatAu7

/- An open order told by its histories: which turning operations have come, in which order. Generic: no program. -/

namespace Go.Eng
def ptrB : Value → Nat
  | .pointer (some p) => p.block
  | _ => 0
theorem ptrB_mk (b : Nat) : ptrB (.pointer (some ⟨b, 0, none⟩)) = b := rfl
structure RH where
  deps : Nat → List Nat
  ok : Nat → Value → Prop
  at_ : Nat → Value → List Atom
  vals : Nat → Option Value
  L : List Nat → List Value → Own
  effs : List Nat
  hs : List (List Nat)
@[reducible] def RH.rs (s : RH) : RS := ⟨s.deps, s.ok, s.at_, fun _ => [], []⟩
@[reducible] def RH.ok2 (s : RH) (i : Nat) (u : Value) : Prop := match s.vals i with
  | some v => u = v
  | none => s.ok i u
def phH (l : List Oper) (s : RH) (i : Nat) : List (List Nat) := s.hs.filter fun h => (!(s.effs.contains i) || !(h.contains i)) && s.effs.all fun x => (!(edge l x i) || h.contains x) && (!(edge l i x) || !(h.contains x))
def ckH (l : List Oper) (s : RH) : Bool := s.hs.contains [] && s.effs.all (fun x => Nat.blt x l.length) && s.hs.all fun h => s.effs.all fun i => h.contains i || !(s.effs.all fun x => !(edge l x i) || h.contains x) || s.hs.contains (h ++ [i])
def rhOk (l : List Oper) (env : Env) (s : RH) (n : Nat) : Bool := ckDeps l s.deps && ckDst l env && ckBack l && ckSize l n && ckH l s
def fullH (s : RH) : List (List Nat) := s.hs.filter fun h => s.effs.all fun x => h.contains x
def nextH (s : RH) (h : List Nat) (vs : List Value) (i : Nat) (u : Value) : Own := if s.effs.contains i then s.L (h ++ [i]) (vs ++ [u]) else s.L h vs
def opPostH (c : Cx) (l : List Oper) (s : RH) (D : List Atom) (i : Nat) (h : List Nat) (vs : List Value) : Exit → Act → World → Prop := fun e a w =>
  e = .normal ∧ a.defers = [] ∧ St c.w0 c.M w (nextH s h vs i (slotV l a i)) ∧ DH D w (nextH s h vs i (slotV l a i)) ∧ ∀ d, dstOf l i = some d → s.ok2 i (a.tmps.getD d undef) ∧ DH (s.at_ i (a.tmps.getD d undef)) w (nextH s h vs i (slotV l a i))
def OblH (c : Cx) (l : List Oper) (s : RH) (env : Env) (D : List Atom) : List Oper → Nat → Prop
  | [], _ => True
  | o :: r, i => (∀ (V : Nat → Value) (De : List Atom), AllP (fun k => s.vals k = none → s.ok k (V k)) (s.deps i) →
      AllP (fun h => WL (opPostH c l s (D ++ De) i h (h.map V)) c l.toArray [o] (envOf l (VV s.vals V) (s.deps i) ++ env) (s.L h (h.map V)) (atsOf s.rs (VV s.vals V) (s.deps i) ++ (D ++ De))) (phH l s i)) ∧ OblH c l s env D r (i + 1)
theorem OblH.at_ {c : Cx} {l : List Oper} {s : RH} {env : Env} {D : List Atom} : ∀ {r : List Oper} {i : Nat}, OblH c l s env D r i → ∀ k o, r[k]? = some o → ∀ (V : Nat → Value) (De : List Atom), AllP (fun k => s.vals k = none → s.ok k (V k)) (s.deps (i + k)) →
    AllP (fun h => WL (opPostH c l s (D ++ De) (i + k) h (h.map V)) c l.toArray [o] (envOf l (VV s.vals V) (s.deps (i + k)) ++ env) (s.L h (h.map V)) (atsOf s.rs (VV s.vals V) (s.deps (i + k)) ++ (D ++ De))) (phH l s (i + k))
  | [], _, _, k, o, hk => by simp at hk
  | p :: r, i, h, 0, o, hk => by simp at hk; subst hk; exact h.1
  | p :: r, i, h, k + 1, o, hk => by
    simp only [List.getElem?_cons_succ] at hk
    have := OblH.at_ h.2 k o hk
    rwa [show i + 1 + k = i + (k + 1) by omega] at this
structure MidH (c : Cx) (l : List Oper) (s : RH) (env : Env) (D : List Atom) (listed : Array Bool) (a : Act) (w : World) (h : List Nat) : Prop where
  fr : Fr c.n a env
  st : St c.w0 c.M w (s.L h (h.map (valOf l a)))
  dh : DH D w (s.L h (h.map (valOf l a)))
  size : listed.size = l.length
  closed : ∀ i k, listed.getD i false = true → edge l k i = true → listed.getD k false = true
  slot : ∀ i d, listed.getD i false = true → dstOf l i = some d → s.ok2 i (a.tmps.getD d undef) ∧ DH (s.at_ i (a.tmps.getD d undef)) w (s.L h (h.map (valOf l a)))
  done : ∀ x, x ∈ s.effs → (listed.getD x false = true ↔ x ∈ h)
  hin : ∀ x ∈ h, listed.getD x false = true
  mem : h ∈ s.hs
section
variable {c : Cx} {l : List Oper} {s : RH} {env : Env} {D : List Atom} {Q : Exit → Act → World → Prop}
theorem MidH.frame {listed : Array Bool} {a : Act} {w : World} {h : List Nat} (m : MidH c l s env D listed a w h) (hsz : ckSize l c.n = true) {is : List Nat} (hl : ∀ k ∈ is, k < l.length) : Fr c.n a (envOf l (valOf l a) is ++ env) := by
  refine ⟨m.fr.size, m.fr.dn, fun i v hi => ?_⟩
  rcases lk_append hi with h | h
  · obtain ⟨k, hk, hd, hv⟩ := lk_envOf h
    simp only [valOf, hd] at hv
    have hkl := hl k hk
    have hlt : i < c.n := by
      have := List.all_eq_true.1 hsz (l[k]) (List.getElem_mem hkl)
      have hd' : (l[k]).dst = some i := by simpa [dstOf, List.getElem?_eq_getElem hkl] using hd
      rw [hd'] at this
      exact lt_blt this
    have : i < a.tmps.size := by rw [m.fr.size]; exact hlt
    rw [← hv]
    simp [this, slotV, hd]
  · exact m.fr.at_ _ _ h.2
theorem ok2_VV {V : Nat → Value} {k : Nat} (h : s.ok2 k (V k)) : V k = VV s.vals V k := by
  unfold VV
  simp only [RH.ok2] at h
  split at h
  · rename_i v hv; rw [hv]; exact h
  · rename_i hv; rw [hv]; rfl
theorem ok2_of {V : Nat → Value} {k : Nat} (h : s.ok2 k (V k)) (hn : s.vals k = none) : s.ok k (V k) := by
  simp only [RH.ok2, hn] at h
  exact h
/-- One operation comes up. -/
theorem MidH.step (h1 : ckDeps l s.deps = true) (h2 : ckDst l env = true) (h4 : ckH l s = true) (hsz : ckSize l c.n = true) (hO : OblH c l s env D l 0)
    {listed : Array Bool} {a : Act} {w : World} {hh : List Nat} {i : Nat} (m : MidH c l s env D listed a w hh) (hr : i ∈ Region.ready .any l.toArray listed) {K : Act → World → Prop}
    (hK : ∀ a' w' h', MidH c l s env D (listed.setIfInBounds i true) a' w' h' → K a' w') : wpOp c.P l.toArray Q i K a w := by
  obtain ⟨hun, o, ho, hall⟩ := mem_ready.1 hr
  have ho : l[i]? = some o := by simpa using ho
  have hil : i < l.length := (List.getElem?_eq_some_iff.1 ho).1
  have his : i < listed.size := by rw [m.size]; exact hil
  have hun' : listed.getD i false = false := by rw [← getD_true_false his]; exact hun
  have hed : ∀ k, edge l k i = true → listed.getD k false = true := by
    intro k hk
    obtain ⟨e, he, hb, rfl⟩ := (edge_mem ho).1 hk
    exact hall e he hb
  have hnot : i ∉ hh := fun hi => by
    have := m.hin i hi
    rw [this] at hun'; cases hun'
  have hpre : ∀ x ∈ s.effs, edge l x i = true → x ∈ hh := fun x hx he => (m.done x hx).1 (hed x he)
  have hphase : hh ∈ phH l s i := by
    refine List.mem_filter.2 ⟨m.mem, ?_⟩
    simp only [Bool.and_eq_true, Bool.or_eq_true, Bool.not_eq_true', List.all_eq_true, List.contains_eq_mem, decide_eq_true_eq, decide_eq_false_iff_not]
    refine ⟨.inr hnot, fun x hx => ⟨?_, ?_⟩⟩
    · by_cases h : edge l x i = true
      · exact .inr (hpre x hx h)
      · left; simpa using h
    · by_cases h : edge l i x = true
      · right
        intro hxh
        have := m.closed x i (m.hin x hxh) h
        rw [this] at hun'; cases hun'
      · left; simpa using h
  have hdep : ∀ k ∈ s.deps i, edge l k i = true ∧ (dstOf l k).isSome = true := by
    intro k hk
    have := List.all_eq_true.1 (List.all_eq_true.1 h1 i (List.mem_range.2 hil)) k hk
    simpa using this
  have hdlt : ∀ k, (dstOf l k).isSome = true → k < l.length := by
    intro k hk
    rcases Nat.lt_or_ge k l.length with h | h
    · exact h
    · simp [dstOf, List.getElem?_eq_none h] at hk
  have hok2 : ∀ k ∈ s.deps i, s.ok2 k (valOf l a k) := fun k hk => by
    obtain ⟨d, hd⟩ := Option.isSome_iff_exists.1 (hdep k hk).2
    have := (m.slot k d (hed k (hdep k hk).1) hd).1
    simpa [valOf, slotV, hd] using this
  let J := (List.range l.length).filter fun k => listed.getD k false && (dstOf l k).isSome
  have hJ : ∀ k, k ∈ J ↔ listed.getD k false = true ∧ (dstOf l k).isSome = true := by
    intro k
    simp only [J, List.mem_filter, List.mem_range, Bool.and_eq_true]
    exact ⟨fun h => h.2, fun h => ⟨hdlt k h.2, h⟩⟩
  have hatJ : ∀ k, k ∈ J → DH (s.at_ k (valOf l a k)) w (s.L hh (hh.map (valOf l a))) := by
    intro k hk
    obtain ⟨hk1, hk2⟩ := (hJ k).1 hk
    obtain ⟨d, hd⟩ := Option.isSome_iff_exists.1 hk2
    have := (m.slot k d hk1 hd).2
    simpa [valOf, slotV, hd] using this
  have e0 : ∀ k ∈ s.deps i, valOf l a k = VV s.vals (valOf l a) k := fun k hk => ok2_VV (hok2 k hk)
  have e1 : envOf l (valOf l a) (s.deps i) = envOf l (VV s.vals (valOf l a)) (s.deps i) := envOf_congr fun k hk _ => e0 k hk
  have e2 : atsOf s.rs (valOf l a) (s.deps i) = atsOf s.rs (VV s.vals (valOf l a)) (s.deps i) := atsOf_congr e0
  have hwl := (hO.at_ i o ho (valOf l a) (atsOf s.rs (valOf l a) J) (by rw [Nat.zero_add]; exact AllP.intro fun k hk hn => ok2_of (hok2 k hk) hn))
  rw [Nat.zero_add, ← e1, ← e2] at hwl
  have hwl := hwl.mem hh hphase a w (m.frame hsz fun k hk => hdlt k (hdep k hk).2) m.st (DH.app (fun t ht => by
    obtain ⟨k, hk, ht⟩ := mem_atsOf ht
    exact hatJ k ((hJ k).2 ⟨hed k (hdep k hk).1, (hdep k hk).2⟩) t ht) (DH.app m.dh (fun t ht => by
    obtain ⟨k, hk, ht⟩ := mem_atsOf ht
    exact hatJ k hk t ht)))
  have hno : ¬ LetsOut (opPostH c l s (D ++ atsOf s.rs (valOf l a) J) i hh (hh.map (valOf l a))) := by
    rintro ⟨a', w', h⟩; cases h.1
  -- what is left once it is done
  have hfin : ∀ a' w', (∃ u, a' = a.put o.dst u) → opPostH c l s (D ++ atsOf s.rs (valOf l a) J) i hh (hh.map (valOf l a)) .normal a' w' → K a' w' := by
    rintro a' w' ⟨u, rfl⟩ ⟨_, _, hst', hdh', hslot'⟩
    have hdsts : ∀ d, o.dst = some d → keyIn env d = false ∧ ∀ k, k ≠ i → dstOf l k ≠ some d := by
      intro d hd
      have hdi : dstOf l i = some d := by simp [dstOf, ho, hd]
      have := List.all_eq_true.1 h2 i (List.mem_range.2 hil)
      rw [hdi] at this
      simp only [Bool.and_eq_true, Bool.not_eq_true'] at this
      refine ⟨this.1, fun k hk e => ?_⟩
      have hkl := hdlt k (by rw [e]; rfl)
      have := List.all_eq_true.1 this.2 k (List.mem_range.2 hkl)
      simp [e, Ne.symm hk] at this
    have hvk : ∀ k, k ≠ i → valOf l (a.put o.dst u) k = valOf l a k := by
      intro k hk
      simp only [valOf, slotV]
      cases hdk : dstOf l k with
      | none => rfl
      | some d =>
        cases hd : o.dst with
        | none => rfl
        | some d0 =>
          have hne : d0 ≠ d := by
            rintro rfl
            exact (hdsts d0 hd).2 k hk hdk
          simp [Act.put, Array.getElem?_setIfInBounds_ne hne]
    have hmap : hh.map (valOf l (a.put o.dst u)) = hh.map (valOf l a) := List.map_congr_left fun x hx => hvk x (fun e => hnot (e ▸ hx))
    let h' := if s.effs.contains i = true then hh ++ [i] else hh
    have hLn : s.L h' (h'.map (valOf l (a.put o.dst u))) = nextH s hh (hh.map (valOf l a)) i (slotV l (a.put o.dst u) i) := by
      unfold nextH
      simp only [h']
      by_cases hc : s.effs.contains i = true
      · rw [if_pos hc, if_pos hc, List.map_append, hmap]; rfl
      · rw [if_neg hc, if_neg hc, hmap]
    rw [← hLn] at hst' hdh' hslot'
    have hmem' : ∀ x, x ∈ h' ↔ x ∈ hh ∨ (x = i ∧ s.effs.contains i = true) := by
      intro x
      simp only [h']
      by_cases hc : s.effs.contains i = true
      · rw [if_pos hc]; simp only [List.mem_append, List.mem_singleton, hc, and_true]
      · rw [if_neg hc]; simp only [hc, and_false, or_false]; simp
    refine hK _ _ h' ⟨?_, hst', fun t ht => hdh' t (List.mem_append.2 (.inl ht)), by simp [m.size], ?_, ?_, ?_, ?_, ?_⟩
    · cases hd : o.dst with
      | none => exact m.fr
      | some d =>
        have hdn : d < c.n := by
          have := List.all_eq_true.1 hsz o (List.mem_of_getElem? ho)
          rw [hd] at this
          exact lt_blt this
        have f := m.fr.put u hdn
        refine ⟨f.size, f.dn, fun k v hk => f.at_ k v ?_⟩
        have hne : d ≠ k := by
          rintro rfl
          have := keyIn_of_lk hk
          rw [(hdsts d hd).1] at this; cases this
        have : (d == k) = false := by simpa using hne
        simp only [lk, this, cond_false]
        exact hk
    · intro i' k hi' hk
      rw [getD_set his] at hi' ⊢
      simp only [Bool.or_eq_true, beq_iff_eq] at hi' ⊢
      rcases hi' with rfl | hi'
      · exact .inr (hed k hk)
      · exact .inr (m.closed i' k hi' hk)
    · intro i' d hi' hd'
      rw [getD_set his] at hi'
      simp only [Bool.or_eq_true, beq_iff_eq] at hi'
      by_cases hii : i = i'
      · subst hii
        exact hslot' d hd'
      · have hi' : listed.getD i' false = true := by
          rcases hi' with h | h
          · exact absurd h hii
          · exact h
        have hval : (a.put o.dst u).tmps.getD d undef = a.tmps.getD d undef := by
          cases hd : o.dst with
          | none => rfl
          | some d0 =>
            have hne : d0 ≠ d := by
              rintro rfl
              exact (hdsts d0 hd).2 i' (Ne.symm hii) hd'
            simp [Act.put, Array.getElem?_setIfInBounds_ne hne]
        rw [hval]
        refine ⟨(m.slot i' d hi' hd').1, fun t ht => hdh' t (List.mem_append.2 (.inr (of_at (s := s.rs) (k := i') ((hJ i').2 ⟨hi', by rw [hd']; rfl⟩) ?_)))⟩
        simpa [valOf, slotV, hd'] using ht
    · intro x hx
      rw [getD_set his, hmem' x]
      simp only [Bool.or_eq_true, beq_iff_eq]
      rw [m.done x hx]
      constructor
      · rintro (rfl | h)
        · right; exact ⟨rfl, by simpa using hx⟩
        · exact .inl h
      · rintro (h | ⟨rfl, _⟩)
        · exact .inr h
        · exact .inl rfl
    · intro x hx
      rw [getD_set his]
      simp only [Bool.or_eq_true, beq_iff_eq]
      rcases (hmem' x).1 hx with h | ⟨rfl, _⟩
      · exact .inr (m.hin x h)
      · exact .inl rfl
    · simp only [h']
      by_cases hc : s.effs.contains i = true
      · rw [if_pos hc]
        simp only [ckH, Bool.and_eq_true] at h4
        have hie : i ∈ s.effs := by simpa using hc
        have := List.all_eq_true.1 (List.all_eq_true.1 h4.2 hh m.mem) i hie
        simp only [Bool.or_eq_true, Bool.not_eq_true'] at this
        rcases this with (h | h) | h
        · exact absurd (by simpa using h) hnot
        · exfalso
          rw [← Bool.not_eq_true, List.all_eq_true] at h
          refine h fun x hx => ?_
          simp only [Bool.or_eq_true, Bool.not_eq_true']
          by_cases he : edge l x i = true
          · right; simpa using hpre x hx he
          · left; simpa using he
        · simpa using h
      · rw [if_neg hc]; exact m.mem
  unfold wpOp
  have ho' : l.toArray[i]? = some o := by simpa using ho
  simp only [ho']
  unfold wpList at hwl
  by_cases hw : Region.wanted o (yielded l.toArray a.tmps) = true
  · rw [if_pos hw] at hwl ⊢
    refine .inl (upon_up (Q := opPostH c l s (D ++ atsOf s.rs (valOf l a) J) i hh (hh.map (valOf l a))) (fun _ _ _ h => by cases h.1) hno ?_)
    rcases hwl with h | h
    · -- the frame behind it is the one before, with a value put
      have key : ∀ {r : Result Next}, o.upon c.P a (opPostH c l s (D ++ atsOf s.rs (valOf l a) J) i hh (hh.map (valOf l a)) .normal) (opPostH c l s (D ++ atsOf s.rs (valOf l a) J) i hh (hh.map (valOf l a))) r → o.upon c.P a K (opPostH c l s (D ++ atsOf s.rs (valOf l a) J) i hh (hh.map (valOf l a))) r := by
        intro r h
        cases r with
        | ok n w' =>
          cases n <;> simp only [Oper.upon] at h ⊢ <;> try exact h
          · exact hfin _ _ ⟨_, rfl⟩ h
          · exact hfin _ _ ⟨_, rfl⟩ h
          · exact Calls.mono h fun e w'' he => by
              cases e with
              | returned v => exact hfin _ _ ⟨_, rfl⟩ he
              | panicked ch => exact he
              | outgrown => exact he
          · have hd := h.2.1
            cases hdst : o.dst <;> simp [hdst, Act.put] at hd
          · exact Rows.mono h fun _ _ he => hfin _ _ ⟨_, rfl⟩ he
        | halt x w' => cases x <;> simp only [Oper.upon] at h ⊢ <;> exact h
      exact key h
    · exact absurd h.2 hno
  · rw [if_neg hw] at hwl ⊢
    exact hfin _ _ ⟨undef, rfl⟩ hwl
theorem MidH.all (h1 : ckDeps l s.deps = true) (h2 : ckDst l env = true) (h4 : ckH l s = true) (h5 : ckBack l = true) (hsz : ckSize l c.n = true) (hO : OblH c l s env D l 0)
    (hK : ∀ a w h, h ∈ fullH s → MidH c l s env D (Array.replicate l.length true) a w h → Q .normal a w) :
    ∀ (fuel : Nat) (listed : Array Bool) (a : Act) (w : World) (h : List Nat), MidH c l s env D listed a w h → (List.range l.length).countP (fun i => !listed.getD i false) ≤ fuel → wpAny c.P .any l.toArray Q fuel listed a w := by
  have hfin : ∀ (listed : Array Bool) (a : Act) (w : World) (h : List Nat), MidH c l s env D listed a w h → Region.ready .any l.toArray listed = [] → Q .normal a w := by
    intro listed a w h m hr
    have hall : ∀ i, i < l.length → listed.getD i false = true := by
      intro i
      induction i using Nat.strongRecOn with
      | _ i ih =>
        intro hi
        cases hli : listed.getD i false with
        | true => rfl
        | false =>
          exfalso
          have : i ∈ Region.ready .any l.toArray listed := by
            refine mem_ready.2 ⟨by rw [getD_true_false (by rw [m.size]; exact hi)]; exact hli, l[i], by simp [List.getElem?_eq_getElem hi], fun e he hb => ?_⟩
            have hbk := List.all_eq_true.1 h5 i (List.mem_range.2 hi)
            rw [List.getElem?_eq_getElem hi] at hbk
            have := List.all_eq_true.1 hbk e (Array.mem_toList_iff.2 he)
            rw [hb] at this
            have hlt := lt_blt (by simpa using this)
            exact ih e.on hlt (by omega)
          rw [hr] at this
          cases this
    have heq : listed = Array.replicate l.length true := by
      apply Array.ext
      · simp [m.size]
      · intro i h1 h2
        have := hall i (by rw [m.size] at h1; exact h1)
        simp [h1] at this
        simp [this]
    have hf : h ∈ fullH s := by
      refine List.mem_filter.2 ⟨m.mem, List.all_eq_true.2 fun x hx => ?_⟩
      simp only [ckH, Bool.and_eq_true] at h4
      have := List.all_eq_true.1 h4.1.2 x hx
      simpa using (m.done x hx).1 (hall x (lt_blt this))
    subst heq
    exact hK a w h hf m
  intro fuel
  induction fuel with
  | zero =>
    intro listed a w h m hc0
    have hr : Region.ready .any l.toArray listed = [] := by
      apply List.eq_nil_iff_forall_not_mem.2
      intro i hi
      obtain ⟨hun, o, ho, _⟩ := mem_ready.1 hi
      have hil : i < l.length := by
        have := (Array.getElem?_eq_some_iff.1 ho).1
        simpa using this
      have hun' : listed.getD i false = false := by rw [← getD_true_false (by rw [m.size]; exact hil)]; exact hun
      have h0 : (List.range l.length).countP (fun i => !listed.getD i false) = 0 := by omega
      have := List.countP_eq_zero.1 h0 i (List.mem_range.2 hil)
      simp [hun'] at this
    exact ⟨hr, hfin _ _ _ _ m hr⟩
  | succ fuel ih =>
    intro listed a w h m hc0
    refine ⟨fun hr => hfin _ _ _ _ m hr, fun i hi => ?_⟩
    refine m.step h1 h2 h4 hsz hO hi fun a' w' h' m' => ih _ a' w' h' m' ?_
    obtain ⟨hun, o, ho, _⟩ := mem_ready.1 hi
    have hil : i < l.length := by
      have := (Array.getElem?_eq_some_iff.1 ho).1
      simpa using this
    have his : i < listed.size := by rw [m.size]; exact hil
    have hun' : listed.getD i false = false := by rw [← getD_true_false his]; exact hun
    have : (List.range l.length).countP (fun k => !(listed.setIfInBounds i true).getD k false) < (List.range l.length).countP (fun k => !listed.getD k false) := by
      refine countP_lt (fun k _ hk => ?_) ⟨i, List.mem_range.2 hil, by rw [hun']; rfl, ?_⟩
      · rw [getD_set his] at hk
        simp only [Bool.not_eq_true', Bool.or_eq_false_iff] at hk
        rw [hk.2]; rfl
      · rw [getD_set his]; simp
    omega
/-- **A statement whose order is open, told by its histories; most of its values known.** -/
theorem rgH {id : Nat} (s : RH) (Le : (Nat → Value) → Own) (hm : c.P.follows .mixedOrders = true) (hok : rhOk l env s c.n = true) {L : Own} (hL : s.L [] [] = L) (hE : AllP (fun h => ∀ V : Nat → Value, s.L h (h.map V) = Le V) (fullH s)) (hO : OblH c l s env D l 0)
    (k : ∀ V : Nat → Value, AllP (fun i => (dstOf l i).isSome = true → s.vals i = none → s.ok i (V i)) (List.range l.length) → WQ c Q .normal (envOf l (VV s.vals V) (List.range l.length) ++ env) (Le V) (atsOf s.rs (VV s.vals V) ((List.range l.length).filter fun i => (dstOf l i).isSome) ++ D)) : WC c (.region id l.toArray true) Q env L D := by
  intro a w f st dh
  simp only [rhOk, Bool.and_eq_true] at hok
  obtain ⟨⟨⟨⟨h1, h2⟩, h5⟩, hsz⟩, h4⟩ := hok
  subst hL
  refine wp_region_any hm ?_
  have hs := Stp.drew [] w
  have m0 : MidH c l s env D (Array.replicate l.length false) a w.drew [] := by
    refine ⟨f, st.step hs, dh.step hs.nil, by simp, fun i k h _ => ?_, fun i d h _ => ?_, fun x _ => ?_, fun x hx => (by cases hx), ?_⟩
    · rw [getD_rep] at h; cases h
    · rw [getD_rep] at h; cases h
    · rw [getD_rep]; simp
    · simp only [ckH, Bool.and_eq_true] at h4
      simpa using h4.1.1
  have := MidH.all (Q := Q) h1 h2 h4 h5 hsz hO ?_ l.length (Array.replicate l.length false) a w.drew [] m0 (by
    have := List.countP_le_length (p := fun i => !(Array.replicate l.length false).getD i false) (l := List.range l.length)
    simpa using this)
  · simpa using this
  · intro a' w' h hf m
    have hin : ∀ i, (dstOf l i).isSome = true → (Array.replicate l.length true).getD i false = true := by
      intro i hi
      have : i < l.length := by
        rcases Nat.lt_or_ge i l.length with h | h
        · exact h
        · simp [dstOf, List.getElem?_eq_none h] at hi
      simp [this]
    have hp := hE.mem h hf (valOf l a')
    have hst := m.st
    have hdh := m.dh
    have hsl := m.slot
    rw [hp] at hst hdh hsl
    have hok2 : ∀ k, (dstOf l k).isSome = true → s.ok2 k (valOf l a' k) := fun k hk => by
      obtain ⟨d, hd⟩ := Option.isSome_iff_exists.1 hk
      have := (hsl k d (hin k hk) hd).1
      simpa [valOf, slotV, hd] using this
    have e1 : envOf l (valOf l a') (List.range l.length) = envOf l (VV s.vals (valOf l a')) (List.range l.length) := envOf_congr fun k _ hd => ok2_VV (hok2 k hd)
    have e2 : atsOf s.rs (valOf l a') ((List.range l.length).filter fun i => (dstOf l i).isSome) = atsOf s.rs (VV s.vals (valOf l a')) ((List.range l.length).filter fun i => (dstOf l i).isSome) := atsOf_congr fun k hk => ok2_VV (hok2 k (by simpa using (List.mem_filter.1 hk).2))
    have hk := k (valOf l a') (AllP.intro fun i _ hd hn => ok2_of (hok2 i hd) hn)
    rw [← e1, ← e2] at hk
    refine hk a' w' (m.frame hsz fun k hk => List.mem_range.1 hk) hst (DH.app (fun t ht => ?_) hdh)
    obtain ⟨i, hi, ht⟩ := mem_atsOf ht
    have hd := (List.mem_filter.1 hi).2
    obtain ⟨d, hd⟩ := Option.isSome_iff_exists.1 hd
    have := (hsl i d (hin i (by rw [hd]; rfl)) hd).2
    simp only [valOf, slotV, hd] at ht
    exact this t ht
/-- An operation's own end. -/
theorem odH {i : Nat} {h : List Nat} {vs : List Value} {env' : Env} {L' : Own} {D' De : List Atom} {d : Nat} {u : Value} (hd : dstOf l i = some d) (hv : lk env' d = some u) (hL : L' = nextH s h vs i u) (hok : s.ok2 i u) (hat : SubD (s.at_ i u) D') (hD : SubD De D') :
    WQ c (opPostH c l s De i h vs) .normal env' L' D' := by
  intro a w f st dh
  have e : a.tmps.getD d undef = u := by
    have := f.at_ d u hv
    simp [this]
  have e2 : slotV l a i = u := by simp only [slotV, hd, e]
  subst hL
  refine ⟨rfl, f.dn, by rw [e2]; exact st, by rw [e2]; exact dh.sub hD, fun d' hd' => ?_⟩
  rw [hd] at hd'
  injection hd' with hd'
  subst hd'
  rw [e, e2]
  exact ⟨hok, dh.sub hat⟩
theorem od0H {i : Nat} {h : List Nat} {vs : List Value} {env' : Env} {L' : Own} {D' De : List Atom} (hd : dstOf l i = none) (hL : L' = nextH s h vs i undef) (hD : SubD De D') :
    WQ c (opPostH c l s De i h vs) .normal env' L' D' := by
  intro a w f st dh
  have e2 : slotV l a i = undef := by simp only [slotV, hd]
  subst hL
  refine ⟨rfl, f.dn, by rw [e2]; exact st, by rw [e2]; exact dh.sub hD, fun d' hd' => ?_⟩
  rw [hd] at hd'
  cases hd'
end
end Go.Eng

/- Short words for what comes often. Generic: no program. -/
namespace Go.Eng
universe u₀
theorem G {α : Sort u₀} {a : α} : a = a := rfl
theorem Sn {D : List Atom} : SubD [] D := SubD.nil
theorem Sr {D : List Atom} : SubD D D := SubD.refl
theorem Sc {D As : List Atom} {t : Atom} (i : Nat) (hi : D[i]? = some t) (h : SubD As D) : SubD (t :: As) D := SubD.cons i hi h
section
variable {α : Type} {q : α → Prop} {a b c d e f : α}
theorem aP1 (h1 : q a) : AllP q [a] := ⟨h1, trivial⟩
theorem aP2 (h1 : q a) (h2 : q b) : AllP q [a, b] := ⟨h1, h2, trivial⟩
theorem aP3 (h1 : q a) (h2 : q b) (h3 : q c) : AllP q [a, b, c] := ⟨h1, h2, h3, trivial⟩
theorem aP4 (h1 : q a) (h2 : q b) (h3 : q c) (h4 : q d) : AllP q [a, b, c, d] := ⟨h1, h2, h3, h4, trivial⟩
theorem aP5 (h1 : q a) (h2 : q b) (h3 : q c) (h4 : q d) (h5 : q e) : AllP q [a, b, c, d, e] := ⟨h1, h2, h3, h4, h5, trivial⟩
theorem aP6 (h1 : q a) (h2 : q b) (h3 : q c) (h4 : q d) (h5 : q e) (h6 : q f) : AllP q [a, b, c, d, e, f] := ⟨h1, h2, h3, h4, h5, h6, trivial⟩
end
section
variable {c : Cx} {l : List Oper} {ops : Array Oper} {env : Env} {L' : Own} {D : List Atom} {i d : Nat} {u : Value}
theorem oa {s : RS} {vs : List Value} (hd : dstOf l i = some d) (hL : L' = nextL s vs i u) (hok : s.ok i u) (hat : s.at_ i u = []) : WL (opPost c l s D i vs) c ops [] ((d, u) :: env) L' D :=
  nl (od hd (by simp [lk]) hL hok (by rw [hat]; exact SubD.nil) SubD.refl)
theorem oh {s : RH} {h : List Nat} {vs : List Value} (hd : dstOf l i = some d) (hL : L' = nextH s h vs i u) (hok : s.ok2 i u) (hat : s.at_ i u = []) : WL (opPostH c l s D i h vs) c ops [] ((d, u) :: env) L' D :=
  nl (odH hd (by simp [lk]) hL hok (by rw [hat]; exact SubD.nil) SubD.refl)
theorem oh0 {s : RH} {h : List Nat} {vs : List Value} (hd : dstOf l i = none) (hL : L' = nextH s h vs i undef) : WL (opPostH c l s D i h vs) c ops [] env L' D :=
  nl (od0H hd hL SubD.refl)
end
end Go.Eng

/- Lists of values that come often. -/
namespace Go.Eng
@[reducible] def zv0 : List Value := [.int .i64 0, .int .i64 0, .int .i64 0, .int .i64 0]
@[reducible] def zv1 : List Value := [.int .i64 0, .int .i64 0]
@[reducible] def zv2 : List Value := [.int .i64 0, .int .i64 0, .string ByteArray.empty, .string ByteArray.empty, .int .i64 0, .int .i64 0, .int .i64 0, .int .i64 0]
@[reducible] def zv3 : List Value := [.int .i64 0, .int .i64 0, .bool false, .int .i64 0, .int .i64 0, .int .i64 0, .int .i64 0]
@[reducible] def zv4 : List Value := [.int .i64 0, .int .i64 0, .int .i64 0, .int .i64 0, .int .i64 0, .int .i64 0, .string ByteArray.empty, .string ByteArray.empty, .int .i64 0, .int .i64 0, .int .i64 0]
@[reducible] def zv5 : List Value := [.string ByteArray.empty, .int .i64 0, .int .i64 0, .int .i64 0, .int .i64 0, .slice none 0 0, .int .i64 0, .int .i64 0, .int .i64 0, .int .i64 0]
@[reducible] def zv6 : List Value := [.int .i64 0, .int .i64 0, .bool false, .string ByteArray.empty, .string ByteArray.empty, .int .i64 0, .slice none 0 0, .slice none 0 0, .slice none 0 0, .slice none 0 0, .slice none 0 0, .int .i64 0, .int .i64 0, .int .i64 0, .string ByteArray.empty, .string ByteArray.empty, .int .i64 0, .int .i64 0, .int .i64 0, .int .i64 0, .int .i64 0, .string ByteArray.empty, .string ByteArray.empty, .int .i64 0, .int .i64 0, .slice none 0 0, .int .i64 0, .int .i64 0, .int .i64 0]
end Go.Eng
