/- Part 8 of dutyPlays_holds. -/
import Derived.OrdersIn
import Derived.RangeFuncNested
import Derived.RangeFuncLeaves
import Derived.Lib.AppendZeros
import Derived.Test.YtmpoffijcfaalaaGreatPl7

set_option maxRecDepth 20000
set_option maxHeartbeats 1000000
namespace Go.Eng
section
theorem wpOpIn_of_wpOp {P : Program} {ops : Array Oper} {Q : Exit → Act → World → Prop} {i n : Nat} {K : Act → World → Prop} {a : Act} {w : World} (h : wpOp P ops (fun _ _ _ => False) i K a w) : wpOpIn Fence.wide n P ops Q i K a w := by
 unfold wpOp at h
 unfold wpOpIn
 split
 · rename_i hn
   rw [hn] at h
   exact h
 · rename_i o ho
   rw [ho] at h
   simp only at h
   by_cases hw : Region.wanted o (yielded ops a.tmps) = true
   · rw [if_pos hw] at h ⊢
     have h := h.elim id fun h => by obtain ⟨_, _, h⟩ := h.2; exact h.elim
     refine ⟨fun _ _ => trivial, ?_⟩
     unfold Oper.wp at h
     have hs : Oper.semAt Fence.wide.round a.eval o = execOp a.eval o := rfl
     rw [hs]
     generalize (execOp a.eval o).run P w = r at *
     cases r with
     | ok nx w' =>
      cases nx <;> simp only [Oper.upon, Oper.uponIn] at h ⊢ <;> try exact h
      · refine ⟨(fun hd => by cases hd), callsIn_wide.2 (Calls.mono h fun e w'' he => ?_)⟩
        cases e with
        | returned v => exact he
        | panicked ch => exact he.elim
        | outgrown => obtain ⟨_, _, he⟩ := he; exact he.elim
      · exact ⟨(fun hd => by cases hd), fun c cs _ => by obtain ⟨v, w', hR, hs⟩ := h c cs; exact ⟨v, w', hR, stepsIn_wide.2 hs⟩⟩
     | halt x w' => cases x <;> simp only [Oper.upon, Oper.uponIn] at h ⊢ <;> exact h.elim
   · rw [if_neg hw] at h ⊢
     exact ⟨fun _ _ => trivial, h⟩
theorem cnt_one : ∀ (n : Nat) (f g : Nat → Bool) (i : Nat), i < n → f i = true → g i = false → (∀ j, j ≠ i → g j = f j) → (List.range n).countP g + 1 = (List.range n).countP f
 | 0, _, _, _, h, _, _, _ => by omega
 | n + 1, f, g, i, hi, hf, hg, he => by
  rw [List.range_succ, List.countP_append, List.countP_append]
  by_cases h : i = n
  · subst h
    have : (List.range i).countP g = (List.range i).countP f := List.countP_congr fun j hj => by rw [he j (by have := List.mem_range.1 hj; omega)]
    rw [this]
    simp [hf, hg]
  · have ih := cnt_one n f g i (by omega) hf hg he
    have e : [n].countP g = [n].countP f := by simp only [List.countP_cons, List.countP_nil, he n (Ne.symm h)]
    rw [e]
    omega
section
variable {c : Cx} {l : List Oper} {s : RH} {env : Env} {D : List Atom} {Q : Exit → Act → World → Prop}
def ckDst1 (l : List Oper) (env : Env) (i : Nat) : Bool := match dstOf l i with
 | none => true
 | some d => !keyIn env d && (List.range l.length).all fun j => i == j || !(dstOf l j == some d)
theorem MidH.step1 {i : Nat} (h1 : ckDeps l s.deps = true) (h2 : ckDst1 l env i = true) (h4 : ckH l s = true) (hsz : ckSize l c.n = true)
 {listed : Array Bool} {a : Act} {w : World} {hh : List Nat} (m : MidH c l s env D listed a w hh) (hr : i ∈ Region.ready .any l.toArray listed)
 (hO : ∀ o, l[i]? = some o → ∀ (V : Nat → Value) (De : List Atom), AllP (fun k => s.vals k = none → s.ok k (V k)) (s.deps i) → AllP (fun h => WL (opPostH c l s (D ++ De) i h (h.map V)) c l.toArray [o] (envOf l (VV s.vals V) (s.deps i) ++ env) (s.L h (h.map V)) (atsOf s.rs (VV s.vals V) (s.deps i) ++ (D ++ De))) (phH l s i)) {K : Act → World → Prop}
 (hK : ∀ a' w' h', MidH c l s env D (listed.setIfInBounds i true) a' w' h' → K a' w') : wpOp c.P l.toArray Q i K a w := by
 obtain ⟨hun, o, ho, hall⟩ := mem_ready.1 hr
 have ho : l[i]? = some o := by simpa using ho
 have hil : i < l.length := (List.getElem?_eq_some_iff.1 ho).1
 have his : i < listed.size := by rw [m.size]; exact hil
 have hun' : listed.getD i false = false := by rw [← getD_true_false his]; exact hun
 have hed : ∀ k, edge l k i = true → listed.getD k false = true := by
  intro k hk
  obtain ⟨e, he, hb, rfl⟩ := (edge_mem ho).1 hk
  exact hall e he hb
 have hnot : i ∉ hh := fun hi => by
  have := m.hin i hi
  rw [this] at hun'; cases hun'
 have hpre : ∀ x ∈ s.effs, edge l x i = true → x ∈ hh := fun x hx he => (m.done x hx).1 (hed x he)
 have hphase : hh ∈ phH l s i := by
  refine List.mem_filter.2 ⟨m.mem, ?_⟩
  simp only [Bool.and_eq_true, Bool.or_eq_true, Bool.not_eq_true', List.all_eq_true, List.contains_eq_mem, decide_eq_true_eq, decide_eq_false_iff_not]
  refine ⟨.inr hnot, fun x hx => ⟨?_, ?_⟩⟩
  · by_cases h : edge l x i = true
    · exact .inr (hpre x hx h)
    · left; simpa using h
  · by_cases h : edge l i x = true
    · right
      intro hxh
      have := m.closed x i (m.hin x hxh) h
      rw [this] at hun'; cases hun'
    · left; simpa using h
 have hdep : ∀ k ∈ s.deps i, edge l k i = true ∧ (dstOf l k).isSome = true := by
  intro k hk
  have := List.all_eq_true.1 (List.all_eq_true.1 h1 i (List.mem_range.2 hil)) k hk
  simpa using this
 have hdlt : ∀ k, (dstOf l k).isSome = true → k < l.length := by
  intro k hk
  rcases Nat.lt_or_ge k l.length with h | h
  · exact h
  · simp [dstOf, List.getElem?_eq_none h] at hk
 have hok2 : ∀ k ∈ s.deps i, s.ok2 k (valOf l a k) := fun k hk => by
  obtain ⟨d, hd⟩ := Option.isSome_iff_exists.1 (hdep k hk).2
  have := (m.slot k d (hed k (hdep k hk).1) hd).1
  simpa [valOf, slotV, hd] using this
 let J := (List.range l.length).filter fun k => listed.getD k false && (dstOf l k).isSome
 have hJ : ∀ k, k ∈ J ↔ listed.getD k false = true ∧ (dstOf l k).isSome = true := by
  intro k
  simp only [J, List.mem_filter, List.mem_range, Bool.and_eq_true]
  exact ⟨fun h => h.2, fun h => ⟨hdlt k h.2, h⟩⟩
 have hatJ : ∀ k, k ∈ J → DH (s.at_ k (valOf l a k)) w (s.L hh (hh.map (valOf l a))) := by
  intro k hk
  obtain ⟨hk1, hk2⟩ := (hJ k).1 hk
  obtain ⟨d, hd⟩ := Option.isSome_iff_exists.1 hk2
  have := (m.slot k d hk1 hd).2
  simpa [valOf, slotV, hd] using this
 have e0 : ∀ k ∈ s.deps i, valOf l a k = VV s.vals (valOf l a) k := fun k hk => ok2_VV (hok2 k hk)
 have e1 : envOf l (valOf l a) (s.deps i) = envOf l (VV s.vals (valOf l a)) (s.deps i) := envOf_congr fun k hk _ => e0 k hk
 have e2 : atsOf s.rs (valOf l a) (s.deps i) = atsOf s.rs (VV s.vals (valOf l a)) (s.deps i) := atsOf_congr e0
 have hwl := (hO o ho (valOf l a) (atsOf s.rs (valOf l a) J) (AllP.intro fun k hk hn => ok2_of (hok2 k hk) hn))
 rw [← e1, ← e2] at hwl
 have hwl := hwl.mem hh hphase a w (m.frame hsz fun k hk => hdlt k (hdep k hk).2) m.st (DH.app (fun t ht => by
  obtain ⟨k, hk, ht⟩ := mem_atsOf ht
  exact hatJ k ((hJ k).2 ⟨hed k (hdep k hk).1, (hdep k hk).2⟩) t ht) (DH.app m.dh (fun t ht => by
  obtain ⟨k, hk, ht⟩ := mem_atsOf ht
  exact hatJ k hk t ht)))
 have hno : ¬ LetsOut (opPostH c l s (D ++ atsOf s.rs (valOf l a) J) i hh (hh.map (valOf l a))) := by
  rintro ⟨a', w', h⟩; cases h.1
 -- what is left once it is done
 have hfin : ∀ a' w', (∃ u, a' = a.put o.dst u) → opPostH c l s (D ++ atsOf s.rs (valOf l a) J) i hh (hh.map (valOf l a)) .normal a' w' → K a' w' := by
  rintro a' w' ⟨u, rfl⟩ ⟨_, _, hst', hdh', hslot'⟩
  have hdsts : ∀ d, o.dst = some d → keyIn env d = false ∧ ∀ k, k ≠ i → dstOf l k ≠ some d := by
   intro d hd
   have hdi : dstOf l i = some d := by simp [dstOf, ho, hd]
   have := h2
   unfold ckDst1 at this
   rw [hdi] at this
   simp only [Bool.and_eq_true, Bool.not_eq_true'] at this
   refine ⟨this.1, fun k hk e => ?_⟩
   have hkl := hdlt k (by rw [e]; rfl)
   have := List.all_eq_true.1 this.2 k (List.mem_range.2 hkl)
   simp [e, Ne.symm hk] at this
  have hvk : ∀ k, k ≠ i → valOf l (a.put o.dst u) k = valOf l a k := by
   intro k hk
   simp only [valOf, slotV]
   cases hdk : dstOf l k with
   | none => rfl
   | some d =>
    cases hd : o.dst with
    | none => rfl
    | some d0 =>
     have hne : d0 ≠ d := by
      rintro rfl
      exact (hdsts d0 hd).2 k hk hdk
     simp [Act.put, Array.getElem?_setIfInBounds_ne hne]
  have hmap : hh.map (valOf l (a.put o.dst u)) = hh.map (valOf l a) := List.map_congr_left fun x hx => hvk x (fun e => hnot (e ▸ hx))
  let h' := if s.effs.contains i = true then hh ++ [i] else hh
  have hLn : s.L h' (h'.map (valOf l (a.put o.dst u))) = nextH s hh (hh.map (valOf l a)) i (slotV l (a.put o.dst u) i) := by
   unfold nextH
   simp only [h']
   by_cases hc : s.effs.contains i = true
   · rw [if_pos hc, if_pos hc, List.map_append, hmap]; rfl
   · rw [if_neg hc, if_neg hc, hmap]
  rw [← hLn] at hst' hdh' hslot'
  have hmem' : ∀ x, x ∈ h' ↔ x ∈ hh ∨ (x = i ∧ s.effs.contains i = true) := by
   intro x
   simp only [h']
   by_cases hc : s.effs.contains i = true
   · rw [if_pos hc]; simp only [List.mem_append, List.mem_singleton, hc, and_true]
   · rw [if_neg hc]; simp only [hc, and_false, or_false]; simp
  refine hK _ _ h' ⟨?_, hst', fun t ht => hdh' t (List.mem_append.2 (.inl ht)), by simp [m.size], ?_, ?_, ?_, ?_, ?_⟩
  · cases hd : o.dst with
    | none => exact m.fr
    | some d =>
     have hdn : d < c.n := by
      have := List.all_eq_true.1 hsz o (List.mem_of_getElem? ho)
      rw [hd] at this
      exact lt_blt this
     have f := m.fr.put u hdn
     refine ⟨f.size, f.dn, fun k v hk => f.at_ k v ?_⟩
     have hne : d ≠ k := by
      rintro rfl
      have := keyIn_of_lk hk
      rw [(hdsts d hd).1] at this; cases this
     have : (d == k) = false := by simpa using hne
     simp only [lk, this, cond_false]
     exact hk
  · intro i' k hi' hk
    rw [getD_set his] at hi' ⊢
    simp only [Bool.or_eq_true, beq_iff_eq] at hi' ⊢
    rcases hi' with rfl | hi'
    · exact .inr (hed k hk)
    · exact .inr (m.closed i' k hi' hk)
  · intro i' d hi' hd'
    rw [getD_set his] at hi'
    simp only [Bool.or_eq_true, beq_iff_eq] at hi'
    by_cases hii : i = i'
    · subst hii
      exact hslot' d hd'
    · have hi' : listed.getD i' false = true := by
       rcases hi' with h | h
       · exact absurd h hii
       · exact h
      have hval : (a.put o.dst u).tmps.getD d undef = a.tmps.getD d undef := by
       cases hd : o.dst with
       | none => rfl
       | some d0 =>
        have hne : d0 ≠ d := by
         rintro rfl
         exact (hdsts d0 hd).2 i' (Ne.symm hii) hd'
        simp [Act.put, Array.getElem?_setIfInBounds_ne hne]
      rw [hval]
      refine ⟨(m.slot i' d hi' hd').1, fun t ht => hdh' t (List.mem_append.2 (.inr (of_at (s := s.rs) (k := i') ((hJ i').2 ⟨hi', by rw [hd']; rfl⟩) ?_)))⟩
      simpa [valOf, slotV, hd'] using ht
  · intro x hx
    rw [getD_set his, hmem' x]
    simp only [Bool.or_eq_true, beq_iff_eq]
    rw [m.done x hx]
    constructor
    · rintro (rfl | h)
      · right; exact ⟨rfl, by simpa using hx⟩
      · exact .inl h
    · rintro (h | ⟨rfl, _⟩)
      · exact .inr h
      · exact .inl rfl
  · intro x hx
    rw [getD_set his]
    simp only [Bool.or_eq_true, beq_iff_eq]
    rcases (hmem' x).1 hx with h | ⟨rfl, _⟩
    · exact .inr (m.hin x h)
    · exact .inl rfl
  · simp only [h']
    by_cases hc : s.effs.contains i = true
    · rw [if_pos hc]
      simp only [ckH, Bool.and_eq_true] at h4
      have hie : i ∈ s.effs := by simpa using hc
      have := List.all_eq_true.1 (List.all_eq_true.1 h4.2 hh m.mem) i hie
      simp only [Bool.or_eq_true, Bool.not_eq_true'] at this
      rcases this with (h | h) | h
      · exact absurd (by simpa using h) hnot
      · exfalso
        rw [← Bool.not_eq_true, List.all_eq_true] at h
        refine h fun x hx => ?_
        simp only [Bool.or_eq_true, Bool.not_eq_true']
        by_cases he : edge l x i = true
        · right; simpa using hpre x hx he
        · left; simpa using he
      · simpa using h
    · rw [if_neg hc]; exact m.mem
 unfold wpOp
 have ho' : l.toArray[i]? = some o := by simpa using ho
 simp only [ho']
 unfold wpList at hwl
 by_cases hw : Region.wanted o (yielded l.toArray a.tmps) = true
 · rw [if_pos hw] at hwl ⊢
   refine .inl (upon_up (Q := opPostH c l s (D ++ atsOf s.rs (valOf l a) J) i hh (hh.map (valOf l a))) (fun _ _ _ h => by cases h.1) hno ?_)
   rcases hwl with h | h
   · -- the frame behind it is the one before, with a value put
     have key : ∀ {r : Result Next}, o.upon c.P a (opPostH c l s (D ++ atsOf s.rs (valOf l a) J) i hh (hh.map (valOf l a)) .normal) (opPostH c l s (D ++ atsOf s.rs (valOf l a) J) i hh (hh.map (valOf l a))) r → o.upon c.P a K (opPostH c l s (D ++ atsOf s.rs (valOf l a) J) i hh (hh.map (valOf l a))) r := by
      intro r h
      cases r with
      | ok n w' =>
       cases n <;> simp only [Oper.upon] at h ⊢ <;> try exact h
       · exact hfin _ _ ⟨_, rfl⟩ h
       · exact hfin _ _ ⟨_, rfl⟩ h
       · exact Calls.mono h fun e w'' he => by
          cases e with
          | returned v => exact hfin _ _ ⟨_, rfl⟩ he
          | panicked ch => exact he
          | outgrown => exact he
       · have hd := h.2.1
         cases hdst : o.dst <;> simp [hdst, Act.put] at hd
       · exact Rows.mono h fun _ _ he => hfin _ _ ⟨_, rfl⟩ he
      | halt x w' => cases x <;> simp only [Oper.upon] at h ⊢ <;> exact h
     exact key h
   · exact absurd h.2 hno
 · rw [if_neg hw] at hwl ⊢
   exact hfin _ _ ⟨undef, rfl⟩ hwl
def headL (hd n : Nat) : Array Bool := ((List.range n).map fun i => decide (i < hd)).toArray
theorem OblH.take_at {r : List Oper} {hd : Nat} (h : OblH c l s env D (r.take hd) 0) {i : Nat} (hi : i < hd) {o : Oper} (ho : r[i]? = some o) (V : Nat → Value) (De : List Atom) (hV : AllP (fun k => s.vals k = none → s.ok k (V k)) (s.deps i)) :
 AllP (fun h => WL (opPostH c l s (D ++ De) i h (h.map V)) c l.toArray [o] (envOf l (VV s.vals V) (s.deps i) ++ env) (s.L h (h.map V)) (atsOf s.rs (VV s.vals V) (s.deps i) ++ (D ++ De))) (phH l s i) := by
 have := h.at_ i o (by rw [List.getElem?_take, if_pos hi]; exact ho) V De (by rw [Nat.zero_add]; exact hV)
 rwa [Nat.zero_add] at this
theorem rgTail {id n hd : Nat} (s : RH) (hhs : s.hs = [[]]) (hm : c.P.follows .mixedOrders = true) (hok : rhOk l env s c.n = true) (hhd : hd ≤ l.length) {L : Own} (hL : s.L [] [] = L) (hO : OblH c l s env D (l.take hd) 0)
 (hT : ∀ listed : Array Bool, (∀ i k, listed.getD i false = true → edge l k i = true → listed.getD k false = true) → ∀ i, hd ≤ i → i < l.length → (∀ k, edge l k i = true → listed.getD k false = true) → ∀ k, k < hd → listed.getD k false = true)
 (k : ∀ V : Nat → Value, AllP (fun i => (dstOf l i).isSome = true → s.vals i = none → s.ok i (V i)) (List.range hd) → ∀ a w, Fr c.n a (envOf l (VV s.vals V) (List.range hd) ++ env) → St c.w0 c.M w L →
  DH (atsOf s.rs (VV s.vals V) ((List.range hd).filter fun i => (dstOf l i).isSome) ++ D) w L → wpAnyIn Fence.wide n c.P .any l.toArray Q (l.length - hd) (headL hd l.length) a w) : WC c (.region id l.toArray true) Q env L D := by
 intro a w f st dh
 simp only [rhOk, Bool.and_eq_true] at hok
 obtain ⟨⟨⟨⟨h1, h2⟩, h5⟩, hsz⟩, h4⟩ := hok
 subst hL
 refine (wpIn_wide (n := n)).1 (wpIn_region_any hm ?_)
 have hs := Stp.drew [] w
 have m0 : MidH c l s env D (Array.replicate l.length false) a w.drew [] := by
  refine ⟨f, st.step hs, dh.step hs.nil, by simp, fun i k h _ => ?_, fun i d h _ => ?_, fun x _ => ?_, fun x hx => (by cases hx), ?_⟩
  · rw [getD_rep] at h; cases h
  · rw [getD_rep] at h; cases h
  · rw [getD_rep]; simp
  · simp only [ckH, Bool.and_eq_true] at h4
    simpa using h4.1.1
 have key : ∀ (m : Nat) (listed : Array Bool) (a : Act) (w : World), MidH c l s env D listed a w [] → (∀ i, hd ≤ i → listed.getD i false = false) → (List.range hd).countP (fun i => !listed.getD i false) = m →
  wpAnyIn Fence.wide n c.P .any l.toArray Q (m + (l.length - hd)) listed a w := by
  intro m
  induction m with
  | zero =>
   intro listed a w mm ht hc
   have hall : ∀ i, i < hd → listed.getD i false = true := fun i hi => by
    have := List.countP_eq_zero.1 hc i (List.mem_range.2 hi)
    simpa using this
   have heq : listed = headL hd l.length := by
    apply Array.ext
    · simp [mm.size, headL]
    · intro i g1 g2
      have e : listed[i] = listed.getD i false := by simp [g1]
      rw [e]
      simp only [headL, List.getElem_toArray, List.getElem_map, List.getElem_range]
      by_cases hi : i < hd
      · rw [hall i hi]; simp [hi]
      · rw [ht i (by omega)]; simp [hi]
   subst heq
   rw [Nat.zero_add]
   have hok2 : ∀ k, k < hd → (dstOf l k).isSome = true → s.ok2 k (valOf l a k) := fun k hk hd' => by
    obtain ⟨d, hd'⟩ := Option.isSome_iff_exists.1 hd'
    have := (mm.slot k d (hall k hk) hd').1
    simpa [valOf, slotV, hd'] using this
   have e1 : envOf l (valOf l a) (List.range hd) = envOf l (VV s.vals (valOf l a)) (List.range hd) := envOf_congr fun k hk hd' => ok2_VV (hok2 k (List.mem_range.1 hk) hd')
   have e2 : atsOf s.rs (valOf l a) ((List.range hd).filter fun i => (dstOf l i).isSome) = atsOf s.rs (VV s.vals (valOf l a)) ((List.range hd).filter fun i => (dstOf l i).isSome) := atsOf_congr fun k hk => ok2_VV (hok2 k (List.mem_range.1 (List.mem_filter.1 hk).1) (by simpa using (List.mem_filter.1 hk).2))
   have hk := k (valOf l a) (AllP.intro fun i hi hd' hn => ok2_of (hok2 i (List.mem_range.1 hi) hd') hn)
   rw [← e1, ← e2] at hk
   refine hk a w (mm.frame hsz fun k hk => Nat.lt_of_lt_of_le (List.mem_range.1 hk) hhd) mm.st (DH.app (fun t ht => ?_) mm.dh)
   obtain ⟨i, hi, ht⟩ := mem_atsOf ht
   obtain ⟨hi1, hd'⟩ := List.mem_filter.1 hi
   obtain ⟨d, hd'⟩ := Option.isSome_iff_exists.1 hd'
   have := (mm.slot i d (hall i (List.mem_range.1 hi1)) hd').2
   simp only [valOf, slotV, hd'] at ht
   exact this t ht
  | succ m ih =>
   intro listed a w mm ht hc
   rw [show m + 1 + (l.length - hd) = (m + (l.length - hd)) + 1 by omega]
   have hex : ∃ i, i < hd ∧ listed.getD i false = false := by
    refine Classical.byContradiction fun hn => ?_
    have : (List.range hd).countP (fun i => !listed.getD i false) = 0 := List.countP_eq_zero.2 fun i hi => by
     simp only [Bool.not_eq_true', Bool.not_eq_false]
     refine Classical.byContradiction fun h => hn ⟨i, List.mem_range.1 hi, by simpa using h⟩
    omega
   refine ⟨fun hr => ?_, fun i hi => ?_⟩
   · exfalso
     obtain ⟨i0, hi0, hu0⟩ := hex
     have hall : ∀ i, i < l.length → listed.getD i false = true := by
      intro i
      induction i using Nat.strongRecOn with
      | _ i ih2 =>
       intro hil
       cases hli : listed.getD i false with
       | true => rfl
       | false =>
        exfalso
        have : i ∈ Region.ready .any l.toArray listed := by
         refine mem_ready.2 ⟨by rw [getD_true_false (by rw [mm.size]; exact hil)]; exact hli, l[i], by simp [List.getElem?_eq_getElem hil], fun e he hb => ?_⟩
         have hbk := List.all_eq_true.1 h5 i (List.mem_range.2 hil)
         rw [List.getElem?_eq_getElem hil] at hbk
         have := List.all_eq_true.1 hbk e (Array.mem_toList_iff.2 he)
         rw [hb] at this
         have hlt := lt_blt (by simpa using this)
         exact ih2 e.on hlt (by omega)
        rw [hr] at this
        cases this
     rw [hall i0 (by omega)] at hu0
     cases hu0
   · obtain ⟨hun, o, ho1, hpre⟩ := mem_ready.1 hi
     have ho : l[i]? = some o := by simpa using ho1
     have hil : i < l.length := (List.getElem?_eq_some_iff.1 ho).1
     have his : i < listed.size := by rw [mm.size]; exact hil
     have hun' : listed.getD i false = false := by rw [← getD_true_false his]; exact hun
     have hid : i < hd := by
      rcases Nat.lt_or_ge i hd with h | h
      · exact h
      · obtain ⟨i0, hi0, hu0⟩ := hex
        have := hT listed mm.closed i h hil (fun k hk => by
         obtain ⟨e, he, hb, rfl⟩ := (edge_mem ho).1 hk
         exact hpre e he hb) i0 hi0
        rw [this] at hu0; cases hu0
     refine wpOpIn_of_wpOp (mm.step1 (Q := fun _ _ _ => False) h1 (List.all_eq_true.1 h2 i (List.mem_range.2 hil)) h4 hsz hi (fun o' ho' V De hV => hO.take_at hid ho' V De hV) fun a' w' h' m' => ?_)
     have hh : h' = [] := by
      have := m'.mem
      rw [hhs] at this
      simpa using this
     subst hh
     refine ih _ a' w' m' (fun j hj => ?_) ?_
     · rw [getD_set his, ht j hj]
       have : (i == j) = false := by simpa using (by omega : i ≠ j)
       rw [this]; rfl
     · have hlt : (List.range hd).countP (fun k => !(listed.setIfInBounds i true).getD k false) + 1 = (List.range hd).countP (fun k => !listed.getD k false) := by
        refine cnt_one hd _ _ i hid (by rw [hun']; rfl) (by rw [getD_set his]; simp) fun j hj => ?_
        rw [getD_set his]
        have : (i == j) = false := by simpa using Ne.symm hj
        rw [this]; rfl
       omega
 have hn0 : (List.range hd).countP (fun i => !(Array.replicate l.length false).getD i false) = hd := by
  rw [List.countP_eq_length_filter, List.filter_eq_self.2 fun i _ => by rw [getD_rep]; rfl, List.length_range]
 have := key hd _ a w.drew m0 (fun i _ => getD_rep _ _) hn0
 rwa [show hd + (l.length - hd) = l.length by omega] at this
end
end
section
theorem Stp.grown {w w' : World} (h : Stp [] w w') : w.grownBy w' none := ⟨h.os, h.tape, h.output, h.size, fun k hk _ => h.block k hk (by simp)⟩
section
variable {c : Cx} {Q : Exit → Act → World → Prop} {env : Env} {L : Own} {D : List Atom} {x : Code}
theorem lpW {σ : Type} (E : σ → Env) (Ψ : σ → World → Prop) (μ : σ → Nat) (s0 : σ) (hE : Sub (E s0) env) (h0 : ∀ w, St c.w0 c.M w L → DH D w L → Ψ s0 w)
 (body : ∀ s w, Ψ s w → ∀ a, Fr c.n a (E s) → Code.wp c.P x (Exit.then (fun a w' => ∃ s', μ s' < μ s ∧ Fr c.n a (E s') ∧ Ψ s' w') Q) a w) : WC c (.loop x) Q env L D := by
 intro a w f st d
 have key : ∀ (m : Nat) (s : σ), μ s = m → ∀ w, Ψ s w → ∀ a, Fr c.n a (E s) →
  ∀ (b : Frame) (k : List Item) (cs : List Frame), ∃ e a' w', Q e a' w' ∧ Arrives c.P (lone (b.at a (.code x :: .inLoop x :: k)) cs w) b k cs e a' w' := by
  intro m
  induction m using Nat.strongRecOn with
  | _ m ih =>
   intro s hm w hΨ a f b k cs
   obtain ⟨e, a₁, w₁, hq, harr⟩ := body s w hΨ a f b (.inLoop x :: k) cs
   cases e with
   | normal =>
    obtain ⟨s', hlt, f', h'⟩ := hq
    obtain ⟨e₂, a₂, w₂, hq₂, harr₂⟩ := ih (μ s') (hm ▸ hlt) s' rfl w₁ h' a₁ f' b k cs
    exact ⟨e₂, a₂, w₂, hq₂, .of_steps (Steps.trans harr (.one step_inLoop)) harr₂⟩
   | exit id => exact ⟨_, a₁, w₁, hq, .pass (x := .inLoop x) rfl (fun _ _ => .inl (by simp)) harr⟩
   | goto l => exact ⟨_, a₁, w₁, hq, .pass (x := .inLoop x) rfl (fun _ _ => .inl (by simp)) harr⟩
   | ret => exact ⟨_, a₁, w₁, hq, .pass (x := .inLoop x) rfl (fun _ _ => .inl (by simp)) harr⟩
   | panic ch => exact ⟨_, a₁, w₁, hq, .pass (x := .inLoop x) rfl (fun _ _ => .inl (by simp)) harr⟩
   | outgrown => exact ⟨_, a₁, w₁, hq, .pass (x := .inLoop x) rfl (fun _ _ => .inl (by simp)) harr⟩
 intro b k cs
 obtain ⟨e, a', w', hq, harr⟩ := key _ s0 rfl w (h0 w st d) a (f.sub hE) b k cs
 exact ⟨e, a', w', hq, .of_steps (.one step_loop) harr⟩
theorem run_round {P : Program} {ρ : Operand → Value} {o : Oper} {x : Operand} {xs : List Operand} {ats : Array TypeId} {l : Nat} {vs : List Value} {fn : FuncId} {tmps : Array Value} {assign body : Code} (ho : o.op = .call { callee := .value x, args := xs.toArray, argTypes := ats })
 (hx : ρ x = .func (.yield l) #[] #[]) (hxs : xs.map ρ = vs) {w : World} (hy : (Instr.yield l vs.toArray).run P w = .ok (.round l fn tmps assign body) w) : (execOp ρ o).run P w = .ok (.round l fn tmps assign body) w := by
 subst hxs
 simp only [execOp, ho, resolve, Deferred.ofValue, hx, invoke, List.map_toArray, Sem.run_bind, Sem.run_pure, Result.andThen_ok]
 simpa using hy
theorem wpOpIn_plain {F : Fence} {n : Nat} {P : Program} {ops : Array Oper} {Q : Exit → Act → World → Prop} {i : Nat} {K : Act → World → Prop} {a : Act} {w : World} {o : Oper} (ho : ops[i]? = some o) (hg : o.guard = none) (h : o.wpIn F n P a w K Q) : wpOpIn F n P ops Q i K a w := by
 unfold wpOpIn
 rw [ho]
 simp only
 rw [if_pos]
 · exact h
 · unfold Region.wanted
   rw [hg]
theorem not_in {F : Fence} {n : Nat} {P : Program} {o : Oper} {a : Act} {w : World} {K : Act → World → Prop} {Q : Exit → Act → World → Prop} {xt : TypeId} {x : Operand} {b : Bool} (hro : F.round = none) (ho : o.op = .unOp .not xt x) (hx : a.eval x = .bool b) (hF : ∀ f, F.fn f) (h : K (a.put o.dst (.bool (!b))) w) : o.wpIn F n P a w K Q := by
 refine ⟨fun f _ => hF f, ?_⟩
 rw [hro, Oper.semAt_none]
 have : (execOp a.eval o).run P w = .ok (.value (.bool (!b))) w := by simp [execOp, ho, hx, Op.unary]
 rw [this]
 exact h
theorem round_in {F : Fence} {n : Nat} {P : Program} {o : Oper} {a : Act} {w : World} {K : Act → World → Prop} {Q : Exit → Act → World → Prop} {l : Nat} {fn : FuncId} {tmps : Array Value} {assign body : Code} (hro : F.round = none) (hd : F.depth = none) (hF : ∀ f, F.fn f)
 (hrun : (execOp a.eval o).run P w = .ok (.round l fn tmps assign body) w) (h : RoundIn F (n - 1) P l fn tmps assign body w (fun e w'' => ∃ v, e = .returned v ∧ K (a.put o.dst v) w'')) : o.wpIn F n P a w K Q := by
 refine ⟨fun f _ => hF f, ?_⟩
 rw [hro, Oper.semAt_none, hrun]
 refine ⟨(fun h => by rw [hd] at h; cases h), h.mono ?_⟩
 rintro e w'' ⟨v, rfl, hk⟩
 exact hk
end
end
end Go.Eng
namespace Go.Eng
open Go.RowKit
structure KB (n₀ b : Nat) (A B : World) : Prop where
 size : A.heap.size ≤ B.heap.size
 block : ∀ k, k < n₀ → k ≠ b → B.heap[k]? = A.heap[k]?
theorem KB.trans {n₀ b : Nat} {A B C : World} (h : KB n₀ b A B) (k : KB n₀ b B C) : KB n₀ b A C := ⟨Nat.le_trans h.size k.size, fun i hi hb => (k.block i hi hb).trans (h.block i hi hb)⟩
theorem Stp.kb {n₀ b : Nat} {M : List Nat} {A B : World} (h : Stp M A B) (hn : n₀ ≤ A.heap.size) (hM : ∀ k, k < n₀ → k ∈ M → k = b) : KB n₀ b A B :=
 ⟨h.size, fun k hk hb => h.block k (Nat.lt_of_lt_of_le hk hn) (fun hm => hb (hM k hk hm))⟩
theorem KB.putObj {n₀ b l : Nat} {W : World} {o : Obj} (hl : n₀ ≤ l) : KB n₀ b W (W.putObj l o) :=
 ⟨by simp [World.putObj], fun k hk _ => World.putObj_heap_other (by omega)⟩
theorem wpListIn_inRound {l n : Nat} {P : Program} {ops : Array Oper} {Q : Exit → Act → World → Prop} (hQ : ∀ e a w, Q e a w → e = .normal) : ∀ (rest : List Oper), rest.all (fun o => match o.op with | .defer _ => false | _ => true) = true → ∀ a w, wpList P ops Q rest a w → wpListIn (Fence.wide.inRound l) n P ops Q rest a w
 | [], _, _, _, h => h
 | o :: rest, hd, a, w, h => by
  simp only [List.all_cons, Bool.and_eq_true] at hd
  have ih := wpListIn_inRound (l := l) (n := n) (P := P) (ops := ops) hQ rest hd.2
  have hnd : ∀ c, o.op ≠ .defer c := fun c e => by rw [e] at hd; cases hd.1
  have hno : ¬ LetsOut Q := by
   rintro ⟨a', w', h⟩
   cases hQ _ _ _ h
  unfold wpList at h
  unfold wpListIn
  by_cases hw : Region.wanted o (yielded ops a.tmps) = true
  · rw [if_pos hw] at h ⊢
    have h := h.elim id fun h => absurd h.2 hno
    refine ⟨fun _ _ => trivial, ?_⟩
    unfold Oper.wp at h
    have hs : Oper.semAt (Fence.wide.inRound l).round a.eval o = execOp a.eval o := Oper.semAt_some l _ _ hnd
    rw [hs]
    generalize (execOp a.eval o).run P w = r at *
    cases r with
    | ok nx w' =>
     cases nx <;> simp only [Oper.upon, Oper.uponIn] at h ⊢ <;> try exact h
     · exact ih _ _ h
     · exact ih _ _ h
     · refine ⟨(fun hd => by cases hd), CallsIn.inRound l (callsIn_wide.2 (Calls.mono h fun e w'' he => ?_))⟩
       cases e with
       | returned v => exact ih _ _ he
       | panicked ch => exact absurd (hQ _ _ _ he) (by intro h; cases h)
       | outgrown => exact absurd he hno
     · exact ih _ _ h
     · exact ⟨(fun hd => by cases hd), fun c cs _ => by obtain ⟨v, w', hR, hs⟩ := h c cs; exact ⟨v, w', ih _ _ hR, stepsIn_wide.2 hs⟩⟩
    | halt x w' => cases x <;> simp only [Oper.upon, Oper.uponIn] at h ⊢ <;> exact h
  · rw [if_neg hw] at h ⊢
    exact ⟨fun _ _ => trivial, ih _ _ h⟩
theorem round_region {l n id : Nat} {P : Program} {ops : List Oper} {Q : Exit → Act → World → Prop} {K : Act → World → Prop} {a : Act} {w : World} (hd : ops.all (fun o => match o.op with | .defer _ => false | _ => true) = true) (hK : ∀ a w, K a w → Q .normal a w)
 (h : wpList P ops.toArray (fun e a w => e = .normal ∧ K a w) ops a w) : (Code.region id ops.toArray false).wpIn (Fence.wide.inRound l) n P Q a w :=
 Code.wpIn_mono (fun e a w h => by obtain ⟨rfl, h⟩ := h; exact hK _ _ h) (wpIn_region_lit (wpListIn_inRound (fun _ _ _ h => h.1) ops hd a w h))
theorem Fr.round2 {n : Nat} {a : Act} {env : Env} (f : Fr n a env) {p q : Nat} (hp : p < n) (hq : q < n) (u v : Value) :
 Fr n { tmps := ((#[p, q] : Array Tmp).zip #[u, v]).foldl (fun t (p, v) => t.setIfInBounds p v) a.tmps, defers := [] } ((q, v) :: (p, u) :: env) := by
 have h := (f.put (d := p) u hp).put (d := q) v hq
 have e : (a.put (some p) u).put (some q) v = { tmps := (a.tmps.setIfInBounds p u).setIfInBounds q v, defers := [] } := by
  simp [Act.put, f.dn]
 rw [e] at h
 simpa using h
theorem wpList_val {P : Program} {ops : Array Oper} {Q : Exit → Act → World → Prop} {rest : List Oper} {o : Oper} {a : Act} {w : World} {v : Value} (hg : o.guard = none) (hrun : (execOp a.eval o).run P w = .ok (.value v) w) (h : wpList P ops Q rest (a.put o.dst v) w) : wpList P ops Q (o :: rest) a w := by
 refine wpList_plain hg fun K hK => ?_
 unfold Oper.wp
 rw [hrun]
 exact hK _ _ h
theorem enterM {P : Program} {f : FuncId} {fn : Func} {x : Code} {args : List Value} {w : World} {Φ : Value → World → Prop} (m : Nat) (M : List Nat) (L : Go.Eng.Own) (D : List Atom)
 (hf : P.funcs[f]? = some fn) (hb : fn.body = some x) (n : Nat) (hn : n = fn.ntmps) (hargs : args.length ≤ n) (hst : St w M w L) (hd : DH D w L)
 (h : WC ⟨P, n, w, M⟩ x (bodyPostM Fence.wide m P fn fun e w' => ∃ v, e = .returned v ∧ Φ v w') (ent 0 args) L D) : Ret P f args w Φ := by
 subst hn
 refine (callsIn_wide (n := m)).1 (callsIn_of_wp_marks hf hb trivial (wpIn_wide.2 (h _ w ⟨?_, rfl, ?_⟩ hst hd)))
 · simp; omega
 · intro i v hi
   obtain ⟨_, hi⟩ := lk_ent args 0 i v hi
   have : i < args.length := (List.getElem?_eq_some_iff.1 hi).1
   simp only [Nat.sub_zero] at hi
   rw [Array.getElem?_append_left (by simpa using this)]
   simpa using hi
theorem FnV.proofM {P : Program} {f : FuncId} {fn : Func} {x : Code} {args : List Value} {As : List Atom} {u : Value} (m : Nat)
 (hf : P.funcs[f]? = some fn) (hb : fn.body = some x) (n : Nat) (hn : n = fn.ntmps) (hargs : Nat.ble args.length n = true)
 (h : ∀ w, WC ⟨P, n, w, []⟩ x (bodyPostM Fence.wide m P fn fun e w' => ∃ v, e = .returned v ∧ v = u ∧ Stp [] w w') (ent 0 args) [] As) : FnV P f args As u := by
 intro X w hnd hx h0 hA
 refine Ret.mono (enterM m [] [] As hf hb n hn (Nat.le_of_ble_eq_true hargs) (St.start w []) (fun t ht => Atom.keep (hA t ht) ?_ (fun _ _ => rfl)) (h w)) ?_
 · rintro b ⟨hb1, hb2⟩
   exact ⟨hb1, by simp [Own.bs, bsOf]⟩
 · intro v w' ⟨hv, hs⟩
   exact ⟨hs, (), hv, by simp, by simp [Own.bs, bsOf], by simp [Own.bs, bsOf], by simp⟩
section
def mk (k : Nat) : Deferred := { target := .collected k, args := #[] }
@[reducible] def dk (b : Nat) : OwnE where
 bs := [b]
 holds _ w := w.heap[b]? = some (.deferred (some []))
 valid h b' hb := by simp at hb; subst hb; exact (Array.getElem?_eq_some_iff.1 h).1
 keep h _ hw := (hw b (.inr (by simp))).trans h
def WCD (ds : List Deferred) (c : Cx) (x : Code) (Q : Exit → Act → World → Prop) (env : Env) (L : Own) (D : List Atom) : Prop :=
 ∀ a w, Fr c.n a env → St c.w0 c.M w L → DH D w L → Code.wp c.P x Q { a with defers := ds } w
def WQD (ds : List Deferred) (c : Cx) (Q : Exit → Act → World → Prop) (e : Exit) (env : Env) (L : Own) (D : List Atom) : Prop :=
 ∀ a w, Fr c.n a env → St c.w0 c.M w L → DH D w L → Q e { a with defers := ds } w
def WLoD (ds : List Deferred) (c : Cx) (x : Code) (Q : Exit → Act → World → Prop) (env : Env) (L : Own) (D : List Atom) : Prop :=
 ∀ a w, Fr c.n a env → St c.w0 c.M w L → DH D w L → LW c.P x Q { a with defers := ds } w
def _root_.Go.Act.dd (a : Act) (ds : List Deferred) : Act := { a with defers := a.defers ++ ds }
theorem put_dd (a : Act) (ds : List Deferred) (d : Option Tmp) (v : Value) : (a.dd ds).put d v = (a.put d v).dd ds := by cases d <;> rfl
theorem Fr.dd {n : Nat} {a : Act} {env : Env} (f : Fr n a env) (ds : List Deferred) : a.dd ds = { a with defers := ds } := by
 unfold Act.dd
 rw [f.dn]
 rfl
theorem wpList_wd {P : Program} {ops : Array Oper} {Q : Exit → Act → World → Prop} (ds : List Deferred) : ∀ (rest : List Oper) a w, wpList P ops (fun e a w => Q e (a.dd ds) w) rest a w → wpList P ops Q rest (a.dd ds) w
 | [], _, _, h => h
 | o :: rest, a, w, h => by
  have ih := wpList_wd (P := P) (ops := ops) (Q := Q) ds rest
  have hlo : LetsOut (fun e (a : Act) w => Q e (a.dd ds) w) → LetsOut Q := fun ⟨a', w', h⟩ => ⟨_, w', h⟩
  unfold wpList at h ⊢
  have ey : yielded ops (a.dd ds).tmps = yielded ops a.tmps := rfl
  rw [ey]
  by_cases hw : Region.wanted o (yielded ops a.tmps) = true
  · rw [if_pos hw] at h ⊢
    rcases h with h | ⟨h1, h2⟩
    · left
      unfold Oper.wp at h ⊢
      have ee : (execOp (a.dd ds).eval o).run P w = (execOp a.eval o).run P w := rfl
      rw [ee]
      generalize (execOp a.eval o).run P w = r at *
      cases r with
      | ok nx w' =>
       cases nx <;> simp only [Oper.upon] at h ⊢ <;> try exact h
       · rw [put_dd]; exact ih _ _ h
       · rw [put_dd]; exact ih _ _ h
       · refine Calls.mono h fun e w'' he => ?_
         cases e with
         | returned v =>
          show wpList P ops Q rest ((a.dd ds).put o.dst v) w''
          rw [put_dd]; exact ih _ _ he
         | panicked ch => exact he
         | outgrown => exact hlo he
       · have := ih _ _ h
         rw [← put_dd] at this
         exact this
       · exact Rows.mono h fun _ _ he => by rw [put_dd]; exact ih _ _ he
      | halt x w' => cases x <;> simp only [Oper.upon] at h ⊢ <;> exact h
    · exact .inr ⟨h1, hlo h2⟩
  · rw [if_neg hw] at h ⊢
    rw [put_dd]
    exact ih _ _ h
section
variable {ds : List Deferred} {c : Cx} {x y : Code} {Q Q' : Exit → Act → World → Prop} {env : Env} {L : Own} {D : List Atom} {ops : Array Oper}
theorem wcD (h : WCD [] c x Q env L D) : WC c x Q env L D := fun a w f s d => by
 have := h a w f s d
 have e : ({ a with defers := [] } : Act) = a := by cases a; simp only [Act.mk.injEq, true_and]; exact f.dn.symm
 rwa [e] at this
theorem sqD (h : WCD ds c x (Exit.then (Code.wp c.P y Q) Q) env L D) : WCD ds c (.seq x y) Q env L D := fun a w f s d => wp_seq (h a w f s d)
theorem nxD (h : WCD ds c y Q env L D) : WQD ds c (Exit.then (Code.wp c.P y Q) Q') .normal env L D := h
theorem rgM {id : Nat} {l : List Oper} (h : WL (fun e a w => Q e (a.dd ds) w) c l.toArray l env L D) : WCD ds c (.region id l.toArray false) Q env L D := fun a w f s d => by
 rw [← f.dd]
 exact wp_region_lit (wpList_wd ds l a w (h a w f s d))
theorem nlD (h : WQD ds c Q .normal env L D) : WL (fun e a w => Q e (a.dd ds) w) c ops [] env L D := fun a w f s d => wpList_nil (by rw [f.dd]; exact h a w f s d)
theorem cdTD {o : Operand} (hc : ev env o = some (.bool true)) (h1 : WCD ds c x Q env L D) : WCD ds c (.cond o x y) Q env L D :=
 fun a w f s d => wp_cond_true (show Act.eval { a with defers := ds } o = _ from f.ev hc) (h1 a w f s d)
theorem cdFD {o : Operand} (hc : ev env o = some (.bool false)) (h1 : WCD ds c y Q env L D) : WCD ds c (.cond o x y) Q env L D :=
 fun a w f s d => wp_cond_false (show Act.eval { a with defers := ds } o = _ from f.ev hc) (h1 a w f s d)
theorem skD (h : WQD ds c Q .normal env L D) : WCD ds c .skip Q env L D := fun a w f s d => wp_skip (h a w f s d)
theorem exD {id : Nat} (h : WQD ds c Q (.exit id) env L D) : WCD ds c (.exit id) Q env L D := fun a w f s d => wp_exit (h a w f s d)
theorem rtD (h : WQD ds c Q .ret env L D) : WCD ds c .ret Q env L D := fun a w f s d => wp_ret (h a w f s d)
theorem bkD {id : Nat} (h : WCD ds c x (Exit.inBlock id Q) env L D) : WCD ds c (.block id x) Q env L D := fun a w f s d => wp_block (h a w f s d)
theorem tED {K : Act → World → Prop} {id : Nat} (h : WQD ds c Q (.exit id) env L D) : WQD ds c (Exit.then K Q) (.exit id) env L D := h
theorem bND {id : Nat} (h : WQD ds c Q .normal env L D) : WQD ds c (Exit.inBlock id Q) .normal env L D := h
theorem bED {id : Nat} (h : WQD ds c Q .normal env L D) : WQD ds c (Exit.inBlock id Q) (.exit id) env L D := fun a w f s d => by
 simp only [Exit.inBlock, if_true]; exact h a w f s d
theorem lu0D (h : WLoD ds c x Q env L D) : WCD ds c (.loop x) Q env L D := fun a w f s d => by
 intro b k cs
 obtain ⟨e, a', w', hq, harr⟩ := h a w f s d b k cs
 exact ⟨e, a', w', hq, .of_steps (.one step_loop) harr⟩
theorem lu1D (h : WCD ds c x (Exit.then (LW c.P x Q) Q) env L D) : WLoD ds c x Q env L D := fun a w f s d => by
 intro b k cs
 obtain ⟨e, a₁, w₁, hq, harr⟩ := h a w f s d b (.inLoop x :: k) cs
 cases e with
 | normal =>
  obtain ⟨e₂, a₂, w₂, hq₂, harr₂⟩ := hq b k cs
  exact ⟨e₂, a₂, w₂, hq₂, .of_steps (Steps.trans harr (.one step_inLoop)) harr₂⟩
 | exit id => exact ⟨_, a₁, w₁, hq, .pass (x := .inLoop x) rfl (fun _ _ => .inl (by simp)) harr⟩
 | goto l => exact ⟨_, a₁, w₁, hq, .pass (x := .inLoop x) rfl (fun _ _ => .inl (by simp)) harr⟩
 | ret => exact ⟨_, a₁, w₁, hq, .pass (x := .inLoop x) rfl (fun _ _ => .inl (by simp)) harr⟩
 | panic ch => exact ⟨_, a₁, w₁, hq, .pass (x := .inLoop x) rfl (fun _ _ => .inl (by simp)) harr⟩
 | outgrown => exact ⟨_, a₁, w₁, hq, .pass (x := .inLoop x) rfl (fun _ _ => .inl (by simp)) harr⟩
theorem lunD (h : WLoD ds c x Q env L D) : WQD ds c (Exit.then (LW c.P x Q) Q) .normal env L D := h
end
section
variable {ds : List Deferred} {c : Cx} {Q : Exit → Act → World → Prop} {env : Env} {L : Own} {D : List Atom}
end
theorem leavesM {P : Program} {fn : Func} {tmps : Array Value} {R : Ending → World → Prop} {n : Nat} : ∀ (ks : List Nat) (W : World), (∀ k ∈ ks, W.heap[k]? = some (.deferred (some []))) → ks.Nodup → (∀ W', Stp ks W W' → ∃ v, (results fn tmps).run P W' = .ok v W' ∧ R (.returned v) W') → LeavesInM Fence.wide n P fn tmps R (ks.map mk) .returning W
 | [], W, _, _, h => h W (Stp.refl _ _)
 | b :: ks, W, hk, hn, h => by
  have hb := hk b (by simp)
  have hs : Stp [b] W (W.putObj b (.deferred none)) := ⟨rfl, rfl, rfl, by simp [World.putObj], fun i hi hx => World.putObj_heap_other (by simpa using hx)⟩
  refine ⟨by simp, .inl ⟨_, _, rfl, run_takeDeferred hb, leavesM ks _ (fun k hk' => ?_) (List.nodup_cons.1 hn).2 fun W' hs' => h W' ?_⟩⟩
  · refine (World.putObj_heap_other fun e => ?_).trans (hk k (List.mem_cons_of_mem _ hk'))
    subst e
    exact (List.nodup_cons.1 hn).1 hk'
  · exact (hs.mono fun k hk => by simp at hk; simp [hk]).trans (hs'.mono fun k hk => List.mem_cons_of_mem _ hk)
section
variable {P : Program} {fn : Func} {x : Code} {f : FuncId} {args : List Value} {As : List Atom} {u : Value} {n m : Nat} {env : Env} {L : Own} {D : List Atom} {X : List Nat} {w0 : World}
end
end
section
section
variable {c : Cx} {ops : Array Oper} {J : Cx → Array Oper → List Oper → Env → Own → List Atom → Prop} [iJ : IsJ J] {env : Env} {L : Own} {D : List Atom} {rest : List Oper} {d : Nat} {v : Value} {t : TypeId} {p : String} {af : Array Edge} {x y z : Operand} {T : TypeId}
include iJ
end
section
variable {c : Cx} {ops : Array Oper} {Q : Exit → Act → World → Prop} {env : Env} {L : Own} {D : List Atom} {rest : List Oper} {v : Value} {t : TypeId} {p : String} {af : Array Edge} {x y z : Operand}
end
end
end Go.Eng
namespace Go.Eng
section
section
variable {α : Type} [Inhabited α]
def swapL (xs : List α) (i j : Nat) : List α := (xs.set i (xs.getD j default)).set j (xs.getD i default)
variable (lt : α → α → Bool)
end
end
end Go.Eng
namespace Go.Eng
open Go.RowKit
section
section
variable {c : Cx} {ops : Array Oper} {J : Cx → Array Oper → List Oper → Env → Own → List Atom → Prop} [iJ : IsJ J] {env : Env} {L : Own} {D : List Atom} {rest : List Oper} {d : Nat} {v : Value} {t : TypeId} {p : String} {af : Array Edge} {x y z : Operand} {T : TypeId}
include iJ
end
section
variable {c : Cx} {ops : Array Oper} {Q : Exit → Act → World → Prop} {env : Env} {L : Own} {D : List Atom} {rest : List Oper} {d : Nat} {v : Value} {t : TypeId} {p : String} {af : Array Edge} {x y z : Operand}
end
end
section
section
variable {c : Cx} {Q : Exit → Act → World → Prop} {env : Env} {L : Own} {D : List Atom}
end
section
variable {c : Cx} {ops : Array Oper} {J : Cx → Array Oper → List Oper → Env → Own → List Atom → Prop} [iJ : IsJ J] {env : Env} {L : Own} {D : List Atom} {rest : List Oper} {d : Nat} {t : TypeId} {p : String} {af : Array Edge} {x y : Operand} {xt yt : TypeId}
include iJ
end
section
variable {c : Cx} {Q : Exit → Act → World → Prop} {env : Env} {L : Own} {D : List Atom} {x : Code}
theorem jnC {σ : Type} (C : Env) (Dc : List Atom) (V : σ → Env → Env) (LL : σ → Own) (I : σ → Prop) (_hC : Go.Eng.Sub C env) (_hc : SubD Dc D) (h1 : WC c x (Exit.then (JK c (fun s => V s C) LL (fun _ => Dc) I) Q) env L D) (h2 : ∀ s, I s → WQ c Q .normal (V s C) (LL s) Dc) : WC c x Q env L D :=
 jn (fun s => V s C) LL (fun _ => Dc) I h1 h2
end
section
variable {α : Type} [Inhabited α]
end
end
section
section
variable {c : Cx} {ops : Array Oper} {J : Cx → Array Oper → List Oper → Env → Own → List Atom → Prop} [iJ : IsJ J] {env : Env} {L : Own} {D : List Atom} {rest : List Oper} {d : Nat} {t : TypeId} {p : String} {af : Array Edge} {x y : Operand} {T : TypeId}
include iJ
end
section
variable {c : Cx} {ops : Array Oper} {Q : Exit → Act → World → Prop} {env : Env} {L : Own} {D : List Atom} {rest : List Oper} {d : Nat} {t : TypeId} {p : String} {af : Array Edge} {x y : Operand} {T : TypeId}
end
end
end Go.Eng
namespace Go.Eng
section
section
variable {c : Cx} {l : List Oper} {s : RH} {env : Env} {D : List Atom} {Q : Exit → Act → World → Prop}
def reachB (l : List Oper) (k : Nat) : Nat → Nat → Bool
 | 0, _ => false
 | f + 1, i => (List.range i).any fun j => edge l j i && (j == k || reachB l k f j)
theorem reach_listed {l : List Oper} {listed : Array Bool} (hcl : ∀ i k, listed.getD i false = true → edge l k i = true → listed.getD k false = true) {k : Nat} : ∀ (f i : Nat), (∀ j, edge l j i = true → listed.getD j false = true) → reachB l k f i = true → listed.getD k false = true
 | 0, _, _, h => by cases h
 | f + 1, i, hi, h => by
  rw [reachB, List.any_eq_true] at h
  obtain ⟨j, _, hj⟩ := h
  simp only [Bool.and_eq_true, Bool.or_eq_true, beq_iff_eq] at hj
  have hjl := hi j hj.1
  rcases hj.2 with rfl | h2
  · exact hjl
  · exact reach_listed hcl f j (fun q hq => hcl j q hjl hq) h2
def tailB (l : List Oper) (hd : Nat) : Bool := ((List.range hd).all fun k => reachB l k hd hd) && ((List.range l.length).all fun i => Nat.ble i hd || edge l (i - 1) i)
theorem tailB_spec {l : List Oper} {hd : Nat} (h : tailB l hd = true) (listed : Array Bool) (hcl : ∀ i k, listed.getD i false = true → edge l k i = true → listed.getD k false = true) :
 ∀ i, hd ≤ i → i < l.length → (∀ k, edge l k i = true → listed.getD k false = true) → ∀ k, k < hd → listed.getD k false = true := by
 simp only [tailB, Bool.and_eq_true] at h
 intro i
 induction i with
 | zero =>
  intro hi hl hp k hk
  omega
 | succ i ih =>
  intro hi hl hp k hk
  by_cases he : i + 1 = hd
  · exact reach_listed hcl hd hd (by rw [← he]; exact hp) (List.all_eq_true.1 h.1 k (List.mem_range.2 hk))
  · have hc := List.all_eq_true.1 h.2 (i + 1) (List.mem_range.2 hl)
    simp only [Bool.or_eq_true, Nat.add_sub_cancel] at hc
    rcases hc with hc | hc
    · have := Nat.le_of_ble_eq_true hc
      omega
    · have hi1 := hp i hc
      exact ih (by omega) (by omega) (fun q hq => hcl i q hi1 hq) k hk
def rhOkT (hd : Nat) (l : List Oper) (env : Env) (s : RH) (n : Nat) : Bool := ckDeps l s.deps && (List.range hd).all (fun i => ckDst1 l env i) && ckBack l && ckSize l n && ckH l s && tailB l hd && Region.seqB .any l.toArray (l.drop hd).length hd (headL hd l.length)
theorem wpAny_fin {hd : Nat} {L : Own} (hk : WL Q c l.toArray (l.drop hd) env L D) (hseq : Region.seqB .any l.toArray (l.drop hd).length hd (headL hd l.length) = true) {a : Act} {w : World} (f : Fr c.n a env) (st : St c.w0 c.M w L) (dh : DH D w L) :
 wpAny c.P .any l.toArray Q (l.length - hd) (headL hd l.length) a w := by
 have h := wpAny_of_seq (md := .any) (Q' := Q) (l.drop hd) hd (headL hd l.length) a w (fun j => by simp [List.getElem?_drop]) hseq (hk a w f st dh)
 rwa [List.length_drop] at h
theorem rgHG (hd : Nat) (s : RH) (hhs : s.hs = [[]]) (hok : rhOkT hd l env s c.n = true) (hhd : hd ≤ l.length) {L : Own} (hL : s.L [] [] = L) (hO : OblH c l s env D (l.take hd) 0) (A : Nat → Array Bool → Act → World → Prop)
 (hA : ∀ f listed a w, Region.ready .any l.toArray listed ≠ [] → (∀ i ∈ Region.ready .any l.toArray listed, ∀ Q', wpOp c.P l.toArray Q' i (A f (listed.setIfInBounds i true)) a w) → A (f + 1) listed a w)
 (k : ∀ V : Nat → Value, AllP (fun i => (dstOf l i).isSome = true → s.vals i = none → s.ok i (V i)) (List.range hd) → ∀ a w, Fr c.n a (envOf l (VV s.vals V) (List.range hd) ++ env) → St c.w0 c.M w L → DH (atsOf s.rs (VV s.vals V) ((List.range hd).filter fun i => (dstOf l i).isSome) ++ D) w L → A (l.length - hd) (headL hd l.length) a w)
 {a : Act} {w : World} (f : Fr c.n a env) (st : St c.w0 c.M w L) (dh : DH D w L) : A l.length (Array.replicate l.length false) a w.drew := by
 simp only [rhOkT, Bool.and_eq_true] at hok
 obtain ⟨⟨⟨⟨⟨⟨h1, h2⟩, h5⟩, hsz⟩, h4⟩, hT0⟩, _⟩ := hok
 have hT := tailB_spec hT0
 subst hL
 have hs := Stp.drew [] w
 have m0 : MidH c l s env D (Array.replicate l.length false) a w.drew [] := by
  refine ⟨f, st.step hs, dh.step hs.nil, by simp, fun i k h _ => ?_, fun i d h _ => ?_, fun x _ => ?_, fun x hx => (by cases hx), ?_⟩
  · rw [getD_rep] at h; cases h
  · rw [getD_rep] at h; cases h
  · rw [getD_rep]; simp
  · simp only [ckH, Bool.and_eq_true] at h4
    simpa using h4.1.1
 have key : ∀ (m : Nat) (listed : Array Bool) (a : Act) (w : World), MidH c l s env D listed a w [] → (∀ i, hd ≤ i → listed.getD i false = false) → (List.range hd).countP (fun i => !listed.getD i false) = m →
  A (m + (l.length - hd)) listed a w := by
  intro m
  induction m with
  | zero =>
   intro listed a w mm ht hc
   have hall : ∀ i, i < hd → listed.getD i false = true := fun i hi => by
    have := List.countP_eq_zero.1 hc i (List.mem_range.2 hi)
    simpa using this
   have heq : listed = headL hd l.length := by
    apply Array.ext
    · simp [mm.size, headL]
    · intro i g1 g2
      have e : listed[i] = listed.getD i false := by simp [g1]
      rw [e]
      simp only [headL, List.getElem_toArray, List.getElem_map, List.getElem_range]
      by_cases hi : i < hd
      · rw [hall i hi]; simp [hi]
      · rw [ht i (by omega)]; simp [hi]
   subst heq
   rw [Nat.zero_add]
   have hok2 : ∀ k, k < hd → (dstOf l k).isSome = true → s.ok2 k (valOf l a k) := fun k hk hd' => by
    obtain ⟨d, hd'⟩ := Option.isSome_iff_exists.1 hd'
    have := (mm.slot k d (hall k hk) hd').1
    simpa [valOf, slotV, hd'] using this
   have e1 : envOf l (valOf l a) (List.range hd) = envOf l (VV s.vals (valOf l a)) (List.range hd) := envOf_congr fun k hk hd' => ok2_VV (hok2 k (List.mem_range.1 hk) hd')
   have e2 : atsOf s.rs (valOf l a) ((List.range hd).filter fun i => (dstOf l i).isSome) = atsOf s.rs (VV s.vals (valOf l a)) ((List.range hd).filter fun i => (dstOf l i).isSome) := atsOf_congr fun k hk => ok2_VV (hok2 k (List.mem_range.1 (List.mem_filter.1 hk).1) (by simpa using (List.mem_filter.1 hk).2))
   have hk := k (valOf l a) (AllP.intro fun i hi hd' hn => ok2_of (hok2 i (List.mem_range.1 hi) hd') hn)
   rw [← e1, ← e2] at hk
   refine hk _ _ (mm.frame hsz fun k hk => Nat.lt_of_lt_of_le (List.mem_range.1 hk) hhd) mm.st (DH.app (fun t ht => ?_) mm.dh)
   obtain ⟨i, hi, ht⟩ := mem_atsOf ht
   obtain ⟨hi1, hd'⟩ := List.mem_filter.1 hi
   obtain ⟨d, hd'⟩ := Option.isSome_iff_exists.1 hd'
   have := (mm.slot i d (hall i (List.mem_range.1 hi1)) hd').2
   simp only [valOf, slotV, hd'] at ht
   exact this t ht
  | succ m ih =>
   intro listed a w mm ht hc
   rw [show m + 1 + (l.length - hd) = (m + (l.length - hd)) + 1 by omega]
   have hex : ∃ i, i < hd ∧ listed.getD i false = false := by
    refine Classical.byContradiction fun hn => ?_
    have : (List.range hd).countP (fun i => !listed.getD i false) = 0 := List.countP_eq_zero.2 fun i hi => by
     simp only [Bool.not_eq_true', Bool.not_eq_false]
     refine Classical.byContradiction fun h => hn ⟨i, List.mem_range.1 hi, by simpa using h⟩
    omega
   refine hA _ _ _ _ (fun hr => ?_) (fun i hi Q' => ?_)
   · exfalso
     obtain ⟨i0, hi0, hu0⟩ := hex
     have hall : ∀ i, i < l.length → listed.getD i false = true := by
      intro i
      induction i using Nat.strongRecOn with
      | _ i ih2 =>
       intro hil
       cases hli : listed.getD i false with
       | true => rfl
       | false =>
        exfalso
        have : i ∈ Region.ready .any l.toArray listed := by
         refine mem_ready.2 ⟨by rw [getD_true_false (by rw [mm.size]; exact hil)]; exact hli, l[i], by simp [List.getElem?_eq_getElem hil], fun e he hb => ?_⟩
         have hbk := List.all_eq_true.1 h5 i (List.mem_range.2 hil)
         rw [List.getElem?_eq_getElem hil] at hbk
         have := List.all_eq_true.1 hbk e (Array.mem_toList_iff.2 he)
         rw [hb] at this
         have hlt := lt_blt (by simpa using this)
         exact ih2 e.on hlt (by omega)
        rw [hr] at this
        cases this
     rw [hall i0 (by omega)] at hu0
     cases hu0
   · obtain ⟨hun, o, ho1, hpre⟩ := mem_ready.1 hi
     have ho : l[i]? = some o := by simpa using ho1
     have hil : i < l.length := (List.getElem?_eq_some_iff.1 ho).1
     have his : i < listed.size := by rw [mm.size]; exact hil
     have hun' : listed.getD i false = false := by rw [← getD_true_false his]; exact hun
     have hid : i < hd := by
      rcases Nat.lt_or_ge i hd with h | h
      · exact h
      · obtain ⟨i0, hi0, hu0⟩ := hex
        have := hT listed mm.closed i h hil (fun k hk => by
         obtain ⟨e, he, hb, rfl⟩ := (edge_mem ho).1 hk
         exact hpre e he hb) i0 hi0
        rw [this] at hu0; cases hu0
     refine (mm.step1 (Q := Q') h1 (List.all_eq_true.1 h2 i (List.mem_range.2 hid)) h4 hsz hi (fun o' ho' V De hV => hO.take_at hid ho' V De hV) fun a' w' h' m' => ?_)
     have hh : h' = [] := by
      have := m'.mem
      rw [hhs] at this
      simpa using this
     subst hh
     refine ih _ a' w' m' (fun j hj => ?_) ?_
     · rw [getD_set his, ht j hj]
       have : (i == j) = false := by simpa using (by omega : i ≠ j)
       rw [this]; rfl
     · have hlt : (List.range hd).countP (fun k => !(listed.setIfInBounds i true).getD k false) + 1 = (List.range hd).countP (fun k => !listed.getD k false) := by
        refine cnt_one hd _ _ i hid (by rw [hun']; rfl) (by rw [getD_set his]; simp) fun j hj => ?_
        rw [getD_set his]
        have : (i == j) = false := by simpa using Ne.symm hj
        rw [this]; rfl
       omega
 have hn0 : (List.range hd).countP (fun i => !(Array.replicate l.length false).getD i false) = hd := by
  rw [List.countP_eq_length_filter, List.filter_eq_self.2 fun i _ => by rw [getD_rep]; rfl, List.length_range]
 have := key hd _ a w.drew m0 (fun i _ => getD_rep _ _) hn0
 rwa [show hd + (l.length - hd) = l.length by omega] at this
theorem rgHT {id : Nat} (hd : Nat) (s : RH) (hhs : s.hs = [[]]) (hm : c.P.follows .mixedOrders = true) (hok : rhOkT hd l env s c.n = true) (hhd : hd ≤ l.length) {L : Own} (hL : s.L [] [] = L) (hO : OblH c l s env D (l.take hd) 0)
 (k : ∀ V : Nat → Value, AllP (fun i => (dstOf l i).isSome = true → s.vals i = none → s.ok i (V i)) (List.range hd) →
  WL Q c l.toArray (l.drop hd) (envOf l (VV s.vals V) (List.range hd) ++ env) L (atsOf s.rs (VV s.vals V) ((List.range hd).filter fun i => (dstOf l i).isSome) ++ D)) : WC c (.region id l.toArray true) Q env L D := fun a w f st dh => by
 have hseq : Region.seqB .any l.toArray (l.drop hd).length hd (headL hd l.length) = true := by
  simp only [rhOkT, Bool.and_eq_true] at hok
  exact hok.2
 exact wp_region_any hm (rgHG hd s hhs hok hhd hL hO (wpAny c.P .any l.toArray Q) (fun _ _ _ _ h0 h => ⟨fun h1 => absurd h1 h0, fun i hi => h i hi Q⟩) (fun V hV a w f st dh => wpAny_fin (k V hV) hseq f st dh) f st dh)
end
theorem eqGr {P : Program} {d m : Nat} {f : Field} {fs : List Field} {xs ys zs1 zs2 : Array Value} {r s : Bool} {w : World} (hn : (f.name == "_") = false) {ds : TypeDesc} (hu : P.underlying f.type = some ds) (hr : ds.isRow = true) (hm : (P.info? f.type).map (·.size) = some m) (ha : xs.extract f.offset (f.offset + m) = zs1) (hb : ys.extract f.offset (f.offset + m) = zs2)
 (he : ∀ w, (Op.equalIn d f.type (.agg zs1) (.agg zs2)).run P w = .ok r w) (hrest : ∀ w, (Op.eqFields d xs ys fs).run P w = .ok s w) : (Op.eqFields d xs ys (f :: fs)).run P w = .ok (r && s) w := by
 have hn' : f.name ≠ "_" := by simpa using hn
 obtain ⟨j, hj, hs⟩ := Option.map_eq_some_iff.1 hm
 have hp : ∀ (zs z : Array Value), zs.extract f.offset (f.offset + m) = z → ∀ w, (part f.type zs f.offset).run P w = .ok (.agg z) w := by
  intro zs z hz w
  unfold part
  rw [Sem.run_bind, run_isAgg hu, Result.andThen_ok, hr]
  simp [sizeOf, typeInfo, hj, hs, hz]
 unfold Op.eqFields
 rw [if_pos hn']
 simp only [Sem.run_bind, hp xs zs1 ha, hp ys zs2 hb, he, Result.andThen_ok]
 cases r with
 | false => simp
 | true => simpa using hrest w
end
end Go.Eng
namespace Go.Eng
open Go.RowKit
section
structure OneC where
instance repOne : Rep OneC where
 size := 1
 agg := false
 rd _ _ cs _ := ∃ u : Value, cs = [u] ∧ u.oneCell' = true
 len := by rintro S w cs x ⟨u, rfl, _⟩; rfl
 one := by
  rintro S w cs x ⟨u, rfl, h⟩ u' hu
  have : u' = u := by simpa using hu
  rw [this]
  exact h
 keep := by
  rintro S S' w w' cs x h _ _
  exact h
theorem one_holds {S : Nat → Prop} {w : World} {u : Value} (h : u.oneCell' = true) : Atom.holds (@Atom.mk OneC repOne u ⟨⟩) S w := by
 have ha : isAggV u = false := by cases u <;> first | rfl | simp [Value.oneCell'] at h
 exact ⟨ha, u, by rw [show (Atom.mk u (⟨⟩ : OneC)).v = u from rfl, cells_of_not ha], h⟩
theorem one_of {S : Nat → Prop} {w : World} {u : Value} (h : Atom.holds (@Atom.mk OneC repOne u ⟨⟩) S w) : u.oneCell' = true := by
 obtain ⟨ha, u', h1, h2⟩ := h
 have ha : isAggV u = false := ha
 have h1 : u.cells.toList = [u'] := h1
 rw [cells_of_not ha] at h1
 have : u = u' := by simpa using h1
 rw [this]
 exact h2
@[reducible] def oneAs (cs : List Value) : List Atom := cs.map fun u => @Atom.mk OneC repOne u ⟨⟩
theorem ones_hold {S : Nat → Prop} {w : World} {cs : List Value} (h : ∀ u ∈ cs, u.oneCell' = true) : ∀ t ∈ oneAs cs, t.holds S w := fun t ht => by
 obtain ⟨u, hu, rfl⟩ := List.mem_map.1 ht
 exact one_holds (h u hu)
@[reducible] def Shape.raw {α : Type} (s : Shape α) : Shape (α × s.H) where
 H := Unit
 size := s.size
 cells x _ := s.cells x.1 x.2
 sub x _ := oneAs (s.cells x.1 x.2)
 wf x := s.wf x.1
 len x _ := s.len x.1 x.2
 one := by
  intro S w x h ht u hu
  exact one_of (ht _ (List.mem_map.2 ⟨u, hu, rfl⟩))
@[reducible] def rawR {α : Type} (s : Shape α) : Rep (α × s.H) := Rep.ofShape s.raw
@[reducible] def rawA {α : Type} (s : Shape α) (v : Value) (ys : List (α × s.H)) : Atom := @Atom.mk (List (α × s.H)) (@repList _ (rawR s)) v ys
theorem raw_pick {α : Type} {s : Shape α} {S : Nat → Prop} {w : World} {b o : Nat} : ∀ (xs : List α) (k : Nat), (∀ i x, xs[i]? = some x → ∃ ds, @Rep.rd α (Rep.ofShape s) S w ds x ∧ Lies w b (o + (k + i) * s.size) ds) →
 ∃ ys : List (α × s.H), ys.map Prod.fst = xs ∧ (∀ i y, ys[i]? = some y → ∃ ds, @Rep.rd _ (rawR s) S w ds y ∧ Lies w b (o + (k + i) * s.size) ds) ∧ ∀ y ∈ ys, ∀ t ∈ s.sub y.1 y.2, t.holds S w
 | [], _, _ => ⟨[], rfl, by simp, by simp⟩
 | x :: xs, k, h => by
  obtain ⟨ds, ⟨hh, rfl, hsub, hwf⟩, hl⟩ := h 0 x rfl
  obtain ⟨ys, h1, h2, h3⟩ := raw_pick xs (k + 1) (fun i x' hx => by
   have := h (i + 1) x' hx
   rwa [show k + (i + 1) = k + 1 + i by omega] at this)
  refine ⟨(x, hh) :: ys, by rw [List.map_cons, h1], fun i y hy => ?_, fun y hy => ?_⟩
  · cases i with
    | zero =>
     have : y = (x, hh) := by simpa using hy.symm
     subst this
     exact ⟨_, ⟨(), rfl, ones_hold fun u hu => s.one x hh hsub u hu, hwf⟩, hl⟩
    | succ i =>
     have := h2 i y (by simpa using hy)
     rwa [show k + (i + 1) = k + 1 + i by omega]
  · rcases List.mem_cons.1 hy with rfl | hy
    · exact hsub
    · exact h3 y hy
theorem raw_of {α : Type} {s : Shape α} {S : Nat → Prop} {w : World} {v : Value} {xs : List α} (h : Atom.holds (@Atom.mk (List α) (@repList α (Rep.ofShape s)) v xs) S w) :
 ∃ ys : List (α × s.H), ys.map Prod.fst = xs ∧ (rawA s v ys).holds S w ∧ ∀ y ∈ ys, ∀ t ∈ s.sub y.1 y.2, t.holds S w := by
 obtain ⟨ha, A, cc, hsv, h1, h2, h3, h4⟩ := h
 by_cases hx : xs = []
 · subst hx
   exact ⟨[], rfl, ⟨ha, A, cc, hsv, h1, h2, h3, fun h => absurd rfl h⟩, by simp⟩
 · obtain ⟨b, o, hA, hS, hi⟩ := h4 hx
   obtain ⟨ys, g1, g2, g3⟩ := raw_pick (s := s) (S := S) (w := w) (b := b) (o := o) xs 0 (fun i x hx => by have := hi i x hx; rw [Nat.zero_add]; exact this)
   have hl : ys.length = xs.length := by rw [← g1]; simp
   refine ⟨ys, g1, ⟨ha, A, cc, ?_, by simpa only [hl] using h1, h2, by simpa only [hl] using h3, fun _ => ⟨b, o, hA, hS, fun i y hy => by have := g2 i y hy; rw [Nat.zero_add] at this; exact this⟩⟩, g3⟩
   simp only [hl]
   exact hsv
section
variable {c : Cx} {ops : Array Oper} {J : Cx → Array Oper → List Oper → Env → Own → List Atom → Prop} {Q : Exit → Act → World → Prop} {env : Env} {L : Own} {D : List Atom} {x : Code}
end
structure KC (n₀ b : Nat) (E : TypeId) (A B : World) : Prop where
 size : A.heap.size ≤ B.heap.size
 block : ∀ k, k < n₀ → k ≠ b → B.heap[k]? = A.heap[k]?
 typed : ∀ k cs T fl, k ≠ b → T ≠ E → A.heap[k]? = some (.cells cs T fl) → B.heap[k]? = some (.cells cs T fl)
def Rd {α : Type} [Rep α] (n₀ b3 : Nat) (E : TypeId) (bs : List Nat) (v : Value) (ys : List α) (w : World) : Prop :=
 ∃ S : Nat → Prop, Atom.holds ⟨v, ys⟩ S w ∧ ∀ b, S b → b < w.heap.size ∧ b ∉ bs ∧ b ≠ b3 ∧ (b < n₀ ∨ ∃ cs T fl, w.heap[b]? = some (.cells cs T fl) ∧ T ≠ E)
theorem listIn_head {m : Nat} {P : Program} {ops : Array Oper} {Q : Exit → Act → World → Prop} {tl : List Oper} : ∀ (hd : List Oper), ∀ a w, wpList P ops (fun e a w => e = .normal ∧ wpListIn Fence.wide m P ops Q tl a w) hd a w → wpListIn Fence.wide m P ops Q (hd ++ tl) a w
 | [], a, w, h => h.2
 | o :: rest, a, w, h => by
  have ih := listIn_head (m := m) (P := P) (ops := ops) (Q := Q) (tl := tl) rest
  have hno : ¬ LetsOut (fun (e : Exit) (a : Act) (w : World) => e = .normal ∧ wpListIn Fence.wide m P ops Q tl a w) := by
   rintro ⟨a', w', h⟩
   cases h.1
  unfold wpList at h
  rw [List.cons_append]
  unfold wpListIn
  by_cases hw : Region.wanted o (yielded ops a.tmps) = true
  · rw [if_pos hw] at h ⊢
    have h := h.elim id fun h => absurd h.2 hno
    refine ⟨fun _ _ => trivial, ?_⟩
    unfold Oper.wp at h
    have hs : Oper.semAt Fence.wide.round a.eval o = execOp a.eval o := rfl
    rw [hs]
    generalize (execOp a.eval o).run P w = r at *
    cases r with
    | ok nx w' =>
     cases nx <;> simp only [Oper.upon, Oper.uponIn] at h ⊢ <;> try exact h
     · exact ih _ _ h
     · exact ih _ _ h
     · refine ⟨(fun hd => by cases hd), callsIn_wide.2 (Calls.mono h fun e w'' he => ?_)⟩
       cases e with
       | returned v => exact ih _ _ he
       | panicked ch => exact absurd he.1 (by intro h; cases h)
       | outgrown => exact absurd he hno
     · exact ih _ _ h
     · exact ⟨(fun hd => by cases hd), fun c cs _ => by obtain ⟨v, w', hR, hs⟩ := h c cs; exact ⟨v, w', ih _ _ hR, stepsIn_wide.2 hs⟩⟩
    | halt x w' => cases x <;> simp only [Oper.upon, Oper.uponIn] at h ⊢ <;> first | exact h | exact absurd h.1 (by intro h; cases h)
  · rw [if_neg hw] at h ⊢
    exact ⟨fun _ _ => trivial, ih _ _ h⟩
theorem listIn_plain {F : Fence} {n : Nat} {P : Program} {ops : Array Oper} {Q : Exit → Act → World → Prop} {rest : List Oper} {o : Oper} {a : Act} {w : World} (hg : o.guard = none) (h : o.wpIn F n P a w (fun a' w' => wpListIn F n P ops Q rest a' w') Q) : wpListIn F n P ops Q (o :: rest) a w := by
 unfold wpListIn
 rw [if_pos (by unfold Region.wanted; rw [hg])]
 exact h
section
variable {c : Cx} {ops : Array Oper} {J : Cx → Array Oper → List Oper → Env → Own → List Atom → Prop} [iJ : IsJ J] {env : Env} {L : Own} {D : List Atom} {rest : List Oper} {d : Nat} {t : TypeId} {p : String} {af : Array Edge} {x : Operand}
include iJ
theorem ldRaw {α : Type} {s : Shape α} (i : Nat) {ov : α} {hh : s.H} {pv : Value} (hx : ev env x = some pv) (hA : D[i]? = some (@Atom.mk (Pt (α × s.H)) (@repPt _ (rawR s)) pv ⟨(ov, hh)⟩)) {E : TypeId} (ht : RowTy c.P E s.size) (hn : Nat.blt d c.n = true)
 (k : s.wf ov → J c ops rest ((d, .agg (s.cells ov hh).toArray) :: env) L D) : J c ops (⟨some d, .load E x, t, p, af, none⟩ :: rest) env L D :=
 ldS (s := s.raw) i hx hA ht hn fun _ hw => iJ.mono (fun _ _ f _ dh => ⟨f, fun u hu => dh u (List.mem_cons_of_mem _ (List.mem_append_right _ hu))⟩) (k hw)
end
end
end Go.Eng
namespace Go.YtmpoffijcfaalaaGreat
open Go.Eng
def netP (l : List TRight) (gr : Int) (key : ByteArray) (n : Int) : Int :=
 if ¬ errF (ledgerP l) = 0 then 0 else match firstI l.length (fun j => decide (l.getD j default = ({ fGroup := gr, fKey := key, fLease := n, fNet := (l.getD j default).fNet } : TRight))) with
  | some j => (l.getD j default).fNet
  | none => 0
theorem netP_in {l : List TRight} (h : ∀ r ∈ l, r.wf) (gr : Int) (key : ByteArray) (n : Int) : InI (netP l gr key n) := by
 unfold netP
 split
 · exact ⟨by decide, by decide⟩
 · split
   · rename_i j e
     exact (h _ (getD_mem (firstI_lt e))).2.2.2
   · exact ⟨by decide, by decide⟩
structure BigS (S : TState) : Prop where
 acc : S.fAccounts.length ≤ 100000
 hold : ∀ j, j < S.fAccounts.length → (S.fAccounts.getD j default).fHolders.length ≤ 100000
 marks : S.fMarks.length ≤ 100000
 waits : S.fWaits.length ≤ 100000
 deals : S.fDeals.length ≤ 100000
 ends : S.fEnds.length ≤ 100000
 image : S.fImage.length ≤ 140737488355328
structure BkS (S : TState) : Prop where
 acc : S.fAccounts.length ≤ 1048576
 hold : ∀ j, (S.fAccounts.getD j default).fHolders.length ≤ 1048576
 marks : S.fMarks.length ≤ 1048576
 waits : S.fWaits.length ≤ 1048576
 deals : S.fDeals.length ≤ 1048576
 ends : S.fEnds.length ≤ 1048576
 image : S.fImage.length ≤ 1048576
structure BkV (v : TScene) : Prop where
 places : v.fChart.fPlaces.length ≤ 1048576
 marks : v.fChart.fMarks.length ≤ 1048576
 states : v.fStates.length ≤ 1048576
 state : ∀ j, j < v.fStates.length → BkS (v.fStates.getD j default)
 rights : v.fRights.length ≤ 1048576
 ages : v.fAges.length ≤ 1048576
def allSame {α : Type} [Inhabited α] (p : α → α → Bool) (x y : List α) : Bool := decide (x.length = y.length) && allI x.length (fun j => p (x.getD j default) (y.getD j default))
theorem all_len {α : Type} [Inhabited α] {p : α → α → Bool} {x y : List α} (h : x.length ≠ y.length) : allSame p x y = false := by simp [allSame, h]
theorem all_no {α : Type} [Inhabited α] {p : α → α → Bool} {x y : List α} (i : Nat) (hi : i < x.length) (h : p (x.getD i default) (y.getD i default) = false) : allSame p x y = false := by rw [allSame, allI_false i hi h, Bool.and_false]
theorem all_yes {α : Type} [Inhabited α] {p : α → α → Bool} {x y : List α} (hl : x.length = y.length) (h : ∀ j, j < x.length → p (x.getD j default) (y.getD j default) = true) : allSame p x y = true := by
 rw [allSame, allI_true h, decide_eq_true hl]
 rfl
theorem all_self {α : Type} [Inhabited α] {p : α → α → Bool} (hp : ∀ x, p x x = true) (x : List α) : allSame p x x = true := all_yes rfl fun _ _ => hp _
theorem not_true {b : Bool} (h : (!b) = true) : b = false := by simpa using h
theorem not_false' {b : Bool} (h : (!b) = false) : b = true := by simpa using h
def sameState1 (x y : TState) : Bool := (!decide (x.fGroup = y.fGroup)) || (!decide (x.fIndex = y.fIndex)) || (!decide (x.fOwns = y.fOwns)) || (!decide (x.fLo = y.fLo)) || (!decide (x.fHi = y.fHi)) || (!decide (x.fEpoch = y.fEpoch)) || (!allSame sameAcc x.fAccounts y.fAccounts) || (!decide (x.fMarks = y.fMarks)) || (!decide (x.fWaits = y.fWaits))
def sameState (x y : TState) : Bool := if sameState1 x y = true then false else decide (x.fDeals = y.fDeals) && decide (x.fEnds = y.fEnds) && decide (x.fSeal = y.fSeal) && decide (x.fOut = y.fOut) && decide (x.fImage = y.fImage) && decide (x.fAbsorbed = y.fAbsorbed) && decide (x.fRefused = y.fRefused) && decide (x.fUndone = y.fUndone)
theorem sameAcc_self (a : TAccount) : sameAcc a a = true := by unfold sameAcc; simp
theorem sameState_self (x : TState) : sameState x x = true := by
 have h : sameState1 x x = false := by unfold sameState1; simp [all_self sameAcc_self]
 rw [sameState, if_neg (by rw [h]; decide)]
 simp
def sameChart (x y : TChart) : Bool := decide (x.fIndex = y.fIndex) && decide (x.fPlaces = y.fPlaces) && decide (x.fNext = y.fNext) && decide (x.fLast = y.fLast) && decide (x.fPlan = y.fPlan) && decide (x.fMarks = y.fMarks)
theorem sameChart_self (x : TChart) : sameChart x x = true := by unfold sameChart; simp
theorem take_snoc {α : Type} [Inhabited α] {l : List α} {i : Nat} (h : i < l.length) : l.take i ++ [l.getD i default] = l.take (i + 1) := by
 rw [List.take_add_one]
 simp [List.getD, List.getElem?_eq_getElem h]
def ageM (c q : Int) (a : TAge) : Bool := decide (a.fClient = c) && decide (a.fSeq = q)
def ageP (l : List TAge) (c q : Int) : Nat → Int
 | 0 => 0
 | i + 1 => if ageM c q (l.getD i default) = true then max (ageP l c q i) (l.getD i default).fTicks else ageP l c q i
theorem age_T {l : List TAge} {c q : Int} {i : Nat} (h : ageM c q (l.getD i default) = true) : ageP l c q (i + 1) = max (ageP l c q i) (l.getD i default).fTicks := by rw [ageP, if_pos h]
theorem age_F {l : List TAge} {c q : Int} {i : Nat} (h : ageM c q (l.getD i default) = false) : ageP l c q (i + 1) = ageP l c q i := by rw [ageP, if_neg (by rw [h]; decide)]
def whoseP (v : TScene) (key : ByteArray) : Int := (v.fChart.fPlaces.getD (findP v.fChart.fPlaces key) default).fGroup
def accO (S : TState) (key : ByteArray) : Option Nat := firstI S.fAccounts.length (fun j => decide ((S.fAccounts.getD j default).fKey = key))
def accAt (S : TState) (key : ByteArray) : TAccount := match accO S key with
 | some j => S.fAccounts.getD j default
 | none => new15 key
def isAt (S : TState) (key : ByteArray) : Bool := (accO S key).isSome
def lockedS (S : TState) (key : ByteArray) (c q : Int) : Bool := isAt S key && decide ((accAt S key).fLock.fClient = c) && decide ((accAt S key).fLock.fSeq = q)
def waitM (key : ByteArray) (c q : Int) (x : TWait) : Bool := decide (x.fClient = c) && decide (x.fSeq = q) && decide (x.fOp.fKey = key)
def waitsS (S : TState) (key : ByteArray) (c q : Int) : Bool := decide (placeI (firstI S.fWaits.length (fun j => waitM key c q (S.fWaits.getD j default))) ≥ 0)
def endO (l : List TEnd) (c : Int) : Option Nat := firstI l.length (fun j => decide ((l.getD j default).fClient ≥ c))
def endN (l : List TEnd) (c : Int) : Nat := (endO l c).getD l.length
def isEnd (l : List TEnd) (c : Int) : Bool := match endO l c with
 | some j => decide ((l.getD j default).fClient = c)
 | none => false
theorem isEnd_lt {l : List TEnd} {c : Int} (h : isEnd l c = true) : endN l c < l.length := by
 unfold isEnd at h
 cases e : endO l c with
 | none => rw [e] at h; cases h
 | some j =>
  rw [endN, e]
  exact List.mem_range.1 (List.mem_of_find?_eq_some e)
def pastP (l : List TEnd) (c q : Int) : Bool := isEnd l c && decide ((l.getD (endN l c) default).fSeq ≥ q) && decide (errF (endsP l) = 0)
def HolS (S : TState) : Prop := ∀ j, (S.fAccounts.getD j default).fHolders.length ≤ 100000
def zhold : THolder := ⟨0, 0, 0, 0⟩
def holdO (a : TAccount) (n : Int) : Option Nat := firstI a.fHolders.length (fun j => decide ((a.fHolders.getD j default).fNode = n))
def findH (a : TAccount) (n : Int) : THolder := if accP a = true then (match holdO a n with
 | some j => a.fHolders.getD j default
 | none => zhold) else zhold
def isH (a : TAccount) (n : Int) : Bool := accP a && (holdO a n).isSome
def stAt (v : TScene) (n : Int) : TState := v.fStates.getD (n - 1).toNat default
def cmdK (k c q : Int) : TCommand := { zcmd with fKind := k, fClient := c, fSeq := q }
def oldP (v : TScene) (c q : Int) : Bool := decide (ageP v.fAges c q v.fAges.length ≥ 8)
def decC (v : TScene) (d : TDeal) (T : TState) : TCommand := if d.fFate ≠ 0 then cmdK 7 d.fClient d.fSeq else if oldP v d.fClient d.fSeq = true then cmdK 3 d.fClient d.fSeq else { cmdK 5 d.fClient d.fSeq with fYes := lockedS T d.fOther d.fClient d.fSeq }
def decB (v : TScene) (d : TDeal) (T : TState) : Bool := if d.fFate ≠ 0 then ownsP T d.fOther && pastP T.fEnds d.fClient d.fSeq && (!lockedS T d.fOther d.fClient d.fSeq) && (!waitsS T d.fOther d.fClient d.fSeq) else if oldP v d.fClient d.fSeq = true then true else decide (d.fTheirs = 0) && (lockedS T d.fOther d.fClient d.fSeq || pastP T.fEnds d.fClient d.fSeq)
def sideC (S : TState) (n : Int) (d : TDeal) : TCommand := if d.fFate ≠ 0 then { cmdK 6 d.fClient d.fSeq with fKey := d.fOther, fYes := decide (d.fFate = 1) } else { cmdK 4 d.fClient d.fSeq with fKey := d.fOther, fHome := n, fNet := d.fN, fEpoch := S.fEpoch }
def sideB (S : TState) (d : TDeal) : Bool := if d.fFate ≠ 0 then lockedS S d.fOther d.fClient d.fSeq || (!pastP S.fEnds d.fClient d.fSeq) || waitsS S d.fOther d.fClient d.fSeq else decide (d.fTheirs = 0) && (!lockedS S d.fOther d.fClient d.fSeq) && (!pastP S.fEnds d.fClient d.fSeq) && (!waitsS S d.fOther d.fClient d.fSeq)
def zpl : TPlan := ⟨0, 0, 0, ByteArray.empty, ByteArray.empty, 0, 0⟩
def epoO (v : TScene) (S : TState) : Int := if (ofP v.fChart.fPlaces S.fGroup).isSome = true then (v.fChart.fPlaces.getD ((ofP v.fChart.fPlaces S.fGroup).getD 0) default).fEpoch else epochP v.fChart.fPlaces
def outN (v : TScene) (S T : TState) : Bool := decide (v.fChart.fLast < S.fOut.fNumber) || decide (v.fChart.fPlan.fNumber = S.fOut.fNumber) || decide (T.fAbsorbed < S.fOut.fNumber)
def outC (v : TScene) (S T : TState) : TCommand := if S.fOut = zpl then zcmd else if T.fRefused = S.fOut.fNumber then { zcmd with fKind := 9, fPlan := S.fOut, fYes := true } else if outN v S T = true then zcmd else { zcmd with fKind := 11, fPlan := S.fOut, fEpoch := epoO v S }
def outB (v : TScene) (S T : TState) : Bool := if S.fOut = zpl then false else if T.fRefused = S.fOut.fNumber then true else !outN v S T
def epochC (c : TChart) : Int := if planP c = true then epochP c.fPlaces + 1 else 0
def repOK (l : List TRight) (g : Int) (a : TAccount) : Bool := (!decide (errF (ledgerP l) = 0)) || (!decide (errF (accP a) = 0)) || decide (a.fRound = 0) || (!okGroup g)
def repC (l : List TRight) (g : Int) (a : TAccount) (n : Int) : TCommand := if repOK l g a = true then zcmd else if isH a n = true then { zcmd with fKind := 2, fNode := n, fKey := a.fKey, fLease := (findH a n).fLease, fRound := a.fRound, fNet := netP l g a.fKey (findH a n).fLease } else zcmd
def repB (l : List TRight) (g : Int) (a : TAccount) (n : Int) : Bool := if repOK l g a = true then false else isH a n
def chL (v : TScene) (T F : TState) : List TCommand := if v.fChart.fPlan = zpl then [] else if (decide (T.fAbsorbed ≥ v.fChart.fPlan.fNumber) && (!decide (T.fRefused = v.fChart.fPlan.fNumber))) = true then [{ zcmd with fKind := 13, fPlan := v.fChart.fPlan }] else if F.fUndone ≥ v.fChart.fPlan.fNumber then [{ zcmd with fKind := 14, fPlan := v.fChart.fPlan }] else []
end Go.YtmpoffijcfaalaaGreat
