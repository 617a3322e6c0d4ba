/- Part 4 of dutyPlays_holds. -/
import Derived.StillTail
import Derived.Test.YtmpoffijcfaalaaGreatPl3

set_option maxRecDepth 20000
set_option maxHeartbeats 1000000
namespace Go.Eng
section
section
variable {P : Program} {ops : Array Oper} {md : Region.Mode} {C : World → Prop}
def headQ (P : Program) (md : Region.Mode) (ops : Array Oper) (C : World → Prop) (n : Nat) (L : Array Bool → Act → Prop) : Nat → Array Bool → Act → Prop
 | 0, listed, a => L listed a
 | f + 1, listed, a =>
  Region.ready md ops listed ≠ [] ∧ ∀ i ∈ Region.ready md ops listed, i < n ∧ qOp P ops C i (headQ P md ops C n L f (listed.setIfInBounds i true)) a
theorem any_of_headQ {n g : Nat} {L : Array Bool → Act → Prop} {Q' : Exit → Act → World → Prop} (hL : ∀ listed a w, C w → L listed a → wpAny P md ops Q' g listed a w) :
 ∀ (f : Nat) (listed : Array Bool) (a : Act) (w : World), C w → headQ P md ops C n L f listed a → wpAny P md ops Q' (f + g) listed a w
 | 0, listed, a, w, hw, h => by rw [Nat.zero_add]; exact hL _ _ _ hw h
 | f + 1, listed, a, w, hw, h => by
  rw [show f + 1 + g = (f + g) + 1 by omega]
  exact ⟨fun h0 => absurd h0 h.1, fun i hi => wpOp_of_qOp hw (fun a' w' hw' h' => any_of_headQ hL f _ a' w' hw' h') (h.2 i hi).2⟩
theorem headQ_first {n i : Nat} {oi : Oper} {v : Value} {L : Array Bool → Act → Prop} (hi : ops[i]? = some oi) (hsel : ∀ (j : Nat) (o : Oper) cs b, ops[j]? = some o → o.op ≠ .select cs b)
 (hs : Region.sinkB md ops n = true) (hc : Region.chainB md ops n = true) (hn : n < ops.size) (hin : i < n)
 (hdone : ∀ listed a, L listed a → ∀ j ∈ Region.ready md ops listed, n ≤ j) :
 ∀ (f : Nat) (listed : Array Bool) (a : Act), HeadInv md ops n listed →
  (∀ j oj, ops[j]? = some oj → j ≠ i → listed.getD j true = false → (∀ e ∈ oj.after, Region.binds md e = true → e.on ≠ i) → oi.apart ops oj = true) →
  i ∈ Region.ready md ops listed → YieldsIn P ops C oi v a →
  headQ P md ops C n L f (listed.setIfInBounds i true) (a.put oi.dst v) → headQ P md ops C n L (f + 1) listed a := by
 intro f
 induction f with
 | zero =>
  intro listed a inv _ hr hy H
  have hun := (mem_ready.1 hr).1
  refine ⟨fun h => (by rw [h] at hr; cases hr), fun j hj => ?_⟩
  have hjn : j < n := by
   rcases Nat.lt_or_ge j n with h | h
   · exact h
   · exact absurd hj (tail_waits hs hc hn inv _ i rfl hin hun j h)
  refine ⟨hjn, ?_⟩
  by_cases hji : j = i
  · subst hji; exact hy.qOp hi H
  · have := hdone _ _ H j (ready_mono hj hji)
    omega
 | succ f ih =>
  intro listed a inv hfree hr hy H
  have hun := (mem_ready.1 hr).1
  refine ⟨fun h => (by rw [h] at hr; cases hr), fun j hj => ?_⟩
  have hjn : j < n := by
   rcases Nat.lt_or_ge j n with h | h
   · exact h
   · exact absurd hj (tail_waits hs hc hn inv _ i rfl hin hun j h)
  refine ⟨hjn, ?_⟩
  by_cases hji : j = i
  · subst hji; exact hy.qOp hi H
  · have h1 := (H.2 j (ready_mono hj hji)).2
    obtain ⟨hjun, oj, hoj, hall⟩ := mem_ready.1 hj
    have hnot : ∀ e ∈ oj.after, Region.binds md e = true → e.on ≠ i := fun e he hb heq => by
     have h1 := hall e he hb
     rw [heq, getD_both hun] at h1
     cases h1
    have h2 := qOp_put hoj (hfree j oj hoj hji hjun hnot) (fun cs b => hsel i oi cs b hi) (fun cs b => hsel j oj cs b hoj) hy h1
    have hfree' : ∀ k ok, ops[k]? = some ok → k ≠ i → (listed.setIfInBounds j true).getD k true = false →
     (∀ e ∈ ok.after, Region.binds md e = true → e.on ≠ i) → oi.apart ops ok = true := fun k ok hk hki hun hno => by
     refine hfree k ok hk hki ?_ hno
     by_cases hjk : j = k
     · subst hjk; exact hjun
     · rw [getD_set_ne true hjk] at hun; exact hun
    refine qOp_mono (fun a' h3 => ih (listed.setIfInBounds j true) a' (inv.set hj hjn) hfree' (ready_mono hr (Ne.symm hji)) h3.1 ?_) h2
    rw [Array.setIfInBounds_comm _ _ hji]
    exact h3.2
theorem headQ_lex {n g : Nat} {Lq : Act → Prop} (hsel : Region.noSelect ops = true) (hs : Region.sinkB md ops n = true) (hc : Region.chainB md ops n = true) (hn : n < ops.size) :
 ∀ (l : List Oper) (k : Nat) (listed : Array Bool) (a : Act), (∀ j, j < l.length → l[j]? = ops[k + j]?) → k + l.length = n → HeadInv md ops n listed →
 Region.lexHead md ops g l.length k listed = true → wpQuiet P ops C Lq l a →
 headQ P md ops C n (fun listed' a' => Region.seqB md ops g n listed' = true ∧ Lq a') l.length listed a
 | [], k, listed, a, _, hk, _, hB, h => by
  have : k = n := by simpa using hk
  subst this
  exact ⟨by simpa [Region.lexHead] using hB, h⟩
 | o :: l, k, listed, a, hl, hk, inv, hB, h => by
  have h0 : ops[k]? = some o := by simpa using (hl 0 (by simp)).symm
  simp only [List.length_cons, Region.lexHead, Bool.and_eq_true] at hB
  obtain ⟨⟨hr, hf⟩, hB'⟩ := hB
  have hkn : k < n := by simp only [List.length_cons] at hk; omega
  have hr' : k ∈ Region.ready md ops listed := by simpa using hr
  have hst : qOp P ops C k (wpQuiet P ops C Lq l) a := by unfold qOp; simp only [h0]; exact h
  obtain ⟨v, hy, hK⟩ := yieldsIn_of_qOp h0 hst
  exact headQ_first h0 (Region.noSelect_spec hsel) hs hc hn hkn (fun listed' a' hL => seqB_ready hL.1) l.length listed a inv (Region.free_spec h0 hf) hr' hy
   (headQ_lex hsel hs hc hn l (k + 1) _ _ (fun j hj => by have := hl (j + 1) (by simp; omega); simpa [Nat.add_assoc, Nat.add_comm 1 j] using this) (by simp only [List.length_cons] at hk; omega) (inv.set hr' hkn) hB' hK)
theorem wp_quiet_tail {id : Nat} {Q : Exit → Act → World → Prop} {a : Act} {w : World} {l : List Oper} (n : Nat) (hm : P.follows .mixedOrders = true) (hB : Region.lexTailB .any l.toArray n = true) (hC : C { w with drawn := w.drawn + 1 })
 (h : wpQuiet P l.toArray C (fun a' => ∀ w', C w' → wpList P l.toArray Q (l.drop n) a' w') (l.take n) a) : (Code.region id l.toArray true).wp P Q a w := by
 simp only [Region.lexTailB, Bool.and_eq_true, decide_eq_true_eq] at hB
 obtain ⟨⟨⟨⟨hsel, hn⟩, hs⟩, hc⟩, hlex⟩ := hB
 have hn' : n < l.length := by simpa using hn
 have htl : (l.take n).length = n := by simp; omega
 have hdl : (l.drop n).length = l.toArray.size - n := by simp
 have inv0 : HeadInv .any l.toArray n (Array.replicate l.toArray.size false) :=
  ⟨by simp, fun j oj _ hl => (by rw [getD_replicate_false] at hl; cases hl), fun t _ ht => getD_in (by simpa using ht) (getD_replicate_false _ _)⟩
 have H := headQ_lex (md := .any) (g := l.toArray.size - n) hsel hs hc hn (l.take n) 0 _ a (fun j hj => by
  have hj' : j < n := by rw [htl] at hj; exact hj
  simp [hj']) (by simpa using htl) inv0 (by rw [htl]; exact hlex) h
 refine wp_region_any hm ?_
 have := any_of_headQ (Q' := Q) (g := l.toArray.size - n) (fun listed a' w' hw' hL => by
  have := wpAny_of_seq (md := .any) (Q' := Q) (l.drop n) n listed a' w' (fun j => by simp [List.getElem?_drop]) (by rw [hdl]; exact hL.1) (hL.2 w' hw')
  rwa [hdl] at this) _ _ _ _ hC H
 rw [htl, show n + (l.toArray.size - n) = l.toArray.size by omega] at this
 exact this
end
theorem rgT {c : Cx} {Q : Exit → Act → World → Prop} {env : Env} {L : Own} {D : List Atom} {id : Nat} {l : List Oper} (n : Nat) (hm : c.P.follows .mixedOrders = true) (hB : Region.lexTailB .any l.toArray n = true)
 (h : WLQ (fun _ a w => wpList c.P l.toArray Q (l.drop n) a w) c l.toArray (l.take n) env L D) : WC c (.region id l.toArray true) Q env L D :=
 fun a w f st dh => wp_quiet_tail (C := fun w' => Stp [] w w') n hm hB (Stp.drew [] w) (h a w f st dh)
theorem nlT {c : Cx} {Q : Exit → Act → World → Prop} {ops : Array Oper} {tl : List Oper} {env : Env} {L : Own} {D : List Atom} (h : WL Q c ops tl env L D) : WLQ (fun _ a w => wpList c.P ops Q tl a w) c ops [] env L D := nlQ h
theorem St.dropA {w0 w : World} {M : List Nat} {L : Own} : ∀ {A : Own}, St w0 M w (A ++ L) → St w0 M w L
 | [], h => h
 | _ :: _, h => St.dropA h.drop
theorem DH.dropA {D : List Atom} {w : World} {L : Own} : ∀ {A : Own}, DH D w (A ++ L) → DH D w L
 | [], h => h
 | _ :: _, h => DH.dropA h.drop
section
variable {env : Env} {L : Own} {D : List Atom} {fn : Func} {X : List Nat} {L0 : Own} {β : Type} {R : β → Value → Prop} {L1 : β → Value → Own} {out : β → Value → List Atom} {P : Program} {n : Nat} {w0 : World} {M : List Nat}
def ResIs (P : Program) (n : Nat) (w0 : World) (M : List Nat) (fn : Func) (env : Env) (L : Own) (v : Value) : Prop := ∀ a w, Fr n a env → St w0 M w L → (results fn a.tmps).run P w = .ok v w
theorem fRG (y : β) (A : Own) {v : Value} (hrun : ResIs P n w0 (L0.bs ++ X) fn env L v) (hR : R y v) (hL : L = A ++ (L1 y v ++ [fz X w0])) (hD : SubD (out y v) D) :
 WQ ⟨P, n, w0, L0.bs ++ X⟩ (PostOf P fn X w0 L0 R L1 out) .ret env L D := by
 intro a w f st dh
 refine bodyPost_ret (hrun a w f st) f.dn ⟨_, rfl, ?_⟩
 subst hL
 exact Fnc.post y hR rfl hD st.dropA dh.dropA (new_of (X := X) (w := w) st.dropA)
theorem own_at {w : World} {b : Nat} {T : TypeId} {cs : List Value} (i : Nat) (hi : L[i]? = some (bl b T cs)) (st : St w0 M w L) : w.heap[b]? = some (.cells cs.toArray T (0, 0)) := st.own _ (List.mem_of_getElem? hi)
theorem rC {t : Nat} {T T' : TypeId} {b : Nat} {cs : List Value} (i : Nat) (hr : fn.results = #[.cell t T]) (h1 : lk env t = some (.pointer (some ⟨b, 0, none⟩))) (hi : L[i]? = some (bl b T' cs)) (ht : RowTy P T cs.length) : ResIs P n w0 M fn env L (.agg cs.toArray) := fun a w f st => by
 simp [results, hr, f.at_ t _ h1, asAddr, Sem.run_bind, run_loadVarM ht (own_at i hi st)]
theorem rCC {t u : Nat} {T U T' U' : TypeId} {b b2 : Nat} {cs ds : List Value} (i j : Nat) (hr : fn.results = #[.cell t T, .cell u U]) (h1 : lk env t = some (.pointer (some ⟨b, 0, none⟩))) (h2 : lk env u = some (.pointer (some ⟨b2, 0, none⟩)))
 (hi : L[i]? = some (bl b T' cs)) (hj : L[j]? = some (bl b2 U' ds)) (ht : RowTy P T cs.length) (hu : RowTy P U ds.length) : ResIs P n w0 M fn env L (.tuple #[.agg cs.toArray, .agg ds.toArray]) := fun a w f st => by
 simp [results, hr, f.at_ t _ h1, f.at_ u _ h2, asAddr, Sem.run_bind, run_loadVarM ht (own_at i hi st), run_loadVarM hu (own_at j hj st)]
theorem rCT {t u : Nat} {T T' : TypeId} {b : Nat} {cs : List Value} {v2 : Value} (i : Nat) (hr : fn.results = #[.cell t T, .tmp u]) (h1 : lk env t = some (.pointer (some ⟨b, 0, none⟩))) (h2 : lk env u = some v2)
 (hi : L[i]? = some (bl b T' cs)) (ht : RowTy P T cs.length) : ResIs P n w0 M fn env L (.tuple #[.agg cs.toArray, v2]) := fun a w f st => by
 simp [results, hr, f.at_ t _ h1, f.at_ u _ h2, asAddr, Sem.run_bind, run_loadVarM ht (own_at i hi st)]
theorem rTCT {t u s : Nat} {T T' : TypeId} {b : Nat} {cs : List Value} {v1 v3 : Value} (i : Nat) (hr : fn.results = #[.tmp t, .cell u T, .tmp s]) (h1 : lk env t = some v1) (h2 : lk env u = some (.pointer (some ⟨b, 0, none⟩))) (h3 : lk env s = some v3)
 (hi : L[i]? = some (bl b T' cs)) (ht : RowTy P T cs.length) : ResIs P n w0 M fn env L (.tuple #[v1, .agg cs.toArray, v3]) := fun a w f st => by
 simp [results, hr, f.at_ t _ h1, f.at_ u _ h2, f.at_ s _ h3, asAddr, Sem.run_bind, run_loadVarM ht (own_at i hi st)]
end
end
section
section
variable {c : Cx} {ops : Array Oper} {J : Cx → Array Oper → List Oper → Env → Own → List Atom → Prop} [iJ : IsJ J] {env : Env} {L : Own} {D : List Atom} {rest : List Oper} {d : Nat} {v : Value} {t : TypeId} {p : String} {af : Array Edge}
theorem mf1 {fn : Fn} {xs ys : List Operand} {vs us : List Value} (hy : evs env ys = some us) (hx : evs env xs = some vs) (hn : Nat.blt d c.n = true) (k : J c ops rest ((d, .func fn us.toArray vs.toArray) :: env) L D) : J c ops (⟨some d, .makeFunc fn ys.toArray xs.toArray, t, p, af, none⟩ :: rest) env L D :=
 pu rfl rfl hn (fun a w f => by simp [execOp, Instr.makeFunc, f.evs hx, f.evs hy]) k
variable {x y : Operand} {q : IntKind} {m n : Int} {xt yt : TypeId} {T : TypeId}
include iJ
theorem adR (hx : ev env x = some (.int q m)) (hy : ev env y = some (.int q n)) {r : Int} (hr : q.wrap (m + n) = r) (hn : Nat.blt d c.n = true) (k : J c ops rest ((d, .int q r) :: env) L D) :
 J c ops (⟨some d, .binOp .add xt x y yt, t, p, af, none⟩ :: rest) env L D := by
 subst hr
 exact adW hx hy hn k
theorem quR (hx : ev env x = some (.int q m)) (hy : ev env y = some (.int q n)) (h0 : n ≠ 0) {r : Int} (hr : q.wrap (m.tdiv n) = r) (hn : Nat.blt d c.n = true) (k : J c ops rest ((d, .int q r) :: env) L D) :
 J c ops (⟨some d, .binOp .quo xt x y yt, t, p, af, none⟩ :: rest) env L D := by
 subst hr
 exact quW hx hy h0 hn k
theorem reR (hx : ev env x = some (.int q m)) (hy : ev env y = some (.int q n)) (h0 : n ≠ 0) {r : Int} (hr : m.tmod n = r) (hn : Nat.blt d c.n = true) (k : J c ops rest ((d, .int q r) :: env) L D) :
 J c ops (⟨some d, .binOp .rem xt x y yt, t, p, af, none⟩ :: rest) env L D := by
 subst hr
 exact reW hx hy h0 hn k
theorem slP2 {α : Type} {r : Rep α} (i : Nat) {xs : List α} {sv : Value} {lo hi : Operand} {l h : Int} {E : TypeId} (hx : ev env x = some sv) (hA : D[i]? = some (@Atom.mk (List α) (@repList α r) sv xs)) (ht : SliceTy c.P T E r.size)
 (e1 : ev env lo = some (.int .i64 l)) (e2 : ev env hi = some (.int .i64 h)) (h0 : 0 ≤ l) (h1 : l ≤ h) (h3 : h ≤ (xs.length : Int)) (hn : Nat.blt d c.n = true)
 (k : ∀ u, J c ops rest ((d, u) :: env) L ((@Atom.mk (List α) (@repList α r) u ((xs.take h.toNat).drop l.toNat)) :: D)) :
 J c ops (⟨some d, .slice T x (some lo) (some hi) none, t, p, af, none⟩ :: rest) env L D :=
 iJ.read (σ := Value) rfl rfl (fun u => (d, u) :: env) (fun u => (@Atom.mk (List α) (@repList α r) u ((xs.take h.toNat).drop l.toNat)) :: D) (fun a w f st dh => by
  obtain ⟨ha, hrd⟩ := dh.at_ i hA
  obtain ⟨A, cc, hsv, _⟩ := hrd
  simp only at hsv ha
  rw [cells_of_not ha] at hsv
  have hsv : sv = .slice A xs.length cc := by simpa using hsv
  subst hsv
  have hrd : rdSlice (Sf L.bs w) w [.slice A xs.length cc] xs := (dh.at_ i hA).2
  have hcap : xs.length ≤ cc := by
   obtain ⟨A', c', he, g1, _⟩ := hrd
   simp only [List.cons.injEq, Value.slice.injEq, and_true] at he
   omega
  obtain ⟨j, hj, hs⟩ := Option.map_eq_some_iff.1 ht.2
  have b2 : 0 ≤ h ∧ h ≤ (cc : Int) := by omega
  have b3 : 0 ≤ l ∧ l ≤ (h.toNat : Int) := by omega
  have c2 : l ≤ max h 0 := by omega
  refine ⟨.slice (if cc = l.toNat then A else A.map (·.add (l.toNat * r.size))) (h.toNat - l.toNat) (cc - l.toNat), _, fun w' hs' => ?_, f.put _ (lt_blt hn), DH.cons ⟨rfl, part_reads hrd (l := l.toNat) (h := h.toNat) (m := cc) (by omega) (by omega) (by omega) (by omega)⟩ dh⟩
  simp [execOp, f.ev hx, f.ev e1, f.ev e2, Instr.sliceAt, run_underlying ht.1, Instr.slice, Instr.sliceBounds, Instr.sliceBound, asIntOf, b2, b3, c2, sizeOf, typeInfo, hj, hs]) k
end
end
section
section
variable {c : Cx} {l : List Oper} {s : RS} {env : Env} {D : List Atom} {Q : Exit → Act → World → Prop}
end
end
section
def ptrB : Value → Nat
 | .pointer (some p) => p.block
 | _ => 0
theorem ptrB_mk (b : Nat) : ptrB (.pointer (some ⟨b, 0, none⟩)) = b := rfl
structure RH where
 deps : Nat → List Nat
 ok : Nat → Value → Prop
 at_ : Nat → Value → List Atom
 vals : Nat → Option Value
 L : List Nat → List Value → Own
 effs : List Nat
 hs : List (List Nat)
@[reducible] def RH.rs (s : RH) : RS := ⟨s.deps, s.ok, s.at_, fun _ => [], []⟩
@[reducible] def RH.ok2 (s : RH) (i : Nat) (u : Value) : Prop := match s.vals i with
 | some v => u = v
 | none => s.ok i u
def phH (l : List Oper) (s : RH) (i : Nat) : List (List Nat) := s.hs.filter fun h => (!(s.effs.contains i) || !(h.contains i)) && s.effs.all fun x => (!(edge l x i) || h.contains x) && (!(edge l i x) || !(h.contains x))
def ckH (l : List Oper) (s : RH) : Bool := s.hs.contains [] && s.effs.all (fun x => Nat.blt x l.length) && s.hs.all fun h => s.effs.all fun i => h.contains i || !(s.effs.all fun x => !(edge l x i) || h.contains x) || s.hs.contains (h ++ [i])
def rhOk (l : List Oper) (env : Env) (s : RH) (n : Nat) : Bool := ckDeps l s.deps && ckDst l env && ckBack l && ckSize l n && ckH l s
def fullH (s : RH) : List (List Nat) := s.hs.filter fun h => s.effs.all fun x => h.contains x
def nextH (s : RH) (h : List Nat) (vs : List Value) (i : Nat) (u : Value) : Own := if s.effs.contains i then s.L (h ++ [i]) (vs ++ [u]) else s.L h vs
def opPostH (c : Cx) (l : List Oper) (s : RH) (D : List Atom) (i : Nat) (h : List Nat) (vs : List Value) : Exit → Act → World → Prop := fun e a w =>
 e = .normal ∧ a.defers = [] ∧ St c.w0 c.M w (nextH s h vs i (slotV l a i)) ∧ DH D w (nextH s h vs i (slotV l a i)) ∧ ∀ d, dstOf l i = some d → s.ok2 i (a.tmps.getD d undef) ∧ DH (s.at_ i (a.tmps.getD d undef)) w (nextH s h vs i (slotV l a i))
def OblH (c : Cx) (l : List Oper) (s : RH) (env : Env) (D : List Atom) : List Oper → Nat → Prop
 | [], _ => True
 | o :: r, i => (∀ (V : Nat → Value) (De : List Atom), AllP (fun k => s.vals k = none → s.ok k (V k)) (s.deps i) →
  AllP (fun h => WL (opPostH c l s (D ++ De) i h (h.map V)) c l.toArray [o] (envOf l (VV s.vals V) (s.deps i) ++ env) (s.L h (h.map V)) (atsOf s.rs (VV s.vals V) (s.deps i) ++ (D ++ De))) (phH l s i)) ∧ OblH c l s env D r (i + 1)
theorem OblH.at_ {c : Cx} {l : List Oper} {s : RH} {env : Env} {D : List Atom} : ∀ {r : List Oper} {i : Nat}, OblH c l s env D r i → ∀ k o, r[k]? = some o → ∀ (V : Nat → Value) (De : List Atom), AllP (fun k => s.vals k = none → s.ok k (V k)) (s.deps (i + k)) →
 AllP (fun h => WL (opPostH c l s (D ++ De) (i + k) h (h.map V)) c l.toArray [o] (envOf l (VV s.vals V) (s.deps (i + k)) ++ env) (s.L h (h.map V)) (atsOf s.rs (VV s.vals V) (s.deps (i + k)) ++ (D ++ De))) (phH l s (i + k))
 | [], _, _, k, o, hk => by simp at hk
 | p :: r, i, h, 0, o, hk => by simp at hk; subst hk; exact h.1
 | p :: r, i, h, k + 1, o, hk => by
  simp only [List.getElem?_cons_succ] at hk
  have := OblH.at_ h.2 k o hk
  rwa [show i + 1 + k = i + (k + 1) by omega] at this
structure MidH (c : Cx) (l : List Oper) (s : RH) (env : Env) (D : List Atom) (listed : Array Bool) (a : Act) (w : World) (h : List Nat) : Prop where
 fr : Fr c.n a env
 st : St c.w0 c.M w (s.L h (h.map (valOf l a)))
 dh : DH D w (s.L h (h.map (valOf l a)))
 size : listed.size = l.length
 closed : ∀ i k, listed.getD i false = true → edge l k i = true → listed.getD k false = true
 slot : ∀ i d, listed.getD i false = true → dstOf l i = some d → s.ok2 i (a.tmps.getD d undef) ∧ DH (s.at_ i (a.tmps.getD d undef)) w (s.L h (h.map (valOf l a)))
 done : ∀ x, x ∈ s.effs → (listed.getD x false = true ↔ x ∈ h)
 hin : ∀ x ∈ h, listed.getD x false = true
 mem : h ∈ s.hs
section
variable {c : Cx} {l : List Oper} {s : RH} {env : Env} {D : List Atom} {Q : Exit → Act → World → Prop}
theorem MidH.frame {listed : Array Bool} {a : Act} {w : World} {h : List Nat} (m : MidH c l s env D listed a w h) (hsz : ckSize l c.n = true) {is : List Nat} (hl : ∀ k ∈ is, k < l.length) : Fr c.n a (envOf l (valOf l a) is ++ env) := by
 refine ⟨m.fr.size, m.fr.dn, fun i v hi => ?_⟩
 rcases lk_append hi with h | h
 · obtain ⟨k, hk, hd, hv⟩ := lk_envOf h
   simp only [valOf, hd] at hv
   have hkl := hl k hk
   have hlt : i < c.n := by
    have := List.all_eq_true.1 hsz (l[k]) (List.getElem_mem hkl)
    have hd' : (l[k]).dst = some i := by simpa [dstOf, List.getElem?_eq_getElem hkl] using hd
    rw [hd'] at this
    exact lt_blt this
   have : i < a.tmps.size := by rw [m.fr.size]; exact hlt
   rw [← hv]
   simp [this, slotV, hd]
 · exact m.fr.at_ _ _ h.2
theorem ok2_VV {V : Nat → Value} {k : Nat} (h : s.ok2 k (V k)) : V k = VV s.vals V k := by
 unfold VV
 simp only [RH.ok2] at h
 split at h
 · rename_i v hv; rw [hv]; exact h
 · rename_i hv; rw [hv]; rfl
theorem ok2_of {V : Nat → Value} {k : Nat} (h : s.ok2 k (V k)) (hn : s.vals k = none) : s.ok k (V k) := by
 simp only [RH.ok2, hn] at h
 exact h
theorem MidH.step (h1 : ckDeps l s.deps = true) (h2 : ckDst l env = true) (h4 : ckH l s = true) (hsz : ckSize l c.n = true) (hO : OblH c l s env D l 0)
 {listed : Array Bool} {a : Act} {w : World} {hh : List Nat} {i : Nat} (m : MidH c l s env D listed a w hh) (hr : i ∈ Region.ready .any l.toArray listed) {K : Act → World → Prop}
 (hK : ∀ a' w' h', MidH c l s env D (listed.setIfInBounds i true) a' w' h' → K a' w') : wpOp c.P l.toArray Q i K a w := by
 obtain ⟨hun, o, ho, hall⟩ := mem_ready.1 hr
 have ho : l[i]? = some o := by simpa using ho
 have hil : i < l.length := (List.getElem?_eq_some_iff.1 ho).1
 have his : i < listed.size := by rw [m.size]; exact hil
 have hun' : listed.getD i false = false := by rw [← getD_true_false his]; exact hun
 have hed : ∀ k, edge l k i = true → listed.getD k false = true := by
  intro k hk
  obtain ⟨e, he, hb, rfl⟩ := (edge_mem ho).1 hk
  exact hall e he hb
 have hnot : i ∉ hh := fun hi => by
  have := m.hin i hi
  rw [this] at hun'; cases hun'
 have hpre : ∀ x ∈ s.effs, edge l x i = true → x ∈ hh := fun x hx he => (m.done x hx).1 (hed x he)
 have hphase : hh ∈ phH l s i := by
  refine List.mem_filter.2 ⟨m.mem, ?_⟩
  simp only [Bool.and_eq_true, Bool.or_eq_true, Bool.not_eq_true', List.all_eq_true, List.contains_eq_mem, decide_eq_true_eq, decide_eq_false_iff_not]
  refine ⟨.inr hnot, fun x hx => ⟨?_, ?_⟩⟩
  · by_cases h : edge l x i = true
    · exact .inr (hpre x hx h)
    · left; simpa using h
  · by_cases h : edge l i x = true
    · right
      intro hxh
      have := m.closed x i (m.hin x hxh) h
      rw [this] at hun'; cases hun'
    · left; simpa using h
 have hdep : ∀ k ∈ s.deps i, edge l k i = true ∧ (dstOf l k).isSome = true := by
  intro k hk
  have := List.all_eq_true.1 (List.all_eq_true.1 h1 i (List.mem_range.2 hil)) k hk
  simpa using this
 have hdlt : ∀ k, (dstOf l k).isSome = true → k < l.length := by
  intro k hk
  rcases Nat.lt_or_ge k l.length with h | h
  · exact h
  · simp [dstOf, List.getElem?_eq_none h] at hk
 have hok2 : ∀ k ∈ s.deps i, s.ok2 k (valOf l a k) := fun k hk => by
  obtain ⟨d, hd⟩ := Option.isSome_iff_exists.1 (hdep k hk).2
  have := (m.slot k d (hed k (hdep k hk).1) hd).1
  simpa [valOf, slotV, hd] using this
 let J := (List.range l.length).filter fun k => listed.getD k false && (dstOf l k).isSome
 have hJ : ∀ k, k ∈ J ↔ listed.getD k false = true ∧ (dstOf l k).isSome = true := by
  intro k
  simp only [J, List.mem_filter, List.mem_range, Bool.and_eq_true]
  exact ⟨fun h => h.2, fun h => ⟨hdlt k h.2, h⟩⟩
 have hatJ : ∀ k, k ∈ J → DH (s.at_ k (valOf l a k)) w (s.L hh (hh.map (valOf l a))) := by
  intro k hk
  obtain ⟨hk1, hk2⟩ := (hJ k).1 hk
  obtain ⟨d, hd⟩ := Option.isSome_iff_exists.1 hk2
  have := (m.slot k d hk1 hd).2
  simpa [valOf, slotV, hd] using this
 have e0 : ∀ k ∈ s.deps i, valOf l a k = VV s.vals (valOf l a) k := fun k hk => ok2_VV (hok2 k hk)
 have e1 : envOf l (valOf l a) (s.deps i) = envOf l (VV s.vals (valOf l a)) (s.deps i) := envOf_congr fun k hk _ => e0 k hk
 have e2 : atsOf s.rs (valOf l a) (s.deps i) = atsOf s.rs (VV s.vals (valOf l a)) (s.deps i) := atsOf_congr e0
 have hwl := (hO.at_ i o ho (valOf l a) (atsOf s.rs (valOf l a) J) (by rw [Nat.zero_add]; exact AllP.intro fun k hk hn => ok2_of (hok2 k hk) hn))
 rw [Nat.zero_add, ← e1, ← e2] at hwl
 have hwl := hwl.mem hh hphase a w (m.frame hsz fun k hk => hdlt k (hdep k hk).2) m.st (DH.app (fun t ht => by
  obtain ⟨k, hk, ht⟩ := mem_atsOf ht
  exact hatJ k ((hJ k).2 ⟨hed k (hdep k hk).1, (hdep k hk).2⟩) t ht) (DH.app m.dh (fun t ht => by
  obtain ⟨k, hk, ht⟩ := mem_atsOf ht
  exact hatJ k hk t ht)))
 have hno : ¬ LetsOut (opPostH c l s (D ++ atsOf s.rs (valOf l a) J) i hh (hh.map (valOf l a))) := by
  rintro ⟨a', w', h⟩; cases h.1
 -- what is left once it is done
 have hfin : ∀ a' w', (∃ u, a' = a.put o.dst u) → opPostH c l s (D ++ atsOf s.rs (valOf l a) J) i hh (hh.map (valOf l a)) .normal a' w' → K a' w' := by
  rintro a' w' ⟨u, rfl⟩ ⟨_, _, hst', hdh', hslot'⟩
  have hdsts : ∀ d, o.dst = some d → keyIn env d = false ∧ ∀ k, k ≠ i → dstOf l k ≠ some d := by
   intro d hd
   have hdi : dstOf l i = some d := by simp [dstOf, ho, hd]
   have := List.all_eq_true.1 h2 i (List.mem_range.2 hil)
   rw [hdi] at this
   simp only [Bool.and_eq_true, Bool.not_eq_true'] at this
   refine ⟨this.1, fun k hk e => ?_⟩
   have hkl := hdlt k (by rw [e]; rfl)
   have := List.all_eq_true.1 this.2 k (List.mem_range.2 hkl)
   simp [e, Ne.symm hk] at this
  have hvk : ∀ k, k ≠ i → valOf l (a.put o.dst u) k = valOf l a k := by
   intro k hk
   simp only [valOf, slotV]
   cases hdk : dstOf l k with
   | none => rfl
   | some d =>
    cases hd : o.dst with
    | none => rfl
    | some d0 =>
     have hne : d0 ≠ d := by
      rintro rfl
      exact (hdsts d0 hd).2 k hk hdk
     simp [Act.put, Array.getElem?_setIfInBounds_ne hne]
  have hmap : hh.map (valOf l (a.put o.dst u)) = hh.map (valOf l a) := List.map_congr_left fun x hx => hvk x (fun e => hnot (e ▸ hx))
  let h' := if s.effs.contains i = true then hh ++ [i] else hh
  have hLn : s.L h' (h'.map (valOf l (a.put o.dst u))) = nextH s hh (hh.map (valOf l a)) i (slotV l (a.put o.dst u) i) := by
   unfold nextH
   simp only [h']
   by_cases hc : s.effs.contains i = true
   · rw [if_pos hc, if_pos hc, List.map_append, hmap]; rfl
   · rw [if_neg hc, if_neg hc, hmap]
  rw [← hLn] at hst' hdh' hslot'
  have hmem' : ∀ x, x ∈ h' ↔ x ∈ hh ∨ (x = i ∧ s.effs.contains i = true) := by
   intro x
   simp only [h']
   by_cases hc : s.effs.contains i = true
   · rw [if_pos hc]; simp only [List.mem_append, List.mem_singleton, hc, and_true]
   · rw [if_neg hc]; simp only [hc, and_false, or_false]; simp
  refine hK _ _ h' ⟨?_, hst', fun t ht => hdh' t (List.mem_append.2 (.inl ht)), by simp [m.size], ?_, ?_, ?_, ?_, ?_⟩
  · cases hd : o.dst with
    | none => exact m.fr
    | some d =>
     have hdn : d < c.n := by
      have := List.all_eq_true.1 hsz o (List.mem_of_getElem? ho)
      rw [hd] at this
      exact lt_blt this
     have f := m.fr.put u hdn
     refine ⟨f.size, f.dn, fun k v hk => f.at_ k v ?_⟩
     have hne : d ≠ k := by
      rintro rfl
      have := keyIn_of_lk hk
      rw [(hdsts d hd).1] at this; cases this
     have : (d == k) = false := by simpa using hne
     simp only [lk, this, cond_false]
     exact hk
  · intro i' k hi' hk
    rw [getD_set his] at hi' ⊢
    simp only [Bool.or_eq_true, beq_iff_eq] at hi' ⊢
    rcases hi' with rfl | hi'
    · exact .inr (hed k hk)
    · exact .inr (m.closed i' k hi' hk)
  · intro i' d hi' hd'
    rw [getD_set his] at hi'
    simp only [Bool.or_eq_true, beq_iff_eq] at hi'
    by_cases hii : i = i'
    · subst hii
      exact hslot' d hd'
    · have hi' : listed.getD i' false = true := by
       rcases hi' with h | h
       · exact absurd h hii
       · exact h
      have hval : (a.put o.dst u).tmps.getD d undef = a.tmps.getD d undef := by
       cases hd : o.dst with
       | none => rfl
       | some d0 =>
        have hne : d0 ≠ d := by
         rintro rfl
         exact (hdsts d0 hd).2 i' (Ne.symm hii) hd'
        simp [Act.put, Array.getElem?_setIfInBounds_ne hne]
      rw [hval]
      refine ⟨(m.slot i' d hi' hd').1, fun t ht => hdh' t (List.mem_append.2 (.inr (of_at (s := s.rs) (k := i') ((hJ i').2 ⟨hi', by rw [hd']; rfl⟩) ?_)))⟩
      simpa [valOf, slotV, hd'] using ht
  · intro x hx
    rw [getD_set his, hmem' x]
    simp only [Bool.or_eq_true, beq_iff_eq]
    rw [m.done x hx]
    constructor
    · rintro (rfl | h)
      · right; exact ⟨rfl, by simpa using hx⟩
      · exact .inl h
    · rintro (h | ⟨rfl, _⟩)
      · exact .inr h
      · exact .inl rfl
  · intro x hx
    rw [getD_set his]
    simp only [Bool.or_eq_true, beq_iff_eq]
    rcases (hmem' x).1 hx with h | ⟨rfl, _⟩
    · exact .inr (m.hin x h)
    · exact .inl rfl
  · simp only [h']
    by_cases hc : s.effs.contains i = true
    · rw [if_pos hc]
      simp only [ckH, Bool.and_eq_true] at h4
      have hie : i ∈ s.effs := by simpa using hc
      have := List.all_eq_true.1 (List.all_eq_true.1 h4.2 hh m.mem) i hie
      simp only [Bool.or_eq_true, Bool.not_eq_true'] at this
      rcases this with (h | h) | h
      · exact absurd (by simpa using h) hnot
      · exfalso
        rw [← Bool.not_eq_true, List.all_eq_true] at h
        refine h fun x hx => ?_
        simp only [Bool.or_eq_true, Bool.not_eq_true']
        by_cases he : edge l x i = true
        · right; simpa using hpre x hx he
        · left; simpa using he
      · simpa using h
    · rw [if_neg hc]; exact m.mem
 unfold wpOp
 have ho' : l.toArray[i]? = some o := by simpa using ho
 simp only [ho']
 unfold wpList at hwl
 by_cases hw : Region.wanted o (yielded l.toArray a.tmps) = true
 · rw [if_pos hw] at hwl ⊢
   refine .inl (upon_up (Q := opPostH c l s (D ++ atsOf s.rs (valOf l a) J) i hh (hh.map (valOf l a))) (fun _ _ _ h => by cases h.1) hno ?_)
   rcases hwl with h | h
   · -- the frame behind it is the one before, with a value put
     have key : ∀ {r : Result Next}, o.upon c.P a (opPostH c l s (D ++ atsOf s.rs (valOf l a) J) i hh (hh.map (valOf l a)) .normal) (opPostH c l s (D ++ atsOf s.rs (valOf l a) J) i hh (hh.map (valOf l a))) r → o.upon c.P a K (opPostH c l s (D ++ atsOf s.rs (valOf l a) J) i hh (hh.map (valOf l a))) r := by
      intro r h
      cases r with
      | ok n w' =>
       cases n <;> simp only [Oper.upon] at h ⊢ <;> try exact h
       · exact hfin _ _ ⟨_, rfl⟩ h
       · exact hfin _ _ ⟨_, rfl⟩ h
       · exact Calls.mono h fun e w'' he => by
          cases e with
          | returned v => exact hfin _ _ ⟨_, rfl⟩ he
          | panicked ch => exact he
          | outgrown => exact he
       · have hd := h.2.1
         cases hdst : o.dst <;> simp [hdst, Act.put] at hd
       · exact Rows.mono h fun _ _ he => hfin _ _ ⟨_, rfl⟩ he
      | halt x w' => cases x <;> simp only [Oper.upon] at h ⊢ <;> exact h
     exact key h
   · exact absurd h.2 hno
 · rw [if_neg hw] at hwl ⊢
   exact hfin _ _ ⟨undef, rfl⟩ hwl
theorem MidH.all (h1 : ckDeps l s.deps = true) (h2 : ckDst l env = true) (h4 : ckH l s = true) (h5 : ckBack l = true) (hsz : ckSize l c.n = true) (hO : OblH c l s env D l 0)
 (hK : ∀ a w h, h ∈ fullH s → MidH c l s env D (Array.replicate l.length true) a w h → Q .normal a w) :
 ∀ (fuel : Nat) (listed : Array Bool) (a : Act) (w : World) (h : List Nat), MidH c l s env D listed a w h → (List.range l.length).countP (fun i => !listed.getD i false) ≤ fuel → wpAny c.P .any l.toArray Q fuel listed a w := by
 have hfin : ∀ (listed : Array Bool) (a : Act) (w : World) (h : List Nat), MidH c l s env D listed a w h → Region.ready .any l.toArray listed = [] → Q .normal a w := by
  intro listed a w h m hr
  have hall : ∀ i, i < l.length → listed.getD i false = true := by
   intro i
   induction i using Nat.strongRecOn with
   | _ i ih =>
    intro hi
    cases hli : listed.getD i false with
    | true => rfl
    | false =>
     exfalso
     have : i ∈ Region.ready .any l.toArray listed := by
      refine mem_ready.2 ⟨by rw [getD_true_false (by rw [m.size]; exact hi)]; exact hli, l[i], by simp [List.getElem?_eq_getElem hi], fun e he hb => ?_⟩
      have hbk := List.all_eq_true.1 h5 i (List.mem_range.2 hi)
      rw [List.getElem?_eq_getElem hi] at hbk
      have := List.all_eq_true.1 hbk e (Array.mem_toList_iff.2 he)
      rw [hb] at this
      have hlt := lt_blt (by simpa using this)
      exact ih e.on hlt (by omega)
     rw [hr] at this
     cases this
  have heq : listed = Array.replicate l.length true := by
   apply Array.ext
   · simp [m.size]
   · intro i h1 h2
     have := hall i (by rw [m.size] at h1; exact h1)
     simp [h1] at this
     simp [this]
  have hf : h ∈ fullH s := by
   refine List.mem_filter.2 ⟨m.mem, List.all_eq_true.2 fun x hx => ?_⟩
   simp only [ckH, Bool.and_eq_true] at h4
   have := List.all_eq_true.1 h4.1.2 x hx
   simpa using (m.done x hx).1 (hall x (lt_blt this))
  subst heq
  exact hK a w h hf m
 intro fuel
 induction fuel with
 | zero =>
  intro listed a w h m hc0
  have hr : Region.ready .any l.toArray listed = [] := by
   apply List.eq_nil_iff_forall_not_mem.2
   intro i hi
   obtain ⟨hun, o, ho, _⟩ := mem_ready.1 hi
   have hil : i < l.length := by
    have := (Array.getElem?_eq_some_iff.1 ho).1
    simpa using this
   have hun' : listed.getD i false = false := by rw [← getD_true_false (by rw [m.size]; exact hil)]; exact hun
   have h0 : (List.range l.length).countP (fun i => !listed.getD i false) = 0 := by omega
   have := List.countP_eq_zero.1 h0 i (List.mem_range.2 hil)
   simp [hun'] at this
  exact ⟨hr, hfin _ _ _ _ m hr⟩
 | succ fuel ih =>
  intro listed a w h m hc0
  refine ⟨fun hr => hfin _ _ _ _ m hr, fun i hi => ?_⟩
  refine m.step h1 h2 h4 hsz hO hi fun a' w' h' m' => ih _ a' w' h' m' ?_
  obtain ⟨hun, o, ho, _⟩ := mem_ready.1 hi
  have hil : i < l.length := by
   have := (Array.getElem?_eq_some_iff.1 ho).1
   simpa using this
  have his : i < listed.size := by rw [m.size]; exact hil
  have hun' : listed.getD i false = false := by rw [← getD_true_false his]; exact hun
  have : (List.range l.length).countP (fun k => !(listed.setIfInBounds i true).getD k false) < (List.range l.length).countP (fun k => !listed.getD k false) := by
   refine countP_lt (fun k _ hk => ?_) ⟨i, List.mem_range.2 hil, by rw [hun']; rfl, ?_⟩
   · rw [getD_set his] at hk
     simp only [Bool.not_eq_true', Bool.or_eq_false_iff] at hk
     rw [hk.2]; rfl
   · rw [getD_set his]; simp
  omega
theorem rgH {id : Nat} (s : RH) (Le : (Nat → Value) → Own) (hm : c.P.follows .mixedOrders = true) (hok : rhOk l env s c.n = true) {L : Own} (hL : s.L [] [] = L) (hE : AllP (fun h => ∀ V : Nat → Value, s.L h (h.map V) = Le V) (fullH s)) (hO : OblH c l s env D l 0)
 (k : ∀ V : Nat → Value, AllP (fun i => (dstOf l i).isSome = true → s.vals i = none → s.ok i (V i)) (List.range l.length) → WQ c Q .normal (envOf l (VV s.vals V) (List.range l.length) ++ env) (Le V) (atsOf s.rs (VV s.vals V) ((List.range l.length).filter fun i => (dstOf l i).isSome) ++ D)) : WC c (.region id l.toArray true) Q env L D := by
 intro a w f st dh
 simp only [rhOk, Bool.and_eq_true] at hok
 obtain ⟨⟨⟨⟨h1, h2⟩, h5⟩, hsz⟩, h4⟩ := hok
 subst hL
 refine wp_region_any hm ?_
 have hs := Stp.drew [] w
 have m0 : MidH c l s env D (Array.replicate l.length false) a w.drew [] := by
  refine ⟨f, st.step hs, dh.step hs.nil, by simp, fun i k h _ => ?_, fun i d h _ => ?_, fun x _ => ?_, fun x hx => (by cases hx), ?_⟩
  · rw [getD_rep] at h; cases h
  · rw [getD_rep] at h; cases h
  · rw [getD_rep]; simp
  · simp only [ckH, Bool.and_eq_true] at h4
    simpa using h4.1.1
 have := MidH.all (Q := Q) h1 h2 h4 h5 hsz hO ?_ l.length (Array.replicate l.length false) a w.drew [] m0 (by
  have := List.countP_le_length (p := fun i => !(Array.replicate l.length false).getD i false) (l := List.range l.length)
  simpa using this)
 · simpa using this
 · intro a' w' h hf m
   have hin : ∀ i, (dstOf l i).isSome = true → (Array.replicate l.length true).getD i false = true := by
    intro i hi
    have : i < l.length := by
     rcases Nat.lt_or_ge i l.length with h | h
     · exact h
     · simp [dstOf, List.getElem?_eq_none h] at hi
    simp [this]
   have hp := hE.mem h hf (valOf l a')
   have hst := m.st
   have hdh := m.dh
   have hsl := m.slot
   rw [hp] at hst hdh hsl
   have hok2 : ∀ k, (dstOf l k).isSome = true → s.ok2 k (valOf l a' k) := fun k hk => by
    obtain ⟨d, hd⟩ := Option.isSome_iff_exists.1 hk
    have := (hsl k d (hin k hk) hd).1
    simpa [valOf, slotV, hd] using this
   have e1 : envOf l (valOf l a') (List.range l.length) = envOf l (VV s.vals (valOf l a')) (List.range l.length) := envOf_congr fun k _ hd => ok2_VV (hok2 k hd)
   have e2 : atsOf s.rs (valOf l a') ((List.range l.length).filter fun i => (dstOf l i).isSome) = atsOf s.rs (VV s.vals (valOf l a')) ((List.range l.length).filter fun i => (dstOf l i).isSome) := atsOf_congr fun k hk => ok2_VV (hok2 k (by simpa using (List.mem_filter.1 hk).2))
   have hk := k (valOf l a') (AllP.intro fun i _ hd hn => ok2_of (hok2 i hd) hn)
   rw [← e1, ← e2] at hk
   refine hk a' w' (m.frame hsz fun k hk => List.mem_range.1 hk) hst (DH.app (fun t ht => ?_) hdh)
   obtain ⟨i, hi, ht⟩ := mem_atsOf ht
   have hd := (List.mem_filter.1 hi).2
   obtain ⟨d, hd⟩ := Option.isSome_iff_exists.1 hd
   have := (hsl i d (hin i (by rw [hd]; rfl)) hd).2
   simp only [valOf, slotV, hd] at ht
   exact this t ht
theorem odH {i : Nat} {h : List Nat} {vs : List Value} {env' : Env} {L' : Own} {D' De : List Atom} {d : Nat} {u : Value} (hd : dstOf l i = some d) (hv : lk env' d = some u) (hL : L' = nextH s h vs i u) (hok : s.ok2 i u) (hat : SubD (s.at_ i u) D') (hD : SubD De D') :
 WQ c (opPostH c l s De i h vs) .normal env' L' D' := by
 intro a w f st dh
 have e : a.tmps.getD d undef = u := by
  have := f.at_ d u hv
  simp [this]
 have e2 : slotV l a i = u := by simp only [slotV, hd, e]
 subst hL
 refine ⟨rfl, f.dn, by rw [e2]; exact st, by rw [e2]; exact dh.sub hD, fun d' hd' => ?_⟩
 rw [hd] at hd'
 injection hd' with hd'
 subst hd'
 rw [e, e2]
 exact ⟨hok, dh.sub hat⟩
theorem od0H {i : Nat} {h : List Nat} {vs : List Value} {env' : Env} {L' : Own} {D' De : List Atom} (hd : dstOf l i = none) (hL : L' = nextH s h vs i undef) (hD : SubD De D') :
 WQ c (opPostH c l s De i h vs) .normal env' L' D' := by
 intro a w f st dh
 have e2 : slotV l a i = undef := by simp only [slotV, hd]
 subst hL
 refine ⟨rfl, f.dn, by rw [e2]; exact st, by rw [e2]; exact dh.sub hD, fun d' hd' => ?_⟩
 rw [hd] at hd'
 cases hd'
end
end
section
universe u₀
theorem G {α : Sort u₀} {a : α} : a = a := rfl
theorem Sn {D : List Atom} : SubD [] D := SubD.nil
theorem Sr {D : List Atom} : SubD D D := SubD.refl
theorem Sc {D As : List Atom} {t : Atom} (i : Nat) (hi : D[i]? = some t) (h : SubD As D) : SubD (t :: As) D := SubD.cons i hi h
section
variable {α : Type} {q : α → Prop} {a b c d e f : α}
theorem aP1 (h1 : q a) : AllP q [a] := ⟨h1, trivial⟩
theorem aP2 (h1 : q a) (h2 : q b) : AllP q [a, b] := ⟨h1, h2, trivial⟩
theorem aP3 (h1 : q a) (h2 : q b) (h3 : q c) : AllP q [a, b, c] := ⟨h1, h2, h3, trivial⟩
theorem aP4 (h1 : q a) (h2 : q b) (h3 : q c) (h4 : q d) : AllP q [a, b, c, d] := ⟨h1, h2, h3, h4, trivial⟩
theorem aP5 (h1 : q a) (h2 : q b) (h3 : q c) (h4 : q d) (h5 : q e) : AllP q [a, b, c, d, e] := ⟨h1, h2, h3, h4, h5, trivial⟩
theorem aP6 (h1 : q a) (h2 : q b) (h3 : q c) (h4 : q d) (h5 : q e) (h6 : q f) : AllP q [a, b, c, d, e, f] := ⟨h1, h2, h3, h4, h5, h6, trivial⟩
end
section
variable {c : Cx} {l : List Oper} {ops : Array Oper} {env : Env} {L' : Own} {D : List Atom} {i d : Nat} {u : Value}
theorem oa {s : RS} {vs : List Value} (hd : dstOf l i = some d) (hL : L' = nextL s vs i u) (hok : s.ok i u) (hat : s.at_ i u = []) : WL (opPost c l s D i vs) c ops [] ((d, u) :: env) L' D :=
 nl (od hd (by simp [lk]) hL hok (by rw [hat]; exact SubD.nil) SubD.refl)
theorem oh {s : RH} {h : List Nat} {vs : List Value} (hd : dstOf l i = some d) (hL : L' = nextH s h vs i u) (hok : s.ok2 i u) (hat : s.at_ i u = []) : WL (opPostH c l s D i h vs) c ops [] ((d, u) :: env) L' D :=
 nl (odH hd (by simp [lk]) hL hok (by rw [hat]; exact SubD.nil) SubD.refl)
theorem oh0 {s : RH} {h : List Nat} {vs : List Value} (hd : dstOf l i = none) (hL : L' = nextH s h vs i undef) : WL (opPostH c l s D i h vs) c ops [] env L' D :=
 nl (od0H hd hL SubD.refl)
end
end
@[reducible] def zv0 : List Value := [.int .i64 0, .int .i64 0, .int .i64 0, .int .i64 0]
@[reducible] def zv1 : List Value := [.int .i64 0, .int .i64 0]
@[reducible] def zv2 : List Value := [.int .i64 0, .int .i64 0, .string ByteArray.empty, .string ByteArray.empty, .int .i64 0, .int .i64 0, .int .i64 0, .int .i64 0]
@[reducible] def zv3 : List Value := [.int .i64 0, .int .i64 0, .bool false, .int .i64 0, .int .i64 0, .int .i64 0, .int .i64 0]
@[reducible] def zv4 : List Value := [.int .i64 0, .int .i64 0, .int .i64 0, .int .i64 0, .int .i64 0, .int .i64 0, .string ByteArray.empty, .string ByteArray.empty, .int .i64 0, .int .i64 0, .int .i64 0]
@[reducible] def zv5 : List Value := [.string ByteArray.empty, .int .i64 0, .int .i64 0, .int .i64 0, .int .i64 0, .slice none 0 0, .int .i64 0, .int .i64 0, .int .i64 0, .int .i64 0]
@[reducible] def zv6 : List Value := [.int .i64 0, .int .i64 0, .bool false, .string ByteArray.empty, .string ByteArray.empty, .int .i64 0, .slice none 0 0, .slice none 0 0, .slice none 0 0, .slice none 0 0, .slice none 0 0, .int .i64 0, .int .i64 0, .int .i64 0, .string ByteArray.empty, .string ByteArray.empty, .int .i64 0, .int .i64 0, .int .i64 0, .int .i64 0, .int .i64 0, .string ByteArray.empty, .string ByteArray.empty, .int .i64 0, .int .i64 0, .slice none 0 0, .int .i64 0, .int .i64 0, .int .i64 0]
@[reducible] def zv7 : List Value := [.int .i64 0, .int .u64 0]
@[reducible] def zv8 : List Value := [.int .i64 0, .string ByteArray.empty, .string ByteArray.empty, .int .i64 0, .int .i64 0, .int .i64 0]
@[reducible] def zv9 : List Value := [.int .i64 0, .int .i64 0, .int .i64 0, .int .i64 0, .int .i64 0, .int .i64 0, .string ByteArray.empty, .int .i64 0, .int .i64 0, .int .i64 0, .bool false, .int .i64 0, .string ByteArray.empty, .string ByteArray.empty, .int .i64 0, .int .i64 0, .int .i64 0, .int .i64 0, .int .i64 0, .int .i64 0, .string ByteArray.empty, .string ByteArray.empty, .int .i64 0, .int .i64 0, .slice none 0 0]
@[reducible] def zv10 : List Value := [.int .i64 0, .string ByteArray.empty, .int .i64 0]
@[reducible] def zv11 : List Value := [.int .i64 0, .int .i64 0, .int .i64 0, .slice none 0 0, .int .i64 0, .int .i64 0, .int .i64 0, .int .i64 0, .int .i64 0, .string ByteArray.empty, .string ByteArray.empty, .int .i64 0, .int .i64 0, .slice none 0 0, .slice none 0 0, .slice none 0 0, .slice none 0 0]
theorem Si {D As : List Atom} (l : List Nat) (h : l.map (fun i => D[i]?) = As.map some) : SubD As D := by
  induction As generalizing l with
  | nil => exact SubD.nil
  | cons a r ih =>
    cases l with
    | nil => cases h
    | cons i l =>
      simp only [List.map_cons, List.cons.injEq] at h
      exact SubD.cons i h.1 (ih l h.2)
theorem Gs {l env : Env} (h : l.map (fun p => lk env p.1) = l.map (fun p => some p.2)) : Sub l env := by
  induction l with
  | nil => trivial
  | cons p r ih =>
    simp only [List.map_cons, List.cons.injEq] at h
    exact ⟨h.1, ih h.2⟩
theorem aP7 {α : Type} {q : α → Prop} {a b c d e f g : α} (h1 : q a) (h2 : q b) (h3 : q c) (h4 : q d) (h5 : q e) (h6 : q f) (h7 : q g) : AllP q [a, b, c, d, e, f, g] := ⟨h1, h2, h3, h4, h5, h6, h7, trivial⟩
theorem aP8 {α : Type} {q : α → Prop} {a b c d e f g h : α} (h1 : q a) (h2 : q b) (h3 : q c) (h4 : q d) (h5 : q e) (h6 : q f) (h7 : q g) (h8 : q h) : AllP q [a, b, c, d, e, f, g, h] := ⟨h1, h2, h3, h4, h5, h6, h7, h8, trivial⟩
theorem Eb0 : ByteArray.empty.size ≤ 9223372036854775807 := by decide
@[reducible] def nS : Value := .slice none 0 0
section
def Flds (P : Program) (T : TypeId) (offs : List Nat) : Prop := ∃ fs : Array Field, P.underlying T = some (.struct fs) ∧ (fs.toList.map fun f => ((P.info? f.type).map (fun j => j.size == 0), f.offset)) = offs.map (fun o => (some false, o))
theorem Flds.at_ {P : Program} {T : TypeId} {offs : List Nat} (h : Flds P T offs) {i off : Nat} (hi : offs[i]? = some off) : FieldAt P T i off := by
 obtain ⟨fs, hu, he⟩ := h
 have h1 : (offs.map (fun o => ((some false : Option Bool), o)))[i]? = some (some false, off) := by simp [hi]
 rw [← he, List.getElem?_map] at h1
 obtain ⟨f, hf, h2⟩ := Option.map_eq_some_iff.1 h1
 simp only [Prod.mk.injEq] at h2
 exact FieldAt.mk hu (f := f) (by simpa using hf) h2.1 h2.2
def AllF (P : Program) : List (Nat × List Nat) → Prop
 | [] => True
 | p :: r => Flds P p.1 p.2 ∧ AllF P r
def AllO (P : Program) : List Nat → Prop
 | [] => True
 | T :: r => OneTy P T ∧ AllO P r
def AllR (P : Program) : List (Nat × Nat) → Prop
 | [] => True
 | p :: r => RowTy P p.1 p.2 ∧ AllR P r
class Ft (P : Program) where
 fs : List (Nat × List Nat)
 os : List Nat
 rs : List (Nat × Nat)
 okF : AllF P fs
 okO : AllO P os
 okR : AllR P rs
 okM : P.follows .mixedOrders = true
def fo : List (Nat × List Nat) → Nat → Nat → Option Nat
 | [], _, _ => none
 | (T, l) :: r, s, i => bif T == s then l[i]? else fo r s i
def ho : List Nat → Nat → Bool
 | [], _ => false
 | T :: r, s => bif T == s then true else ho r s
def ro : List (Nat × Nat) → Nat → Option Nat
 | [], _ => none
 | (T, n) :: r, s => bif T == s then some n else ro r s
theorem ro_ok {P : Program} {s n : Nat} : ∀ {l : List (Nat × Nat)}, AllR P l → ro l s = some n → RowTy P s n
 | [], _, h => by cases h
 | (T, m) :: r, hl, h => by
  simp only [ro] at h
  by_cases hT : T = s
  · subst hT
    simp at h
    subst h
    exact hl.1
  · have : (T == s) = false := by simpa using hT
    rw [this] at h
    exact ro_ok hl.2 h
theorem fo_ok {P : Program} {s i off : Nat} : ∀ {l : List (Nat × List Nat)}, AllF P l → fo l s i = some off → FieldAt P s i off
 | [], _, h => by cases h
 | (T, l) :: r, hl, h => by
  simp only [fo] at h
  by_cases hT : T = s
  · subst hT
    simp at h
    exact hl.1.at_ h
  · have : (T == s) = false := by simpa using hT
    rw [this] at h
    exact fo_ok hl.2 h
theorem ho_ok {P : Program} {s : Nat} : ∀ {l : List Nat}, AllO P l → ho l s = true → OneTy P s
 | [], _, h => by cases h
 | T :: r, hl, h => by
  simp only [ho] at h
  by_cases hT : T = s
  · subst hT
    exact hl.1
  · have : (T == s) = false := by simpa using hT
    rw [this] at h
    exact ho_ok hl.2 h
def gval (ops : Array Oper) (env : Env) (j : Nat) (b : Bool) : Option Bool := match ops[j]? with
 | some o => match o.dst with
  | some d => match lk env d with
   | some (.bool b') => some (b' == b)
   | some (.tuple _) => some false
   | _ => none
  | none => none
 | none => none
def bo : BinOp → Value → Value → Option Value
 | .lss, .int q m, .int q' n => if q = q' then some (.bool (decide (m < n))) else none
 | .leq, .int q m, .int q' n => if q = q' then some (.bool (decide (m ≤ n))) else none
 | .gtr, .int q m, .int q' n => if q = q' then some (.bool (decide (n < m))) else none
 | .geq, .int q m, .int q' n => if q = q' then some (.bool (decide (n ≤ m))) else none
 | .eql, .int q m, .int q' n => if q = q' then some (.bool (decide (m = n))) else none
 | .neq, .int q m, .int q' n => if q = q' then some (.bool (!decide (m = n))) else none
 | .eql, .string s, .string s' => some (.bool (decide (s = s')))
 | .neq, .string s, .string s' => some (.bool (!decide (s = s')))
 | _, _, _ => none
def pv (fs : List (Nat × List Nat)) (env : Env) : Op → Option Value
 | .move x => ev env x
 | .assign x => ev env x
 | .nilCheck x => match ev env x with
  | some (.pointer (some a)) => some (.pointer (some a))
  | _ => none
 | .extract x i => match ev env x with
  | some (.tuple vs) => vs[i]?
  | _ => none
 | .pick x y z => match ev env x with
  | some (.bool true) => ev env y
  | some (.bool false) => ev env z
  | _ => none
 | .unOp .not _ x => match ev env x with
  | some (.bool b) => some (.bool (!b))
  | _ => none
 | .fieldAddr s x i => match ev env x with
  | some (.pointer (some ⟨b, o, none⟩)) => match fo fs s i with
   | some off => some (.pointer (some ⟨b, o + off, none⟩))
   | none => none
  | _ => none
 | .binOp op _ x y _ => match ev env x with
  | some u => match ev env y with
   | some v => bo op u v
   | none => none
  | none => none
 | _ => none
def pl (fs : List (Nat × List Nat)) (os : List Nat) (L : Own) (env : Env) (h : List Nat) : Op → Option (Value × List Nat × List (OwnE × OwnE))
 | .load E x => match h with
  | i :: h' => match ev env x with
   | some (.pointer (some ⟨b, o, none⟩)) => match L[i]? with
    | some q => match q.cs[o]? with
     | some v => bif ho os E then some (v, h', [(q, bl b q.ty q.cs)]) else none
     | none => none
    | none => none
   | _ => none
  | [] => none
 | op => match pv fs env op with
  | some v => some (v, h, [])
  | none => none
def run (n : Nat) (fs : List (Nat × List Nat)) (os : List Nat) (ops : Array Oper) (L : Own) : Nat → List Nat → List Oper → Env → Option (List Oper × Env × List (OwnE × OwnE))
 | 0, _, l, env => some (l, env, [])
 | _ + 1, _, [], _ => none
 | k + 1, h, o :: r, env => match o.dst with
  | none => none
  | some d => bif Nat.blt d n then (match (match o.guard with
   | none => some true
   | some (j, b) => gval ops env j b) with
   | some true => match pl fs os L env h o.op with
    | some (v, h', a) => match run n fs os ops L k h' r ((d, v) :: env) with
     | some (r', e', b) => some (r', e', a ++ b)
     | none => none
    | none => none
   | some false => run n fs os ops L k h r ((d, undef) :: env)
   | none => none) else none
section
variable {c : Cx} {ops : Array Oper} {J : Cx → Array Oper → List Oper → Env → Own → List Atom → Prop} [iJ : IsJ J] {env env' : Env} {L : Own} {D : List Atom} {rest l l' : List Oper} {d : Nat} {v : Value} {t : TypeId} {p : String} {af : Array Edge}
include iJ
theorem pv_ok {fs : List (Nat × List Nat)} (hf : AllF c.P fs) {op : Op} (h : pv fs env op = some v) (hn : Nat.blt d c.n = true) (k : J c ops rest ((d, v) :: env) L D) : J c ops (⟨some d, op, t, p, af, none⟩ :: rest) env L D := by
 cases op <;> simp only [pv, reduceCtorEq] at h
 case move x => exact mv h hn k
 case assign x => exact asg h hn k
 case nilCheck x =>
  split at h
  · rename_i a ha
    injection h with h; subst h
    exact nc ha hn k
  · cases h
 case extract x i =>
  split at h
  · rename_i vs hx
    exact xt hx h hn k
  · cases h
 case pick x y z =>
  split at h
  · rename_i hx; exact pkT hx h hn k
  · rename_i hx; exact pkF hx h hn k
  · cases h
 case unOp o ty x =>
  cases o <;> simp only [pv, reduceCtorEq] at h
  split at h
  · rename_i b hx
    injection h with h; subst h
    exact nt hx hn k
  · cases h
 case fieldAddr s x i =>
  split at h
  · rename_i b o hx
    split at h
    · rename_i off ho
      injection h with h; subst h
      exact fa hx (fo_ok hf ho) hn k
    · cases h
  · cases h
 case binOp op xt' x y yt =>
  split at h
  · rename_i u hx
    split at h
    · rename_i u' hy
      unfold bo at h
      split at h
      · split at h
        · rename_i hq; subst hq; injection h with h; subst h; exact ltI hx hy hn k
        · cases h
      · split at h
        · rename_i hq; subst hq; injection h with h; subst h; exact leI hx hy hn k
        · cases h
      · split at h
        · rename_i hq; subst hq; injection h with h; subst h; exact gtI hx hy hn k
        · cases h
      · split at h
        · rename_i hq; subst hq; injection h with h; subst h; exact geI hx hy hn k
        · cases h
      · split at h
        · rename_i hq; subst hq; injection h with h; subst h; exact eqI hx hy hn k
        · cases h
      · split at h
        · rename_i hq; subst hq; injection h with h; subst h; exact neI hx hy hn k
        · cases h
      · injection h with h; subst h; exact eqS hx hy hn k
      · injection h with h; subst h; exact neS hx hy hn k
      · cases h
    · cases h
  · cases h
theorem pl_ok {fs : List (Nat × List Nat)} {os : List Nat} (hf : AllF c.P fs) (ho' : AllO c.P os) {op : Op} {hs hs' : List Nat} {a : List (OwnE × OwnE)} (h : pl fs os L env hs op = some (v, hs', a)) (ha : a.map Prod.fst = a.map Prod.snd) (hn : Nat.blt d c.n = true) (k : J c ops rest ((d, v) :: env) L D) : J c ops (⟨some d, op, t, p, af, none⟩ :: rest) env L D := by
 unfold pl at h
 split at h
 · split at h
   · split at h
     · rename_i b o hx
       split at h
       · rename_i q hq
         split at h
         · rename_i v' hv
           cases hO : ho os _ with
           | false => rw [hO] at h; cases h
           | true =>
            rw [hO] at h
            simp only [cond_true, Option.some.injEq, Prod.mk.injEq] at h
            obtain ⟨rfl, rfl, rfl⟩ := h
            simp only [List.map_cons, List.map_nil, List.cons.injEq, and_true] at ha
            exact ldB _ hx (hq.trans (congrArg some ha)) (ho_ok ho' hO) hv hn k
         · cases h
       · cases h
     · cases h
   · cases h
 · split at h
   · rename_i v' hv
     simp only [Option.some.injEq, Prod.mk.injEq] at h
     obtain ⟨rfl, rfl, rfl⟩ := h
     exact pv_ok hf hv hn k
   · cases h
theorem gv_ok {dst : Option Tmp} {op : Op} {j : Nat} {b : Bool} (h : gval ops env j b = some true) (k : J c ops (⟨dst, op, t, p, af, none⟩ :: rest) env L D) : J c ops (⟨dst, op, t, p, af, some (j, b)⟩ :: rest) env L D := by
 unfold gval at h
 split at h
 · rename_i oj hj
   split at h
   · rename_i dj hdj
     split at h
     · rename_i b' hb
       simp only [Option.some.injEq, beq_iff_eq] at h
       subst h
       exact gY hj hdj hb k
     · cases h
     · cases h
   · cases h
 · cases h
theorem gn_ok {op : Op} {j : Nat} {b : Bool} (h : gval ops env j b = some false) (hn : Nat.blt d c.n = true) (k : J c ops rest ((d, undef) :: env) L D) : J c ops (⟨some d, op, t, p, af, some (j, b)⟩ :: rest) env L D := by
 unfold gval at h
 split at h
 · rename_i oj hj
   split at h
   · rename_i dj hdj
     split at h
     · rename_i b' hb
       simp only [Option.some.injEq] at h
       exact gN hj hdj hb h hn k
     · rename_i ts hb
       exact iJ.wantN (fun a w f st dh => by
        have := f.at_ _ _ hb
        exact ⟨by simp [Region.wanted, yielded, hj, hdj, this], f.put undef (lt_blt hn)⟩) k
     · cases h
   · cases h
 · cases h
theorem run_ok {fs : List (Nat × List Nat)} {os : List Nat} (hf : AllF c.P fs) (ho' : AllO c.P os) : ∀ (n : Nat) {hs : List Nat} {l : List Oper} {env : Env} {a : List (OwnE × OwnE)}, run c.n fs os ops L n hs l env = some (l', env', a) → a.map Prod.fst = a.map Prod.snd → J c ops l' env' L D → J c ops l env L D
 | 0, hs, l, env, a, h, ha, k => by
  simp only [run, Option.some.injEq, Prod.mk.injEq] at h
  obtain ⟨rfl, rfl, rfl⟩ := h
  exact k
 | n + 1, hs, [], env, a, h, ha, k => by simp [run] at h
 | n + 1, hs, o :: r, env, a, h, ha, k => by
  have ih : ∀ {hs : List Nat} {l : List Oper} {env : Env} {a : List (OwnE × OwnE)}, run c.n fs os ops L n hs l env = some (l', env', a) → a.map Prod.fst = a.map Prod.snd → J c ops l env L D := fun h ha => run_ok hf ho' n h ha k
  obtain ⟨dst, op, t, p, af, g⟩ := o
  cases dst with
  | none => simp [run] at h
  | some d =>
   simp only [run] at h
   cases hn : Nat.blt d c.n with
   | false => rw [hn] at h; cases h
   | true =>
    rw [hn] at h
    simp only [cond_true] at h
    split at h
    · rename_i hg
      split at h
      · rename_i v h' a1 hv
        split at h
        · rename_i r' e' b hr
          simp only [Option.some.injEq, Prod.mk.injEq] at h
          obtain ⟨rfl, rfl, rfl⟩ := h
          simp only [List.map_append] at ha
          have hl := List.append_inj ha (by simp)
          have kk := pl_ok (t := t) (p := p) (af := af) hf ho' hv hl.1 hn (ih hr hl.2)
          cases g with
          | none => exact kk
          | some g => exact gv_ok hg kk
        · cases h
      · cases h
    · rename_i hg
      have kk := ih h ha
      cases g with
      | none => cases hg
      | some g => exact gn_ok hg hn kk
    · cases h
theorem ru [ft : Ft c.P] (n : Nat) (h : run c.n ft.fs ft.os ops L n [] l env = some (l', env', [])) (k : J c ops l' env' L D) : J c ops l env L D := run_ok ft.okF ft.okO n h rfl k
theorem rl [ft : Ft c.P] (n : Nat) (hs : List Nat) {a : List (OwnE × OwnE)} (h : run c.n ft.fs ft.os ops L n hs l env = some (l', env', a)) (ha : a.map Prod.fst = a.map Prod.snd) (k : J c ops l' env' L D) : J c ops l env L D := run_ok ft.okF ft.okO n h ha k
end
end
section
def res : List Nat → Env → Option Env
 | [], _ => some []
 | i :: r, env => match lk env i with
  | some v => match res r env with
   | some e => some ((i, v) :: e)
   | none => none
  | none => none
theorem res_sub : ∀ {ss : List Nat} {env e : Env}, res ss env = some e → Sub e env
 | [], env, e, h => by
  simp only [res, Option.some.injEq] at h
  subst h
  trivial
 | i :: r, env, e, h => by
  simp only [res] at h
  split at h
  · rename_i v hv
    split at h
    · rename_i e' he
      injection h with h
      subst h
      exact ⟨hv, res_sub he⟩
    · cases h
  · cases h
section
variable {c : Cx} {ops : Array Oper} {J : Cx → Array Oper → List Oper → Env → Own → List Atom → Prop} [iJ : IsJ J] {env env0 env1 env2 : Env} {L : Own} {D : List Atom} {l rest : List Oper} {d : Nat} {t u : Bool} {a : List (OwnE × OwnE)}
include iJ
theorem ja [ft : Ft c.P] (i n : Nat) (hs ss : List Nat)
 (h : (lk env i, run c.n ft.fs ft.os ops L n hs l ((i, .bool true) :: env), run c.n ft.fs ft.os ops L n [] l ((i, .bool false) :: env)) = (some (.bool t), some (rest, (d, .bool u) :: env1, a), some (rest, (d, .bool false) :: env2, [])))
 (ha : a.map Prod.fst = a.map Prod.snd) (he : (res ss env1, res ss env2) = (some env0, some env0)) (K : J c ops rest ((d, .bool (t && u)) :: env0) L D) : J c ops l env L D := by
 simp only [Prod.mk.injEq] at h he
 exact spA h.1 (fun ht => run_ok ft.okF ft.okO n h.2.1 ha (jA K ht (res_sub he.1) SubD.refl)) (fun ht => run_ok ft.okF ft.okO n h.2.2 rfl (jA0 K ht (res_sub he.2) SubD.refl))
theorem jb [ft : Ft c.P] (i n : Nat) (hs ss : List Nat)
 (h : (lk env i, run c.n ft.fs ft.os ops L n hs l ((i, .bool false) :: env), run c.n ft.fs ft.os ops L n [] l ((i, .bool true) :: env)) = (some (.bool t), some (rest, (d, .bool u) :: env1, a), some (rest, (d, .bool true) :: env2, [])))
 (ha : a.map Prod.fst = a.map Prod.snd) (he : (res ss env1, res ss env2) = (some env0, some env0)) (K : J c ops rest ((d, .bool (t || u)) :: env0) L D) : J c ops l env L D := by
 simp only [Prod.mk.injEq] at h he
 exact spO h.1 (fun ht => run_ok ft.okF ft.okO n h.2.1 ha (jR K ht (res_sub he.1) SubD.refl)) (fun ht => run_ok ft.okF ft.okO n h.2.2 rfl (jR0 K ht (res_sub he.2) SubD.refl))
end
section
variable {c : Cx} {Q Q' : Exit → Act → World → Prop} {env env' : Env} {L : Own} {D : List Atom} {l : List Oper} {y : Code} {id : Nat} {a : List (OwnE × OwnE)}
theorem ra [ft : Ft c.P] (n : Nat) (h : run c.n ft.fs ft.os l.toArray L n [] l env = some ([], env', [])) (k : WQ c Q .normal env' L D) : WC c (.region id l.toArray false) Q env L D := rg (ru n h (nl k))
theorem rb [ft : Ft c.P] (n : Nat) (hs : List Nat) (h : run c.n ft.fs ft.os l.toArray L n hs l env = some ([], env', a)) (ha : a.map Prod.fst = a.map Prod.snd) (k : WQ c Q .normal env' L D) : WC c (.region id l.toArray false) Q env L D := rg (rl n hs h ha (nl k))
theorem sa [ft : Ft c.P] (n : Nat) (h : run c.n ft.fs ft.os l.toArray L n [] l env = some ([], env', [])) (k : WC c y Q env' L D) : WC c (.seq (.region id l.toArray false) y) Q env L D := sq (ra n h (nx k))
theorem sb [ft : Ft c.P] (n : Nat) (hs : List Nat) (h : run c.n ft.fs ft.os l.toArray L n hs l env = some ([], env', a)) (ha : a.map Prod.fst = a.map Prod.snd) (k : WC c y Q env' L D) : WC c (.seq (.region id l.toArray false) y) Q env L D := sq (rb n hs h ha (nx k))
theorem qg (h : WL (Exit.then (Code.wp c.P y Q) Q) c l.toArray l env L D) : WC c (.seq (.region id l.toArray false) y) Q env L D := sq (rg h)
end
end
end Go.Eng
