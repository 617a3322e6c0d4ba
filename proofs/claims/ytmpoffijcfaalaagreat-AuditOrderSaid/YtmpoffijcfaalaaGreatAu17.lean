/- Part 17 of the proof of auditOrder_holds: Eng30, Eng31, Eng32, AudS, AudW1. Every text below begins with what it shows. -/
import Derived.Lib.AppendZeros
import Derived.Test.YtmpoffijcfaalaaGreatAu16

/- Slices that are grown ahead. Generic: no program. -/

namespace Go.Eng
open Go.RowKit
section
variable {c : Cx} {ops : Array Oper} {J : Cx → Array Oper → List Oper → Env → Own → List Atom → Prop} [iJ : IsJ J] {env : Env} {L : Own} {D : List Atom} {rest : List Oper} {d : Nat} {t : TypeId} {p : String} {af : Array Edge} {x y : Operand} {T : TypeId}
include iJ
theorem cpV {A : Option Addr} {m cc : Nat} {E : TypeId} (hx : ev env x = some (.slice A m cc)) (ht : c.P.underlying T = some (.slice E)) (hn : Nat.blt d c.n = true)
    (k : J c ops rest ((d, .int .i64 (cc : Int)) :: env) L D) :
    J c ops (⟨some d, .call { callee := .builtin .cap, args := #[x], argTypes := #[T] }, t, p, af, none⟩ :: rest) env L D :=
  pu rfl rfl hn (fun a w f => by simp [execOp, resolve, invoke, builtin, f.ev hx, Builtin.cap_, run_underlying ht, goInt]) k
/-- s[:h] of a slice whose value is known. -/
theorem slV {A : Option Addr} {m cc h : Nat} {E : TypeId} {sz : Nat} {hi : Operand} (hx : ev env x = some (.slice A m cc)) (ht : SliceTy c.P T E sz) (e2 : ev env hi = some (.int .i64 (h : Int))) (h3 : h ≤ cc) (hn : Nat.blt d c.n = true)
    (k : J c ops rest ((d, .slice A h cc) :: env) L D) :
    J c ops (⟨some d, .slice T x none (some hi) none, t, p, af, none⟩ :: rest) env L D :=
  pu rfl rfl hn (fun a w f => by
    obtain ⟨j, hj, hs⟩ := Option.map_eq_some_iff.1 ht.2
    have b2 : (0 : Int) ≤ h ∧ (h : Int) ≤ (cc : Int) := by omega
    have e0 : (if cc = 0 then A else A.map (·.add 0)) = A := by
      split
      · rfl
      · cases A
        · rfl
        · simp [Addr.add_mid, Addr.add]
    simp [execOp, f.ev hx, f.ev e2, Instr.sliceAt, run_underlying ht.1, Instr.slice, Instr.sliceBounds, Instr.sliceBound, asIntOf, b2, sizeOf, typeInfo, hj, hs]
    rw [if_pos h3, e0]) k
end
section
variable {c : Cx} {ops : Array Oper} {Q : Exit → Act → World → Prop} {env : Env} {L : Own} {D : List Atom} {rest : List Oper} {d : Nat} {t : TypeId} {p : String} {af : Array Edge} {x y : Operand} {T : TypeId}
/-- append(nil, make([]T, n)...). -/
theorem apZ {e tn : TypeId} {sz bytes n : Nat} {kn : IntKind} (hx : ev env x = some (.slice none 0 0)) (hy : ev env y = some (.int .i64 (n : Int))) (ht : AppTy c.P T e sz bytes) (htn : c.P.underlying tn = some (.int kn)) (h0 : 0 < n) (hb : n * bytes ≤ 140737488355328) (hb2 : n ≤ 140737488355328) (hn : Nat.blt d c.n = true)
    (k : ∀ b G cs, cs.length = G * sz → n ≤ G → G ≤ maxLen → WL Q c ops rest ((d, .slice (some ⟨b, 0, none⟩) n G) :: env) (bl b e cs :: L) D) :
    WL Q c ops (⟨some d, .call { callee := .builtin .append, args := #[x, y], argTypes := #[T, tn] }, t, p, af, none⟩ :: rest) env L D := by
  obtain ⟨hu, ii, zz, hi', hz, hs, hbb, hzs, hpos⟩ := ht
  refine wpl_any (σ := { q : Nat × Nat × List Value // q.2.2.length = q.2.1 * sz ∧ n ≤ q.2.1 ∧ q.2.1 ≤ maxLen }) rfl rfl (fun q => (d, .slice (some ⟨q.1.1, 0, none⟩) n q.1.2.1) :: env) (fun q => bl q.1.1 e q.1.2.2 :: L) (fun _ => D) (fun a w f st dh => ?_) (fun q => k _ _ _ q.2.1 q.2.2.1 q.2.2.2)
  have hrun := Lib.run_append_nil_zeros (P := c.P) w T tn t e ii zz .i64 kn hu htn hi' hz n h0 (by omega) (by omega) (by rw [hbb]; omega)
  have hG := grownCap_ge w n 0 e
  have hM := grownCap_le_maxLen w n 0 e (by simp only [maxLen]; omega)
  obtain ⟨G, hGe⟩ : ∃ G, G = grownCap w n 0 e := ⟨_, rfl⟩
  rw [← hGe] at hrun hG hM
  obtain ⟨A, hA⟩ : ∃ A, A = Builtin.zeroCells zz.cells n ++ Builtin.zeroCells zz.cells (G - n) := ⟨_, rfl⟩
  rw [← hA] at hrun
  have hAs : A.size = G * sz := by
    rw [hA]
    simp only [Array.size_append, size_zeroCells, hzs, ← Nat.add_mul]
    congr 1
    omega
  have hd := Stp.drew [] w
  have hb3 := bl_push (T := e) (cs := A.toList) (st.step hd) (dh.step hd.nil)
  refine ⟨⟨(w.heap.size, G, A.toList), by simpa using hAs, hG, hM⟩, _, _, ?_, f.put _ (lt_blt hn), hb3⟩
  have hx' := f.ev hx
  have hy' := f.ev hy
  simp only [execOp, resolve, invoke, builtin, Sem.run_bind, Sem.run_pure, Result.andThen_ok, List.map_toArray, List.map_cons, List.map_nil, hx', hy', hrun]
/-- A new block, of which nothing counts yet, as a row. -/
theorem rwZ {α : Type} [r : Rep α] {l : List Oper} {E : TypeId} {b G : Nat} {cs : List Value} (hl : cs.length = G * r.size) (hG : G ≤ maxLen) (k : WL Q c ops l env (@row α r E (.slice (some ⟨b, 0, none⟩) 0 G) [] :: L) D) : WL Q c ops l env (bl b E cs :: L) D := by
  intro a w f st dh
  have hh : w.heap[b]? = some (.cells cs.toArray E (0, 0)) := st.own _ (List.mem_cons_self ..)
  exact k a w f (st.swap (i := 0) (p := bl b E cs) (q := row E (.slice (some ⟨b, 0, none⟩) 0 G) []) rfl rfl ⟨[], ⟨by simp, .inr ⟨b, G, cs.toArray, rfl, Nat.zero_le _, hh, Nat.zero_le _, hG, by simpa using hl, by simp⟩⟩, trivial, by simp⟩) (dh.swap (i := 0) (p := bl b E cs) rfl rfl)
end
/-- How many things the first i lists have, and these. -/
def sumL {α : Type} (q : List (List α)) (i : Nat) : Nat := ((q.take i).map List.length).sum
def catL {α : Type} (q : List (List α)) (i : Nat) : List α := (q.take i).flatten
theorem take_snocL {α : Type} {q : List (List α)} {i : Nat} (h : i < q.length) : q.take (i + 1) = q.take i ++ [q.getD i default] := by
  rw [List.take_add_one, List.getD_eq_getElem?_getD, List.getElem?_eq_getElem h]
  rfl
theorem sumL_succ {α : Type} {q : List (List α)} {i : Nat} (h : i < q.length) : sumL q (i + 1) = sumL q i + (q.getD i default).length := by
  rw [sumL, sumL, take_snocL h]
  simp
theorem catL_succ {α : Type} {q : List (List α)} {i : Nat} (h : i < q.length) : catL q (i + 1) = catL q i ++ q.getD i default := by
  rw [catL, catL, take_snocL h]
  simp
theorem sumL_le {α : Type} {q : List (List α)} : ∀ (j i : Nat), i + j = q.length → sumL q i ≤ sumL q q.length
  | 0, i, h => by
    have : i = q.length := by omega
    rw [this]
    exact Nat.le_refl _
  | j + 1, i, h => Nat.le_trans (by rw [sumL_succ (by omega)]; omega) (sumL_le j (i + 1) (by omega))
theorem catL_len {α : Type} (q : List (List α)) (i : Nat) : (catL q i).length = sumL q i := by
  rw [catL, sumL, List.length_flatten]
theorem catL_all {α : Type} (q : List (List α)) : catL q q.length = q.flatten := by
  rw [catL, List.take_length]
end Go.Eng

/- An open order whose tail stands behind all of its head. Generic: no program. -/

namespace Go.Eng
section
variable {c : Cx} {l : List Oper} {s : RH} {env : Env} {D : List Atom} {Q : Exit → Act → World → Prop}
/-- Whether i waits for k, by others too. -/
def reachB (l : List Oper) (k : Nat) : Nat → Nat → Bool
  | 0, _ => false
  | f + 1, i => (List.range i).any fun j => edge l j i && (j == k || reachB l k f j)
theorem reach_listed {l : List Oper} {listed : Array Bool} (hcl : ∀ i k, listed.getD i false = true → edge l k i = true → listed.getD k false = true) {k : Nat} : ∀ (f i : Nat), (∀ j, edge l j i = true → listed.getD j false = true) → reachB l k f i = true → listed.getD k false = true
  | 0, _, _, h => by cases h
  | f + 1, i, hi, h => by
    rw [reachB, List.any_eq_true] at h
    obtain ⟨j, _, hj⟩ := h
    simp only [Bool.and_eq_true, Bool.or_eq_true, beq_iff_eq] at hj
    have hjl := hi j hj.1
    rcases hj.2 with rfl | h2
    · exact hjl
    · exact reach_listed hcl f j (fun q hq => hcl j q hjl hq) h2
def tailB (l : List Oper) (hd : Nat) : Bool := ((List.range hd).all fun k => reachB l k hd hd) && ((List.range l.length).all fun i => Nat.ble i hd || edge l (i - 1) i)
theorem tailB_spec {l : List Oper} {hd : Nat} (h : tailB l hd = true) (listed : Array Bool) (hcl : ∀ i k, listed.getD i false = true → edge l k i = true → listed.getD k false = true) :
    ∀ i, hd ≤ i → i < l.length → (∀ k, edge l k i = true → listed.getD k false = true) → ∀ k, k < hd → listed.getD k false = true := by
  simp only [tailB, Bool.and_eq_true] at h
  intro i
  induction i with
  | zero =>
    intro hi hl hp k hk
    omega
  | succ i ih =>
    intro hi hl hp k hk
    by_cases he : i + 1 = hd
    · exact reach_listed hcl hd hd (by rw [← he]; exact hp) (List.all_eq_true.1 h.1 k (List.mem_range.2 hk))
    · have hc := List.all_eq_true.1 h.2 (i + 1) (List.mem_range.2 hl)
      simp only [Bool.or_eq_true, Nat.add_sub_cancel] at hc
      rcases hc with hc | hc
      · have := Nat.le_of_ble_eq_true hc
        omega
      · have hi1 := hp i hc
        exact ih (by omega) (by omega) (fun q hq => hcl i q hi1 hq) k hk
def rhOkT (hd : Nat) (l : List Oper) (env : Env) (s : RH) (n : Nat) : Bool := ckDeps l s.deps && (List.range hd).all (fun i => ckDst1 l env i) && ckBack l && ckSize l n && ckH l s && tailB l hd && Region.seqB .any l.toArray (l.drop hd).length hd (headL hd l.length)
theorem wpAny_fin {hd : Nat} {L : Own} (hk : WL Q c l.toArray (l.drop hd) env L D) (hseq : Region.seqB .any l.toArray (l.drop hd).length hd (headL hd l.length) = true) {a : Act} {w : World} (f : Fr c.n a env) (st : St c.w0 c.M w L) (dh : DH D w L) :
    wpAny c.P .any l.toArray Q (l.length - hd) (headL hd l.length) a w := by
  have h := wpAny_of_seq (md := .any) (Q' := Q) (l.drop hd) hd (headL hd l.length) a w (fun j => by simp [List.getElem?_drop]) hseq (hk a w f st dh)
  rwa [List.length_drop] at h
/-- **An open order of which a head comes first, whatever its own order, and then a tail, one behind the other.** A slot that the tail lays anew may be read in the head. -/
theorem rgHT {id : Nat} (hd : Nat) (s : RH) (hhs : s.hs = [[]]) (hm : c.P.follows .mixedOrders = true) (hok : rhOkT hd l env s c.n = true) (hhd : hd ≤ l.length) {L : Own} (hL : s.L [] [] = L) (hO : OblH c l s env D (l.take hd) 0)
    (k : ∀ V : Nat → Value, AllP (fun i => (dstOf l i).isSome = true → s.vals i = none → s.ok i (V i)) (List.range hd) →
      WL Q c l.toArray (l.drop hd) (envOf l (VV s.vals V) (List.range hd) ++ env) L (atsOf s.rs (VV s.vals V) ((List.range hd).filter fun i => (dstOf l i).isSome) ++ D)) : WC c (.region id l.toArray true) Q env L D := by
  intro a w f st dh
  simp only [rhOkT, Bool.and_eq_true] at hok
  obtain ⟨⟨⟨⟨⟨⟨h1, h2⟩, h5⟩, hsz⟩, h4⟩, hT0⟩, hseq⟩ := hok
  have hT := tailB_spec hT0
  subst hL
  refine wp_region_any hm ?_
  have hs := Stp.drew [] w
  have m0 : MidH c l s env D (Array.replicate l.length false) a w.drew [] := by
    refine ⟨f, st.step hs, dh.step hs.nil, by simp, fun i k h _ => ?_, fun i d h _ => ?_, fun x _ => ?_, fun x hx => (by cases hx), ?_⟩
    · rw [getD_rep] at h; cases h
    · rw [getD_rep] at h; cases h
    · rw [getD_rep]; simp
    · simp only [ckH, Bool.and_eq_true] at h4
      simpa using h4.1.1
  have key : ∀ (m : Nat) (listed : Array Bool) (a : Act) (w : World), MidH c l s env D listed a w [] → (∀ i, hd ≤ i → listed.getD i false = false) → (List.range hd).countP (fun i => !listed.getD i false) = m →
      wpAny c.P .any l.toArray Q (m + (l.length - hd)) listed a w := by
    intro m
    induction m with
    | zero =>
      intro listed a w mm ht hc
      have hall : ∀ i, i < hd → listed.getD i false = true := fun i hi => by
        have := List.countP_eq_zero.1 hc i (List.mem_range.2 hi)
        simpa using this
      have heq : listed = headL hd l.length := by
        apply Array.ext
        · simp [mm.size, headL]
        · intro i g1 g2
          have e : listed[i] = listed.getD i false := by simp [g1]
          rw [e]
          simp only [headL, List.getElem_toArray, List.getElem_map, List.getElem_range]
          by_cases hi : i < hd
          · rw [hall i hi]; simp [hi]
          · rw [ht i (by omega)]; simp [hi]
      subst heq
      rw [Nat.zero_add]
      have hok2 : ∀ k, k < hd → (dstOf l k).isSome = true → s.ok2 k (valOf l a k) := fun k hk hd' => by
        obtain ⟨d, hd'⟩ := Option.isSome_iff_exists.1 hd'
        have := (mm.slot k d (hall k hk) hd').1
        simpa [valOf, slotV, hd'] using this
      have e1 : envOf l (valOf l a) (List.range hd) = envOf l (VV s.vals (valOf l a)) (List.range hd) := envOf_congr fun k hk hd' => ok2_VV (hok2 k (List.mem_range.1 hk) hd')
      have e2 : atsOf s.rs (valOf l a) ((List.range hd).filter fun i => (dstOf l i).isSome) = atsOf s.rs (VV s.vals (valOf l a)) ((List.range hd).filter fun i => (dstOf l i).isSome) := atsOf_congr fun k hk => ok2_VV (hok2 k (List.mem_range.1 (List.mem_filter.1 hk).1) (by simpa using (List.mem_filter.1 hk).2))
      have hk := k (valOf l a) (AllP.intro fun i hi hd' hn => ok2_of (hok2 i (List.mem_range.1 hi) hd') hn)
      rw [← e1, ← e2] at hk
      refine wpAny_fin hk hseq (mm.frame hsz fun k hk => Nat.lt_of_lt_of_le (List.mem_range.1 hk) hhd) mm.st (DH.app (fun t ht => ?_) mm.dh)
      obtain ⟨i, hi, ht⟩ := mem_atsOf ht
      obtain ⟨hi1, hd'⟩ := List.mem_filter.1 hi
      obtain ⟨d, hd'⟩ := Option.isSome_iff_exists.1 hd'
      have := (mm.slot i d (hall i (List.mem_range.1 hi1)) hd').2
      simp only [valOf, slotV, hd'] at ht
      exact this t ht
    | succ m ih =>
      intro listed a w mm ht hc
      rw [show m + 1 + (l.length - hd) = (m + (l.length - hd)) + 1 by omega]
      have hex : ∃ i, i < hd ∧ listed.getD i false = false := by
        refine Classical.byContradiction fun hn => ?_
        have : (List.range hd).countP (fun i => !listed.getD i false) = 0 := List.countP_eq_zero.2 fun i hi => by
          simp only [Bool.not_eq_true', Bool.not_eq_false]
          refine Classical.byContradiction fun h => hn ⟨i, List.mem_range.1 hi, by simpa using h⟩
        omega
      refine ⟨fun hr => ?_, fun i hi => ?_⟩
      · exfalso
        obtain ⟨i0, hi0, hu0⟩ := hex
        have hall : ∀ i, i < l.length → listed.getD i false = true := by
          intro i
          induction i using Nat.strongRecOn with
          | _ i ih2 =>
            intro hil
            cases hli : listed.getD i false with
            | true => rfl
            | false =>
              exfalso
              have : i ∈ Region.ready .any l.toArray listed := by
                refine mem_ready.2 ⟨by rw [getD_true_false (by rw [mm.size]; exact hil)]; exact hli, l[i], by simp [List.getElem?_eq_getElem hil], fun e he hb => ?_⟩
                have hbk := List.all_eq_true.1 h5 i (List.mem_range.2 hil)
                rw [List.getElem?_eq_getElem hil] at hbk
                have := List.all_eq_true.1 hbk e (Array.mem_toList_iff.2 he)
                rw [hb] at this
                have hlt := lt_blt (by simpa using this)
                exact ih2 e.on hlt (by omega)
              rw [hr] at this
              cases this
        rw [hall i0 (by omega)] at hu0
        cases hu0
      · obtain ⟨hun, o, ho1, hpre⟩ := mem_ready.1 hi
        have ho : l[i]? = some o := by simpa using ho1
        have hil : i < l.length := (List.getElem?_eq_some_iff.1 ho).1
        have his : i < listed.size := by rw [mm.size]; exact hil
        have hun' : listed.getD i false = false := by rw [← getD_true_false his]; exact hun
        have hid : i < hd := by
          rcases Nat.lt_or_ge i hd with h | h
          · exact h
          · obtain ⟨i0, hi0, hu0⟩ := hex
            have := hT listed mm.closed i h hil (fun k hk => by
              obtain ⟨e, he, hb, rfl⟩ := (edge_mem ho).1 hk
              exact hpre e he hb) i0 hi0
            rw [this] at hu0; cases hu0
        refine (mm.step1 (Q := Q) h1 (List.all_eq_true.1 h2 i (List.mem_range.2 hid)) h4 hsz hi (fun o' ho' V De hV => hO.take_at hid ho' V De hV) fun a' w' h' m' => ?_)
        have hh : h' = [] := by
          have := m'.mem
          rw [hhs] at this
          simpa using this
        subst hh
        refine ih _ a' w' m' (fun j hj => ?_) ?_
        · rw [getD_set his, ht j hj]
          have : (i == j) = false := by simpa using (by omega : i ≠ j)
          rw [this]; rfl
        · have hlt : (List.range hd).countP (fun k => !(listed.setIfInBounds i true).getD k false) + 1 = (List.range hd).countP (fun k => !listed.getD k false) := by
            refine cnt_one hd _ _ i hid (by rw [hun']; rfl) (by rw [getD_set his]; simp) fun j hj => ?_
            rw [getD_set his]
            have : (i == j) = false := by simpa using Ne.symm hj
            rw [this]; rfl
          omega
  have hn0 : (List.range hd).countP (fun i => !(Array.replicate l.length false).getD i false) = hd := by
    rw [List.countP_eq_length_filter, List.filter_eq_self.2 fun i _ => by rw [getD_rep]; rfl, List.length_range]
  have := key hd _ a w.drew m0 (fun i _ => getD_rep _ _) hn0
  rwa [show hd + (l.length - hd) = l.length by omega] at this
end
/-- A field that is a struct, compared. -/
theorem eqGr {P : Program} {d m : Nat} {f : Field} {fs : List Field} {xs ys zs1 zs2 : Array Value} {r s : Bool} {w : World} (hn : (f.name == "_") = false) {ds : TypeDesc} (hu : P.underlying f.type = some ds) (hr : ds.isRow = true) (hm : (P.info? f.type).map (·.size) = some m) (ha : xs.extract f.offset (f.offset + m) = zs1) (hb : ys.extract f.offset (f.offset + m) = zs2)
    (he : ∀ w, (Op.equalIn d f.type (.agg zs1) (.agg zs2)).run P w = .ok r w) (hrest : ∀ w, (Op.eqFields d xs ys fs).run P w = .ok s w) : (Op.eqFields d xs ys (f :: fs)).run P w = .ok (r && s) w := by
  have hn' : f.name ≠ "_" := by simpa using hn
  obtain ⟨j, hj, hs⟩ := Option.map_eq_some_iff.1 hm
  have hp : ∀ (zs z : Array Value), zs.extract f.offset (f.offset + m) = z → ∀ w, (part f.type zs f.offset).run P w = .ok (.agg z) w := by
    intro zs z hz w
    unfold part
    rw [Sem.run_bind, run_isAgg hu, Result.andThen_ok, hr]
    simp [sizeOf, typeInfo, hj, hs, hz]
  unfold Op.eqFields
  rw [if_pos hn']
  simp only [Sem.run_bind, hp xs zs1 ha, hp ys zs2 hb, he, Result.andThen_ok]
  cases r with
  | false => simp
  | true => simpa using hrest w
end Go.Eng

/- Things read with what lies hidden in them; what rounds of a range over a function keep, told by types. Generic: no program. -/

namespace Go.Eng
open Go.RowKit
/-- A value of one cell. -/
structure OneC where
instance repOne : Rep OneC where
  size := 1
  agg := false
  rd _ _ cs _ := ∃ u : Value, cs = [u] ∧ u.oneCell' = true
  len := by rintro S w cs x ⟨u, rfl, _⟩; rfl
  one := by
    rintro S w cs x ⟨u, rfl, h⟩ u' hu
    have : u' = u := by simpa using hu
    rw [this]
    exact h
  keep := by
    rintro S S' w w' cs x h _ _
    exact h
theorem one_holds {S : Nat → Prop} {w : World} {u : Value} (h : u.oneCell' = true) : Atom.holds (@Atom.mk OneC repOne u ⟨⟩) S w := by
  have ha : isAggV u = false := by cases u <;> first | rfl | simp [Value.oneCell'] at h
  exact ⟨ha, u, by rw [show (Atom.mk u (⟨⟩ : OneC)).v = u from rfl, cells_of_not ha], h⟩
theorem one_of {S : Nat → Prop} {w : World} {u : Value} (h : Atom.holds (@Atom.mk OneC repOne u ⟨⟩) S w) : u.oneCell' = true := by
  obtain ⟨ha, u', h1, h2⟩ := h
  have ha : isAggV u = false := ha
  have h1 : u.cells.toList = [u'] := h1
  rw [cells_of_not ha] at h1
  have : u = u' := by simpa using h1
  rw [this]
  exact h2
@[reducible] def oneAs (cs : List Value) : List Atom := cs.map fun u => @Atom.mk OneC repOne u ⟨⟩
theorem ones_hold {S : Nat → Prop} {w : World} {cs : List Value} (h : ∀ u ∈ cs, u.oneCell' = true) : ∀ t ∈ oneAs cs, t.holds S w := fun t ht => by
  obtain ⟨u, hu, rfl⟩ := List.mem_map.1 ht
  exact one_holds (h u hu)
/-- The same, what is hidden told as data. -/
@[reducible] def Shape.raw {α : Type} (s : Shape α) : Shape (α × s.H) where
  H := Unit
  size := s.size
  cells x _ := s.cells x.1 x.2
  sub x _ := oneAs (s.cells x.1 x.2)
  wf x := s.wf x.1
  len x _ := s.len x.1 x.2
  one := by
    intro S w x h ht u hu
    exact one_of (ht _ (List.mem_map.2 ⟨u, hu, rfl⟩))
@[reducible] def rawR {α : Type} (s : Shape α) : Rep (α × s.H) := Rep.ofShape s.raw
/-- A list, read so. -/
@[reducible] def rawA {α : Type} (s : Shape α) (v : Value) (ys : List (α × s.H)) : Atom := @Atom.mk (List (α × s.H)) (@repList _ (rawR s)) v ys
theorem raw_pick {α : Type} {s : Shape α} {S : Nat → Prop} {w : World} {b o : Nat} : ∀ (xs : List α) (k : Nat), (∀ i x, xs[i]? = some x → ∃ ds, @Rep.rd α (Rep.ofShape s) S w ds x ∧ Lies w b (o + (k + i) * s.size) ds) →
    ∃ ys : List (α × s.H), ys.map Prod.fst = xs ∧ (∀ i y, ys[i]? = some y → ∃ ds, @Rep.rd _ (rawR s) S w ds y ∧ Lies w b (o + (k + i) * s.size) ds) ∧ ∀ y ∈ ys, ∀ t ∈ s.sub y.1 y.2, t.holds S w
  | [], _, _ => ⟨[], rfl, by simp, by simp⟩
  | x :: xs, k, h => by
    obtain ⟨ds, ⟨hh, rfl, hsub, hwf⟩, hl⟩ := h 0 x rfl
    obtain ⟨ys, h1, h2, h3⟩ := raw_pick xs (k + 1) (fun i x' hx => by
      have := h (i + 1) x' hx
      rwa [show k + (i + 1) = k + 1 + i by omega] at this)
    refine ⟨(x, hh) :: ys, by rw [List.map_cons, h1], fun i y hy => ?_, fun y hy => ?_⟩
    · cases i with
      | zero =>
        have : y = (x, hh) := by simpa using hy.symm
        subst this
        exact ⟨_, ⟨(), rfl, ones_hold fun u hu => s.one x hh hsub u hu, hwf⟩, hl⟩
      | succ i =>
        have := h2 i y (by simpa using hy)
        rwa [show k + (i + 1) = k + 1 + i by omega]
    · rcases List.mem_cons.1 hy with rfl | hy
      · exact hsub
      · exact h3 y hy
theorem raw_of {α : Type} {s : Shape α} {S : Nat → Prop} {w : World} {v : Value} {xs : List α} (h : Atom.holds (@Atom.mk (List α) (@repList α (Rep.ofShape s)) v xs) S w) :
    ∃ ys : List (α × s.H), ys.map Prod.fst = xs ∧ (rawA s v ys).holds S w ∧ ∀ y ∈ ys, ∀ t ∈ s.sub y.1 y.2, t.holds S w := by
  obtain ⟨ha, A, cc, hsv, h1, h2, h3, h4⟩ := h
  by_cases hx : xs = []
  · subst hx
    exact ⟨[], rfl, ⟨ha, A, cc, hsv, h1, h2, h3, fun h => absurd rfl h⟩, by simp⟩
  · obtain ⟨b, o, hA, hS, hi⟩ := h4 hx
    obtain ⟨ys, g1, g2, g3⟩ := raw_pick (s := s) (S := S) (w := w) (b := b) (o := o) xs 0 (fun i x hx => by have := hi i x hx; rw [Nat.zero_add]; exact this)
    have hl : ys.length = xs.length := by rw [← g1]; simp
    refine ⟨ys, g1, ⟨ha, A, cc, ?_, by simpa only [hl] using h1, h2, by simpa only [hl] using h3, fun _ => ⟨b, o, hA, hS, fun i y hy => by have := g2 i y hy; rw [Nat.zero_add] at this; exact this⟩⟩, g3⟩
    simp only [hl]
    exact hsv
/-- An empty list reads as such everywhere. -/
theorem emp_any {α : Type} {r : Rep α} {S S' : Nat → Prop} {w w' : World} {v : Value} (h : Atom.holds (@Atom.mk (List α) (@repList α r) v []) S w) : Atom.holds (@Atom.mk (List α) (@repList α r) v []) S' w' := by
  obtain ⟨ha, A, cc, hsv, h1, h2, h3, _⟩ := h
  exact ⟨ha, A, cc, hsv, h1, h2, h3, fun h => absurd rfl h⟩
theorem rdL_of_raw {α : Type} {s : Shape α} {S S' : Nat → Prop} {w : World} : ∀ (css : List (List Value)) (ys : List (α × s.H)), @rdL _ (rawR s) S w css ys → (∀ y ∈ ys, ∀ t ∈ s.sub y.1 y.2, t.holds S' w) → @rdL α (Rep.ofShape s) S' w css (ys.map Prod.fst)
  | [], [], _, _ => trivial
  | c :: css, y :: ys, ⟨⟨_, hc, _, hwf⟩, hr⟩, h => ⟨⟨y.2, hc, h y (List.mem_cons_self ..), hwf⟩, rdL_of_raw css ys hr fun z hz => h z (List.mem_cons_of_mem _ hz)⟩
  | [], _ :: _, h, _ => h.elim
  | _ :: _, [], h, _ => h.elim
theorem row_of_raw {α : Type} {s : Shape α} {S S' : Nat → Prop} {w : World} {e : TypeId} {v : Value} {ys : List (α × s.H)} (h : (@row _ (rawR s) e v ys).holds S w) (hs : ∀ y ∈ ys, ∀ t ∈ s.sub y.1 y.2, t.holds S' w) : (@row α (Rep.ofShape s) e v (ys.map Prod.fst)).holds S' w := by
  obtain ⟨css, h1, h2, h3⟩ := h
  exact ⟨css, by rw [List.length_map]; exact h1, rdL_of_raw css ys h2 hs, by rw [List.length_map]; exact h3⟩
theorem raw_row_any {α : Type} {s : Shape α} {S S' : Nat → Prop} {w : World} {e : TypeId} {v : Value} {ys : List (α × s.H)} (h : (@row _ (rawR s) e v ys).holds S w) : (@row _ (rawR s) e v ys).holds S' w := by
  obtain ⟨css, h1, h2, h3⟩ := h
  refine ⟨css, h1, ?_, h3⟩
  clear h1 h3
  induction css generalizing ys with
  | nil => cases ys <;> exact h2
  | cons c css ih =>
    cases ys with
    | nil => exact h2
    | cons y ys => exact ⟨by obtain ⟨_, hc, hs, hw⟩ := h2.1; exact ⟨(), hc, ones_hold fun u hu => one_of (hs _ (List.mem_map.2 ⟨u, hu, rfl⟩)), hw⟩, ih h2.2⟩
section
variable {c : Cx} {ops : Array Oper} {J : Cx → Array Oper → List Oper → Env → Own → List Atom → Prop} {Q : Exit → Act → World → Prop} {env : Env} {L : Own} {D : List Atom} {x : Code}
/-- What is hidden, told. -/
theorem rawL {α : Type} {s : Shape α} {l : List Oper} (i : Nat) {v : Value} {xs : List α} (hi : D[i]? = some (@Atom.mk (List α) (@repList α (Rep.ofShape s)) v xs))
    (k : ∀ ys : List (α × s.H), ys.map Prod.fst = xs → (∀ y ∈ ys, ∀ t ∈ s.sub y.1 y.2, ∃ S w, t.holds S w) → WL Q c ops l env L (rawA s v ys :: D)) : WL Q c ops l env L D := by
  intro a w f st dh
  obtain ⟨ys, h1, h2, h3⟩ := raw_of (dh.at_ i hi)
  exact k ys h1 (fun y hy t ht => ⟨_, _, h3 y hy t ht⟩) a w f st (DH.cons h2 dh)
/-- Ways that meet again, told of worlds. -/
theorem jnW {σ : Type} (E : σ → Env) (Ψ : σ → World → Prop) (h1 : WC c x (Exit.then (fun a w => ∃ s, Fr c.n a (E s) ∧ Ψ s w) Q) env L D) (h2 : ∀ s w, Ψ s w → ∀ a, Fr c.n a (E s) → Q .normal a w) : WC c x Q env L D := by
  intro a w f st d
  refine wp_mono (h1 a w f st d) ?_
  intro e a' w' hq
  cases e with
  | normal => obtain ⟨s, f', hp⟩ := hq; exact h2 s w' hp a' f'
  | _ => exact hq
end
/-- What a round keeps: all that lay there ahead, and all rows that are of another type. -/
structure KC (n₀ b : Nat) (E : TypeId) (A B : World) : Prop where
  size : A.heap.size ≤ B.heap.size
  block : ∀ k, k < n₀ → k ≠ b → B.heap[k]? = A.heap[k]?
  typed : ∀ k cs T fl, k ≠ b → T ≠ E → A.heap[k]? = some (.cells cs T fl) → B.heap[k]? = some (.cells cs T fl)
theorem KC.trans {n₀ b : Nat} {E : TypeId} {A B C : World} (h : KC n₀ b E A B) (k : KC n₀ b E B C) : KC n₀ b E A C :=
  ⟨Nat.le_trans h.size k.size, fun i hi hb => (k.block i hi hb).trans (h.block i hi hb), fun i cs T fl hb hT hi => k.typed i cs T fl hb hT (h.typed i cs T fl hb hT hi)⟩
theorem KC.putObj {n₀ b l : Nat} {E : TypeId} {W : World} {o o' : Obj} (hl : n₀ ≤ l) (ho : W.heap[l]? = some o) (hc : o.isCells = false) : KC n₀ b E W (W.putObj l o') :=
  ⟨by simp [World.putObj], fun k hk _ => World.putObj_heap_other (by omega), fun k cs T fl _ _ hk => by
    by_cases e : k = l
    · subst e
      rw [ho] at hk
      cases hk
      cases hc
    · exact (World.putObj_heap_other e).trans hk⟩
theorem Stp.kc {n₀ b : Nat} {E : TypeId} {M : List Nat} {A B : World} (h : Stp M A B) (hn : n₀ ≤ A.heap.size) (hM : ∀ k, k ∈ M → k < A.heap.size → k = b ∨ (n₀ ≤ k ∧ ∃ cs fl, A.heap[k]? = some (.cells cs E fl))) : KC n₀ b E A B :=
  ⟨h.size, fun k hk hb => h.block k (Nat.lt_of_lt_of_le hk hn) (fun hm => by
      rcases hM k hm (Nat.lt_of_lt_of_le hk hn) with h1 | ⟨h1, _⟩
      · exact hb h1
      · omega), fun k cs T fl hb hT hk => (h.block k (lt_of_heap hk) (fun hm => by
      rcases hM k hm (lt_of_heap hk) with h1 | ⟨_, cs', fl', h1⟩
      · exact hb h1
      · rw [hk] at h1
        cases h1
        exact hT rfl)).trans hk⟩
/-- A list that reads so as long as rounds keep what they keep; bs: blocks of one's own. -/
def Rd {α : Type} [Rep α] (n₀ b3 : Nat) (E : TypeId) (bs : List Nat) (v : Value) (ys : List α) (w : World) : Prop :=
  ∃ S : Nat → Prop, Atom.holds ⟨v, ys⟩ S w ∧ ∀ b, S b → b < w.heap.size ∧ b ∉ bs ∧ b ≠ b3 ∧ (b < n₀ ∨ ∃ cs T fl, w.heap[b]? = some (.cells cs T fl) ∧ T ≠ E)
theorem Rd.keep {α : Type} [Rep α] {n₀ b3 : Nat} {E : TypeId} {bs : List Nat} {v : Value} {ys : List α} {w w' : World} (h : Rd n₀ b3 E bs v ys w) (k : KC n₀ b3 E w w') : Rd n₀ b3 E bs v ys w' := by
  obtain ⟨S, h1, h2⟩ := h
  have hk : ∀ b, S b → w'.heap[b]? = w.heap[b]? := fun b hb => by
    obtain ⟨_, _, g1, g2⟩ := h2 b hb
    rcases g2 with g2 | ⟨cs, T, fl, g3, g4⟩
    · exact k.block b g2 g1
    · rw [g3]; exact k.typed b cs T fl g1 g4 g3
  refine ⟨S, Atom.keep h1 (fun _ h => h) hk, fun b hb => ?_⟩
  obtain ⟨g0, g1, g2, g3⟩ := h2 b hb
  refine ⟨Nat.lt_of_lt_of_le g0 k.size, g1, g2, ?_⟩
  rcases g3 with g3 | ⟨cs, T, fl, g3, g4⟩
  · exact .inl g3
  · exact .inr ⟨cs, T, fl, (hk b hb).trans g3, g4⟩
theorem Rd.holds {α : Type} [Rep α] {n₀ b3 : Nat} {E : TypeId} {bs : List Nat} {v : Value} {ys : List α} {w : World} (h : Rd n₀ b3 E bs v ys w) {L : Own} (hL : ∀ b ∈ L.bs, b ∈ bs) : Atom.holds ⟨v, ys⟩ (Sf L.bs w) w := by
  obtain ⟨S, h1, h2⟩ := h
  exact Atom.keep h1 (fun b hb => ⟨(h2 b hb).1, fun hx => (h2 b hb).2.1 (hL b hx)⟩) (fun _ _ => rfl)
/-- Operations that call no round, ahead of one that does. -/
theorem listIn_head {m : Nat} {P : Program} {ops : Array Oper} {Q : Exit → Act → World → Prop} {tl : List Oper} : ∀ (hd : List Oper), ∀ a w, wpList P ops (fun e a w => e = .normal ∧ wpListIn Fence.wide m P ops Q tl a w) hd a w → wpListIn Fence.wide m P ops Q (hd ++ tl) a w
  | [], a, w, h => h.2
  | o :: rest, a, w, h => by
    have ih := listIn_head (m := m) (P := P) (ops := ops) (Q := Q) (tl := tl) rest
    have hno : ¬ LetsOut (fun (e : Exit) (a : Act) (w : World) => e = .normal ∧ wpListIn Fence.wide m P ops Q tl a w) := by
      rintro ⟨a', w', h⟩
      cases h.1
    unfold wpList at h
    rw [List.cons_append]
    unfold wpListIn
    by_cases hw : Region.wanted o (yielded ops a.tmps) = true
    · rw [if_pos hw] at h ⊢
      have h := h.elim id fun h => absurd h.2 hno
      refine ⟨fun _ _ => trivial, ?_⟩
      unfold Oper.wp at h
      have hs : Oper.semAt Fence.wide.round a.eval o = execOp a.eval o := rfl
      rw [hs]
      generalize (execOp a.eval o).run P w = r at *
      cases r with
      | ok nx w' =>
        cases nx <;> simp only [Oper.upon, Oper.uponIn] at h ⊢ <;> try exact h
        · exact ih _ _ h
        · exact ih _ _ h
        · refine ⟨(fun hd => by cases hd), callsIn_wide.2 (Calls.mono h fun e w'' he => ?_)⟩
          cases e with
          | returned v => exact ih _ _ he
          | panicked ch => exact absurd he.1 (by intro h; cases h)
          | outgrown => exact absurd he hno
        · exact ih _ _ h
        · exact ⟨(fun hd => by cases hd), fun c cs _ => by obtain ⟨v, w', hR, hs⟩ := h c cs; exact ⟨v, w', ih _ _ hR, stepsIn_wide.2 hs⟩⟩
      | halt x w' => cases x <;> simp only [Oper.upon, Oper.uponIn] at h ⊢ <;> first | exact h | exact absurd h.1 (by intro h; cases h)
    · rw [if_neg hw] at h ⊢
      exact ⟨fun _ _ => trivial, ih _ _ h⟩
theorem listIn_plain {F : Fence} {n : Nat} {P : Program} {ops : Array Oper} {Q : Exit → Act → World → Prop} {rest : List Oper} {o : Oper} {a : Act} {w : World} (hg : o.guard = none) (h : o.wpIn F n P a w (fun a' w' => wpListIn F n P ops Q rest a' w') Q) : wpListIn F n P ops Q (o :: rest) a w := by
  unfold wpListIn
  rw [if_pos (by unfold Region.wanted; rw [hg])]
  exact h
theorem stp_drop {M : List Nat} {A B : World} (h : Stp M A B) (hM : ∀ k ∈ M, B.heap[k]? = A.heap[k]?) : Stp [] A B := ⟨h.os, h.tape, h.output, h.size, fun k hk _ => by
  by_cases e : k ∈ M
  · exact hM k e
  · exact h.block k hk e⟩
section
variable {c : Cx} {ops : Array Oper} {J : Cx → Array Oper → List Oper → Env → Own → List Atom → Prop} [iJ : IsJ J] {env : Env} {L : Own} {D : List Atom} {rest : List Oper} {d : Nat} {t : TypeId} {p : String} {af : Array Edge} {x : Operand}
include iJ
/-- A struct that stands is read, what is hidden in it known. -/
theorem ldRaw {α : Type} {s : Shape α} (i : Nat) {ov : α} {hh : s.H} {pv : Value} (hx : ev env x = some pv) (hA : D[i]? = some (@Atom.mk (Pt (α × s.H)) (@repPt _ (rawR s)) pv ⟨(ov, hh)⟩)) {E : TypeId} (ht : RowTy c.P E s.size) (hn : Nat.blt d c.n = true)
    (k : s.wf ov → J c ops rest ((d, .agg (s.cells ov hh).toArray) :: env) L D) : J c ops (⟨some d, .load E x, t, p, af, none⟩ :: rest) env L D :=
  ldS (s := s.raw) i hx hA ht hn fun _ hw => iJ.mono (fun _ _ f _ dh => ⟨f, fun u hu => dh u (List.mem_cons_of_mem _ (List.mem_append_right _ hu))⟩) (k hw)
end
theorem rd_of_row {α : Type} {s : Shape α} {n₀ b3 : Nat} {E T : TypeId} {bs : List Nat} {v : Value} {ys : List (α × s.H)} {w : World} {S : Nat → Prop} (h : (@row _ (rawR s) T v ys).holds S w) (hT : T ≠ E) (hb : ∀ b ∈ v.ownBlock.toList, b ∉ bs ∧ b ≠ b3) : @Rd _ (rawR s) n₀ b3 E bs v ys w := by
  refine ⟨fun b => b ∈ v.ownBlock.toList, row_list (raw_row_any (S' := fun _ => False) h) (fun _ h => h.elim) (fun b hb => hb), fun b hb' => ?_⟩
  obtain ⟨css, hown, _⟩ := h
  rcases hown.2 with ⟨rfl, _⟩ | ⟨g, cap, cur, rfl, _, hg, _⟩
  · simp [Value.ownBlock] at hb'
  · have : b = g := by simpa [Value.ownBlock] using hb'
    subst this
    have hg : w.heap[b]? = some (.cells cur T (0, 0)) := by simpa using hg
    exact ⟨lt_of_heap hg, (hb b hb').1, (hb b hb').2, .inr ⟨_, _, _, hg, hT⟩⟩
end Go.Eng

/- What the audit tells, as plain functions. No program. -/

namespace Go.YtmpoffijcfaalaaGreat
open Go.Eng
/-- Accounts and counted accounts, with what lies hidden in them. -/
abbrev HA := TAccount × sAccount.H
abbrev HC := Tcounted × scounted.H
@[reducible] instance rHA : Rep HA := rawR sAccount
@[reducible] instance rHC : Rep HC := rawR scounted
/-- Which of two accounts is ahead: by their keys. -/
def cmpC (x y : Tcounted) : Int := cmpB x.fAccount.fKey y.fAccount.fKey
def ltC (x y : Tcounted) : Bool := decide (cmpC x y < 0)
def stOf (ss : List TState) (gr : Int) : TState := (firstI ss.length (fun j => decide ((ss.getD j default).fGroup = gr))).elim zeroState (fun j => ss.getD j default)
def isOf (ss : List TState) (gr : Int) : Bool := (firstI ss.length (fun j => decide ((ss.getD j default).fGroup = gr))).isSome
/-- What a state has sealed is not yet another group's. -/
def waitsP (ss : List TState) (s : TState) : Bool :=
  if s.fOut.fNumber = 0 then false else !isOf ss s.fOut.fTo || decide ((stOf ss s.fOut.fTo).fAbsorbed < s.fOut.fNumber) || decide ((stOf ss s.fOut.fTo).fRefused = s.fOut.fNumber)
def imgA (a : TAccount) : Bool := !decide (errF (accP a) = 0) || aplainP a || !decide (a.fLock.fClient = 0) || decide ((a.fHolders.length : Int) > 0) || !decide (a.fRound = 0)
def imgB (s : TState) (l : List TAccount) (j : Nat) : Bool := !within s.fOut.fLo s.fOut.fHi (l.getD j default).fKey || (decide ((j : Int) > 0) && (ltB (l.getD j default).fKey (l.getD ((j : Int) - 1).toNat default).fKey || decide ((l.getD j default).fKey = (l.getD ((j : Int) - 1).toNat default).fKey)))
def imgAll (s : TState) (l : List TAccount) : Bool := allI l.length (fun j => !imgA (l.getD j default) && !imgB s l j)
/-- The accounts of what is out are such as another shard takes in. -/
def imagedP (s : TState) : Bool :=
  if s.fOut.fNumber = 0 then true else if (!decide ((rdState s.fImage).2 = 0) || decide (((rdState s.fImage).1.fAccounts.length : Int) > 12)) = true then false else imgAll s (rdState s.fImage).1.fAccounts
def badR (l : List TRight) : Bool := !decide (errF (ledgerP l) = 0)
def sndA (c : TChart) (ss : List TState) (rr : List (List TRight)) : Bool := !decide ((ss.length : Int) = 7) || decide ((rr.length : Int) > 5) || !decide (errF (planP c) = 0)
def sndB (ss : List TState) (j : Nat) : Bool := !decide ((ss.getD j default).fGroup = (j : Int) + 1) || !decide (errF (srightP (ss.getD j default)) = 0) || !imagedP (ss.getD j default)
/-- What Truth is handed is in order. -/
def soundP (c : TChart) (ss : List TState) (rr : List (List TRight)) : Bool :=
  if sndA c ss rr = true then false else if allI ss.length (fun j => !sndB ss j) = true then !decide (placeI (firstI rr.length (fun j => badR (rr.getD j default))) ≥ 0) else false
def netP (l : List TRight) (gr : Int) (key : ByteArray) (n : Int) : Int :=
  if ¬ errF (ledgerP l) = 0 then 0 else match firstI l.length (fun j => decide (l.getD j default = ({ fGroup := gr, fKey := key, fLease := n, fNet := (l.getD j default).fNet } : TRight))) with
    | some j => (l.getD j default).fNet
    | none => 0
def zdeal : TDeal := ({ fClient := 0, fSeq := 0, fKey := ByteArray.empty, fOther := ByteArray.empty, fN := 0, fMine := 0, fTheirs := 0, fFate := 0 } : TDeal)
def findD (l : List TDeal) (c q : Int) : TDeal := if (decide (placeI (placeO l c q) < 0) || !decide (errF (dealsP l) = 0)) = true then zdeal else l.getD ((placeO l c q).getD 0) default
def isD (l : List TDeal) (c q : Int) : Bool := if (decide (placeI (placeO l c q) < 0) || !decide (errF (dealsP l) = 0)) = true then false else true
theorem placeO_ok {l : List TDeal} {c q : Int} (h : (decide (placeI (placeO l c q) < 0) || !decide (errF (dealsP l) = 0)) = false) : ∃ k, placeO l c q = some k ∧ k < l.length := by
  cases e : placeO l c q with
  | none =>
    rw [e] at h
    simp [placeI] at h
  | some k => exact ⟨k, rfl, firstI_lt e⟩
theorem netP_in {l : List TRight} (h : ∀ r ∈ l, r.wf) (gr : Int) (key : ByteArray) (n : Int) : InI (netP l gr key n) := by
  unfold netP
  split
  · exact ⟨by decide, by decide⟩
  · split
    · rename_i j e
      exact (h _ (getD_mem (firstI_lt e))).2.2.2
    · exact ⟨by decide, by decide⟩
/-- What an account's first i holders have. -/
def hpart (rr : List (List TRight)) (c : Tcounted) (h : THolder) : List Int :=
  if (decide (h.fNode ≥ 1) && decide (h.fNode ≤ (rr.length : Int))) = true then [netP (rr.getD (h.fNode - 1).toNat default) c.fGroup c.fAccount.fKey h.fLease] else []
def partsL (rr : List (List TRight)) (c : Tcounted) : Nat → List Int
  | 0 => [c.fAccount.fBase]
  | i + 1 => partsL rr c i ++ hpart rr c (c.fAccount.fHolders.getD i default)
theorem partsL_len (rr : List (List TRight)) (c : Tcounted) : ∀ i, (partsL rr c i).length ≤ i + 1
  | 0 => Nat.le_refl _
  | i + 1 => by
    have := partsL_len rr c i
    rw [partsL, List.length_append, hpart]
    split <;> simp <;> omega
theorem partsL_T {rr : List (List TRight)} {c : Tcounted} {i : Nat} (h : (c.fAccount.fHolders.getD i default).fNode ≥ 1 ∧ (c.fAccount.fHolders.getD i default).fNode ≤ (rr.length : Int)) :
    partsL rr c (i + 1) = partsL rr c i ++ [netP (rr.getD ((c.fAccount.fHolders.getD i default).fNode - 1).toNat default) c.fGroup c.fAccount.fKey (c.fAccount.fHolders.getD i default).fLease] := by
  rw [partsL, hpart, if_pos (by simpa only [Bool.and_eq_true, decide_eq_true_eq] using h)]
theorem partsL_F {rr : List (List TRight)} {c : Tcounted} {i : Nat} (h : (decide ((c.fAccount.fHolders.getD i default).fNode ≥ 1) && decide ((c.fAccount.fHolders.getD i default).fNode ≤ (rr.length : Int))) = false) : partsL rr c (i + 1) = partsL rr c i := by
  rw [partsL, hpart, if_neg (by rw [h]; decide), List.append_nil]
def lockPart (ss : List TState) (a : TAccount) : List Int :=
  if (isOf ss a.fLock.fHome && !decide (a.fLock.fClient = 0)) = true then (if (isD (stOf ss a.fLock.fHome).fDeals a.fLock.fClient a.fLock.fSeq && decide ((findD (stOf ss a.fLock.fHome).fDeals a.fLock.fClient a.fLock.fSeq).fFate = 1)) = true then [a.fLock.fN] else []) else []
def partsC (ss : List TState) (rr : List (List TRight)) (c : Tcounted) : List Int := partsL rr c c.fAccount.fHolders.length ++ lockPart ss c.fAccount
/-- What an account has, and whether it may. -/
def hasV (ss : List TState) (rr : List (List TRight)) (c : Tcounted) : Int × Bool := (sumI (partsC ss rr c).sum, decide (sumE (partsC ss rr c).sum = 0) && hasP c.fAccount.fSpan (sumI (partsC ss rr c).sum))
/-- The accounts of a state that count. -/
def listP (ss : List TState) (s : TState) : List TAccount := if waitsP ss s = true then s.fAccounts ++ (rdState s.fImage).1.fAccounts else s.fAccounts
def cntOf (gr : Int) (a : TAccount) : Tcounted := ⟨a, gr⟩
def allU (ss : List TState) : Nat → List Tcounted
  | 0 => []
  | i + 1 => allU ss i ++ (listP ss (ss.getD i default)).map (cntOf (ss.getD i default).fGroup)
theorem allU_le (ss : List TState) : ∀ (j i : Nat), (allU ss i).length ≤ (allU ss (i + j)).length
  | 0, _ => Nat.le_refl _
  | j + 1, i => Nat.le_trans (allU_le ss j i) (by rw [← Nat.add_assoc, allU, List.length_append]; omega)
def keyC (l : List Tcounted) (j : Nat) : ByteArray := (l.getD j default).fAccount.fKey
/-- Two accounts, one behind the other, have one key. -/
def dupB (l : List Tcounted) : Bool := !allI (l.length - 1) (fun j => !decide (keyC l (j + 1) = keyC l j))
def accC (ss : List TState) (rr : List (List TRight)) (c : Tcounted) : TAccount := { fKey := c.fAccount.fKey, fSpan := c.fAccount.fSpan, fBase := (hasV ss rr c).1, fRound := 0, fHolders := [], fLock := { fClient := 0, fSeq := 0, fHome := 0, fN := 0 } }
def totC (ss : List TState) (rr : List (List TRight)) (c : Tcounted) : TTotal := { fKey := c.fAccount.fKey, fSpan := c.fAccount.fSpan, fValue := (hasV ss rr c).1 }
def totL (ss : List TState) (rr : List (List TRight)) (l : List Tcounted) : Nat → List TTotal
  | 0 => []
  | i + 1 => totL ss rr l i ++ (if aplainP (accC ss rr (l.getD i default)) = true then [] else [totC ss rr (l.getD i default)])
theorem totL_len (ss : List TState) (rr : List (List TRight)) (l : List Tcounted) : ∀ i, (totL ss rr l i).length ≤ i
  | 0 => Nat.le_refl _
  | i + 1 => by
    have := totL_len ss rr l i
    rw [totL, List.length_append]
    split <;> simp <;> omega
def srtC (ss : List TState) : List Tcounted := sortP ltC (allU ss ss.length)
/-- The totals. -/
def truthP (c : TChart) (ss : List TState) (rr : List (List TRight)) : List TTotal × Int :=
  if soundP c ss rr = false then ([], 1) else if dupB (srtC ss) = true then ([], 171)
  else if allI (srtC ss).length (fun j => (hasV ss rr ((srtC ss).getD j default)).2) = true then (totL ss rr (srtC ss) (srtC ss).length, 0) else ([], 150)
/-- Lists that may be copied. -/
structure BigS (S : TState) : Prop where
  acc : S.fAccounts.length ≤ 100000
  hold : ∀ j, j < S.fAccounts.length → (S.fAccounts.getD j default).fHolders.length ≤ 100000
  marks : S.fMarks.length ≤ 100000
  waits : S.fWaits.length ≤ 100000
  deals : S.fDeals.length ≤ 100000
  ends : S.fEnds.length ≤ 100000
  image : S.fImage.length ≤ 140737488355328
end Go.YtmpoffijcfaalaaGreat

/- The order of accounts: written by specs10.py. -/

namespace Go.Proofs.YtmpoffijcfaalaaGreat
open Go.Eng Go.YtmpoffijcfaalaaGreat

theorem cmpC_c (x y : Tcounted) (x_0 y_0 : Value) (h_x : x.wf) (h_y : y.wf) : FnV Tryz.prog 86 [.agg (ccounted x x_0).toArray, .agg (ccounted y y_0).toArray] [⟨x_0, x.fAccount.fHolders⟩, ⟨y_0, y.fAccount.fHolders⟩] (.int .i64 (cmpC x y)) := by
  refine Fnc.proof Tryz.func86 rfl 12 rfl rfl fun X w => sq<|rg<|bx rfl rfl rfl fun b2 => bx rfl rfl rfl fun b3 => asg rfl rfl<|nl<|nx<|sq<|rg<|fa rfl fld_150_0 rfl<|fa rfl fld_70_0 rfl<|ldB 1 rfl rfl one_9 rfl rfl<|fa rfl fld_150_0 rfl ?_
  refine fa rfl fld_70_0 rfl<|ldB 0 rfl rfl one_9 rfl rfl<|cfv (compare_c _ _) ok_87 rfl SubD.nil rfl<|asg rfl rfl<|nl<|nx<|rt<|dpQ<|dpQ ?_
  exact fR1 () rfl rfl (by rfl) rfl SubD.nil
end Go.Proofs.YtmpoffijcfaalaaGreat
