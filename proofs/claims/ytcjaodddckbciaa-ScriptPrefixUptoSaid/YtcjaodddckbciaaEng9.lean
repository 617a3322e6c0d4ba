/- Literals: of several cells, empty ones, structs; literal slices that grow; slices against nil; what fields of a struct of one's own are. Generic: no program. -/
import Derived.Test.YtcjaodddckbciaaEng8
import Derived.Great.BuildSlice
import Derived.Laws.Cover3
namespace Go.Eng

section
variable {c : Cx} {ops : Array Oper} {Q : Exit → Act → World → Prop} {env : Env} {L : Own} {D : List Atom} {rest : List Oper} {d : Nat} {v : Value} {t : TypeId} {p : String} {af : Array Edge} {x y z : Operand} {T : TypeId} {b o : Nat} {cs : List Value}

theorem run_buildSlice0 {P : Program} {T E : TypeId} {size bytes : Nat} (ht : AppTy P T E size bytes) (w : World) :
    (Instr.buildSlice T 0 #[]).run P w = .ok (.slice (some ⟨w.heap.size, 0, none⟩) 0 0) (w.alloc (.cells #[] E)) := by
  obtain ⟨hu', i, z, hi, hz, hs, hb, hzs, _⟩ := ht
  simp [Instr.buildSlice, run_underlying hu', sizeOf, typeInfo, hi, Instr.fill, newRow, show Array.range 0 = #[] from rfl]
/-- An empty literal. -/
theorem bs0 {E : TypeId} {size bytes : Nat} (ht : AppTy c.P T E size bytes) (hn : Nat.blt d c.n = true) (k : ∀ b, WL Q c ops rest ((d, .slice (some ⟨b, 0, none⟩) 0 0) :: env) (bl b E [] :: L) D) :
    WL Q c ops (⟨some d, .buildSlice T 0 #[], t, p, af, none⟩ :: rest) env L D := by
  refine wpl_any (σ := Nat) rfl rfl (fun b => (d, .slice (some ⟨b, 0, none⟩) 0 0) :: env) (fun b => bl b E [] :: L) (fun _ => D) (fun a w f st dh => ?_) k
  refine ⟨w.heap.size, .slice (some ⟨w.heap.size, 0, none⟩) 0 0, w.alloc (.cells #[] E), ?_, f.put _ (lt_blt hn), bl_push (cs := []) st dh⟩
  simp only [execOp, List.map_toArray, List.map_nil, Sem.run_bind, run_buildSlice0 ht, Result.andThen_ok, Sem.run_pure]
theorem run_buildSliceM {P : Program} {T E : TypeId} {size bytes : Nat} (ht : AppTy P T E size bytes) {us : List Value} (hl : us.length = size) (h0 : us.length ≠ 0) (hb : us.length ≤ 1000) (w : World) :
    (Instr.buildSlice T 1 #[(0, .agg us.toArray)]).run P w = .ok (.slice (some ⟨w.heap.size, 0, none⟩) 1 1) (w.alloc (.cells us.toArray E)) := by
  subst hl
  obtain ⟨hu', i, z, hi, hz, hs, hb', hzs, _⟩ := ht
  refine run_buildSlice w T E 1 _ us.toArray i z hu' hi hz (by rw [hs]; omega) (by rw [hs]; omega) ?_
  rw [hs]
  have hc : (Value.agg us.toArray).cells = us.toArray := rfl
  simp only [Instr.fill, hc, Nat.zero_mul]
  have key : ∀ (l : List Value) (pre post : List Value), l.length = post.length → ((l.zipIdx pre.length).foldl (fun (cs : Array Value) (x : Value × Nat) => cs.setIfInBounds (0 + x.2) x.1) (pre ++ post).toArray) = (pre ++ l).toArray := by
    intro l
    induction l with
    | nil => intro pre post h; have : post = [] := List.eq_nil_of_length_eq_zero (by simpa using h.symm); subst this; rfl
    | cons u l ih =>
      intro pre post h
      obtain ⟨q, post, rfl⟩ : ∃ q r, post = q :: r := by
        cases post with
        | nil => simp at h
        | cons q r => exact ⟨q, r, rfl⟩
      simp only [List.zipIdx_cons, List.foldl_cons]
      have e : ((pre ++ q :: post).toArray.setIfInBounds (0 + pre.length) u) = ((pre ++ [u]) ++ post).toArray := by simp
      rw [e]
      have := ih (pre ++ [u]) post (by simpa using h)
      simp only [List.length_append, List.length_singleton] at this
      rw [this]
      simp
  have hz : ((Array.range (1 * us.length)).map (z.cells[· % z.cells.size]!)).size = us.length := by simp
  generalize ((Array.range (1 * us.length)).map (z.cells[· % z.cells.size]!)) = arr at hz
  have hk := key us [] arr.toList (by simp [hz])
  rw [if_neg (by simp [hz])]
  simp only [List.length_nil, List.nil_append, Array.toArray_toList] at hk
  rw [← Array.foldl_toList, Array.toList_zipIdx]
  simpa using hk
/-- A literal of one element of several cells. -/
theorem bsM {us : List Value} {E : TypeId} {size bytes : Nat} (hx : ev env x = some (.agg us.toArray)) (ht : AppTy c.P T E size bytes) (hs : us.length = size) (h0 : us.isEmpty = false) (hl : Nat.ble us.length 1000 = true) (hn : Nat.blt d c.n = true)
    (k : ∀ b, WL Q c ops rest ((d, .slice (some ⟨b, 0, none⟩) 1 1) :: env) (bl b E us :: L) D) :
    WL Q c ops (⟨some d, .buildSlice T 1 #[(0, x)], t, p, af, none⟩ :: rest) env L D := by
  refine wpl_any (σ := Nat) rfl rfl (fun b => (d, .slice (some ⟨b, 0, none⟩) 1 1) :: env) (fun b => bl b E us :: L) (fun _ => D) (fun a w f st dh => ?_) k
  refine ⟨w.heap.size, .slice (some ⟨w.heap.size, 0, none⟩) 1 1, w.alloc (.cells us.toArray E), ?_, f.put _ (lt_blt hn), bl_push st dh⟩
  have hne : us.length ≠ 0 := fun e => by rw [List.eq_nil_of_length_eq_zero e] at h0; cases h0
  simp only [execOp, List.map_toArray, List.map_cons, List.map_nil, f.ev hx, Sem.run_bind, run_buildSliceM ht hs hne (Nat.le_of_ble_eq_true hl), Result.andThen_ok, Sem.run_pure]

/-- A literal of one's own, from now on as a slice that may grow. -/
theorem rwB {α : Type} [r : Rep α] {l : List Oper} {E : TypeId} (xs : List α) (css : List (List Value)) {n : Nat} (hn : xs.length = n) (hcs : css.flatten = cs) (hr : ∀ S w, (∀ u ∈ D, u.holds S w) → rdL S w css xs) (hl : Nat.ble xs.length 1000 = true)
    (k : WL Q c ops l env (@row α r E (.slice (some ⟨b, 0, none⟩) n n) xs :: L) D) : WL Q c ops l env (bl b E cs :: L) D := by
  subst hn
  intro a w f st dh
  have hl := Nat.le_of_ble_eq_true hl
  have hh : w.heap[b]? = some (.cells cs.toArray E (0, 0)) := st.own _ (List.mem_cons_self ..)
  have hrd : rdL (Sf (Own.bs (bl b E cs :: L)) w) w css xs := hr _ _ dh
  have hlen := hrd.len
  rw [hcs] at hlen
  refine k a w f (st.swap (i := 0) (p := bl b E cs) (q := row E (.slice (some ⟨b, 0, none⟩) xs.length xs.length) xs) rfl rfl ⟨css, ⟨?_, .inr ⟨b, xs.length, cs.toArray, rfl, Nat.zero_le _, hh, Nat.le_refl _, by simp only [maxLen]; omega, by simpa using hlen, ?_⟩⟩, hrd, by omega⟩) (dh.swap (i := 0) (p := bl b E cs) rfl rfl)
  · rw [hcs]; exact hlen
  · rw [hcs, List.take_of_length_le (by simp only [List.toList_toArray]; omega)]

/-- A struct literal. -/
theorem bd {ps : List (Nat × Operand)} {us : List Value} {cs : List Value} (hx : evs env (ps.map (·.2)) = some us) (hb : c.P.built T ((ps.map (·.1)).zip us) = some cs.toArray) (hn : Nat.blt d c.n = true) (k : WL Q c ops rest ((d, .agg cs.toArray) :: env) L D) :
    WL Q c ops (⟨some d, .build T ps.toArray, t, p, af, none⟩ :: rest) env L D :=
  pu rfl rfl hn (fun a w f => by
    have e := f.evs hx
    subst e
    have h2 : (ps.toArray.map fun (i, x) => (i, a.eval x)).toList = (ps.map (·.1)).zip ((ps.map (·.2)).map a.eval) := by
      simp only [List.map_toArray]
      clear hx hb
      induction ps with
      | nil => rfl
      | cons q r ih => simp only [List.map_cons, List.zip_cons_cons, ih]
    have := run_build (P := c.P) w T (ps.toArray.map fun (i, x) => (i, a.eval x)) cs.toArray (by rw [h2]; exact hb)
    simp only [execOp, Sem.run_bind, this, Result.andThen_ok, Sem.run_pure]) k
end

section
variable {c : Cx} {ops : Array Oper} {J : Cx → Array Oper → List Oper → Env → Own → List Atom → Prop} [iJ : IsJ J] {env : Env} {L : Own} {D : List Atom} {rest : List Oper} {d : Nat} {v : Value} {t : TypeId} {p : String} {af : Array Edge} {x y : Operand} {xt yt : TypeId}
include iJ
/-- A slice that stands against nil. -/
theorem eqN {α : Type} {r : Rep α} (i : Nat) {xs : List α} {sv : Value} {E : TypeId} (hu : c.P.underlying xt = some (.slice E)) (hx : ev env x = some sv) (hA : D[i]? = some (@Atom.mk (List α) (@repList α r) sv xs)) (hy : ev env y = some (.slice none 0 0)) (hn : Nat.blt d c.n = true)
    (k : ∀ b : Bool, (b = true → xs = []) → J c ops rest ((d, .bool b) :: env) L D) : J c ops (⟨some d, .binOp .eql xt x y yt, t, p, af, none⟩ :: rest) env L D := by
  refine iJ.fact (q := ∃ A cc, sv = .slice A xs.length cc ∧ (A = none → xs = [])) (fun a w f st dh => ?_) ?_
  · obtain ⟨ha, A, cc, hsv, h1, h2, h3, h4⟩ := dh.at_ i hA
    simp only at hsv ha
    rw [cells_of_not ha] at hsv
    refine ⟨A, cc, by simpa using hsv, fun hA => ?_⟩
    by_cases he : xs = []
    · exact he
    · obtain ⟨b, o, h, _⟩ := h4 he
      rw [h] at hA; cases hA
  · rintro ⟨A, cc, rfl, h⟩
    refine pu rfl rfl hn (fun a w f => ?_) (k A.isNone fun hA => h (by simpa using hA))
    simp [execOp, f.ev hx, f.ev hy, eqGuard, binOp, run_equal_slice_nil w xt E A xs.length cc hu]
end

/-! Structs compared, field by field -/
theorem eqF {P : Program} {d : Nat} {f : Field} {fs : List Field} {xs ys : Array Value} {a b : Value} {r s : Bool} (hn : (f.name == "_") = false) {ds : TypeDesc} (hu : P.underlying f.type = some ds) (hr : ds.isRow = false) (ha : xs[f.offset]? = some a) (hb : ys[f.offset]? = some b)
    (he : ∀ w, (Op.equalIn d f.type a b).run P w = .ok r w) (hrest : ∀ w, (Op.eqFields d xs ys fs).run P w = .ok s w) (w : World) : (Op.eqFields d xs ys (f :: fs)).run P w = .ok (r && s) w := by
  have hn' : f.name ≠ "_" := by simpa using hn
  have hp : ∀ (zs : Array Value) (z : Value), zs[f.offset]? = some z → ∀ w, (part f.type zs f.offset).run P w = .ok z w := by
    intro zs z hz w
    unfold part
    rw [Sem.run_bind, run_isAgg hu, Result.andThen_ok, hr]
    simp [hz]
  unfold Op.eqFields
  rw [if_pos hn']
  simp only [Sem.run_bind, hp xs a ha, hp ys b hb, he, Result.andThen_ok]
  cases r with
  | false => simp
  | true => simpa using hrest w
theorem eqF0 {P : Program} {d : Nat} {xs ys : Array Value} (w : World) : (Op.eqFields d xs ys []).run P w = .ok true w := by simp [Op.eqFields]
theorem eqFi {P : Program} {d : Nat} {T : TypeId} {k k' : IntKind} (hu : P.underlying T = some (.int k')) (a b : Int) (w : World) : (Op.equalIn (d + 1) T (.int k a) (.int k b)).run P w = .ok (decide (a = b)) w := by
  rw [run_equalIn_int w d T k k' a b hu]
  by_cases h : a = b <;> simp [h]
theorem eqFs {P : Program} {d : Nat} {T : TypeId} (hu : P.underlying T = some .string) (a b : ByteArray) (w : World) : (Op.equalIn (d + 1) T (.string a) (.string b)).run P w = .ok (decide (a = b)) w := by
  rw [run_equalIn_string w d T a b hu, beq_ba]
end Go.Eng
