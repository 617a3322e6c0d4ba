/- Part 5 of the proof of auditOrder_holds: Eng6. Every text below begins with what it shows. -/
import Derived.Laws.StructEq
import Derived.Laws.Slices
import Derived.Test.YtmpoffijcfaalaaGreatAu4

/- More operations: tests inside a statement, texts, nil, parts of slices, conversions, structs compared. Generic: no program. -/

namespace Go.Eng

theorem inI {x : Int} (h1 : -9223372036854775808 ≤ x) (h2 : x ≤ 9223372036854775807) : InI x := ⟨h1, h2⟩
theorem getE {α : Type} {xs : List α} {i : Nat} (h : i < xs.length) : xs[i]? = some xs[i] := List.getElem?_eq_getElem h

instance decEqBA : DecidableEq ByteArray := fun a b =>
  if h : a.data.toList = b.data.toList then .isTrue (by
    obtain ⟨x⟩ := a
    obtain ⟨y⟩ := b
    congr
    exact Array.toList_inj.1 h)
  else .isFalse (fun e => h (by rw [e]))
theorem beq_ba (a b : ByteArray) : (a.toList == b.toList) = decide (a = b) := by
  rw [ByteArray.toList_eq, ByteArray.toList_eq]
  by_cases h : a = b
  · subst h; simp
  · have : ¬ a.data.toList = b.data.toList := by
      intro e
      apply h
      obtain ⟨x⟩ := a
      obtain ⟨y⟩ := b
      congr
      exact Array.toList_inj.1 e
    rw [beq_eq_false_iff_ne.2 this]
    simp [h]
/-- One text stands ahead of another. -/
def ltB (a b : ByteArray) : Bool := Op.bytesLess a.toList b.toList

section
variable {c : Cx} {ops : Array Oper} {J : Cx → Array Oper → List Oper → Env → Own → List Atom → Prop} [iJ : IsJ J] {env : Env} {L : Own} {D : List Atom} {rest : List Oper} {d : Nat} {v : Value} {t : TypeId} {p : String} {af : Array Edge} {x y z : Operand} {T : TypeId} {b o : Nat} {cs : List Value} {xt yt : TypeId}
include iJ

omit iJ in
/-- The ways part at a Bool that stands in a slot. -/
theorem fr_same {n i : Nat} {a : Act} {env : Env} {u : Value} (f : Fr n a env) (h : lk env i = some u) : Fr n a ((i, u) :: env) := by
  refine ⟨f.size, f.dn, fun j v hj => ?_⟩
  simp only [lk] at hj
  by_cases hij : i = j
  · subst hij
    simp at hj
    subst hj
    exact f.at_ _ _ h
  · have : (i == j) = false := by simpa using hij
    rw [this] at hj
    exact f.at_ _ _ hj
theorem spB {i : Nat} {t : Bool} {l : List Oper} (h : lk env i = some (.bool t)) (h1 : t = true → J c ops l ((i, .bool true) :: env) L D) (h2 : t = false → J c ops l ((i, .bool false) :: env) L D) : J c ops l env L D := by
  cases t
  · exact iJ.mono (fun a w f st dh => ⟨fr_same f h, dh⟩) (h2 rfl)
  · exact iJ.mono (fun a w f st dh => ⟨fr_same f h, dh⟩) (h1 rfl)
theorem spP {i : Nat} {q : Prop} [Decidable q] {l : List Oper} (h : lk env i = some (.bool (decide q))) (h1 : q → J c ops l ((i, .bool true) :: env) L D) (h2 : ¬ q → J c ops l ((i, .bool false) :: env) L D) : J c ops l env L D :=
  spB h (fun e => h1 (of_decide_eq_true e)) (fun e => h2 (of_decide_eq_false e))
/-! Texts -/
variable {s s' : ByteArray}
theorem eqS (hx : ev env x = some (.string s)) (hy : ev env y = some (.string s')) (hn : Nat.blt d c.n = true) (k : J c ops rest ((d, .bool (decide (s = s'))) :: env) L D) :
    J c ops (⟨some d, .binOp .eql xt x y yt, t, p, af, none⟩ :: rest) env L D :=
  pu rfl rfl hn (fun a w f => by simp [execOp, f.ev hx, f.ev hy, eqGuard, binOp, Op.stringOp, beq_ba]) k
theorem neS (hx : ev env x = some (.string s)) (hy : ev env y = some (.string s')) (hn : Nat.blt d c.n = true) (k : J c ops rest ((d, .bool (!decide (s = s'))) :: env) L D) :
    J c ops (⟨some d, .binOp .neq xt x y yt, t, p, af, none⟩ :: rest) env L D :=
  pu rfl rfl hn (fun a w f => by simp [execOp, f.ev hx, f.ev hy, eqGuard, binOp, Op.stringOp, beq_ba]) k
theorem ltS (hx : ev env x = some (.string s)) (hy : ev env y = some (.string s')) (hn : Nat.blt d c.n = true) (k : J c ops rest ((d, .bool (ltB s s')) :: env) L D) :
    J c ops (⟨some d, .binOp .lss xt x y yt, t, p, af, none⟩ :: rest) env L D :=
  pu rfl rfl hn (fun a w f => by simp [execOp, f.ev hx, f.ev hy, eqGuard, binOp, Op.stringOp, ltB]) k
theorem leS (hx : ev env x = some (.string s)) (hy : ev env y = some (.string s')) (hn : Nat.blt d c.n = true) (k : J c ops rest ((d, .bool (ltB s s' || decide (s = s'))) :: env) L D) :
    J c ops (⟨some d, .binOp .leq xt x y yt, t, p, af, none⟩ :: rest) env L D :=
  pu rfl rfl hn (fun a w f => by simp [execOp, f.ev hx, f.ev hy, eqGuard, binOp, Op.stringOp, ltB, beq_ba]) k
theorem gtS (hx : ev env x = some (.string s)) (hy : ev env y = some (.string s')) (hn : Nat.blt d c.n = true) (k : J c ops rest ((d, .bool (!(ltB s s' || decide (s = s')))) :: env) L D) :
    J c ops (⟨some d, .binOp .gtr xt x y yt, t, p, af, none⟩ :: rest) env L D :=
  pu rfl rfl hn (fun a w f => by simp [execOp, f.ev hx, f.ev hy, eqGuard, binOp, Op.stringOp, ltB, beq_ba]) k
/-! A pointer against nil -/
omit iJ in
theorem run_eqP {P : Program} {T E : TypeId} (hu : P.underlying T = some (.pointer E)) (a : Addr) (w : World) : (Op.equal T (.pointer (some a)) (.pointer none)).run P w = .ok false w := by
  have h : ∀ d : Nat, (Op.equalIn (d + 1) T (.pointer (some a)) (.pointer none)).run P w = .ok false w := fun d => by simp [Op.equalIn, run_underlying hu]
  exact h 9999
theorem eqP {a' : Addr} {E : TypeId} (hu : c.P.underlying xt = some (.pointer E)) (hx : ev env x = some (.pointer (some a'))) (hy : ev env y = some (.pointer none)) (hn : Nat.blt d c.n = true) (k : J c ops rest ((d, .bool false) :: env) L D) :
    J c ops (⟨some d, .binOp .eql xt x y yt, t, p, af, none⟩ :: rest) env L D :=
  pu rfl rfl hn (fun a w f => by simp [execOp, f.ev hx, f.ev hy, eqGuard, binOp, run_eqP hu]) k
theorem neP {a' : Addr} {E : TypeId} (hu : c.P.underlying xt = some (.pointer E)) (hx : ev env x = some (.pointer (some a'))) (hy : ev env y = some (.pointer none)) (hn : Nat.blt d c.n = true) (k : J c ops rest ((d, .bool true) :: env) L D) :
    J c ops (⟨some d, .binOp .neq xt x y yt, t, p, af, none⟩ :: rest) env L D :=
  pu rfl rfl hn (fun a w f => by simp [execOp, f.ev hx, f.ev hy, eqGuard, binOp, run_eqP hu]) k
theorem ncP {α : Type} {r : Rep α} (i : Nat) {ov : α} {pv : Value} (hx : ev env x = some pv) (hA : D[i]? = some (@Atom.mk (Pt α) (@repPt α r) pv ⟨ov⟩)) (hn : Nat.blt d c.n = true) (k : J c ops rest ((d, pv) :: env) L D) :
    J c ops (⟨some d, .nilCheck x, t, p, af, none⟩ :: rest) env L D := by
  refine iJ.fact (q := ∃ a', pv = .pointer (some a')) (fun a w f st dh => ?_) ?_
  · obtain ⟨b, o, ds, rfl, _⟩ := @pt_open α r _ _ _ _ (dh.at_ i hA)
    exact ⟨_, rfl⟩
  · rintro ⟨a', rfl⟩
    exact nc hx hn k

/-- A slice out of a place that stands. -/
theorem ldL {α : Type} {r : Rep α} (i : Nat) {ov : List α} {pv : Value} (hx : ev env x = some pv) (hA : D[i]? = some (@Atom.mk (Pt (List α)) (@repPt (List α) (@repList α r)) pv ⟨ov⟩)) {E : TypeId} (ht : OneTy c.P E) (hn : Nat.blt d c.n = true) (k : ∀ u, J c ops rest ((d, u) :: env) L ((@Atom.mk (List α) (@repList α r) u ov) :: D)) :
    J c ops (⟨some d, .load E x, t, p, af, none⟩ :: rest) env L D :=
  ldP (r := @repList α r) i hx hA rfl rfl (by rintro S w cs ⟨A, cc, rfl, _⟩; rfl) ht hn k
/-! Parts of slices -/
omit iJ in
theorem part_reads {α : Type} [r : Rep α] {S : Nat → Prop} {w : World} {A : Option Addr} {xs : List α} {cc l h m : Nat} (hd : rdSlice S w [.slice A xs.length cc] xs) (h1 : l ≤ h) (h2 : h ≤ xs.length) (h3 : h ≤ m) (h4 : m ≤ cc) :
    rdSlice S w [.slice (if m = l then A else A.map (·.add (l * r.size))) (h - l) (m - l)] ((xs.take h).drop l) := by
  obtain ⟨A', c', he, g1, g2, g3, g4⟩ := hd
  simp only [List.cons.injEq, Value.slice.injEq, and_true] at he
  obtain ⟨rfl, _, rfl⟩ := he
  have hlen : ((xs.take h).drop l).length = h - l := by simp; omega
  refine ⟨_, m - l, by rw [hlen], by omega, by omega, by omega, fun hne => ?_⟩
  have hlt : l < h := by
    have : ((xs.take h).drop l).length ≠ 0 := fun e => hne (List.eq_nil_of_length_eq_zero e)
    omega
  obtain ⟨b, o, rfl, hS, hi⟩ := g4 (by intro e; rw [e] at h2; simp at h2; omega)
  rw [if_neg (by omega)]
  refine ⟨b, o + l * r.size, by simp [Addr.add_mid], hS, fun i x hx => ?_⟩
  rw [List.getElem?_drop, List.getElem?_take] at hx
  split at hx
  · obtain ⟨ds, hr, hl⟩ := hi _ x hx
    refine ⟨ds, hr, ?_⟩
    rw [Nat.add_mul, ← Nat.add_assoc] at hl
    exact hl
  · cases hx
/-- s[l:h:m] of a slice that stands, h within its length. -/
theorem slP3 {α : Type} {r : Rep α} (i : Nat) {xs : List α} {sv : Value} {lo hi mx : Operand} {l h m : Int} {E : TypeId} (hx : ev env x = some sv) (hA : D[i]? = some (@Atom.mk (List α) (@repList α r) sv xs)) (ht : SliceTy c.P T E r.size)
    (e1 : ev env lo = some (.int .i64 l)) (e2 : ev env hi = some (.int .i64 h)) (e3 : ev env mx = some (.int .i64 m)) (h0 : 0 ≤ l) (h1 : l ≤ h) (h2 : h ≤ m) (h3 : m ≤ (xs.length : Int)) (hn : Nat.blt d c.n = true)
    (k : ∀ u, J c ops rest ((d, u) :: env) L ((@Atom.mk (List α) (@repList α r) u ((xs.take h.toNat).drop l.toNat)) :: D)) :
    J c ops (⟨some d, .slice T x (some lo) (some hi) (some mx), t, p, af, none⟩ :: rest) env L D :=
  iJ.read (σ := Value) rfl rfl (fun u => (d, u) :: env) (fun u => (@Atom.mk (List α) (@repList α r) u ((xs.take h.toNat).drop l.toNat)) :: D) (fun a w f st dh => by
    obtain ⟨ha, hrd⟩ := dh.at_ i hA
    obtain ⟨A, cc, hsv, _⟩ := hrd
    simp only at hsv ha
    rw [cells_of_not ha] at hsv
    have hsv : sv = .slice A xs.length cc := by simpa using hsv
    subst hsv
    have hrd : rdSlice (Sf L.bs w) w [.slice A xs.length cc] xs := (dh.at_ i hA).2
    have hcap : xs.length ≤ cc := by
      obtain ⟨A', c', he, g1, _⟩ := hrd
      simp only [List.cons.injEq, Value.slice.injEq, and_true] at he
      omega
    obtain ⟨j, hj, hs⟩ := Option.map_eq_some_iff.1 ht.2
    have b1 : 0 ≤ m ∧ m ≤ (cc : Int) := by omega
    have b2 : 0 ≤ h ∧ h ≤ (m.toNat : Int) := by omega
    have b3 : 0 ≤ l ∧ l ≤ (h.toNat : Int) := by omega
    have c1 : h ≤ max m 0 := by omega
    have c2 : l ≤ max h 0 := by omega
    refine ⟨.slice (if m.toNat = l.toNat then A else A.map (·.add (l.toNat * r.size))) (h.toNat - l.toNat) (m.toNat - l.toNat), _, fun w' hs' => ?_, f.put _ (lt_blt hn), DH.cons ⟨rfl, part_reads hrd (l := l.toNat) (h := h.toNat) (m := m.toNat) (by omega) (by omega) (by omega) (by omega)⟩ dh⟩
    simp [execOp, f.ev hx, f.ev e1, f.ev e2, f.ev e3, Instr.sliceAt, run_underlying ht.1, Instr.slice, Instr.sliceBounds, Instr.sliceBound, asIntOf, b1, b2, b3, c1, c2, sizeOf, typeInfo, hj, hs]) k

/-! Texts to bytes, and back -/
omit iJ in
theorem strOf_bytes (bs : List UInt8) : strOfNums (bs.map fun b => (b.toNat : Int)) = ⟨bs.toArray⟩ := by
  unfold strOfNums
  congr 2
  rw [List.map_map]
  have : ((fun (n : Int) => UInt8.ofNat n.toNat) ∘ fun (b : UInt8) => (b.toNat : Int)) = id := by
    funext b
    simp
  rw [this, List.map_id]
theorem cbs (i : Nat) {bs : List UInt8} {sv : Value} {src e dst : TypeId} (hs : c.P.underlying src = some (.slice e)) (he : c.P.underlying e = some (.int .u8)) (hd : c.P.underlying dst = some .string) (hx : ev env x = some sv) (hA : D[i]? = some (⟨sv, bs⟩ : Atom)) (hn : Nat.blt d c.n = true)
    (k : J c ops rest ((d, .string ⟨bs.toArray⟩) :: env) L D) :
    J c ops (⟨some d, .convert src dst x, t, p, af, none⟩ :: rest) env L D :=
  iJ.read (σ := Unit) rfl rfl (fun _ => (d, .string ⟨bs.toArray⟩) :: env) (fun _ => D) (fun a w0 f st dh0 => by
    refine ⟨(), .string ⟨bs.toArray⟩, fun w hs0 => ?_, f.put _ (lt_blt hn), dh0⟩
    have dh := dh0.step hs0.nil
    obtain ⟨ha, A, cc, hsv, h1, h2, h3, h4⟩ := dh.at_ i hA
    simp only at hsv ha
    rw [cells_of_not ha] at hsv
    have hsv : sv = .slice A bs.length cc := by simpa using hsv
    subst hsv
    by_cases hb : bs = []
    · subst hb
      cases A with
      | none =>
        have := run_convert_bytes_nil (P := c.P) w src e hs he 0 cc dst hd
        simp only [execOp, f.ev hx, Sem.run_bind, List.length_nil, this, Result.andThen_ok, Sem.run_pure]
        rfl
      | some ad =>
        have hrun : (convert src dst (.slice (some ad) 0 cc)).run c.P w = .ok (.string ByteArray.empty) w := by
          rw [run_convert_bytes_string w src dst e _ 0 cc hs he hd]
          simp [Conv.bytesToString, loadCells, loadCellsFrom]
        simp only [execOp, f.ev hx, Sem.run_bind, List.length_nil, hrun, Result.andThen_ok, Sem.run_pure]
        rfl
    · obtain ⟨b, o, rfl, hS, hi⟩ := h4 hb
      have := run_convert_bytes_arg (P := c.P) w src e hs he b o bs.length cc (bs.map fun b => (b.toNat : Int)) (by simp) (fun j hj => by
        have hj' : bs[j]? = some bs[j] := List.getElem?_eq_getElem hj
        obtain ⟨ds, ⟨rfl, _⟩, hl⟩ := hi j _ hj'
        have hsz : Rep.size UInt8 = 1 := rfl
        have := hl 0 _ rfl
        rw [hsz, Nat.mul_one, Nat.add_zero] at this
        rw [this]
        simp [List.getD, hj]) dst hd
      rw [strOf_bytes] at this
      simp only [execOp, f.ev hx, Sem.run_bind, this, Result.andThen_ok, Sem.run_pure]) (fun _ => k)

/-! Structs compared -/
/-- At type T, things with these cells are the same where '==' says so. -/
def EqTy {α : Type} [DecidableEq α] (P : Program) (T : TypeId) (cells : α → List Value) : Prop :=
  P.eqGuardType P.depth T = false ∧ ∀ (a b : α) (w : World), (Op.equalIn 10000 T (.agg (cells a).toArray) (.agg (cells b).toArray)).run P w = .ok (decide (a = b)) w
theorem eqT {α : Type} [DecidableEq α] {cells : α → List Value} (ht : EqTy c.P xt cells) (u u' : α) (hx : ev env x = some (.agg (cells u).toArray)) (hy : ev env y = some (.agg (cells u').toArray)) (hn : Nat.blt d c.n = true) (k : J c ops rest ((d, .bool (decide (u = u'))) :: env) L D) :
    J c ops (⟨some d, .binOp .eql xt x y yt, t, p, af, none⟩ :: rest) env L D :=
  pu rfl rfl hn (fun a w f => by simp [execOp, f.ev hx, f.ev hy, run_eqGuard_agg _ _ _ _ _ _ _ ht.1, run_eql_struct, ht.2]) k
theorem neT {α : Type} [DecidableEq α] {cells : α → List Value} (ht : EqTy c.P xt cells) (u u' : α) (hx : ev env x = some (.agg (cells u).toArray)) (hy : ev env y = some (.agg (cells u').toArray)) (hn : Nat.blt d c.n = true) (k : J c ops rest ((d, .bool (!decide (u = u'))) :: env) L D) :
    J c ops (⟨some d, .binOp .neq xt x y yt, t, p, af, none⟩ :: rest) env L D :=
  pu rfl rfl hn (fun a w f => by simp [execOp, f.ev hx, f.ev hy, run_eqGuard_agg _ _ _ _ _ _ _ ht.1, run_neq_struct, ht.2]) k
end
section
variable {c : Cx} {ops : Array Oper} {Q : Exit → Act → World → Prop} {env : Env} {L : Own} {D : List Atom} {rest : List Oper} {d : Nat} {v : Value} {t : TypeId} {p : String} {af : Array Edge} {x y z : Operand} {s : ByteArray}
theorem csb {src dst e : TypeId} (hs : c.P.underlying src = some .string) (hd : c.P.underlying dst = some (.slice e)) (he : c.P.underlying e = some (.int .u8)) (hx : ev env x = some (.string s)) (hl : s.size ≤ 140737488355328) (hn : Nat.blt d c.n = true)
    (k : ∀ u, WL Q c ops rest ((d, u) :: env) L ((⟨u, s.data.toList⟩ : Atom) :: D)) :
    WL Q c ops (⟨some d, .convert src dst x, t, p, af, none⟩ :: rest) env L D :=
  wpl_any (σ := Value) rfl rfl (fun u => (d, u) :: env) (fun _ => L) (fun u => (⟨u, s.data.toList⟩ : Atom) :: D) (fun a w f st dh => by
    have hrun := run_bytes_of_string (P := c.P) w src dst e s hs hd he
    have hge := grownCap_ge w s.size 0 e
    have hle := grownCap_le_maxLen w s.size 0 e (by simp only [maxLen]; omega)
    generalize hC : grownCap w s.size 0 e = C at hrun hge hle
    have hstp : Stp [] w (w.drew.alloc (.cells (bytesRow s C) e ((bytesRow s C).size, (bytesRow s C).size + 1))) := (Stp.drew [] w).trans (Stp.alloc [] w.drew _)
    refine ⟨.slice (some ⟨w.heap.size, 0, none⟩) s.size C, _, _, by simp only [execOp, f.ev hx, Sem.run_bind, hrun, Result.andThen_ok, Sem.run_pure], f.put _ (lt_blt hn), st.step hstp, DH.cons ⟨rfl, ?_⟩ (dh.step hstp.nil)⟩
    have hlen : s.data.toList.length = s.size := Array.length_toList
    refine ⟨some ⟨w.heap.size, 0, none⟩, C, by rw [hlen]; rfl, by rw [hlen]; exact hge, by simpa only [maxLen] using hle, by rw [hlen]; omega, fun _ => ⟨w.heap.size, 0, rfl, ⟨?_, fun hx => ?_⟩, fun i x hx => ⟨[.int .u8 (x.toNat : Int)], ⟨rfl, trivial⟩, fun j u hu => ?_⟩⟩⟩
    · show w.heap.size < (w.heap.push _).size
      simp
    · have := st.lt _ hx; omega
    · have hj : j = 0 := by
        have := (List.getElem?_eq_some_iff.1 hu).1
        simp at this
        omega
      subst hj
      simp at hu
      subst hu
      have hnew : (w.drew.alloc (.cells (bytesRow s C) e ((bytesRow s C).size, (bytesRow s C).size + 1))).heap[w.heap.size]? = some (.cells (bytesRow s C) e ((bytesRow s C).size, (bytesRow s C).size + 1)) := heap_alloc_new w.drew _
      have hi : i < s.data.size := by
        have := (List.getElem?_eq_some_iff.1 hx).1
        simpa using this
      rw [cell_of_row _ _ _ _ _ _ hnew]
      have hx' : s.data[i]? = some x := by simpa using hx
      have hsz : Rep.size UInt8 = 1 := rfl
      simp only [bytesRow, hsz, Nat.zero_add, Nat.mul_one, Nat.add_zero]
      rw [Array.getElem?_append_left (by simpa using hi)]
      simp [hx']) k
end
end Go.Eng
