/- Part 2 of the proof of auditOrder_holds: Eng2. Every text below begins with what it shows. -/
import Derived.Test.YtmpoffijcfaalaaGreatAu1

/- How data lies in memory (numbers, texts, lists, structs), the call's own variables, and the operations that only reckon. Generic: no program. -/

namespace Go.Eng

/-! ### Data -/

def InI (x : Int) : Prop := -9223372036854775808 ≤ x ∧ x ≤ 9223372036854775807

/-- A type whose things take one cell that says all. -/
@[reducible] def Rep.cell {α : Type} (f : α → Value) (wf : α → Prop) (h1 : ∀ x, (f x).oneCell' = true := by intro x; rfl) : Rep α where
  size := 1
  agg := false
  rd _ _ cs x := cs = [f x] ∧ wf x
  len h := by rw [h.1]; rfl
  one h := by rw [h.1]; intro u hu; simp at hu; rw [hu]; exact h1 _
  keep h _ _ := h

instance repInt : Rep Int := Rep.cell (fun x => .int .i64 x) InI
instance repBool : Rep Bool := Rep.cell (fun x => .bool x) (fun _ => True)
instance repByte : Rep UInt8 := Rep.cell (fun x => .int .u8 (x.toNat : Int)) (fun _ => True)
instance repStr : Rep ByteArray := Rep.cell (fun x => .string x) (fun x => x.size ≤ 9223372036854775807)
instance repU64 : Rep UInt64 := Rep.cell (fun x => .int .u64 (x.toNat : Int)) (fun _ => True)
instance repU32 : Rep UInt32 := Rep.cell (fun x => .int .u32 (x.toNat : Int)) (fun _ => True)

/-- A thing that its cell says whole. -/
class CellR {α : Type} (r : Rep α) where
  g : α → Value
  wf : α → Prop
  h : ∀ {S w cs x}, r.rd S w cs x → cs = [g x] ∧ wf x
@[reducible] instance cellInt : CellR repInt := ⟨fun x => .int .i64 x, InI, fun h => h⟩
@[reducible] instance cellByte : CellR repByte := ⟨fun x => .int .u8 (x.toNat : Int), fun _ => True, fun h => h⟩
@[reducible] instance cellStr : CellR repStr := ⟨fun x => .string x, fun x => x.size ≤ 9223372036854775807, fun h => h⟩
/-- The cells cs lie from place o of block b on. -/
def Lies (w : World) (b o : Nat) (cs : List Value) : Prop := ∀ j u, cs[j]? = some u → w.cell? ⟨b, o + j, none⟩ = some u

theorem Lies.keep {w w' : World} {b o : Nat} {cs : List Value} (h : Lies w b o cs) (hw : w'.heap[b]? = w.heap[b]?) : Lies w' b o cs :=
  fun j u hu => (World.cell?_of_block (w := w) (a := ⟨b, o + j, none⟩) hw).trans (h j u hu)

def rdSlice {α : Type} [Rep α] (S : Nat → Prop) (w : World) (cs : List Value) (xs : List α) : Prop :=
  ∃ A c, cs = [.slice A xs.length c] ∧ xs.length ≤ c ∧ c ≤ 9223372036854775807 ∧ xs.length ≤ 9223372036854775807 ∧
    (xs ≠ [] → ∃ b o, A = some ⟨b, o, none⟩ ∧ S b ∧ ∀ i x, xs[i]? = some x → ∃ ds, Rep.rd S w ds x ∧ Lies w b (o + i * Rep.size α) ds)

instance repList {α : Type} [Rep α] : Rep (List α) where
  size := 1
  agg := false
  rd := rdSlice
  len := by rintro S w cs x ⟨A, c, rfl, _⟩; rfl
  one := by rintro S w cs x ⟨A, c, rfl, _⟩ u hu; simp at hu; rw [hu]; rfl
  keep := by
    rintro S S' w w' cs xs ⟨A, c, rfl, h1, h2, h3, h4⟩ hs hw
    refine ⟨A, c, rfl, h1, h2, h3, fun hx => ?_⟩
    obtain ⟨b, o, hA, hb, hi⟩ := h4 hx
    refine ⟨b, o, hA, hs b hb, fun i x hx => ?_⟩
    obtain ⟨ds, hd, hl⟩ := hi i x hx
    exact ⟨ds, Rep.keep hd hs hw, hl.keep (hw b hb)⟩

/-- A struct: its cells, of its data and what is hidden (the values of its slices), and what those read as. -/
structure Shape (α : Type) where
  H : Type
  size : Nat
  cells : α → H → List Value
  sub : α → H → List Atom
  wf : α → Prop
  len : ∀ x h, (cells x h).length = size
  one : ∀ {S w} x h, (∀ t ∈ sub x h, t.holds S w) → ∀ u ∈ cells x h, u.oneCell' = true

@[reducible] def Rep.ofShape {α : Type} (s : Shape α) : Rep α where
  size := s.size
  agg := true
  rd S w cs x := ∃ h, cs = s.cells x h ∧ (∀ t ∈ s.sub x h, t.holds S w) ∧ s.wf x
  len := by rintro S w cs x ⟨h, rfl, _⟩; exact s.len x h
  one := by rintro S w cs x ⟨h, rfl, h1, _⟩; exact s.one x h h1
  keep := by
    rintro S S' w w' cs x ⟨h, rfl, h1, h2⟩ hs hw
    exact ⟨h, rfl, fun t ht => Atom.keep (h1 t ht) hs hw, h2⟩

/-- A pointer to something that stays as it is. -/
structure Pt (α : Type) where
  x : α
instance repPt {α : Type} [Rep α] : Rep (Pt α) where
  size := 1
  agg := false
  rd S w cs p := ∃ b o ds, cs = [.pointer (some ⟨b, o, none⟩)] ∧ S b ∧ Rep.rd S w ds p.x ∧ Lies w b o ds
  len := by rintro S w cs x ⟨b, o, ds, rfl, _⟩; rfl
  one := by rintro S w cs x ⟨b, o, ds, rfl, _⟩ u hu; simp at hu; rw [hu]; rfl
  keep := by
    rintro S S' w w' cs p ⟨b, o, ds, rfl, h1, h2, h3⟩ hs hw
    exact ⟨b, o, ds, rfl, hs b h1, Rep.keep h2 hs hw, h3.keep (hw b h1)⟩

/-! ### The call's own variables -/

/-- A block, known whole: its cells, of element type T. -/
@[reducible] def bl (b : Nat) (T : TypeId) (cs : List Value) : OwnE where
  bs := [b]
  holds _ w := w.heap[b]? = some (.cells cs.toArray T (0, 0))
  valid h b' hb := by simp at hb; subst hb; exact lt_of_heap h
  keep h _ hw := (hw b (.inr (by simp))).trans h

def rdL {α : Type} [Rep α] (S : Nat → Prop) (w : World) : List (List Value) → List α → Prop
  | [], [] => True
  | c :: cs, x :: xs => Rep.rd S w c x ∧ rdL S w cs xs
  | _, _ => False

theorem rdL.len {α : Type} [Rep α] {S : Nat → Prop} {w : World} : ∀ {css : List (List Value)} {xs : List α}, rdL S w css xs → css.flatten.length = xs.length * Rep.size α
  | [], [], _ => by simp
  | c :: cs, _ :: xs, h => by
    have h1 := Rep.len h.1
    have h2 := rdL.len h.2
    rw [List.flatten_cons, List.length_append, h1, h2, List.length_cons, Nat.succ_mul]
    omega
  | [], _ :: _, h => h.elim
  | _ :: _, [], h => h.elim
theorem rdL.one {α : Type} [Rep α] {S : Nat → Prop} {w : World} : ∀ {css : List (List Value)} {xs : List α}, rdL S w css xs → ∀ u ∈ css.flatten, u.oneCell' = true
  | [], [], _, u, hu => by simp at hu
  | c :: cs, _ :: xs, h, u, hu => by
    rw [List.flatten_cons] at hu
    rcases List.mem_append.1 hu with hu | hu
    · exact Rep.one h.1 u hu
    · exact rdL.one h.2 u hu
  | [], _ :: _, h, _, _ => h.elim
  | _ :: _, [], h, _, _ => h.elim
theorem rdL.app {α : Type} [Rep α] {S : Nat → Prop} {w : World} : ∀ {css dss : List (List Value)} {xs ys : List α}, rdL S w css xs → rdL S w dss ys → rdL S w (css ++ dss) (xs ++ ys)
  | [], _, [], _, _, h => h
  | _ :: _, _, _ :: _, _, h, h' => ⟨h.1, rdL.app h.2 h'⟩
  | [], _, _ :: _, _, h, _ => h.elim
  | _ :: _, _, [], _, h, _ => h.elim
theorem rdL.keep {α : Type} [Rep α] {S S' : Nat → Prop} {w w' : World} : ∀ {css : List (List Value)} {xs : List α}, rdL S w css xs → (∀ b, S b → S' b) → (∀ b, S b → w'.heap[b]? = w.heap[b]?) → rdL S' w' css xs
  | [], [], _, _, _ => trivial
  | _ :: _, _ :: _, h, hs, hw => ⟨Rep.keep h.1 hs hw, rdL.keep h.2 hs hw⟩
  | [], _ :: _, h, _, _ => h.elim
  | _ :: _, [], h, _, _ => h.elim

/-- What a block in X was, it is. -/
@[reducible] def fz (X : List Nat) (w0 : World) : OwnE where
  bs := X
  holds _ w := (∀ b ∈ X, w.heap[b]? = w0.heap[b]?) ∧ (∀ b ∈ X, b < w.heap.size)
  valid h := h.2
  keep := by
    intro S S' w w' h _ hw
    have e : ∀ b ∈ X, w'.heap[b]? = w.heap[b]? := fun b hb => hw b (.inr hb)
    refine ⟨fun b hb => (e b hb).trans (h.1 b hb), fun b hb => ?_⟩
    have h1 := e b hb
    rw [Array.getElem?_eq_getElem (h.2 b hb)] at h1
    exact (Array.getElem?_eq_some_iff.1 h1).1

theorem own_valid {v : Value} {w : World} {e : TypeId} {size n : Nat} {xs : List Value} (h : w.ownsRow 0 e size v n xs) : ∀ b ∈ v.ownBlock.toList, b < w.heap.size := by
  intro b hb
  have : v.ownBlock = some b := by simpa using hb
  exact (World.ownsRow.lt h b this).2

/-- A slice of the call's own: nil, or at the head of a block of its own; it may be written, and appended to. -/
@[reducible] def row {α : Type} [Rep α] (e : TypeId) (v : Value) (xs : List α) : OwnE where
  bs := v.ownBlock.toList
  holds S w := ∃ css, w.ownsRow 0 e (Rep.size α) v xs.length css.flatten ∧ rdL S w css xs ∧ xs.length ≤ 140737488355328
  valid := by rintro S w ⟨css, h, _⟩; exact own_valid h
  keep := by
    rintro S S' w w' ⟨css, h1, h2, h3⟩ hs hw
    refine ⟨css, ⟨h1.1, ?_⟩, h2.keep hs (fun b hb => hw b (.inl hb)), h3⟩
    rcases h1.2 with hn | ⟨g, cap, cur, rfl, hb, hg, rest⟩
    · exact .inl hn
    · exact .inr ⟨g, cap, cur, rfl, hb, (hw g (.inr (by simp [Value.ownBlock]))).trans hg, rest⟩

/-! ### Walks of a list of operations: 'WL' (in order), 'WLQ' (a statement whose order is open, where all only read) -/
/-- What both kinds of walks let one do. -/
class IsJ (J : Cx → Array Oper → List Oper → Env → Own → List Atom → Prop) : Prop where
  read : ∀ {c : Cx} {ops : Array Oper} {env : Env} {L : Own} {D : List Atom} {rest : List Oper} {o : Oper} {dst : Option Tmp} {σ : Type}, o.guard = none → o.dst = dst → ∀ (env' : σ → Env) (D' : σ → List Atom),
    (∀ a w, Fr c.n a env → St c.w0 c.M w L → DH D w L → ∃ s u, (∀ w', Stp [] w w' → (execOp a.eval o).run c.P w' = .ok (.value u) w') ∧ Fr c.n (a.put dst u) (env' s) ∧ DH (D' s) w L) →
    (∀ s, J c ops rest (env' s) L (D' s)) → J c ops (o :: rest) env L D
  wantY : ∀ {c : Cx} {ops : Array Oper} {env : Env} {L : Own} {D : List Atom} {rest : List Oper} {dst : Option Tmp} {op : Op} {t : TypeId} {p : String} {af : Array Edge} {g : Option (Nat × Bool)},
    (∀ a w, Fr c.n a env → St c.w0 c.M w L → DH D w L → Region.wanted ⟨dst, op, t, p, af, g⟩ (yielded ops a.tmps) = true) → J c ops (⟨dst, op, t, p, af, none⟩ :: rest) env L D → J c ops (⟨dst, op, t, p, af, g⟩ :: rest) env L D
  wantN : ∀ {c : Cx} {ops : Array Oper} {env env' : Env} {L : Own} {D : List Atom} {rest : List Oper} {o : Oper},
    (∀ a w, Fr c.n a env → St c.w0 c.M w L → DH D w L → Region.wanted o (yielded ops a.tmps) = false ∧ Fr c.n (a.put o.dst undef) env') → J c ops rest env' L D → J c ops (o :: rest) env L D
  mono : ∀ {c : Cx} {ops : Array Oper} {env env' : Env} {L : Own} {D D' : List Atom} {l : List Oper}, (∀ a w, Fr c.n a env → St c.w0 c.M w L → DH D w L → Fr c.n a env' ∧ DH D' w L) → J c ops l env' L D' → J c ops l env L D
  fact : ∀ {c : Cx} {ops : Array Oper} {env : Env} {L : Own} {D : List Atom} {l : List Oper} {q : Prop}, (∀ a w, Fr c.n a env → St c.w0 c.M w L → DH D w L → q) → (q → J c ops l env L D) → J c ops l env L D

instance isJ_WL (Q : Exit → Act → World → Prop) : IsJ (WL Q) where
  read := by
    intro c ops env L D rest o dst σ hg hd env' D' hrun k a w f st dh
    refine wpList_plain hg fun K hK => ?_
    obtain ⟨s, u, hr, f', dh'⟩ := hrun a w f st dh
    unfold Oper.wp
    rw [hr w (Stp.refl _ _)]
    simp only [Oper.upon, hd]
    exact hK _ _ (k s _ _ f' st dh')
  wantY := by
    intro c ops env L D rest dst op t p af g hw k a w f st dh
    have := k a w f st dh
    unfold wpList at this ⊢
    rw [if_pos (hw a w f st dh)]
    rw [if_pos (show Region.wanted ⟨dst, op, t, p, af, none⟩ (yielded ops a.tmps) = true from rfl)] at this
    exact this
  wantN := by
    intro c ops env env' L D rest o hw k a w f st dh
    obtain ⟨h1, h2⟩ := hw a w f st dh
    unfold wpList
    rw [h1]
    simp only [Bool.false_eq_true, if_false]
    exact k _ _ h2 st dh
  mono := by
    intro c ops env env' L D D' l h k a w f st dh
    obtain ⟨h1, h2⟩ := h a w f st dh
    exact k a w h1 st h2
  fact := by
    intro c ops env L D l q h k a w f st dh
    exact k (h a w f st dh) a w f st dh

/-! ### Operations that only reckon -/

theorem wrap_i64_in {n : Int} (h : InI n) : IntKind.i64.wrap n = n := by
  rw [IntKind.wrap_i64]
  unfold InI at h
  omega

section
variable {c : Cx} {ops : Array Oper} {J : Cx → Array Oper → List Oper → Env → Own → List Atom → Prop} [iJ : IsJ J] {env : Env} {L : Own} {D : List Atom} {rest : List Oper} {d : Nat} {v : Value} {t : TypeId} {p : String} {af : Array Edge}
include iJ

theorem pu {o : Oper} (hg : o.guard = none) (hd : o.dst = some d) (hn : Nat.blt d c.n = true) (hrun : ∀ a w, Fr c.n a env → (execOp a.eval o).run c.P w = .ok (.value v) w)
    (k : J c ops rest ((d, v) :: env) L D) : J c ops (o :: rest) env L D :=
  iJ.read (σ := Unit) hg hd (fun _ => (d, v) :: env) (fun _ => D) (fun a w f st dh => ⟨(), v, fun w' _ => hrun a w' f, f.put v (lt_blt hn), dh⟩) (fun _ => k)

/-- An operation whose guard says yes, no. -/
theorem gY {oj : Oper} {j dj : Nat} {b : Bool} (hj : ops[j]? = some oj) (hdj : oj.dst = some dj) (hb : lk env dj = some (.bool b)) {op : Op} {dst : Option Tmp}
    (k : J c ops (⟨dst, op, t, p, af, none⟩ :: rest) env L D) : J c ops (⟨dst, op, t, p, af, some (j, b)⟩ :: rest) env L D :=
  iJ.wantY (fun a w f st dh => by
    have := f.at_ _ _ hb
    simp [Region.wanted, yielded, hj, hdj, this]) k
theorem gN {oj : Oper} {j dj : Nat} {b b' : Bool} (hj : ops[j]? = some oj) (hdj : oj.dst = some dj) (hb : lk env dj = some (.bool b')) (hbb : (b' == b) = false) {op : Op} (hn : Nat.blt d c.n = true)
    (k : J c ops rest ((d, undef) :: env) L D) : J c ops (⟨some d, op, t, p, af, some (j, b)⟩ :: rest) env L D :=
  iJ.wantN (fun a w f st dh => by
    have := f.at_ _ _ hb
    have hne : ¬ b' = b := by simpa using hbb
    exact ⟨by simp [Region.wanted, yielded, hj, hdj, this, hne], f.put undef (lt_blt hn)⟩) k
theorem mv {x : Operand} (hv : ev env x = some v) (hn : Nat.blt d c.n = true) (k : J c ops rest ((d, v) :: env) L D) : J c ops (⟨some d, .move x, t, p, af, none⟩ :: rest) env L D :=
  pu rfl rfl hn (fun a w f => by simp [execOp, f.ev hv]) k
theorem asg {x : Operand} (hv : ev env x = some v) (hn : Nat.blt d c.n = true) (k : J c ops rest ((d, v) :: env) L D) : J c ops (⟨some d, .assign x, t, p, af, none⟩ :: rest) env L D :=
  pu rfl rfl hn (fun a w f => by simp [execOp, f.ev hv]) k
theorem pkT {x y z : Operand} (hx : ev env x = some (.bool true)) (hv : ev env y = some v) (hn : Nat.blt d c.n = true) (k : J c ops rest ((d, v) :: env) L D) : J c ops (⟨some d, .pick x y z, t, p, af, none⟩ :: rest) env L D :=
  pu rfl rfl hn (fun a w f => by simp [execOp, f.ev hx, f.ev hv, asBool]) k
theorem pkF {x y z : Operand} (hx : ev env x = some (.bool false)) (hv : ev env z = some v) (hn : Nat.blt d c.n = true) (k : J c ops rest ((d, v) :: env) L D) : J c ops (⟨some d, .pick x y z, t, p, af, none⟩ :: rest) env L D :=
  pu rfl rfl hn (fun a w f => by simp [execOp, f.ev hx, f.ev hv, asBool]) k
theorem xt {x : Operand} {vs : Array Value} {i : Nat} (hx : ev env x = some (.tuple vs)) (hv : vs[i]? = some v) (hn : Nat.blt d c.n = true) (k : J c ops rest ((d, v) :: env) L D) : J c ops (⟨some d, .extract x i, t, p, af, none⟩ :: rest) env L D :=
  pu rfl rfl hn (fun a w f => by simp [execOp, f.ev hx, Instr.extract, hv]) k
theorem mf {fn : Fn} {xs : List Operand} {vs : List Value} (hx : evs env xs = some vs) (hn : Nat.blt d c.n = true) (k : J c ops rest ((d, .func fn #[] vs.toArray) :: env) L D) : J c ops (⟨some d, .makeFunc fn #[] xs.toArray, t, p, af, none⟩ :: rest) env L D :=
  pu rfl rfl hn (fun a w f => by simp [execOp, Instr.makeFunc, f.evs hx]) k

/-! integers -/
variable {x y : Operand} {q : IntKind} {m n : Int} {xt yt : TypeId}

/-- A sum that the int holds; one that may wrap. -/
theorem adI (hx : ev env x = some (.int .i64 m)) (hy : ev env y = some (.int .i64 n)) (hb : InI (m + n)) (hn : Nat.blt d c.n = true) (k : J c ops rest ((d, .int .i64 (m + n)) :: env) L D) :
    J c ops (⟨some d, .binOp .add xt x y yt, t, p, af, none⟩ :: rest) env L D :=
  pu rfl rfl hn (fun a w f => by simp [execOp, f.ev hx, f.ev hy, eqGuard, binOp, Op.intArith, wrap_i64_in hb]) k
theorem sbI (hx : ev env x = some (.int .i64 m)) (hy : ev env y = some (.int .i64 n)) (hb : InI (m - n)) (hn : Nat.blt d c.n = true) (k : J c ops rest ((d, .int .i64 (m - n)) :: env) L D) :
    J c ops (⟨some d, .binOp .sub xt x y yt, t, p, af, none⟩ :: rest) env L D :=
  pu rfl rfl hn (fun a w f => by simp [execOp, f.ev hx, f.ev hy, eqGuard, binOp, Op.intArith, wrap_i64_in hb]) k
theorem adW (hx : ev env x = some (.int q m)) (hy : ev env y = some (.int q n)) (hn : Nat.blt d c.n = true) (k : J c ops rest ((d, .int q (q.wrap (m + n))) :: env) L D) :
    J c ops (⟨some d, .binOp .add xt x y yt, t, p, af, none⟩ :: rest) env L D :=
  pu rfl rfl hn (fun a w f => by simp [execOp, f.ev hx, f.ev hy, eqGuard, binOp, Op.intArith]) k
theorem muW (hx : ev env x = some (.int q m)) (hy : ev env y = some (.int q n)) (hn : Nat.blt d c.n = true) (k : J c ops rest ((d, .int q (q.wrap (m * n))) :: env) L D) :
    J c ops (⟨some d, .binOp .mul xt x y yt, t, p, af, none⟩ :: rest) env L D :=
  pu rfl rfl hn (fun a w f => by simp [execOp, f.ev hx, f.ev hy, eqGuard, binOp, Op.intArith]) k
/-- The bit operations; a value of one's own choice for what they reckon. -/
def bitV (op : BinOp) (k : IntKind) (x y : Int) : Int :=
  let a := BitVec.ofInt k.bits x
  let b := BitVec.ofInt k.bits y
  match op with
  | .and => k.wrap (a &&& b).toNat
  | .or => k.wrap (a ||| b).toNat
  | .xor => k.wrap (a ^^^ b).toNat
  | .andNot => k.wrap (a &&& ~~~b).toNat
  | _ => 0
theorem btA (hx : ev env x = some (.int q m)) (hy : ev env y = some (.int q n)) {r : Int} (hr : bitV .and q m n = r) (hn : Nat.blt d c.n = true) (k : J c ops rest ((d, .int q r) :: env) L D) :
    J c ops (⟨some d, .binOp .and xt x y yt, t, p, af, none⟩ :: rest) env L D :=
  pu rfl rfl hn (fun a w f => by subst hr; simp [execOp, f.ev hx, f.ev hy, eqGuard, binOp, Op.intBits, bitV]) k
theorem btO (hx : ev env x = some (.int q m)) (hy : ev env y = some (.int q n)) {r : Int} (hr : bitV .or q m n = r) (hn : Nat.blt d c.n = true) (k : J c ops rest ((d, .int q r) :: env) L D) :
    J c ops (⟨some d, .binOp .or xt x y yt, t, p, af, none⟩ :: rest) env L D :=
  pu rfl rfl hn (fun a w f => by subst hr; simp [execOp, f.ev hx, f.ev hy, eqGuard, binOp, Op.intBits, bitV]) k
theorem shL {q' : IntKind} (hx : ev env x = some (.int q m)) (hy : ev env y = some (.int q' n)) (h0 : 0 ≤ n) {r : Int} (hr : q.wrap (m * 2 ^ min n.toNat q.bits) = r) (hn : Nat.blt d c.n = true) (k : J c ops rest ((d, .int q r) :: env) L D) :
    J c ops (⟨some d, .binOp .shl xt x y yt, t, p, af, none⟩ :: rest) env L D :=
  pu rfl rfl hn (fun a w f => by subst hr; simp [execOp, f.ev hx, f.ev hy, eqGuard, binOp, Op.shift, Int.not_lt.2 h0]) k
theorem shR {q' : IntKind} (hx : ev env x = some (.int q m)) (hy : ev env y = some (.int q' n)) (h0 : 0 ≤ n) {r : Int} (hr : m.fdiv (2 ^ min n.toNat q.bits) = r) (hn : Nat.blt d c.n = true) (k : J c ops rest ((d, .int q r) :: env) L D) :
    J c ops (⟨some d, .binOp .shr xt x y yt, t, p, af, none⟩ :: rest) env L D :=
  pu rfl rfl hn (fun a w f => by subst hr; simp [execOp, f.ev hx, f.ev hy, eqGuard, binOp, Op.shift, Int.not_lt.2 h0]) k
/-! comparisons -/
theorem ltI (hx : ev env x = some (.int q m)) (hy : ev env y = some (.int q n)) (hn : Nat.blt d c.n = true) (k : J c ops rest ((d, .bool (decide (m < n))) :: env) L D) :
    J c ops (⟨some d, .binOp .lss xt x y yt, t, p, af, none⟩ :: rest) env L D :=
  pu rfl rfl hn (fun a w f => by simp [execOp, f.ev hx, f.ev hy, eqGuard, binOp, Op.intCmp]) k
theorem leI (hx : ev env x = some (.int q m)) (hy : ev env y = some (.int q n)) (hn : Nat.blt d c.n = true) (k : J c ops rest ((d, .bool (decide (m ≤ n))) :: env) L D) :
    J c ops (⟨some d, .binOp .leq xt x y yt, t, p, af, none⟩ :: rest) env L D :=
  pu rfl rfl hn (fun a w f => by simp [execOp, f.ev hx, f.ev hy, eqGuard, binOp, Op.intCmp]) k
theorem gtI (hx : ev env x = some (.int q m)) (hy : ev env y = some (.int q n)) (hn : Nat.blt d c.n = true) (k : J c ops rest ((d, .bool (decide (n < m))) :: env) L D) :
    J c ops (⟨some d, .binOp .gtr xt x y yt, t, p, af, none⟩ :: rest) env L D :=
  pu rfl rfl hn (fun a w f => by simp [execOp, f.ev hx, f.ev hy, eqGuard, binOp, Op.intCmp]) k
theorem geI (hx : ev env x = some (.int q m)) (hy : ev env y = some (.int q n)) (hn : Nat.blt d c.n = true) (k : J c ops rest ((d, .bool (decide (n ≤ m))) :: env) L D) :
    J c ops (⟨some d, .binOp .geq xt x y yt, t, p, af, none⟩ :: rest) env L D :=
  pu rfl rfl hn (fun a w f => by simp [execOp, f.ev hx, f.ev hy, eqGuard, binOp, Op.intCmp]) k
theorem eqI (hx : ev env x = some (.int q m)) (hy : ev env y = some (.int q n)) (hn : Nat.blt d c.n = true) (k : J c ops rest ((d, .bool (decide (m = n))) :: env) L D) :
    J c ops (⟨some d, .binOp .eql xt x y yt, t, p, af, none⟩ :: rest) env L D :=
  pu rfl rfl hn (fun a w f => by simp [execOp, f.ev hx, f.ev hy, eqGuard, binOp, Op.intCmp]; rfl) k
theorem neI (hx : ev env x = some (.int q m)) (hy : ev env y = some (.int q n)) (hn : Nat.blt d c.n = true) (k : J c ops rest ((d, .bool (!decide (m = n))) :: env) L D) :
    J c ops (⟨some d, .binOp .neq xt x y yt, t, p, af, none⟩ :: rest) env L D :=
  pu rfl rfl hn (fun a w f => by simp [execOp, f.ev hx, f.ev hy, eqGuard, binOp, Op.intCmp]; rfl) k
/-! not, minus, complement -/
theorem nt {b : Bool} (hx : ev env x = some (.bool b)) (hn : Nat.blt d c.n = true) (k : J c ops rest ((d, .bool (!b)) :: env) L D) :
    J c ops (⟨some d, .unOp .not xt x, t, p, af, none⟩ :: rest) env L D :=
  pu rfl rfl hn (fun a w f => by simp [execOp, f.ev hx, Op.unary]) k
theorem ngI (hx : ev env x = some (.int .i64 m)) (hb : InI (-m)) (hn : Nat.blt d c.n = true) (k : J c ops rest ((d, .int .i64 (-m)) :: env) L D) :
    J c ops (⟨some d, .unOp .neg xt x, t, p, af, none⟩ :: rest) env L D :=
  pu rfl rfl hn (fun a w f => by
    simp [execOp, f.ev hx, Op.unary, Op.intArith, wrap_i64_in hb]) k
theorem cpW (hx : ev env x = some (.int q m)) {r : Int} (hr : bitV .xor q (if q.signed then -1 else q.max) m = r) (hn : Nat.blt d c.n = true) (k : J c ops rest ((d, .int q r) :: env) L D) :
    J c ops (⟨some d, .unOp .xor xt x, t, p, af, none⟩ :: rest) env L D :=
  pu rfl rfl hn (fun a w f => by subst hr; simp [execOp, f.ev hx, Op.unary, Op.intBits, bitV]) k
/-- A conversion between integer types. -/
theorem cv {src dst : TypeId} {q' : IntKind} {ds : TypeDesc} (hs : c.P.underlying src = some ds) (hd : c.P.underlying dst = some (.int q')) (hx : ev env x = some (.int q m)) {r : Int} (hr : q'.wrap m = r) (hn : Nat.blt d c.n = true)
    (k : J c ops rest ((d, .int q' r) :: env) L D) : J c ops (⟨some d, .convert src dst x, t, p, af, none⟩ :: rest) env L D :=
  pu rfl rfl hn (fun a w f => by
    subst hr
    simp [execOp, f.ev hx, convert, run_underlying hs, run_underlying hd, Conv.intToInt]) k
end
end Go.Eng
