/- Part 5 of the proof of dutyRoutes_holds: Eng11, Eng19, Eng20, DutO, DutF, DutFE, DutS. Every text below begins with what it shows. -/
import Derived.OpenShut
import Derived.Carry
import Derived.Laws.Small
import Derived.Test.YtmpoffijcfaalaaGreatRows
import Derived.Test.YtmpoffijcfaalaaGreatPart4

/- What every law's row needs ahead of the call and behind it: its arguments opened, and read again as they were. Generic: no program. -/

namespace Go.Eng
open Go.ChangeShapes Go.WideShapes Go.RowKit

theorem struct_len {P : Program} {H : Type} {enc : TypeId × Value → H} {w : World} {fuel : Nat} {T : TypeId} {fs : Array Field} {cs : List Value} {x : DataW H × List MemPlace}
    (hu : P.underlying T = some (.struct fs)) (h : DataW.trod enc P w 0 (fun _ => true) true fuel T cs = some x) : cs.length = P.cellsOf T := by
  obtain ⟨xs, m, _, _, hl, _, _⟩ := DataW.trod_struct hu h
  exact hl
theorem field_opens {P : Program} {H : Type} {enc : TypeId × Value → H} {w : World} {fuel : Nat} {T : TypeId} {fs : Array Field} {cs : List Value} {x : DataW H × List MemPlace}
    (hu : P.underlying T = some (.struct fs)) (h : DataW.trod enc P w 0 (fun _ => true) true fuel T cs = some x) {α : Type} {r : Rep α} (i o n : Nat) {U : TypeId}
    (hf : fs[i]?.map (fun f => (f.type, f.offset)) = some (U, o)) (hn : P.cellsOf U = n) (hU : Opens P U r) : ∃ a : α, r.rd (fun b => b < w.heap.size) w ((cs.drop o).take n) a := by
  obtain ⟨xs, m, _, _, _, hlen, hx⟩ := DataW.trod_struct hu h
  cases hfi : fs[i]? with
  | none => rw [hfi] at hf; cases hf
  | some f =>
    rw [hfi] at hf
    simp only [Option.map_some, Option.some.injEq, Prod.mk.injEq] at hf
    obtain ⟨rfl, rfl⟩ := hf
    subst hn
    have hi : i < xs.length := by rw [hlen]; exact (Array.getElem?_eq_some_iff.1 hfi).1
    have := hx i f hfi
    rw [List.getElem?_eq_getElem hi] at this
    exact hU H enc w m _ _ this

theorem list_each {α : Type} [r : Rep α] {S : Nat → Prop} {w : World} {v : Value} {l : List α} (h : Atom.holds ⟨v, l⟩ S w) : ∀ e ∈ l, ∃ cs, r.rd S w cs e := by
  intro e he
  obtain ⟨_, A, cc, _, _, _, _, h4⟩ := h
  obtain ⟨b, o, _, _, hi⟩ := h4 (List.ne_nil_of_mem he)
  obtain ⟨i, hi2, rfl⟩ := List.getElem_of_mem he
  obtain ⟨cs, hc, _⟩ := hi i _ (List.getElem?_eq_getElem hi2)
  exact ⟨cs, hc⟩

theorem trodAll_below {H : Type} {enc : TypeId × Value → H} {P : Program} (hl : laidOutB P = true) {W W' : World} (hB : Below W.heap.size W W') :
    ∀ (ts : List TypeId) (vs : List Value) (ds : List (DataW H)) (ps : List MemPlace), ts.all (fun t => P.readableRec t && decide (t < P.types.size)) = true →
      DataW.TrodAll enc P W 0 (fun _ => true) true ts vs ds ps → (∀ x ∈ ps, x.block < W.heap.size) → DataW.TrodAll enc P W' 0 (fun b => decide (b < W.heap.size)) true ts vs ds ps
  | [], vs, ds, ps, _, h, _ => by
    obtain ⟨rfl, rfl, rfl⟩ := trodAll_nil h
    exact trodAll_mk0
  | t :: ts, vs, ds, ps, hr, h, hlt => by
    obtain ⟨v, vs', d, ds', p, q, rfl, rfl, rfl, h1, h2⟩ := trodAll_cons h
    simp only [List.all_cons, Bool.and_eq_true, decide_eq_true_eq] at hr
    exact trodAll_cons_mk (Below.trod hl hr.1.1 hr.1.2 h1 hB (fun x hx => hlt x (List.mem_append_left _ hx))) (trodAll_below hl hB ts vs' ds' q hr.2 h2 (fun x hx => hlt x (List.mem_append_right _ hx)))

theorem post_true {H : Type} {enc : TypeId × Value → H} {P : Program} {f : Func} {s : ChangeSpec} {W W' : World} {args : Array Value} {ds : List (DataW H)} {before : List MemPlace} {T : TypeId} (hl : laidOutB P = true)
    (hp : f.params.toList.all (fun t => P.readableRec t && decide (t < P.types.size)) = true) (hsv : s.vars = []) (hr : f.resultTypes = #[T]) (hT : P.underlying T = some .bool)
    (hfn : s.fn H ds = { results := [.lit (.bool true)], args := ds }) (hW : DataW.Whole enc P f.params.toList s.vars false W args.toList ds [] before) (hB : Below W.heap.size W W') :
    s.post enc P f false true false false W args (.bool true) W' := by
  have hlt : ∀ x ∈ before, x.block < W.heap.size := fun x hx => by simpa using hW.lt x hx
  have hW' := hW
  obtain ⟨p, q, hA, hV, rfl, hfz, hnd⟩ := hW'
  rw [hsv] at hV
  obtain ⟨_, rfl⟩ := trodVars_none hV
  refine ⟨ds, [], _, [], p, [], hW, ?_, ?_, ?_, hB.frame _, fun h => by cases h⟩
  · rw [List.append_nil, hfn, hr]
    exact trodAll_mk1 (shut_bool hT true)
  · rw [List.append_nil, hfn]
    exact trodAll_below hl hB _ _ _ _ hp hA (fun x hx => hlt x (List.mem_append_left _ hx))
  · rw [List.append_nil, hfn, hsv]
    rfl

/-- A function that only reads and answers true: its row's postcondition. -/
theorem FnV.post {H : Type} {enc : TypeId × Value → H} {P : Program} {f : FuncId} {fn : Func} {s : ChangeSpec} {W : World} {args : List Value} {As : List Atom} {ds : List (DataW H)} {before : List MemPlace} {T : TypeId} (hl : laidOutB P = true)
    (hp : fn.params.toList.all (fun t => P.readableRec t && decide (t < P.types.size)) = true) (hsv : s.vars = []) (hr : fn.resultTypes = #[T]) (hT : P.underlying T = some .bool)
    (hfn : s.fn H ds = { results := [.lit (.bool true)], args := ds }) (hW : DataW.Whole enc P fn.params.toList s.vars false W args ds [] before)
    (h : FnV P f args As (.bool true)) (hA : ∀ t ∈ As, t.holds (Sf [] W) W) :
    Calls P f args.toArray W fun e W' => ∃ v, e = .returned v ∧ s.post enc P fn false true false false W args.toArray v W' := by
  refine Ret.mono (h [] W (by simp [Own.bs, bsOf]) (by simp) (by simp) (by simpa [Own.bs, bsOf] using hA)) ?_
  rintro v w' ⟨hst, _, rfl, _⟩
  exact post_true hl hp hsv hr hT hfn (by simpa using hW) hst.below
end Go.Eng

/- A field of a value; what the elements of a list are. Generic: no program. -/

namespace Go.Eng
/-- A field that is one cell of its own. -/
def FieldV (P : Program) (s : TypeId) (i off : Nat) : Prop := ∃ fs f d, P.underlying s = some (.struct fs) ∧ fs[i]? = some f ∧ f.offset = off ∧ P.underlying f.type = some d ∧ d.isRow = false
section
variable {c : Cx} {ops : Array Oper} {J : Cx → Array Oper → List Oper → Env → Own → List Atom → Prop} [iJ : IsJ J] {env : Env} {L : Own} {D : List Atom} {rest : List Oper} {d : Nat} {v : Value} {t : TypeId} {p : String} {af : Array Edge}
theorem fd {s : TypeId} {j off : Nat} {x : Operand} {vs : Array Value} {u : Value} (hx : ev env x = some (.agg vs)) (hf : FieldV c.P s j off) (hv : vs[off]? = some u) (hn : Nat.blt d c.n = true) (k : J c ops rest ((d, u) :: env) L D) :
    J c ops (⟨some d, .field s x j, t, p, af, none⟩ :: rest) env L D :=
  pu rfl rfl hn (fun a w f => by
    obtain ⟨fs, q, dd, h1, h2, rfl, h4, h5⟩ := hf
    cases dd <;> simp [TypeDesc.isRow] at h5 <;> simp [execOp, f.ev hx, Instr.field, run_underlying h1, h2, part, isAgg, asAgg, run_underlying h4, hv]) k
theorem eqBo {x y : Operand} {xt yt T : TypeId} {b b' : Bool} (hu : c.P.underlying xt = some .bool) (hx : ev env x = some (.bool b)) (hy : ev env y = some (.bool b')) (hn : Nat.blt d c.n = true) (k : J c ops rest ((d, .bool (decide (b = b'))) :: env) L D) :
    J c ops (⟨some d, .binOp .eql xt x y yt, t, p, af, none⟩ :: rest) env L D :=
  pu rfl rfl hn (fun a w f => by simp [execOp, f.ev hx, f.ev hy, eqGuard, run_eql_bool _ _ _ _ hu]; rfl) k
end
theorem list_wf {α : Type} {s : Shape α} {S : Nat → Prop} {w : World} {v : Value} {xs : List α} (h : Atom.holds (@Atom.mk (List α) (@repList α (Rep.ofShape s)) v xs) S w) : ∀ x ∈ xs, s.wf x := by
  intro x hx
  obtain ⟨ha, A, cc, hsv, _, _, h3, h4⟩ := h
  obtain ⟨b, o, _, _, hi⟩ := h4 (List.ne_nil_of_mem hx)
  obtain ⟨i, hi2, rfl⟩ := List.getElem_of_mem hx
  obtain ⟨cs, hc, _⟩ := hi i _ (List.getElem?_eq_getElem hi2)
  obtain ⟨_, _, _, hw⟩ := hc
  exact hw
theorem getD_mem {α : Type} [Inhabited α] {l : List α} {i : Nat} (h : i < l.length) : l.getD i default ∈ l := by
  have : l.getD i default = l[i] := by simp [List.getD, List.getElem?_eq_getElem h]
  rw [this]
  exact List.getElem_mem h
end Go.Eng

/- Structs that a law is handed, opened field by field. Generic: no program. -/

namespace Go.Eng
open Go.ChangeShapes Go.WideShapes Go.RowKit
theorem cut {α : Type} (cs : List α) (o n m : Nat) (h : o + n = m) : cs.drop o = (cs.drop o).take n ++ cs.drop m := by
  subst h
  rw [← List.drop_drop, List.take_append_drop]
theorem list_atom {α : Type} [r : Rep α] {S : Nat → Prop} {w : World} {cs : List Value} {l : List α} (h : (@repList α r).rd S w cs l) : ∃ k, cs = [k] ∧ Atom.holds ⟨k, l⟩ S w := by
  obtain ⟨A, cc, hcs, hr⟩ := id h
  refine ⟨_, hcs, rfl, ?_⟩
  subst hcs
  exact ⟨A, cc, rfl, hr⟩
theorem arg_struct {P : Program} {H : Type} {enc : TypeId × Value → H} {w : World} {T : TypeId} {fs : Array Field} {α : Type} {r : Rep α} {v : Value} {d : DataW H} {ps : List MemPlace} {rc : Reach} {base : Nat}
    (hu : P.underlying T = some (.struct fs)) (hO : Opens P T r) (hv : Value.okWide P w rc base T v) (h : DataW.Trod enc P w 0 (fun _ => true) true T v d ps) :
    ∃ (cs : List Value) (x : α), v = .agg cs.toArray ∧ r.rd (Sf [] w) w cs x := by
  obtain ⟨fuel, hf⟩ := h
  obtain ⟨cs, rfl, _⟩ := okWide_struct hu hv
  obtain ⟨x, hx⟩ := hO H enc w fuel _ _ hf
  exact ⟨cs.toList, x, by simp, Rep.keep (self := r) hx (fun b hb => ⟨hb, by simp⟩) (fun _ _ => rfl)⟩
end Go.Eng

/- The arguments of the laws, opened: written by specs7.py. -/

namespace Go.Proofs.YtmpoffijcfaalaaGreat
open Go.Eng Go.YtmpoffijcfaalaaGreat

theorem cells_3 : Tryz.prog.cellsOf 3 = 1 := by kernel_rfl
theorem opens_3 : Opens Tryz.prog 3 repInt := opens_int Tryz.underlying3
theorem cells_9 : Tryz.prog.cellsOf 9 = 1 := by kernel_rfl
theorem opens_9 : Opens Tryz.prog 9 repStr := opens_str Tryz.underlying9
theorem cells_90 : Tryz.prog.cellsOf 90 = 3 := by kernel_rfl
theorem opens_90 : Opens Tryz.prog 90 rPlace := by
 intro H enc w fuel cs x h
 have hl := struct_len Tryz.underlying90 h
 rw [cells_90] at hl
 obtain ⟨x0, e0, w0⟩ := field_opens Tryz.underlying90 h 0 0 1 rfl cells_3 opens_3
 obtain ⟨x1, e1, w1⟩ := field_opens Tryz.underlying90 h 1 1 1 rfl cells_9 opens_9
 obtain ⟨x2, e2, w2⟩ := field_opens Tryz.underlying90 h 2 2 1 rfl cells_3 opens_3
 have h0 : cs = cs.drop 0 := rfl
 rw [cut cs 0 1 1 rfl, e0, cut cs 1 1 2 rfl, e1, cut cs 2 1 3 rfl, e2, List.drop_eq_nil_of_le (Nat.le_of_eq hl)] at h0
 exact ⟨⟨x0, x1, x2⟩, (), h0, by simp, w0, w1, w2⟩
theorem cells_22 : Tryz.prog.cellsOf 22 = 1 := by kernel_rfl
theorem opens_22 : Opens Tryz.prog 22 (@repList TPlace rPlace) := opens_list Tryz.underlying22 cells_90 (by decide) opens_90
theorem cells_24 : Tryz.prog.cellsOf 24 = 7 := by kernel_rfl
theorem opens_24 : Opens Tryz.prog 24 rPlan := by
 intro H enc w fuel cs x h
 have hl := struct_len Tryz.underlying24 h
 rw [cells_24] at hl
 obtain ⟨x0, e0, w0⟩ := field_opens Tryz.underlying24 h 0 0 1 rfl cells_3 opens_3
 obtain ⟨x1, e1, w1⟩ := field_opens Tryz.underlying24 h 1 1 1 rfl cells_3 opens_3
 obtain ⟨x2, e2, w2⟩ := field_opens Tryz.underlying24 h 2 2 1 rfl cells_3 opens_3
 obtain ⟨x3, e3, w3⟩ := field_opens Tryz.underlying24 h 3 3 1 rfl cells_9 opens_9
 obtain ⟨x4, e4, w4⟩ := field_opens Tryz.underlying24 h 4 4 1 rfl cells_9 opens_9
 obtain ⟨x5, e5, w5⟩ := field_opens Tryz.underlying24 h 5 5 1 rfl cells_3 opens_3
 obtain ⟨x6, e6, w6⟩ := field_opens Tryz.underlying24 h 6 6 1 rfl cells_3 opens_3
 have h0 : cs = cs.drop 0 := rfl
 rw [cut cs 0 1 1 rfl, e0, cut cs 1 1 2 rfl, e1, cut cs 2 1 3 rfl, e2, cut cs 3 1 4 rfl, e3, cut cs 4 1 5 rfl, e4, cut cs 5 1 6 rfl, e5, cut cs 6 1 7 rfl, e6, List.drop_eq_nil_of_le (Nat.le_of_eq hl)] at h0
 exact ⟨⟨x0, x1, x2, x3, x4, x5, x6⟩, (), h0, by simp, w0, w1, w2, w3, w4, w5, w6⟩
theorem cells_4 : Tryz.prog.cellsOf 4 = 1 := by kernel_rfl
theorem opens_4 : Opens Tryz.prog 4 repBool := opens_bool Tryz.underlying4
theorem cells_38 : Tryz.prog.cellsOf 38 = 1 := by kernel_rfl
theorem opens_38 : Opens Tryz.prog 38 repInt := opens_int Tryz.underlying38
theorem cells_120 : Tryz.prog.cellsOf 120 = 4 := by kernel_rfl
theorem opens_120 : Opens Tryz.prog 120 rAnswer := by
 intro H enc w fuel cs x h
 have hl := struct_len Tryz.underlying120 h
 rw [cells_120] at hl
 obtain ⟨x0, e0, w0⟩ := field_opens Tryz.underlying120 h 0 0 1 rfl cells_38 opens_38
 obtain ⟨x1, e1, w1⟩ := field_opens Tryz.underlying120 h 1 1 1 rfl cells_3 opens_3
 obtain ⟨x2, e2, w2⟩ := field_opens Tryz.underlying120 h 2 2 1 rfl cells_3 opens_3
 obtain ⟨x3, e3, w3⟩ := field_opens Tryz.underlying120 h 3 3 1 rfl cells_3 opens_3
 have h0 : cs = cs.drop 0 := rfl
 rw [cut cs 0 1 1 rfl, e0, cut cs 1 1 2 rfl, e1, cut cs 2 1 3 rfl, e2, cut cs 3 1 4 rfl, e3, List.drop_eq_nil_of_le (Nat.le_of_eq hl)] at h0
 exact ⟨⟨x0, x1, x2, x3⟩, (), h0, by simp, w0, w1, w2, w3⟩
theorem cells_122 : Tryz.prog.cellsOf 122 = 7 := by kernel_rfl
theorem opens_122 : Opens Tryz.prog 122 rMark := by
 intro H enc w fuel cs x h
 have hl := struct_len Tryz.underlying122 h
 rw [cells_122] at hl
 obtain ⟨x0, e0, w0⟩ := field_opens Tryz.underlying122 h 0 0 1 rfl cells_3 opens_3
 obtain ⟨x1, e1, w1⟩ := field_opens Tryz.underlying122 h 1 1 1 rfl cells_3 opens_3
 obtain ⟨x2, e2, w2⟩ := field_opens Tryz.underlying122 h 2 2 1 rfl cells_4 opens_4
 obtain ⟨x3, h3, e3, s3, w3⟩ := field_opens Tryz.underlying122 h 3 3 4 rfl cells_120 opens_120
 have h0 : cs = cs.drop 0 := rfl
 rw [cut cs 0 1 1 rfl, e0, cut cs 1 1 2 rfl, e1, cut cs 2 1 3 rfl, e2, cut cs 3 4 7 rfl, e3, List.drop_eq_nil_of_le (Nat.le_of_eq hl)] at h0
 exact ⟨⟨x0, x1, x2, x3⟩, (), h0, by simp, w0, w1, trivial, w3⟩
theorem cells_25 : Tryz.prog.cellsOf 25 = 1 := by kernel_rfl
theorem opens_25 : Opens Tryz.prog 25 (@repList TMark rMark) := opens_list Tryz.underlying25 cells_122 (by decide) opens_122
theorem cells_27 : Tryz.prog.cellsOf 27 = 12 := by kernel_rfl
theorem opens_27 : Opens Tryz.prog 27 rChart := by
 intro H enc w fuel cs x h
 have hl := struct_len Tryz.underlying27 h
 rw [cells_27] at hl
 obtain ⟨x0, e0, w0⟩ := field_opens Tryz.underlying27 h 0 0 1 rfl cells_3 opens_3
 obtain ⟨x1, r1⟩ := field_opens Tryz.underlying27 h 1 1 1 rfl cells_22 opens_22
 obtain ⟨k1, e1, a1⟩ := list_atom r1
 obtain ⟨x2, e2, w2⟩ := field_opens Tryz.underlying27 h 2 2 1 rfl cells_3 opens_3
 obtain ⟨x3, e3, w3⟩ := field_opens Tryz.underlying27 h 3 3 1 rfl cells_3 opens_3
 obtain ⟨x4, h4, e4, s4, w4⟩ := field_opens Tryz.underlying27 h 4 4 7 rfl cells_24 opens_24
 obtain ⟨x5, r5⟩ := field_opens Tryz.underlying27 h 5 11 1 rfl cells_25 opens_25
 obtain ⟨k5, e5, a5⟩ := list_atom r5
 have h0 : cs = cs.drop 0 := rfl
 rw [cut cs 0 1 1 rfl, e0, cut cs 1 1 2 rfl, e1, cut cs 2 1 3 rfl, e2, cut cs 3 1 4 rfl, e3, cut cs 4 7 11 rfl, e4, cut cs 11 1 12 rfl, e5, List.drop_eq_nil_of_le (Nat.le_of_eq hl)] at h0
 exact ⟨⟨x0, x1, x2, x3, x4, x5⟩, ⟨k1, k5⟩, h0, fun t ht => by
  simp only [List.mem_cons, List.not_mem_nil, or_false] at ht
  rcases ht with rfl | rfl
  ·
   exact a1
  ·
   exact a5, w0, trivial, w2, w3, w4, trivial⟩
theorem cells_65 : Tryz.prog.cellsOf 65 = 2 := by kernel_rfl
theorem opens_65 : Opens Tryz.prog 65 rSpan := by
 intro H enc w fuel cs x h
 have hl := struct_len Tryz.underlying65 h
 rw [cells_65] at hl
 obtain ⟨x0, e0, w0⟩ := field_opens Tryz.underlying65 h 0 0 1 rfl cells_3 opens_3
 obtain ⟨x1, e1, w1⟩ := field_opens Tryz.underlying65 h 1 1 1 rfl cells_3 opens_3
 have h0 : cs = cs.drop 0 := rfl
 rw [cut cs 0 1 1 rfl, e0, cut cs 1 1 2 rfl, e1, List.drop_eq_nil_of_le (Nat.le_of_eq hl)] at h0
 exact ⟨⟨x0, x1⟩, (), h0, by simp, w0, w1⟩
theorem cells_165 : Tryz.prog.cellsOf 165 = 4 := by kernel_rfl
theorem opens_165 : Opens Tryz.prog 165 rHolder := by
 intro H enc w fuel cs x h
 have hl := struct_len Tryz.underlying165 h
 rw [cells_165] at hl
 obtain ⟨x0, e0, w0⟩ := field_opens Tryz.underlying165 h 0 0 1 rfl cells_3 opens_3
 obtain ⟨x1, e1, w1⟩ := field_opens Tryz.underlying165 h 1 1 1 rfl cells_3 opens_3
 obtain ⟨x2, e2, w2⟩ := field_opens Tryz.underlying165 h 2 2 1 rfl cells_3 opens_3
 obtain ⟨x3, e3, w3⟩ := field_opens Tryz.underlying165 h 3 3 1 rfl cells_3 opens_3
 have h0 : cs = cs.drop 0 := rfl
 rw [cut cs 0 1 1 rfl, e0, cut cs 1 1 2 rfl, e1, cut cs 2 1 3 rfl, e2, cut cs 3 1 4 rfl, e3, List.drop_eq_nil_of_le (Nat.le_of_eq hl)] at h0
 exact ⟨⟨x0, x1, x2, x3⟩, (), h0, by simp, w0, w1, w2, w3⟩
theorem cells_66 : Tryz.prog.cellsOf 66 = 1 := by kernel_rfl
theorem opens_66 : Opens Tryz.prog 66 (@repList THolder rHolder) := opens_list Tryz.underlying66 cells_165 (by decide) opens_165
theorem cells_68 : Tryz.prog.cellsOf 68 = 4 := by kernel_rfl
theorem opens_68 : Opens Tryz.prog 68 rLock := by
 intro H enc w fuel cs x h
 have hl := struct_len Tryz.underlying68 h
 rw [cells_68] at hl
 obtain ⟨x0, e0, w0⟩ := field_opens Tryz.underlying68 h 0 0 1 rfl cells_3 opens_3
 obtain ⟨x1, e1, w1⟩ := field_opens Tryz.underlying68 h 1 1 1 rfl cells_3 opens_3
 obtain ⟨x2, e2, w2⟩ := field_opens Tryz.underlying68 h 2 2 1 rfl cells_3 opens_3
 obtain ⟨x3, e3, w3⟩ := field_opens Tryz.underlying68 h 3 3 1 rfl cells_3 opens_3
 have h0 : cs = cs.drop 0 := rfl
 rw [cut cs 0 1 1 rfl, e0, cut cs 1 1 2 rfl, e1, cut cs 2 1 3 rfl, e2, cut cs 3 1 4 rfl, e3, List.drop_eq_nil_of_le (Nat.le_of_eq hl)] at h0
 exact ⟨⟨x0, x1, x2, x3⟩, (), h0, by simp, w0, w1, w2, w3⟩
theorem cells_70 : Tryz.prog.cellsOf 70 = 10 := by kernel_rfl
theorem opens_70 : Opens Tryz.prog 70 rAccount := by
 intro H enc w fuel cs x h
 have hl := struct_len Tryz.underlying70 h
 rw [cells_70] at hl
 obtain ⟨x0, e0, w0⟩ := field_opens Tryz.underlying70 h 0 0 1 rfl cells_9 opens_9
 obtain ⟨x1, h1, e1, s1, w1⟩ := field_opens Tryz.underlying70 h 1 1 2 rfl cells_65 opens_65
 obtain ⟨x2, e2, w2⟩ := field_opens Tryz.underlying70 h 2 3 1 rfl cells_3 opens_3
 obtain ⟨x3, e3, w3⟩ := field_opens Tryz.underlying70 h 3 4 1 rfl cells_3 opens_3
 obtain ⟨x4, r4⟩ := field_opens Tryz.underlying70 h 4 5 1 rfl cells_66 opens_66
 obtain ⟨k4, e4, a4⟩ := list_atom r4
 obtain ⟨x5, h5, e5, s5, w5⟩ := field_opens Tryz.underlying70 h 5 6 4 rfl cells_68 opens_68
 have h0 : cs = cs.drop 0 := rfl
 rw [cut cs 0 1 1 rfl, e0, cut cs 1 2 3 rfl, e1, cut cs 3 1 4 rfl, e2, cut cs 4 1 5 rfl, e3, cut cs 5 1 6 rfl, e4, cut cs 6 4 10 rfl, e5, List.drop_eq_nil_of_le (Nat.le_of_eq hl)] at h0
 exact ⟨⟨x0, x1, x2, x3, x4, x5⟩, k4, h0, fun t ht => by
  simp only [List.mem_cons, List.not_mem_nil, or_false] at ht
  subst ht
  ·
   exact a4, w0, w1, w2, w3, trivial, w5⟩
theorem cells_50 : Tryz.prog.cellsOf 50 = 1 := by kernel_rfl
theorem opens_50 : Opens Tryz.prog 50 (@repList TAccount rAccount) := opens_list Tryz.underlying50 cells_70 (by decide) opens_70
theorem cells_34 : Tryz.prog.cellsOf 34 = 6 := by kernel_rfl
theorem opens_34 : Opens Tryz.prog 34 rOp := by
 intro H enc w fuel cs x h
 have hl := struct_len Tryz.underlying34 h
 rw [cells_34] at hl
 obtain ⟨x0, e0, w0⟩ := field_opens Tryz.underlying34 h 0 0 1 rfl cells_3 opens_3
 obtain ⟨x1, e1, w1⟩ := field_opens Tryz.underlying34 h 1 1 1 rfl cells_9 opens_9
 obtain ⟨x2, e2, w2⟩ := field_opens Tryz.underlying34 h 2 2 1 rfl cells_9 opens_9
 obtain ⟨x3, e3, w3⟩ := field_opens Tryz.underlying34 h 3 3 1 rfl cells_3 opens_3
 obtain ⟨x4, e4, w4⟩ := field_opens Tryz.underlying34 h 4 4 1 rfl cells_3 opens_3
 obtain ⟨x5, e5, w5⟩ := field_opens Tryz.underlying34 h 5 5 1 rfl cells_3 opens_3
 have h0 : cs = cs.drop 0 := rfl
 rw [cut cs 0 1 1 rfl, e0, cut cs 1 1 2 rfl, e1, cut cs 2 1 3 rfl, e2, cut cs 3 1 4 rfl, e3, cut cs 4 1 5 rfl, e4, cut cs 5 1 6 rfl, e5, List.drop_eq_nil_of_le (Nat.le_of_eq hl)] at h0
 exact ⟨⟨x0, x1, x2, x3, x4, x5⟩, (), h0, by simp, w0, w1, w2, w3, w4, w5⟩
theorem cells_108 : Tryz.prog.cellsOf 108 = 11 := by kernel_rfl
theorem opens_108 : Opens Tryz.prog 108 rWait := by
 intro H enc w fuel cs x h
 have hl := struct_len Tryz.underlying108 h
 rw [cells_108] at hl
 obtain ⟨x0, e0, w0⟩ := field_opens Tryz.underlying108 h 0 0 1 rfl cells_3 opens_3
 obtain ⟨x1, e1, w1⟩ := field_opens Tryz.underlying108 h 1 1 1 rfl cells_3 opens_3
 obtain ⟨x2, e2, w2⟩ := field_opens Tryz.underlying108 h 2 2 1 rfl cells_3 opens_3
 obtain ⟨x3, e3, w3⟩ := field_opens Tryz.underlying108 h 3 3 1 rfl cells_3 opens_3
 obtain ⟨x4, e4, w4⟩ := field_opens Tryz.underlying108 h 4 4 1 rfl cells_3 opens_3
 obtain ⟨x5, h5, e5, s5, w5⟩ := field_opens Tryz.underlying108 h 5 5 6 rfl cells_34 opens_34
 have h0 : cs = cs.drop 0 := rfl
 rw [cut cs 0 1 1 rfl, e0, cut cs 1 1 2 rfl, e1, cut cs 2 1 3 rfl, e2, cut cs 3 1 4 rfl, e3, cut cs 4 1 5 rfl, e4, cut cs 5 6 11 rfl, e5, List.drop_eq_nil_of_le (Nat.le_of_eq hl)] at h0
 exact ⟨⟨x0, x1, x2, x3, x4, x5⟩, (), h0, by simp, w0, w1, w2, w3, w4, w5⟩
theorem cells_51 : Tryz.prog.cellsOf 51 = 1 := by kernel_rfl
theorem opens_51 : Opens Tryz.prog 51 (@repList TWait rWait) := opens_list Tryz.underlying51 cells_108 (by decide) opens_108
theorem cells_126 : Tryz.prog.cellsOf 126 = 8 := by kernel_rfl
theorem opens_126 : Opens Tryz.prog 126 rDeal := by
 intro H enc w fuel cs x h
 have hl := struct_len Tryz.underlying126 h
 rw [cells_126] at hl
 obtain ⟨x0, e0, w0⟩ := field_opens Tryz.underlying126 h 0 0 1 rfl cells_3 opens_3
 obtain ⟨x1, e1, w1⟩ := field_opens Tryz.underlying126 h 1 1 1 rfl cells_3 opens_3
 obtain ⟨x2, e2, w2⟩ := field_opens Tryz.underlying126 h 2 2 1 rfl cells_9 opens_9
 obtain ⟨x3, e3, w3⟩ := field_opens Tryz.underlying126 h 3 3 1 rfl cells_9 opens_9
 obtain ⟨x4, e4, w4⟩ := field_opens Tryz.underlying126 h 4 4 1 rfl cells_3 opens_3
 obtain ⟨x5, e5, w5⟩ := field_opens Tryz.underlying126 h 5 5 1 rfl cells_3 opens_3
 obtain ⟨x6, e6, w6⟩ := field_opens Tryz.underlying126 h 6 6 1 rfl cells_3 opens_3
 obtain ⟨x7, e7, w7⟩ := field_opens Tryz.underlying126 h 7 7 1 rfl cells_3 opens_3
 have h0 : cs = cs.drop 0 := rfl
 rw [cut cs 0 1 1 rfl, e0, cut cs 1 1 2 rfl, e1, cut cs 2 1 3 rfl, e2, cut cs 3 1 4 rfl, e3, cut cs 4 1 5 rfl, e4, cut cs 5 1 6 rfl, e5, cut cs 6 1 7 rfl, e6, cut cs 7 1 8 rfl, e7, List.drop_eq_nil_of_le (Nat.le_of_eq hl)] at h0
 exact ⟨⟨x0, x1, x2, x3, x4, x5, x6, x7⟩, (), h0, by simp, w0, w1, w2, w3, w4, w5, w6, w7⟩
theorem cells_52 : Tryz.prog.cellsOf 52 = 1 := by kernel_rfl
theorem opens_52 : Opens Tryz.prog 52 (@repList TDeal rDeal) := opens_list Tryz.underlying52 cells_126 (by decide) opens_126
theorem cells_129 : Tryz.prog.cellsOf 129 = 2 := by kernel_rfl
theorem opens_129 : Opens Tryz.prog 129 rEnd := by
 intro H enc w fuel cs x h
 have hl := struct_len Tryz.underlying129 h
 rw [cells_129] at hl
 obtain ⟨x0, e0, w0⟩ := field_opens Tryz.underlying129 h 0 0 1 rfl cells_3 opens_3
 obtain ⟨x1, e1, w1⟩ := field_opens Tryz.underlying129 h 1 1 1 rfl cells_3 opens_3
 have h0 : cs = cs.drop 0 := rfl
 rw [cut cs 0 1 1 rfl, e0, cut cs 1 1 2 rfl, e1, List.drop_eq_nil_of_le (Nat.le_of_eq hl)] at h0
 exact ⟨⟨x0, x1⟩, (), h0, by simp, w0, w1⟩
theorem cells_53 : Tryz.prog.cellsOf 53 = 1 := by kernel_rfl
theorem opens_53 : Opens Tryz.prog 53 (@repList TEnd rEnd) := opens_list Tryz.underlying53 cells_129 (by decide) opens_129
theorem cells_5 : Tryz.prog.cellsOf 5 = 1 := by kernel_rfl
theorem opens_5 : Opens Tryz.prog 5 repByte := opens_byte Tryz.underlying5
theorem cells_35 : Tryz.prog.cellsOf 35 = 1 := by kernel_rfl
theorem opens_35 : Opens Tryz.prog 35 (@repList UInt8 repByte) := opens_list Tryz.underlying35 cells_5 (by decide) opens_5
theorem cells_55 : Tryz.prog.cellsOf 55 = 29 := by kernel_rfl
theorem opens_55 : Opens Tryz.prog 55 rState := by
 intro H enc w fuel cs x h
 have hl := struct_len Tryz.underlying55 h
 rw [cells_55] at hl
 obtain ⟨x0, e0, w0⟩ := field_opens Tryz.underlying55 h 0 0 1 rfl cells_3 opens_3
 obtain ⟨x1, e1, w1⟩ := field_opens Tryz.underlying55 h 1 1 1 rfl cells_3 opens_3
 obtain ⟨x2, e2, w2⟩ := field_opens Tryz.underlying55 h 2 2 1 rfl cells_4 opens_4
 obtain ⟨x3, e3, w3⟩ := field_opens Tryz.underlying55 h 3 3 1 rfl cells_9 opens_9
 obtain ⟨x4, e4, w4⟩ := field_opens Tryz.underlying55 h 4 4 1 rfl cells_9 opens_9
 obtain ⟨x5, e5, w5⟩ := field_opens Tryz.underlying55 h 5 5 1 rfl cells_3 opens_3
 obtain ⟨x6, r6⟩ := field_opens Tryz.underlying55 h 6 6 1 rfl cells_50 opens_50
 obtain ⟨k6, e6, a6⟩ := list_atom r6
 obtain ⟨x7, r7⟩ := field_opens Tryz.underlying55 h 7 7 1 rfl cells_25 opens_25
 obtain ⟨k7, e7, a7⟩ := list_atom r7
 obtain ⟨x8, r8⟩ := field_opens Tryz.underlying55 h 8 8 1 rfl cells_51 opens_51
 obtain ⟨k8, e8, a8⟩ := list_atom r8
 obtain ⟨x9, r9⟩ := field_opens Tryz.underlying55 h 9 9 1 rfl cells_52 opens_52
 obtain ⟨k9, e9, a9⟩ := list_atom r9
 obtain ⟨x10, r10⟩ := field_opens Tryz.underlying55 h 10 10 1 rfl cells_53 opens_53
 obtain ⟨k10, e10, a10⟩ := list_atom r10
 obtain ⟨x11, h11, e11, s11, w11⟩ := field_opens Tryz.underlying55 h 11 11 7 rfl cells_24 opens_24
 obtain ⟨x12, h12, e12, s12, w12⟩ := field_opens Tryz.underlying55 h 12 18 7 rfl cells_24 opens_24
 obtain ⟨x13, r13⟩ := field_opens Tryz.underlying55 h 13 25 1 rfl cells_35 opens_35
 obtain ⟨k13, e13, a13⟩ := list_atom r13
 obtain ⟨x14, e14, w14⟩ := field_opens Tryz.underlying55 h 14 26 1 rfl cells_3 opens_3
 obtain ⟨x15, e15, w15⟩ := field_opens Tryz.underlying55 h 15 27 1 rfl cells_3 opens_3
 obtain ⟨x16, e16, w16⟩ := field_opens Tryz.underlying55 h 16 28 1 rfl cells_3 opens_3
 have h0 : cs = cs.drop 0 := rfl
 rw [cut cs 0 1 1 rfl, e0, cut cs 1 1 2 rfl, e1, cut cs 2 1 3 rfl, e2, cut cs 3 1 4 rfl, e3, cut cs 4 1 5 rfl, e4, cut cs 5 1 6 rfl, e5, cut cs 6 1 7 rfl, e6, cut cs 7 1 8 rfl, e7, cut cs 8 1 9 rfl, e8, cut cs 9 1 10 rfl, e9, cut cs 10 1 11 rfl, e10, cut cs 11 7 18 rfl, e11, cut cs 18 7 25 rfl, e12, cut cs 25 1 26 rfl, e13, cut cs 26 1 27 rfl, e14, cut cs 27 1 28 rfl, e15, cut cs 28 1 29 rfl, e16, List.drop_eq_nil_of_le (Nat.le_of_eq hl)] at h0
 exact ⟨⟨x0, x1, x2, x3, x4, x5, x6, x7, x8, x9, x10, x11, x12, x13, x14, x15, x16⟩, ⟨k6, k7, k8, k9, k10, k13⟩, h0, fun t ht => by
  simp only [List.mem_cons, List.not_mem_nil, or_false] at ht
  rcases ht with rfl | rfl | rfl | rfl | rfl | rfl
  ·
   exact a6
  ·
   exact a7
  ·
   exact a8
  ·
   exact a9
  ·
   exact a10
  ·
   exact a13, w0, w1, trivial, w3, w4, w5, trivial, trivial, trivial, trivial, trivial, w11, w12, trivial, w14, w15, w16⟩
theorem cells_28 : Tryz.prog.cellsOf 28 = 1 := by kernel_rfl
theorem opens_28 : Opens Tryz.prog 28 (@repList TState rState) := opens_list Tryz.underlying28 cells_55 (by decide) opens_55
theorem cells_59 : Tryz.prog.cellsOf 59 = 4 := by kernel_rfl
theorem opens_59 : Opens Tryz.prog 59 rRight := by
 intro H enc w fuel cs x h
 have hl := struct_len Tryz.underlying59 h
 rw [cells_59] at hl
 obtain ⟨x0, e0, w0⟩ := field_opens Tryz.underlying59 h 0 0 1 rfl cells_3 opens_3
 obtain ⟨x1, e1, w1⟩ := field_opens Tryz.underlying59 h 1 1 1 rfl cells_9 opens_9
 obtain ⟨x2, e2, w2⟩ := field_opens Tryz.underlying59 h 2 2 1 rfl cells_3 opens_3
 obtain ⟨x3, e3, w3⟩ := field_opens Tryz.underlying59 h 3 3 1 rfl cells_3 opens_3
 have h0 : cs = cs.drop 0 := rfl
 rw [cut cs 0 1 1 rfl, e0, cut cs 1 1 2 rfl, e1, cut cs 2 1 3 rfl, e2, cut cs 3 1 4 rfl, e3, List.drop_eq_nil_of_le (Nat.le_of_eq hl)] at h0
 exact ⟨⟨x0, x1, x2, x3⟩, (), h0, by simp, w0, w1, w2, w3⟩
theorem cells_29 : Tryz.prog.cellsOf 29 = 1 := by kernel_rfl
theorem opens_29 : Opens Tryz.prog 29 (@repList TRight rRight) := opens_list Tryz.underlying29 cells_59 (by decide) opens_59
theorem cells_62 : Tryz.prog.cellsOf 62 = 3 := by kernel_rfl
theorem opens_62 : Opens Tryz.prog 62 rAge := by
 intro H enc w fuel cs x h
 have hl := struct_len Tryz.underlying62 h
 rw [cells_62] at hl
 obtain ⟨x0, e0, w0⟩ := field_opens Tryz.underlying62 h 0 0 1 rfl cells_3 opens_3
 obtain ⟨x1, e1, w1⟩ := field_opens Tryz.underlying62 h 1 1 1 rfl cells_3 opens_3
 obtain ⟨x2, e2, w2⟩ := field_opens Tryz.underlying62 h 2 2 1 rfl cells_3 opens_3
 have h0 : cs = cs.drop 0 := rfl
 rw [cut cs 0 1 1 rfl, e0, cut cs 1 1 2 rfl, e1, cut cs 2 1 3 rfl, e2, List.drop_eq_nil_of_le (Nat.le_of_eq hl)] at h0
 exact ⟨⟨x0, x1, x2⟩, (), h0, by simp, w0, w1, w2⟩
theorem cells_30 : Tryz.prog.cellsOf 30 = 1 := by kernel_rfl
theorem opens_30 : Opens Tryz.prog 30 (@repList TAge rAge) := opens_list Tryz.underlying30 cells_62 (by decide) opens_62
theorem cells_32 : Tryz.prog.cellsOf 32 = 17 := by kernel_rfl
theorem opens_32 : Opens Tryz.prog 32 rScene := by
 intro H enc w fuel cs x h
 have hl := struct_len Tryz.underlying32 h
 rw [cells_32] at hl
 obtain ⟨x0, e0, w0⟩ := field_opens Tryz.underlying32 h 0 0 1 rfl cells_3 opens_3
 obtain ⟨x1, e1, w1⟩ := field_opens Tryz.underlying32 h 1 1 1 rfl cells_3 opens_3
 obtain ⟨x2, h2, e2, s2, w2⟩ := field_opens Tryz.underlying32 h 2 2 12 rfl cells_27 opens_27
 obtain ⟨x3, r3⟩ := field_opens Tryz.underlying32 h 3 14 1 rfl cells_28 opens_28
 obtain ⟨k3, e3, a3⟩ := list_atom r3
 obtain ⟨x4, r4⟩ := field_opens Tryz.underlying32 h 4 15 1 rfl cells_29 opens_29
 obtain ⟨k4, e4, a4⟩ := list_atom r4
 obtain ⟨x5, r5⟩ := field_opens Tryz.underlying32 h 5 16 1 rfl cells_30 opens_30
 obtain ⟨k5, e5, a5⟩ := list_atom r5
 have h0 : cs = cs.drop 0 := rfl
 rw [cut cs 0 1 1 rfl, e0, cut cs 1 1 2 rfl, e1, cut cs 2 12 14 rfl, e2, cut cs 14 1 15 rfl, e3, cut cs 15 1 16 rfl, e4, cut cs 16 1 17 rfl, e5, List.drop_eq_nil_of_le (Nat.le_of_eq hl)] at h0
 exact ⟨⟨x0, x1, x2, x3, x4, x5⟩, ⟨h2.1, h2.2, k3, k4, k5⟩, h0, fun t ht => by
  simp only [List.mem_cons, List.not_mem_nil, or_false] at ht
  rcases ht with rfl | rfl | rfl | rfl | rfl
  ·
   exact s2 _ (List.mem_cons_self ..)
  ·
   exact s2 _ (List.mem_cons_of_mem _ (List.mem_cons_self ..))
  ·
   exact a3
  ·
   exact a4
  ·
   exact a5, w0, w1, w2, trivial, trivial, trivial⟩
end Go.Proofs.YtmpoffijcfaalaaGreat

/- Closed facts on the program, written by specs2.py. -/

namespace Go.Proofs.YtmpoffijcfaalaaGreat
open Go.Eng

theorem app_220 : AppTy Tryz.prog 220 3 1 8 := AppTy.mk Tryz.underlying220 (by kernel_rfl) (by decide)
theorem arr_294 : ArrTy Tryz.prog 294 4 8 1 := ⟨Tryz.underlying294, by kernel_rfl⟩
theorem ext_220 : Ext Tryz.prog 220 Extern.BytealgCompare.compare := ⟨⟨_, Tryz.func220, by kernel_rfl, by kernel_rfl, by kernel_rfl, by kernel_rfl⟩⟩
theorem ext_222 : Ext Tryz.prog 222 add64Entry := ⟨⟨_, Tryz.func222, by kernel_rfl, by kernel_rfl, by kernel_rfl, by kernel_rfl⟩⟩
theorem fld_108_0 : FieldAt Tryz.prog 108 0 0 := FieldAt.mk Tryz.underlying108 rfl (by kernel_rfl) rfl
theorem fld_108_1 : FieldAt Tryz.prog 108 1 1 := FieldAt.mk Tryz.underlying108 rfl (by kernel_rfl) rfl
theorem fld_108_2 : FieldAt Tryz.prog 108 2 2 := FieldAt.mk Tryz.underlying108 rfl (by kernel_rfl) rfl
theorem fld_108_3 : FieldAt Tryz.prog 108 3 3 := FieldAt.mk Tryz.underlying108 rfl (by kernel_rfl) rfl
theorem fld_108_4 : FieldAt Tryz.prog 108 4 4 := FieldAt.mk Tryz.underlying108 rfl (by kernel_rfl) rfl
theorem fld_108_5 : FieldAt Tryz.prog 108 5 5 := FieldAt.mk Tryz.underlying108 rfl (by kernel_rfl) rfl
theorem fld_122_0 : FieldAt Tryz.prog 122 0 0 := FieldAt.mk Tryz.underlying122 rfl (by kernel_rfl) rfl
theorem fld_122_1 : FieldAt Tryz.prog 122 1 1 := FieldAt.mk Tryz.underlying122 rfl (by kernel_rfl) rfl
theorem fld_122_2 : FieldAt Tryz.prog 122 2 2 := FieldAt.mk Tryz.underlying122 rfl (by kernel_rfl) rfl
theorem fld_122_3 : FieldAt Tryz.prog 122 3 3 := FieldAt.mk Tryz.underlying122 rfl (by kernel_rfl) rfl
theorem fld_126_0 : FieldAt Tryz.prog 126 0 0 := FieldAt.mk Tryz.underlying126 rfl (by kernel_rfl) rfl
theorem fld_126_1 : FieldAt Tryz.prog 126 1 1 := FieldAt.mk Tryz.underlying126 rfl (by kernel_rfl) rfl
theorem fld_126_2 : FieldAt Tryz.prog 126 2 2 := FieldAt.mk Tryz.underlying126 rfl (by kernel_rfl) rfl
theorem fld_126_3 : FieldAt Tryz.prog 126 3 3 := FieldAt.mk Tryz.underlying126 rfl (by kernel_rfl) rfl
theorem fld_126_4 : FieldAt Tryz.prog 126 4 4 := FieldAt.mk Tryz.underlying126 rfl (by kernel_rfl) rfl
theorem fld_126_5 : FieldAt Tryz.prog 126 5 5 := FieldAt.mk Tryz.underlying126 rfl (by kernel_rfl) rfl
theorem fld_126_6 : FieldAt Tryz.prog 126 6 6 := FieldAt.mk Tryz.underlying126 rfl (by kernel_rfl) rfl
theorem fld_126_7 : FieldAt Tryz.prog 126 7 7 := FieldAt.mk Tryz.underlying126 rfl (by kernel_rfl) rfl
theorem fld_129_0 : FieldAt Tryz.prog 129 0 0 := FieldAt.mk Tryz.underlying129 rfl (by kernel_rfl) rfl
theorem fld_129_1 : FieldAt Tryz.prog 129 1 1 := FieldAt.mk Tryz.underlying129 rfl (by kernel_rfl) rfl
theorem fld_165_0 : FieldAt Tryz.prog 165 0 0 := FieldAt.mk Tryz.underlying165 rfl (by kernel_rfl) rfl
theorem fld_165_1 : FieldAt Tryz.prog 165 1 1 := FieldAt.mk Tryz.underlying165 rfl (by kernel_rfl) rfl
theorem fld_165_2 : FieldAt Tryz.prog 165 2 2 := FieldAt.mk Tryz.underlying165 rfl (by kernel_rfl) rfl
theorem fld_165_3 : FieldAt Tryz.prog 165 3 3 := FieldAt.mk Tryz.underlying165 rfl (by kernel_rfl) rfl
theorem fld_24_0 : FieldAt Tryz.prog 24 0 0 := FieldAt.mk Tryz.underlying24 rfl (by kernel_rfl) rfl
theorem fld_24_1 : FieldAt Tryz.prog 24 1 1 := FieldAt.mk Tryz.underlying24 rfl (by kernel_rfl) rfl
theorem fld_24_2 : FieldAt Tryz.prog 24 2 2 := FieldAt.mk Tryz.underlying24 rfl (by kernel_rfl) rfl
theorem fld_24_3 : FieldAt Tryz.prog 24 3 3 := FieldAt.mk Tryz.underlying24 rfl (by kernel_rfl) rfl
theorem fld_24_4 : FieldAt Tryz.prog 24 4 4 := FieldAt.mk Tryz.underlying24 rfl (by kernel_rfl) rfl
theorem fld_34_0 : FieldAt Tryz.prog 34 0 0 := FieldAt.mk Tryz.underlying34 rfl (by kernel_rfl) rfl
theorem fld_34_1 : FieldAt Tryz.prog 34 1 1 := FieldAt.mk Tryz.underlying34 rfl (by kernel_rfl) rfl
theorem fld_34_3 : FieldAt Tryz.prog 34 3 3 := FieldAt.mk Tryz.underlying34 rfl (by kernel_rfl) rfl
theorem fld_55_11 : FieldAt Tryz.prog 55 11 11 := FieldAt.mk Tryz.underlying55 rfl (by kernel_rfl) rfl
theorem fld_55_2 : FieldAt Tryz.prog 55 2 2 := FieldAt.mk Tryz.underlying55 rfl (by kernel_rfl) rfl
theorem fld_55_3 : FieldAt Tryz.prog 55 3 3 := FieldAt.mk Tryz.underlying55 rfl (by kernel_rfl) rfl
theorem fld_55_4 : FieldAt Tryz.prog 55 4 4 := FieldAt.mk Tryz.underlying55 rfl (by kernel_rfl) rfl
theorem fld_55_5 : FieldAt Tryz.prog 55 5 5 := FieldAt.mk Tryz.underlying55 rfl (by kernel_rfl) rfl
theorem fld_55_6 : FieldAt Tryz.prog 55 6 6 := FieldAt.mk Tryz.underlying55 rfl (by kernel_rfl) rfl
theorem fld_55_8 : FieldAt Tryz.prog 55 8 8 := FieldAt.mk Tryz.underlying55 rfl (by kernel_rfl) rfl
theorem fld_59_0 : FieldAt Tryz.prog 59 0 0 := FieldAt.mk Tryz.underlying59 rfl (by kernel_rfl) rfl
theorem fld_59_1 : FieldAt Tryz.prog 59 1 1 := FieldAt.mk Tryz.underlying59 rfl (by kernel_rfl) rfl
theorem fld_59_2 : FieldAt Tryz.prog 59 2 2 := FieldAt.mk Tryz.underlying59 rfl (by kernel_rfl) rfl
theorem fld_65_0 : FieldAt Tryz.prog 65 0 0 := FieldAt.mk Tryz.underlying65 rfl (by kernel_rfl) rfl
theorem fld_65_1 : FieldAt Tryz.prog 65 1 1 := FieldAt.mk Tryz.underlying65 rfl (by kernel_rfl) rfl
theorem fld_68_0 : FieldAt Tryz.prog 68 0 0 := FieldAt.mk Tryz.underlying68 rfl (by kernel_rfl) rfl
theorem fld_68_1 : FieldAt Tryz.prog 68 1 1 := FieldAt.mk Tryz.underlying68 rfl (by kernel_rfl) rfl
theorem fld_68_2 : FieldAt Tryz.prog 68 2 2 := FieldAt.mk Tryz.underlying68 rfl (by kernel_rfl) rfl
theorem fld_68_3 : FieldAt Tryz.prog 68 3 3 := FieldAt.mk Tryz.underlying68 rfl (by kernel_rfl) rfl
theorem fld_70_0 : FieldAt Tryz.prog 70 0 0 := FieldAt.mk Tryz.underlying70 rfl (by kernel_rfl) rfl
theorem fld_70_1 : FieldAt Tryz.prog 70 1 1 := FieldAt.mk Tryz.underlying70 rfl (by kernel_rfl) rfl
theorem fld_70_2 : FieldAt Tryz.prog 70 2 3 := FieldAt.mk Tryz.underlying70 rfl (by kernel_rfl) rfl
theorem fld_70_3 : FieldAt Tryz.prog 70 3 4 := FieldAt.mk Tryz.underlying70 rfl (by kernel_rfl) rfl
theorem fld_70_4 : FieldAt Tryz.prog 70 4 5 := FieldAt.mk Tryz.underlying70 rfl (by kernel_rfl) rfl
theorem fld_70_5 : FieldAt Tryz.prog 70 5 6 := FieldAt.mk Tryz.underlying70 rfl (by kernel_rfl) rfl
theorem fld_90_0 : FieldAt Tryz.prog 90 0 0 := FieldAt.mk Tryz.underlying90 rfl (by kernel_rfl) rfl
theorem fld_90_1 : FieldAt Tryz.prog 90 1 1 := FieldAt.mk Tryz.underlying90 rfl (by kernel_rfl) rfl
theorem fld_90_2 : FieldAt Tryz.prog 90 2 2 := FieldAt.mk Tryz.underlying90 rfl (by kernel_rfl) rfl
theorem mixed : Tryz.prog.follows .mixedOrders = true := by kernel_rfl
theorem ok_102 : FnOk Tryz.prog 102 := ⟨⟨_, Tryz.func102, by kernel_rfl, rfl⟩⟩
theorem ok_124 : FnOk Tryz.prog 124 := ⟨⟨_, Tryz.func124, by kernel_rfl, rfl⟩⟩
theorem ok_125 : FnOk Tryz.prog 125 := ⟨⟨_, Tryz.func125, by kernel_rfl, rfl⟩⟩
theorem ok_130 : FnOk Tryz.prog 130 := ⟨⟨_, Tryz.func130, by kernel_rfl, rfl⟩⟩
theorem ok_131 : FnOk Tryz.prog 131 := ⟨⟨_, Tryz.func131, by kernel_rfl, rfl⟩⟩
theorem ok_132 : FnOk Tryz.prog 132 := ⟨⟨_, Tryz.func132, by kernel_rfl, rfl⟩⟩
theorem ok_133 : FnOk Tryz.prog 133 := ⟨⟨_, Tryz.func133, by kernel_rfl, rfl⟩⟩
theorem ok_134 : FnOk Tryz.prog 134 := ⟨⟨_, Tryz.func134, by kernel_rfl, rfl⟩⟩
theorem ok_162 : FnOk Tryz.prog 162 := ⟨⟨_, Tryz.func162, by kernel_rfl, rfl⟩⟩
theorem ok_164 : FnOk Tryz.prog 164 := ⟨⟨_, Tryz.func164, by kernel_rfl, rfl⟩⟩
theorem ok_165 : FnOk Tryz.prog 165 := ⟨⟨_, Tryz.func165, by kernel_rfl, rfl⟩⟩
theorem ok_166 : FnOk Tryz.prog 166 := ⟨⟨_, Tryz.func166, by kernel_rfl, rfl⟩⟩
theorem ok_167 : FnOk Tryz.prog 167 := ⟨⟨_, Tryz.func167, by kernel_rfl, rfl⟩⟩
theorem ok_168 : FnOk Tryz.prog 168 := ⟨⟨_, Tryz.func168, by kernel_rfl, rfl⟩⟩
theorem ok_169 : FnOk Tryz.prog 169 := ⟨⟨_, Tryz.func169, by kernel_rfl, rfl⟩⟩
theorem ok_194 : FnOk Tryz.prog 194 := ⟨⟨_, Tryz.func194, by kernel_rfl, rfl⟩⟩
theorem ok_195 : FnOk Tryz.prog 195 := ⟨⟨_, Tryz.func195, by kernel_rfl, rfl⟩⟩
theorem ok_196 : FnOk Tryz.prog 196 := ⟨⟨_, Tryz.func196, by kernel_rfl, rfl⟩⟩
theorem ok_221 : FnOk Tryz.prog 221 := ⟨⟨_, Tryz.func221, by kernel_rfl, rfl⟩⟩
theorem ok_223 : FnOk Tryz.prog 223 := ⟨⟨_, Tryz.func223, by kernel_rfl, rfl⟩⟩
theorem ok_224 : FnOk Tryz.prog 224 := ⟨⟨_, Tryz.func224, by kernel_rfl, rfl⟩⟩
theorem ok_225 : FnOk Tryz.prog 225 := ⟨⟨_, Tryz.func225, by kernel_rfl, rfl⟩⟩
theorem ok_226 : FnOk Tryz.prog 226 := ⟨⟨_, Tryz.func226, by kernel_rfl, rfl⟩⟩
theorem ok_237 : FnOk Tryz.prog 237 := ⟨⟨_, Tryz.func237, by kernel_rfl, rfl⟩⟩
theorem ok_238 : FnOk Tryz.prog 238 := ⟨⟨_, Tryz.func238, by kernel_rfl, rfl⟩⟩
theorem ok_239 : FnOk Tryz.prog 239 := ⟨⟨_, Tryz.func239, by kernel_rfl, rfl⟩⟩
theorem ok_240 : FnOk Tryz.prog 240 := ⟨⟨_, Tryz.func240, by kernel_rfl, rfl⟩⟩
theorem ok_241 : FnOk Tryz.prog 241 := ⟨⟨_, Tryz.func241, by kernel_rfl, rfl⟩⟩
theorem ok_242 : FnOk Tryz.prog 242 := ⟨⟨_, Tryz.func242, by kernel_rfl, rfl⟩⟩
theorem ok_243 : FnOk Tryz.prog 243 := ⟨⟨_, Tryz.func243, by kernel_rfl, rfl⟩⟩
theorem ok_246 : FnOk Tryz.prog 246 := ⟨⟨_, Tryz.func246, by kernel_rfl, rfl⟩⟩
theorem ok_277 : FnOk Tryz.prog 277 := ⟨⟨_, Tryz.func277, by kernel_rfl, rfl⟩⟩
theorem ok_278 : FnOk Tryz.prog 278 := ⟨⟨_, Tryz.func278, by kernel_rfl, rfl⟩⟩
theorem ok_279 : FnOk Tryz.prog 279 := ⟨⟨_, Tryz.func279, by kernel_rfl, rfl⟩⟩
theorem ok_284 : FnOk Tryz.prog 284 := ⟨⟨_, Tryz.func284, by kernel_rfl, rfl⟩⟩
theorem ok_37 : FnOk Tryz.prog 37 := ⟨⟨_, Tryz.func37, by kernel_rfl, rfl⟩⟩
theorem ok_38 : FnOk Tryz.prog 38 := ⟨⟨_, Tryz.func38, by kernel_rfl, rfl⟩⟩
theorem ok_78 : FnOk Tryz.prog 78 := ⟨⟨_, Tryz.func78, by kernel_rfl, rfl⟩⟩
theorem ok_80 : FnOk Tryz.prog 80 := ⟨⟨_, Tryz.func80, by kernel_rfl, rfl⟩⟩
theorem ok_81 : FnOk Tryz.prog 81 := ⟨⟨_, Tryz.func81, by kernel_rfl, rfl⟩⟩
theorem ok_82 : FnOk Tryz.prog 82 := ⟨⟨_, Tryz.func82, by kernel_rfl, rfl⟩⟩
theorem ok_87 : FnOk Tryz.prog 87 := ⟨⟨_, Tryz.func87, by kernel_rfl, rfl⟩⟩
theorem ok_89 : FnOk Tryz.prog 89 := ⟨⟨_, Tryz.func89, by kernel_rfl, rfl⟩⟩
theorem ok_92 : FnOk Tryz.prog 92 := ⟨⟨_, Tryz.func92, by kernel_rfl, rfl⟩⟩
theorem ok_97 : FnOk Tryz.prog 97 := ⟨⟨_, Tryz.func97, by kernel_rfl, rfl⟩⟩
theorem ok_98 : FnOk Tryz.prog 98 := ⟨⟨_, Tryz.func98, by kernel_rfl, rfl⟩⟩
theorem one_3 : OneTy Tryz.prog 3 := ⟨⟨_, Tryz.underlying3, rfl⟩, by kernel_rfl⟩
theorem one_4 : OneTy Tryz.prog 4 := ⟨⟨_, Tryz.underlying4, rfl⟩, by kernel_rfl⟩
theorem one_50 : OneTy Tryz.prog 50 := ⟨⟨_, Tryz.underlying50, rfl⟩, by kernel_rfl⟩
theorem one_51 : OneTy Tryz.prog 51 := ⟨⟨_, Tryz.underlying51, rfl⟩, by kernel_rfl⟩
theorem one_66 : OneTy Tryz.prog 66 := ⟨⟨_, Tryz.underlying66, rfl⟩, by kernel_rfl⟩
theorem one_9 : OneTy Tryz.prog 9 := ⟨⟨_, Tryz.underlying9, rfl⟩, by kernel_rfl⟩
theorem row_120 : RowTy Tryz.prog 120 4 := ⟨⟨_, Tryz.underlying120, rfl⟩, by kernel_rfl⟩
theorem row_122 : RowTy Tryz.prog 122 7 := ⟨⟨_, Tryz.underlying122, rfl⟩, by kernel_rfl⟩
theorem row_126 : RowTy Tryz.prog 126 8 := ⟨⟨_, Tryz.underlying126, rfl⟩, by kernel_rfl⟩
theorem row_129 : RowTy Tryz.prog 129 2 := ⟨⟨_, Tryz.underlying129, rfl⟩, by kernel_rfl⟩
theorem row_165 : RowTy Tryz.prog 165 4 := ⟨⟨_, Tryz.underlying165, rfl⟩, by kernel_rfl⟩
theorem row_24 : RowTy Tryz.prog 24 7 := ⟨⟨_, Tryz.underlying24, rfl⟩, by kernel_rfl⟩
theorem row_34 : RowTy Tryz.prog 34 6 := ⟨⟨_, Tryz.underlying34, rfl⟩, by kernel_rfl⟩
theorem row_55 : RowTy Tryz.prog 55 29 := ⟨⟨_, Tryz.underlying55, rfl⟩, by kernel_rfl⟩
theorem row_59 : RowTy Tryz.prog 59 4 := ⟨⟨_, Tryz.underlying59, rfl⟩, by kernel_rfl⟩
theorem row_65 : RowTy Tryz.prog 65 2 := ⟨⟨_, Tryz.underlying65, rfl⟩, by kernel_rfl⟩
theorem row_68 : RowTy Tryz.prog 68 4 := ⟨⟨_, Tryz.underlying68, rfl⟩, by kernel_rfl⟩
theorem row_70 : RowTy Tryz.prog 70 10 := ⟨⟨_, Tryz.underlying70, rfl⟩, by kernel_rfl⟩
theorem row_90 : RowTy Tryz.prog 90 3 := ⟨⟨_, Tryz.underlying90, rfl⟩, by kernel_rfl⟩
theorem slt_22 : SliceTy Tryz.prog 22 90 3 := ⟨Tryz.underlying22, by kernel_rfl⟩
theorem slt_220 : SliceTy Tryz.prog 220 3 1 := ⟨Tryz.underlying220, by kernel_rfl⟩
theorem slt_25 : SliceTy Tryz.prog 25 122 7 := ⟨Tryz.underlying25, by kernel_rfl⟩
theorem slt_29 : SliceTy Tryz.prog 29 59 4 := ⟨Tryz.underlying29, by kernel_rfl⟩
theorem slt_50 : SliceTy Tryz.prog 50 70 10 := ⟨Tryz.underlying50, by kernel_rfl⟩
theorem slt_52 : SliceTy Tryz.prog 52 126 8 := ⟨Tryz.underlying52, by kernel_rfl⟩
theorem slt_53 : SliceTy Tryz.prog 53 129 2 := ⟨Tryz.underlying53, by kernel_rfl⟩
theorem slt_66 : SliceTy Tryz.prog 66 165 4 := ⟨Tryz.underlying66, by kernel_rfl⟩
theorem zero_122 : ZeroOf Tryz.prog 122 [.int .i64 0, .int .i64 0, .bool false, .int .i64 0, .int .i64 0, .int .i64 0, .int .i64 0] := ZeroOf.mk (by kernel_rfl)
theorem zero_126 : ZeroOf Tryz.prog 126 [.int .i64 0, .int .i64 0, .string ByteArray.empty, .string ByteArray.empty, .int .i64 0, .int .i64 0, .int .i64 0, .int .i64 0] := ZeroOf.mk (by kernel_rfl)
theorem zero_129 : ZeroOf Tryz.prog 129 [.int .i64 0, .int .i64 0] := ZeroOf.mk (by kernel_rfl)
theorem zero_165 : ZeroOf Tryz.prog 165 [.int .i64 0, .int .i64 0, .int .i64 0, .int .i64 0] := ZeroOf.mk (by kernel_rfl)
theorem zero_294 : ZeroOf Tryz.prog 294 [.bool false, .bool false, .bool false, .bool false, .bool false, .bool false, .bool false, .bool false] := ZeroOf.mk (by kernel_rfl)
theorem zero_34 : ZeroOf Tryz.prog 34 [.int .i64 0, .string ByteArray.empty, .string ByteArray.empty, .int .i64 0, .int .i64 0, .int .i64 0] := ZeroOf.mk (by kernel_rfl)
theorem zero_59 : ZeroOf Tryz.prog 59 [.int .i64 0, .string ByteArray.empty, .int .i64 0, .int .i64 0] := ZeroOf.mk (by kernel_rfl)
theorem zero_70 : ZeroOf Tryz.prog 70 [.string ByteArray.empty, .int .i64 0, .int .i64 0, .int .i64 0, .int .i64 0, .slice none 0 0, .int .i64 0, .int .i64 0, .int .i64 0, .int .i64 0] := ZeroOf.mk (by kernel_rfl)
theorem zero_90 : ZeroOf Tryz.prog 90 [.int .i64 0, .string ByteArray.empty, .int .i64 0] := ZeroOf.mk (by kernel_rfl)
end Go.Proofs.YtmpoffijcfaalaaGreat

/- Closed facts on the program, written by specs8.py. -/

namespace Go.Proofs.YtmpoffijcfaalaaGreat.Ep
open Go.Eng

theorem app_22 : AppTy Tryz.prog 22 90 3 32 := AppTy.mk Tryz.underlying22 (by kernel_rfl) (by decide)
theorem ok_71 : FnOk Tryz.prog 71 := ⟨⟨_, Tryz.func71, by kernel_rfl, rfl⟩⟩
theorem one_22 : OneTy Tryz.prog 22 := ⟨⟨_, Tryz.underlying22, rfl⟩, by kernel_rfl⟩
theorem zero_22 : ZeroOf Tryz.prog 22 [.slice none 0 0] := ZeroOf.mk (by kernel_rfl)
end Go.Proofs.YtmpoffijcfaalaaGreat.Ep

/- What the checks tell, as plain functions. No program. -/

namespace Go.YtmpoffijcfaalaaGreat
open Go.Eng

@[reducible] def errF (b : Bool) : Int := if b = true then 0 else 21
theorem errF_ok (b : Bool) : decide (errF b = 0) = b := by cases b <;> rfl
def far : Int := 4611686018427387904
def okGroup (g : Int) : Bool := decide (g ≥ 1) && decide (g < 8)
def okNum (n : Int) : Bool := decide (n ≥ 0) && decide (n ≤ far)
def okClient (n : Int) : Bool := decide (n ≥ 1) && decide (n ≤ 8)
def okSeq (n : Int) : Bool := decide (n ≥ 1) && decide (n ≤ far)
def okWhose (c q : Int) : Bool := decide (c ≥ 1) && decide (c ≤ 8) && decide (q ≥ 1) && decide (q ≤ far)
def okKey (k : ByteArray) : Bool := decide ((k.size : Int) ≥ 1) && decide ((k.size : Int) ≤ 16)
def leB (x y : ByteArray) : Bool := ltB x y || decide (x = y)
def isNil (k : ByteArray) : Bool := decide (k = ByteArray.empty)
def within (lo hi key : ByteArray) : Bool := (ltB lo key || decide (lo = key)) && (isNil hi || ltB key hi)
def spansP (lo hi : ByteArray) : Bool := decide ((lo.size : Int) ≤ 16) && decide ((hi.size : Int) ≤ 16) && (isNil hi || ltB lo hi)

def hasP (s : TSpan) (v : Int) : Bool := decide (s.fLo ≤ v) && decide (v ≤ s.fHi)
def ownsP (s : TState) (key : ByteArray) : Bool := s.fOwns && within s.fLo s.fHi key
def sealedP (s : TState) (key : ByteArray) : Bool := (!decide (s.fSeal.fNumber = 0)) && within s.fSeal.fLo s.fSeal.fHi key
def plannedP (p : TPlan) : Bool := decide (p.fNumber ≥ 1) && decide (p.fNumber ≤ far) && okGroup p.fFrom && okGroup p.fTo && (!decide (p.fFrom = p.fTo)) && spansP p.fLo p.fHi
def plan19 (p : TPlan) : Bool := okNum p.fNumber && decide (p.fNumber > 0) && okGroup p.fFrom && okGroup p.fTo && (!decide (p.fFrom = p.fTo)) && spansP p.fLo p.fHi
def keeperP (l : TLock) : Bool := decide (l.fClient ≥ 1) && decide (l.fSeq ≥ 1) && decide (l.fHome ≥ 1) && decide (l.fHome < 8)
def fate18 (m t : Int) : Int := if decide (m = 1) && decide (t = 1) then 1 else if decide (m = 2) || decide (t = 2) then 2 else 0
def fateP (m t : Int) : Int := if decide (m = 2) || decide (t = 2) then 2 else if decide (m = 1) && decide (t = 1) then 1 else 0
def lockedP (a : TAccount) : Bool := !decide (a.fLock.fClient = 0)
def endP (l : List TPlace) (i : Int) : ByteArray := if decide (i < 0) || decide (i ≥ (l.length : Int) - 1) then ByteArray.empty else (l.getD (i + 1).toNat default).fFrom
def lmayP (r : TRight) : Bool := okGroup r.fGroup && decide ((r.fKey.size : Int) ≥ 1) && decide ((r.fKey.size : Int) ≤ 16) && decide (r.fLease ≥ 1)
def lmay16 (r : TRight) : Bool := okGroup r.fGroup && okKey r.fKey && decide (r.fLease ≥ 1)

/-- The last place below n of which p holds; 0: none. -/
def lastI : Nat → (Nat → Bool) → Nat
  | 0, _ => 0
  | n + 1, p => if p n = true then n else lastI n p
/-- The first place below n of which p holds. -/
def firstI (n : Nat) (p : Nat → Bool) : Option Nat := (List.range n).find? p
theorem firstI_some {n j : Nat} {p : Nat → Bool} (hj : j < n) (h0 : ∀ k, k < j → p k = false) (h : p j = true) : firstI n p = some j :=
  List.find?_range_eq_some.2 ⟨h, List.mem_range.2 hj, fun k hk => by simp [h0 k hk]⟩
theorem firstI_none {n : Nat} {p : Nat → Bool} (h : ∀ k, k < n → p k = false) : firstI n p = none :=
  List.find?_range_eq_none.2 fun k hk => by simp [h k hk]
theorem not_f {b : Bool} (h : b = false) : (!b) = true := by rw [h]; rfl
theorem not_t {b : Bool} (h : b = true) : (!b) = false := by rw [h]; rfl
def prevI (f : Nat → Int) : Nat → Int
  | 0 => 0
  | i + 1 => f i
def findP (l : List TPlace) (key : ByteArray) : Nat := lastI l.length (fun j => !ltB key (l.getD j default).fFrom)
def find17 (l : List TPlace) (key : ByteArray) : Nat := (firstI l.length (fun j => within (l.getD j default).fFrom (endP l j) key)).getD 0
def ofP (l : List TPlace) (gr : Int) : Option Nat := firstI l.length (fun j => decide ((l.getD j default).fGroup = gr))
@[reducible] def ofV (o : Option Nat) : Value := .tuple #[.int .i64 ((o.getD 0 : Nat) : Int), .bool o.isSome]
def countsP (l : List Int) : Bool := allI l.length (fun j => !(decide (l.getD j default < 0) || decide (l.getD j default > far)))
def markP (p : Int) (m : TMark) : Bool := decide (m.fClient ≤ p) || decide (m.fClient > 8) || decide (m.fSeq < 0) || decide (m.fSeq > far) || (m.fOpen && (decide (m.fSeq = 0) || !decide (m.fAnswer = ⟨0, 0, 0, 0⟩)))
def marksP (l : List TMark) : Bool := allI l.length (fun j => !markP (prevI (fun k => (l.getD k default).fClient) j) (l.getD j default))
def endsP (l : List TEnd) : Bool := allI l.length (fun j => !(decide ((l.getD j default).fClient ≤ prevI (fun k => (l.getD k default).fClient) j) || !okWhose (l.getD j default).fClient (l.getD j default).fSeq))

theorem not_dectrue {p : Prop} [Decidable p] (h : ¬ p) : (!decide p) = true := by simp [h]
theorem not_decfalse {p : Prop} [Decidable p] (h : p) : (!decide p) = false := by simp [h]
def dmay1 (d : TDeal) : Bool := !okWhose d.fClient d.fSeq || decide (d.fN < 1) || decide (d.fKey = d.fOther) || decide (d.fMine < 0) || decide (d.fMine > 2) || decide (d.fTheirs < 0) || decide (d.fTheirs > 2)
def dmay2 (d : TDeal) : Bool := decide ((d.fKey.size : Int) < 1) || decide ((d.fKey.size : Int) > 16) || decide ((d.fOther.size : Int) < 1) || decide ((d.fOther.size : Int) > 16)
def dmayP (d : TDeal) : Bool := if dmay1 d = true then false else if dmay2 d = true then false else decide (d.fFate = fateP d.fMine d.fTheirs) || (decide (fateP d.fMine d.fTheirs = 0) && decide (d.fFate = 2))
def ownedP (s : TState) : Bool := if (!s.fOwns) = true then (isNil s.fLo && isNil s.fHi && decide ((s.fAccounts.length : Int) = 0) && decide ((s.fWaits.length : Int) = 0) && decide (s.fSeal = ⟨0, 0, 0, ByteArray.empty, ByteArray.empty, 0, 0⟩)) else decide (s.fEpoch ≥ 1) && spansP s.fLo s.fHi
def waitP0 (s : TState) (w : TWait) : Bool := !okWhose w.fClient w.fSeq || !okKey w.fOp.fKey || !ownsP s w.fOp.fKey || sealedP s w.fOp.fKey
def waitOp (w : TWait) : Bool := decide (w.fNode ≥ 1) && decide (w.fNode ≤ 5) && decide (w.fHome = 0) && decide (w.fOp.fKind ≥ 1) && decide (w.fOp.fKind ≤ 5) && (decide (w.fOp.fKind > 2) || decide (w.fOp.fN ≥ 1))
def waitPrep (w : TWait) : Bool := decide (w.fNode = 0) && okGroup w.fHome && (!decide (w.fOp.fN = 0)) && decide (w.fOp = ⟨0, w.fOp.fKey, ByteArray.empty, w.fOp.fN, 0, 0⟩)
def waitP (s : TState) (w : TWait) : Bool := if waitP0 s w = true then false else if decide (w.fKind = 1) = true then waitOp w else if decide (w.fKind = 2) = true then waitPrep w else false
def holdP (p : Int) (h : THolder) : Bool := decide (h.fNode ≤ p) || decide (h.fNode > 5) || decide (h.fLease < 1) || decide (h.fUp < 0) || decide (h.fDown < 0)
def holdersP (l : List THolder) : Bool := allI l.length (fun j => !holdP (prevI (fun k => (l.getD k default).fNode) j) (l.getD j default))

def mark14 (p : Int) (m : TMark) : Bool := decide (m.fClient ≤ p) || decide (m.fClient > 8) || decide (m.fSeq < 0) || decide (m.fSeq > far) || (m.fOpen && (decide (m.fSeq < 1) || !decide (m.fAnswer = ⟨0, 0, 0, 0⟩)))
def marks14 (l : List TMark) : Bool := allI l.length (fun j => !mark14 (prevI (fun k => (l.getD k default).fClient) j) (l.getD j default))
def may18a (d : TDeal) : Bool := !okClient d.fClient || !okSeq d.fSeq || !okKey d.fKey || !okKey d.fOther || decide (d.fKey = d.fOther) || decide (d.fN < 1) || decide (d.fMine < 0) || decide (d.fMine > 2) || decide (d.fTheirs < 0) || decide (d.fTheirs > 2)
def may18 (d : TDeal) : Bool := if may18a d = true then false else decide (d.fFate = fate18 d.fMine d.fTheirs) || (decide (fate18 d.fMine d.fTheirs = 0) && decide (d.fFate = 2))
def placeO (l : List TDeal) (c q : Int) : Option Nat := firstI l.length (fun j => decide ((l.getD j default).fClient = c) && decide ((l.getD j default).fSeq = q))
def placeI : Option Nat → Int
  | some j => (j : Int)
  | none => -1
def books18a (l : List TDeal) : Bool := allI l.length (fun j => !(!may18 (l.getD j default) || !decide (placeI (placeO l (l.getD j default).fClient (l.getD j default).fSeq) = (j : Int))))
def books18 (l : List TDeal) : Bool := books18a l && decide ((l.length : Int) ≤ 4)
def ends18 (l : List TEnd) : Bool := allI l.length (fun j => !(decide ((l.getD j default).fClient ≤ prevI (fun k => (l.getD k default).fClient) j) || decide ((l.getD j default).fClient > 8) || !okSeq (l.getD j default).fSeq))
def wait19a (s : TState) (w : TWait) : Bool := !okClient w.fClient || !okSeq w.fSeq || !okKey w.fOp.fKey || !ownsP s w.fOp.fKey || sealedP s w.fOp.fKey
def wait19o (w : TWait) : Bool := decide (w.fNode ≥ 1) && decide (w.fNode ≤ 5) && decide (w.fHome = 0) && decide (w.fOp.fKind ≥ 1) && decide (w.fOp.fKind ≤ 5) && (decide (w.fOp.fKind > 2) || decide (w.fOp.fN ≥ 1))
def wait19p (w : TWait) : Bool := decide (w.fNode = 0) && okGroup w.fHome && decide (w.fOp = ⟨0, w.fOp.fKey, ByteArray.empty, w.fOp.fN, 0, 0⟩) && (!decide (w.fOp.fN = 0))
def wait19 (s : TState) (w : TWait) : Bool := if wait19a s w = true then false else if decide (w.fKind = 1) = true then wait19o w else if decide (w.fKind = 2) = true then wait19p w else false
def belowP (x y : TRight) : Bool := decide (x.fGroup < y.fGroup) || (decide (x.fGroup = y.fGroup) && ltB x.fKey y.fKey)
def right16j (l : List TRight) (j : Nat) : Bool := !lmay16 (l.getD j default) || (decide ((j : Int) > 0) && !belowP (l.getD ((j : Int) - 1).toNat default) (l.getD j default))
def rights16 (l : List TRight) : Bool := allI l.length (fun j => !right16j l j)
def place17a (l : List TPlace) : Bool := decide ((l.length : Int) < 1) || decide ((l.length : Int) > 7) || !isNil (l.getD 0 default).fFrom
def place17b (l : List TPlace) (j : Nat) : Bool := decide ((l.getD j default).fGroup < 1) || decide ((l.getD j default).fGroup ≥ 8) || decide ((l.getD j default).fEpoch < 1) || decide ((l.getD j default).fEpoch > far) || decide (((l.getD j default).fFrom.size : Int) > 16) || (decide ((j : Int) > 0) && leB (l.getD j default).fFrom (l.getD ((j : Int) - 1).toNat default).fFrom)
def place17c (l : List TPlace) (j : Nat) : Bool := allI j (fun k => !decide ((l.getD k default).fGroup = (l.getD j default).fGroup))
def places17 (l : List TPlace) : Bool := if place17a l = true then false else allI l.length (fun j => !place17b l j && place17c l j)
/-- The greatest of f below n. -/
def maxI (f : Nat → Int) : Nat → Int
  | 0 => 0
  | n + 1 => max (maxI f n) (f n)
def epochP (l : List TPlace) : Int := maxI (fun j => (l.getD j default).fEpoch) l.length

theorem wrapu (v : Int) : IntKind.u64.wrap v = v % 18446744073709551616 := by simp [IntKind.wrap, IntKind.signed, IntKind.bits]
theorem wrapi (v : Int) : IntKind.i64.wrap v = (v + 9223372036854775808) % 18446744073709551616 - 9223372036854775808 := by
  simp only [IntKind.wrap, IntKind.signed, IntKind.bits]
  simp
  omega
def sg (x : Int) : Int := if x < 0 then -1 else 0
theorem sg_in (x : Int) : sg x = -1 ∧ x < 0 ∨ sg x = 0 ∧ 0 ≤ x := by unfold sg; split <;> omega
theorem shr63 {x : Int} (h : InI x) : x.fdiv (2 ^ min (63 : Int).toNat IntKind.i64.bits) = sg x := by
  have e : (2 : Int) ^ min (63 : Int).toNat IntKind.i64.bits = 9223372036854775808 := by decide
  rw [e, Int.fdiv_eq_ediv_of_nonneg _ (by decide)]
  obtain ⟨h1, h2⟩ := h
  have := sg_in x
  omega
def allIn (l : List Int) : Prop := ∀ x ∈ l, InI x
theorem getD_InI {l : List Int} (h : allIn l) {i : Nat} (hi : i < l.length) : InI (l.getD i default) := by
  have : l.getD i default = l[i] := by simp [List.getD, List.getElem?_eq_getElem hi]
  rw [this]
  exact h _ (List.getElem_mem hi)
theorem sum_take {l : List Int} {i : Nat} (hi : i < l.length) : (l.take (i + 1)).sum = (l.take i).sum + l.getD i default := by
  have e : l.getD i default = l[i] := by simp [List.getD, List.getElem?_eq_getElem hi]
  rw [e, List.take_add_one, List.getElem?_eq_getElem hi]
  rw [List.sum_append_int]
  simp
def sumOk (s : Int) : Bool := decide (-9223372036854775808 ≤ s) && decide (s ≤ 9223372036854775807)
def sumI (s : Int) : Int := if sumOk s = true then s else 0
def sumE (s : Int) : Int := if sumOk s = true then 0 else 10
@[reducible] def sumV (s : Int) : Value := .tuple #[.int .i64 (sumI s), .int .i64 (sumE s)]
theorem sum_step {S hi lo x : Int} (h1 : hi = S / 18446744073709551616 % 18446744073709551616) (h2 : lo = S % 18446744073709551616) (hx : InI x) :
    (hi + sg x % 18446744073709551616 + (lo + x % 18446744073709551616 + 0) / 18446744073709551616) % 18446744073709551616 = (S + x) / 18446744073709551616 % 18446744073709551616 ∧
    (lo + x % 18446744073709551616 + 0) % 18446744073709551616 = (S + x) % 18446744073709551616 := by
  obtain ⟨h3, h4⟩ := hx
  have := sg_in x
  omega
theorem sum_end {S hi lo : Int} (h1 : hi = S / 18446744073709551616 % 18446744073709551616) (h2 : lo = S % 18446744073709551616) (hb : -85070591730234615856620279821087277056 ≤ S ∧ S ≤ 85070591730234615856620279821087277056) :
    (hi = sg (IntKind.i64.wrap lo) % 18446744073709551616 ↔ sumOk S = true) ∧ (sumOk S = true → IntKind.i64.wrap lo = S) := by
  rw [wrapi]
  have := sg_in ((lo + 9223372036854775808) % 18446744073709551616 - 9223372036854775808)
  simp only [sumOk, Bool.and_eq_true, decide_eq_true_eq]
  omega
theorem add_ov {x y : Int} (hx : InI x) (hy : InI y) : ((decide (x ≥ 0) && decide (y ≥ 0) && decide (IntKind.i64.wrap (x + y) < 0)) || (decide (x < 0) && decide (y < 0) && decide (IntKind.i64.wrap (x + y) ≥ 0))) = !sumOk (x + y) ∧ (sumOk (x + y) = true → IntKind.i64.wrap (x + y) = x + y) := by
  rw [wrapi]
  obtain ⟨a1, a2⟩ := hx
  obtain ⟨b1, b2⟩ := hy
  constructor
  · rw [Bool.eq_iff_iff]
    simp only [sumOk, Bool.or_eq_true, Bool.and_eq_true, decide_eq_true_eq, Bool.not_eq_true', Bool.and_eq_false_iff, decide_eq_false_iff_not]
    omega
  · simp only [sumOk, Bool.and_eq_true, decide_eq_true_eq]
    omega
def fitsP (a : TAccount) (l : TLock) : Bool := decide (sumE (a.fBase + l.fN) = 0) && hasP a.fSpan (sumI (a.fBase + l.fN))
def upsS (a : TAccount) : Int := a.fBase + (a.fHolders.map (·.fUp)).sum
def downsS (a : TAccount) : Int := a.fBase - (a.fHolders.map (·.fDown)).sum
@[reducible] def lentV (a : TAccount) : Value := .tuple #[.int .i64 (sumI (upsS a)), .int .i64 (sumI (downsS a)), .bool (decide (sumE (upsS a) = 0) && decide (sumE (downsS a) = 0))]
def acc1 (a : TAccount) : Bool := decide ((a.fKey.size : Int) < 1) || decide ((a.fKey.size : Int) > 16) || !hasP a.fSpan a.fBase || decide (a.fRound < 0) || !holdersP a.fHolders
def acc2 (a : TAccount) : Bool := !(decide (sumE (upsS a) = 0) && decide (sumE (downsS a) = 0)) || decide (sumI (upsS a) > a.fSpan.fHi) || decide (sumI (downsS a) < a.fSpan.fLo)
def accP (a : TAccount) : Bool := if acc1 a = true then false else if acc2 a = true then false else if decide (a.fLock.fClient = 0) = true then decide (a.fLock = ⟨0, 0, 0, 0⟩) else keeperP a.fLock && decide ((a.fHolders.length : Int) = 0) && fitsP a a.fLock
def aplainP (a : TAccount) : Bool := accP a && decide (a.fSpan = ⟨0, 0⟩) && decide (a.fBase = 0) && decide ((a.fHolders.length : Int) = 0) && decide (a.fRound = 0) && !lockedP a
def orderP (x y : TRight) : Int := if (!decide (x.fGroup = y.fGroup)) = true then (if decide (x.fGroup < y.fGroup) = true then -1 else 1) else cmpB x.fKey y.fKey
def ledgerj (l : List TRight) (j : Nat) : Bool := !lmayP (l.getD j default) || (decide ((j : Int) > 0) && decide (orderP (l.getD ((j : Int) - 1).toNat default) (l.getD j default) ≥ 0))
def ledgerP (l : List TRight) : Bool := allI l.length (fun j => !ledgerj l j)
theorem wrapi_in (v : Int) : InI (IntKind.i64.wrap v) := by
  rw [wrapi]
  constructor <;> omega

theorem sumI_in (s : Int) : InI (sumI s) := by
  unfold sumI
  split
  · rename_i h
    simp only [sumOk, Bool.and_eq_true, decide_eq_true_eq] at h
    exact h
  · exact ⟨by decide, by decide⟩
def accsj (s : TState) (j : Nat) : Bool := !decide (errF (accP (s.fAccounts.getD j default)) = 0) || aplainP (s.fAccounts.getD j default) || !ownsP s (s.fAccounts.getD j default).fKey || (decide ((j : Int) > 0) && leB (s.fAccounts.getD j default).fKey (s.fAccounts.getD ((j : Int) - 1).toNat default).fKey)
def accsP (s : TState) : Bool := if decide ((s.fAccounts.length : Int) > 12) = true then false else allI s.fAccounts.length (fun j => !accsj s j)
def dealsj (l : List TDeal) (j : Nat) : Bool := !dmayP (l.getD j default) || !decide (placeI (placeO l (l.getD j default).fClient (l.getD j default).fSeq) = (j : Int))
def dealsP (l : List TDeal) : Bool := if decide ((l.length : Int) > 4) = true then false else allI l.length (fun j => !dealsj l j)
/-- Has the group g stood ahead of place i? -/
def seenB (l : List TPlace) : Nat → Nat → Bool
  | 0, _ => false
  | i + 1, g => seenB l i g || decide ((l.getD i default).fGroup = (g : Int))
def seenC (l : List TPlace) (i : Nat) : List Value := (List.range 8).map (fun g => .bool (seenB l i g))
theorem seen_get {l : List TPlace} {i : Nat} {g : Int} (h0 : 0 ≤ g) (h1 : g < 8) : (seenC l i)[0 + g.toNat * 1]? = some (.bool (seenB l i g.toNat)) := by
  have : 0 + g.toNat * 1 < 8 := by omega
  unfold seenC
  rw [List.getElem?_map, List.getElem?_range this]
  simp
theorem seen_len (l : List TPlace) (i : Nat) : (seenC l i).length = 8 := by simp [seenC]
theorem seen_set {l : List TPlace} {i : Nat} (h0 : 0 ≤ (l.getD i default).fGroup) (h1 : (l.getD i default).fGroup < 8) : (seenC l i).set (0 + (l.getD i default).fGroup.toNat * 1) (.bool true) = seenC l (i + 1) := by
  unfold seenC
  refine List.ext_getElem? fun n => ?_
  rw [List.getElem?_set]
  by_cases hn : n < 8
  · rw [List.getElem?_map, List.getElem?_map, List.getElem?_range hn]
    simp only [List.length_map, List.length_range, Option.map_some]
    split
    · rename_i e
      rw [if_pos (by omega)]
      have : decide ((l.getD i default).fGroup = (n : Int)) = true := decide_eq_true (by omega)
      simp only [seenB, this, Bool.or_true]
    · rename_i e
      have : decide ((l.getD i default).fGroup = (n : Int)) = false := decide_eq_false (by omega)
      simp only [seenB, this, Bool.or_false]
  · rw [List.getElem?_eq_none (by simp; omega), List.getElem?_eq_none (by simp; omega), if_neg (by omega)]
def rpl1 (l : List TPlace) : Bool := decide ((l.length : Int) < 1) || !isNil (l.getD 0 default).fFrom
def rplj (l : List TPlace) (j : Nat) : Bool := !okGroup (l.getD j default).fGroup || seenB l j (l.getD j default).fGroup.toNat || decide ((l.getD j default).fEpoch < 1) || decide ((l.getD j default).fEpoch > far) || decide (((l.getD j default).fFrom.size : Int) > 16) || (decide ((j : Int) > 0) && leB (l.getD j default).fFrom (l.getD ((j : Int) - 1).toNat default).fFrom)
def rplacesP (l : List TPlace) : Bool := if rpl1 l = true then false else allI l.length (fun j => !rplj l j)
theorem lastI_lt : ∀ {n : Nat} {p : Nat → Bool}, 0 < n → lastI n p < n
  | n + 1, p, _ => by
    unfold lastI
    split
    · omega
    · cases n with
      | zero => simp [lastI]
      | succ n => have := lastI_lt (n := n + 1) (p := p) (Nat.succ_pos n); omega
theorem findP_lt {l : List TPlace} {k : ByteArray} (h : 0 < l.length) : findP l k < l.length := lastI_lt h
theorem firstI_lt {n j : Nat} {p : Nat → Bool} (h : firstI n p = some j) : j < n := List.mem_range.1 (List.find?_range_eq_some.1 h).2.1
theorem ofP_lt {l : List TPlace} {g : Int} (h : 0 < l.length) : (ofP l g).getD 0 < l.length := by
  unfold ofP
  cases e : firstI l.length (fun j => decide ((l.getD j default).fGroup = g)) with
  | none => exact h
  | some j => exact firstI_lt e
def split1 (c : TChart) : Bool := (ofP c.fPlaces c.fPlan.fTo).isSome || !decide (c.fPlan.fTo = c.fNext - 1) || decide ((c.fPlaces.length : Int) ≥ 7) || isNil c.fPlan.fLo || decide ((c.fPlan.fLo.size : Int) > 16)
def split2 (c : TChart) : Bool := decide (c.fPlan.fFrom = (c.fPlaces.getD (findP c.fPlaces c.fPlan.fLo) default).fGroup) && (!decide (c.fPlan.fLo = (c.fPlaces.getD (findP c.fPlaces c.fPlan.fLo) default).fFrom)) && decide (c.fPlan.fHi = endP c.fPlaces (findP c.fPlaces c.fPlan.fLo))
def splitsP (c : TChart) : Bool := if split1 c = true then false else split2 c
def nxt (c : TChart) : Int := (((ofP c.fPlaces c.fPlan.fTo).getD 0 : Nat) : Int) + 1
def merge1 (c : TChart) : Bool := !(ofP c.fPlaces c.fPlan.fTo).isSome || decide (nxt c ≥ (c.fPlaces.length : Int))
def merge2 (c : TChart) : Bool := decide (c.fPlan.fFrom = (c.fPlaces.getD (nxt c).toNat default).fGroup) && decide (c.fPlan.fLo = (c.fPlaces.getD (nxt c).toNat default).fFrom) && decide (c.fPlan.fHi = endP c.fPlaces (nxt c))
def mergesP (c : TChart) : Bool := if merge1 c = true then false else merge2 c
def plan1 (c : TChart) : Bool := decide (c.fIndex < 0) || decide (c.fIndex > far) || decide (c.fLast < 0) || decide (c.fLast > far) || decide (c.fNext < 2) || decide (c.fNext > 8)
def plan2 (c : TChart) : Bool := !decide (errF (rplacesP c.fPlaces) = 0) || !decide (errF (marksP c.fMarks) = 0)
def plan3 (c : TChart) : Bool := decide (placeI (firstI c.fPlaces.length (fun j => decide ((c.fPlaces.getD j default).fGroup ≥ c.fNext))) ≥ 0)
def plan4 (c : TChart) : Bool := decide (c.fPlan = ⟨0, 0, 0, ByteArray.empty, ByteArray.empty, 0, 0⟩)
def plan5 (c : TChart) : Bool := decide (c.fPlan.fNumber = c.fLast) && (!decide (c.fPlan.fNumber = 0)) && okWhose c.fPlan.fClient c.fPlan.fSeq && decide (epochP c.fPlaces < far) && (splitsP c || mergesP c)
def planP (c : TChart) : Bool := if plan1 c = true then false else if plan2 c = true then false else if plan3 c = true then false else if plan4 c = true then true else plan5 c
end Go.YtmpoffijcfaalaaGreat
