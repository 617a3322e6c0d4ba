/- What every law's row needs ahead of the call and behind it: its arguments opened, and read again as they were. Generic: no program. -/
import Derived.Test.YtcjaodddckbciaaEng10
import Derived.OpenShut
import Derived.Carry
namespace Go.Eng
open Go.ChangeShapes Go.WideShapes Go.RowKit

theorem struct_len {P : Program} {H : Type} {enc : TypeId × Value → H} {w : World} {fuel : Nat} {T : TypeId} {fs : Array Field} {cs : List Value} {x : DataW H × List MemPlace}
    (hu : P.underlying T = some (.struct fs)) (h : DataW.trod enc P w 0 (fun _ => true) true fuel T cs = some x) : cs.length = P.cellsOf T := by
  obtain ⟨xs, m, _, _, hl, _, _⟩ := DataW.trod_struct hu h
  exact hl
theorem field_opens {P : Program} {H : Type} {enc : TypeId × Value → H} {w : World} {fuel : Nat} {T : TypeId} {fs : Array Field} {cs : List Value} {x : DataW H × List MemPlace}
    (hu : P.underlying T = some (.struct fs)) (h : DataW.trod enc P w 0 (fun _ => true) true fuel T cs = some x) {α : Type} {r : Rep α} (i o n : Nat) {U : TypeId}
    (hf : fs[i]?.map (fun f => (f.type, f.offset)) = some (U, o)) (hn : P.cellsOf U = n) (hU : Opens P U r) : ∃ a : α, r.rd (fun b => b < w.heap.size) w ((cs.drop o).take n) a := by
  obtain ⟨xs, m, _, _, _, hlen, hx⟩ := DataW.trod_struct hu h
  cases hfi : fs[i]? with
  | none => rw [hfi] at hf; cases hf
  | some f =>
    rw [hfi] at hf
    simp only [Option.map_some, Option.some.injEq, Prod.mk.injEq] at hf
    obtain ⟨rfl, rfl⟩ := hf
    subst hn
    have hi : i < xs.length := by rw [hlen]; exact (Array.getElem?_eq_some_iff.1 hfi).1
    have := hx i f hfi
    rw [List.getElem?_eq_getElem hi] at this
    exact hU H enc w m _ _ this

theorem arg_list {P : Program} {H : Type} {enc : TypeId × Value → H} {w : World} {T E : TypeId} {α : Type} {r : Rep α} {v : Value} {d : DataW H} {ps : List MemPlace} {rc : Reach} {base : Nat}
    (hu : P.underlying T = some (.slice E)) (hO : Opens P T (@repList α r)) (hv : Value.okWide P w rc base T v) (h : DataW.Trod enc P w 0 (fun _ => true) true T v d ps) :
    ∃ l : List α, Atom.holds (@Atom.mk (List α) (@repList α r) v l) (Sf [] w) w := by
  obtain ⟨fuel, hf⟩ := h
  obtain ⟨A, n, c, rfl⟩ := okWide_slice hu hv
  obtain ⟨l, hl⟩ := hO H enc w fuel _ _ hf
  refine ⟨l, rfl, ?_⟩
  exact Rep.keep (self := @repList α r) hl (fun b hb => ⟨hb, by simp⟩) (fun _ _ => rfl)

theorem list_each {α : Type} [r : Rep α] {S : Nat → Prop} {w : World} {v : Value} {l : List α} (h : Atom.holds ⟨v, l⟩ S w) : ∀ e ∈ l, ∃ cs, r.rd S w cs e := by
  intro e he
  obtain ⟨_, A, cc, _, _, _, _, h4⟩ := h
  obtain ⟨b, o, _, _, hi⟩ := h4 (List.ne_nil_of_mem he)
  obtain ⟨i, hi2, rfl⟩ := List.getElem_of_mem he
  obtain ⟨cs, hc, _⟩ := hi i _ (List.getElem?_eq_getElem hi2)
  exact ⟨cs, hc⟩

theorem trodAll_below {H : Type} {enc : TypeId × Value → H} {P : Program} (hl : laidOutB P = true) {W W' : World} (hB : Below W.heap.size W W') :
    ∀ (ts : List TypeId) (vs : List Value) (ds : List (DataW H)) (ps : List MemPlace), ts.all (fun t => P.readableRec t && decide (t < P.types.size)) = true →
      DataW.TrodAll enc P W 0 (fun _ => true) true ts vs ds ps → (∀ x ∈ ps, x.block < W.heap.size) → DataW.TrodAll enc P W' 0 (fun b => decide (b < W.heap.size)) true ts vs ds ps
  | [], vs, ds, ps, _, h, _ => by
    obtain ⟨rfl, rfl, rfl⟩ := trodAll_nil h
    exact trodAll_mk0
  | t :: ts, vs, ds, ps, hr, h, hlt => by
    obtain ⟨v, vs', d, ds', p, q, rfl, rfl, rfl, h1, h2⟩ := trodAll_cons h
    simp only [List.all_cons, Bool.and_eq_true, decide_eq_true_eq] at hr
    exact trodAll_cons_mk (Below.trod hl hr.1.1 hr.1.2 h1 hB (fun x hx => hlt x (List.mem_append_left _ hx))) (trodAll_below hl hB ts vs' ds' q hr.2 h2 (fun x hx => hlt x (List.mem_append_right _ hx)))

theorem post_true {H : Type} {enc : TypeId × Value → H} {P : Program} {f : Func} {s : ChangeSpec} {W W' : World} {args : Array Value} {ds : List (DataW H)} {before : List MemPlace} {T : TypeId} (hl : laidOutB P = true)
    (hp : f.params.toList.all (fun t => P.readableRec t && decide (t < P.types.size)) = true) (hsv : s.vars = []) (hr : f.resultTypes = #[T]) (hT : P.underlying T = some .bool)
    (hfn : s.fn H ds = { results := [.lit (.bool true)], args := ds }) (hW : DataW.Whole enc P f.params.toList s.vars false W args.toList ds [] before) (hB : Below W.heap.size W W') :
    s.post enc P f false true false false W args (.bool true) W' := by
  have hlt : ∀ x ∈ before, x.block < W.heap.size := fun x hx => by simpa using hW.lt x hx
  have hW' := hW
  obtain ⟨p, q, hA, hV, rfl, hfz, hnd⟩ := hW'
  rw [hsv] at hV
  obtain ⟨_, rfl⟩ := trodVars_none hV
  refine ⟨ds, [], _, [], p, [], hW, ?_, ?_, ?_, hB.frame _, fun h => by cases h⟩
  · rw [List.append_nil, hfn, hr]
    exact trodAll_mk1 (shut_bool hT true)
  · rw [List.append_nil, hfn]
    exact trodAll_below hl hB _ _ _ _ hp hA (fun x hx => hlt x (List.mem_append_left _ hx))
  · rw [List.append_nil, hfn, hsv]
    rfl

/-- A function that only reads and answers true: its row's postcondition. -/
theorem FnV.post {H : Type} {enc : TypeId × Value → H} {P : Program} {f : FuncId} {fn : Func} {s : ChangeSpec} {W : World} {args : List Value} {As : List Atom} {ds : List (DataW H)} {before : List MemPlace} {T : TypeId} (hl : laidOutB P = true)
    (hp : fn.params.toList.all (fun t => P.readableRec t && decide (t < P.types.size)) = true) (hsv : s.vars = []) (hr : fn.resultTypes = #[T]) (hT : P.underlying T = some .bool)
    (hfn : s.fn H ds = { results := [.lit (.bool true)], args := ds }) (hW : DataW.Whole enc P fn.params.toList s.vars false W args ds [] before)
    (h : FnV P f args As (.bool true)) (hA : ∀ t ∈ As, t.holds (Sf [] W) W) :
    Calls P f args.toArray W fun e W' => ∃ v, e = .returned v ∧ s.post enc P fn false true false false W args.toArray v W' := by
  refine Ret.mono (h [] W (by simp [Own.bs, bsOf]) (by simp) (by simp) (by simpa [Own.bs, bsOf] using hA)) ?_
  rintro v w' ⟨hst, _, rfl, _⟩
  exact post_true hl hp hsv hr hT hfn (by simpa using hW) hst.below
end Go.Eng
