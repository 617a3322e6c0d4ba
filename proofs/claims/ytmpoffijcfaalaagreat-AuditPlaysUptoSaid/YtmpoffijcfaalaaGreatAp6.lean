/- Part 6 of auditPlays_holds. -/
import Derived.OpenShut
import Derived.Carry
import Derived.Laws.Small
import Derived.Test.YtmpoffijcfaalaaGreatRows
import Derived.Test.YtmpoffijcfaalaaGreatAp5

set_option maxRecDepth 20000
set_option maxHeartbeats 1000000
namespace Go.Eng
open Go.ChangeShapes Go.WideShapes Go.RowKit
theorem struct_len {P : Program} {H : Type} {enc : TypeId × Value → H} {w : World} {fuel : Nat} {T : TypeId} {fs : Array Field} {cs : List Value} {x : DataW H × List MemPlace}
 (hu : P.underlying T = some (.struct fs)) (h : DataW.trod enc P w 0 (fun _ => true) true fuel T cs = some x) : cs.length = P.cellsOf T := by
 obtain ⟨xs, m, _, _, hl, _, _⟩ := DataW.trod_struct hu h
 exact hl
theorem field_opens {P : Program} {H : Type} {enc : TypeId × Value → H} {w : World} {fuel : Nat} {T : TypeId} {fs : Array Field} {cs : List Value} {x : DataW H × List MemPlace}
 (hu : P.underlying T = some (.struct fs)) (h : DataW.trod enc P w 0 (fun _ => true) true fuel T cs = some x) {α : Type} {r : Rep α} (i o n : Nat) {U : TypeId}
 (hf : fs[i]?.map (fun f => (f.type, f.offset)) = some (U, o)) (hn : P.cellsOf U = n) (hU : Opens P U r) : ∃ a : α, r.rd (fun b => b < w.heap.size) w ((cs.drop o).take n) a := by
 obtain ⟨xs, m, _, _, _, hlen, hx⟩ := DataW.trod_struct hu h
 cases hfi : fs[i]? with
 | none => rw [hfi] at hf; cases hf
 | some f =>
  rw [hfi] at hf
  simp only [Option.map_some, Option.some.injEq, Prod.mk.injEq] at hf
  obtain ⟨rfl, rfl⟩ := hf
  subst hn
  have hi : i < xs.length := by rw [hlen]; exact (Array.getElem?_eq_some_iff.1 hfi).1
  have := hx i f hfi
  rw [List.getElem?_eq_getElem hi] at this
  exact hU H enc w m _ _ this
theorem arg_list {P : Program} {H : Type} {enc : TypeId × Value → H} {w : World} {T E : TypeId} {α : Type} {r : Rep α} {v : Value} {d : DataW H} {ps : List MemPlace} {rc : Reach} {base : Nat}
 (hu : P.underlying T = some (.slice E)) (hO : Opens P T (@repList α r)) (hv : Value.okWide P w rc base T v) (h : DataW.Trod enc P w 0 (fun _ => true) true T v d ps) :
 ∃ l : List α, Atom.holds (@Atom.mk (List α) (@repList α r) v l) (Sf [] w) w := by
 obtain ⟨fuel, hf⟩ := h
 obtain ⟨A, n, c, rfl⟩ := okWide_slice hu hv
 obtain ⟨l, hl⟩ := hO H enc w fuel _ _ hf
 refine ⟨l, rfl, ?_⟩
 exact Rep.keep (self := @repList α r) hl (fun b hb => ⟨hb, by simp⟩) (fun _ _ => rfl)
theorem list_each {α : Type} [r : Rep α] {S : Nat → Prop} {w : World} {v : Value} {l : List α} (h : Atom.holds ⟨v, l⟩ S w) : ∀ e ∈ l, ∃ cs, r.rd S w cs e := by
 intro e he
 obtain ⟨_, A, cc, _, _, _, _, h4⟩ := h
 obtain ⟨b, o, _, _, hi⟩ := h4 (List.ne_nil_of_mem he)
 obtain ⟨i, hi2, rfl⟩ := List.getElem_of_mem he
 obtain ⟨cs, hc, _⟩ := hi i _ (List.getElem?_eq_getElem hi2)
 exact ⟨cs, hc⟩
theorem trodAll_below {H : Type} {enc : TypeId × Value → H} {P : Program} (hl : laidOutB P = true) {W W' : World} (hB : Below W.heap.size W W') :
 ∀ (ts : List TypeId) (vs : List Value) (ds : List (DataW H)) (ps : List MemPlace), ts.all (fun t => P.readableRec t && decide (t < P.types.size)) = true →
  DataW.TrodAll enc P W 0 (fun _ => true) true ts vs ds ps → (∀ x ∈ ps, x.block < W.heap.size) → DataW.TrodAll enc P W' 0 (fun b => decide (b < W.heap.size)) true ts vs ds ps
 | [], vs, ds, ps, _, h, _ => by
  obtain ⟨rfl, rfl, rfl⟩ := trodAll_nil h
  exact trodAll_mk0
 | t :: ts, vs, ds, ps, hr, h, hlt => by
  obtain ⟨v, vs', d, ds', p, q, rfl, rfl, rfl, h1, h2⟩ := trodAll_cons h
  simp only [List.all_cons, Bool.and_eq_true, decide_eq_true_eq] at hr
  exact trodAll_cons_mk (Below.trod hl hr.1.1 hr.1.2 h1 hB (fun x hx => hlt x (List.mem_append_left _ hx))) (trodAll_below hl hB ts vs' ds' q hr.2 h2 (fun x hx => hlt x (List.mem_append_right _ hx)))
theorem post_true {H : Type} {enc : TypeId × Value → H} {P : Program} {f : Func} {s : ChangeSpec} {W W' : World} {args : Array Value} {ds : List (DataW H)} {before : List MemPlace} {T : TypeId} (hl : laidOutB P = true)
 (hp : f.params.toList.all (fun t => P.readableRec t && decide (t < P.types.size)) = true) (hsv : s.vars = []) (hr : f.resultTypes = #[T]) (hT : P.underlying T = some .bool)
 (hfn : s.fn H ds = { results := [.lit (.bool true)], args := ds }) (hW : DataW.Whole enc P f.params.toList s.vars false W args.toList ds [] before) (hB : Below W.heap.size W W') :
 s.post enc P f false true false false W args (.bool true) W' := by
 have hlt : ∀ x ∈ before, x.block < W.heap.size := fun x hx => by simpa using hW.lt x hx
 have hW' := hW
 obtain ⟨p, q, hA, hV, rfl, hfz, hnd⟩ := hW'
 rw [hsv] at hV
 obtain ⟨_, rfl⟩ := trodVars_none hV
 refine ⟨ds, [], _, [], p, [], hW, ?_, ?_, ?_, hB.frame _, fun h => by cases h⟩
 · rw [List.append_nil, hfn, hr]
   exact trodAll_mk1 (shut_bool hT true)
 · rw [List.append_nil, hfn]
   exact trodAll_below hl hB _ _ _ _ hp hA (fun x hx => hlt x (List.mem_append_left _ hx))
 · rw [List.append_nil, hfn, hsv]
   rfl
theorem FnV.post {H : Type} {enc : TypeId × Value → H} {P : Program} {f : FuncId} {fn : Func} {s : ChangeSpec} {W : World} {args : List Value} {As : List Atom} {ds : List (DataW H)} {before : List MemPlace} {T : TypeId} (hl : laidOutB P = true)
 (hp : fn.params.toList.all (fun t => P.readableRec t && decide (t < P.types.size)) = true) (hsv : s.vars = []) (hr : fn.resultTypes = #[T]) (hT : P.underlying T = some .bool)
 (hfn : s.fn H ds = { results := [.lit (.bool true)], args := ds }) (hW : DataW.Whole enc P fn.params.toList s.vars false W args ds [] before)
 (h : FnV P f args As (.bool true)) (hA : ∀ t ∈ As, t.holds (Sf [] W) W) :
 Calls P f args.toArray W fun e W' => ∃ v, e = .returned v ∧ s.post enc P fn false true false false W args.toArray v W' := by
 refine Ret.mono (h [] W (by simp [Own.bs, bsOf]) (by simp) (by simp) (by simpa [Own.bs, bsOf] using hA)) ?_
 rintro v w' ⟨hst, _, rfl, _⟩
 exact post_true hl hp hsv hr hT hfn (by simpa using hW) hst.below
end Go.Eng
namespace Go.Eng
section
def FieldV (P : Program) (s : TypeId) (i off : Nat) : Prop := ∃ fs f d, P.underlying s = some (.struct fs) ∧ fs[i]? = some f ∧ f.offset = off ∧ P.underlying f.type = some d ∧ d.isRow = false
section
variable {c : Cx} {ops : Array Oper} {J : Cx → Array Oper → List Oper → Env → Own → List Atom → Prop} [iJ : IsJ J] {env : Env} {L : Own} {D : List Atom} {rest : List Oper} {d : Nat} {v : Value} {t : TypeId} {p : String} {af : Array Edge}
theorem fd {s : TypeId} {j off : Nat} {x : Operand} {vs : Array Value} {u : Value} (hx : ev env x = some (.agg vs)) (hf : FieldV c.P s j off) (hv : vs[off]? = some u) (hn : Nat.blt d c.n = true) (k : J c ops rest ((d, u) :: env) L D) :
 J c ops (⟨some d, .field s x j, t, p, af, none⟩ :: rest) env L D :=
 pu rfl rfl hn (fun a w f => by
  obtain ⟨fs, q, dd, h1, h2, rfl, h4, h5⟩ := hf
  cases dd <;> simp [TypeDesc.isRow] at h5 <;> simp [execOp, f.ev hx, Instr.field, run_underlying h1, h2, part, isAgg, asAgg, run_underlying h4, hv]) k
end
theorem list_wf {α : Type} {s : Shape α} {S : Nat → Prop} {w : World} {v : Value} {xs : List α} (h : Atom.holds (@Atom.mk (List α) (@repList α (Rep.ofShape s)) v xs) S w) : ∀ x ∈ xs, s.wf x := by
 intro x hx
 obtain ⟨ha, A, cc, hsv, _, _, h3, h4⟩ := h
 obtain ⟨b, o, _, _, hi⟩ := h4 (List.ne_nil_of_mem hx)
 obtain ⟨i, hi2, rfl⟩ := List.getElem_of_mem hx
 obtain ⟨cs, hc, _⟩ := hi i _ (List.getElem?_eq_getElem hi2)
 obtain ⟨_, _, _, hw⟩ := hc
 exact hw
theorem getD_mem {α : Type} [Inhabited α] {l : List α} {i : Nat} (h : i < l.length) : l.getD i default ∈ l := by
 have : l.getD i default = l[i] := by simp [List.getD, List.getElem?_eq_getElem h]
 rw [this]
 exact List.getElem_mem h
end
end Go.Eng
namespace Go.Eng
open Go.ChangeShapes Go.WideShapes Go.RowKit
theorem cut {α : Type} (cs : List α) (o n m : Nat) (h : o + n = m) : cs.drop o = (cs.drop o).take n ++ cs.drop m := by
 subst h
 rw [← List.drop_drop, List.take_append_drop]
theorem list_atom {α : Type} [r : Rep α] {S : Nat → Prop} {w : World} {cs : List Value} {l : List α} (h : (@repList α r).rd S w cs l) : ∃ k, cs = [k] ∧ Atom.holds ⟨k, l⟩ S w := by
 obtain ⟨A, cc, hcs, hr⟩ := id h
 refine ⟨_, hcs, rfl, ?_⟩
 subst hcs
 exact ⟨A, cc, rfl, hr⟩
end Go.Eng
namespace Go.Proofs.YtmpoffijcfaalaaGreat
@[reducible] noncomputable def Pg : Program := Tryz.prog
end Go.Proofs.YtmpoffijcfaalaaGreat
namespace Go.Proofs.YtmpoffijcfaalaaGreat
open Go.Eng
instance : Ft Tryz.prog where
 fs := [(24,[0,1,2,3,4,5,6]),(27,[0,1,2,3,4,11]),(32,[0,1,2,14,15,16]),(34,[0,1,2,3,4,5]),(55,[0,1,2,3,4,5,6,7,8,9,10,11,18,25,26,27,28]),(59,[0,1,2,3]),(65,[0,1]),(68,[0,1,2,3]),(70,[0,1,3,4,5,6]),(78,[0,1,3]),(90,[0,1,2]),(108,[0,1,2,3,4,5]),(120,[0,1,2,3]),(122,[0,1,2,3]),(126,[0,1,2,3,4,5,6,7]),(129,[0,1]),(139,[0,1]),(150,[0,10]),(165,[0,1,2,3]),(207,[0,1,2]),(211,[0,1]),(264,[0,1,2]),(314,[0,1,2,3]),(346,[0,1,2])]
 os := [2,3,4,5,9,22,25,28,29,30,35,38,50,51,52,53,66,145,205,209,243,247,311]
 rs := [(24,7),(27,12),(32,17),(34,6),(55,29),(59,4),(65,2),(68,4),(70,10),(78,4),(90,3),(108,11),(120,4),(122,7),(126,8),(129,2),(150,11),(165,4),(211,2)]
 okF := ⟨⟨_, Tryz.underlying24, by kernel_rfl⟩,⟨_, Tryz.underlying27, by kernel_rfl⟩,⟨_, Tryz.underlying32, by kernel_rfl⟩,⟨_, Tryz.underlying34, by kernel_rfl⟩,⟨_, Tryz.underlying55, by kernel_rfl⟩,⟨_, Tryz.underlying59, by kernel_rfl⟩,⟨_, Tryz.underlying65, by kernel_rfl⟩,⟨_, Tryz.underlying68, by kernel_rfl⟩,⟨_, Tryz.underlying70, by kernel_rfl⟩,⟨_, Tryz.underlying78, by kernel_rfl⟩,⟨_, Tryz.underlying90, by kernel_rfl⟩,⟨_, Tryz.underlying108, by kernel_rfl⟩,⟨_, Tryz.underlying120, by kernel_rfl⟩,⟨_, Tryz.underlying122, by kernel_rfl⟩,⟨_, Tryz.underlying126, by kernel_rfl⟩,⟨_, Tryz.underlying129, by kernel_rfl⟩,⟨_, Tryz.underlying139, by kernel_rfl⟩,⟨_, Tryz.underlying150, by kernel_rfl⟩,⟨_, Tryz.underlying165, by kernel_rfl⟩,⟨_, Tryz.underlying207, by kernel_rfl⟩,⟨_, Tryz.underlying211, by kernel_rfl⟩,⟨_, Tryz.underlying264, by kernel_rfl⟩,⟨_, Tryz.underlying314, by kernel_rfl⟩,⟨_, Tryz.underlying346, by kernel_rfl⟩,trivial⟩
 okO := ⟨⟨⟨_, Tryz.underlying2, rfl⟩, by kernel_rfl⟩,⟨⟨_, Tryz.underlying3, rfl⟩, by kernel_rfl⟩,⟨⟨_, Tryz.underlying4, rfl⟩, by kernel_rfl⟩,⟨⟨_, Tryz.underlying5, rfl⟩, by kernel_rfl⟩,⟨⟨_, Tryz.underlying9, rfl⟩, by kernel_rfl⟩,⟨⟨_, Tryz.underlying22, rfl⟩, by kernel_rfl⟩,⟨⟨_, Tryz.underlying25, rfl⟩, by kernel_rfl⟩,⟨⟨_, Tryz.underlying28, rfl⟩, by kernel_rfl⟩,⟨⟨_, Tryz.underlying29, rfl⟩, by kernel_rfl⟩,⟨⟨_, Tryz.underlying30, rfl⟩, by kernel_rfl⟩,⟨⟨_, Tryz.underlying35, rfl⟩, by kernel_rfl⟩,⟨⟨_, Tryz.underlying38, rfl⟩, by kernel_rfl⟩,⟨⟨_, Tryz.underlying50, rfl⟩, by kernel_rfl⟩,⟨⟨_, Tryz.underlying51, rfl⟩, by kernel_rfl⟩,⟨⟨_, Tryz.underlying52, rfl⟩, by kernel_rfl⟩,⟨⟨_, Tryz.underlying53, rfl⟩, by kernel_rfl⟩,⟨⟨_, Tryz.underlying66, rfl⟩, by kernel_rfl⟩,⟨⟨_, Tryz.underlying145, rfl⟩, by kernel_rfl⟩,⟨⟨_, Tryz.underlying205, rfl⟩, by kernel_rfl⟩,⟨⟨_, Tryz.underlying209, rfl⟩, by kernel_rfl⟩,⟨⟨_, Tryz.underlying243, rfl⟩, by kernel_rfl⟩,⟨⟨_, Tryz.underlying247, rfl⟩, by kernel_rfl⟩,⟨⟨_, Tryz.underlying311, rfl⟩, by kernel_rfl⟩,trivial⟩
 okR := ⟨⟨⟨_, Tryz.underlying24, rfl⟩, by kernel_rfl⟩,⟨⟨_, Tryz.underlying27, rfl⟩, by kernel_rfl⟩,⟨⟨_, Tryz.underlying32, rfl⟩, by kernel_rfl⟩,⟨⟨_, Tryz.underlying34, rfl⟩, by kernel_rfl⟩,⟨⟨_, Tryz.underlying55, rfl⟩, by kernel_rfl⟩,⟨⟨_, Tryz.underlying59, rfl⟩, by kernel_rfl⟩,⟨⟨_, Tryz.underlying65, rfl⟩, by kernel_rfl⟩,⟨⟨_, Tryz.underlying68, rfl⟩, by kernel_rfl⟩,⟨⟨_, Tryz.underlying70, rfl⟩, by kernel_rfl⟩,⟨⟨_, Tryz.underlying78, rfl⟩, by kernel_rfl⟩,⟨⟨_, Tryz.underlying90, rfl⟩, by kernel_rfl⟩,⟨⟨_, Tryz.underlying108, rfl⟩, by kernel_rfl⟩,⟨⟨_, Tryz.underlying120, rfl⟩, by kernel_rfl⟩,⟨⟨_, Tryz.underlying122, rfl⟩, by kernel_rfl⟩,⟨⟨_, Tryz.underlying126, rfl⟩, by kernel_rfl⟩,⟨⟨_, Tryz.underlying129, rfl⟩, by kernel_rfl⟩,⟨⟨_, Tryz.underlying150, rfl⟩, by kernel_rfl⟩,⟨⟨_, Tryz.underlying165, rfl⟩, by kernel_rfl⟩,⟨⟨_, Tryz.underlying211, rfl⟩, by kernel_rfl⟩,trivial⟩
 okM := by kernel_rfl
theorem Fg {s i off : Nat} (h : fo (Ft.fs Tryz.prog) s i = some off) : FieldAt Tryz.prog s i off := fo_ok Ft.okF h
theorem Og {s : Nat} (h : ho (Ft.os Tryz.prog) s = true) : OneTy Tryz.prog s := ho_ok Ft.okO h
theorem Rg {s n : Nat} (h : ro (Ft.rs Tryz.prog) s = some n) : RowTy Tryz.prog s n := ro_ok Ft.okR h
def kN : Nat := 2135723876059858387814077599939148904017984608085683478824130708691146429853992217515761270657024
def kOk (P : Program) (f : Nat) : Bool := match P.funcs[f]? with
 | some fn => !(fn.name == "runtime.NumGoroutine") && !fn.body.isNone
 | none => false
theorem kAll : (List.range 320).all (fun f => Nat.beq (Nat.land (Nat.shiftRight kN f) 1) 0 || kOk Tryz.prog f) = true := by kernel_rfl
theorem Kg {f : Nat} (h : (Nat.blt f 320 && Nat.beq (Nat.land (Nat.shiftRight kN f) 1) 1) = true) : FnOk Tryz.prog f := by
 rw [Bool.and_eq_true] at h
 have h2 := List.all_eq_true.1 kAll f (List.mem_range.2 (lt_blt h.1))
 rw [show Nat.land (Nat.shiftRight kN f) 1 = 1 from Nat.eq_of_beq_eq_true h.2, show Nat.beq 1 0 = false from rfl, Bool.false_or, kOk] at h2
 split at h2
 · rename_i fn e
   simp only [Bool.and_eq_true, Bool.not_eq_true'] at h2
   exact ⟨⟨fn, e, h2.1, h2.2⟩⟩
 · cases h2
end Go.Proofs.YtmpoffijcfaalaaGreat
namespace Go.Proofs.YtmpoffijcfaalaaGreat
open Go.Eng Go.YtmpoffijcfaalaaGreat
theorem cells_3 : Tryz.prog.cellsOf 3 = 1 := by kernel_rfl
theorem opens_3 : Opens Pg 3 repInt := opens_int Tryz.underlying3
theorem cells_9 : Tryz.prog.cellsOf 9 = 1 := by kernel_rfl
theorem opens_9 : Opens Pg 9 repStr := opens_str Tryz.underlying9
theorem cells_90 : Tryz.prog.cellsOf 90 = 3 := by kernel_rfl
theorem opens_90 : Opens Pg 90 rPlace := by
 intro H enc w fuel cs x h
 have hl := struct_len Tryz.underlying90 h
 rw [cells_90] at hl
 obtain ⟨x0, e0, w0⟩ := field_opens Tryz.underlying90 h 0 0 1 rfl cells_3 opens_3
 obtain ⟨x1, e1, w1⟩ := field_opens Tryz.underlying90 h 1 1 1 rfl cells_9 opens_9
 obtain ⟨x2, e2, w2⟩ := field_opens Tryz.underlying90 h 2 2 1 rfl cells_3 opens_3
 have h0 : cs = cs.drop 0 := rfl
 rw [cut cs 0 1 1 rfl, e0, cut cs 1 1 2 rfl, e1, cut cs 2 1 3 rfl, e2, List.drop_eq_nil_of_le (Nat.le_of_eq hl)] at h0
 exact ⟨⟨x0, x1, x2⟩, (), h0, by simp, w0, w1, w2⟩
theorem cells_22 : Tryz.prog.cellsOf 22 = 1 := by kernel_rfl
theorem opens_22 : Opens Pg 22 (@repList TPlace rPlace) := opens_list Tryz.underlying22 cells_90 (by decide) opens_90
theorem cells_24 : Tryz.prog.cellsOf 24 = 7 := by kernel_rfl
theorem opens_24 : Opens Pg 24 rPlan := by
 intro H enc w fuel cs x h
 have hl := struct_len Tryz.underlying24 h
 rw [cells_24] at hl
 obtain ⟨x0, e0, w0⟩ := field_opens Tryz.underlying24 h 0 0 1 rfl cells_3 opens_3
 obtain ⟨x1, e1, w1⟩ := field_opens Tryz.underlying24 h 1 1 1 rfl cells_3 opens_3
 obtain ⟨x2, e2, w2⟩ := field_opens Tryz.underlying24 h 2 2 1 rfl cells_3 opens_3
 obtain ⟨x3, e3, w3⟩ := field_opens Tryz.underlying24 h 3 3 1 rfl cells_9 opens_9
 obtain ⟨x4, e4, w4⟩ := field_opens Tryz.underlying24 h 4 4 1 rfl cells_9 opens_9
 obtain ⟨x5, e5, w5⟩ := field_opens Tryz.underlying24 h 5 5 1 rfl cells_3 opens_3
 obtain ⟨x6, e6, w6⟩ := field_opens Tryz.underlying24 h 6 6 1 rfl cells_3 opens_3
 have h0 : cs = cs.drop 0 := rfl
 rw [cut cs 0 1 1 rfl, e0, cut cs 1 1 2 rfl, e1, cut cs 2 1 3 rfl, e2, cut cs 3 1 4 rfl, e3, cut cs 4 1 5 rfl, e4, cut cs 5 1 6 rfl, e5, cut cs 6 1 7 rfl, e6, List.drop_eq_nil_of_le (Nat.le_of_eq hl)] at h0
 exact ⟨⟨x0, x1, x2, x3, x4, x5, x6⟩, (), h0, by simp, w0, w1, w2, w3, w4, w5, w6⟩
theorem cells_4 : Tryz.prog.cellsOf 4 = 1 := by kernel_rfl
theorem opens_4 : Opens Pg 4 repBool := opens_bool Tryz.underlying4
theorem cells_38 : Tryz.prog.cellsOf 38 = 1 := by kernel_rfl
theorem opens_38 : Opens Pg 38 repInt := opens_int Tryz.underlying38
theorem cells_120 : Tryz.prog.cellsOf 120 = 4 := by kernel_rfl
theorem opens_120 : Opens Pg 120 rAnswer := by
 intro H enc w fuel cs x h
 have hl := struct_len Tryz.underlying120 h
 rw [cells_120] at hl
 obtain ⟨x0, e0, w0⟩ := field_opens Tryz.underlying120 h 0 0 1 rfl cells_38 opens_38
 obtain ⟨x1, e1, w1⟩ := field_opens Tryz.underlying120 h 1 1 1 rfl cells_3 opens_3
 obtain ⟨x2, e2, w2⟩ := field_opens Tryz.underlying120 h 2 2 1 rfl cells_3 opens_3
 obtain ⟨x3, e3, w3⟩ := field_opens Tryz.underlying120 h 3 3 1 rfl cells_3 opens_3
 have h0 : cs = cs.drop 0 := rfl
 rw [cut cs 0 1 1 rfl, e0, cut cs 1 1 2 rfl, e1, cut cs 2 1 3 rfl, e2, cut cs 3 1 4 rfl, e3, List.drop_eq_nil_of_le (Nat.le_of_eq hl)] at h0
 exact ⟨⟨x0, x1, x2, x3⟩, (), h0, by simp, w0, w1, w2, w3⟩
theorem cells_122 : Tryz.prog.cellsOf 122 = 7 := by kernel_rfl
theorem opens_122 : Opens Pg 122 rMark := by
 intro H enc w fuel cs x h
 have hl := struct_len Tryz.underlying122 h
 rw [cells_122] at hl
 obtain ⟨x0, e0, w0⟩ := field_opens Tryz.underlying122 h 0 0 1 rfl cells_3 opens_3
 obtain ⟨x1, e1, w1⟩ := field_opens Tryz.underlying122 h 1 1 1 rfl cells_3 opens_3
 obtain ⟨x2, e2, w2⟩ := field_opens Tryz.underlying122 h 2 2 1 rfl cells_4 opens_4
 obtain ⟨x3, h3, e3, s3, w3⟩ := field_opens Tryz.underlying122 h 3 3 4 rfl cells_120 opens_120
 have h0 : cs = cs.drop 0 := rfl
 rw [cut cs 0 1 1 rfl, e0, cut cs 1 1 2 rfl, e1, cut cs 2 1 3 rfl, e2, cut cs 3 4 7 rfl, e3, List.drop_eq_nil_of_le (Nat.le_of_eq hl)] at h0
 exact ⟨⟨x0, x1, x2, x3⟩, (), h0, by simp, w0, w1, trivial, w3⟩
theorem cells_25 : Tryz.prog.cellsOf 25 = 1 := by kernel_rfl
theorem opens_25 : Opens Pg 25 (@repList TMark rMark) := opens_list Tryz.underlying25 cells_122 (by decide) opens_122
theorem cells_27 : Tryz.prog.cellsOf 27 = 12 := by kernel_rfl
theorem opens_27 : Opens Pg 27 rChart := by
 intro H enc w fuel cs x h
 have hl := struct_len Tryz.underlying27 h
 rw [cells_27] at hl
 obtain ⟨x0, e0, w0⟩ := field_opens Tryz.underlying27 h 0 0 1 rfl cells_3 opens_3
 obtain ⟨x1, r1⟩ := field_opens Tryz.underlying27 h 1 1 1 rfl cells_22 opens_22
 obtain ⟨k1, e1, a1⟩ := list_atom r1
 obtain ⟨x2, e2, w2⟩ := field_opens Tryz.underlying27 h 2 2 1 rfl cells_3 opens_3
 obtain ⟨x3, e3, w3⟩ := field_opens Tryz.underlying27 h 3 3 1 rfl cells_3 opens_3
 obtain ⟨x4, h4, e4, s4, w4⟩ := field_opens Tryz.underlying27 h 4 4 7 rfl cells_24 opens_24
 obtain ⟨x5, r5⟩ := field_opens Tryz.underlying27 h 5 11 1 rfl cells_25 opens_25
 obtain ⟨k5, e5, a5⟩ := list_atom r5
 have h0 : cs = cs.drop 0 := rfl
 rw [cut cs 0 1 1 rfl, e0, cut cs 1 1 2 rfl, e1, cut cs 2 1 3 rfl, e2, cut cs 3 1 4 rfl, e3, cut cs 4 7 11 rfl, e4, cut cs 11 1 12 rfl, e5, List.drop_eq_nil_of_le (Nat.le_of_eq hl)] at h0
 exact ⟨⟨x0, x1, x2, x3, x4, x5⟩, ⟨k1, k5⟩, h0, fun t ht => by
  simp only [List.mem_cons, List.not_mem_nil, or_false] at ht
  rcases ht with rfl | rfl
  · exact a1
  · exact a5, w0, trivial, w2, w3, w4, trivial⟩
theorem cells_65 : Tryz.prog.cellsOf 65 = 2 := by kernel_rfl
theorem opens_65 : Opens Pg 65 rSpan := by
 intro H enc w fuel cs x h
 have hl := struct_len Tryz.underlying65 h
 rw [cells_65] at hl
 obtain ⟨x0, e0, w0⟩ := field_opens Tryz.underlying65 h 0 0 1 rfl cells_3 opens_3
 obtain ⟨x1, e1, w1⟩ := field_opens Tryz.underlying65 h 1 1 1 rfl cells_3 opens_3
 have h0 : cs = cs.drop 0 := rfl
 rw [cut cs 0 1 1 rfl, e0, cut cs 1 1 2 rfl, e1, List.drop_eq_nil_of_le (Nat.le_of_eq hl)] at h0
 exact ⟨⟨x0, x1⟩, (), h0, by simp, w0, w1⟩
theorem cells_165 : Tryz.prog.cellsOf 165 = 4 := by kernel_rfl
theorem opens_165 : Opens Pg 165 rHolder := by
 intro H enc w fuel cs x h
 have hl := struct_len Tryz.underlying165 h
 rw [cells_165] at hl
 obtain ⟨x0, e0, w0⟩ := field_opens Tryz.underlying165 h 0 0 1 rfl cells_3 opens_3
 obtain ⟨x1, e1, w1⟩ := field_opens Tryz.underlying165 h 1 1 1 rfl cells_3 opens_3
 obtain ⟨x2, e2, w2⟩ := field_opens Tryz.underlying165 h 2 2 1 rfl cells_3 opens_3
 obtain ⟨x3, e3, w3⟩ := field_opens Tryz.underlying165 h 3 3 1 rfl cells_3 opens_3
 have h0 : cs = cs.drop 0 := rfl
 rw [cut cs 0 1 1 rfl, e0, cut cs 1 1 2 rfl, e1, cut cs 2 1 3 rfl, e2, cut cs 3 1 4 rfl, e3, List.drop_eq_nil_of_le (Nat.le_of_eq hl)] at h0
 exact ⟨⟨x0, x1, x2, x3⟩, (), h0, by simp, w0, w1, w2, w3⟩
theorem cells_66 : Tryz.prog.cellsOf 66 = 1 := by kernel_rfl
theorem opens_66 : Opens Pg 66 (@repList THolder rHolder) := opens_list Tryz.underlying66 cells_165 (by decide) opens_165
theorem cells_68 : Tryz.prog.cellsOf 68 = 4 := by kernel_rfl
theorem opens_68 : Opens Pg 68 rLock := by
 intro H enc w fuel cs x h
 have hl := struct_len Tryz.underlying68 h
 rw [cells_68] at hl
 obtain ⟨x0, e0, w0⟩ := field_opens Tryz.underlying68 h 0 0 1 rfl cells_3 opens_3
 obtain ⟨x1, e1, w1⟩ := field_opens Tryz.underlying68 h 1 1 1 rfl cells_3 opens_3
 obtain ⟨x2, e2, w2⟩ := field_opens Tryz.underlying68 h 2 2 1 rfl cells_3 opens_3
 obtain ⟨x3, e3, w3⟩ := field_opens Tryz.underlying68 h 3 3 1 rfl cells_3 opens_3
 have h0 : cs = cs.drop 0 := rfl
 rw [cut cs 0 1 1 rfl, e0, cut cs 1 1 2 rfl, e1, cut cs 2 1 3 rfl, e2, cut cs 3 1 4 rfl, e3, List.drop_eq_nil_of_le (Nat.le_of_eq hl)] at h0
 exact ⟨⟨x0, x1, x2, x3⟩, (), h0, by simp, w0, w1, w2, w3⟩
theorem cells_70 : Tryz.prog.cellsOf 70 = 10 := by kernel_rfl
theorem opens_70 : Opens Pg 70 rAccount := by
 intro H enc w fuel cs x h
 have hl := struct_len Tryz.underlying70 h
 rw [cells_70] at hl
 obtain ⟨x0, e0, w0⟩ := field_opens Tryz.underlying70 h 0 0 1 rfl cells_9 opens_9
 obtain ⟨x1, h1, e1, s1, w1⟩ := field_opens Tryz.underlying70 h 1 1 2 rfl cells_65 opens_65
 obtain ⟨x2, e2, w2⟩ := field_opens Tryz.underlying70 h 2 3 1 rfl cells_3 opens_3
 obtain ⟨x3, e3, w3⟩ := field_opens Tryz.underlying70 h 3 4 1 rfl cells_3 opens_3
 obtain ⟨x4, r4⟩ := field_opens Tryz.underlying70 h 4 5 1 rfl cells_66 opens_66
 obtain ⟨k4, e4, a4⟩ := list_atom r4
 obtain ⟨x5, h5, e5, s5, w5⟩ := field_opens Tryz.underlying70 h 5 6 4 rfl cells_68 opens_68
 have h0 : cs = cs.drop 0 := rfl
 rw [cut cs 0 1 1 rfl, e0, cut cs 1 2 3 rfl, e1, cut cs 3 1 4 rfl, e2, cut cs 4 1 5 rfl, e3, cut cs 5 1 6 rfl, e4, cut cs 6 4 10 rfl, e5, List.drop_eq_nil_of_le (Nat.le_of_eq hl)] at h0
 exact ⟨⟨x0, x1, x2, x3, x4, x5⟩, k4, h0, fun t ht => by
  simp only [List.mem_cons, List.not_mem_nil, or_false] at ht
  subst ht
  · exact a4, w0, w1, w2, w3, trivial, w5⟩
theorem cells_50 : Tryz.prog.cellsOf 50 = 1 := by kernel_rfl
theorem opens_50 : Opens Pg 50 (@repList TAccount rAccount) := opens_list Tryz.underlying50 cells_70 (by decide) opens_70
theorem cells_34 : Tryz.prog.cellsOf 34 = 6 := by kernel_rfl
theorem opens_34 : Opens Pg 34 rOp := by
 intro H enc w fuel cs x h
 have hl := struct_len Tryz.underlying34 h
 rw [cells_34] at hl
 obtain ⟨x0, e0, w0⟩ := field_opens Tryz.underlying34 h 0 0 1 rfl cells_3 opens_3
 obtain ⟨x1, e1, w1⟩ := field_opens Tryz.underlying34 h 1 1 1 rfl cells_9 opens_9
 obtain ⟨x2, e2, w2⟩ := field_opens Tryz.underlying34 h 2 2 1 rfl cells_9 opens_9
 obtain ⟨x3, e3, w3⟩ := field_opens Tryz.underlying34 h 3 3 1 rfl cells_3 opens_3
 obtain ⟨x4, e4, w4⟩ := field_opens Tryz.underlying34 h 4 4 1 rfl cells_3 opens_3
 obtain ⟨x5, e5, w5⟩ := field_opens Tryz.underlying34 h 5 5 1 rfl cells_3 opens_3
 have h0 : cs = cs.drop 0 := rfl
 rw [cut cs 0 1 1 rfl, e0, cut cs 1 1 2 rfl, e1, cut cs 2 1 3 rfl, e2, cut cs 3 1 4 rfl, e3, cut cs 4 1 5 rfl, e4, cut cs 5 1 6 rfl, e5, List.drop_eq_nil_of_le (Nat.le_of_eq hl)] at h0
 exact ⟨⟨x0, x1, x2, x3, x4, x5⟩, (), h0, by simp, w0, w1, w2, w3, w4, w5⟩
theorem cells_108 : Tryz.prog.cellsOf 108 = 11 := by kernel_rfl
theorem opens_108 : Opens Pg 108 rWait := by
 intro H enc w fuel cs x h
 have hl := struct_len Tryz.underlying108 h
 rw [cells_108] at hl
 obtain ⟨x0, e0, w0⟩ := field_opens Tryz.underlying108 h 0 0 1 rfl cells_3 opens_3
 obtain ⟨x1, e1, w1⟩ := field_opens Tryz.underlying108 h 1 1 1 rfl cells_3 opens_3
 obtain ⟨x2, e2, w2⟩ := field_opens Tryz.underlying108 h 2 2 1 rfl cells_3 opens_3
 obtain ⟨x3, e3, w3⟩ := field_opens Tryz.underlying108 h 3 3 1 rfl cells_3 opens_3
 obtain ⟨x4, e4, w4⟩ := field_opens Tryz.underlying108 h 4 4 1 rfl cells_3 opens_3
 obtain ⟨x5, h5, e5, s5, w5⟩ := field_opens Tryz.underlying108 h 5 5 6 rfl cells_34 opens_34
 have h0 : cs = cs.drop 0 := rfl
 rw [cut cs 0 1 1 rfl, e0, cut cs 1 1 2 rfl, e1, cut cs 2 1 3 rfl, e2, cut cs 3 1 4 rfl, e3, cut cs 4 1 5 rfl, e4, cut cs 5 6 11 rfl, e5, List.drop_eq_nil_of_le (Nat.le_of_eq hl)] at h0
 exact ⟨⟨x0, x1, x2, x3, x4, x5⟩, (), h0, by simp, w0, w1, w2, w3, w4, w5⟩
theorem cells_51 : Tryz.prog.cellsOf 51 = 1 := by kernel_rfl
theorem opens_51 : Opens Pg 51 (@repList TWait rWait) := opens_list Tryz.underlying51 cells_108 (by decide) opens_108
theorem cells_126 : Tryz.prog.cellsOf 126 = 8 := by kernel_rfl
theorem opens_126 : Opens Pg 126 rDeal := by
 intro H enc w fuel cs x h
 have hl := struct_len Tryz.underlying126 h
 rw [cells_126] at hl
 obtain ⟨x0, e0, w0⟩ := field_opens Tryz.underlying126 h 0 0 1 rfl cells_3 opens_3
 obtain ⟨x1, e1, w1⟩ := field_opens Tryz.underlying126 h 1 1 1 rfl cells_3 opens_3
 obtain ⟨x2, e2, w2⟩ := field_opens Tryz.underlying126 h 2 2 1 rfl cells_9 opens_9
 obtain ⟨x3, e3, w3⟩ := field_opens Tryz.underlying126 h 3 3 1 rfl cells_9 opens_9
 obtain ⟨x4, e4, w4⟩ := field_opens Tryz.underlying126 h 4 4 1 rfl cells_3 opens_3
 obtain ⟨x5, e5, w5⟩ := field_opens Tryz.underlying126 h 5 5 1 rfl cells_3 opens_3
 obtain ⟨x6, e6, w6⟩ := field_opens Tryz.underlying126 h 6 6 1 rfl cells_3 opens_3
 obtain ⟨x7, e7, w7⟩ := field_opens Tryz.underlying126 h 7 7 1 rfl cells_3 opens_3
 have h0 : cs = cs.drop 0 := rfl
 rw [cut cs 0 1 1 rfl, e0, cut cs 1 1 2 rfl, e1, cut cs 2 1 3 rfl, e2, cut cs 3 1 4 rfl, e3, cut cs 4 1 5 rfl, e4, cut cs 5 1 6 rfl, e5, cut cs 6 1 7 rfl, e6, cut cs 7 1 8 rfl, e7, List.drop_eq_nil_of_le (Nat.le_of_eq hl)] at h0
 exact ⟨⟨x0, x1, x2, x3, x4, x5, x6, x7⟩, (), h0, by simp, w0, w1, w2, w3, w4, w5, w6, w7⟩
theorem cells_52 : Tryz.prog.cellsOf 52 = 1 := by kernel_rfl
theorem opens_52 : Opens Pg 52 (@repList TDeal rDeal) := opens_list Tryz.underlying52 cells_126 (by decide) opens_126
theorem cells_129 : Tryz.prog.cellsOf 129 = 2 := by kernel_rfl
theorem opens_129 : Opens Pg 129 rEnd := by
 intro H enc w fuel cs x h
 have hl := struct_len Tryz.underlying129 h
 rw [cells_129] at hl
 obtain ⟨x0, e0, w0⟩ := field_opens Tryz.underlying129 h 0 0 1 rfl cells_3 opens_3
 obtain ⟨x1, e1, w1⟩ := field_opens Tryz.underlying129 h 1 1 1 rfl cells_3 opens_3
 have h0 : cs = cs.drop 0 := rfl
 rw [cut cs 0 1 1 rfl, e0, cut cs 1 1 2 rfl, e1, List.drop_eq_nil_of_le (Nat.le_of_eq hl)] at h0
 exact ⟨⟨x0, x1⟩, (), h0, by simp, w0, w1⟩
theorem cells_53 : Tryz.prog.cellsOf 53 = 1 := by kernel_rfl
theorem opens_53 : Opens Pg 53 (@repList TEnd rEnd) := opens_list Tryz.underlying53 cells_129 (by decide) opens_129
theorem cells_5 : Tryz.prog.cellsOf 5 = 1 := by kernel_rfl
theorem opens_5 : Opens Pg 5 repByte := opens_byte Tryz.underlying5
theorem cells_35 : Tryz.prog.cellsOf 35 = 1 := by kernel_rfl
theorem opens_35 : Opens Pg 35 (@repList UInt8 repByte) := opens_list Tryz.underlying35 cells_5 (by decide) opens_5
theorem cells_55 : Tryz.prog.cellsOf 55 = 29 := by kernel_rfl
theorem opens_55 : Opens Pg 55 rState := by
 intro H enc w fuel cs x h
 have hl := struct_len Tryz.underlying55 h
 rw [cells_55] at hl
 obtain ⟨x0, e0, w0⟩ := field_opens Tryz.underlying55 h 0 0 1 rfl cells_3 opens_3
 obtain ⟨x1, e1, w1⟩ := field_opens Tryz.underlying55 h 1 1 1 rfl cells_3 opens_3
 obtain ⟨x2, e2, w2⟩ := field_opens Tryz.underlying55 h 2 2 1 rfl cells_4 opens_4
 obtain ⟨x3, e3, w3⟩ := field_opens Tryz.underlying55 h 3 3 1 rfl cells_9 opens_9
 obtain ⟨x4, e4, w4⟩ := field_opens Tryz.underlying55 h 4 4 1 rfl cells_9 opens_9
 obtain ⟨x5, e5, w5⟩ := field_opens Tryz.underlying55 h 5 5 1 rfl cells_3 opens_3
 obtain ⟨x6, r6⟩ := field_opens Tryz.underlying55 h 6 6 1 rfl cells_50 opens_50
 obtain ⟨k6, e6, a6⟩ := list_atom r6
 obtain ⟨x7, r7⟩ := field_opens Tryz.underlying55 h 7 7 1 rfl cells_25 opens_25
 obtain ⟨k7, e7, a7⟩ := list_atom r7
 obtain ⟨x8, r8⟩ := field_opens Tryz.underlying55 h 8 8 1 rfl cells_51 opens_51
 obtain ⟨k8, e8, a8⟩ := list_atom r8
 obtain ⟨x9, r9⟩ := field_opens Tryz.underlying55 h 9 9 1 rfl cells_52 opens_52
 obtain ⟨k9, e9, a9⟩ := list_atom r9
 obtain ⟨x10, r10⟩ := field_opens Tryz.underlying55 h 10 10 1 rfl cells_53 opens_53
 obtain ⟨k10, e10, a10⟩ := list_atom r10
 obtain ⟨x11, h11, e11, s11, w11⟩ := field_opens Tryz.underlying55 h 11 11 7 rfl cells_24 opens_24
 obtain ⟨x12, h12, e12, s12, w12⟩ := field_opens Tryz.underlying55 h 12 18 7 rfl cells_24 opens_24
 obtain ⟨x13, r13⟩ := field_opens Tryz.underlying55 h 13 25 1 rfl cells_35 opens_35
 obtain ⟨k13, e13, a13⟩ := list_atom r13
 obtain ⟨x14, e14, w14⟩ := field_opens Tryz.underlying55 h 14 26 1 rfl cells_3 opens_3
 obtain ⟨x15, e15, w15⟩ := field_opens Tryz.underlying55 h 15 27 1 rfl cells_3 opens_3
 obtain ⟨x16, e16, w16⟩ := field_opens Tryz.underlying55 h 16 28 1 rfl cells_3 opens_3
 have h0 : cs = cs.drop 0 := rfl
 rw [cut cs 0 1 1 rfl, e0, cut cs 1 1 2 rfl, e1, cut cs 2 1 3 rfl, e2, cut cs 3 1 4 rfl, e3, cut cs 4 1 5 rfl, e4, cut cs 5 1 6 rfl, e5, cut cs 6 1 7 rfl, e6, cut cs 7 1 8 rfl, e7, cut cs 8 1 9 rfl, e8, cut cs 9 1 10 rfl, e9, cut cs 10 1 11 rfl, e10, cut cs 11 7 18 rfl, e11, cut cs 18 7 25 rfl, e12, cut cs 25 1 26 rfl, e13, cut cs 26 1 27 rfl, e14, cut cs 27 1 28 rfl, e15, cut cs 28 1 29 rfl, e16, List.drop_eq_nil_of_le (Nat.le_of_eq hl)] at h0
 exact ⟨⟨x0, x1, x2, x3, x4, x5, x6, x7, x8, x9, x10, x11, x12, x13, x14, x15, x16⟩, ⟨k6, k7, k8, k9, k10, k13⟩, h0, fun t ht => by
  simp only [List.mem_cons, List.not_mem_nil, or_false] at ht
  rcases ht with rfl | rfl | rfl | rfl | rfl | rfl
  · exact a6
  · exact a7
  · exact a8
  · exact a9
  · exact a10
  · exact a13, w0, w1, trivial, w3, w4, w5, trivial, trivial, trivial, trivial, trivial, w11, w12, trivial, w14, w15, w16⟩
theorem cells_28 : Tryz.prog.cellsOf 28 = 1 := by kernel_rfl
theorem opens_28 : Opens Pg 28 (@repList TState rState) := opens_list Tryz.underlying28 cells_55 (by decide) opens_55
theorem cells_59 : Tryz.prog.cellsOf 59 = 4 := by kernel_rfl
theorem opens_59 : Opens Pg 59 rRight := by
 intro H enc w fuel cs x h
 have hl := struct_len Tryz.underlying59 h
 rw [cells_59] at hl
 obtain ⟨x0, e0, w0⟩ := field_opens Tryz.underlying59 h 0 0 1 rfl cells_3 opens_3
 obtain ⟨x1, e1, w1⟩ := field_opens Tryz.underlying59 h 1 1 1 rfl cells_9 opens_9
 obtain ⟨x2, e2, w2⟩ := field_opens Tryz.underlying59 h 2 2 1 rfl cells_3 opens_3
 obtain ⟨x3, e3, w3⟩ := field_opens Tryz.underlying59 h 3 3 1 rfl cells_3 opens_3
 have h0 : cs = cs.drop 0 := rfl
 rw [cut cs 0 1 1 rfl, e0, cut cs 1 1 2 rfl, e1, cut cs 2 1 3 rfl, e2, cut cs 3 1 4 rfl, e3, List.drop_eq_nil_of_le (Nat.le_of_eq hl)] at h0
 exact ⟨⟨x0, x1, x2, x3⟩, (), h0, by simp, w0, w1, w2, w3⟩
theorem cells_29 : Tryz.prog.cellsOf 29 = 1 := by kernel_rfl
theorem opens_29 : Opens Pg 29 (@repList TRight rRight) := opens_list Tryz.underlying29 cells_59 (by decide) opens_59
theorem cells_62 : Tryz.prog.cellsOf 62 = 3 := by kernel_rfl
theorem opens_62 : Opens Pg 62 rAge := by
 intro H enc w fuel cs x h
 have hl := struct_len Tryz.underlying62 h
 rw [cells_62] at hl
 obtain ⟨x0, e0, w0⟩ := field_opens Tryz.underlying62 h 0 0 1 rfl cells_3 opens_3
 obtain ⟨x1, e1, w1⟩ := field_opens Tryz.underlying62 h 1 1 1 rfl cells_3 opens_3
 obtain ⟨x2, e2, w2⟩ := field_opens Tryz.underlying62 h 2 2 1 rfl cells_3 opens_3
 have h0 : cs = cs.drop 0 := rfl
 rw [cut cs 0 1 1 rfl, e0, cut cs 1 1 2 rfl, e1, cut cs 2 1 3 rfl, e2, List.drop_eq_nil_of_le (Nat.le_of_eq hl)] at h0
 exact ⟨⟨x0, x1, x2⟩, (), h0, by simp, w0, w1, w2⟩
theorem cells_30 : Tryz.prog.cellsOf 30 = 1 := by kernel_rfl
theorem opens_30 : Opens Pg 30 (@repList TAge rAge) := opens_list Tryz.underlying30 cells_62 (by decide) opens_62
theorem cells_32 : Tryz.prog.cellsOf 32 = 17 := by kernel_rfl
theorem opens_32 : Opens Pg 32 rScene := by
 intro H enc w fuel cs x h
 have hl := struct_len Tryz.underlying32 h
 rw [cells_32] at hl
 obtain ⟨x0, e0, w0⟩ := field_opens Tryz.underlying32 h 0 0 1 rfl cells_3 opens_3
 obtain ⟨x1, e1, w1⟩ := field_opens Tryz.underlying32 h 1 1 1 rfl cells_3 opens_3
 obtain ⟨x2, h2, e2, s2, w2⟩ := field_opens Tryz.underlying32 h 2 2 12 rfl cells_27 opens_27
 obtain ⟨x3, r3⟩ := field_opens Tryz.underlying32 h 3 14 1 rfl cells_28 opens_28
 obtain ⟨k3, e3, a3⟩ := list_atom r3
 obtain ⟨x4, r4⟩ := field_opens Tryz.underlying32 h 4 15 1 rfl cells_29 opens_29
 obtain ⟨k4, e4, a4⟩ := list_atom r4
 obtain ⟨x5, r5⟩ := field_opens Tryz.underlying32 h 5 16 1 rfl cells_30 opens_30
 obtain ⟨k5, e5, a5⟩ := list_atom r5
 have h0 : cs = cs.drop 0 := rfl
 rw [cut cs 0 1 1 rfl, e0, cut cs 1 1 2 rfl, e1, cut cs 2 12 14 rfl, e2, cut cs 14 1 15 rfl, e3, cut cs 15 1 16 rfl, e4, cut cs 16 1 17 rfl, e5, List.drop_eq_nil_of_le (Nat.le_of_eq hl)] at h0
 exact ⟨⟨x0, x1, x2, x3, x4, x5⟩, ⟨h2.1, h2.2, k3, k4, k5⟩, h0, fun t ht => by
  simp only [List.mem_cons, List.not_mem_nil, or_false] at ht
  rcases ht with rfl | rfl | rfl | rfl | rfl
  · exact s2 _ (List.mem_cons_self ..)
  · exact s2 _ (List.mem_cons_of_mem _ (List.mem_cons_self ..))
  · exact a3
  · exact a4
  · exact a5, w0, w1, w2, trivial, trivial, trivial⟩
end Go.Proofs.YtmpoffijcfaalaaGreat
namespace Go.YtmpoffijcfaalaaGreat
open Go.Eng
theorem find17_lt {l : List TPlace} {k : ByteArray} (h : 0 < l.length) : find17 l k < l.length := by
 unfold find17
 cases e : firstI l.length (fun j => within (l.getD j default).fFrom (endP l j) k) with
 | none => exact h
 | some j => exact firstI_lt e
def goes1 (c : TChart) : Bool := decide (epochP c.fPlaces ≥ far) || !decide (c.fPlan.fNumber = c.fLast) || decide (c.fPlan.fNumber < 1) || !okClient c.fPlan.fClient || !okSeq c.fPlan.fSeq
def goes2 (c : TChart) : Bool := decide (c.fPlan.fTo = c.fNext - 1) && decide ((c.fPlaces.length : Int) < 7) && okKey c.fPlan.fLo && decide ((c.fPlaces.getD (find17 c.fPlaces c.fPlan.fLo) default).fGroup = c.fPlan.fFrom) && (!decide ((c.fPlaces.getD (find17 c.fPlaces c.fPlan.fLo) default).fFrom = c.fPlan.fLo)) && decide (c.fPlan.fHi = endP c.fPlaces (find17 c.fPlaces c.fPlan.fLo))
def goes3 (c : TChart) : Bool := decide (nxt c < (c.fPlaces.length : Int)) && decide ((c.fPlaces.getD (nxt c).toNat default).fGroup = c.fPlan.fFrom) && decide ((c.fPlaces.getD (nxt c).toNat default).fFrom = c.fPlan.fLo) && decide (endP c.fPlaces (nxt c) = c.fPlan.fHi)
def goesP (c : TChart) : Bool := if goes1 c = true then false else if (!(ofP c.fPlaces c.fPlan.fTo).isSome) = true then goes2 c else goes3 c
def right20a (c : TChart) : Bool := !okNum c.fIndex || !okNum c.fLast || !places17 c.fPlaces || decide (c.fNext < 2) || decide (c.fNext > 8) || !marks14 c.fMarks
def right20b (c : TChart) : Bool := allI c.fPlaces.length (fun j => !decide ((c.fPlaces.getD j default).fGroup ≥ c.fNext))
def right20 (c : TChart) : Bool := if right20a c = true then false else if right20b c = true then (decide (c.fPlan = ⟨0, 0, 0, ByteArray.empty, ByteArray.empty, 0, 0⟩) || goesP c) else false
theorem places17_pos {l : List TPlace} (h : places17 l = true) : 0 < l.length := by
 unfold places17 at h
 split at h
 · cases h
 · rename_i hn
   simp only [place17a, Bool.or_eq_true, decide_eq_true_eq, not_or] at hn
   have := hn.1.1
   omega
def bnd {α β : Type} (x : α × Rd) (f : α → Rd → β × Rd) : β × Rd := f x.1 x.2
theorem bnd_pos {α β : Type} {x : α × Rd} {f : α → Rd → β × Rd} {n : Nat} (h : x.2.pos ≤ n) (k : ∀ a s, s.pos ≤ n → (f a s).2.pos ≤ n) : (bnd x f).2.pos ≤ n := k _ _ h
theorem bnd_wf {α β : Type} {x : α × Rd} {f : α → Rd → β × Rd} {q : α → Prop} {p : β → Prop} (h : q x.1) (k : ∀ a s, q a → p (f a s).1) : p (bnd x f).1 := k _ _ h
theorem rdText_size (bs : List UInt8) (s : Rd) : (⟨(rdText bs 65535 s).1.toArray⟩ : ByteArray).size ≤ 9223372036854775807 := by
 show (rdText bs 65535 s).1.toArray.size ≤ _
 rw [List.size_toArray]
 have := (textD_bd (bs.drop s.pos) 65535).2.2
 simp only [rdText, rdOf, Rd.val]
 split
 · exact Nat.zero_le _
 · split
   · exact Nat.zero_le _
   · omega
theorem rdCount_le' (bs : List UInt8) (s : Rd) : (rdCount bs 1024 s).1 ≤ 1024 := by
 have := (countD_bd (bs.drop s.pos) 1024).1
 simp only [rdCount, rdOf, Rd.val]
 split
 · omega
 · split
   · omega
   · omega
theorem rdMany_pos {α : Type} {bs : List UInt8} {rd : Rd → α × Rd} (h : ∀ s, s.pos ≤ bs.length → (rd s).2.pos ≤ bs.length) : ∀ {n : Nat} {s : Rd}, s.pos ≤ bs.length → (rdMany rd n s).2.pos ≤ bs.length
 | 0, _, hs => hs
 | n + 1, s, hs => by
  unfold rdMany
  split
  · exact rdMany_pos h (h _ hs)
  · exact hs
theorem rdLs_pos {α : Type} {bs : List UInt8} {rd : Rd → α × Rd} {s : Rd} (h : ∀ s, s.pos ≤ bs.length → (rd s).2.pos ≤ bs.length) (hs : s.pos ≤ bs.length) : (rdLs bs rd s).2.pos ≤ bs.length := rdMany_pos h (rdCount_pos hs)
theorem rdCount_stop {bs : List UInt8} {m : Int} {s : Rd} (h : s.fault ≠ 0) : rdCount bs m s = (0, s) := by
 have h2 : (rdCount bs m s).2 = s := rdOf_stop (d := 0) (f := fun l => countD l m) h
 have h1 : (rdCount bs m s).1 = 0 := by
  simp only [rdCount, rdOf, Rd.val]
  rw [if_pos h]
 exact Prod.ext h1 h2
theorem rdLs_stop {α : Type} {bs : List UInt8} {rd : Rd → α × Rd} {s : Rd} (h : s.fault ≠ 0) : rdLs bs rd s = ([], s) := by
 unfold rdLs
 rw [rdCount_stop h]
 rfl
theorem rdMany_stop {α : Type} {rd : Rd → α × Rd} {s : Rd} (h : s.fault ≠ 0) (n : Nat) : rdMany rd n s = ([], s) := by
 cases n with
 | zero => rfl
 | succ n => unfold rdMany; rw [if_neg h]
theorem rdMany_go {α : Type} {rd : Rd → α × Rd} {s : Rd} (h : s.fault = 0) (n : Nat) : rdMany rd (n + 1) s = ((rd s).1 :: (rdMany rd n (rd s).2).1, (rdMany rd n (rd s).2).2) := by
 rw [rdMany, if_pos h]
theorem rdMany_step {α : Type} {rd : Rd → α × Rd} {s : Rd} {N i : Nat} {acc : List α} {R : List α × Rd} (hi : i < N) (hf : s.fault = 0) (he : R = (acc ++ (rdMany rd (N - i) s).1, (rdMany rd (N - i) s).2)) : R = ((acc ++ [(rd s).1]) ++ (rdMany rd (N - (i + 1)) (rd s).2).1, (rdMany rd (N - (i + 1)) (rd s).2).2) := by
 rw [he, show N - i = (N - (i + 1)) + 1 by omega, rdMany_go hf]
 simp
theorem set_at {c : List Value} {o : Nat} {v : Value} (h : o < c.length) : (c.set o v)[o]? = some v := by simp [h]
theorem intsP_at {bs : List UInt8} {x : Nat} : ∀ {offs : List Nat} {p : List Value × Rd}, x ∉ offs → (intsP bs offs p).1[x]? = p.1[x]?
 | [], _, _ => rfl
 | o :: r, p, h => by
  rw [intsP, intsP_at (fun hx => h (List.mem_cons_of_mem _ hx))]
  exact List.getElem?_set_ne (fun e => h (by subst e; exact List.mem_cons_self ..))
theorem textsP_at {bs : List UInt8} {x : Nat} : ∀ {offs : List Nat} {p : List Value × Rd}, x ∉ offs → (textsP bs offs p).1[x]? = p.1[x]?
 | [], _, _ => rfl
 | o :: r, p, h => by
  rw [textsP, textsP_at (fun hx => h (List.mem_cons_of_mem _ hx))]
  exact List.getElem?_set_ne (fun e => h (by subst e; exact List.mem_cons_self ..))
def flagP (bs : List UInt8) (o : Nat) (p : List Value × Rd) : List Value × Rd := (p.1.set o (.bool (rdFlag bs p.2).1), (rdFlag bs p.2).2)
def setL {α : Type} (o : Nat) (y : Value) (rd : Rd → α × Rd) (p : List Value × Rd) : List Value × Rd := (p.1.set o y, (rd p.2).2)
def opPr (bs : List UInt8) (o : Nat) (p : List Value × Rd) : List Value × Rd := intsP bs [o + 3, o + 4, o + 5] (textsP bs [o + 1, o + 2] (intsP bs [o] p))
def planPr (bs : List UInt8) (o : Nat) (p : List Value × Rd) : List Value × Rd := intsP bs [o + 5, o + 6] (textsP bs [o + 3, o + 4] (intsP bs [o, o + 1, o + 2] p))
theorem setL_pos {α : Type} {o : Nat} {y : Value} {rd : Rd → α × Rd} {p : List Value × Rd} {n : Nat} (h : (rd p.2).2.pos ≤ n) : (setL o y rd p).2.pos ≤ n := h
theorem flagP_pos {bs : List UInt8} {o : Nat} {p : List Value × Rd} (h : p.2.pos ≤ bs.length) : (flagP bs o p).2.pos ≤ bs.length := rdFlag_pos h
theorem planPr_pos {bs : List UInt8} {o : Nat} {p : List Value × Rd} (h : p.2.pos ≤ bs.length) : (planPr bs o p).2.pos ≤ bs.length := intsP_pos (textsP_pos (intsP_pos h))
def gdSpan (bs : List UInt8) (s : Rd) : TSpan × Rd :=
 bnd (rdInt bs s) fun a0 s1 =>
 bnd (rdInt bs s1) fun a1 s2 =>
 ({ fLo := a0, fHi := a1 }, s2)
theorem gdSpan_pos {bs : List UInt8} {s : Rd} (h : s.pos ≤ bs.length) : (gdSpan bs s).2.pos ≤ bs.length := by
 exact bnd_pos (rdInt_pos h) fun _ _ h => bnd_pos (rdInt_pos h) fun _ _ h => h
theorem gdSpan_wf (bs : List UInt8) (s : Rd) : (gdSpan bs s).1.wf := by
 exact bnd_wf (q := InI) (rdInt_in _ _) fun _ _ h0 => bnd_wf (q := InI) (rdInt_in _ _) fun _ _ h1 => ⟨h0, h1⟩
def gdLock (bs : List UInt8) (s : Rd) : TLock × Rd :=
 bnd (rdInt bs s) fun a0 s1 =>
 bnd (rdInt bs s1) fun a1 s2 =>
 bnd (rdInt bs s2) fun a2 s3 =>
 bnd (rdInt bs s3) fun a3 s4 =>
 ({ fClient := a0, fSeq := a1, fHome := a2, fN := a3 }, s4)
theorem gdLock_pos {bs : List UInt8} {s : Rd} (h : s.pos ≤ bs.length) : (gdLock bs s).2.pos ≤ bs.length := by
 exact bnd_pos (rdInt_pos h) fun _ _ h => bnd_pos (rdInt_pos h) fun _ _ h => bnd_pos (rdInt_pos h) fun _ _ h => bnd_pos (rdInt_pos h) fun _ _ h => h
theorem gdLock_wf (bs : List UInt8) (s : Rd) : (gdLock bs s).1.wf := by
 exact bnd_wf (q := InI) (rdInt_in _ _) fun _ _ h0 => bnd_wf (q := InI) (rdInt_in _ _) fun _ _ h1 => bnd_wf (q := InI) (rdInt_in _ _) fun _ _ h2 => bnd_wf (q := InI) (rdInt_in _ _) fun _ _ h3 => ⟨h0, h1, h2, h3⟩
def gdHolder (bs : List UInt8) (s : Rd) : THolder × Rd :=
 bnd (rdInt bs s) fun a0 s1 =>
 bnd (rdInt bs s1) fun a1 s2 =>
 bnd (rdInt bs s2) fun a2 s3 =>
 bnd (rdInt bs s3) fun a3 s4 =>
 ({ fNode := a0, fLease := a1, fUp := a2, fDown := a3 }, s4)
theorem gdHolder_pos {bs : List UInt8} {s : Rd} (h : s.pos ≤ bs.length) : (gdHolder bs s).2.pos ≤ bs.length := by
 exact bnd_pos (rdInt_pos h) fun _ _ h => bnd_pos (rdInt_pos h) fun _ _ h => bnd_pos (rdInt_pos h) fun _ _ h => bnd_pos (rdInt_pos h) fun _ _ h => h
theorem gdHolder_wf (bs : List UInt8) (s : Rd) : (gdHolder bs s).1.wf := by
 exact bnd_wf (q := InI) (rdInt_in _ _) fun _ _ h0 => bnd_wf (q := InI) (rdInt_in _ _) fun _ _ h1 => bnd_wf (q := InI) (rdInt_in _ _) fun _ _ h2 => bnd_wf (q := InI) (rdInt_in _ _) fun _ _ h3 => ⟨h0, h1, h2, h3⟩
def gdAnswer (bs : List UInt8) (s : Rd) : TAnswer × Rd :=
 bnd (rdInt bs s) fun a0 s1 =>
 bnd (rdInt bs s1) fun a1 s2 =>
 bnd (rdInt bs s2) fun a2 s3 =>
 bnd (rdInt bs s3) fun a3 s4 =>
 ({ fErr := a0, fValue := a1, fLeast := a2, fMost := a3 }, s4)
theorem gdAnswer_pos {bs : List UInt8} {s : Rd} (h : s.pos ≤ bs.length) : (gdAnswer bs s).2.pos ≤ bs.length := by
 exact bnd_pos (rdInt_pos h) fun _ _ h => bnd_pos (rdInt_pos h) fun _ _ h => bnd_pos (rdInt_pos h) fun _ _ h => bnd_pos (rdInt_pos h) fun _ _ h => h
theorem gdAnswer_wf (bs : List UInt8) (s : Rd) : (gdAnswer bs s).1.wf := by
 exact bnd_wf (q := InI) (rdInt_in _ _) fun _ _ h0 => bnd_wf (q := InI) (rdInt_in _ _) fun _ _ h1 => bnd_wf (q := InI) (rdInt_in _ _) fun _ _ h2 => bnd_wf (q := InI) (rdInt_in _ _) fun _ _ h3 => ⟨h0, h1, h2, h3⟩
def gdOp (bs : List UInt8) (s : Rd) : TOp × Rd :=
 bnd (rdInt bs s) fun a0 s1 =>
 bnd (rdText bs 65535 s1) fun a1 s2 =>
 bnd (rdText bs 65535 s2) fun a2 s3 =>
 bnd (rdInt bs s3) fun a3 s4 =>
 bnd (rdInt bs s4) fun a4 s5 =>
 bnd (rdInt bs s5) fun a5 s6 =>
 ({ fKind := a0, fKey := ⟨a1.toArray⟩, fOther := ⟨a2.toArray⟩, fN := a3, fLo := a4, fHi := a5 }, s6)
theorem gdOp_pos {bs : List UInt8} {s : Rd} (h : s.pos ≤ bs.length) : (gdOp bs s).2.pos ≤ bs.length := by
 exact bnd_pos (rdInt_pos h) fun _ _ h => bnd_pos (rdText_pos h) fun _ _ h => bnd_pos (rdText_pos h) fun _ _ h => bnd_pos (rdInt_pos h) fun _ _ h => bnd_pos (rdInt_pos h) fun _ _ h => bnd_pos (rdInt_pos h) fun _ _ h => h
theorem gdOp_wf (bs : List UInt8) (s : Rd) : (gdOp bs s).1.wf := by
 exact bnd_wf (q := InI) (rdInt_in _ _) fun _ _ h0 => bnd_wf (q := (fun l : List UInt8 => (⟨l.toArray⟩ : ByteArray).size ≤ 9223372036854775807)) (rdText_size _ _) fun _ _ h1 => bnd_wf (q := (fun l : List UInt8 => (⟨l.toArray⟩ : ByteArray).size ≤ 9223372036854775807)) (rdText_size _ _) fun _ _ h2 => bnd_wf (q := InI) (rdInt_in _ _) fun _ _ h3 => bnd_wf (q := InI) (rdInt_in _ _) fun _ _ h4 => bnd_wf (q := InI) (rdInt_in _ _) fun _ _ h5 => ⟨h0, h1, h2, h3, h4, h5⟩
def gdPlan (bs : List UInt8) (s : Rd) : TPlan × Rd :=
 bnd (rdInt bs s) fun a0 s1 =>
 bnd (rdInt bs s1) fun a1 s2 =>
 bnd (rdInt bs s2) fun a2 s3 =>
 bnd (rdText bs 65535 s3) fun a3 s4 =>
 bnd (rdText bs 65535 s4) fun a4 s5 =>
 bnd (rdInt bs s5) fun a5 s6 =>
 bnd (rdInt bs s6) fun a6 s7 =>
 ({ fNumber := a0, fFrom := a1, fTo := a2, fLo := ⟨a3.toArray⟩, fHi := ⟨a4.toArray⟩, fClient := a5, fSeq := a6 }, s7)
def gdEnd (bs : List UInt8) (s : Rd) : TEnd × Rd :=
 bnd (rdInt bs s) fun a0 s1 =>
 bnd (rdInt bs s1) fun a1 s2 =>
 ({ fClient := a0, fSeq := a1 }, s2)
theorem gdEnd_pos {bs : List UInt8} {s : Rd} (h : s.pos ≤ bs.length) : (gdEnd bs s).2.pos ≤ bs.length := by
 exact bnd_pos (rdInt_pos h) fun _ _ h => bnd_pos (rdInt_pos h) fun _ _ h => h
theorem gdEnd_wf (bs : List UInt8) (s : Rd) : (gdEnd bs s).1.wf := by
 exact bnd_wf (q := InI) (rdInt_in _ _) fun _ _ h0 => bnd_wf (q := InI) (rdInt_in _ _) fun _ _ h1 => ⟨h0, h1⟩
def gdMark (bs : List UInt8) (s : Rd) : TMark × Rd :=
 bnd (rdInt bs s) fun a0 s1 =>
 bnd (rdInt bs s1) fun a1 s2 =>
 bnd (rdFlag bs s2) fun a2 s3 =>
 bnd (gdAnswer bs s3) fun a3 s4 =>
 ({ fClient := a0, fSeq := a1, fOpen := a2, fAnswer := a3 }, s4)
theorem gdMark_pos {bs : List UInt8} {s : Rd} (h : s.pos ≤ bs.length) : (gdMark bs s).2.pos ≤ bs.length := by
 exact bnd_pos (rdInt_pos h) fun _ _ h => bnd_pos (rdInt_pos h) fun _ _ h => bnd_pos (rdFlag_pos h) fun _ _ h => bnd_pos (gdAnswer_pos h) fun _ _ h => h
theorem gdMark_wf (bs : List UInt8) (s : Rd) : (gdMark bs s).1.wf := by
 exact bnd_wf (q := InI) (rdInt_in _ _) fun _ _ h0 => bnd_wf (q := InI) (rdInt_in _ _) fun _ _ h1 => bnd_wf (q := (fun _ => True)) (trivial) fun _ _ h2 => bnd_wf (q := TAnswer.wf) (gdAnswer_wf _ _) fun _ _ h3 => ⟨h0, h1, h2, h3⟩
def gdDeal (bs : List UInt8) (s : Rd) : TDeal × Rd :=
 bnd (rdInt bs s) fun a0 s1 =>
 bnd (rdInt bs s1) fun a1 s2 =>
 bnd (rdText bs 65535 s2) fun a2 s3 =>
 bnd (rdText bs 65535 s3) fun a3 s4 =>
 bnd (rdInt bs s4) fun a4 s5 =>
 bnd (rdInt bs s5) fun a5 s6 =>
 bnd (rdInt bs s6) fun a6 s7 =>
 bnd (rdInt bs s7) fun a7 s8 =>
 ({ fClient := a0, fSeq := a1, fKey := ⟨a2.toArray⟩, fOther := ⟨a3.toArray⟩, fN := a4, fMine := a5, fTheirs := a6, fFate := a7 }, s8)
theorem gdDeal_pos {bs : List UInt8} {s : Rd} (h : s.pos ≤ bs.length) : (gdDeal bs s).2.pos ≤ bs.length := by
 exact bnd_pos (rdInt_pos h) fun _ _ h => bnd_pos (rdInt_pos h) fun _ _ h => bnd_pos (rdText_pos h) fun _ _ h => bnd_pos (rdText_pos h) fun _ _ h => bnd_pos (rdInt_pos h) fun _ _ h => bnd_pos (rdInt_pos h) fun _ _ h => bnd_pos (rdInt_pos h) fun _ _ h => bnd_pos (rdInt_pos h) fun _ _ h => h
theorem gdDeal_wf (bs : List UInt8) (s : Rd) : (gdDeal bs s).1.wf := by
 exact bnd_wf (q := InI) (rdInt_in _ _) fun _ _ h0 => bnd_wf (q := InI) (rdInt_in _ _) fun _ _ h1 => bnd_wf (q := (fun l : List UInt8 => (⟨l.toArray⟩ : ByteArray).size ≤ 9223372036854775807)) (rdText_size _ _) fun _ _ h2 => bnd_wf (q := (fun l : List UInt8 => (⟨l.toArray⟩ : ByteArray).size ≤ 9223372036854775807)) (rdText_size _ _) fun _ _ h3 => bnd_wf (q := InI) (rdInt_in _ _) fun _ _ h4 => bnd_wf (q := InI) (rdInt_in _ _) fun _ _ h5 => bnd_wf (q := InI) (rdInt_in _ _) fun _ _ h6 => bnd_wf (q := InI) (rdInt_in _ _) fun _ _ h7 => ⟨h0, h1, h2, h3, h4, h5, h6, h7⟩
def gdWait (bs : List UInt8) (s : Rd) : TWait × Rd :=
 bnd (rdInt bs s) fun a0 s1 =>
 bnd (rdInt bs s1) fun a1 s2 =>
 bnd (rdInt bs s2) fun a2 s3 =>
 bnd (rdInt bs s3) fun a3 s4 =>
 bnd (rdInt bs s4) fun a4 s5 =>
 bnd (gdOp bs s5) fun a5 s6 =>
 ({ fKind := a0, fClient := a1, fSeq := a2, fNode := a3, fHome := a4, fOp := a5 }, s6)
theorem gdWait_pos {bs : List UInt8} {s : Rd} (h : s.pos ≤ bs.length) : (gdWait bs s).2.pos ≤ bs.length := by
 exact bnd_pos (rdInt_pos h) fun _ _ h => bnd_pos (rdInt_pos h) fun _ _ h => bnd_pos (rdInt_pos h) fun _ _ h => bnd_pos (rdInt_pos h) fun _ _ h => bnd_pos (rdInt_pos h) fun _ _ h => bnd_pos (gdOp_pos h) fun _ _ h => h
theorem gdWait_wf (bs : List UInt8) (s : Rd) : (gdWait bs s).1.wf := by
 exact bnd_wf (q := InI) (rdInt_in _ _) fun _ _ h0 => bnd_wf (q := InI) (rdInt_in _ _) fun _ _ h1 => bnd_wf (q := InI) (rdInt_in _ _) fun _ _ h2 => bnd_wf (q := InI) (rdInt_in _ _) fun _ _ h3 => bnd_wf (q := InI) (rdInt_in _ _) fun _ _ h4 => bnd_wf (q := TOp.wf) (gdOp_wf _ _) fun _ _ h5 => ⟨h0, h1, h2, h3, h4, h5⟩
def gdAccount (bs : List UInt8) (s : Rd) : TAccount × Rd :=
 bnd (rdText bs 65535 s) fun a0 s1 =>
 bnd (gdSpan bs s1) fun a1 s2 =>
 bnd (rdInt bs s2) fun a2 s3 =>
 bnd (rdInt bs s3) fun a3 s4 =>
 bnd (rdLs bs (gdHolder bs) s4) fun a4 s5 =>
 bnd (gdLock bs s5) fun a5 s6 =>
 ({ fKey := ⟨a0.toArray⟩, fSpan := a1, fBase := a2, fRound := a3, fHolders := a4, fLock := a5 }, s6)
theorem gdAccount_pos {bs : List UInt8} {s : Rd} (h : s.pos ≤ bs.length) : (gdAccount bs s).2.pos ≤ bs.length := by
 exact bnd_pos (rdText_pos h) fun _ _ h => bnd_pos (gdSpan_pos h) fun _ _ h => bnd_pos (rdInt_pos h) fun _ _ h => bnd_pos (rdInt_pos h) fun _ _ h => bnd_pos (rdLs_pos (fun _ hh => gdHolder_pos hh) h) fun _ _ h => bnd_pos (gdLock_pos h) fun _ _ h => h
theorem gdAccount_wf (bs : List UInt8) (s : Rd) : (gdAccount bs s).1.wf := by
 exact bnd_wf (q := (fun l : List UInt8 => (⟨l.toArray⟩ : ByteArray).size ≤ 9223372036854775807)) (rdText_size _ _) fun _ _ h0 => bnd_wf (q := TSpan.wf) (gdSpan_wf _ _) fun _ _ h1 => bnd_wf (q := InI) (rdInt_in _ _) fun _ _ h2 => bnd_wf (q := InI) (rdInt_in _ _) fun _ _ h3 => bnd_wf (q := (fun _ => True)) (trivial) fun _ _ h4 => bnd_wf (q := TLock.wf) (gdLock_wf _ _) fun _ _ h5 => ⟨h0, h1, h2, h3, h4, h5⟩
def gdState (bs : List UInt8) (s : Rd) : TState × Rd :=
 bnd (rdInt bs s) fun a0 s1 =>
 bnd (rdInt bs s1) fun a1 s2 =>
 bnd (rdFlag bs s2) fun a2 s3 =>
 bnd (rdText bs 65535 s3) fun a3 s4 =>
 bnd (rdText bs 65535 s4) fun a4 s5 =>
 bnd (rdInt bs s5) fun a5 s6 =>
 bnd (rdLs bs (gdAccount bs) s6) fun a6 s7 =>
 bnd (rdLs bs (gdMark bs) s7) fun a7 s8 =>
 bnd (rdLs bs (gdWait bs) s8) fun a8 s9 =>
 bnd (rdLs bs (gdDeal bs) s9) fun a9 s10 =>
 bnd (rdLs bs (gdEnd bs) s10) fun a10 s11 =>
 bnd (gdPlan bs s11) fun a11 s12 =>
 bnd (gdPlan bs s12) fun a12 s13 =>
 bnd (rdText bs 65535 s13) fun a13 s14 =>
 bnd (rdInt bs s14) fun a14 s15 =>
 bnd (rdInt bs s15) fun a15 s16 =>
 bnd (rdInt bs s16) fun a16 s17 =>
 ({ fGroup := a0, fIndex := a1, fOwns := a2, fLo := ⟨a3.toArray⟩, fHi := ⟨a4.toArray⟩, fEpoch := a5, fAccounts := a6, fMarks := a7, fWaits := a8, fDeals := a9, fEnds := a10, fSeal := a11, fOut := a12, fImage := a13, fAbsorbed := a14, fRefused := a15, fUndone := a16 }, s17)
def zeroState : TState := ({ fGroup := 0, fIndex := 0, fOwns := false, fLo := ByteArray.empty, fHi := ByteArray.empty, fEpoch := 0, fAccounts := [], fMarks := [], fWaits := [], fDeals := [], fEnds := [], fSeal := ({ fNumber := 0, fFrom := 0, fTo := 0, fLo := ByteArray.empty, fHi := ByteArray.empty, fClient := 0, fSeq := 0 } : TPlan), fOut := ({ fNumber := 0, fFrom := 0, fTo := 0, fLo := ByteArray.empty, fHi := ByteArray.empty, fClient := 0, fSeq := 0 } : TPlan), fImage := [], fAbsorbed := 0, fRefused := 0, fUndone := 0 } : TState)
theorem zeroState_wf : zeroState.wf := ⟨⟨by decide, by decide⟩, ⟨by decide, by decide⟩, trivial, (by decide), (by decide), ⟨by decide, by decide⟩, trivial, trivial, trivial, trivial, trivial, ⟨⟨by decide, by decide⟩, ⟨by decide, by decide⟩, ⟨by decide, by decide⟩, (by decide), (by decide), ⟨by decide, by decide⟩, ⟨by decide, by decide⟩⟩, ⟨⟨by decide, by decide⟩, ⟨by decide, by decide⟩, ⟨by decide, by decide⟩, (by decide), (by decide), ⟨by decide, by decide⟩, ⟨by decide, by decide⟩⟩, trivial, ⟨by decide, by decide⟩, ⟨by decide, by decide⟩, ⟨by decide, by decide⟩⟩
def stO (b : List UInt8) : TState := if 65536 < b.length then zeroState else (gdState b ⟨0, 0⟩).1
def errO (b : List UInt8) : Int := if 65536 < b.length then 22 else endE b (gdState b ⟨0, 0⟩).2
def rdState (b : List UInt8) : TState × Int := if errO b ≠ 0 then (zeroState, errO b) else (stO b, 0)
theorem stO_long {b : List UInt8} (h : 65536 < b.length) : stO b = zeroState := if_pos h
theorem stO_read {b : List UInt8} (h : ¬ 65536 < b.length) : stO b = (gdState b ⟨0, 0⟩).1 := if_neg h
theorem errO_long {b : List UInt8} (h : 65536 < b.length) : errO b = 22 := if_pos h
theorem errO_read {b : List UInt8} (h : ¬ 65536 < b.length) : errO b = endE b (gdState b ⟨0, 0⟩).2 := if_neg h
theorem rdState_bad {b : List UInt8} (h : errO b ≠ 0) : rdState b = (zeroState, errO b) := if_pos h
theorem rdState_ok {b : List UInt8} (h : errO b = 0) : rdState b = (stO b, 0) := if_neg (not_not_intro h)
def sright1 (s : TState) : Bool := !okGroup s.fGroup || !countsP [s.fIndex, s.fEpoch, s.fAbsorbed, s.fRefused, s.fUndone] || !ownedP s || !accsP s
def sright2 (s : TState) : Bool := !decide (errF (marksP s.fMarks) = 0) || !decide (errF (dealsP s.fDeals) = 0) || !decide (errF (endsP s.fEnds) = 0) || decide ((s.fWaits.length : Int) > 8)
def sright3 (s : TState) : Bool := (!decide (s.fSeal = ⟨0, 0, 0, ByteArray.empty, ByteArray.empty, 0, 0⟩)) && (!plannedP s.fSeal || !decide (s.fSeal.fFrom = s.fGroup) || !decide (s.fSeal.fHi = s.fHi) || !ownsP s s.fSeal.fLo)
def sright5 (s : TState) : Bool := plannedP s.fOut && decide (s.fOut.fFrom = s.fGroup) && decide ((rdState s.fImage).2 = 0)
def srightW (s : TState) : Bool := allI s.fWaits.length (fun j => waitP s (s.fWaits.getD j default))
def srightP (s : TState) : Bool := if sright1 s = true then false else if sright2 s = true then false else if srightW s = true then (if sright3 s = true then false else if decide (s.fOut = ⟨0, 0, 0, ByteArray.empty, ByteArray.empty, 0, 0⟩) = true then decide ((s.fImage.length : Int) = 0) else sright5 s) else false
def dright1 (v : TScene) : Bool := ((!decide (v.fNodes = 1)) && (!decide (v.fNodes = 3)) && (!decide (v.fNodes = 5))) || decide (v.fNode < 1) || decide (v.fNode > v.fNodes) || !decide ((v.fStates.length : Int) = 7)
def drightj (v : TScene) (j : Nat) : Bool := (!decide ((v.fStates.getD j default).fGroup = (j : Int) + 1)) || !decide (errF (srightP (v.fStates.getD j default)) = 0)
def drightP (v : TScene) : Bool := if dright1 v = true then false else if allI v.fStates.length (fun j => !drightj v j) = true then decide (errF (planP v.fChart) = 0) && decide (errF (ledgerP v.fRights) = 0) else false
structure TWide where
 fHi : Int
 fLo : Int
 deriving DecidableEq, Inhabited
@[reducible] def cWide (x : TWide) : List Value := [.int .i64 x.fHi, .int .u64 x.fLo]
@[reducible] def wide (S : Int) : TWide := ⟨S / 18446744073709551616, S % 18446744073709551616⟩
def BW (S : Int) : Prop := -1329227995784915872903807060280344576 ≤ S ∧ S ≤ 1329227995784915872903807060280344576
def BV (S : Int) : Prop := -1298074214633706907132624082305024 ≤ S ∧ S ≤ 1298074214633706907132624082305024
theorem BV.w {S : Int} (h : BV S) : BW S := by unfold BV at h; unfold BW; omega
theorem wideN {S n : Int} (h : n < 0) (hn : InI n) : (⟨S / 18446744073709551616 + (S % 18446744073709551616 + n % 18446744073709551616 + 0) / 18446744073709551616 - 1, (S % 18446744073709551616 + n % 18446744073709551616 + 0) % 18446744073709551616⟩ : TWide) = wide (S + n) := by
 obtain ⟨h1, h2⟩ := hn
 simp only [wide, TWide.mk.injEq]
 omega
theorem wideP {S n : Int} (h : ¬ n < 0) (hn : InI n) : (⟨S / 18446744073709551616 + (S % 18446744073709551616 + n % 18446744073709551616 + 0) / 18446744073709551616, (S % 18446744073709551616 + n % 18446744073709551616 + 0) % 18446744073709551616⟩ : TWide) = wide (S + n) := by
 obtain ⟨h1, h2⟩ := hn
 simp only [wide, TWide.mk.injEq]
 omega
theorem wide_eq {x y : TWide} (h : x = y) : Value.agg (cWide x).toArray = Value.agg (cWide y).toArray := by rw [h]
theorem cplI {x : Int} (h : InI x) : bitV .xor .i64 (if IntKind.i64.signed then -1 else IntKind.i64.max) x = -x - 1 := by
 obtain ⟨h1, h2⟩ := h
 have e : (BitVec.ofInt 64 (-1) ^^^ BitVec.ofInt 64 x) = BitVec.ofInt 64 (-x - 1) := by
  have a : BitVec.ofInt 64 (-1) = BitVec.allOnes 64 := by decide
  rw [a, BitVec.allOnes_xor]
  have : BitVec.ofInt 64 (-x - 1) = ~~~ BitVec.ofInt 64 x := by
   apply BitVec.eq_of_toInt_eq
   rw [BitVec.toInt_not, BitVec.toInt_ofInt]
   have t : (BitVec.ofInt 64 x).toNat = (x % 2 ^ 64).toNat := by simp [BitVec.toNat_ofInt]
   rw [t]
   simp only [Int.bmod]
   omega
  rw [this]
 show IntKind.i64.wrap _ = _
 have : ∀ y : Int, InI y → IntKind.i64.wrap ((BitVec.ofInt 64 y).toNat : Int) = y := by
  intro y hy
  obtain ⟨h3, h4⟩ := hy
  have t : (BitVec.ofInt 64 y).toNat = (y % 2 ^ 64).toNat := by simp [BitVec.toNat_ofInt]
  rw [t, wrapi]
  omega
 rw [← this (-x - 1) ⟨by omega, by omega⟩, ← e]
 rfl
def aboveP (S n : Int) : Bool := decide (S - n > 0)
theorem above_w {S n : Int} (hS : BW S) (hn : InI n) : (decide ((S - n) / 18446744073709551616 > 0) || (decide ((S - n) / 18446744073709551616 = 0) && decide ((S - n) % 18446744073709551616 > 0))) = decide (S - n > 0) := by
 rw [Bool.eq_iff_iff]
 simp only [Bool.or_eq_true, Bool.and_eq_true, decide_eq_true_eq]
 omega
theorem int_w {S : Int} (hS : BW S) : ((decide (S / 18446744073709551616 = 0) && decide (S % 18446744073709551616 < 9223372036854775808)) || (decide (S / 18446744073709551616 = -1) && decide (S % 18446744073709551616 ≥ 9223372036854775808))) = sumOk S := by
 rw [Bool.eq_iff_iff]
 simp only [sumOk, Bool.or_eq_true, Bool.and_eq_true, decide_eq_true_eq]
 omega
theorem sum_BW {l : List Int} (h : allIn l) (hl : l.length ≤ 1000) : ∀ i, i ≤ l.length → -((i : Int) * 9223372036854775808) ≤ (l.take i).sum ∧ (l.take i).sum ≤ (i : Int) * 9223372036854775808 := by
 intro i
 induction i with
 | zero => simp
 | succ i ih =>
  intro hi
  have hs := sum_take (l := l) (i := i) (by omega)
  obtain ⟨a1, a2⟩ := ih (by omega)
  obtain ⟨x1, x2⟩ := getD_InI h (i := i) (by omega)
  rw [hs]
  omega
def listS (f : THolder → Int) (b : Int) (l : List THolder) : Nat → List Int
 | 0 => [b]
 | i + 1 => listS f b l i ++ [f (l.getD i default)]
theorem listS_len (f : THolder → Int) (b : Int) (l : List THolder) : ∀ i, (listS f b l i).length = i + 1
 | 0 => rfl
 | i + 1 => by simp [listS, listS_len f b l i]
theorem getD_at {α : Type} [Inhabited α] {l : List α} {i : Nat} (h : i < l.length) : l.getD i default = l[i] := by simp [List.getD, List.getElem?_eq_getElem h]
theorem listS_sum (f : THolder → Int) (b : Int) (l : List THolder) : ∀ i, i ≤ l.length → (listS f b l i).sum = b + ((l.take i).map f).sum
 | 0, _ => by simp [listS]
 | i + 1, h => by
  have ih := listS_sum f b l i (by omega)
  rw [listS, List.sum_append_int, ih, List.take_add_one, List.getElem?_eq_getElem (by omega), getD_at (by omega), List.map_append, List.sum_append_int]
  simp only [Option.toList_some, List.map_cons, List.map_nil, List.sum_cons, List.sum_nil]
  omega
theorem sum_neg (f : THolder → Int) : ∀ l : List THolder, (l.map fun h => -f h).sum = -(l.map f).sum
 | [] => rfl
 | h :: r => by
  simp only [List.map_cons, List.sum_cons, sum_neg f r]
  omega
theorem listS_ups (a : TAccount) : (listS (fun h => h.fUp) a.fBase a.fHolders a.fHolders.length).sum = upsS a := by
 rw [listS_sum _ _ _ _ (Nat.le_refl _), List.take_length]
 rfl
theorem listS_downs (a : TAccount) : (listS (fun h => -h.fDown) a.fBase a.fHolders a.fHolders.length).sum = downsS a := by
 rw [listS_sum _ _ _ _ (Nat.le_refl _), List.take_length, sum_neg]
 show a.fBase + -(a.fHolders.map fun h => h.fDown).sum = a.fBase - (a.fHolders.map fun h => h.fDown).sum
 omega
theorem hold_at {l : List THolder} (hh : holdersP l = true) {i : Nat} (hi : i < l.length) : prevI (fun k => (l.getD k default).fNode) i < (l.getD i default).fNode ∧ (l.getD i default).fNode ≤ 5 ∧ 1 ≤ (l.getD i default).fLease ∧ 0 ≤ (l.getD i default).fUp ∧ 0 ≤ (l.getD i default).fDown := by
 have h := allI_iff.1 hh i hi
 simp only [holdP, Bool.not_eq_true', Bool.or_eq_false_iff, decide_eq_false_iff_not] at h
 omega
theorem hold_node {l : List THolder} (hh : holdersP l = true) : ∀ i, i < l.length → (i : Int) + 1 ≤ (l.getD i default).fNode
 | 0, hi => by
  have := (hold_at hh hi).1
  simp only [prevI] at this
  omega
 | i + 1, hi => by
  have := (hold_at hh hi).1
  have ih := hold_node hh i (by omega)
  simp only [prevI] at this
  omega
theorem hold_len {l : List THolder} (hh : holdersP l = true) : l.length ≤ 5 := by
 rcases Nat.eq_zero_or_pos l.length with h | h
 · omega
 · have h1 := hold_node hh (l.length - 1) (by omega)
   have h2 := (hold_at hh (i := l.length - 1) (by omega)).2.1
   omega
theorem plain_len {α : Type} [DecidableEq α] {x y : List α} (h : x.length ≠ y.length) : decide (x = y) = false := decide_eq_false (fun e => h (by rw [e]))
theorem plain_at {α : Type} [DecidableEq α] [Inhabited α] {x y : List α} (i : Nat) (h : x.getD i default ≠ y.getD i default) : decide (x = y) = false := decide_eq_false fun e => h (by rw [e])
theorem plain_all {α : Type} [DecidableEq α] [Inhabited α] {x y : List α} (hl : x.length = y.length) (h : ∀ j, j < x.length → x.getD j default = y.getD j default) : decide (x = y) = true := by
 refine decide_eq_true (List.ext_getElem hl fun i h1 h2 => ?_)
 have := h i h1
 simpa [List.getD, List.getElem?_eq_getElem h1, List.getElem?_eq_getElem h2] using this
def sameAcc (x y : TAccount) : Bool := decide (x.fKey = y.fKey) && decide (x.fSpan = y.fSpan) && decide (x.fBase = y.fBase) && decide (x.fRound = y.fRound) && decide (x.fHolders = y.fHolders) && decide (x.fLock = y.fLock)
theorem I0 : InI 0 := ⟨by decide, by decide⟩
def new15 (k : ByteArray) : TAccount := ⟨if okKey k = true then k else ByteArray.empty, ⟨0, 0⟩, 0, 0, [], ⟨0, 0, 0, 0⟩⟩
theorem new15_wf (k : ByteArray) : (new15 k).wf := by
 refine ⟨?_, ⟨I0, I0⟩, I0, I0, trivial, I0, I0, I0, I0⟩
 show (if okKey k = true then k else ByteArray.empty).size ≤ _
 split
 · rename_i h
   simp only [okKey, Bool.and_eq_true, decide_eq_true_eq] at h
   omega
 · decide
def newE (k : ByteArray) : Int := if okKey k = true then 0 else 1
def plain15 (a : TAccount) : Bool := decide (newE a.fKey = 0) && sameAcc a (new15 a.fKey)
def accS (f : THolder → Int) (b : Int) (l : List THolder) : Nat → Int
 | 0 => b
 | i + 1 => accS f b l i + f (l.getD i default)
def accN (f : THolder → Int) (b : Int) (l : List THolder) : Nat → Int
 | 0 => b
 | i + 1 => accN f b l i - f (l.getD i default)
theorem accS_sum (f : THolder → Int) (b : Int) (l : List THolder) : ∀ i, accS f b l i = (listS f b l i).sum
 | 0 => by simp [accS, listS]
 | i + 1 => by rw [accS, listS, List.sum_append_int, accS_sum f b l i]; simp
theorem accN_sum (f : THolder → Int) (b : Int) (l : List THolder) : ∀ i, accN f b l i = (listS (fun h => -f h) b l i).sum
 | 0 => by simp [accN, listS]
 | i + 1 => by
  rw [accN, listS, List.sum_append_int, accN_sum f b l i]
  simp only [List.sum_cons, List.sum_nil]
  omega
theorem accS_bd {f : THolder → Int} {b : Int} {l : List THolder} (hb : InI b) (h : ∀ x ∈ l, InI (f x)) : ∀ i, i ≤ l.length → -(((i : Int) + 1) * 9223372036854775808) ≤ accS f b l i ∧ accS f b l i ≤ ((i : Int) + 1) * 9223372036854775808
 | 0, _ => by obtain ⟨h1, h2⟩ := hb; simp only [accS]; omega
 | i + 1, hi => by
  have ih := accS_bd hb h i (by omega)
  obtain ⟨h1, h2⟩ := h _ (getD_mem (l := l) (i := i) (by omega))
  simp only [accS]
  omega
theorem accN_bd {f : THolder → Int} {b : Int} {l : List THolder} (hb : InI b) (h : ∀ x ∈ l, InI (f x)) : ∀ i, i ≤ l.length → -(((i : Int) + 1) * 9223372036854775808) ≤ accN f b l i ∧ accN f b l i ≤ ((i : Int) + 1) * 9223372036854775808
 | 0, _ => by obtain ⟨h1, h2⟩ := hb; simp only [accN]; omega
 | i + 1, hi => by
  have ih := accN_bd hb h i (by omega)
  obtain ⟨h1, h2⟩ := h _ (getD_mem (l := l) (i := i) (by omega))
  simp only [accN]
  omega
theorem accS_ups (a : TAccount) : accS (fun h => h.fUp) a.fBase a.fHolders a.fHolders.length = upsS a := by rw [accS_sum, listS_ups]
theorem accN_downs (a : TAccount) : accN (fun h => h.fDown) a.fBase a.fHolders a.fHolders.length = downsS a := by rw [accN_sum, listS_downs]
theorem lim6 {x : Int} {i : Nat} (hi : i ≤ 5) (h : -(((i : Int) + 1) * 9223372036854775808) ≤ x ∧ x ≤ ((i : Int) + 1) * 9223372036854775808) : BV x := by unfold BV; omega
theorem ups_BV {a : TAccount} (hw : a.wf) (hW : ∀ x ∈ a.fHolders, x.wf) (hh : holdersP a.fHolders = true) : BV (upsS a) := by
 rw [← accS_ups]
 exact lim6 (hold_len hh) (accS_bd hw.2.2.1 (fun x hx => (hW x hx).2.2.1) _ (Nat.le_refl _))
theorem downs_BV {a : TAccount} (hw : a.wf) (hW : ∀ x ∈ a.fHolders, x.wf) (hh : holdersP a.fHolders = true) : BV (downsS a) := by
 rw [← accN_downs]
 exact lim6 (hold_len hh) (accN_bd hw.2.2.1 (fun x hx => (hW x hx).2.2.2) _ (Nat.le_refl _))
theorem sum2_BW {a : TAccount} (h : a.wf) : BW (a.fBase + a.fLock.fN) := by
 obtain ⟨h1, h2⟩ := h.2.2.1
 obtain ⟨h3, h4⟩ := h.2.2.2.2.2.2.2.2
 unfold BW
 omega
def r15a (a : TAccount) : Bool := !okKey a.fKey || !hasP a.fSpan a.fBase || decide (a.fRound < 0)
def r15b (a : TAccount) : Bool := aboveP (upsS a) a.fSpan.fHi || decide ((wide (downsS a - a.fSpan.fLo)).fHi < 0)
def fits15 (a : TAccount) : Bool := hasP a.fSpan (IntKind.i64.wrap ((a.fBase + a.fLock.fN) % 18446744073709551616))
def right15 (a : TAccount) : Bool := if r15a a = true then false else if holdersP a.fHolders = true then (if r15b a = true then false else if decide (a.fLock.fClient = 0) = true then decide (a.fLock = ⟨0, 0, 0, 0⟩) else keeperP a.fLock && decide ((a.fHolders.length : Int) = 0) && sumOk (a.fBase + a.fLock.fN) && fits15 a) else false
def risj (l : List TAccount) (j : Nat) : Bool := !right15 (l.getD j default) || plain15 (l.getD j default) || (decide ((j : Int) > 0) && leB (l.getD j default).fKey (l.getD ((j : Int) - 1).toNat default).fKey)
def rising19 (l : List TAccount) : Bool := if allI l.length (fun j => !risj l j) = true then decide ((l.length : Int) ≤ 12) else false
def q19a (s : TState) : Bool := !okGroup s.fGroup || !okNum s.fIndex || !okNum s.fEpoch || !okNum s.fAbsorbed || !okNum s.fRefused || !okNum s.fUndone
def q19b (s : TState) : Bool := ((!s.fOwns) && ((!decide (s.fLo = ByteArray.empty)) || (!decide (s.fHi = ByteArray.empty)) || decide ((s.fAccounts.length : Int) > 0) || decide ((s.fWaits.length : Int) > 0) || (!decide (s.fSeal = ⟨0, 0, 0, ByteArray.empty, ByteArray.empty, 0, 0⟩)))) || (s.fOwns && (decide (s.fEpoch < 1) || !spansP s.fLo s.fHi))
def q19c (s : TState) : Bool := !rising19 s.fAccounts || !marks14 s.fMarks || !books18 s.fDeals || !ends18 s.fEnds || decide ((s.fWaits.length : Int) > 8)
def q19d (s : TState) : Bool := (!decide (s.fSeal = ⟨0, 0, 0, ByteArray.empty, ByteArray.empty, 0, 0⟩)) && (!plan19 s.fSeal || !decide (s.fSeal.fFrom = s.fGroup) || !decide (s.fSeal.fHi = s.fHi) || !ownsP s s.fSeal.fLo)
def q19e (s : TState) : Bool := decide ((rdState s.fImage).2 = 0) && plan19 s.fOut && decide (s.fOut.fFrom = s.fGroup)
def accs19 (s : TState) : Bool := allI s.fAccounts.length (fun j => ownsP s (s.fAccounts.getD j default).fKey)
def waits19 (s : TState) : Bool := allI s.fWaits.length (fun j => wait19 s (s.fWaits.getD j default))
def sright19 (s : TState) : Bool := if q19a s = true then false else if q19b s = true then false else if q19c s = true then false else if accs19 s = true then (if waits19 s = true then (if q19d s = true then false else if decide (s.fOut = ⟨0, 0, 0, ByteArray.empty, ByteArray.empty, 0, 0⟩) = true then decide ((s.fImage.length : Int) = 0) else q19e s) else false) else false
def r22a (v : TScene) : Bool := ((!decide (v.fNodes = 1)) && (!decide (v.fNodes = 3)) && (!decide (v.fNodes = 5))) || decide (v.fNode < 1) || decide (v.fNode > v.fNodes) || !right20 v.fChart || !decide ((v.fStates.length : Int) = 7) || !rights16 v.fRights
def r22j (v : TScene) (j : Nat) : Bool := (!decide ((v.fStates.getD j default).fGroup = (j : Int) + 1)) || !sright19 (v.fStates.getD j default)
def right22 (v : TScene) : Bool := if r22a v = true then false else allI v.fStates.length (fun j => !r22j v j)
def place1 : TPlace := ⟨1, ByteArray.empty, 1⟩
theorem I1 : InI 1 := ⟨by decide, by decide⟩
theorem place1_wf : place1.wf := ⟨I1, by decide, I1⟩
def chart1 : TChart := ⟨0, [place1], 2, 0, ⟨0, 0, 0, ByteArray.empty, ByteArray.empty, 0, 0⟩, []⟩
theorem zplan_wf : TPlan.wf ⟨0, 0, 0, ByteArray.empty, ByteArray.empty, 0, 0⟩ := ⟨I0, I0, I0, by decide, by decide, I0, I0⟩
theorem chart1_wf : chart1.wf := ⟨I0, trivial, ⟨by decide, by decide⟩, I0, zplan_wf, trivial⟩
def newS (n : Int) : TState := ⟨if okGroup n = true then n else 0, 0, okGroup n && decide (n = 1), ByteArray.empty, ByteArray.empty, if okGroup n = true then (if n = 1 then 1 else 0) else 0, [], [], [], [], [], ⟨0, 0, 0, ByteArray.empty, ByteArray.empty, 0, 0⟩, ⟨0, 0, 0, ByteArray.empty, ByteArray.empty, 0, 0⟩, [], 0, 0, 0⟩
theorem newS_wf {n : Int} (h : InI n) : (newS n).wf := by
 refine ⟨?_, I0, trivial, (by show ByteArray.empty.size ≤ _; decide), (by show ByteArray.empty.size ≤ _; decide), ?_, trivial, trivial, trivial, trivial, trivial, zplan_wf, zplan_wf, trivial, I0, I0, I0⟩
 · show InI (if okGroup n = true then n else 0)
   split
   · exact h
   · exact I0
 · show InI (if okGroup n = true then (if n = 1 then 1 else 0) else 0)
   split
   · split
     · exact I1
     · exact I0
   · exact I0
def stsN : Nat → List TState
 | 0 => []
 | i + 1 => stsN i ++ [newS ((i : Int) + 1)]
theorem stsN_len : ∀ i, (stsN i).length = i
 | 0 => rfl
 | i + 1 => by simp [stsN, stsN_len i]
def scene1 (a b : Int) : TScene := ⟨a, b, chart1, stsN 7, [], []⟩
theorem scene1_wf {a b : Int} (ha : InI a) (hb : InI b) : (scene1 a b).wf := ⟨ha, hb, chart1_wf, trivial, trivial, trivial⟩
def zscene : TScene := ⟨0, 0, ⟨0, [], 0, 0, ⟨0, 0, 0, ByteArray.empty, ByteArray.empty, 0, 0⟩, []⟩, [], [], []⟩
theorem dright_len {v : TScene} (h : drightP v = true) : v.fStates.length = 7 := by
 unfold drightP at h
 split at h
 · cases h
 · rename_i hn
   simp only [dright1, Bool.or_eq_true, not_or, Bool.not_eq_true', Bool.not_eq_false, decide_eq_true_eq] at hn
   omega
structure Tcounted where
 fAccount : TAccount
 fGroup : Int
 deriving DecidableEq, Inhabited
@[reducible] def ccounted (x : Tcounted) (k0 : Value) : List Value := [.string x.fAccount.fKey, .int .i64 x.fAccount.fSpan.fLo, .int .i64 x.fAccount.fSpan.fHi, .int .i64 x.fAccount.fBase, .int .i64 x.fAccount.fRound, k0, .int .i64 x.fAccount.fLock.fClient, .int .i64 x.fAccount.fLock.fSeq, .int .i64 x.fAccount.fLock.fHome, .int .i64 x.fAccount.fLock.fN, .int .i64 x.fGroup]
def Tcounted.wf (x : Tcounted) : Prop := x.fAccount.wf ∧ InI x.fGroup
@[reducible] def scounted : Shape Tcounted where
 H := Value
 size := 11
 cells x h := ccounted x h
 sub x h := [⟨h, x.fAccount.fHolders⟩]
 wf := Tcounted.wf
 len _ _ := rfl
 one := by
  intro S w x h ht u hu
  have o0 := oneCell_of_list (ht _ (List.mem_cons_self ..))
  simp only [ccounted, List.mem_cons, List.not_mem_nil, or_false] at hu
  rcases hu with rfl | rfl | rfl | rfl | rfl | rfl | rfl | rfl | rfl | rfl | rfl <;> first | rfl | exact o0
@[reducible] instance rcounted : Rep Tcounted := Rep.ofShape scounted
end Go.YtmpoffijcfaalaaGreat
