/- The law ScriptPrefix holds of every input of bulk at most 1048576: events of a script that goes on begin with the events of the script. The bound is the given statement's own. -/
import Derived.Test.YtcjaodddckbciaaCodecR1
import Derived.Test.YtcjaodddckbciaaCodecW14
import Derived.JoinedCond
namespace Go.Proofs.Ytcjaodddckbciaa
open Go.Eng Go.Ytcjaodddckbciaa Go.ChangeShapes Go.WideShapes Go.ChangeAt Go.RowKit

theorem opens5 : Opens Try.prog 5 repByte := opens_byte Try.underlying5
theorem cells5 : Try.prog.cellsOf 5 = 1 := by kernel_rfl
theorem opens23 : Opens Try.prog 23 (@repList UInt8 repByte) := opens_list Try.underlying23 cells5 (by decide) opens5

theorem bulk_one {H : Type} (d : DataW H) : 1 ≤ Rows.uptoBulk d := by
  cases d with
  | lit l => cases l <;> simp [Rows.uptoBulk]
  | nil => simp [Rows.uptoBulk]
  | ptr d => simp [Rows.uptoBulk]
  | slice elems spare => simp [Rows.uptoBulk]
  | agg parts => simp [Rows.uptoBulk]
  | iface t d => simp [Rows.uptoBulk]
  | map entries => simp [Rows.uptoBulk]
  | held h => simp [Rows.uptoBulk]
theorem bulk_len {H : Type} (l : List (DataW H)) : l.length ≤ Rows.uptoBulkAll l := by
  induction l with
  | nil => simp [Rows.uptoBulkAll]
  | cons x r ih =>
    have := bulk_one x
    simp only [Rows.uptoBulkAll, List.length_cons]
    omega
theorem list_bulk {P : Program} {H : Type} {enc : TypeId × Value → H} {w : World} {T E : TypeId} {α : Type} {r : Rep α} {v : Value} {d : DataW H} {ps : List MemPlace} {l : List α} {S : Nat → Prop}
    (hu : P.underlying T = some (.slice E)) (h : DataW.Trod enc P w 0 (fun _ => true) true T v d ps) (hl : Atom.holds (@Atom.mk (List α) (@repList α r) v l) S w) : l.length ≤ Rows.uptoBulk d := by
  obtain ⟨fuel, hf⟩ := h
  obtain ⟨ha, A, cc, hcs, _, _, _, h4⟩ := hl
  rcases Deep.open_slice hu hf with ⟨hc, hx⟩ | ⟨a, len, cap, m, n, D, Pl, hc, _, hlc, hcm, hm, hx, hi⟩
  · have := hcs.symm.trans hc
    simp only [List.cons.injEq, Value.slice.injEq, and_true] at this
    have h0 : l.length = 0 := this.2.1
    omega
  · have := hcs.symm.trans hc
    simp only [List.cons.injEq, Value.slice.injEq, and_true] at this
    have h0 : l.length = len := this.2.1
    simp only [Prod.mk.injEq] at hx
    rw [hx.1]
    have := bulk_len ((List.range len).map D)
    simp only [List.length_map, List.length_range] at this
    simp only [Rows.uptoBulk]
    omega

theorem scriptPrefix_contract (H : Type) (enc : TypeId × Value → H) (W : World) (base : Nat) (args : Array Value) (ds gs : List (DataW H)) (before : List MemPlace) (hk : Rows.uptoSmall H (ds ++ gs) = true)
    (hval : ∀ (j : Nat) t v, Try.f4.params[j]? = some t → args[j]? = some v → Value.okWide Try.prog W .any base t v)
    (hW : DataW.Whole enc Try.prog Try.f4.params.toList Rows.scriptPrefixSpec.vars false W args.toList ds gs before) :
    Calls Try.prog 4 args W fun e W' => ∃ v, e = .returned v ∧ Rows.scriptPrefixSpec.post enc Try.prog Try.f4 false true false false W args v W' := by
  have hW' := hW
  obtain ⟨p, q, hA0, hV, rfl, hfz, hnd⟩ := hW
  have hA : DataW.TrodAll enc Try.prog W 0 (fun _ => true) true Try.f4.params.toList args.toList ds p := hA0
  rw [Try.params4] at hA hval
  obtain ⟨v0, v1, d0, d1, p0, p1, rfl, rfl, rfl, h0, h1⟩ := trodAll_two hA
  obtain ⟨rfl, rfl⟩ := trodVars_none hV
  obtain ⟨b, hb⟩ := arg_list Try.underlying23 opens23 (hval 0 23 v0 rfl rfl) h0
  obtain ⟨ex, hex⟩ := arg_list Try.underlying23 opens23 (hval 1 23 v1 rfl rfl) h1
  have l0 := list_bulk Try.underlying23 h0 hb
  have l1 := list_bulk Try.underlying23 h1 hex
  have hk : Rows.uptoBulk d0 + (Rows.uptoBulk d1 + 0) ≤ 1048576 := by simpa [Rows.uptoSmall, Rows.uptoBulkAll] using hk
  refine (scriptPrefix_c v0 v1 b ex (by omega)).post Try.laidOut (by kernel_rfl) rfl (by kernel_rfl) Try.underlying4 rfl hW' ?_
  intro t ht
  simp only [List.mem_cons, List.not_mem_nil, or_false] at ht
  rcases ht with rfl | rfl
  · exact hb
  · exact hex

set_option maxRecDepth 100000 in
theorem scriptPrefix_lifted (os : Os) (started : os.Started) (H : Type) (enc : TypeId × Value → H) (F : Stop.Interp) :
    ReturnsInHanded {} Try.checked os 4 .any ((Rows.OpenSpec.upto Rows.scriptPrefixSpec).pre6 enc Try.prog Try.f4 Rows.scriptPrefixUptoRow.domain false) (((Rows.OpenSpec.upto Rows.scriptPrefixSpec).at F).post enc Try.prog Try.f4 false true false false) := by
  refine returnsInHanded_of_cond (C := Try.checked) (s := Rows.OpenSpec.upto Rows.scriptPrefixSpec) (k := Rows.uptoSmall) rfl Try.own started (by kernel_rfl) Try.func4
    (OpenSpec.witness (enc := enc) (C := Try.checked) (s := Rows.OpenSpec.upto Rows.scriptPrefixSpec) (k := Rows.uptoSmall) rfl false ⟨#[], #[.slice none 0 0, .slice none 0 0], []⟩ 8 (by kernel_rfl) (by kernel_rfl) (by kernel_rfl)
      (x := ([.nil, .nil], [], [])) (by kernel_rfl) rfl (by kernel_rfl)) ?_
  intro W base args ds gs before hval hW _ hk _
  exact scriptPrefix_contract H enc W base args ds gs before hk hval hW

theorem scriptPrefix_over : Rows.scriptPrefixUptoRow.holds Try.pinned (Rows.OpenSpec.upto Rows.scriptPrefixSpec) :=
  OpenClaim.holds_of_cond 4 Try.f4 rfl rfl rfl rfl rfl rfl rfl ⟨rfl, rfl, rfl, rfl, rfl⟩ rfl rfl rfl rfl rfl (by kernel_rfl) Try.func4 (by kernel_rfl)
    (of_decide_eq_true (by kernel_rfl)) (by unfold Func.isWrapper; first | (rw [if_pos (by decide +kernel)]; kernel_rfl) | (rw [if_neg (by decide +kernel)]; exact ⟨rfl, rfl⟩))
    (fun os started H enc _ F => scriptPrefix_lifted os started H enc F)

theorem scriptPrefix_holds : Rows.ScriptPrefixUptoSaid := scriptPrefix_over
#print axioms scriptPrefix_holds
end Go.Proofs.Ytcjaodddckbciaa
