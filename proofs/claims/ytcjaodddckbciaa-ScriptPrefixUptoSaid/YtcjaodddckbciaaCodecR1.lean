/- The law ScriptBack holds of every input: what a script was encoded to is decoded as it was. No condition. -/
import Derived.Test.YtcjaodddckbciaaEng11
import Derived.Test.YtcjaodddckbciaaCodecW13
import Derived.Test.YtcjaodddckbciaaCodecE
namespace Go.Proofs.Ytcjaodddckbciaa
open Go.Eng Go.Ytcjaodddckbciaa Go.ChangeShapes Go.WideShapes Go.ChangeAt Go.RowKit

theorem Try.own : ownKnob Try.prog.godebug = none := by kernel_rfl
theorem Try.laidOut : laidOutB Try.prog = true := by kernel_rfl

theorem opens3 : Opens Try.prog 3 repInt := opens_int Try.underlying3
theorem opens9 : Opens Try.prog 9 repStr := opens_str Try.underlying9
theorem cells3 : Try.prog.cellsOf 3 = 1 := by kernel_rfl
theorem cells9 : Try.prog.cellsOf 9 = 1 := by kernel_rfl
theorem cells32 : Try.prog.cellsOf 32 = 6 := by kernel_rfl
theorem cells33 : Try.prog.cellsOf 33 = 1 := by kernel_rfl
theorem cells35 : Try.prog.cellsOf 35 = 12 := by kernel_rfl

theorem opens32 : Opens Try.prog 32 repOp := by
  intro H enc w fuel cs x h
  have hl := struct_len Try.underlying32 h
  rw [cells32] at hl
  obtain ⟨k, hk, wk⟩ := field_opens Try.underlying32 h 0 0 1 rfl cells3 opens3
  obtain ⟨a, ha, wa⟩ := field_opens Try.underlying32 h 1 1 1 rfl cells9 opens9
  obtain ⟨b, hb, wb⟩ := field_opens Try.underlying32 h 2 2 1 rfl cells9 opens9
  obtain ⟨n, hn, wn⟩ := field_opens Try.underlying32 h 3 3 1 rfl cells3 opens3
  obtain ⟨lo, hlo, wlo⟩ := field_opens Try.underlying32 h 4 4 1 rfl cells3 opens3
  obtain ⟨hi, hhi, whi⟩ := field_opens Try.underlying32 h 5 5 1 rfl cells3 opens3
  match cs, hl with
  | [c0, c1, c2, c3, c4, c5], _ =>
    simp only [List.drop_succ_cons, List.drop_zero, List.take_succ_cons, List.take_zero, List.cons.injEq, and_true] at hk ha hb hn hlo hhi
    subst hk ha hb hn hlo hhi
    exact ⟨⟨k, a, b, n, lo, hi⟩, (), rfl, by simp, wk, wa, wb, wn, wlo, whi⟩

theorem opens33 : Opens Try.prog 33 (@repList Int repInt) := opens_list Try.underlying33 cells3 (by decide) opens3

theorem opens35 : Opens Try.prog 35 repEv := by
  intro H enc w fuel cs x h
  have hl := struct_len Try.underlying35 h
  rw [cells35] at hl
  obtain ⟨k, hk, wk⟩ := field_opens Try.underlying35 h 0 0 1 rfl cells3 opens3
  obtain ⟨a, ha, wa⟩ := field_opens Try.underlying35 h 1 1 1 rfl cells3 opens3
  obtain ⟨b, hb, wb⟩ := field_opens Try.underlying35 h 2 2 1 rfl cells3 opens3
  obtain ⟨c, hc, wc⟩ := field_opens Try.underlying35 h 3 3 1 rfl cells3 opens3
  obtain ⟨n, hn, wn⟩ := field_opens Try.underlying35 h 4 4 1 rfl cells3 opens3
  obtain ⟨o, _, ho, _, wo⟩ := field_opens Try.underlying35 h 5 5 6 rfl cells32 opens32
  obtain ⟨keep, hkeep⟩ := field_opens Try.underlying35 h 6 11 1 rfl cells33 opens33
  match cs, hl with
  | [c0, c1, c2, c3, c4, c5, c6, c7, c8, c9, c10, c11], _ =>
    simp only [List.drop_succ_cons, List.drop_zero, List.take_succ_cons, List.take_zero, List.cons.injEq, and_true, opCells] at hk ha hb hc hn ho hkeep
    obtain ⟨rfl, rfl, rfl, rfl, rfl, rfl⟩ := ho
    subst hk ha hb hc hn
    refine ⟨⟨k, a, b, c, n, o, keep⟩, c11, rfl, ?_, wk, wa, wb, wc, wn, wo⟩
    intro t ht
    have ht : t = ⟨c11, keep⟩ := by simpa using ht
    subst ht
    have hs : isAggV c11 = false := by
      obtain ⟨A, cc, hcs, _⟩ := hkeep
      simp only [List.cons.injEq, and_true] at hcs
      subst hcs
      rfl
    refine ⟨hs, ?_⟩
    rw [cells_of_not hs]
    exact hkeep

theorem opens22 : Opens Try.prog 22 (@repList Ev repEv) := opens_list Try.underlying22 cells35 (by decide) opens35

theorem evIn_of {S : Nat → Prop} {w : World} {v : Value} {l : List Ev} (h : Atom.holds ⟨v, l⟩ S w) : ∀ e ∈ l, EvIn e := by
  intro e he
  obtain ⟨cs, k, _, hs, hwf⟩ := list_each h e he
  exact ⟨hwf, ints_in (hs _ (List.mem_cons_self ..))⟩

set_option maxRecDepth 100000 in
theorem scriptBack_lifted (os : Os) (started : os.Started) (H : Type) (enc : TypeId × Value → H) :
    ReturnsInHanded {} Try.checked os 3 .any (Rows.scriptBackSpec.pre6 enc Try.prog Try.f3 Rows.scriptBackRow.domain false) (Rows.scriptBackSpec.post enc Try.prog Try.f3 false true false false) := by
  refine returnsInHanded_of_change (C := Try.checked) Try.own started (by kernel_rfl) Try.func3
    (ChangeSpec.witness6 (enc := enc) (C := Try.checked) false ⟨#[], #[.int .i64 0, .slice none 0 0], []⟩ 8 (by kernel_rfl) (by kernel_rfl) (by kernel_rfl) (by kernel_rfl)) ?_
  intro W base args ds gs before hval0 hW _ _
  have hval : ∀ (j : Nat) t v, Try.f3.params[j]? = some t → args[j]? = some v → Value.okWide Try.prog W .any base t v := hval0
  have hW' := hW
  obtain ⟨p, q, hA0, hV, rfl, hfz, hnd⟩ := hW
  have hA : DataW.TrodAll enc Try.prog W 0 (fun _ => true) true Try.f3.params.toList args.toList ds p := hA0
  rw [Try.params3] at hA hval
  obtain ⟨v0, v1, d0, d1, p0, p1, rfl, rfl, rfl, h0, h1⟩ := trodAll_two hA
  obtain ⟨rfl, rfl⟩ := trodVars_none hV
  obtain ⟨a, rfl, rfl, rfl, wa⟩ := open_int Try.underlying3 (hval 0 3 v0 rfl rfl) h0
  obtain ⟨l, hl⟩ := arg_list Try.underlying22 opens22 (hval 1 22 v1 rfl rfl) h1
  simp [Lit.wf, IntKind.min, IntKind.max, IntKind.signed, IntKind.bits] at wa
  exact (scriptBack_c a ⟨by omega, by omega⟩ v1 l (evIn_of hl)).post Try.laidOut (by kernel_rfl) rfl (by kernel_rfl) Try.underlying4 rfl hW' (by simpa using hl)

theorem scriptBack_holds : Rows.ScriptBackSaid :=
  OpenClaim.holds_of_wide 3 Try.f3 rfl rfl rfl rfl rfl rfl rfl ⟨rfl, rfl, rfl, rfl, rfl⟩ rfl rfl rfl rfl rfl (by kernel_rfl) Try.func3 (by kernel_rfl)
    (of_decide_eq_true (by kernel_rfl)) (by unfold Func.isWrapper; first | (rw [if_pos (by decide +kernel)]; kernel_rfl) | (rw [if_neg (by decide +kernel)]; exact ⟨rfl, rfl⟩))
    (fun os started H enc _ => scriptBack_lifted os started H enc)
#print axioms scriptBack_holds
end Go.Proofs.Ytcjaodddckbciaa
