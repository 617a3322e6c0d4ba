/- The law DutyPlays holds of every input of bulk at most 1048576: what a node reports and brings in is what the reference tells, and what is handed in stays. Conditions: none but that bound, which the given statement names. -/
import Derived.JoinedCond
import Derived.Test.YtmpoffijcfaalaaGreatPl21

set_option maxRecDepth 20000
set_option maxHeartbeats 1000000
namespace Go.Proofs.YtmpoffijcfaalaaGreat
open Go.Eng Go.YtmpoffijcfaalaaGreat Go.ChangeShapes Go.WideShapes Go.ChangeAt Go.RowKit
section
theorem Tryz.own : ownKnob Tryz.prog.godebug = none := by kernel_rfl
theorem Tryz.laidOut : laidOutB Tryz.prog = true := by kernel_rfl
theorem accs_wf {S : Nat → Prop} {w : World} {v : Value} {l : List TState} (h : Atom.holds ⟨v, l⟩ S w) : ∀ s ∈ l, ∀ a ∈ s.fAccounts, a.wf := by
  intro s hs
  obtain ⟨cs, k, _, hsub, _⟩ := list_each h s hs
  exact list_wf (s := sAccount) (hsub _ (List.mem_cons_self ..))
set_option maxRecDepth 100000 in
theorem dutyPlays_contract (H : Type) (enc : TypeId × Value → H) (W : World) (base : Nat) (args : Array Value) (ds gs : List (DataW H)) (before : List MemPlace) (hk : Rows.uptoSmall H (ds ++ gs) = true)
    (hval : ∀ (j : Nat) t v, Tryz.f4.params[j]? = some t → args[j]? = some v → Value.okWide Tryz.prog W .any base t v)
    (hW : DataW.Whole enc Tryz.prog Tryz.f4.params.toList Rows.dutyPlaysSpec.vars false W args.toList ds gs before) :
    Calls Tryz.prog 4 args W fun e W' => ∃ v, e = .returned v ∧ Rows.dutyPlaysSpec.post enc Tryz.prog Tryz.f4 false true false false W args v W' := by
  have hW' := hW
  obtain ⟨p, q, hA0, hV, rfl, hfz, hnd⟩ := hW
  have hA : DataW.TrodAll enc Tryz.prog W 0 (fun _ => true) true Tryz.f4.params.toList args.toList ds p := hA0
  rw [Tryz.params4] at hA hval
  obtain ⟨v0, r0, d0, e0, p0, q0, ha, rfl, rfl, h0, hA⟩ := trodAll_cons hA
  obtain ⟨v1, r1, d1, e1, p1, q1, rfl, rfl, rfl, h1, hA⟩ := trodAll_cons hA
  obtain ⟨rfl, rfl, rfl⟩ := trodAll_nil hA
  obtain ⟨rfl, rfl⟩ := trodVars_none hV
  have hargs : args = #[v0, v1] := Array.toList_inj.1 ha
  subst hargs
  obtain ⟨c, rfl, rfl, rfl, wc⟩ := open_int Tryz.underlying3 (hval 1 3 v1 rfl rfl) h1
  simp [Lit.wf, IntKind.min, IntKind.max, IntKind.signed, IntKind.bits] at wc
  obtain ⟨cs0, v, rfl, hr⟩ := arg_struct Tryz.underlying32 opens_32 (hval 0 32 v0 rfl rfl) h0
  have hk : Rows.uptoBulk d0 ≤ 1048576 := by
    have : Rows.uptoBulk d0 + (Rows.uptoBulk (H := H) (.lit (.int .i64 c)) + 0) ≤ 1048576 := by simpa [Rows.uptoSmall, Rows.uptoBulkAll] using hk
    omega
  have hb : BkV v := by
    obtain ⟨fuel, hf⟩ := h0
    exact scene_bulk (x := (d0, p0)) (cs := cs0) hf hr hk
  obtain ⟨⟨k0, k1, k2, k3, k4⟩, rfl, hs, wv⟩ := hr
  have hF := dutyPlays_c v k0 k1 k2 k3 k4 c wv ⟨by omega, by omega⟩ (accs_wf (hs ⟨k2, v.fStates⟩ (by simp))) hb
  exact hF.post Tryz.laidOut (by kernel_rfl) rfl (by kernel_rfl) Tryz.underlying4 rfl hW' hs
set_option maxRecDepth 100000 in
theorem dutyPlays_lifted (os : Os) (started : os.Started) (H : Type) (enc : TypeId × Value → H) (F : Stop.Interp) :
    ReturnsInHanded {} Tryz.checked os 4 .any ((Rows.OpenSpec.upto Rows.dutyPlaysSpec).pre6 enc Tryz.prog Tryz.f4 Rows.dutyPlaysUptoRow.domain false) (((Rows.OpenSpec.upto Rows.dutyPlaysSpec).at F).post enc Tryz.prog Tryz.f4 false true false false) := by
  refine returnsInHanded_of_cond (C := Tryz.checked) (s := Rows.OpenSpec.upto Rows.dutyPlaysSpec) (k := Rows.uptoSmall) rfl Tryz.own started (by kernel_rfl) Tryz.func4
    (OpenSpec.witness (enc := enc) (C := Tryz.checked) (s := Rows.OpenSpec.upto Rows.dutyPlaysSpec) (k := Rows.uptoSmall) rfl false ⟨#[], #[.agg (cScene zscene nS nS nS nS nS).toArray, .int .i64 0], []⟩ 8 (by kernel_rfl) (by kernel_rfl) (by kernel_rfl)
      (x := ([.agg [.lit (.int .i64 0), .lit (.int .i64 0), .agg [.lit (.int .i64 0), .nil, .lit (.int .i64 0), .lit (.int .i64 0), .agg [.lit (.int .i64 0), .lit (.int .i64 0), .lit (.int .i64 0), .lit (.string []), .lit (.string []), .lit (.int .i64 0), .lit (.int .i64 0)], .nil], .nil, .nil, .nil], .lit (.int .i64 0)], [], [])) (by kernel_rfl) rfl (by kernel_rfl)) ?_
  intro W base args ds gs before hval hW _ hk _
  exact dutyPlays_contract H enc W base args ds gs before hk hval hW
theorem and_t {a b : Bool} (ha : a = true) (hb : b = true) : (a && b) = true := by rw [ha, hb]; rfl
set_option maxHeartbeats 40000000 in
theorem dutyPlays_closed : joinedFacts Tryz.prog 4 Tryz.f4 (Rows.OpenSpec.upto Rows.dutyPlaysSpec).bare Rows.dutyPlaysUptoRow = true := by
  unfold joinedFacts
  repeat' (with_reducible apply and_t)
  all_goals (as_aux_lemma => kernel_rfl)
theorem dutyPlays_named : Tryz.prog.funcNamed Rows.dutyPlaysUptoRow.func = some 4 := by kernel_rfl
theorem dutyPlays_inst : Tryz.f4.isInstance Tryz.prog Rows.dutyPlaysUptoRow.origin Rows.dutyPlaysUptoRow.targs := of_decide_eq_true (by kernel_rfl)
theorem dutyPlays_wrap : Tryz.f4.isWrapper Tryz.prog Rows.dutyPlaysUptoRow.wrapper Rows.dutyPlaysUptoRow.mainSum := by
  unfold Func.isWrapper
  rw [if_neg (by decide +kernel)]
  exact ⟨rfl, rfl⟩
theorem dutyPlays_over : Rows.dutyPlaysUptoRow.holds Tryz.pinned (Rows.OpenSpec.upto Rows.dutyPlaysSpec) :=
  OpenClaim.holds_of_cond 4 Tryz.f4 rfl rfl rfl rfl rfl rfl rfl ⟨rfl, rfl, rfl, rfl, rfl⟩ rfl rfl rfl rfl rfl dutyPlays_named Tryz.func4 dutyPlays_closed dutyPlays_inst dutyPlays_wrap
    (fun os started H enc _ F => dutyPlays_lifted os started H enc F)
theorem dutyPlays_holds : Rows.DutyPlaysUptoSaid := dutyPlays_over
#print axioms dutyPlays_holds
end
end Go.Proofs.YtmpoffijcfaalaaGreat
