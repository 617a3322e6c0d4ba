/- The law AuditPlays holds of every input of bulk at most 1048576: the furthest of any scenes, who owns a key, and the totals are what the reference tells, and what is handed in stays. Conditions: none but that bound, which the given statement names. -/
import Derived.JoinedCond
import Derived.ChangeMaps5
import Derived.Test.YtmpoffijcfaalaaGreatAp20

set_option maxRecDepth 20000
set_option maxHeartbeats 1000000
namespace Go.Proofs.YtmpoffijcfaalaaGreat
open Go.Eng Go.YtmpoffijcfaalaaGreat Go.ChangeShapes Go.WideShapes Go.ChangeAt Go.RowKit
section
theorem Tryz.own : ownKnob Tryz.prog.godebug = none := by kernel_rfl
theorem Tryz.laidOut : laidOutB Tryz.prog = true := by kernel_rfl
theorem opens_71 : Opens Pg 71 (@repList (List TRight) (@repList TRight rRight)) := opens_list Tryz.underlying71 cells_29 (by decide) opens_29
theorem opens_75 : Opens Pg 75 (@repList TScene rScene) := opens_list Tryz.underlying75 cells_32 (by decide) opens_32
theorem rights_wf {S : Nat → Prop} {w : World} {v : Value} {l : List (List TRight)} (h : Atom.holds ⟨v, l⟩ S w) : ∀ x ∈ l, ∀ r ∈ x, r.wf := by
  intro x hx
  obtain ⟨cs, hcs⟩ := list_each h x hx
  obtain ⟨k, _, hk⟩ := list_atom hcs
  exact list_wf (s := sRight) hk
theorem scenes_wf {S : Nat → Prop} {w : World} {v : Value} {l : List TScene} (h : Atom.holds ⟨v, l⟩ S w) : ∀ v ∈ l, ∀ s ∈ v.fStates, ∀ a ∈ s.fAccounts, a.wf := by
  intro v hv s hs a ha
  obtain ⟨cs, k, _, hsub, _⟩ := list_each h v hv
  obtain ⟨cs2, k2, _, hsub2, _⟩ := list_each (hsub ⟨k.2.2.1, v.fStates⟩ (by simp)) s hs
  exact list_wf (s := sAccount) (hsub2 _ (List.mem_cons_self ..)) a ha
set_option maxRecDepth 100000 in
theorem auditPlays_contract (H : Type) (enc : TypeId × Value → H) (W : World) (base : Nat) (args : Array Value) (ds gs : List (DataW H)) (before : List MemPlace) (hk : Rows.uptoSmall H (ds ++ gs) = true)
    (hval : ∀ (j : Nat) t v, Tryz.f7.params[j]? = some t → args[j]? = some v → Value.okWide Tryz.prog W .any base t v)
    (hW : DataW.Whole enc Tryz.prog Tryz.f7.params.toList Rows.auditPlaysSpec.vars false W args.toList ds gs before) :
    Calls Tryz.prog 7 args W fun e W' => ∃ v, e = .returned v ∧ Rows.auditPlaysSpec.post enc Tryz.prog Tryz.f7 false true false false W args v W' := by
  have hW' := hW
  obtain ⟨p, q, hA0, hV, rfl, hfz, hnd⟩ := hW
  have hA : DataW.TrodAll enc Tryz.prog W 0 (fun _ => true) true Tryz.f7.params.toList args.toList ds p := hA0
  rw [Tryz.params7] at hA hval
  obtain ⟨v0, r0, d0, e0, p0, q0, ha, rfl, rfl, h0, hA⟩ := trodAll_cons hA
  obtain ⟨v1, r1, d1, e1, p1, q1, rfl, rfl, rfl, h1, hA⟩ := trodAll_cons hA
  obtain ⟨v2, r2, d2, e2, p2, q2, rfl, rfl, rfl, h2, hA⟩ := trodAll_cons hA
  obtain ⟨rfl, rfl, rfl⟩ := trodAll_nil hA
  obtain ⟨rfl, rfl⟩ := trodVars_none hV
  have hargs : args = #[v0, v1, v2] := Array.toList_inj.1 ha
  subst hargs
  obtain ⟨key, rfl, rfl, rfl, _⟩ := Go.ChangeMaps.open_string Tryz.underlying9 (hval 2 9 v2 rfl rfl) h2
  have hk : Rows.uptoBulk d0 ≤ 1048576 := by
    have : Rows.uptoBulk d0 + (Rows.uptoBulk d1 + (Rows.uptoBulk (H := H) (.lit (.string key.data.toList)) + 0)) ≤ 1048576 := by simpa [Rows.uptoSmall, Rows.uptoBulkAll] using hk
    omega
  obtain ⟨A0, n0, c0, rfl⟩ := okWide_slice Tryz.underlying75 (hval 0 75 v0 rfl rfl)
  obtain ⟨l, hl⟩ := arg_list Tryz.underlying75 opens_75 (hval 0 75 _ rfl rfl) h0
  obtain ⟨rr, hr⟩ := arg_list Tryz.underlying71 opens_71 (hval 1 71 v1 rfl rfl) h1
  obtain ⟨hlen, hb⟩ : l.length ≤ 1048576 ∧ ∀ v ∈ l, BkV v := by
    obtain ⟨fuel, hf⟩ := h0
    obtain ⟨b1, b2⟩ := list_bulk2 Tryz.underlying75 cells_32 (x := (d0, p0)) (show DataW.trod enc Tryz.prog W 0 (fun _ => true) true fuel 75 [.slice A0 n0 c0] = some (d0, p0) from hf) hl
    refine ⟨Nat.le_trans b1 hk, fun v hv => ?_⟩
    obtain ⟨i, hi, rfl⟩ := List.getElem_of_mem hv
    obtain ⟨m, cs, y, t, b, r⟩ := b2 i _ (List.getElem?_eq_getElem hi)
    exact scene_bulk t r (Nat.le_trans b hk)
  have hF := auditPlays_c (.slice A0 n0 c0) l v1 rr key hlen (rights_wf hr) (scenes_wf hl) hb
  refine hF.post Tryz.laidOut (by kernel_rfl) rfl (by kernel_rfl) Tryz.underlying4 rfl hW' (fun t ht => ?_)
  simp only [List.mem_cons, List.not_mem_nil, or_false] at ht
  rcases ht with rfl | rfl
  · exact hl
  · exact hr
set_option maxRecDepth 100000 in
theorem auditPlays_lifted (os : Os) (started : os.Started) (H : Type) (enc : TypeId × Value → H) (F : Stop.Interp) :
    ReturnsInHanded {} Tryz.checked os 7 .any ((Rows.OpenSpec.upto Rows.auditPlaysSpec).pre6 enc Tryz.prog Tryz.f7 Rows.auditPlaysUptoRow.domain false) (((Rows.OpenSpec.upto Rows.auditPlaysSpec).at F).post enc Tryz.prog Tryz.f7 false true false false) := by
  refine returnsInHanded_of_cond (C := Tryz.checked) (s := Rows.OpenSpec.upto Rows.auditPlaysSpec) (k := Rows.uptoSmall) rfl Tryz.own started (by kernel_rfl) Tryz.func7
    (OpenSpec.witness (enc := enc) (C := Tryz.checked) (s := Rows.OpenSpec.upto Rows.auditPlaysSpec) (k := Rows.uptoSmall) rfl false ⟨#[], #[.slice none 0 0, .slice none 0 0, .string ByteArray.empty], []⟩ 8 (by kernel_rfl) (by kernel_rfl) (by kernel_rfl)
      (x := ([.nil, .nil, .lit (.string [])], [], [])) (by kernel_rfl) rfl (by kernel_rfl)) ?_
  intro W base args ds gs before hval hW _ hk _
  exact auditPlays_contract H enc W base args ds gs before hk hval hW
theorem and_t {a b : Bool} (ha : a = true) (hb : b = true) : (a && b) = true := by rw [ha, hb]; rfl
set_option maxHeartbeats 40000000 in
theorem auditPlays_closed : joinedFacts Tryz.prog 7 Tryz.f7 (Rows.OpenSpec.upto Rows.auditPlaysSpec).bare Rows.auditPlaysUptoRow = true := by
  unfold joinedFacts
  repeat' (with_reducible apply and_t)
  all_goals (as_aux_lemma => kernel_rfl)
theorem auditPlays_named : Tryz.prog.funcNamed Rows.auditPlaysUptoRow.func = some 7 := by kernel_rfl
theorem auditPlays_inst : Tryz.f7.isInstance Tryz.prog Rows.auditPlaysUptoRow.origin Rows.auditPlaysUptoRow.targs := of_decide_eq_true (by kernel_rfl)
theorem auditPlays_wrap : Tryz.f7.isWrapper Tryz.prog Rows.auditPlaysUptoRow.wrapper Rows.auditPlaysUptoRow.mainSum := by
  unfold Func.isWrapper
  rw [if_neg (by decide +kernel)]
  exact ⟨rfl, rfl⟩
theorem auditPlays_over : Rows.auditPlaysUptoRow.holds Tryz.pinned (Rows.OpenSpec.upto Rows.auditPlaysSpec) :=
  OpenClaim.holds_of_cond 7 Tryz.f7 rfl rfl rfl rfl rfl rfl rfl ⟨rfl, rfl, rfl, rfl, rfl⟩ rfl rfl rfl rfl rfl auditPlays_named Tryz.func7 auditPlays_closed auditPlays_inst auditPlays_wrap
    (fun os started H enc _ F => auditPlays_lifted os started H enc F)
theorem auditPlays_holds : Rows.AuditPlaysUptoSaid := auditPlays_over
#print axioms auditPlays_holds
end
end Go.Proofs.YtmpoffijcfaalaaGreat
