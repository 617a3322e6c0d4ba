/- Part 35 of the proof of auditOrder_holds: AudL2, Eng36, AudW13, AudY1. Every text below begins with what it shows. -/
import Derived.Test.YtmpoffijcfaalaaGreatAu34

/- The law AuditOrder, plainly: of several that are as far the first counts; one more that is behind changes nothing. -/

namespace Go.YtmpoffijcfaalaaGreat
open Go.Eng
/-- The totals that some scenes show. -/
def lookP (l : List TScene) (rr : List (List TRight)) : List TTotal × Int := if furE l = 0 then truthP (furC l) (furS l) rr else ([], furE l)
theorem upS_id {u : TScene} {xs : List TState} {n : Nat} (h : ∀ k, k < n → (u.fStates.getD k default).fIndex ≤ (xs.getD k default).fIndex) : ∀ i, i ≤ n → upS u xs i = xs
  | 0, _ => rfl
  | i + 1, hi => by
    rw [upS, upS_id h i (by omega), if_neg]
    have := h i (by omega)
    omega
theorem right1 {v : TScene} : rightAll [v] = drightP v := by
  rw [rightAll, Bool.eq_iff_iff, allI_iff]
  constructor
  · intro h
    exact h 0 (Nat.lt_succ_self _)
  · intro h j hj
    obtain rfl : j = 0 := by simp at hj; omega
    exact h
theorem right2 {v u : TScene} : rightAll [v, u] = (drightP v && drightP u) := by
  rw [rightAll, Bool.eq_iff_iff, allI_iff, Bool.and_eq_true]
  constructor
  · intro h
    exact ⟨h 0 (by simp), h 1 (Nat.lt_succ_self _)⟩
  · rintro ⟨h1, h2⟩ j hj
    have : j = 0 ∨ j = 1 := by simp at hj; omega
    rcases this with rfl | rfl
    · exact h1
    · exact h2
/-- Scenes that add nothing. -/
theorem look_more {v u : TScene} (rr : List (List TRight)) (hu : drightP u = true ∨ drightP v = false) (hc : u.fChart.fIndex ≤ v.fChart.fIndex) (hs : ∀ k, k < u.fStates.length → (u.fStates.getD k default).fIndex ≤ (v.fStates.getD k default).fIndex) : lookP [v, u] rr = lookP [v] rr := by
  by_cases hv : drightP v = true
  · have hu := hu.resolve_right (by rw [hv]; decide)
    have r1 : rightAll [v] = true := right1.trans hv
    have r2 : rightAll [v, u] = true := by rw [right2, hv, hu]; rfl
    have eE : furE [v, u] = furE [v] := by
      have a1 : furE [v] = 0 := by rw [furE, if_neg (by simp), if_pos r1]
      have a2 : furE [v, u] = 0 := by rw [furE, if_neg (by simp), if_pos r2]
      rw [a1, a2]
    have eC : furC [v, u] = furC [v] := by
      have a1 : furC [v] = v.fChart := by rw [furC, if_neg (by simp), if_pos r1]; rfl
      have a2 : furC [v, u] = upC v.fChart u := by rw [furC, if_neg (by simp), if_pos r2]; rfl
      rw [a1, a2, upC, if_neg (by omega)]
    have eS : furS [v, u] = furS [v] := by
      have a1 : furS [v] = v.fStates := by rw [furS, if_neg (by simp), if_pos r1]; rfl
      have a2 : furS [v, u] = upS u v.fStates u.fStates.length := by rw [furS, if_neg (by simp), if_pos r2]; rfl
      rw [a1, a2]
      exact upS_id hs _ (Nat.le_refl _)
    rw [lookP, lookP, eE, eC, eS]
  · have hv : drightP v = false := by simpa using hv
    have r1 : ¬ rightAll [v] = true := by rw [right1, hv]; decide
    have r2 : ¬ rightAll [v, u] = true := by rw [right2, hv]; simp
    have e1 : furE [v] = 21 := by rw [furE, if_neg (by simp), if_neg r1]
    have e2 : furE [v, u] = 21 := by rw [furE, if_neg (by simp), if_neg r2]
    have z : ¬ (21 : Int) = 0 := by decide
    rw [lookP, lookP, e1, e2, if_neg z, if_neg z]
theorem look_twice (v : TScene) (rr : List (List TRight)) : lookP [v, v] rr = lookP [v] rr :=
  look_more rr (by cases h : drightP v <;> simp) (Int.le_refl _) (fun _ _ => Int.le_refl _)
def bhB (v u : TScene) : Nat → Bool
  | 0 => decide (furE [u] = 0) && decide ((u.fStates.length : Int) = (v.fStates.length : Int)) && decide (u.fChart.fIndex ≤ v.fChart.fIndex)
  | i + 1 => bhB v u i && decide ((u.fStates.getD i default).fIndex ≤ (v.fStates.getD i default).fIndex)
theorem bhB_facts {v u : TScene} : ∀ i, bhB v u i = true → bhB v u 0 = true ∧ ∀ k, k < i → (u.fStates.getD k default).fIndex ≤ (v.fStates.getD k default).fIndex
  | 0, h => ⟨h, fun _ hk => absurd hk (Nat.not_lt_zero _)⟩
  | i + 1, h => by
    rw [bhB, Bool.and_eq_true, decide_eq_true_eq] at h
    obtain ⟨h1, h2⟩ := bhB_facts i h.1
    refine ⟨h1, fun k hk => ?_⟩
    by_cases e : k = i
    · rw [e]; exact h.2
    · exact h2 k (by omega)
theorem look_behind {v u : TScene} {i : Nat} (rr : List (List TRight)) (h : bhB v u i = true) (hi : u.fStates.length ≤ i ∨ v.fStates.length ≤ i) : lookP [v, u] rr = lookP [v] rr := by
  obtain ⟨h0, hk⟩ := bhB_facts i h
  simp only [bhB, Bool.and_eq_true, decide_eq_true_eq] at h0
  have hu : drightP u = true := by
    have he := h0.1.1
    rw [furE, if_neg (by simp)] at he
    split at he
    · rename_i hr
      exact right1.symm.trans hr
    · cases he
  exact look_more rr (.inl hu) h0.2 (fun k hk' => hk k (by omega))
theorem awake25 : (lookP [scene1 1 3] []).2 = 0 := by kernel_rfl
end Go.YtmpoffijcfaalaaGreat

/- A literal of two structs. Generic: no program. -/

namespace Go.Eng
open Go.RowKit
theorem fold_set : ∀ (l pre post : List Value) (o k : Nat), o + k = pre.length → l.length ≤ post.length → ((l.zipIdx k).foldl (fun (cs : Array Value) (x : Value × Nat) => cs.setIfInBounds (o + x.2) x.1) (pre ++ post).toArray) = (pre ++ (l ++ post.drop l.length)).toArray
  | [], pre, post, _, _, _, _ => by simp
  | u :: l, pre, post, o, k, ho, h => by
    obtain ⟨q, post, rfl⟩ : ∃ q r, post = q :: r := by
      cases post with
      | nil => simp at h
      | cons q r => exact ⟨q, r, rfl⟩
    simp only [List.zipIdx_cons, List.foldl_cons]
    have e : ((pre ++ q :: post).toArray.setIfInBounds (o + k) u) = ((pre ++ [u]) ++ post).toArray := by rw [ho]; simp
    rw [e, fold_set l (pre ++ [u]) post o (k + 1) (by simp; omega) (by simpa using h)]
    simp
theorem run_buildSliceM2 {P : Program} {T E : TypeId} {size bytes : Nat} (ht : AppTy P T E size bytes) {us vs : List Value} (hl : us.length = size) (hl2 : vs.length = size) (h0 : us.length ≠ 0) (hb : us.length ≤ 1000) (w : World) :
    (Instr.buildSlice T 2 #[(0, .agg us.toArray), (1, .agg vs.toArray)]).run P w = .ok (.slice (some ⟨w.heap.size, 0, none⟩) 2 2) (w.alloc (.cells (us ++ vs).toArray E)) := by
  subst hl
  obtain ⟨hu', i, z, hi, hz, hs, hb', hzs, _⟩ := ht
  refine run_buildSlice w T E 2 _ (us ++ vs).toArray i z hu' hi hz (by rw [hs]; omega) (by rw [hs]; omega) ?_
  rw [hs]
  have hc : ∀ l : List Value, (Value.agg l.toArray).cells = l.toArray := fun _ => rfl
  have hz' : ((Array.range (2 * us.length)).map (z.cells[· % z.cells.size]!)).size = 2 * us.length := by simp
  generalize ((Array.range (2 * us.length)).map (z.cells[· % z.cells.size]!)) = arr at hz'
  simp only [Instr.fill, hc, Nat.zero_mul, Nat.one_mul]
  rw [if_neg (by simp [hz']; omega), ← Array.foldl_toList, Array.toList_zipIdx]
  have e1 := fold_set us [] arr.toList 0 0 rfl (by simp [hz']; omega)
  simp only [List.nil_append, Array.toArray_toList] at e1
  rw [e1]
  have hd : (arr.toList.drop us.length).length = us.length := by simp [hz']; omega
  rw [if_neg (by simp [hz', hl2]; omega), ← Array.foldl_toList, Array.toList_zipIdx]
  have e2 := fold_set vs us (arr.toList.drop us.length) us.length 0 (by simp) (by rw [hd]; omega)
  rw [e2, List.drop_of_length_le (by rw [hd]; omega)]
  simp
section
variable {c : Cx} {ops : Array Oper} {Q : Exit → Act → World → Prop} {env : Env} {L : Own} {D : List Atom} {rest : List Oper} {d : Nat} {t : TypeId} {p : String} {af : Array Edge} {x y : Operand} {T : TypeId}
theorem bsM2 {us vs : List Value} {E : TypeId} {size bytes : Nat} (hx : ev env x = some (.agg us.toArray)) (hy : ev env y = some (.agg vs.toArray)) (ht : AppTy c.P T E size bytes) (hs : us.length = size) (hs2 : vs.length = size) (h0 : us.isEmpty = false) (hl : Nat.ble us.length 1000 = true) (hn : Nat.blt d c.n = true)
    (k : ∀ b, WL Q c ops rest ((d, .slice (some ⟨b, 0, none⟩) 2 2) :: env) (bl b E (us ++ vs) :: L) D) :
    WL Q c ops (⟨some d, .buildSlice T 2 #[(0, x), (1, y)], t, p, af, none⟩ :: rest) env L D := by
  refine wpl_any (σ := Nat) rfl rfl (fun b => (d, .slice (some ⟨b, 0, none⟩) 2 2) :: env) (fun b => bl b E (us ++ vs) :: L) (fun _ => D) (fun a w f st dh => ?_) k
  refine ⟨w.heap.size, .slice (some ⟨w.heap.size, 0, none⟩) 2 2, w.alloc (.cells (us ++ vs).toArray E), ?_, f.put _ (lt_blt hn), bl_push st dh⟩
  have hne : us.length ≠ 0 := fun e => by rw [List.eq_nil_of_length_eq_zero e] at h0; cases h0
  simp only [execOp, List.map_toArray, List.map_cons, List.map_nil, f.ev hx, f.ev hy, Sem.run_bind, run_buildSliceM2 ht hs hs2 hne (Nat.le_of_ble_eq_true hl), Result.andThen_ok, Sem.run_pure]
end
end Go.Eng

/- The law AuditOrder, walked: written by specs10.py. -/

namespace Go.Proofs.YtmpoffijcfaalaaGreat
open Go.Eng Go.YtmpoffijcfaalaaGreat

theorem look_c (v_l : Value) (l : List TScene) (v_rr : Value) (rr : List (List TRight)) (Z : List TTotal × Int) (hrw : ∀ l ∈ rr, ∀ r ∈ l, r.wf) (hZ : lookP l rr = Z) : Fnc Tryz.prog 25 [v_l, v_rr] [] [⟨v_l, l⟩, ⟨v_rr, rr⟩] (fun (y : Value) u => u = .tuple #[y, .int .i64 Z.2]) (fun _ _ => []) (fun y _ => [⟨y, Z.1⟩]) := by
  refine Fnc.proof Tryz.func25 rfl 24 rfl rfl fun X w => sq<|rg<|asg rfl rfl<|asg rfl rfl<|nl<|nx<|sq<|rg<|mv rfl rfl<|cf (fur_c _ _ (furC l) (furS l) (furE l) rfl rfl rfl) ok_27 rfl (SubD.cons 0 rfl SubD.nil) rfl fun y11 v11 h11 => ?_
  obtain ⟨e11, wC⟩ := h11
  subst e11
  obtain ⟨y0, y1, y2⟩ := y11
  refine mv rfl rfl<|xt rfl rfl rfl<|xt rfl rfl rfl<|xt rfl rfl rfl<|al zero_27 rfl fun b6 => gtL (q := y0.oneCell' = true) (fun S w h => oneCell_of_list (h _ (List.mem_of_getElem? (i := 0) rfl))) fun o_y0 => gtL (q := y1.oneCell' = true) (fun S w h => oneCell_of_list (h _ (List.mem_of_getElem? (i := 1) rfl))) fun o_y1 => stW 0 (us := (cChart ((furC l)) y0 y1)) rfl rfl rfl row_27 (by simp only [List.all_cons, List.all_nil, Bool.and_true, o_y0, o_y1]; rfl) rfl<|asg rfl rfl<|asg rfl rfl<|nl<|nx<|sq<|sq ?_
  refine rg<|mv rfl rfl<|neI rfl rfl rfl<|nl<|nx<|cdN rfl (fun h16 => ?_) (fun h16 => ?_)
  ·
    have hZ2 : (([], furE l) : List TTotal × Int) = Z := by rw [← hZ, lookP, if_neg h16]
    subst hZ2
    exact emC (α := TTotal)<|sq<|rg<|mv rfl rfl<|asg rfl rfl<|asg rfl rfl<|nl<|nx<|rt<|tR<|dpQ<|fR2 (.slice none 0 0) rfl rfl rfl rfl rfl (SubD.cons 0 rfl SubD.nil)
  ·
    have hT : truthP (furC l) (furS l) rr = Z := by rw [← hZ, lookP, if_pos h16]
    refine sk<|nx<|sq<|rg<|ldM 0 (cChart ((furC l)) y0 y1) rfl rfl row_27 rfl rfl<|mv rfl rfl<|mv rfl rfl<|cf (truth_c _ _ _ _ _ _ _ Z wC hrw hT) ok_33 rfl (SubD.cons 0 rfl (SubD.cons 1 rfl (SubD.cons 2 rfl (SubD.cons 4 rfl SubD.nil)))) rfl fun y21 v21 h21 => ?_
    subst h21
    exact xt rfl rfl rfl<|xt rfl rfl rfl<|asg rfl rfl<|asg rfl rfl<|nl<|nx<|rt<|dpQ<|fR2 y21 rfl rfl rfl rfl rfl (SubD.cons 0 rfl SubD.nil)

theorem awake25_c : FnV Tryz.prog 24 [] [] (.bool true) := by
  refine Fnc.proof Tryz.func24 rfl 32 rfl rfl fun X w => sq<|rg<|asg rfl rfl<|nl<|nx<|sq<|rg<|emL (α := TScene)<|cf (fur_c _ _ zchart [] 1 rfl rfl rfl) ok_27 rfl (SubD.cons 0 rfl SubD.nil) rfl fun y9 v9 h9 => ?_
  obtain ⟨e9, _⟩ := h9
  subst e9
  obtain ⟨a0, a1, a2⟩ := y9
  refine mv rfl rfl<|xt rfl rfl rfl<|xt rfl rfl rfl<|xt rfl rfl rfl<|al zero_27 rfl fun b1 => gtL (q := a0.oneCell' = true) (fun S w h => oneCell_of_list (h _ (List.mem_of_getElem? (i := 0) rfl))) fun o_a0 => gtL (q := a1.oneCell' = true) (fun S w h => oneCell_of_list (h _ (List.mem_of_getElem? (i := 1) rfl))) fun o_a1 => stW 0 (us := (cChart zchart a0 a1)) rfl rfl rfl row_27 (by simp only [List.all_cons, List.all_nil, Bool.and_true, o_a0, o_a1]; rfl) rfl<|asg rfl rfl<|asg rfl rfl<|nl<|nx<|sq<|rg ?_
  refine cf (scene_c 1 3 ⟨by decide, by decide⟩ ⟨by decide, by decide⟩) ok_40 rfl SubD.nil rfl fun y14 v14 h14 => ?_
  obtain ⟨y0, y1⟩ := y14
  have h14 : v14 = .tuple #[.agg (cScene (scene1 1 3) y0 (.slice none 0 0) y1 (.slice none 0 0) (.slice none 0 0)).toArray, .bool true] := h14
  subst h14
  refine mv rfl rfl<|xt rfl rfl rfl<|xt rfl rfl rfl<|al zero_32 rfl fun b4 => gtL (q := y0.oneCell' = true) (fun S w h => oneCell_of_list (h _ (List.mem_of_getElem? (i := 0) rfl))) fun o_y0 => gtL (q := y1.oneCell' = true) (fun S w h => oneCell_of_list (h _ (List.mem_of_getElem? (i := 1) rfl))) fun o_y1 => stW 0 (us := (cScene ((scene1 1 3)) y0 (.slice none 0 0) y1 (.slice none 0 0) (.slice none 0 0))) rfl rfl rfl row_32 (by simp only [List.all_cons, List.all_nil, Bool.and_true, o_y0, o_y1]; rfl) rfl<|asg rfl rfl<|nl<|nx<|sq<|rg<|ldM 0 (cScene ((scene1 1 3)) y0 (.slice none 0 0) y1 (.slice none 0 0) (.slice none 0 0)) rfl rfl row_32 rfl rfl<|bsM rfl app_75 rfl rfl rfl rfl fun b19 => ?_
  refine frS1 (α := TScene) (scene1 1 3) (fun S w h => ⟨⟨y0, (.slice none 0 0), y1, (.slice none 0 0), (.slice none 0 0)⟩, rfl, fun t ht => by
      simp only [List.mem_cons, List.not_mem_nil, or_false] at ht
      rcases ht with rfl | rfl | rfl | rfl | rfl
      · exact h _ (List.mem_of_getElem? (i := 0) rfl)
      · exact nil_list S w
      · exact h _ (List.mem_of_getElem? (i := 1) rfl)
      · exact nil_list S w
      · exact nil_list S w, (scene1_wf ⟨by decide, by decide⟩ ⟨by decide, by decide⟩)⟩) ?_
  refine emL (α := List TRight)<|cf (look_c _ _ _ _ (lookP [scene1 1 3] []) (fun l hl => absurd hl (List.not_mem_nil)) rfl) ok_25 rfl (SubD.cons 1 rfl (SubD.cons 0 rfl SubD.nil)) rfl fun y20 v20 h20 => ?_
  subst h20
  refine mv rfl rfl<|xt rfl rfl rfl<|xt rfl rfl rfl<|asg rfl rfl<|asg rfl rfl<|nl<|nx<|sq<|rg<|mv rfl rfl<|mv rfl rfl<|gY rfl rfl rfl<|mv rfl rfl<|gY rfl rfl rfl ?_
  refine eqI rfl rfl rfl<|pkT rfl rfl rfl<|mv rfl rfl ?_
  apply jo [] trivial
  ·
    intro K31
    refine spA (i := 28) rfl (fun h28 => ?_) (fun h28 => ?_)
    ·
      have p28 := of_decide_eq_true h28
      exact gY rfl rfl rfl<|mv rfl rfl<|gY rfl rfl rfl<|eqI rfl rfl rfl<|pkT rfl rfl rfl<|jA K31 h28 trivial SubD.refl
    ·
      exact gS (g := [_, _]) rfl<|pkF rfl rfl rfl<|jA0 K31 h28 trivial SubD.refl
  refine asg rfl rfl<|nl<|nx<|rt<|dpQ<|dpQ ?_
  exact fR1 () rfl rfl (by rw [awake25]; rfl) rfl SubD.nil

theorem auditOrder_c (v : TScene) (v_0 v_1 v_2 v_3 v_4 : Value) (u : TScene) (u_0 u_1 u_2 u_3 u_4 : Value) (v_rr : Value) (rr : List (List TRight)) (h_v : v.wf) (h_u : u.wf) (hrw : ∀ l ∈ rr, ∀ r ∈ l, r.wf) : FnV Tryz.prog 6 [.agg (cScene v v_0 v_1 v_2 v_3 v_4).toArray, .agg (cScene u u_0 u_1 u_2 u_3 u_4).toArray, v_rr] [⟨v_0, v.fChart.fPlaces⟩, ⟨v_1, v.fChart.fMarks⟩, ⟨v_2, v.fStates⟩, ⟨v_3, v.fRights⟩, ⟨v_4, v.fAges⟩, ⟨u_0, u.fChart.fPlaces⟩, ⟨u_1, u.fChart.fMarks⟩, ⟨u_2, u.fStates⟩, ⟨u_3, u.fRights⟩, ⟨u_4, u.fAges⟩, ⟨v_rr, rr⟩] (.bool true) := by
  refine Fnc.proof Tryz.func6 rfl 119 rfl rfl fun X w => gtC (q := v.fStates.length ≤ 9223372036854775807) (fun S w h => list_len (h _ (List.mem_of_getElem? (i := 2) rfl))) fun hlv => gtC (q := u.fStates.length ≤ 9223372036854775807) (fun S w h => list_len (h _ (List.mem_of_getElem? (i := 7) rfl))) fun hlu => sq<|rg<|bx rfl rfl rfl fun b3 => bx rfl rfl rfl fun b4 => asg rfl rfl<|nl<|nx<|sq<|sq<|rg<|cfv (awake25_c) ok_24 rfl SubD.nil rfl ?_
  refine nt rfl rfl<|nl<|nx<|cdF rfl<|sk<|nx<|sq<|rg<|ldM 1 (cScene v v_0 v_1 v_2 v_3 v_4) rfl rfl row_32 rfl rfl<|bsM rfl app_75 rfl rfl rfl rfl fun b22 => ?_
  refine frS1 (α := TScene) v (fun S w h => ⟨⟨v_0, v_1, v_2, v_3, v_4⟩, rfl, fun t ht => by
      simp only [List.mem_cons, List.not_mem_nil, or_false] at ht
      rcases ht with rfl | rfl | rfl | rfl | rfl
      · exact h _ (List.mem_of_getElem? (i := 0) rfl)
      · exact h _ (List.mem_of_getElem? (i := 1) rfl)
      · exact h _ (List.mem_of_getElem? (i := 2) rfl)
      · exact h _ (List.mem_of_getElem? (i := 3) rfl)
      · exact h _ (List.mem_of_getElem? (i := 4) rfl), h_v⟩) ?_
  refine mv rfl rfl<|cf (look_c _ _ _ _ (lookP [v] rr) hrw rfl) ok_25 rfl (SubD.cons 0 rfl (SubD.cons 11 rfl SubD.nil)) rfl fun y24 v24 h24 => ?_
  subst h24
  refine mv rfl rfl<|xt rfl rfl rfl<|xt rfl rfl rfl<|asg rfl rfl<|asg rfl rfl<|nl<|nx<|sq<|rg<|ldM 1 (cScene v v_0 v_1 v_2 v_3 v_4) rfl rfl row_32 rfl rfl<|ldM 1 (cScene v v_0 v_1 v_2 v_3 v_4) rfl rfl row_32 rfl rfl<|bsM2 (us := cScene v v_0 v_1 v_2 v_3 v_4) (vs := cScene v v_0 v_1 v_2 v_3 v_4) rfl rfl app_75 rfl rfl rfl rfl rfl fun b30 => ?_
  refine frS (α := TScene) [v, v] [cScene v v_0 v_1 v_2 v_3 v_4, cScene v v_0 v_1 v_2 v_3 v_4] rfl (fun S w h => ⟨⟨⟨v_0, v_1, v_2, v_3, v_4⟩, rfl, fun t ht => by
      simp only [List.mem_cons, List.not_mem_nil, or_false] at ht
      rcases ht with rfl | rfl | rfl | rfl | rfl
      · exact h _ (List.mem_of_getElem? (i := 2) rfl)
      · exact h _ (List.mem_of_getElem? (i := 3) rfl)
      · exact h _ (List.mem_of_getElem? (i := 4) rfl)
      · exact h _ (List.mem_of_getElem? (i := 5) rfl)
      · exact h _ (List.mem_of_getElem? (i := 6) rfl), h_v⟩, ⟨⟨v_0, v_1, v_2, v_3, v_4⟩, rfl, fun t ht => by
      simp only [List.mem_cons, List.not_mem_nil, or_false] at ht
      rcases ht with rfl | rfl | rfl | rfl | rfl
      · exact h _ (List.mem_of_getElem? (i := 2) rfl)
      · exact h _ (List.mem_of_getElem? (i := 3) rfl)
      · exact h _ (List.mem_of_getElem? (i := 4) rfl)
      · exact h _ (List.mem_of_getElem? (i := 5) rfl)
      · exact h _ (List.mem_of_getElem? (i := 6) rfl), h_v⟩, trivial⟩) (Nat.le_of_ble_eq_true rfl) ?_
  refine mv rfl rfl<|cf (look_c _ _ _ _ (lookP [v] rr) hrw (look_twice v rr)) ok_25 rfl (SubD.cons 0 rfl (SubD.cons 13 rfl SubD.nil)) rfl fun y32 v32 h32 => ?_
  subst h32
  refine mv rfl rfl<|xt rfl rfl rfl<|xt rfl rfl rfl<|asg rfl rfl<|asg rfl rfl<|nl<|nx<|sq<|sq<|rg<|mv rfl rfl<|mv rfl rfl<|neI rfl rfl rfl<|mv rfl rfl ?_
  apply jo [(2, _), (3, _), (4, _), (7, _), (8, _)] ⟨rfl, rfl, rfl, rfl, rfl, trivial⟩
  ·
    intro K43
    refine spO (i := 38) rfl (fun h38 => ?_) (fun h38 => ?_)
    ·
      have p38 := h38
      simp only [Bool.not_eq_true', Bool.not_eq_false', decide_eq_true_eq, decide_eq_false_iff_not] at p38
      exact gY rfl rfl rfl<|mv rfl rfl<|gY rfl rfl rfl<|mv rfl rfl<|gY rfl rfl rfl<|cfv (plainT_c _ _ _) ok_26 rfl (SubD.cons 2 rfl (SubD.cons 0 rfl SubD.nil)) rfl<|gY rfl rfl rfl<|nt rfl rfl<|pkF rfl rfl rfl<|jR K43 h38 ⟨rfl, rfl, rfl, rfl, rfl, trivial⟩ SubD.refl
    ·
      exact gS (g := [_, _, _, _]) rfl<|pkT rfl rfl rfl<|jR0 K43 h38 ⟨rfl, rfl, rfl, rfl, rfl, trivial⟩ SubD.refl
  refine nl<|nx<|cdB rfl (fun h43 => ?_) (fun h43 => ?_)
  ·
    simp at h43 --#done
  ·
    refine sk<|nx<|sq<|rg<|ldM 0 (cScene u u_0 u_1 u_2 u_3 u_4) rfl rfl row_32 rfl rfl<|bsM rfl app_75 rfl rfl rfl rfl fun b46 => ?_
    refine frS1 (α := TScene) u (fun S w h => ⟨⟨u_0, u_1, u_2, u_3, u_4⟩, rfl, fun t ht => by
        simp only [List.mem_cons, List.not_mem_nil, or_false] at ht
        rcases ht with rfl | rfl | rfl | rfl | rfl
        · exact h _ (List.mem_of_getElem? (i := 9) rfl)
        · exact h _ (List.mem_of_getElem? (i := 10) rfl)
        · exact h _ (List.mem_of_getElem? (i := 11) rfl)
        · exact h _ (List.mem_of_getElem? (i := 12) rfl)
        · exact h _ (List.mem_of_getElem? (i := 13) rfl), h_u⟩) ?_
    refine cf (fur_c _ _ (furC [u]) (furS [u]) (furE [u]) rfl rfl rfl) ok_27 rfl (SubD.cons 0 rfl SubD.nil) rfl fun y47 v47 h47 => ?_
    obtain ⟨e47, w47⟩ := h47
    subst e47
    obtain ⟨a0, a1, a2⟩ := y47
    refine mv rfl rfl<|xt rfl rfl rfl<|xt rfl rfl rfl<|xt rfl rfl rfl<|al zero_27 rfl fun b11 => gtL (q := a0.oneCell' = true) (fun S w h => oneCell_of_list (h _ (List.mem_of_getElem? (i := 0) rfl))) fun o_a0 => gtL (q := a1.oneCell' = true) (fun S w h => oneCell_of_list (h _ (List.mem_of_getElem? (i := 1) rfl))) fun o_a1 => stW 0 (us := (cChart ((furC [u])) a0 a1)) rfl rfl rfl row_27 (by simp only [List.all_cons, List.all_nil, Bool.and_true, o_a0, o_a1]; rfl) rfl<|asg rfl rfl<|asg rfl rfl<|nl<|nx<|sq<|rg ?_
    refine mv rfl rfl<|eqI rfl rfl rfl<|mv rfl rfl ?_
    apply jo [(2, _), (3, _), (4, _), (7, _), (8, _)] ⟨rfl, rfl, rfl, rfl, rfl, trivial⟩
    ·
      intro K61
      refine spA (i := 53) rfl (fun h53 => ?_) (fun h53 => ?_)
      ·
        have p53 := of_decide_eq_true h53
        refine gY rfl rfl rfl<|fa rfl fld_32_3 rfl<|gY rfl rfl rfl<|ldB 1 rfl rfl one_28 rfl rfl<|gY rfl rfl rfl<|lnP 15 rfl rfl Tryz.underlying28 rfl fun l56 => gY rfl rfl rfl<|fa rfl fld_32_3 rfl<|gY rfl rfl rfl<|ldB 2 rfl rfl one_28 rfl rfl<|gY rfl rfl rfl<|lnP 10 rfl rfl Tryz.underlying28 rfl fun l59 => gY rfl rfl rfl<|eqI rfl rfl rfl ?_
        exact pkT rfl rfl rfl<|jA K61 h53 ⟨rfl, rfl, rfl, rfl, rfl, trivial⟩ SubD.refl
      ·
        exact gS (g := [_, _, _, _, _, _, _]) rfl<|pkF rfl rfl rfl<|jA0 K61 h53 ⟨rfl, rfl, rfl, rfl, rfl, trivial⟩ SubD.refl
    refine mv rfl rfl ?_
    apply jo [(2, _), (3, _), (4, _), (7, _), (8, _)] ⟨rfl, rfl, rfl, rfl, rfl, trivial⟩
    ·
      intro K70
      refine spA (i := 62) rfl (fun h62 => ?_) (fun h62 => ?_)
      ·
        refine gY rfl rfl rfl<|fa rfl fld_32_2 rfl<|gY rfl rfl rfl<|fa rfl fld_27_0 rfl<|gY rfl rfl rfl<|ldB 1 rfl rfl one_3 rfl rfl<|gY rfl rfl rfl<|fa rfl fld_32_2 rfl<|gY rfl rfl rfl<|fa rfl fld_27_0 rfl<|gY rfl rfl rfl<|ldB 2 rfl rfl one_3 rfl rfl<|gY rfl rfl rfl<|leI rfl rfl rfl ?_
        exact pkT rfl rfl rfl<|jA K70 h62 ⟨rfl, rfl, rfl, rfl, rfl, trivial⟩ SubD.refl
      ·
        exact gS (g := [_, _, _, _, _, _, _]) rfl<|pkF rfl rfl rfl<|jA0 K70 h62 ⟨rfl, rfl, rfl, rfl, rfl, trivial⟩ SubD.refl
    refine asg rfl rfl<|nl<|nx<|sq<|sq<|rg<|asg rfl rfl<|nl<|nx<|bk<|lpC (σ := Nat) [(2, _), (3, _), (4, _), (7, _), (8, _)] _ (fun i C => (15, .int .i64 (i : Int)) :: (14, .bool (bhB v u i)) :: C) (fun i => i ≤ u.fStates.length ∧ i ≤ v.fStates.length) (fun i => u.fStates.length - i) 0 ⟨rfl, rfl, rfl, rfl, rfl, trivial⟩ (SubD.cons 0 rfl (SubD.cons 1 rfl (SubD.cons 6 rfl (SubD.cons 8 rfl (SubD.cons 9 rfl (SubD.cons 10 rfl (SubD.cons 11 rfl (SubD.cons 12 rfl (SubD.cons 13 rfl (SubD.cons 14 rfl (SubD.cons 15 rfl (SubD.cons 16 rfl (SubD.cons 17 rfl (SubD.cons 18 rfl SubD.nil)))))))))))))) ⟨Nat.zero_le _, Nat.zero_le _⟩ ⟨rfl, rfl, rfl, rfl, rfl, rfl, rfl, trivial⟩ ?_
    rintro i ⟨hi, hi2⟩
    refine sq<|sq<|rg<|mv rfl rfl<|fa rfl fld_32_3 rfl<|ldB 1 rfl rfl one_28 rfl rfl<|lnP 10 rfl rfl Tryz.underlying28 rfl fun l74 => ltI rfl rfl rfl<|mv rfl rfl ?_
    apply jo [(2, _), (3, _), (4, _), (7, _), (8, _), (14, _), (15, _)] ⟨rfl, rfl, rfl, rfl, rfl, rfl, rfl, trivial⟩
    ·
      intro K82
      refine spA (i := 76) rfl (fun h76 => ?_) (fun h76 => ?_)
      ·
        have p76 := of_decide_eq_true h76
        exact gY rfl rfl rfl<|mv rfl rfl<|gY rfl rfl rfl<|fa rfl fld_32_3 rfl<|gY rfl rfl rfl<|ldB 2 rfl rfl one_28 rfl rfl<|gY rfl rfl rfl<|lnP 5 rfl rfl Tryz.underlying28 rfl fun l80 => gY rfl rfl rfl<|ltI rfl rfl rfl<|pkT rfl rfl rfl<|jA K82 h76 ⟨rfl, rfl, rfl, rfl, rfl, rfl, rfl, trivial⟩ SubD.refl
      ·
        exact gS (g := [_, _, _, _, _]) rfl<|pkF rfl rfl rfl<|jA0 K82 h76 ⟨rfl, rfl, rfl, rfl, rfl, rfl, rfl, trivial⟩ SubD.refl
    refine nl<|nx<|cdB rfl (fun h82 => ?_) (fun h82 => ?_)
    ·
      have q82 : i < u.fStates.length ∧ i < v.fStates.length := by
        have q := h82
        simp only [Bool.and_eq_true, decide_eq_true_eq] at q
        omega
      refine sk<|nx<|sq<|bk<|rgQ mixed (by kernel_rfl)<|mv rfl rfl<|mv rfl rfl ?_
      apply jo [(2, _), (3, _), (4, _), (7, _), (8, _), (15, _)] ⟨rfl, rfl, rfl, rfl, rfl, rfl, trivial⟩
      ·
        intro K100
        refine spA (i := 86) rfl (fun h86 => ?_) (fun h86 => ?_)
        ·
          have p86 := h86
          try simp only [Bool.or_eq_false_iff, Bool.and_eq_true, decide_eq_true_eq, decide_eq_false_iff_not, Bool.not_eq_true', Bool.not_eq_false'] at p86
          refine gY rfl rfl rfl<|fa rfl fld_32_3 rfl<|gY rfl rfl rfl<|ldB 1 rfl rfl one_28 rfl rfl<|gY rfl rfl rfl<|mv rfl rfl<|gY rfl rfl rfl<|ixP 10 rfl rfl rfl slt_28 (by omega) (getDE (d := default) (by omega)) rfl fun v90 => gY rfl rfl rfl<|faP (α := TState) (β := Int) 0 (fun x : TState => x.fIndex) rfl rfl fld_55_1 pState_1 rfl fun v91 => gY rfl rfl rfl<|ldV 0 rfl rfl one_3 rfl fun w92 => ?_
          refine gY rfl rfl rfl<|fa rfl fld_32_3 rfl<|gY rfl rfl rfl<|ldB 2 rfl rfl one_28 rfl rfl<|gY rfl rfl rfl<|mv rfl rfl<|gY rfl rfl rfl<|ixP 7 rfl rfl rfl slt_28 (by omega) (getDE (d := default) (by omega)) rfl fun v96 => gY rfl rfl rfl<|faP (α := TState) (β := Int) 0 (fun x : TState => x.fIndex) rfl rfl fld_55_1 pState_1 rfl fun v97 => gY rfl rfl rfl<|ldV 0 rfl rfl one_3 rfl fun w98 => ?_
          exact gY rfl rfl rfl<|leI rfl rfl rfl<|pkT rfl rfl rfl<|jA K100 h86 ⟨rfl, rfl, rfl, rfl, rfl, rfl, trivial⟩ (SubD.tail (SubD.tail (SubD.tail (SubD.tail SubD.refl))))
        ·
          exact gS (g := [_, _, _, _, _, _, _, _, _, _, _, _, _]) rfl<|pkF rfl rfl rfl<|jA0 K100 h86 ⟨rfl, rfl, rfl, rfl, rfl, rfl, trivial⟩ SubD.refl
      refine asg rfl rfl<|nlQ<|bN<|nx<|rg<|mv rfl rfl<|adI rfl rfl (inI (by omega) (by omega)) rfl<|asg rfl rfl<|nl ?_
      exact ag (i + 1) ⟨by omega, by omega⟩ (by omega) ⟨rfl, rfl, rfl, rfl, rfl, rfl, rfl, trivial⟩ rfl (SubD.cons 0 rfl (SubD.cons 1 rfl (SubD.cons 2 rfl (SubD.cons 3 rfl (SubD.cons 4 rfl (SubD.cons 5 rfl (SubD.cons 6 rfl (SubD.cons 7 rfl (SubD.cons 8 rfl (SubD.cons 9 rfl (SubD.cons 10 rfl (SubD.cons 11 rfl (SubD.cons 12 rfl (SubD.cons 13 rfl SubD.nil))))))))))))))
    ·
      have q82 : u.fStates.length ≤ i ∨ v.fStates.length ≤ i := by
        have q := h82
        simp only [Bool.and_eq_false_iff, decide_eq_false_iff_not] at q
        omega
      refine ex<|tE<|tE<|bE<|nx<|sq<|sq<|rg<|mv rfl rfl<|nt rfl rfl<|nl<|nx<|cdB rfl (fun h102 => ?_) (fun h102 => ?_)
      ·
        refine sq<|rg<|asg rfl rfl<|nl<|nx<|rt<|tR<|dpQ<|dpQ<|dpQ ?_
        exact fR1 () rfl rfl (by rfl) rfl SubD.nil
      ·
        have hb : bhB v u i = true := by simpa using h102
        refine sk<|nx<|sq<|rg<|ldM 2 (cScene v v_0 v_1 v_2 v_3 v_4) rfl rfl row_32 rfl rfl<|ldM 1 (cScene u u_0 u_1 u_2 u_3 u_4) rfl rfl row_32 rfl rfl<|bsM2 (us := cScene v v_0 v_1 v_2 v_3 v_4) (vs := cScene u u_0 u_1 u_2 u_3 u_4) rfl rfl app_75 rfl rfl rfl rfl rfl fun b106 => ?_
        refine frS (α := TScene) [v, u] [cScene v v_0 v_1 v_2 v_3 v_4, cScene u u_0 u_1 u_2 u_3 u_4] rfl (fun S w h => ⟨⟨⟨v_0, v_1, v_2, v_3, v_4⟩, rfl, fun t ht => by
            simp only [List.mem_cons, List.not_mem_nil, or_false] at ht
            rcases ht with rfl | rfl | rfl | rfl | rfl
            · exact h _ (List.mem_of_getElem? (i := 3) rfl)
            · exact h _ (List.mem_of_getElem? (i := 4) rfl)
            · exact h _ (List.mem_of_getElem? (i := 5) rfl)
            · exact h _ (List.mem_of_getElem? (i := 6) rfl)
            · exact h _ (List.mem_of_getElem? (i := 7) rfl), h_v⟩, ⟨⟨u_0, u_1, u_2, u_3, u_4⟩, rfl, fun t ht => by
            simp only [List.mem_cons, List.not_mem_nil, or_false] at ht
            rcases ht with rfl | rfl | rfl | rfl | rfl
            · exact h _ (List.mem_of_getElem? (i := 8) rfl)
            · exact h _ (List.mem_of_getElem? (i := 9) rfl)
            · exact h _ (List.mem_of_getElem? (i := 10) rfl)
            · exact h _ (List.mem_of_getElem? (i := 11) rfl)
            · exact h _ (List.mem_of_getElem? (i := 12) rfl), h_u⟩, trivial⟩) (Nat.le_of_ble_eq_true rfl) ?_
        refine mv rfl rfl<|cf (look_c _ _ _ _ (lookP [v] rr) hrw (look_behind rr hb q82)) ok_25 rfl (SubD.cons 0 rfl (SubD.cons 14 rfl SubD.nil)) rfl fun y108 v108 h108 => ?_
        subst h108
        refine mv rfl rfl<|xt rfl rfl rfl<|xt rfl rfl rfl<|asg rfl rfl<|asg rfl rfl<|nl<|nx<|sq<|rg<|mv rfl rfl<|mv rfl rfl<|eqI rfl rfl rfl<|mv rfl rfl ?_
        apply jo [] trivial
        ·
          intro K118
          refine spA (i := 114) rfl (fun h114 => ?_) (fun h114 => ?_)
          ·
            have p114 := of_decide_eq_true h114
            exact gY rfl rfl rfl<|mv rfl rfl<|gY rfl rfl rfl<|mv rfl rfl<|gY rfl rfl rfl<|cfv (plainT_c _ _ _) ok_26 rfl (SubD.cons 4 rfl (SubD.cons 0 rfl SubD.nil)) rfl<|pkT rfl rfl rfl<|jA K118 h114 trivial SubD.refl
          ·
            exact gS (g := [_, _, _]) rfl<|pkF rfl rfl rfl<|jA0 K118 h114 trivial SubD.refl
        refine asg rfl rfl<|nl<|nx<|rt<|dpQ<|dpQ<|dpQ ?_
        exact fR1 () rfl rfl (by simp) rfl SubD.nil
end Go.Proofs.YtmpoffijcfaalaaGreat

/- The law AuditOrder holds of every input: of several scenes that are as far the first counts, and one more that is behind changes no totals. No condition. -/

namespace Go.Proofs.YtmpoffijcfaalaaGreat
open Go.Eng Go.YtmpoffijcfaalaaGreat Go.ChangeShapes Go.WideShapes Go.ChangeAt Go.RowKit

theorem Tryz.own : ownKnob Tryz.prog.godebug = none := by kernel_rfl
theorem Tryz.laidOut : laidOutB Tryz.prog = true := by kernel_rfl
theorem opens_71 : Opens Tryz.prog 71 (@repList (List TRight) (@repList TRight rRight)) := opens_list Tryz.underlying71 cells_29 (by decide) opens_29
theorem rights_wf {S : Nat → Prop} {w : World} {v : Value} {l : List (List TRight)} (h : Atom.holds ⟨v, l⟩ S w) : ∀ x ∈ l, ∀ r ∈ x, r.wf := by
  intro x hx
  obtain ⟨cs, hcs⟩ := list_each h x hx
  obtain ⟨k, _, hk⟩ := list_atom hcs
  exact list_wf (s := sRight) hk

set_option maxRecDepth 100000 in
theorem auditOrder_lifted (os : Os) (started : os.Started) (H : Type) (enc : TypeId × Value → H) :
    ReturnsInHanded {} Tryz.checked os 6 .any (Rows.auditOrderSpec.pre6 enc Tryz.prog Tryz.f6 Rows.auditOrderRow.domain false) (Rows.auditOrderSpec.post enc Tryz.prog Tryz.f6 false true false false) := by
  refine returnsInHanded_of_change (C := Tryz.checked) Tryz.own started (by kernel_rfl) Tryz.func6
    (ChangeSpec.witness6 (enc := enc) (C := Tryz.checked) false ⟨#[], #[.agg (cScene zscene (.slice none 0 0) (.slice none 0 0) (.slice none 0 0) (.slice none 0 0) (.slice none 0 0)).toArray, .agg (cScene zscene (.slice none 0 0) (.slice none 0 0) (.slice none 0 0) (.slice none 0 0) (.slice none 0 0)).toArray, .slice none 0 0], []⟩ 8 (by kernel_rfl) (by kernel_rfl) (by kernel_rfl) (by kernel_rfl)) ?_
  intro W base args ds gs before hval0 hW _ _
  have hval : ∀ (j : Nat) t v, Tryz.f6.params[j]? = some t → args[j]? = some v → Value.okWide Tryz.prog W .any base t v := hval0
  have hW' := hW
  obtain ⟨p, q, hA0, hV, rfl, hfz, hnd⟩ := hW
  have hA : DataW.TrodAll enc Tryz.prog W 0 (fun _ => true) true Tryz.f6.params.toList args.toList ds p := hA0
  rw [Tryz.params6] at hA hval
  obtain ⟨v0, r0, d0, e0, p0, q0, ha, rfl, rfl, h0, hA⟩ := trodAll_cons hA
  obtain ⟨v1, r1, d1, e1, p1, q1, rfl, rfl, rfl, h1, hA⟩ := trodAll_cons hA
  obtain ⟨v2, r2, d2, e2, p2, q2, rfl, rfl, rfl, h2, hA⟩ := trodAll_cons hA
  obtain ⟨rfl, rfl, rfl⟩ := trodAll_nil hA
  obtain ⟨rfl, rfl⟩ := trodVars_none hV
  have hargs : args = #[v0, v1, v2] := Array.toList_inj.1 ha
  subst hargs
  obtain ⟨cs0, v, rfl, ⟨k0, k1, k2, k3, k4⟩, rfl, hs, wv⟩ := arg_struct Tryz.underlying32 opens_32 (hval 0 32 v0 rfl rfl) h0
  obtain ⟨cs1, u, rfl, ⟨m0, m1, m2, m3, m4⟩, rfl, hu, wu⟩ := arg_struct Tryz.underlying32 opens_32 (hval 1 32 v1 rfl rfl) h1
  obtain ⟨rr, hr⟩ := arg_list Tryz.underlying71 opens_71 (hval 2 71 v2 rfl rfl) h2
  have hF := auditOrder_c v k0 k1 k2 k3 k4 u m0 m1 m2 m3 m4 v2 rr wv wu (rights_wf hr)
  refine hF.post Tryz.laidOut (by kernel_rfl) rfl (by kernel_rfl) Tryz.underlying4 rfl hW' (fun t ht => ?_)
  simp only [List.cons_append, List.nil_append, List.mem_cons, List.not_mem_nil, or_false] at ht
  rcases ht with rfl | rfl | rfl | rfl | rfl | rfl | rfl | rfl | rfl | rfl | rfl
  · exact hs _ (by simp)
  · exact hs _ (by simp)
  · exact hs _ (by simp)
  · exact hs _ (by simp)
  · exact hs _ (by simp)
  · exact hu _ (by simp)
  · exact hu _ (by simp)
  · exact hu _ (by simp)
  · exact hu _ (by simp)
  · exact hu _ (by simp)
  · exact hr

theorem and_t {a b : Bool} (ha : a = true) (hb : b = true) : (a && b) = true := by rw [ha, hb]; rfl
set_option maxHeartbeats 40000000 in
theorem auditOrder_closed : joinedFacts Tryz.prog 6 Tryz.f6 Rows.auditOrderSpec Rows.auditOrderRow = true := by
  unfold joinedFacts
  repeat' (with_reducible apply and_t)
  all_goals (as_aux_lemma => kernel_rfl)
theorem auditOrder_named : Tryz.prog.funcNamed Rows.auditOrderRow.func = some 6 := by kernel_rfl
theorem auditOrder_inst : Tryz.f6.isInstance Tryz.prog Rows.auditOrderRow.origin Rows.auditOrderRow.targs := of_decide_eq_true (by kernel_rfl)
theorem auditOrder_wrap : Tryz.f6.isWrapper Tryz.prog Rows.auditOrderRow.wrapper Rows.auditOrderRow.mainSum := by
  unfold Func.isWrapper
  rw [if_neg (by decide +kernel)]
  exact ⟨rfl, rfl⟩
theorem auditOrder_holds : Rows.AuditOrderSaid :=
  OpenClaim.holds_of_wide 6 Tryz.f6 rfl rfl rfl rfl rfl rfl rfl ⟨rfl, rfl, rfl, rfl, rfl⟩ rfl rfl rfl rfl rfl auditOrder_named Tryz.func6 auditOrder_closed auditOrder_inst auditOrder_wrap
    (fun os started H enc _ => auditOrder_lifted os started H enc)
#print axioms auditOrder_holds
end Go.Proofs.YtmpoffijcfaalaaGreat
