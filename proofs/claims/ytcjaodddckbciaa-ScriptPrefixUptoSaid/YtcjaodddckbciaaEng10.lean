/- The arguments of a law, opened: what the statement's reading says of them, as facts on data. Generic: no program. -/
import Derived.Test.YtcjaodddckbciaaEng9
import Derived.ProofKit
import Derived.Deep.Slices
namespace Go.Eng

def Opens (P : Program) (T : TypeId) {α : Type} (r : Rep α) : Prop :=
  ∀ (H : Type) (enc : TypeId × Value → H) (w : World) (fuel : Nat) (cs : List Value) (x : DataW H × List MemPlace), DataW.trod enc P w 0 (fun _ => true) true fuel T cs = some x → ∃ a : α, r.rd (fun b => b < w.heap.size) w cs a

theorem opens_int {P : Program} {T : TypeId} (hu : P.underlying T = some (.int .i64)) : Opens P T repInt := by
  intro H enc w fuel cs x h
  obtain ⟨n, rfl, _, hw⟩ := DataW.trod_int hu h
  refine ⟨n, rfl, ?_⟩
  simp [Lit.wf, IntKind.min, IntKind.max, IntKind.signed, IntKind.bits] at hw
  exact ⟨by omega, by omega⟩
theorem opens_byte {P : Program} {T : TypeId} (hu : P.underlying T = some (.int .u8)) : Opens P T repByte := by
  intro H enc w fuel cs x h
  obtain ⟨n, rfl, _, hw⟩ := DataW.trod_int hu h
  simp [Lit.wf, IntKind.min, IntKind.max, IntKind.signed, IntKind.bits] at hw
  refine ⟨UInt8.ofNat n.toNat, ?_, trivial⟩
  show [Value.int .u8 n] = [Value.int .u8 ((UInt8.ofNat n.toNat).toNat : Int)]
  have : ((UInt8.ofNat n.toNat).toNat : Int) = n := by
    have : (UInt8.ofNat n.toNat).toNat = n.toNat := by simp; omega
    rw [this]; omega
  rw [this]
theorem opens_str {P : Program} {T : TypeId} (hu : P.underlying T = some .string) : Opens P T repStr := by
  intro H enc w fuel cs x h
  obtain ⟨s, rfl, _, hs⟩ := DataW.trod_string hu h
  exact ⟨s, rfl, by simpa only [maxLen] using hs⟩
theorem opens_bool {P : Program} {T : TypeId} (hu : P.underlying T = some .bool) : Opens P T repBool := by
  intro H enc w fuel cs x h
  obtain ⟨b, rfl, _⟩ := DataW.trod_bool hu h
  exact ⟨b, rfl, trivial⟩

theorem cells_lies {w : World} {a : Addr} {n : Nat} {cs : List Value} (h : w.cells? 0 a n = some cs) : cs.length = n ∧ ∀ j u, cs[j]? = some u → w.cell? (a.add j) = some u := by
  unfold World.cells? at h
  rw [if_pos (Nat.zero_le _)] at h
  have hl : cs.length = n := by simpa using mapM_some_length h
  refine ⟨hl, fun j u hu => ?_⟩
  have hj : j < n := by rw [← hl]; exact (List.getElem?_eq_some_iff.1 hu).1
  have hc := mapM_some_get h j j (by simp [hj])
  rw [hu] at hc
  exact hc
theorem opens_list {P : Program} {T E : TypeId} {α : Type} {r : Rep α} (hu : P.underlying T = some (.slice E)) (hs : P.cellsOf E = r.size) (h0 : 0 < r.size) (hE : Opens P E r) : Opens P T (@repList α r) := by
  intro H enc w fuel cs x h
  rcases Deep.open_slice hu h with ⟨rfl, _⟩ | ⟨a, len, cap, m, n, D, Pl, rfl, _, hlc, hcm, hm, _, hi⟩
  · exact ⟨[], none, 0, rfl, Nat.le_refl _, by decide, Nat.zero_le _, fun h => absurd rfl h⟩
  · have hm' : len ≤ m := by rw [hm]; split <;> omega
    have key : ∀ i, i < len → ∃ e : α, ∃ cs', w.cells? 0 (a.add (i * P.cellsOf E)) (P.cellsOf E) = some cs' ∧ r.rd (fun b => b < w.heap.size) w cs' e := by
      intro i hlt
      obtain ⟨cs', h1, h2⟩ := hi i (by omega)
      obtain ⟨e, he⟩ := hE H enc w n cs' _ h2
      exact ⟨e, cs', h1, he⟩
    have : ∃ xs : List α, xs.length = len ∧ ∀ i e, xs[i]? = some e → ∃ cs', w.cells? 0 (a.add (i * P.cellsOf E)) (P.cellsOf E) = some cs' ∧ r.rd (fun b => b < w.heap.size) w cs' e := by
      have gen : ∀ k, (∀ i, i < k → ∃ e : α, ∃ cs', w.cells? 0 (a.add (i * P.cellsOf E)) (P.cellsOf E) = some cs' ∧ r.rd (fun b => b < w.heap.size) w cs' e) → ∃ xs : List α, xs.length = k ∧ ∀ i e, xs[i]? = some e → ∃ cs', w.cells? 0 (a.add (i * P.cellsOf E)) (P.cellsOf E) = some cs' ∧ r.rd (fun b => b < w.heap.size) w cs' e := by
       intro k key
       induction k with
       | zero => exact ⟨[], rfl, by simp⟩
       | succ k ih =>
         obtain ⟨xs, h1, h2⟩ := ih fun i hlt => key i (by omega)
         obtain ⟨e, he⟩ := key k (by omega)
         refine ⟨xs ++ [e], by simp [h1], fun i e' hi => ?_⟩
         rw [List.getElem?_append] at hi
         split at hi
         · exact h2 i e' hi
         · rename_i hge
           have : i = k := by
             have := (List.getElem?_eq_some_iff.1 hi).1
             simp at this
             omega
           subst this
           simp [h1] at hi
           subst hi
           exact he
      exact gen len key
    obtain ⟨xs, hxl, hx⟩ := this
    subst hxl
    refine ⟨xs, some a, cap, rfl, hlc, by simpa only [maxLen] using hcm, by simp only [maxLen] at hcm; omega, fun hne => ?_⟩
    have hpos : 0 < xs.length := List.length_pos_iff.2 hne
    obtain ⟨cs', h1, h2⟩ := hx 0 xs[0] (List.getElem?_eq_getElem hpos)
    obtain ⟨hl1, hl2⟩ := cells_lies h1
    have hc0 := hl2 0 cs'[0] (List.getElem?_eq_getElem (by omega))
    have hsp := World.cell?_spot hc0
    obtain ⟨b, o, spot⟩ := a
    have hspot : spot = none := by simpa [Addr.add] using hsp
    subst hspot
    have hb : b < w.heap.size := by
      unfold World.cell? at hc0
      simp only [Addr.add] at hc0
      split at hc0
      · rename_i hh
        exact lt_of_heap (by simpa using hh)
      · cases hc0
    refine ⟨b, o, rfl, hb, fun i e he => ?_⟩
    obtain ⟨cs2, g1, g2⟩ := hx i e he
    refine ⟨cs2, g2, fun j u hu => ?_⟩
    have := (cells_lies g1).2 j u hu
    rw [hs, Addr.add_mid, Addr.add_mid] at this
    exact this
end Go.Eng
