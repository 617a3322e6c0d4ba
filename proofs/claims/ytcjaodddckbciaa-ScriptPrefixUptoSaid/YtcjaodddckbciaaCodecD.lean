/- What was written reads back. No program. -/
import Derived.Test.YtcjaodddckbciaaCodecC
namespace Go.Ytcjaodddckbciaa
open Go.Eng

theorem numD_enc : ∀ (k i v v0 : Nat) (r : List UInt8), (encNat v).length = k → i ≤ 9 → v * 2 ^ (7 * i) < 2 ^ 64 → (i = 0 ∨ 0 < v) → numD i v0 (encNat v ++ r) = (v0 + v * 2 ^ (7 * i), i + k, 0)
  | 0, i, v, v0, r, hk, _, _, _ => by
    exfalso
    by_cases h : v < 128
    · rw [encNat_small h] at hk; simp at hk
    · rw [encNat_big (by omega)] at hk; simp at hk
  | k + 1, i, v, v0, r, hk, hi, hv, h0 => by
    by_cases h : v < 128
    · rw [encNat_small h] at hk ⊢
      have hk : k = 0 := by simpa using hk.symm
      subst hk
      have hc : (UInt8.ofNat v).toNat = v := toNat_ofNat (by omega)
      have h9 : i = 9 → v ≤ 1 := by
        rintro rfl
        simp only [Nat.reduceMul, Nat.reducePow] at hv
        omega
      simp only [List.cons_append, List.nil_append, numD, hc]
      rw [if_neg (by omega), if_neg (by omega), if_neg (by omega), Nat.mod_eq_of_lt h]
    · have hb : 128 ≤ v := by omega
      rw [encNat_big hb] at hk ⊢
      have hk : (encNat (v / 128)).length = k := by simpa using hk
      have hc : (UInt8.ofNat (v % 128 + 128)).toNat = v % 128 + 128 := toNat_ofNat (by omega)
      have h9 : i ≠ 9 := by
        rintro rfl
        simp only [Nat.reduceMul, Nat.reducePow] at hv
        omega
      have e : 2 ^ (7 * (i + 1)) = 128 * 2 ^ (7 * i) := by rw [Nat.mul_add, Nat.pow_add, Nat.mul_comm]
      have hv2 : v / 128 * 2 ^ (7 * (i + 1)) + v % 128 * 2 ^ (7 * i) = v * 2 ^ (7 * i) := by
        rw [e, ← Nat.mul_assoc, ← Nat.add_mul]
        congr 1
        omega
      simp only [List.cons_append, numD, hc]
      rw [if_neg (by omega), if_pos (by omega), show (v % 128 + 128) % 128 = v % 128 by omega]
      rw [numD_enc k (i + 1) (v / 128) _ r hk (by omega) (by omega) (.inr (by omega))]
      rw [Nat.add_assoc v0, Nat.add_comm (v % 128 * 2 ^ (7 * i)), hv2]
      congr 2
      omega

/-- The reader is at no fault, and stands ahead of r. -/
def Sees (bs : List UInt8) (s : Rd) (r : List UInt8) : Prop := s.fault = 0 ∧ s.pos ≤ bs.length ∧ bs.drop s.pos = r
theorem Sees.next {α : Type} {bs : List UInt8} {s : Rd} {a r : List UInt8} (h : Sees bs s (a ++ r)) {d x : α} {f : List UInt8 → α × Nat × Nat} (hf : f (a ++ r) = (x, a.length, 0)) :
    ∃ s', rdOf bs d f s = (x, s') ∧ Sees bs s' r := by
  obtain ⟨h1, h2, h3⟩ := h
  have hl : a.length + r.length + s.pos = bs.length := by
    have := congrArg List.length h3
    simp only [List.length_drop, List.length_append] at this
    omega
  refine ⟨⟨s.pos + a.length, s.fault⟩, ?_, h1, by show s.pos + a.length ≤ _; omega, ?_⟩
  · simp only [rdOf, h3, hf, Rd.val, Rd.step]
    rw [if_neg (by omega), if_neg (by omega), if_neg (by omega), if_neg (by omega)]
  · show bs.drop (s.pos + a.length) = r
    rw [← List.drop_drop, h3, List.drop_left]
theorem rdNum_enc {bs : List UInt8} {s : Rd} {v : Nat} {r : List UInt8} (hv : v < 2 ^ 64) (h : Sees bs s (encNat v ++ r)) : ∃ s', rdNum bs s = (v, s') ∧ Sees bs s' r :=
  h.next (by rw [numD_enc _ 0 v 0 r rfl (by decide) (by simpa using hv) (.inl rfl)]; simp)
theorem rdInt_enc {bs : List UInt8} {s : Rd} {x : Int} {r : List UInt8} (hx : InI x) (h : Sees bs s (encInt x ++ r)) : ∃ s', rdInt bs s = (x, s') ∧ Sees bs s' r := by
  obtain ⟨s', h1, h2⟩ := rdNum_enc (zig_lt hx) h
  exact ⟨s', by simp only [rdInt, h1, zag_zig], h2⟩
theorem rdCount_enc {bs : List UInt8} {s : Rd} {v : Nat} {r : List UInt8} (hv : v ≤ 64) (h : Sees bs s (encNat v ++ r)) : ∃ s', rdCount bs 64 s = (v, s') ∧ Sees bs s' r :=
  h.next (by
    have e := numD_enc _ 0 v 0 r rfl (by decide) (by simp only [Nat.mul_zero, Nat.pow_zero]; omega) (.inl rfl)
    rw [countD_of e, if_neg (by simp; omega), if_neg (by simp)]
    simp)
theorem rdText_enc {bs : List UInt8} {s : Rd} {b r : List UInt8} (hb : b.length ≤ 16) (h : Sees bs s (encText b ++ r)) : ∃ s', rdText bs 16 s = (b, s') ∧ Sees bs s' r :=
  h.next (by
    have e := numD_enc _ 0 b.length 0 (b ++ r) rfl (by decide) (by simp only [Nat.mul_zero, Nat.pow_zero]; omega) (.inl rfl)
    simp only [Nat.zero_add, Nat.mul_zero, Nat.pow_zero, Nat.mul_one] at e
    have e1 : countD (encText b ++ r) 16 = (b.length, (encNat b.length).length, 0) := by
      unfold encText
      rw [List.append_assoc, countD_of e, if_neg (by omega), if_neg (by omega)]
    rw [textD_of e1, if_neg (by omega), if_neg (by unfold encText; simp only [List.length_append]; omega)]
    unfold encText
    rw [List.append_assoc, List.drop_left, List.take_left, List.length_append])
theorem rdInts_enc {bs : List UInt8} : ∀ (l : List Int) {s : Rd} {r : List UInt8}, (∀ x ∈ l, InI x) → Sees bs s (encInts l ++ r) → ∃ s', rdInts bs l.length s = (l, s') ∧ Sees bs s' r
  | [], s, r, _, h => ⟨s, rfl, h⟩
  | x :: l, s, r, hl, h => by
    simp only [encInts, List.append_assoc] at h
    obtain ⟨s1, e1, h1⟩ := rdInt_enc (hl x (List.mem_cons_self ..)) h
    obtain ⟨s2, e2, h2⟩ := rdInts_enc l (fun y hy => hl y (List.mem_cons_of_mem _ hy)) h1
    exact ⟨s2, by simp only [List.length_cons, rdInts, e1, e2], h2⟩

/-- Such events lie in the argument. -/
def EvIn (e : Ev) : Prop := e.wf ∧ ∀ x ∈ e.keep, InI x
theorem rdEv_enc {bs : List UInt8} {s : Rd} {e : Ev} {r : List UInt8} (he : EvIn e) (hb : evBig e = false) (h : Sees bs s (encEv e ++ r)) : ∃ s', rdEv bs s = (plainEv e, s') ∧ Sees bs s' r := by
  obtain ⟨⟨i1, i2, i3, i4, i5, o1, o2, o3, o4, o5, o6⟩, hk⟩ := he
  have hb' : e.op.key.size ≤ 16 ∧ e.op.other.size ≤ 16 ∧ e.keep.length ≤ 64 := by
    simp only [evBig, Bool.or_eq_false_iff, decide_eq_false_iff_not] at hb
    omega
  unfold encEv at h
  simp only [encInts, List.append_assoc, List.nil_append, List.append_nil] at h
  obtain ⟨s1, e1, h⟩ := rdInt_enc i1 h
  obtain ⟨s2, e2, h⟩ := rdInt_enc i2 h
  obtain ⟨s3, e3, h⟩ := rdInt_enc i3 h
  obtain ⟨s4, e4, h⟩ := rdInt_enc i4 h
  obtain ⟨s5, e5, h⟩ := rdInt_enc i5 h
  obtain ⟨kind, client, node, other, n, op, keep⟩ := e
  obtain ⟨ok, key, oth, on, olo, ohi⟩ := op
  simp only at *
  by_cases h1 : kind = 1
  · rw [if_pos h1] at h
    simp only [List.append_assoc] at h
    obtain ⟨s6, e6, h⟩ := rdInt_enc o1 h
    obtain ⟨s7, e7, h⟩ := rdText_enc (by rw [toList_size]; exact hb'.1) h
    obtain ⟨s8, e8, h⟩ := rdText_enc (by rw [toList_size]; exact hb'.2.1) h
    obtain ⟨s9, e9, h⟩ := rdInt_enc o4 h
    obtain ⟨s10, e10, h⟩ := rdInt_enc o5 h
    obtain ⟨s11, e11, h⟩ := rdInt_enc o6 h
    refine ⟨s11, ?_, h⟩
    have hk9 : keeps kind = false := by subst h1; rfl
    simp only [rdEv, e1, e2, e3, e4, e5, if_pos h1, rdOp, e6, e7, e8, e9, e10, e11, plainEv, hk9, Bool.false_eq_true, if_false]
  · rw [if_neg h1] at h
    by_cases h2 : keeps kind = true
    · rw [if_pos h2] at h
      simp only [List.append_assoc] at h
      obtain ⟨s6, e6, h⟩ := rdCount_enc hb'.2.2 h
      obtain ⟨s7, e7, h⟩ := rdInts_enc keep hk h
      refine ⟨s7, ?_, h⟩
      simp only [rdEv, e1, e2, e3, e4, e5, if_neg h1, if_pos h2, rdKeep, e6, e7, plainEv]
    · rw [if_neg h2] at h
      simp only [List.nil_append] at h
      refine ⟨s5, ?_, h⟩
      simp only [rdEv, e1, e2, e3, e4, e5, if_neg h1, if_neg h2, plainEv]

def encAll : List Ev → List UInt8
  | [] => []
  | e :: r => encEv e ++ encAll r
theorem encL_some : ∀ {l : List Ev} {b b' : List UInt8}, encL b l = some b' → (∀ e ∈ l, evBig e = false) ∧ b' = b ++ encAll l
  | [], b, b', h => by
    simp only [encL, Option.some.injEq] at h
    exact ⟨by simp, by rw [← h]; simp [encAll]⟩
  | e :: r, b, b', h => by
    simp only [encL] at h
    split at h
    · cases h
    · rename_i hb
      obtain ⟨h1, h2⟩ := encL_some h
      refine ⟨fun x hx => ?_, by rw [h2]; simp [encAll]⟩
      rcases List.mem_cons.1 hx with rfl | hx
      · simpa using hb
      · exact h1 x hx
theorem encL_of : ∀ {l : List Ev} {b : List UInt8}, (∀ e ∈ l, evBig e = false) → encL b l = some (b ++ encAll l)
  | [], b, _ => by simp [encL, encAll]
  | e :: r, b, h => by
    simp only [encL, h e (List.mem_cons_self ..), Bool.false_eq_true, if_false]
    rw [encL_of fun x hx => h x (List.mem_cons_of_mem _ hx)]
    simp [encAll]
theorem encEv_pos (e : Ev) : 0 < (encEv e).length := by
  have : 0 < (encInt e.kind).length := by
    unfold encInt
    by_cases h : zig e.kind < 128
    · rw [encNat_small h]; simp
    · rw [encNat_big (by omega)]; simp
  unfold encEv
  simp only [encInts, List.length_append]
  omega
theorem rdEvs_enc {bs : List UInt8} : ∀ (l : List Ev) (n : Nat) {s : Rd}, l.length ≤ n → (∀ e ∈ l, EvIn e ∧ evBig e = false) → Sees bs s (encAll l) → rdEvs bs n s = l.map plainEv
  | [], n, s, _, _, h => by
    have : ¬ s.pos < bs.length := by
      have := congrArg List.length h.2.2
      simp only [List.length_drop, encAll, List.length_nil] at this
      omega
    rw [rdEvs_end this]; rfl
  | e :: l, n, s, hn, hl, h => by
    simp only [List.length_cons] at hn
    have hp : s.pos < bs.length := by
      have := congrArg List.length h.2.2
      have h0 := encEv_pos e
      simp only [List.length_drop, encAll, List.length_append] at this
      omega
    obtain ⟨h1, h2⟩ := hl e (List.mem_cons_self ..)
    obtain ⟨s', he, hs⟩ := rdEv_enc h1 h2 h
    rw [rdEvs_more hp he hs.1 (by omega), rdEvs_enc l (n - 1) (by omega) (fun x hx => hl x (List.mem_cons_of_mem _ hx)) hs]
    rfl
theorem plain_enc (e : Ev) : encEv (plainEv e) = encEv e := by
  unfold encEv plainEv
  simp only
  by_cases h1 : e.kind = 1
  · simp only [if_pos h1]
  · simp only [if_neg h1]
    by_cases h2 : keeps e.kind = true
    · simp only [if_pos h2]
    · simp only [if_neg h2]
theorem plain_big {e : Ev} (h : evBig e = false) : evBig (plainEv e) = false := by
  have hn : OpV.none.key.size = 0 ∧ OpV.none.other.size = 0 := ⟨rfl, rfl⟩
  simp only [evBig, Bool.or_eq_false_iff, decide_eq_false_iff_not] at h ⊢
  unfold plainEv
  simp only
  refine ⟨⟨?_, ?_⟩, ?_⟩ <;> split <;> first | omega | simp
theorem plain_all (l : List Ev) : encAll (l.map plainEv) = encAll l := by
  induction l with
  | nil => rfl
  | cons e l ih => simp only [List.map_cons, encAll, plain_enc, ih]
theorem back {nodes : Int} {l : List Ev} {b : List UInt8} (hl : ∀ e ∈ l, EvIn e) (h : encS nodes l = (b, 0)) : decS b = (nodes, l.map plainEv) ∧ encS nodes (l.map plainEv) = (b, 0) := by
  have hk : known nodes = true := by
    rcases hk : known nodes with _ | _
    · unfold encS at h
      rw [if_pos hk] at h
      cases h
    · rfl
  have hlen : ¬ 4096 < l.length := by
    intro hlen
    unfold encS at h
    rw [if_neg (by rw [hk]; decide), if_pos hlen] at h
    cases h
  rw [encS_of hk hlen] at h
  rcases hL : encL [UInt8.ofNat nodes.toNat] l with _ | b'
  · rw [hL] at h; cases h
  · rw [hL] at h
    simp only [Prod.mk.injEq, and_true] at h
    subst h
    obtain ⟨h1, h2⟩ := encL_some hL
    have hc : ((UInt8.ofNat nodes.toNat).toNat : Int) = nodes := by
      rw [← known_u8 hk]
      have : nodes = 1 ∨ nodes = 3 ∨ nodes = 5 := by simpa [known, or_assoc] using hk
      rcases this with rfl | rfl | rfl <;> decide
    constructor
    · have hs : Sees b' ⟨0, 0⟩ ([UInt8.ofNat nodes.toNat] ++ encAll l) := ⟨rfl, Nat.zero_le _, h2⟩
      obtain ⟨s', e1, h3⟩ := hs.next (d := (0 : UInt8)) (f := byteD) (x := UInt8.ofNat nodes.toNat) rfl
      have e1 : rdByte b' ⟨0, 0⟩ = (UInt8.ofNat nodes.toNat, s') := e1
      simp only [decS, e1]
      rw [hc, if_pos hk, rdEvs_enc l 4096 (by omega) (fun e he => ⟨hl e he, h1 e he⟩) h3]
    · rw [encS_of hk (by simpa using hlen), encL_of (l := l.map plainEv), plain_all, ← h2]
      intro e he
      obtain ⟨x, hx, rfl⟩ := List.mem_map.1 he
      exact plain_big (h1 x hx)
theorem encS_bad {nodes : Int} {l : List Ev} {b : List UInt8} {e : Nat} (h : encS nodes l = (b, e)) (he : e ≠ 0) : b = [] := by
  unfold encS at h
  split at h
  · cases h; rfl
  · split at h
    · cases h; rfl
    · split at h
      · cases h; rfl
      · cases h; exact absurd rfl he
theorem encAll_le : ∀ (l : List Ev), (∀ e ∈ l, EvIn e ∧ evBig e = false) → (encAll l).length ≤ 750 * l.length
  | [], _ => by simp [encAll]
  | e :: l, h => by
    obtain ⟨h1, h2⟩ := h e (List.mem_cons_self ..)
    have h3 := encEv_le h1.1 h1.2 h2
    have h4 := encAll_le l fun x hx => h x (List.mem_cons_of_mem _ hx)
    simp only [encAll, List.length_append, List.length_cons]
    omega
theorem encS_len {nodes : Int} {l : List Ev} (hl : ∀ e ∈ l, EvIn e) : (encS nodes l).1.length ≤ 10000000 := by
  unfold encS
  split
  · simp
  · split
    · simp
    · rename_i h1 h2
      split
      · simp
      · rename_i b hb
        obtain ⟨g1, g2⟩ := encL_some hb
        have := encAll_le l fun e he => ⟨hl e he, g1 e he⟩
        rw [g2]
        simp only [List.length_append, List.length_singleton]
        omega
def ev0 : Ev := ⟨7, 0, 1, 0, 0, OpV.none, []⟩
theorem ev0_in : EvIn ev0 := ⟨⟨⟨by decide, by decide⟩, ⟨by decide, by decide⟩, ⟨by decide, by decide⟩, ⟨by decide, by decide⟩, ⟨by decide, by decide⟩, none_wf⟩, by simp [ev0]⟩
theorem ev0_enc : ∃ b, encS 1 [ev0] = (b, 0) ∧ b.length = 6 := by
  have hb : evBig ev0 = false := rfl
  have he : encEv ev0 = [14, 0, 2, 0, 0] := by
    have z : ∀ n, n < 128 → encNat n = [UInt8.ofNat n] := fun n h => encNat_small h
    have h7 : encInt 7 = [14] := z 14 (by decide)
    have h0 : encInt 0 = [0] := z 0 (by decide)
    have h1 : encInt 1 = [2] := z 2 (by decide)
    simp [encEv, ev0, encInts, h7, h0, h1, keeps]
  refine ⟨[1, 14, 0, 2, 0, 0], ?_, rfl⟩
  rw [encS_of (nodes := 1) (by decide) (by decide)]
  simp only [encL, hb, he]
  rfl
theorem evEq_self (e : Ev) : evEq e e = true := by simp [evEq]
end Go.Ytcjaodddckbciaa
