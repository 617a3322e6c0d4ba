/- Laws of what is written and read. No program. -/
import Derived.Test.YtcjaodddckbciaaCodecB
namespace Go.Ytcjaodddckbciaa
open Go.Eng

theorem pow7_le {i : Nat} (h : i ≤ 9) : 2 ^ (7 * i) ≤ 2 ^ 63 := Nat.pow_le_pow_right (by decide) (by omega)
theorem numD_bd : ∀ (bs : List UInt8) (i v : Nat), i ≤ 9 → v < 2 ^ (7 * i) → (numD i v bs).1 < 2 ^ 64 ∧ (numD i v bs).2.1 ≤ i + bs.length ∧ ((numD i v bs).2.2 ≠ 0 → (numD i v bs).1 = 0 ∧ (numD i v bs).2.1 = 0)
  | [], i, v, _, _ => by simp [numD]
  | c :: r, i, v, hi, hv => by
    have hc := c.toNat_lt
    simp only [numD]
    split
    · exact ⟨by decide, Nat.zero_le _, fun _ => ⟨rfl, rfl⟩⟩
    · rename_i h1
      split
      · have hi' : i + 1 ≤ 9 := by omega
        have h := numD_bd r (i + 1) (v + c.toNat % 128 * 2 ^ (7 * i)) hi' (shl_lt hv)
        refine ⟨h.1, ?_, h.2.2⟩
        have := h.2.1
        simp only [List.length_cons]
        omega
      · split
        · exact ⟨by decide, Nat.zero_le _, fun _ => ⟨rfl, rfl⟩⟩
        · refine ⟨?_, by simp only [List.length_cons]; omega, fun h => absurd rfl h⟩
          show v + c.toNat % 128 * 2 ^ (7 * i) < 2 ^ 64
          by_cases h9 : i = 9
          · subst h9
            have : c.toNat % 128 ≤ 1 := by omega
            simp only [Nat.reduceMul, Nat.reducePow] at hv ⊢
            omega
          · have h := shl_lt (c := c.toNat) hv
            have := pow7_le (i := i + 1) (by omega)
            omega
theorem countD_of {bs : List UInt8} {most : Int} {v n e : Nat} (h : numD 0 0 bs = (v, n, e)) : countD bs most = if e = 0 ∧ max most 0 < (v : Int) then (0, 0, 22) else if e ≠ 0 then (0, 0, e) else (v, n, 0) := by
  simp only [countD, h]
theorem countD_bd (bs : List UInt8) (most : Int) : ((countD bs most).1 : Int) ≤ max most 0 ∧ (countD bs most).2.1 ≤ bs.length ∧ ((countD bs most).2.2 ≠ 0 → (countD bs most).1 = 0 ∧ (countD bs most).2.1 = 0) := by
  have hb := numD_bd bs 0 0 (by decide) (by decide)
  rcases h : numD 0 0 bs with ⟨v, n, e⟩
  rw [h] at hb
  simp only [Nat.zero_add] at hb
  rw [countD_of h]
  split
  · exact ⟨by show (0 : Int) ≤ _; omega, Nat.zero_le _, fun _ => ⟨rfl, rfl⟩⟩
  · split
    · exact ⟨by show (0 : Int) ≤ _; omega, Nat.zero_le _, fun _ => ⟨rfl, rfl⟩⟩
    · rename_i h1 h2
      have : e = 0 := by omega
      exact ⟨by show (v : Int) ≤ _; omega, hb.2.1, fun h => absurd rfl h⟩
theorem textD_of {bs : List UInt8} {most : Int} {v n e : Nat} (h : countD bs most = (v, n, e)) : textD bs most = if e ≠ 0 then ([], 0, e) else if bs.length < n + v then ([], 0, 20) else ((bs.drop n).take v, n + v, 0) := by
  simp only [textD, h]
theorem textD_bd (bs : List UInt8) (most : Int) : (textD bs most).2.1 ≤ bs.length ∧ ((textD bs most).2.2 ≠ 0 → (textD bs most).1 = [] ∧ (textD bs most).2.1 = 0) ∧ ((textD bs most).1.length : Int) ≤ max most 0 := by
  have hb := countD_bd bs most
  rcases h : countD bs most with ⟨v, n, e⟩
  rw [h] at hb
  rw [textD_of h]
  simp only at hb
  split
  · exact ⟨Nat.zero_le _, fun _ => ⟨rfl, rfl⟩, by show (0 : Int) ≤ _; omega⟩
  · split
    · exact ⟨Nat.zero_le _, fun _ => ⟨rfl, rfl⟩, by show (0 : Int) ≤ _; omega⟩
    · exact ⟨by show n + v ≤ _; omega, fun h => absurd rfl h, by simp only [List.length_take, List.length_drop]; omega⟩
theorem byteD_bd (bs : List UInt8) : (byteD bs).2.1 ≤ bs.length ∧ ((byteD bs).2.2 ≠ 0 → (byteD bs).1 = 0 ∧ (byteD bs).2.1 = 0) := by
  cases bs with
  | nil => simp [byteD]
  | cons c r => simp [byteD]
theorem wrap_u64_int {x : Int} (h0 : 0 ≤ x) (h1 : x < 18446744073709551616) : IntKind.u64.wrap x = x := by
  have := wrap_u64' (u := x.toNat) (by omega)
  rwa [Int.toNat_of_nonneg h0] at this
theorem max_in {x : Int} (h : InI x) : 0 ≤ max x 0 ∧ max x 0 < 9223372036854775808 := by
  obtain ⟨h1, h2⟩ := h
  omega
theorem step_pos {bs : List UInt8} {s : Rd} {n e : Nat} (hp : s.pos ≤ bs.length) (hn : n ≤ (bs.drop s.pos).length) : (s.step n e).pos ≤ bs.length := by
  rw [List.length_drop] at hn
  unfold Rd.step
  split
  · exact hp
  · split
    · exact hp
    · show s.pos + n ≤ _; omega
theorem rdOf_pos {α : Type} {bs : List UInt8} {d : α} {f : List UInt8 → α × Nat × Nat} {s : Rd} (hp : s.pos ≤ bs.length) (hf : ∀ l, (f l).2.1 ≤ l.length) : (rdOf bs d f s).2.pos ≤ bs.length := by
  rcases h : f (bs.drop s.pos) with ⟨x, n, e⟩
  have := hf (bs.drop s.pos)
  rw [h] at this
  simp only [rdOf, h]
  exact step_pos hp this
theorem rdNum_pos {bs : List UInt8} {s : Rd} (hp : s.pos ≤ bs.length) : (rdNum bs s).2.pos ≤ bs.length := rdOf_pos hp fun l => by have := (numD_bd l 0 0 (by decide) (by decide)).2.1; omega
theorem rdInt_pos {bs : List UInt8} {s : Rd} (hp : s.pos ≤ bs.length) : (rdInt bs s).2.pos ≤ bs.length := rdNum_pos hp
theorem rdByte_pos {bs : List UInt8} {s : Rd} (hp : s.pos ≤ bs.length) : (rdByte bs s).2.pos ≤ bs.length := rdOf_pos hp fun l => (byteD_bd l).1
theorem rdCount_pos {bs : List UInt8} {most : Int} {s : Rd} (hp : s.pos ≤ bs.length) : (rdCount bs most s).2.pos ≤ bs.length := rdOf_pos hp fun l => (countD_bd l most).2.1
theorem rdText_pos {bs : List UInt8} {most : Int} {s : Rd} (hp : s.pos ≤ bs.length) : (rdText bs most s).2.pos ≤ bs.length := rdOf_pos hp fun l => (textD_bd l most).1
theorem rdNum_lt (bs : List UInt8) (s : Rd) : (rdNum bs s).1 < 2 ^ 64 := by
  have := (numD_bd (bs.drop s.pos) 0 0 (by decide) (by decide)).1
  simp only [rdNum, rdOf, Rd.val]
  split
  · decide
  · split
    · decide
    · exact this
theorem rdInt_in (bs : List UInt8) (s : Rd) : InI (rdInt bs s).1 := zag_in (rdNum_lt bs s)
theorem rdText_len (bs : List UInt8) (s : Rd) : (rdText bs 16 s).1.length ≤ 16 := by
  have := (textD_bd (bs.drop s.pos) 16).2.2
  simp only [rdText, rdOf, Rd.val]
  split
  · exact Nat.zero_le _
  · split
    · exact Nat.zero_le _
    · omega
theorem rdCount_le (bs : List UInt8) (s : Rd) : (rdCount bs 64 s).1 ≤ 64 := by
  have := (countD_bd (bs.drop s.pos) 64).1
  simp only [rdCount, rdOf, Rd.val]
  split
  · exact Nat.zero_le _
  · split
    · exact Nat.zero_le _
    · omega
theorem toNat_ofNat {n : Nat} (h : n < 256) : (UInt8.ofNat n).toNat = n := by simp; omega
theorem or_128' (v : Nat) : bitV .or .u8 (IntKind.u8.wrap (v : Int)) 128 = ((UInt8.ofNat (v % 128 + 128)).toNat : Int) := by rw [or_128, toNat_ofNat (by omega)]
theorem wrap_u8' {v : Nat} (h : v < 256) : IntKind.u8.wrap (v : Int) = ((UInt8.ofNat v).toNat : Int) := by rw [wrap_u8, toNat_ofNat h, Nat.mod_eq_of_lt h]
theorem shl1 {y : Int} (h0 : 0 ≤ y) (h1 : y < 9223372036854775808) : IntKind.u64.wrap (y * 2 ^ min (1 : Int).toNat IntKind.u64.bits) = ((y.toNat * 2 : Nat) : Int) := by
  have := shl_k y.toNat 1 (by omega) (by decide)
  rw [Int.toNat_of_nonneg h0] at this
  exact this
theorem encNat_small {v : Nat} (h : v < 128) : encNat v = [UInt8.ofNat v] := by rw [encNat]; simp [h]
theorem encNat_big {v : Nat} (h : 128 ≤ v) : encNat v = UInt8.ofNat (v % 128 + 128) :: encNat (v / 128) := by
  rw [encNat]
  rw [dif_neg (by omega)]
theorem pow_step {v n : Nat} (h : 128 ≤ v) (hn : n ≤ 9) (hv : v < 2 ^ (64 - 7 * n)) : n + 1 ≤ 9 ∧ v / 128 < 2 ^ (64 - 7 * (n + 1)) := by
  have h : n = 0 ∨ n = 1 ∨ n = 2 ∨ n = 3 ∨ n = 4 ∨ n = 5 ∨ n = 6 ∨ n = 7 ∨ n = 8 ∨ n = 9 := by omega
  rcases h with rfl | rfl | rfl | rfl | rfl | rfl | rfl | rfl | rfl | rfl <;> simp only [Nat.reduceMul, Nat.reduceAdd, Nat.reduceSub, Nat.reducePow] at hv ⊢ <;> omega
theorem encNat_len : ∀ (n v : Nat), n ≤ 9 → v < 2 ^ (64 - 7 * (9 - n)) → (encNat v).length ≤ n + 1
  | n, v, hn, hv => by
    by_cases h : v < 128
    · rw [encNat_small h]; simp
    · have q := pow_step (v := v) (n := 9 - n) (by omega) (by omega) hv
      obtain ⟨m, rfl⟩ : ∃ m, n = m + 1 := ⟨n - 1, by omega⟩
      have := encNat_len m (v / 128) (by omega) (by rw [show 9 - m = 9 - (m + 1) + 1 by omega]; exact q.2)
      rw [encNat_big (by omega)]
      simp only [List.length_cons]
      omega
theorem encNat_le {v : Nat} (h : v < 2 ^ 64) : (encNat v).length ≤ 10 := encNat_len 9 v (by decide) h
theorem drop_two {α : Type} {xs ys : List α} {i : Nat} {a b : α} (ha : xs[i]? = some a) (hb : ys[i]? = some b) (h : xs.take i = ys.take i) (he : a = b) : xs.take (i + 1) = ys.take (i + 1) := by
  obtain ⟨h1, rfl⟩ := List.getElem?_eq_some_iff.1 ha
  obtain ⟨h2, rfl⟩ := List.getElem?_eq_some_iff.1 hb
  rw [List.take_succ_eq_append_getElem h1, List.take_succ_eq_append_getElem h2, h, he]
def evEq (a b : Ev) : Bool := decide (a.kind = b.kind) && decide (a.client = b.client) && decide (a.node = b.node) && decide (a.other = b.other) && decide (a.n = b.n) && decide (a.op = b.op) && decide (a.keep = b.keep)
theorem evCells_one (e : Ev) {k : Value} (hk : k.oneCell' = true) : (evCells e k).all (·.oneCell') = true := List.all_eq_true.2 (by
  intro u hu
  simp only [evCells, List.mem_cons, List.not_mem_nil, or_false] at hu
  rcases hu with rfl | rfl | rfl | rfl | rfl | rfl | rfl | rfl | rfl | rfl | rfl | rfl <;> first | rfl | exact hk)
theorem rdEvs_0 (bs : List UInt8) (s : Rd) : rdEvs bs 0 s = [] := rfl
theorem rdEvs_end {bs : List UInt8} {n : Nat} {s : Rd} (h : ¬ s.pos < bs.length) : rdEvs bs n s = [] := by
  cases n with
  | zero => rfl
  | succ n => simp only [rdEvs, if_neg h]
theorem rdEvs_bad {bs : List UInt8} {n : Nat} {s s' : Rd} {e : Ev} (h : s.pos < bs.length) (he : rdEv bs s = (e, s')) (hf : ¬ s'.fault = 0) : rdEvs bs n s = [] := by
  cases n with
  | zero => rfl
  | succ n => simp only [rdEvs, if_pos h, he, if_neg hf]
theorem rdEvs_more {bs : List UInt8} {n : Nat} {s s' : Rd} {e : Ev} (h : s.pos < bs.length) (he : rdEv bs s = (e, s')) (hf : s'.fault = 0) (hn : 0 < n) : rdEvs bs n s = e :: rdEvs bs (n - 1) s' := by
  cases n with
  | zero => omega
  | succ n => simp only [rdEvs, if_pos h, he, if_pos hf, Nat.add_sub_cancel]
theorem rdInts_pos {bs : List UInt8} : ∀ {n : Nat} {s : Rd}, s.pos ≤ bs.length → (rdInts bs n s).2.pos ≤ bs.length
  | 0, _, h => h
  | n + 1, s, h => rdInts_pos (n := n) (rdInt_pos h)
theorem rdOp_wf (bs : List UInt8) (s : Rd) : (rdOp bs s).1.wf ∧ (s.pos ≤ bs.length → (rdOp bs s).2.pos ≤ bs.length) := by
  rcases h1 : rdInt bs s with ⟨x1, s1⟩
  have i1 : InI x1 := by
    have := rdInt_in bs s
    rw [h1] at this
    exact this
  have p1 : s.pos ≤ bs.length → s1.pos ≤ bs.length := fun hp => by
    have := rdInt_pos (bs := bs) (hp)
    rw [h1] at this
    exact this
  rcases h2 : rdText bs 16 s1 with ⟨x2, s2⟩
  have i2 : (⟨x2.toArray⟩ : ByteArray).size ≤ 9223372036854775807 := by
    have := rdText_len bs s1
    rw [h2] at this
    have this : x2.length ≤ 16 := this
    show x2.toArray.size ≤ _
    simp only [List.size_toArray]
    omega
  have p2 : s.pos ≤ bs.length → s2.pos ≤ bs.length := fun hp => by
    have := rdText_pos (bs := bs) (most := 16) (p1 hp)
    rw [h2] at this
    exact this
  rcases h3 : rdText bs 16 s2 with ⟨x3, s3⟩
  have i3 : (⟨x3.toArray⟩ : ByteArray).size ≤ 9223372036854775807 := by
    have := rdText_len bs s2
    rw [h3] at this
    have this : x3.length ≤ 16 := this
    show x3.toArray.size ≤ _
    simp only [List.size_toArray]
    omega
  have p3 : s.pos ≤ bs.length → s3.pos ≤ bs.length := fun hp => by
    have := rdText_pos (bs := bs) (most := 16) (p2 hp)
    rw [h3] at this
    exact this
  rcases h4 : rdInt bs s3 with ⟨x4, s4⟩
  have i4 : InI x4 := by
    have := rdInt_in bs s3
    rw [h4] at this
    exact this
  have p4 : s.pos ≤ bs.length → s4.pos ≤ bs.length := fun hp => by
    have := rdInt_pos (bs := bs) (p3 hp)
    rw [h4] at this
    exact this
  rcases h5 : rdInt bs s4 with ⟨x5, s5⟩
  have i5 : InI x5 := by
    have := rdInt_in bs s4
    rw [h5] at this
    exact this
  have p5 : s.pos ≤ bs.length → s5.pos ≤ bs.length := fun hp => by
    have := rdInt_pos (bs := bs) (p4 hp)
    rw [h5] at this
    exact this
  rcases h6 : rdInt bs s5 with ⟨x6, s6⟩
  have i6 : InI x6 := by
    have := rdInt_in bs s5
    rw [h6] at this
    exact this
  have p6 : s.pos ≤ bs.length → s6.pos ≤ bs.length := fun hp => by
    have := rdInt_pos (bs := bs) (p5 hp)
    rw [h6] at this
    exact this
  simp only [rdOp, h1, h2, h3, h4, h5, h6]
  exact ⟨⟨i1, i2, i3, i4, i5, i6⟩, p6⟩
theorem none_wf : OpV.none.wf := ⟨⟨by decide, by decide⟩, by decide, by decide, ⟨by decide, by decide⟩, ⟨by decide, by decide⟩, ⟨by decide, by decide⟩⟩
theorem rdEv_wf' (bs : List UInt8) (s : Rd) : (rdEv bs s).1.wf ∧ (s.pos ≤ bs.length → (rdEv bs s).2.pos ≤ bs.length) := by
  rcases h1 : rdInt bs s with ⟨x1, s1⟩
  have i1 : InI x1 := by
    have := rdInt_in bs s
    rw [h1] at this
    exact this
  have p1 : s.pos ≤ bs.length → s1.pos ≤ bs.length := fun hp => by
    have := rdInt_pos (bs := bs) (hp)
    rw [h1] at this
    exact this
  rcases h2 : rdInt bs s1 with ⟨x2, s2⟩
  have i2 : InI x2 := by
    have := rdInt_in bs s1
    rw [h2] at this
    exact this
  have p2 : s.pos ≤ bs.length → s2.pos ≤ bs.length := fun hp => by
    have := rdInt_pos (bs := bs) (p1 hp)
    rw [h2] at this
    exact this
  rcases h3 : rdInt bs s2 with ⟨x3, s3⟩
  have i3 : InI x3 := by
    have := rdInt_in bs s2
    rw [h3] at this
    exact this
  have p3 : s.pos ≤ bs.length → s3.pos ≤ bs.length := fun hp => by
    have := rdInt_pos (bs := bs) (p2 hp)
    rw [h3] at this
    exact this
  rcases h4 : rdInt bs s3 with ⟨x4, s4⟩
  have i4 : InI x4 := by
    have := rdInt_in bs s3
    rw [h4] at this
    exact this
  have p4 : s.pos ≤ bs.length → s4.pos ≤ bs.length := fun hp => by
    have := rdInt_pos (bs := bs) (p3 hp)
    rw [h4] at this
    exact this
  rcases h5 : rdInt bs s4 with ⟨x5, s5⟩
  have i5 : InI x5 := by
    have := rdInt_in bs s4
    rw [h5] at this
    exact this
  have p5 : s.pos ≤ bs.length → s5.pos ≤ bs.length := fun hp => by
    have := rdInt_pos (bs := bs) (p4 hp)
    rw [h5] at this
    exact this
  simp only [rdEv, h1, h2, h3, h4, h5]
  split
  · have h := rdOp_wf bs s5
    rcases h6 : rdOp bs s5 with ⟨o, s6⟩
    rw [h6] at h
    exact ⟨⟨i1, i2, i3, i4, i5, h.1⟩, fun hp => h.2 (p5 hp)⟩
  · split
    · rcases h6 : rdCount bs 64 s5 with ⟨n, s6⟩
      rcases h7 : rdInts bs n s6 with ⟨l, s7⟩
      simp only [rdKeep, h6, h7]
      refine ⟨⟨i1, i2, i3, i4, i5, none_wf⟩, fun hp => ?_⟩
      have q6 := rdCount_pos (bs := bs) (most := 64) (p5 hp)
      rw [h6] at q6
      have q7 := rdInts_pos (bs := bs) (n := n) q6
      rw [h7] at q7
      exact q7
    · exact ⟨⟨i1, i2, i3, i4, i5, none_wf⟩, p5⟩
theorem rdEv_wf (bs : List UInt8) (s : Rd) : (rdEv bs s).1.wf := (rdEv_wf' bs s).1
theorem rdEv_pos {bs : List UInt8} {s : Rd} (h : s.pos ≤ bs.length) : (rdEv bs s).2.pos ≤ bs.length := (rdEv_wf' bs s).2 h
theorem encInt_le {x : Int} (h : InI x) : (encInt x).length ≤ 10 := encNat_le (zig_lt h)
theorem encInts_app (a b : List Int) : encInts (a ++ b) = encInts a ++ encInts b := by
  induction a with
  | nil => rfl
  | cons x r ih => simp only [List.cons_append, encInts, ih, List.append_assoc]
theorem encInts_take {xs : List Int} {i : Nat} {c : Int} (h : xs[i]? = some c) : encInts (xs.take (i + 1)) = encInts (xs.take i) ++ encInt c := by
  obtain ⟨hi, rfl⟩ := List.getElem?_eq_some_iff.1 h
  rw [List.take_succ_eq_append_getElem hi, encInts_app]
  simp only [encInts, List.append_nil]
theorem known_u8 {n : Int} (h : known n = true) : IntKind.u8.wrap n = ((UInt8.ofNat n.toNat).toNat : Int) := by
  have : n = 1 ∨ n = 3 ∨ n = 5 := by simpa [known, or_assoc] using h
  rcases this with rfl | rfl | rfl <;> decide
theorem evs_start (bs : List UInt8) (s : Rd) (N : Nat) : rdEvs bs N s = ([] : List Ev) ++ rdEvs bs (N - ([] : List Ev).length) s := by simp
theorem encInts_le : ∀ (l : List Int), (∀ x ∈ l, InI x) → (encInts l).length ≤ 10 * l.length
  | [], _ => by simp [encInts]
  | x :: r, h => by
    have h1 := encInt_le (h x (List.mem_cons_self ..))
    have h2 := encInts_le r fun y hy => h y (List.mem_cons_of_mem _ hy)
    simp only [encInts, List.length_append, List.length_cons]
    omega
theorem ints_in {S : Nat → Prop} {w : World} {v : Value} {xs : List Int} (h : Atom.holds ⟨v, xs⟩ S w) : ∀ x ∈ xs, InI x := by
  intro x hx
  obtain ⟨ha, A, cc, hsv, _, _, h3, h4⟩ := h
  obtain ⟨b, o, _, _, hi⟩ := h4 (List.ne_nil_of_mem hx)
  obtain ⟨i, hi'⟩ := List.getElem?_of_mem hx
  obtain ⟨ds, hr, _⟩ := hi i x hi'
  exact hr.2
theorem toList_size (b : ByteArray) : b.data.toList.length = b.size := Array.length_toList
theorem encText_le {b : ByteArray} (h : b.size ≤ 16) : (encText b.data.toList).length ≤ 26 := by
  unfold encText
  rw [List.length_append, toList_size]
  have := encNat_le (v := b.size) (by omega)
  omega
theorem encS_of {nodes : Int} {l : List Ev} (hk : known nodes = true) (hl : ¬ 4096 < l.length) : encS nodes l = match encL [UInt8.ofNat nodes.toNat] l with
    | none => ([], 22)
    | some b => (b, 0) := by
  unfold encS
  rw [if_neg (by rw [hk]; decide), if_neg hl]
  rfl
theorem encL_big {acc : List UInt8} {l : List Ev} {i : Nat} {e : Ev} (he : l[i]? = some e) (hb : evBig e = true) : encL acc (l.drop i) = none := by
  rw [drop_at he]
  simp only [encL, hb, if_true]
theorem encL_step {acc acc' : List UInt8} {l : List Ev} {i : Nat} {e : Ev} (he : l[i]? = some e) (hb : evBig e = false) (hx : acc' = acc ++ encEv e) : encL acc (l.drop i) = encL acc' (l.drop (i + 1)) := by
  rw [drop_at he, hx]
  simp only [encL, hb, Bool.false_eq_true, if_false]
theorem encEv_le {e : Ev} (hw : e.wf) (hk : ∀ x ∈ e.keep, InI x) (hb : evBig e = false) : (encEv e).length ≤ 750 := by
  obtain ⟨i1, i2, i3, i4, i5, o1, o2, o3, o4, o5, o6⟩ := hw
  have hb' : e.op.key.size ≤ 16 ∧ e.op.other.size ≤ 16 ∧ e.keep.length ≤ 64 := by
    simp only [evBig, Bool.or_eq_false_iff, decide_eq_false_iff_not] at hb
    omega
  have a5 := encInts_le [e.kind, e.client, e.node, e.other, e.n] (fun x hx => by
    simp only [List.mem_cons, List.not_mem_nil, or_false] at hx
    rcases hx with rfl | rfl | rfl | rfl | rfl <;> assumption)
  have a1 := encInts_le [e.op.kind] (fun x hx => by
    simp only [List.mem_cons, List.not_mem_nil, or_false] at hx
    rcases hx with rfl; assumption)
  have a3 := encInts_le [e.op.n, e.op.lo, e.op.hi] (fun x hx => by
    simp only [List.mem_cons, List.not_mem_nil, or_false] at hx
    rcases hx with rfl | rfl | rfl <;> assumption)
  have t1 := encText_le hb'.1
  have t2 := encText_le hb'.2.1
  have ak := encInts_le e.keep hk
  have an := encNat_le (v := e.keep.length) (by omega)
  simp only [List.length_cons, List.length_nil] at a5 a1 a3
  unfold encEv
  rw [List.length_append]
  split
  · simp only [List.length_append]; omega
  · split
    · simp only [List.length_append]; omega
    · simp only [List.length_nil]; omega
/-- A reader, as a thing of one's own: its bytes' value, where it stands. -/
@[reducible] def rdr (p : Nat) (bv : Value) (s : Rd) : OwnE := bl p 54 [bv, .int .i64 (s.pos : Int), .int .i64 (s.fault : Int)]
@[reducible] def stepTup (n e : Nat) : Value := .tuple #[.int .i64 (n : Int), .int .i64 (e : Int)]
end Go.Ytcjaodddckbciaa
