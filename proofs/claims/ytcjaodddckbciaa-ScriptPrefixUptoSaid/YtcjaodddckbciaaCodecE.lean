/- Bytes that go on read as the bytes did, up to the fault. No program. -/
import Derived.Test.YtcjaodddckbciaaCodecD
namespace Go.Ytcjaodddckbciaa
open Go.Eng

theorem numD_pre (ex : List UInt8) : ∀ (l : List UInt8) (i v : Nat), (numD i v l).2.2 = 0 → numD i v (l ++ ex) = numD i v l
  | [], i, v, h => by simp [numD] at h
  | c :: r, i, v, h => by
    simp only [numD, List.cons_append] at h ⊢
    by_cases h1 : i = 9 ∧ 1 < c.toNat
    · rw [if_pos h1, if_pos h1]
    · rw [if_neg h1] at h ⊢
      rw [if_neg h1]
      by_cases h2 : 128 ≤ c.toNat
      · rw [if_pos h2] at h ⊢
        rw [if_pos h2]
        exact numD_pre ex r _ _ h
      · rw [if_neg h2, if_neg h2]
theorem countD_pre (ex : List UInt8) (most : Int) (l : List UInt8) (h : (countD l most).2.2 = 0) : countD (l ++ ex) most = countD l most := by
  rcases hN : numD 0 0 l with ⟨v, n, e⟩
  have he : e = 0 := by
    rw [countD_of hN] at h
    split at h
    · cases h
    · split at h
      · exact h
      · omega
  have := numD_pre ex l 0 0 (by rw [hN]; exact he)
  rw [countD_of hN, countD_of (this.trans hN)]
theorem textD_pre (ex : List UInt8) (most : Int) (l : List UInt8) (h : (textD l most).2.2 = 0) : textD (l ++ ex) most = textD l most := by
  rcases hN : countD l most with ⟨v, n, e⟩
  have he : e = 0 ∧ ¬ l.length < n + v := by
    rw [textD_of hN] at h
    split at h
    · exact absurd h (by assumption)
    · split at h
      · cases h
      · exact ⟨by omega, by assumption⟩
  have := countD_pre ex most l (by rw [hN]; exact he.1)
  rw [textD_of hN, textD_of (this.trans hN)]
  have hl : (l ++ ex).length = l.length + ex.length := List.length_append
  obtain ⟨rfl, hne⟩ := he
  rw [if_neg (by simp), if_neg (by omega), if_neg (by simp), if_neg hne]
  rw [List.drop_append_of_le_length (by omega), List.take_append_of_le_length (by rw [List.length_drop]; omega)]
theorem byteD_pre (ex : List UInt8) (l : List UInt8) (h : (byteD l).2.2 = 0) : byteD (l ++ ex) = byteD l := by
  cases l with
  | nil => cases h
  | cons c r => rfl

/-- A reading of bs stays inside; and where it is at no fault it is the same of what goes on. -/
def Pre {α : Type} (bs ex : List UInt8) (r : List UInt8 → Rdg α) : Prop :=
  ∀ s : Rd, s.pos ≤ bs.length → (r bs s).2.pos ≤ bs.length ∧ ((r bs s).2.fault = 0 → s.fault = 0 ∧ r (bs ++ ex) s = r bs s)
variable {bs ex : List UInt8} {α β : Type}
theorem Pre.of {d : α} {f : List UInt8 → α × Nat × Nat} (hf : ∀ l, (f l).2.2 = 0 → f (l ++ ex) = f l) (hn : ∀ l, (f l).2.1 ≤ l.length) : Pre bs ex (fun b => rdOf b d f) := by
  intro s hp
  refine ⟨rdOf_pos hp hn, fun h => ?_⟩
  rcases hN : f (bs.drop s.pos) with ⟨x, n, e⟩
  have h0 : s.fault = 0 ∧ e = 0 := by
    simp only [rdOf, hN] at h
    unfold Rd.step at h
    split at h
    · exact absurd h (by assumption)
    · split at h
      · exact absurd h (by assumption)
      · exact ⟨h, by omega⟩
  have := hf (bs.drop s.pos) (by rw [hN]; exact h0.2)
  refine ⟨h0.1, ?_⟩
  simp only [rdOf, List.drop_append_of_le_length hp, this]
theorem Pre.bind {r : List UInt8 → Rdg α} {k : α → List UInt8 → Rdg β} (hr : Pre bs ex r) (hk : ∀ x, Pre bs ex (k x)) : Pre bs ex (fun b s => k (r b s).1 b (r b s).2) := by
  intro s hp
  obtain ⟨p1, q1⟩ := hr s hp
  obtain ⟨p2, q2⟩ := hk (r bs s).1 (r bs s).2 p1
  refine ⟨p2, fun h => ?_⟩
  obtain ⟨f1, e2⟩ := q2 h
  obtain ⟨f0, e1⟩ := q1 f1
  refine ⟨f0, ?_⟩
  show k (r (bs ++ ex) s).1 (bs ++ ex) (r (bs ++ ex) s).2 = _
  rw [e1]
  exact e2
theorem Pre.pure (x : α) : Pre bs ex (fun _ s => (x, s)) := fun _ hp => ⟨hp, fun h => ⟨h, rfl⟩⟩
theorem Pre.ite {c : Prop} [Decidable c] {a b : List UInt8 → Rdg α} (h1 : Pre bs ex a) (h2 : Pre bs ex b) : Pre bs ex (fun x s => if c then a x s else b x s) := by
  by_cases h : c
  · simpa only [h, if_true] using h1
  · simpa only [h, if_false] using h2
theorem Pre.congr {r r' : List UInt8 → Rdg α} (h : Pre bs ex r) (e : ∀ b s, r b s = r' b s) : Pre bs ex r' := by
  have : r = r' := funext fun b => funext fun s => e b s
  exact this ▸ h

theorem pre_num : Pre bs ex rdNum := (Pre.of (fun l => numD_pre ex l 0 0) (fun l => by have := (numD_bd l 0 0 (by decide) (by decide)).2.1; omega) : Pre bs ex (fun b => rdOf b 0 (numD 0 0)))
theorem pre_int : Pre bs ex rdInt := Pre.congr (Pre.bind pre_num fun x => Pre.pure (zag x)) fun _ _ => rfl
theorem pre_count : Pre bs ex (fun b => rdCount b 64) := (Pre.of (fun l => countD_pre ex 64 l) (fun l => (countD_bd l 64).2.1) : Pre bs ex (fun b => rdOf b 0 (fun l => countD l 64)))
theorem pre_text : Pre bs ex (fun b => rdText b 16) := (Pre.of (fun l => textD_pre ex 16 l) (fun l => (textD_bd l 16).1) : Pre bs ex (fun b => rdOf b [] (fun l => textD l 16)))
theorem pre_ints : ∀ n : Nat, Pre bs ex (fun b => rdInts b n)
  | 0 => Pre.pure []
  | n + 1 => Pre.congr (Pre.bind pre_int fun x => Pre.bind (pre_ints n) fun l => Pre.pure (x :: l)) fun _ _ => rfl
theorem pre_keep : Pre bs ex rdKeep := Pre.congr (Pre.bind pre_count fun c => pre_ints c) fun _ _ => rfl
theorem pre_op : Pre bs ex rdOp :=
  Pre.congr (Pre.bind pre_int fun k => Pre.bind pre_text fun key => Pre.bind pre_text fun other => Pre.bind pre_int fun n => Pre.bind pre_int fun lo => Pre.bind pre_int fun hi =>
    Pre.pure (⟨k, ⟨key.toArray⟩, ⟨other.toArray⟩, n, lo, hi⟩ : OpV)) fun b s => by
    rcases h1 : rdInt b s with ⟨k, s1⟩
    rcases h2 : rdText b 16 s1 with ⟨key, s2⟩
    rcases h3 : rdText b 16 s2 with ⟨other, s3⟩
    rcases h4 : rdInt b s3 with ⟨n, s4⟩
    rcases h5 : rdInt b s4 with ⟨lo, s5⟩
    rcases h6 : rdInt b s5 with ⟨hi, s6⟩
    simp only [rdOp, h1, h2, h3, h4, h5, h6]
theorem pre_ev : Pre bs ex rdEv :=
  Pre.congr (Pre.bind pre_int fun k => Pre.bind pre_int fun c => Pre.bind pre_int fun d => Pre.bind pre_int fun o => Pre.bind pre_int fun n =>
    Pre.ite (c := k = 1) (Pre.bind pre_op fun op => Pre.pure (⟨k, c, d, o, n, op, []⟩ : Ev))
      (Pre.ite (c := keeps k = true) (Pre.bind pre_keep fun l => Pre.pure (⟨k, c, d, o, n, OpV.none, l⟩ : Ev)) (Pre.pure (⟨k, c, d, o, n, OpV.none, []⟩ : Ev)))) fun b s => by
    rcases h1 : rdInt b s with ⟨k, s1⟩
    rcases h2 : rdInt b s1 with ⟨c, s2⟩
    rcases h3 : rdInt b s2 with ⟨d, s3⟩
    rcases h4 : rdInt b s3 with ⟨o, s4⟩
    rcases h5 : rdInt b s4 with ⟨n, s5⟩
    simp only [rdEv, h1, h2, h3, h4, h5]

theorem rdEvs_pre : ∀ (f : Nat) (s : Rd), s.pos ≤ bs.length → ∃ r, rdEvs (bs ++ ex) f s = rdEvs bs f s ++ r
  | 0, s, _ => ⟨[], rfl⟩
  | f + 1, s, hp => by
    by_cases hlt : s.pos < bs.length
    · obtain ⟨p, q⟩ := pre_ev (bs := bs) (ex := ex) s hp
      by_cases hf : (rdEv bs s).2.fault = 0
      · obtain ⟨_, e⟩ := q hf
        obtain ⟨r, hr⟩ := rdEvs_pre f (rdEv bs s).2 p
        refine ⟨r, ?_⟩
        rw [rdEvs_more hlt (rfl : rdEv bs s = ((rdEv bs s).1, (rdEv bs s).2)) hf (Nat.succ_pos f)]
        rw [rdEvs_more (by rw [List.length_append]; omega) (e : rdEv (bs ++ ex) s = ((rdEv bs s).1, (rdEv bs s).2)) hf (Nat.succ_pos f)]
        show (rdEv bs s).1 :: rdEvs (bs ++ ex) f (rdEv bs s).2 = (rdEv bs s).1 :: rdEvs bs f (rdEv bs s).2 ++ r
        rw [hr]
        rfl
      · rw [rdEvs_bad hlt (rfl : rdEv bs s = ((rdEv bs s).1, (rdEv bs s).2)) hf]
        exact ⟨_, rfl⟩
    · rw [rdEvs_end hlt]
      exact ⟨_, rfl⟩

theorem rdByte_cons (c : UInt8) (r : List UInt8) : rdByte (c :: r) ⟨0, 0⟩ = (c, ⟨1, 0⟩) := rfl
theorem decS_of {bs : List UInt8} {c : UInt8} {s : Rd} (h : rdByte bs ⟨0, 0⟩ = (c, s)) : decS bs = (if known c.toNat = true then (c.toNat : Int) else 3, rdEvs bs 4096 s) := by simp only [decS, h]
theorem decS_cons (c : UInt8) (r : List UInt8) : decS (c :: r) = (if known c.toNat = true then (c.toNat : Int) else 3, rdEvs (c :: r) 4096 ⟨1, 0⟩) := decS_of (rdByte_cons c r)
theorem rdByte_nil : rdByte [] ⟨0, 0⟩ = (0, ⟨0, 20⟩) := rfl
theorem decS_nil : decS [] = (3, []) := by
  rw [decS_of rdByte_nil, rdEvs_end (by simp), if_neg (by decide)]
theorem decS_pre {n m : Int} {l x : List Ev} (hb : bs ≠ []) (h1 : decS bs = (n, l)) (h2 : decS (bs ++ ex) = (m, x)) : m = n ∧ ∃ r, x = l ++ r := by
  cases bs with
  | nil => exact absurd rfl hb
  | cons c r =>
    rw [List.cons_append, decS_cons] at h2
    rw [decS_cons] at h1
    obtain ⟨q, hq⟩ := rdEvs_pre (bs := c :: r) (ex := ex) 4096 ⟨1, 0⟩ (by simp)
    rw [List.cons_append] at hq
    rw [hq] at h2
    simp only [Prod.mk.injEq] at h1 h2
    exact ⟨h2.1.symm.trans h1.1, q, by rw [← h2.2, h1.2]⟩
theorem decS_known {n : Int} {l : List Ev} (h : decS bs = (n, l)) : n = 1 ∨ n = 3 ∨ n = 5 := by
  rcases hc : rdByte bs ⟨0, 0⟩ with ⟨c, s⟩
  simp only [decS, hc, Prod.mk.injEq] at h
  obtain ⟨h, _⟩ := h
  by_cases hk : known c.toNat = true
  · rw [if_pos hk] at h
    simp only [known, Bool.or_eq_true, decide_eq_true_eq] at hk
    omega
  · rw [if_neg hk] at h
    omega
theorem rdOp_keys (bs : List UInt8) (s : Rd) : (rdOp bs s).1.key.size ≤ 16 ∧ (rdOp bs s).1.other.size ≤ 16 := by
  rcases h1 : rdInt bs s with ⟨k, s1⟩
  rcases h2 : rdText bs 16 s1 with ⟨key, s2⟩
  rcases h3 : rdText bs 16 s2 with ⟨other, s3⟩
  have l2 := rdText_len bs s1
  have l3 := rdText_len bs s2
  rw [h2] at l2
  rw [h3] at l3
  simp only [rdOp, h1, h2, h3]
  exact ⟨by show key.toArray.size ≤ 16; simpa using l2, by show other.toArray.size ≤ 16; simpa using l3⟩
theorem rdEv_keys (bs : List UInt8) (s : Rd) : (rdEv bs s).1.op.key.size ≤ 16 ∧ (rdEv bs s).1.op.other.size ≤ 16 := by
  rcases h1 : rdInt bs s with ⟨k, s1⟩
  rcases h2 : rdInt bs s1 with ⟨c, s2⟩
  rcases h3 : rdInt bs s2 with ⟨d, s3⟩
  rcases h4 : rdInt bs s3 with ⟨o, s4⟩
  rcases h5 : rdInt bs s4 with ⟨n, s5⟩
  have q := rdOp_keys bs s5
  rcases h6 : rdOp bs s5 with ⟨op, s6⟩
  rcases h7 : rdKeep bs s5 with ⟨l, s7⟩
  rw [h6] at q
  simp only [rdEv, h1, h2, h3, h4, h5, h6, h7]
  split
  · exact q
  · split
    · exact ⟨Nat.zero_le _, Nat.zero_le _⟩
    · exact ⟨Nat.zero_le _, Nat.zero_le _⟩
theorem rdEvs_keys (bs : List UInt8) : ∀ (f : Nat) (s : Rd), ∀ e ∈ rdEvs bs f s, e.op.key.size ≤ 16 ∧ e.op.other.size ≤ 16
  | 0, s => by intro e h; cases h
  | f + 1, s => by
    by_cases hlt : s.pos < bs.length
    · by_cases hf : (rdEv bs s).2.fault = 0
      · rw [rdEvs_more hlt (rfl : rdEv bs s = ((rdEv bs s).1, (rdEv bs s).2)) hf (Nat.succ_pos f)]
        intro e h
        rcases List.mem_cons.1 h with rfl | h
        · exact rdEv_keys bs s
        · exact rdEvs_keys bs f _ e h
      · rw [rdEvs_bad hlt (rfl : rdEv bs s = ((rdEv bs s).1, (rdEv bs s).2)) hf]
        intro e h
        cases h
    · rw [rdEvs_end hlt]
      intro e h
      cases h
theorem decS_keys {n : Int} {l : List Ev} (h : decS bs = (n, l)) : ∀ e ∈ l, e.op.key.size ≤ 16 ∧ e.op.other.size ≤ 16 := by
  rcases hc : rdByte bs ⟨0, 0⟩ with ⟨c, s⟩
  simp only [decS, hc, Prod.mk.injEq] at h
  obtain ⟨_, rfl⟩ := h
  exact rdEvs_keys bs 4096 s

@[reducible] def opShape : Shape OpV where
  H := Unit
  size := 6
  cells o _ := opCells o
  sub _ _ := []
  wf := OpV.wf
  len _ _ := rfl
  one := by
    intro S w x h ht u hu
    simp only [opCells, List.mem_cons, List.not_mem_nil, or_false] at hu
    rcases hu with rfl | rfl | rfl | rfl | rfl | rfl <;> rfl
@[reducible] instance repOp : Rep OpV := Rep.ofShape opShape
theorem ev_op {ov : Ev} : ∀ (S : Nat → Prop) (w : World) (cs : List Value), repEv.rd S w cs ov → repOp.rd S w ((cs.drop 5).take 6) ov.op := by
  rintro S w cs ⟨h, rfl, _, hw⟩
  exact ⟨(), rfl, by simp, hw.2.2.2.2.2⟩
theorem op_key {o : OpV} : ∀ (S : Nat → Prop) (w : World) (cs : List Value), repOp.rd S w cs o → repStr.rd S w ((cs.drop 1).take 1) o.key := by
  rintro S w cs ⟨h, rfl, _, hw⟩
  exact ⟨rfl, hw.2.1⟩
theorem op_other {o : OpV} : ∀ (S : Nat → Prop) (w : World) (cs : List Value), repOp.rd S w cs o → repStr.rd S w ((cs.drop 2).take 1) o.other := by
  rintro S w cs ⟨h, rfl, _, hw⟩
  exact ⟨rfl, hw.2.2.1⟩
end Go.Ytcjaodddckbciaa
