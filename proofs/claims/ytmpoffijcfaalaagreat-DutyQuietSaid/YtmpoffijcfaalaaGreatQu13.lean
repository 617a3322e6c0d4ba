/- Part 13 of the proof of dutyQuiet_holds: Eng22, Eng23, DutWB, DutQ, DutW3. Every text below begins with what it shows. -/
import Derived.Test.YtmpoffijcfaalaaGreatQu12

/- A loop whose rounds begin in worlds of their own. Generic: no program. -/

namespace Go.Eng
theorem Stp.grown {w w' : World} (h : Stp [] w w') : w.grownBy w' none := ⟨h.os, h.tape, h.output, h.size, fun k hk _ => h.block k hk (by simp)⟩
section
variable {c : Cx} {Q : Exit → Act → World → Prop} {env : Env} {L : Own} {D : List Atom} {x : Code}
/-- The loop: states σ; what holds of the world where a round begins. -/
theorem lpW {σ : Type} (E : σ → Env) (Ψ : σ → World → Prop) (μ : σ → Nat) (s0 : σ) (hE : Sub (E s0) env) (h0 : ∀ w, St c.w0 c.M w L → DH D w L → Ψ s0 w)
    (body : ∀ s w, Ψ s w → ∀ a, Fr c.n a (E s) → Code.wp c.P x (Exit.then (fun a w' => ∃ s', μ s' < μ s ∧ Fr c.n a (E s') ∧ Ψ s' w') Q) a w) : WC c (.loop x) Q env L D := by
  intro a w f st d
  have key : ∀ (m : Nat) (s : σ), μ s = m → ∀ w, Ψ s w → ∀ a, Fr c.n a (E s) →
      ∀ (b : Frame) (k : List Item) (cs : List Frame), ∃ e a' w', Q e a' w' ∧ Arrives c.P (lone (b.at a (.code x :: .inLoop x :: k)) cs w) b k cs e a' w' := by
    intro m
    induction m using Nat.strongRecOn with
    | _ m ih =>
      intro s hm w hΨ a f b k cs
      obtain ⟨e, a₁, w₁, hq, harr⟩ := body s w hΨ a f b (.inLoop x :: k) cs
      cases e with
      | normal =>
        obtain ⟨s', hlt, f', h'⟩ := hq
        obtain ⟨e₂, a₂, w₂, hq₂, harr₂⟩ := ih (μ s') (hm ▸ hlt) s' rfl w₁ h' a₁ f' b k cs
        exact ⟨e₂, a₂, w₂, hq₂, .of_steps (Steps.trans harr (.one step_inLoop)) harr₂⟩
      | exit id => exact ⟨_, a₁, w₁, hq, .pass (x := .inLoop x) rfl (fun _ _ => .inl (by simp)) harr⟩
      | goto l => exact ⟨_, a₁, w₁, hq, .pass (x := .inLoop x) rfl (fun _ _ => .inl (by simp)) harr⟩
      | ret => exact ⟨_, a₁, w₁, hq, .pass (x := .inLoop x) rfl (fun _ _ => .inl (by simp)) harr⟩
      | panic ch => exact ⟨_, a₁, w₁, hq, .pass (x := .inLoop x) rfl (fun _ _ => .inl (by simp)) harr⟩
      | outgrown => exact ⟨_, a₁, w₁, hq, .pass (x := .inLoop x) rfl (fun _ _ => .inl (by simp)) harr⟩
  intro b k cs
  obtain ⟨e, a', w', hq, harr⟩ := key _ s0 rfl w (h0 w st d) a (f.sub hE) b k cs
  exact ⟨e, a', w', hq, .of_steps (.one step_loop) harr⟩
/-- A call of the round of a range over a function. -/
theorem run_round {P : Program} {ρ : Operand → Value} {o : Oper} {x : Operand} {xs : List Operand} {ats : Array TypeId} {l : Nat} {vs : List Value} {fn : FuncId} {tmps : Array Value} {assign body : Code} (ho : o.op = .call { callee := .value x, args := xs.toArray, argTypes := ats })
    (hx : ρ x = .func (.yield l) #[] #[]) (hxs : xs.map ρ = vs) {w : World} (hy : (Instr.yield l vs.toArray).run P w = .ok (.round l fn tmps assign body) w) : (execOp ρ o).run P w = .ok (.round l fn tmps assign body) w := by
  subst hxs
  simp only [execOp, ho, resolve, Deferred.ofValue, hx, invoke, List.map_toArray, Sem.run_bind, Sem.run_pure, Result.andThen_ok]
  simpa using hy
theorem wpOpIn_plain {F : Fence} {n : Nat} {P : Program} {ops : Array Oper} {Q : Exit → Act → World → Prop} {i : Nat} {K : Act → World → Prop} {a : Act} {w : World} {o : Oper} (ho : ops[i]? = some o) (hg : o.guard = none) (h : o.wpIn F n P a w K Q) : wpOpIn F n P ops Q i K a w := by
  unfold wpOpIn
  rw [ho]
  simp only
  rw [if_pos]
  · exact h
  · unfold Region.wanted
    rw [hg]
theorem not_in {F : Fence} {n : Nat} {P : Program} {o : Oper} {a : Act} {w : World} {K : Act → World → Prop} {Q : Exit → Act → World → Prop} {xt : TypeId} {x : Operand} {b : Bool} (hro : F.round = none) (ho : o.op = .unOp .not xt x) (hx : a.eval x = .bool b) (hF : ∀ f, F.fn f) (h : K (a.put o.dst (.bool (!b))) w) : o.wpIn F n P a w K Q := by
  refine ⟨fun f _ => hF f, ?_⟩
  rw [hro, Oper.semAt_none]
  have : (execOp a.eval o).run P w = .ok (.value (.bool (!b))) w := by simp [execOp, ho, hx, Op.unary]
  rw [this]
  exact h
theorem round_in {F : Fence} {n : Nat} {P : Program} {o : Oper} {a : Act} {w : World} {K : Act → World → Prop} {Q : Exit → Act → World → Prop} {l : Nat} {fn : FuncId} {tmps : Array Value} {assign body : Code} (hro : F.round = none) (hd : F.depth = none) (hF : ∀ f, F.fn f)
    (hrun : (execOp a.eval o).run P w = .ok (.round l fn tmps assign body) w) (h : RoundIn F (n - 1) P l fn tmps assign body w (fun e w'' => ∃ v, e = .returned v ∧ K (a.put o.dst v) w'')) : o.wpIn F n P a w K Q := by
  refine ⟨fun f _ => hF f, ?_⟩
  rw [hro, Oper.semAt_none, hrun]
  refine ⟨(fun h => by rw [hd] at h; cases h), h.mono ?_⟩
  rintro e w'' ⟨v, rfl, hk⟩
  exact hk
end
end Go.Eng

/- A range over a function, on the caller's side: its rounds, its mark. Generic: no program. -/

namespace Go.Eng
open Go.RowKit
/-- What a round keeps: everything that lay there, but one block. -/
structure KB (n₀ b : Nat) (A B : World) : Prop where
  size : A.heap.size ≤ B.heap.size
  block : ∀ k, k < n₀ → k ≠ b → B.heap[k]? = A.heap[k]?
theorem KB.refl {n₀ b : Nat} {A : World} : KB n₀ b A A := ⟨Nat.le_refl _, fun _ _ _ => rfl⟩
theorem KB.trans {n₀ b : Nat} {A B C : World} (h : KB n₀ b A B) (k : KB n₀ b B C) : KB n₀ b A C := ⟨Nat.le_trans h.size k.size, fun i hi hb => (k.block i hi hb).trans (h.block i hi hb)⟩
theorem Below.kb {n₀ b : Nat} {A B : World} (h : Below n₀ A B) : KB n₀ b A B := ⟨h.size, fun k hk _ => h.block k hk⟩
theorem Stp.kb {n₀ b : Nat} {M : List Nat} {A B : World} (h : Stp M A B) (hn : n₀ ≤ A.heap.size) (hM : ∀ k, k < n₀ → k ∈ M → k = b) : KB n₀ b A B :=
  ⟨h.size, fun k hk hb => h.block k (Nat.lt_of_lt_of_le hk hn) (fun hm => hb (hM k hk hm))⟩
theorem KB.putObj {n₀ b l : Nat} {W : World} {o : Obj} (hl : n₀ ≤ l) : KB n₀ b W (W.putObj l o) :=
  ⟨by simp [World.putObj], fun k hk _ => World.putObj_heap_other (by omega)⟩
theorem wpListIn_inRound {l n : Nat} {P : Program} {ops : Array Oper} {Q : Exit → Act → World → Prop} (hQ : ∀ e a w, Q e a w → e = .normal) : ∀ (rest : List Oper), rest.all (fun o => match o.op with | .defer _ => false | _ => true) = true → ∀ a w, wpList P ops Q rest a w → wpListIn (Fence.wide.inRound l) n P ops Q rest a w
  | [], _, _, _, h => h
  | o :: rest, hd, a, w, h => by
    simp only [List.all_cons, Bool.and_eq_true] at hd
    have ih := wpListIn_inRound (l := l) (n := n) (P := P) (ops := ops) hQ rest hd.2
    have hnd : ∀ c, o.op ≠ .defer c := fun c e => by rw [e] at hd; cases hd.1
    have hno : ¬ LetsOut Q := by
      rintro ⟨a', w', h⟩
      cases hQ _ _ _ h
    unfold wpList at h
    unfold wpListIn
    by_cases hw : Region.wanted o (yielded ops a.tmps) = true
    · rw [if_pos hw] at h ⊢
      have h := h.elim id fun h => absurd h.2 hno
      refine ⟨fun _ _ => trivial, ?_⟩
      unfold Oper.wp at h
      have hs : Oper.semAt (Fence.wide.inRound l).round a.eval o = execOp a.eval o := Oper.semAt_some l _ _ hnd
      rw [hs]
      generalize (execOp a.eval o).run P w = r at *
      cases r with
      | ok nx w' =>
        cases nx <;> simp only [Oper.upon, Oper.uponIn] at h ⊢ <;> try exact h
        · exact ih _ _ h
        · exact ih _ _ h
        · refine ⟨(fun hd => by cases hd), CallsIn.inRound l (callsIn_wide.2 (Calls.mono h fun e w'' he => ?_))⟩
          cases e with
          | returned v => exact ih _ _ he
          | panicked ch => exact absurd (hQ _ _ _ he) (by intro h; cases h)
          | outgrown => exact absurd he hno
        · exact ih _ _ h
        · exact ⟨(fun hd => by cases hd), fun c cs _ => by obtain ⟨v, w', hR, hs⟩ := h c cs; exact ⟨v, w', ih _ _ hR, stepsIn_wide.2 hs⟩⟩
      | halt x w' => cases x <;> simp only [Oper.upon, Oper.uponIn] at h ⊢ <;> exact h
    · rw [if_neg hw] at h ⊢
      exact ⟨fun _ _ => trivial, ih _ _ h⟩
/-- A block of a round that runs through. -/
theorem round_region {l n id : Nat} {P : Program} {ops : List Oper} {Q : Exit → Act → World → Prop} {K : Act → World → Prop} {a : Act} {w : World} (hd : ops.all (fun o => match o.op with | .defer _ => false | _ => true) = true) (hK : ∀ a w, K a w → Q .normal a w)
    (h : wpList P ops.toArray (fun e a w => e = .normal ∧ K a w) ops a w) : (Code.region id ops.toArray false).wpIn (Fence.wide.inRound l) n P Q a w :=
  Code.wpIn_mono (fun e a w h => by obtain ⟨rfl, h⟩ := h; exact hK _ _ h) (wpIn_region_lit (wpListIn_inRound (fun _ _ _ h => h.1) ops hd a w h))
theorem Fr.round2 {n : Nat} {a : Act} {env : Env} (f : Fr n a env) {p q : Nat} (hp : p < n) (hq : q < n) (u v : Value) :
    Fr n { tmps := ((#[p, q] : Array Tmp).zip #[u, v]).foldl (fun t (p, v) => t.setIfInBounds p v) a.tmps, defers := [] } ((q, v) :: (p, u) :: env) := by
  have h := (f.put (d := p) u hp).put (d := q) v hq
  have e : (a.put (some p) u).put (some q) v = { tmps := (a.tmps.setIfInBounds p u).setIfInBounds q v, defers := [] } := by
    simp [Act.put, f.dn]
  rw [e] at h
  simpa using h
theorem wpList_val {P : Program} {ops : Array Oper} {Q : Exit → Act → World → Prop} {rest : List Oper} {o : Oper} {a : Act} {w : World} {v : Value} (hg : o.guard = none) (hrun : (execOp a.eval o).run P w = .ok (.value v) w) (h : wpList P ops Q rest (a.put o.dst v) w) : wpList P ops Q (o :: rest) a w := by
  refine wpList_plain hg fun K hK => ?_
  unfold Oper.wp
  rw [hrun]
  exact hK _ _ h
theorem enterM {P : Program} {f : FuncId} {fn : Func} {x : Code} {args : List Value} {w : World} {Φ : Value → World → Prop} (m : Nat) (M : List Nat) (L : Go.Eng.Own) (D : List Atom)
    (hf : P.funcs[f]? = some fn) (hb : fn.body = some x) (n : Nat) (hn : n = fn.ntmps) (hargs : args.length ≤ n) (hst : St w M w L) (hd : DH D w L)
    (h : WC ⟨P, n, w, M⟩ x (bodyPostM Fence.wide m P fn fun e w' => ∃ v, e = .returned v ∧ Φ v w') (ent 0 args) L D) : Ret P f args w Φ := by
  subst hn
  refine (callsIn_wide (n := m)).1 (callsIn_of_wp_marks hf hb trivial (wpIn_wide.2 (h _ w ⟨?_, rfl, ?_⟩ hst hd)))
  · simp; omega
  · intro i v hi
    obtain ⟨_, hi⟩ := lk_ent args 0 i v hi
    have : i < args.length := (List.getElem?_eq_some_iff.1 hi).1
    simp only [Nat.sub_zero] at hi
    rw [Array.getElem?_append_left (by simpa using this)]
    simpa using hi
/-- The contract of a function that leaves a mark and hands back a value. -/
theorem FnV.proofM {P : Program} {f : FuncId} {fn : Func} {x : Code} {args : List Value} {As : List Atom} {u : Value} (m : Nat)
    (hf : P.funcs[f]? = some fn) (hb : fn.body = some x) (n : Nat) (hn : n = fn.ntmps) (hargs : Nat.ble args.length n = true)
    (h : ∀ w, WC ⟨P, n, w, []⟩ x (bodyPostM Fence.wide m P fn fun e w' => ∃ v, e = .returned v ∧ v = u ∧ Stp [] w w') (ent 0 args) [] As) : FnV P f args As u := by
  intro X w hnd hx h0 hA
  refine Ret.mono (enterM m [] [] As hf hb n hn (Nat.le_of_ble_eq_true hargs) (St.start w []) (fun t ht => Atom.keep (hA t ht) ?_ (fun _ _ => rfl)) (h w)) ?_
  · rintro b ⟨hb1, hb2⟩
    exact ⟨hb1, by simp [Own.bs, bsOf]⟩
  · intro v w' ⟨hv, hs⟩
    exact ⟨hs, (), hv, by simp, by simp [Own.bs, bsOf], by simp [Own.bs, bsOf], by simp⟩
end Go.Eng

/- What ranges over places, round by round. -/

namespace Go.Proofs.YtmpoffijcfaalaaGreat.Ep
open Go.Eng Go.YtmpoffijcfaalaaGreat Go.RowKit
set_option maxHeartbeats 1000000

theorem ok_245 : FnOk Tryz.prog 245 := ⟨⟨_, Tryz.func245, by kernel_rfl, rfl⟩⟩
def item (l : List TPlace) (j : Nat) : ByteArray × TPlace := (endP l j, l.getD j default)
def upto (l : List TPlace) (k : Nat) : List (ByteArray × TPlace) := (List.range k).map (item l)
theorem upto_succ (l : List TPlace) (k : Nat) : upto l (k + 1) = upto l k ++ [item l k] := by simp [upto, List.range_succ]
theorem upto_len (l : List TPlace) (k : Nat) : (upto l k).length = k := by simp [upto]
def encs (x : ByteArray × TPlace) : Array Value := #[.string x.1, .agg (cPlace x.2).toArray]
theorem stp_own {b : Nat} {w w' : World} (h : Stp [b] w w') (hb : w'.heap[b]? = w.heap[b]?) : Stp [] w w' := ⟨h.os, h.tape, h.output, h.size, fun k hk _ => by
 by_cases e : k = b
 ·
  subst e; exact hb
 ·
  exact h.block k hk (by simpa using e)⟩
theorem bl_at {b : Nat} {cs : List Value} {T : TypeId} {w w0 : World} {L : Go.Eng.Own} {M : List Nat} (i : Nat) (hi : L[i]? = some (bl b T cs)) (st : St w0 M w L) : w.heap[b]? = some (.cells cs.toArray T (0, 0)) := st.own _ (List.mem_of_getElem? hi)
theorem start_st {b1 : Nat} {k5 : Value} {w : World} (box : w.heap[b1]? = some (.cells #[k5] 22 (0, 0))) : St w [b1] w [bl b1 22 [k5]] := ⟨Stp.refl _ _, fun p hp => by
 have : p = bl b1 22 [k5] := by simpa using hp
 subst this
 exact box, by simp [Own.bs, bsOf], fun b hb => .inl (by simpa [Own.bs, bsOf] using hb)⟩
theorem start_dh {b1 b3 n₀ : Nat} {k5 : Value} {w : World} {l : List TPlace} (hl : Atom.holds ⟨k5, l⟩ (fun b => b < n₀ ∧ b ≠ b1 ∧ b ≠ b3) w) (hn : n₀ ≤ w.heap.size) : DH [⟨k5, l⟩] w [bl b1 22 [k5]] := fun t ht => by
 have : t = ⟨k5, l⟩ := by simpa using ht
 subst this
 exact Atom.keep hl (fun b h => ⟨Nat.lt_of_lt_of_le h.1 hn, by simpa [Own.bs, bsOf] using h.2.1⟩) (fun _ _ => G)

theorem iter (n ll : Nat) (J Jx : List (ByteArray × TPlace) → World → Prop) (W : World) (b1 b3 n₀ : Nat) (k5 : Value) (l : List TPlace) (hb1 : b1 < n₀) (hne : b1 ≠ b3) (hn0 : n₀ ≤ W.heap.size)
  (box : W.heap[b1]? = some (.cells #[k5] 22 (0, 0))) (hl : Atom.holds ⟨k5, l⟩ (fun b => b < n₀ ∧ b ≠ b1 ∧ b ≠ b3) W) (hlen : l.length ≤ 7) (hJ : AbidesFrom W.heap.size J) (hJx : AbidesFrom W.heap.size Jx)
  (hY : ∀ pre x W1, J pre W1 → pre.length < l.length → YieldAt Fence.wide (n - 1) Tryz.prog ll (encs x) W1 fun e W' => (e = .returned (.bool true) ∧ J (pre ++ [x]) W' ∧ KB n₀ b3 W1 W') ∨ (e = .returned (.bool false) ∧ Jx (pre ++ [x]) W'))
  (h0 : J [] W) : Ret Tryz.prog 280 [.func (.yield ll) #[] #[], .pointer (some ⟨b1, 0, none⟩)] W (fun _ w' => J (upto l l.length) w' ∨ ∃ k, k ≤ l.length ∧ Jx (upto l k) w') := by
 have keepJ : ∀ {pre : List (ByteArray × TPlace)} {w w' : World}, J pre w → Stp [b1] w w' → w'.heap[b1]? = w.heap[b1]? → J pre w' := fun hj hs hb => hJ _ _ _ none hj (stp_own hs hb).grown (fun r h => by cases h)
 refine enter [b1] [bl b1 22 [k5]] [⟨k5, l⟩] Tryz.func280 G 20 G (Nat.le_of_ble_eq_true G) (start_st box) (start_dh hl hn0)<|sq<|rg<|ldB 0 G G one_22 G G<|lnP 0 G G Tryz.underlying22 G fun l6 => mv G G<|nl<|nx<|bk ?_
 refine lpW (σ := Nat) (fun i => [(7, .int .i64 (i : Int)), (6, .int .i64 (l.length : Int)), (5, k5), (1, .pointer (some ⟨b1, 0, none⟩)), (0, .func (.yield ll) #[] #[])])
  (fun i w => i ≤ l.length ∧ J (upto l i) w ∧ KB n₀ b3 W w) (fun i => l.length - i) 0 ⟨rfl, rfl, rfl, rfl, rfl, trivial⟩ ?_ ?_
 ·
  intro w st dh
  have hb := bl_at 0 rfl st
  refine ⟨Nat.zero_le _, keepJ h0 st.stp (hb.trans box.symm), ?_⟩
  have := stp_own st.stp (hb.trans box.symm)
  exact this.kb hn0 (by simp)
 ·
  rintro i w ⟨hi, hJw, hB⟩ a f
  have box' : w.heap[b1]? = some (.cells #[k5] 22 (0, 0)) := (hB.block b1 hb1 hne).trans box
  have hl' : Atom.holds ⟨k5, l⟩ (fun b => b < n₀ ∧ b ≠ b1 ∧ b ≠ b3) w := Atom.keep hl (fun _ h => h) (fun b h => hB.block b h.1 h.2.2)
  have hn' : n₀ ≤ w.heap.size := Nat.le_trans hn0 hB.size
  refine (show WC ⟨Tryz.prog, 20, w, [b1]⟩ _ _ _ [bl b1 22 [k5]] [⟨k5, l⟩] from ?_) a w f (start_st box') (start_dh hl' hn')
  refine sq<|rg<|ltI G G G<|nl<|nx<|sq<|cdP G (fun h8 => ?_) (fun h8 => ?_)
  ·
   refine sk<|nx<|sq<|bk<|sq<|rg<|mv G G<|ixP 0 G G G slt_22 (by omega) (getDE (d := default) (by omega)) G fun v10 => ldS 0 G G row_90 G fun q11 w11 => ?_
   refine al zero_90 G fun b4 => asg G G<|stW 0 (us := cPlace (l.getD i default)) G G G row_90 G G<|nl<|nx<|sq<|rgTail (n := n) (hd := 5) ⟨fun q_ => ([[], [], [], [1, 2], [], [], []] : List (List Nat)).getD q_ [], fun _ _ => True, fun _ _ => [], fun q_ => ([some (.func (.yield ll) #[] #[]), some k5, some (.int .i64 (i : Int)), some (.string (endP l i)), some (.agg (cPlace (l.getD i default)).toArray)] : List (Option Value)).getD q_ none, fun _ _ => [bl b4 90 (cPlace (l.getD i default)), bl b1 22 [k5]], [], [[]]⟩ ?_ mixed ?_ ?_ ?_ ?_ ?_ ?_
   ·
    rfl
   ·
    rfl
   ·
    exact Nat.le_of_ble_eq_true G
   ·
    rfl
   ·
    exact ⟨fun V De _=>aP1 (mv G G<|oh G G G G),fun V De _=>aP1 (ldB 1 G G one_22 G G<|oh G G G G),fun V De _=>aP1 (mv G G<|oh G G G G),fun V De _=>aP1 (cfv (end_c k5 l (i : Int) (inI (by omega) (by omega))) ok_245 G (Sc 2 G Sn) G<|oh G G G G),fun V De _=>aP1 (ldM 0 (cPlace (l.getD i default)) G G row_90 G G<|oh G G G G),trivial⟩
   ·
    intro listed hcl i5 h5 h7 hp
    have h7 : i5 < 7 := h7
    have : i5 = 5 ∨ i5 = 6 := by omega
    have g : listed.getD 0 false = true ∧ listed.getD 1 false = true ∧ listed.getD 2 false = true ∧ listed.getD 3 false = true ∧ listed.getD 4 false = true := by
     rcases this with rfl | rfl
     ·
      have g3 := hp 3 rfl
      exact ⟨hp 0 G, hcl 3 1 g3 G, hcl 3 2 g3 G, g3, hp 4 G⟩
     ·
      have g5 := hp 5 rfl
      have g3 := hcl 5 3 g5 rfl
      exact ⟨hcl 5 0 g5 G, hcl 3 1 g3 G, hcl 3 2 g3 G, g3, hcl 5 4 g5 G⟩
    intro k hk
    match k, hk with
    | 0, _ => exact g.1
    | 1, _ => exact g.2.1
    | 2, _ => exact g.2.2.1
    | 3, _ => exact g.2.2.2.1
    | 4, _ => exact g.2.2.2.2
   ·
    intro V _ a3 w3 f3 st3 dh3
    have hb3 := bl_at 1 rfl st3
    have hJ3 := keepJ hJw st3.stp (hb3.trans box'.symm)
    have hB3 : KB n₀ b3 w w3 := (stp_own st3.stp (hb3.trans box'.symm)).kb hn' (by simp)
    obtain ⟨fn, tmps, assign, body, hy, hR⟩ := hY (upto l i) (item l i) w3 hJ3 (by rw [upto_len]; omega)
    refine wpAnyIn_all (rs := [5]) (by kernel_rfl) (by simp) fun j hj => ?_
    have : j = 5 := by simpa using hj
    subst this
    refine wpOpIn_plain G G (round_in G G (fun _ => trivial) (run_round G (f3.ev G) (f3.evs G) hy) (hR.mono ?_))
    rintro e W' (⟨rfl, hJ4, hk4⟩ | ⟨rfl, hJ4⟩)
    ·
     refine ⟨_, G, wpAnyIn_all (rs := [6]) (by kernel_rfl) (by simp) fun j hj => ?_⟩
     have : j = 6 := by simpa using hj
     subst this
     have f4 := f3.put (d := 17) (.bool true) (by show 17 < 20; decide)
     refine wpOpIn_plain G G (not_in G G (f4.ev G) (fun _ => trivial) (wpAnyIn_done (by kernel_rfl) ?_ _))
     have f5 := f4.put (d := 18) (.bool false) (by show 18 < 20; decide)
     refine (show WC ⟨Tryz.prog, 20, W', []⟩ _ _ _ [] [] from ?_) _ W' f5 (St.start W' []) DH.nil
     refine cdF G<|sk<|bN<|nx<|rg<|adI G G (inI (by omega) (by omega)) G<|mv G G<|nl ?_
     intro a6 w6 f6 st6 _
     have e6 : Stp [] W' w6 := st6.stp
     refine ⟨i + 1, by omega, f6.sub ⟨G, G, G, G, G, trivial⟩, by omega, ?_, ?_⟩
     ·
      rw [upto_succ]
      exact hJ _ _ _ none hJ4 e6.grown (fun r h => by cases h)
     ·
      exact hB.trans (hB3.trans (hk4.trans (e6.kb (Nat.le_trans hn' (Nat.le_trans hB3.size hk4.size)) (by simp))))
    ·
     refine ⟨_, G, wpAnyIn_all (rs := [6]) (by kernel_rfl) (by simp) fun j hj => ?_⟩
     have : j = 6 := by simpa using hj
     subst this
     have f4 := f3.put (d := 17) (.bool false) (by show 17 < 20; decide)
     refine wpOpIn_plain G G (not_in G G (f4.ev G) (fun _ => trivial) (wpAnyIn_done (by kernel_rfl) ?_ _))
     have f5 := f4.put (d := 18) (.bool true) (by show 18 < 20; decide)
     refine (show WC ⟨Tryz.prog, 20, W', []⟩ _ _ _ [] [] from ?_) _ W' f5 (St.start W' []) DH.nil
     refine cdT G<|rt<|bR<|tR<|tR<|bR ?_
     intro a6 w6 f6 st6 _
     have e6 : Stp [] W' w6 := st6.stp
     refine bodyPost_ret (results_none G _ _ _) f6.dn ⟨_, G, .inr ⟨i + 1, by omega, ?_⟩⟩
     rw [upto_succ]
     exact hJx _ _ _ none hJ4 e6.grown (fun r h => by cases h)
  ·
   refine ex<|tE<|tE<|bE ?_
   intro a' w' f' st' dh'
   have e : i = l.length := by omega
   subst e
   exact bodyPost_end (results_none G _ _ _) f'.dn ⟨_, G, .inl (keepJ hJw st'.stp ((bl_at 0 G st').trans box'.symm))⟩
end Go.Proofs.YtmpoffijcfaalaaGreat.Ep

/- Structs compared, written by specs2.py. -/

namespace Go.Proofs.YtmpoffijcfaalaaGreat
open Go.Eng Go.YtmpoffijcfaalaaGreat

theorem eq_Span : EqTy Tryz.prog 65 cSpan := by
 refine ⟨by kernel_rfl, fun a b w => ?_⟩
 rw [run_equalIn_struct w 9999 65 _ _ (by simp only [Program.fieldsOf, Tryz.underlying65]) (by kernel_rfl)]
 simp only [Program.fieldsOf, Tryz.underlying65]
 refine Eq.trans (eqG G Tryz.underlying3 G G G (eqFi Tryz.underlying3 _ _) (fun w => eqG G Tryz.underlying3 G G G (eqFi Tryz.underlying3 _ _) (fun w => eqF0 w))) ?_
 congr 1
 obtain ⟨a0, a1⟩ := a
 obtain ⟨b0, b1⟩ := b
 simp [TSpan.mk.injEq, Bool.and_assoc]

theorem eq_Answer : EqTy Tryz.prog 120 cAnswer := by
 refine ⟨by kernel_rfl, fun a b w => ?_⟩
 rw [run_equalIn_struct w 9999 120 _ _ (by simp only [Program.fieldsOf, Tryz.underlying120]) (by kernel_rfl)]
 simp only [Program.fieldsOf, Tryz.underlying120]
 refine Eq.trans (eqG G Tryz.underlying38 G G G (eqFi Tryz.underlying38 _ _) (fun w => eqG G Tryz.underlying3 G G G (eqFi Tryz.underlying3 _ _) (fun w => eqG G Tryz.underlying3 G G G (eqFi Tryz.underlying3 _ _) (fun w => eqG G Tryz.underlying3 G G G (eqFi Tryz.underlying3 _ _) (fun w => eqF0 w))))) ?_
 congr 1
 obtain ⟨a0, a1, a2, a3⟩ := a
 obtain ⟨b0, b1, b2, b3⟩ := b
 simp [TAnswer.mk.injEq, Bool.and_assoc]

theorem eq_Plan : EqTy Tryz.prog 24 cPlan := by
 refine ⟨by kernel_rfl, fun a b w => ?_⟩
 rw [run_equalIn_struct w 9999 24 _ _ (by simp only [Program.fieldsOf, Tryz.underlying24]) (by kernel_rfl)]
 simp only [Program.fieldsOf, Tryz.underlying24]
 refine Eq.trans (eqG G Tryz.underlying3 G G G (eqFi Tryz.underlying3 _ _) (fun w => eqG G Tryz.underlying3 G G G (eqFi Tryz.underlying3 _ _) (fun w => eqG G Tryz.underlying3 G G G (eqFi Tryz.underlying3 _ _) (fun w => eqG G Tryz.underlying9 G G G (eqFs Tryz.underlying9 _ _) (fun w => eqG G Tryz.underlying9 G G G (eqFs Tryz.underlying9 _ _) (fun w => eqG G Tryz.underlying3 G G G (eqFi Tryz.underlying3 _ _) (fun w => eqG G Tryz.underlying3 G G G (eqFi Tryz.underlying3 _ _) (fun w => eqF0 w)))))))) ?_
 congr 1
 obtain ⟨a0, a1, a2, a3, a4, a5, a6⟩ := a
 obtain ⟨b0, b1, b2, b3, b4, b5, b6⟩ := b
 simp [TPlan.mk.injEq, Bool.and_assoc]

theorem eq_Op : EqTy Tryz.prog 34 cOp := by
 refine ⟨by kernel_rfl, fun a b w => ?_⟩
 rw [run_equalIn_struct w 9999 34 _ _ (by simp only [Program.fieldsOf, Tryz.underlying34]) (by kernel_rfl)]
 simp only [Program.fieldsOf, Tryz.underlying34]
 refine Eq.trans (eqG G Tryz.underlying3 G G G (eqFi Tryz.underlying3 _ _) (fun w => eqG G Tryz.underlying9 G G G (eqFs Tryz.underlying9 _ _) (fun w => eqG G Tryz.underlying9 G G G (eqFs Tryz.underlying9 _ _) (fun w => eqG G Tryz.underlying3 G G G (eqFi Tryz.underlying3 _ _) (fun w => eqG G Tryz.underlying3 G G G (eqFi Tryz.underlying3 _ _) (fun w => eqG G Tryz.underlying3 G G G (eqFi Tryz.underlying3 _ _) (fun w => eqF0 w))))))) ?_
 congr 1
 obtain ⟨a0, a1, a2, a3, a4, a5⟩ := a
 obtain ⟨b0, b1, b2, b3, b4, b5⟩ := b
 simp [TOp.mk.injEq, Bool.and_assoc]

theorem eq_Lock : EqTy Tryz.prog 68 cLock := by
 refine ⟨by kernel_rfl, fun a b w => ?_⟩
 rw [run_equalIn_struct w 9999 68 _ _ (by simp only [Program.fieldsOf, Tryz.underlying68]) (by kernel_rfl)]
 simp only [Program.fieldsOf, Tryz.underlying68]
 refine Eq.trans (eqG G Tryz.underlying3 G G G (eqFi Tryz.underlying3 _ _) (fun w => eqG G Tryz.underlying3 G G G (eqFi Tryz.underlying3 _ _) (fun w => eqG G Tryz.underlying3 G G G (eqFi Tryz.underlying3 _ _) (fun w => eqG G Tryz.underlying3 G G G (eqFi Tryz.underlying3 _ _) (fun w => eqF0 w))))) ?_
 congr 1
 obtain ⟨a0, a1, a2, a3⟩ := a
 obtain ⟨b0, b1, b2, b3⟩ := b
 simp [TLock.mk.injEq, Bool.and_assoc]
end Go.Proofs.YtmpoffijcfaalaaGreat

/- Walks, written by specs2.py. -/

namespace Go.Proofs.YtmpoffijcfaalaaGreat
open Go.Eng Go.YtmpoffijcfaalaaGreat
set_option maxHeartbeats 1000000

theorem find_c (v_l : Value) (l : List TPlace) (key : ByteArray) : FnV Tryz.prog 35 [v_l, .string key] [⟨v_l, l⟩] (.int .i64 (findP l key : Int)) := by
 refine Fnc.proof Tryz.func35 G 22 G G fun X w => sq<|rg<|asg G G<|nl<|nx<|sq<|rg<|asg G G<|nl<|nx<|sq<|sq<|rg ?_
 refine mv G G<|lnP 0 G G Tryz.underlying22 G fun l9 => mv G G<|nl<|nx<|bk<|lpC (σ := Nat × Nat) [(1, _), (8, _), (9, _)] _ (fun s C => (10, .int .i64 (s.1 : Int)) :: (5, .int .i64 (s.2 : Int)) :: C) (fun s => s.1 ≤ l.length ∧ s.2 = lastI s.1 (fun j => !ltB key (l.getD j default).fFrom)) (fun s => l.length - s.1) (0, 0) ⟨G, G, G, trivial⟩ (Sc 0 G Sn) ⟨Nat.zero_le _, G⟩ ⟨G, G, G, G, G, trivial⟩ ?_
 rintro ⟨i, a⟩ ⟨hi, ha⟩
 simp only at hi ha
 refine sq<|rg<|ltI G G G<|nl<|nx<|sq<|cdP G (fun h11 => ?_) (fun h11 => ?_)
 ·
  refine sk<|nx<|sq<|bk<|sq<|rg<|mv G G<|ixP 0 G G G slt_22 (by omega) (getDE (d := default) (by omega)) G fun v13 => ldS 0 G G row_90 G fun q14 w14 => ?_
  refine al zero_90 G fun b7 => asg G G<|stW 0 (us := (cPlace ((l.getD i default)))) G G G row_90 G G<|nl<|nx<|sq<|rg<|fa G fld_90_1 G<|ldB 0 G G one_9 G G<|mv G G<|leS G G G<|nl<|nx<|cdB G (fun h18 => ?_) (fun h18 => ?_)
  ·
   refine rg<|mv G G<|asg G G<|nl<|bN<|nx<|rg<|adI G G (inI (by omega) (by omega)) G<|mv G G<|nl<|dpQ ?_
   exact ag (i + 1, i) ⟨by show i + 1 ≤ l.length; omega, by show i = if (!ltB key (l.getD i default).fFrom) = true then i else lastI i (fun j => !ltB key (l.getD j default).fFrom); rw [if_pos (by rw [← le_ge]; exact h18)]⟩ (by show l.length - (i + 1) < l.length - i; omega) ⟨G, G, G, G, G, trivial⟩ G (Sc 2 G Sn)
  ·
   refine sk<|bN<|nx<|rg<|adI G G (inI (by omega) (by omega)) G<|mv G G<|nl<|dpQ ?_
   exact ag (i + 1, a) ⟨by show i + 1 ≤ l.length; omega, by show a = if (!ltB key (l.getD i default).fFrom) = true then i else lastI i (fun j => !ltB key (l.getD j default).fFrom); rw [if_neg (by rw [← le_ge, h18]; decide)]; exact ha⟩ (by show l.length - (i + 1) < l.length - i; omega) ⟨G, G, G, G, G, trivial⟩ G (Sc 2 G Sn)
 ·
  refine ex<|tE<|tE<|bE<|nx<|sq<|rg<|mv G G<|asg G G<|nl<|nx<|rt ?_
  exact fR1 () G G (by have e : i = l.length := (by omega); show Value.int .i64 (a : Int) = _; rw [ha, e, findP]) G Sn

theorem find17_c (v_l : Value) (l : List TPlace) (key : ByteArray) : FnV Tryz.prog 39 [v_l, .string key] [⟨v_l, l⟩] (.int .i64 (find17 l key : Int)) := by
 refine Fnc.proof Tryz.func39 G 23 G G fun X w => sq<|rg<|asg G G<|nl<|nx<|sq<|sq<|rg<|asg G G<|nl<|nx<|bk<|lpC (σ := Nat) [(0, _), (1, _)] _ (fun i C => (5, .int .i64 (i : Int)) :: C) (fun i => i ≤ l.length ∧ (∀ j, j < i → within (l.getD j default).fFrom (endP l j) key = false)) (fun i => l.length - i) 0 ⟨G, G, trivial⟩ (Sc 0 G Sn) ⟨Nat.zero_le _, fun j hj => absurd hj (Nat.not_lt_zero j)⟩ ⟨G, G, G, trivial⟩ ?_
 rintro i ⟨hi, hall⟩
 refine sq<|sq<|rg<|mv G G<|mv G G<|lnP 0 G G Tryz.underlying22 G fun l8 => ltI G G G<|nl<|nx<|cdP G (fun h9 => ?_) (fun h9 => ?_)
 ·
  refine sk<|nx<|sq<|bk<|sq<|rgQ mixed (by kernel_rfl)<|mv G G<|mv G G<|ixP 0 G G G slt_22 (by omega) (getDE (d := default) (by omega)) G fun v14 => faP (α := TPlace) (β := ByteArray) 0 (fun x : TPlace => x.fFrom) G G fld_90_1 pPlace_1 G fun v15 => ldV 0 G G one_9 G fun w16 => ?_
  refine mv G G<|mv G G<|cfq (end17_c _ _ _ (inI (by omega) (by omega))) ok_92 G (Sc 2 G Sn) G<|mv G G<|cfq (within17_c _ _ _) ok_82 G Sn G<|nlQ<|nx<|cdB G (fun h21 => ?_) (fun h21 => ?_)
  ·
   refine sq<|rg<|mv G G<|asg G G<|nl<|nx<|rt<|bR<|tR<|tR<|bR<|tR ?_
   exact fR1 () G G (by rw [find17, firstI_some (j := i) (by omega) hall h21]; try rfl) G Sn
  ·
   refine sk<|bN<|nx<|rg<|mv G G<|adI G G (inI (by omega) (by omega)) G<|asg G G<|nl ?_
   exact ag (i + 1) ⟨(by omega), (all_snoc hall (h21))⟩ (by omega) ⟨G, G, G, trivial⟩ G (Sc 2 G Sn)
 ·
  refine ex<|tE<|tE<|bE<|nx<|sq<|rg<|asg G G<|nl<|nx<|rt ?_
  exact fR1 () G G (by rw [find17, firstI_none (fun k hk => hall k (by omega))]; try rfl) G Sn

theorem of_c (v_l : Value) (l : List TPlace) (gr : Int) (h_gr : InI gr) : FnV Tryz.prog 173 [v_l, .int .i64 gr] [⟨v_l, l⟩] (ofV (ofP l gr)) := by
 refine Fnc.proof Tryz.func173 G 21 G G fun X w => ?_
 obtain ⟨h_gr1, h_gr2⟩ := id h_gr
 refine sq<|rg<|asg G G<|asg G G<|nl<|nx<|sq<|sq<|rg<|mv G G<|lnP 0 G G Tryz.underlying22 G fun l9 => mv G G<|nl<|nx ?_
 refine bk<|lpC (σ := Nat) [(1, _), (8, _), (9, _)] _ (fun i C => (10, .int .i64 (i : Int)) :: C) (fun i => i ≤ l.length ∧ (∀ j, j < i → decide ((l.getD j default).fGroup = gr) = false)) (fun i => l.length - i) 0 ⟨G, G, G, trivial⟩ (Sc 0 G Sn) ⟨Nat.zero_le _, fun j hj => absurd hj (Nat.not_lt_zero j)⟩ ⟨G, G, G, G, trivial⟩ ?_
 rintro i ⟨hi, hall⟩
 refine sq<|rg<|ltI G G G<|nl<|nx<|sq<|cdP G (fun h11 => ?_) (fun h11 => ?_)
 ·
  refine sk<|nx<|sq<|bk<|sq<|rg<|mv G G<|ixP 0 G G G slt_22 (by omega) (getDE (d := default) (by omega)) G fun v13 => ldS 0 G G row_90 G fun q14 w14 => ?_
  refine al zero_90 G fun b7 => asg G G<|stW 0 (us := (cPlace ((l.getD i default)))) G G G row_90 G G<|nl<|nx<|sq<|rg<|fa G fld_90_0 G<|ldB 0 G G one_3 G G<|mv G G<|eqI G G G<|nl<|nx<|cdP G (fun h18 => ?_) (fun h18 => ?_)
  ·
   refine sq<|rg<|mv G G<|asg G G<|asg G G<|nl<|nx<|rt<|bR<|tR<|tR<|bR<|tR<|dpQ ?_
   exact fR2 () G G G (by rw [ofP, firstI_some (j := i) (by omega) hall (decide_eq_true h18)]; try rfl) G Sn
  ·
   refine sk<|bN<|nx<|rg<|adI G G (inI (by omega) (by omega)) G<|mv G G<|nl<|dpQ ?_
   exact ag (i + 1) ⟨(by omega), (all_snoc hall (decide_eq_false h18))⟩ (by omega) ⟨G, G, G, G, trivial⟩ G (Sc 2 G Sn)
 ·
  exact ex<|tE<|tE<|bE<|nx<|sq<|rg<|asg G G<|asg G G<|nl<|nx<|rt<|fR2 () G G G (by rw [ofP, firstI_none (fun k hk => hall k (by omega))]; try rfl) G Sn

theorem of17_c (v_l : Value) (l : List TPlace) (gr : Int) (h_gr : InI gr) : FnV Tryz.prog 117 [v_l, .int .i64 gr] [⟨v_l, l⟩] (ofV (ofP l gr)) := by
 refine Fnc.proof Tryz.func117 G 21 G G fun X w => ?_
 obtain ⟨h_gr1, h_gr2⟩ := id h_gr
 refine sq<|rg<|asg G G<|asg G G<|nl<|nx<|sq<|sq<|rg<|asg G G<|nl<|nx<|bk<|lpC (σ := Nat) [(0, _), (1, _)] _ (fun i C => (6, .int .i64 (i : Int)) :: C) (fun i => i ≤ l.length ∧ (∀ j, j < i → decide ((l.getD j default).fGroup = gr) = false)) (fun i => l.length - i) 0 ⟨G, G, trivial⟩ (Sc 0 G Sn) ⟨Nat.zero_le _, fun j hj => absurd hj (Nat.not_lt_zero j)⟩ ⟨G, G, G, trivial⟩ ?_
 rintro i ⟨hi, hall⟩
 refine sq<|sq<|rg<|mv G G<|mv G G<|lnP 0 G G Tryz.underlying22 G fun l9 => ltI G G G<|nl<|nx<|cdP G (fun h10 => ?_) (fun h10 => ?_)
 ·
  refine sk<|nx<|sq<|bk<|sq<|rg<|mv G G<|mv G G<|ixP 0 G G G slt_22 (by omega) (getDE (d := default) (by omega)) G fun v15 => faP (α := TPlace) (β := Int) 0 (fun x : TPlace => x.fGroup) G G fld_90_0 pPlace_0 G fun v16 => ldV 0 G G one_3 G fun w17 => ?_
  refine mv G G<|eqI G G G<|nl<|nx<|cdP G (fun h19 => ?_) (fun h19 => ?_)
  ·
   exact sq<|rg<|mv G G<|asg G G<|asg G G<|nl<|nx<|rt<|bR<|tR<|tR<|bR<|tR<|fR2 () G G G (by rw [ofP, firstI_some (j := i) (by omega) hall (decide_eq_true h19)]; try rfl) G Sn
  ·
   refine sk<|bN<|nx<|rg<|mv G G<|adI G G (inI (by omega) (by omega)) G<|asg G G<|nl ?_
   exact ag (i + 1) ⟨(by omega), (all_snoc hall (decide_eq_false h19))⟩ (by omega) ⟨G, G, G, trivial⟩ G (Sc 2 G Sn)
 ·
  exact ex<|tE<|tE<|bE<|nx<|sq<|rg<|asg G G<|asg G G<|nl<|nx<|rt<|fR2 () G G G (by rw [ofP, firstI_none (fun k hk => hall k (by omega))]; try rfl) G Sn

theorem counts_c (v_l : Value) (l : List Int) : FnV Tryz.prog 179 [v_l] [⟨v_l, l⟩] (.bool (countsP l)) := by
 refine Fnc.proof Tryz.func179 G 18 G G fun X w => sq<|rg<|asg G G<|nl<|nx<|sq<|sq<|rg<|mv G G<|lnP 0 G G Tryz.underlying220 G fun l6 => mv G G<|nl<|nx ?_
 refine bk<|lpC (σ := Nat) [(5, _), (6, _)] _ (fun i C => (7, .int .i64 (i : Int)) :: C) (fun i => i ≤ l.length ∧ (∀ j, j < i → (!(decide (l.getD j default < 0) || decide (l.getD j default > far))) = true)) (fun i => l.length - i) 0 ⟨G, G, trivial⟩ (Sc 0 G Sn) ⟨Nat.zero_le _, fun j hj => absurd hj (Nat.not_lt_zero j)⟩ ⟨G, G, G, trivial⟩ ?_
 rintro i ⟨hi, hall⟩
 refine sq<|rg<|ltI G G G<|nl<|nx<|sq<|cdP G (fun h8 => ?_) (fun h8 => ?_)
 ·
  refine sk<|nx<|sq<|bk<|sq<|rg<|ixP 0 G G G slt_220 (by omega) (getDE (d := default) (by omega)) G fun v9 => ldV 0 G G one_3 G fun w10 => ?_
  refine asg G G<|nl<|nx<|sq<|rg<|mv G G<|ltI G G G<|mv G G ?_
  apply jo [(5, _), (6, _), (7, _)] ⟨rfl, rfl, rfl, trivial⟩
  ·
   intro K16
   refine spO (i := 13) G (fun h13 => ?_) (fun h13 => ?_)
   ·
    have p13 := of_decide_eq_false h13
    exact gY G G G<|mv G G<|gY G G G<|gtI G G G<|pkF G G G<|jR K16 h13 ⟨G, G, G, trivial⟩ Sr
   ·
    exact gS (g := [_, _]) G<|pkT G G G<|jR0 K16 h13 ⟨G, G, G, trivial⟩ Sr
  refine nl<|nx<|cdB G (fun h16 => ?_) (fun h16 => ?_)
  ·
   refine sq<|rg<|asg G G<|nl<|nx<|rt<|bR<|tR<|tR<|bR<|tR ?_
   exact fR1 () G G (by rw [countsP, allI_false i (by omega) (not_t h16)]; try rfl) G Sn
  ·
   refine sk<|bN<|nx<|rg<|adI G G (inI (by omega) (by omega)) G<|mv G G<|nl ?_
   exact ag (i + 1) ⟨(by omega), (all_snoc hall (not_f h16))⟩ (by omega) ⟨G, G, G, trivial⟩ G (Sc 1 G Sn)
 ·
  refine ex<|tE<|tE<|bE<|nx<|sq<|rg<|asg G G<|nl<|nx<|rt ?_
  exact fR1 () G G (by rw [countsP, allI_true (fun j hj => hall j (by omega))]; try rfl) G Sn

theorem scheck_c (v_l : Value) (l : List TMark) : FnV Tryz.prog 182 [v_l] [⟨v_l, l⟩] (.int .i64 (errF (marksP l))) := by
 refine Fnc.proof Tryz.func182 G 49 G G fun X w => sq<|rg<|asg G G<|nl<|nx<|sq<|rg<|asg G G<|nl<|nx<|sq<|sq<|rg ?_
 refine mv G G<|lnP 0 G G Tryz.underlying25 G fun l7 => mv G G<|nl<|nx<|bk<|lpC (σ := Nat) [(6, _), (7, _)] _ (fun i C => (8, .int .i64 (i : Int)) :: (3, .int .i64 (prevI (fun k => (l.getD k default).fClient) i)) :: C) (fun i => i ≤ l.length ∧ (∀ j, j < i → (!markP (prevI (fun k => (l.getD k default).fClient) j) (l.getD j default)) = true)) (fun i => l.length - i) 0 ⟨G, G, trivial⟩ (Sc 0 G Sn) ⟨Nat.zero_le _, fun j hj => absurd hj (Nat.not_lt_zero j)⟩ ⟨G, G, G, G, trivial⟩ ?_
 rintro i ⟨hi, hall⟩
 refine sq<|rg<|ltI G G G<|nl<|nx<|sq<|cdP G (fun h9 => ?_) (fun h9 => ?_)
 ·
  refine sk<|nx<|sq<|bk<|sq<|rg<|ixP 0 G G G slt_25 (by omega) (getDE (d := default) (by omega)) G fun v10 => ldS 0 G G row_122 G fun q11 w11 => ?_
  refine al zero_122 G fun b5 => stW 0 (us := (cMark ((l.getD i default)))) G G G row_122 G G<|nl<|nx<|sq<|sq<|rg<|fa G fld_122_0 G<|ldB 0 G G one_3 G G<|mv G G<|leI G G G<|mv G G ?_
  apply jo [(5, _), (6, _), (7, _), (8, _)] ⟨rfl, rfl, rfl, rfl, trivial⟩
  ·
   intro K20
   refine spO (i := 16) G (fun h16 => ?_) (fun h16 => ?_)
   ·
    have p16 := of_decide_eq_false h16
    exact gY G G G<|fa G fld_122_0 G<|gY G G G<|ldB 0 G G one_3 G G<|gY G G G<|gtI G G G<|pkF G G G<|jR K20 h16 ⟨G, G, G, G, trivial⟩ Sr
   ·
    exact gS (g := [_, _, _]) G<|pkT G G G<|jR0 K20 h16 ⟨G, G, G, G, trivial⟩ Sr
  refine mv G G ?_
  apply jo [(5, _), (6, _), (7, _), (8, _)] ⟨rfl, rfl, rfl, rfl, trivial⟩
  ·
   intro K25
   refine spO (i := 21) G (fun h21 => ?_) (fun h21 => ?_)
   ·
    exact gY G G G<|fa G fld_122_1 G<|gY G G G<|ldB 0 G G one_3 G G<|gY G G G<|ltI G G G<|pkF G G G<|jR K25 h21 ⟨G, G, G, G, trivial⟩ Sr
   ·
    exact gS (g := [_, _, _]) G<|pkT G G G<|jR0 K25 h21 ⟨G, G, G, G, trivial⟩ Sr
  refine mv G G ?_
  apply jo [(5, _), (6, _), (7, _), (8, _)] ⟨rfl, rfl, rfl, rfl, trivial⟩
  ·
   intro K30
   refine spO (i := 26) G (fun h26 => ?_) (fun h26 => ?_)
   ·
    exact gY G G G<|fa G fld_122_1 G<|gY G G G<|ldB 0 G G one_3 G G<|gY G G G<|gtI G G G<|pkF G G G<|jR K30 h26 ⟨G, G, G, G, trivial⟩ Sr
   ·
    exact gS (g := [_, _, _]) G<|pkT G G G<|jR0 K30 h26 ⟨G, G, G, G, trivial⟩ Sr
  refine mv G G ?_
  apply jo [(5, _), (6, _), (7, _), (8, _)] ⟨rfl, rfl, rfl, rfl, trivial⟩
  ·
   intro K45
   refine spO (i := 31) G (fun h31 => ?_) (fun h31 => ?_)
   ·
    refine gY G G G<|fa G fld_122_2 G<|gY G G G<|ldB 0 G G one_4 G G<|gY G G G<|mv G G ?_
    apply jo [(5, _), (6, _), (7, _), (8, _), (31, _)] ⟨rfl, rfl, rfl, rfl, rfl, trivial⟩
    ·
     intro K44
     refine spA (i := 34) G (fun h34 => ?_) (fun h34 => ?_)
     ·
      refine gY G G G<|fa G fld_122_1 G<|gY G G G<|ldB 0 G G one_3 G G<|gY G G G<|eqI G G G<|gY G G G<|mv G G ?_
      apply jo [(5, _), (6, _), (7, _), (8, _), (31, _), (34, _)] ⟨rfl, rfl, rfl, rfl, rfl, rfl, trivial⟩
      ·
       intro K43
       refine spO (i := 38) G (fun h38 => ?_) (fun h38 => ?_)
       ·
        have p38 := of_decide_eq_false h38
        exact gY G G G<|fa G fld_122_3 G<|gY G G G<|ldM 0 (cAnswer ((l.getD i default).fAnswer)) G G row_120 G G<|gY G G G<|bd (ps := []) (cs := (cAnswer ((⟨0, 0, 0, 0⟩ : TAnswer)))) (by rfl) (by kernel_rfl) G<|gY G G G<|neT eq_Answer ((l.getD i default).fAnswer) ((⟨0, 0, 0, 0⟩ : TAnswer)) G G G<|gY G G G<|pkF G G G<|jR K43 h38 ⟨G, G, G, G, G, G, trivial⟩ Sr
       ·
        exact gS (g := [_, _, _, _]) G<|gY G G G<|pkT G G G<|jR0 K43 h38 ⟨G, G, G, G, G, G, trivial⟩ Sr
      exact gY G G G<|pkT G G G<|jA K44 h34 ⟨G, G, G, G, G, trivial⟩ Sr
     ·
      exact gS (g := [_, _, _, _, _, _, _, _, _]) G<|gY G G G<|pkF G G G<|jA0 K44 h34 ⟨G, G, G, G, G, trivial⟩ Sr
    exact pkF G G G<|jR K45 h31 ⟨G, G, G, G, trivial⟩ Sr
   ·
    exact gS (g := [_, _, _, _, _, _, _, _, _, _, _, _, _]) G<|pkT G G G<|jR0 K45 h31 ⟨G, G, G, G, trivial⟩ Sr
  refine nl<|nx<|cdB G (fun h45 => ?_) (fun h45 => ?_)
  ·
   refine sq<|rg<|asg G G<|nl<|nx<|rt<|tR<|bR<|tR<|tR<|bR<|tR<|dpQ ?_
   exact fR1 () G G (by rw [marksP, allI_false i (by omega) (not_t h45)]; try rfl) G Sn
  ·
   refine sk<|nx<|rg<|fa G fld_122_0 G<|ldB 0 G G one_3 G G<|asg G G<|nl<|bN<|nx<|rg<|adI G G (inI (by omega) (by omega)) G<|mv G G<|nl<|dpQ ?_
   exact ag (i + 1) ⟨(by omega), (all_snoc hall (not_f h45))⟩ (by omega) ⟨G, G, G, G, trivial⟩ G (Sc 2 G Sn)
 ·
  refine ex<|tE<|tE<|bE<|nx<|sq<|rg<|asg G G<|nl<|nx<|rt ?_
  exact fR1 () G G (by rw [marksP, allI_true (fun j hj => hall j (by omega))]; try rfl) G Sn

theorem dends_c (v_l : Value) (l : List TEnd) : FnV Tryz.prog 184 [v_l] [⟨v_l, l⟩] (.int .i64 (errF (endsP l))) := by
 refine Fnc.proof Tryz.func184 G 27 G G fun X w => sq<|rg<|asg G G<|nl<|nx<|sq<|rg<|asg G G<|nl<|nx<|sq<|sq<|rg ?_
 refine mv G G<|lnP 0 G G Tryz.underlying53 G fun l7 => mv G G<|nl<|nx<|bk<|lpC (σ := Nat) [(6, _), (7, _)] _ (fun i C => (8, .int .i64 (i : Int)) :: (3, .int .i64 (prevI (fun k => (l.getD k default).fClient) i)) :: C) (fun i => i ≤ l.length ∧ (∀ j, j < i → (!(decide ((l.getD j default).fClient ≤ prevI (fun k => (l.getD k default).fClient) j) || !okWhose (l.getD j default).fClient (l.getD j default).fSeq)) = true)) (fun i => l.length - i) 0 ⟨G, G, trivial⟩ (Sc 0 G Sn) ⟨Nat.zero_le _, fun j hj => absurd hj (Nat.not_lt_zero j)⟩ ⟨G, G, G, G, trivial⟩ ?_
 rintro i ⟨hi, hall⟩
 refine sq<|rg<|ltI G G G<|nl<|nx<|sq<|cdP G (fun h9 => ?_) (fun h9 => ?_)
 ·
  refine sk<|nx<|sq<|bk<|sq<|rg<|ixP 0 G G G slt_53 (by omega) (getDE (d := default) (by omega)) G fun v10 => ldS 0 G G row_129 G fun q11 w11 => ?_
  refine al zero_129 G fun b5 => stW 0 (us := (cEnd ((l.getD i default)))) G G G row_129 G G<|nl<|nx<|sq<|sq<|rg<|fa G fld_129_0 G<|ldB 0 G G one_3 G G<|mv G G<|leI G G G<|mv G G ?_
  apply jo [(5, _), (6, _), (7, _), (8, _)] ⟨rfl, rfl, rfl, rfl, trivial⟩
  ·
   intro K23
   refine spO (i := 16) G (fun h16 => ?_) (fun h16 => ?_)
   ·
    have p16 := of_decide_eq_false h16
    exact gY G G G<|fa G fld_129_0 G<|gY G G G<|ldB 0 G G one_3 G G<|gY G G G<|fa G fld_129_1 G<|gY G G G<|ldB 0 G G one_3 G G<|gY G G G<|cfv (dwhose_c _ _ w11.1 w11.2) ok_239 G Sn G<|gY G G G<|nt G G<|pkF G G G<|jR K23 h16 ⟨G, G, G, G, trivial⟩ Sr
   ·
    exact gS (g := [_, _, _, _, _, _]) G<|pkT G G G<|jR0 K23 h16 ⟨G, G, G, G, trivial⟩ Sr
  refine nl<|nx<|cdB G (fun h23 => ?_) (fun h23 => ?_)
  ·
   refine sq<|rg<|asg G G<|nl<|nx<|rt<|tR<|bR<|tR<|tR<|bR<|tR<|dpQ ?_
   exact fR1 () G G (by rw [endsP, allI_false i (by omega) (not_t h23)]; try rfl) G Sn
  ·
   refine sk<|nx<|rg<|fa G fld_129_0 G<|ldB 0 G G one_3 G G<|asg G G<|nl<|bN<|nx<|rg<|adI G G (inI (by omega) (by omega)) G<|mv G G<|nl<|dpQ ?_
   exact ag (i + 1) ⟨(by omega), (all_snoc hall (not_f h23))⟩ (by omega) ⟨G, G, G, G, trivial⟩ G (Sc 2 G Sn)
 ·
  refine ex<|tE<|tE<|bE<|nx<|sq<|rg<|asg G G<|nl<|nx<|rt ?_
  exact fR1 () G G (by rw [endsP, allI_true (fun j hj => hall j (by omega))]; try rfl) G Sn
end Go.Proofs.YtmpoffijcfaalaaGreat
