/- Part 31 of the proof of auditOrder_holds: AudW4, AudW8, AudI. Every text below begins with what it shows. -/
import Derived.Test.YtmpoffijcfaalaaGreatAu30

/- The library sorts, as a whole: written by specs10.py. -/

namespace Go.Proofs.YtmpoffijcfaalaaGreat
open Go.Eng Go.YtmpoffijcfaalaaGreat

theorem stable_c (v : Value) (xs : List Tcounted) (n : Nat) (hn : n ≤ xs.length) : Fnc Tryz.prog 161 [v, .int .i64 (n : Int), (.func (.func 86) #[] #[])] [@row Tcounted rcounted 150 v xs] [] (fun (_ : Unit) _ => True) (fun _ _ => [@row Tcounted rcounted 150 v (outP ltC n n 20 (blkP ltC n n 0 xs))]) (fun _ _ => []) := by
  refine Fnc.proof Tryz.func161 rfl 63 rfl rfl fun X w => lenRC 0 rfl fun hlen => sq<|rg<|asg rfl rfl<|nl<|nx<|sq<|rg<|mv rfl rfl<|asg rfl rfl<|asg rfl rfl<|nl<|nx ?_
  refine sq<|bk<|lpE (σ := Nat × Nat × List Tcounted) [(0, _), (1, _), (2, _), (6, _)] _ (fun s C => (7, .int .i64 (s.2.1 : Int)) :: (8, .int .i64 ((s.2.1 + 20 : Nat) : Int)) :: C) (fun s => [@row Tcounted rcounted 150 v s.2.2, fz X w]) (fun _ Dc => Dc) (fun s => s.2.1 ≤ n ∧ n - s.2.1 ≤ s.1 ∧ s.2.2.length = xs.length ∧ blkP ltC n s.1 s.2.1 s.2.2 = blkP ltC n n 0 xs) (fun s => n - s.2.1) (n, 0, xs) ⟨rfl, rfl, rfl, rfl, trivial⟩ SubD.nil ⟨Nat.zero_le _, Nat.le_refl _, rfl, rfl⟩ ⟨rfl, rfl, rfl, rfl, rfl, rfl, trivial⟩ rfl SubD.nil ?_
  rintro ⟨f, a, ys⟩ ⟨ha, hf, hl, hy⟩
  simp only at ha hf hl hy
  show WC _ _ _ [(7, .int .i64 ((a : Int))), (8, .int .i64 (((a + 20 : Nat) : Int))), (0, _), (1, _), (2, _), (6, _)] [@row Tcounted rcounted 150 v ys, fz X w] _
  refine sq<|sq<|rg<|mv rfl rfl<|mv rfl rfl<|leI rfl rfl rfl<|nl<|nx<|cdP rfl (fun h13 => ?_) (fun h13 => ?_)
  ·
    refine sk<|nx<|bk<|sq<|rg<|mv rfl rfl<|mv rfl rfl<|mv rfl rfl<|mv rfl rfl<|cf1 0 (insS_c v ys a (a + 20) (by omega) (by omega)) ok_218 rfl rfl SubD.nil rfl fun _ v18 _ => nl<|nx<|sq<|rg ?_
    refine mv rfl rfl<|asg rfl rfl<|nl<|nx<|rg<|mv rfl rfl<|mv rfl rfl<|adE (r := ((a + 20 + 20 : Nat) : Int)) rfl rfl (by omega) (inI (by omega) (by omega)) rfl<|asg rfl rfl<|nl<|bN ?_
    exact ag ((f - 1, a + 20, insP ltC a (a + 20) ys) : Nat × Nat × List Tcounted) ⟨by show a + 20 ≤ n; omega, by show n - (a + 20) ≤ f - 1; omega, (insP_len ..).trans hl, (blkP_le ltC (by omega) (by omega)).symm.trans hy⟩ (by show n - (a + 20) < n - a; omega) ⟨rfl, rfl, rfl, rfl, rfl, rfl, trivial⟩ rfl SubD.nil
  ·
    have hb : insP ltC a n ys = blkP ltC n n 0 xs := (blkP_end ltC (by omega)).symm.trans hy
    have hbl : (insP ltC a n ys).length = xs.length := (insP_len ..).trans hl
    refine ex<|tE<|tE<|bE<|nx<|sq<|rg<|mv rfl rfl<|mv rfl rfl<|mv rfl rfl<|mv rfl rfl<|cf1 0 (insS_c v ys a n (by omega) (by omega)) ok_218 rfl rfl SubD.nil rfl fun _ v27 _ => nl<|nx ?_
    refine bk<|lpE (σ := Nat × Nat × List Tcounted) [(0, _), (1, _), (2, _)] _ (fun s C => (6, .int .i64 (s.2.1 : Int)) :: C) (fun s => [@row Tcounted rcounted 150 v s.2.2, fz X w]) (fun _ Dc => Dc) (fun s => 20 ≤ s.2.1 ∧ n - s.2.1 ≤ s.1 ∧ s.2.2.length = xs.length ∧ outP ltC n s.1 s.2.1 s.2.2 = outP ltC n n 20 (blkP ltC n n 0 xs)) (fun s => n - s.2.1) (n, 20, insP ltC a n ys) ⟨rfl, rfl, rfl, trivial⟩ SubD.nil ⟨Nat.le_refl _, (by show n - 20 ≤ n; omega), hbl, (by rw [hb])⟩ ⟨rfl, rfl, rfl, rfl, trivial⟩ rfl SubD.nil ?_
    rintro ⟨g, z, zs⟩ ⟨hz, hg, hlz, hzs⟩
    simp only at hz hg hlz hzs
    show WC _ _ _ [(6, .int .i64 ((z : Int))), (0, _), (1, _), (2, _)] [@row Tcounted rcounted 150 v zs, fz X w] _
    refine sq<|sq<|rg<|mv rfl rfl<|mv rfl rfl<|ltI rfl rfl rfl<|nl<|nx<|cdP rfl (fun h30 => ?_) (fun h30 => ?_)
    ·
      refine sk<|nx<|bk<|sq<|rg<|mv rfl rfl<|mlE (r := ((2 * z : Nat) : Int)) rfl rfl (by omega) (inI (by omega) (by omega)) rfl<|asg rfl rfl<|asg rfl rfl<|nl<|nx<|sq<|bk<|lpE (σ := Nat × Nat × List Tcounted) [(0, _), (1, _), (2, _), (6, _)] _ (fun s C => (7, .int .i64 (s.2.1 : Int)) :: (8, .int .i64 ((2 * z + s.2.1 : Nat) : Int)) :: C) (fun s => [@row Tcounted rcounted 150 v s.2.2, fz X w]) (fun _ Dc => Dc) (fun s => s.2.1 ≤ n ∧ n - s.2.1 ≤ s.1 ∧ s.2.2.length = xs.length ∧ mrgP ltC n z s.1 s.2.1 s.2.2 = mrgP ltC n z n 0 zs) (fun s => n - s.2.1) (n, 0, zs) ⟨rfl, rfl, rfl, rfl, trivial⟩ SubD.nil ⟨Nat.zero_le _, Nat.le_refl _, hlz, rfl⟩ ⟨rfl, rfl, rfl, rfl, rfl, rfl, trivial⟩ rfl SubD.nil ?_
      rintro ⟨f, a, ys⟩ ⟨ha, hf, hl, hy⟩
      simp only at ha hf hl hy
      show WC _ _ _ [(7, .int .i64 ((a : Int))), (8, .int .i64 (((2 * z + a : Nat) : Int))), (0, _), (1, _), (2, _), (6, _)] [@row Tcounted rcounted 150 v ys, fz X w] _
      refine sq<|sq<|rg<|mv rfl rfl<|mv rfl rfl<|leI rfl rfl rfl<|nl<|nx<|cdP rfl (fun h35 => ?_) (fun h35 => ?_)
      ·
        refine sk<|nx<|bk<|sq<|rg<|mv rfl rfl<|mv rfl rfl<|mv rfl rfl<|mv rfl rfl<|adE (r := ((a + z : Nat) : Int)) rfl rfl (by omega) (inI (by omega) (by omega)) rfl<|mv rfl rfl<|mv rfl rfl<|cf1 0 (symM_c (2 * z) v ys a (a + z) (2 * z + a) (by omega) (by omega) (by omega) (by omega)) ok_219 rfl rfl SubD.nil rfl fun _ v43 _ => nl ?_
        refine nx<|sq<|rg<|mv rfl rfl<|asg rfl rfl<|nl<|nx<|rg<|mv rfl rfl<|mv rfl rfl<|mlE (r := ((2 * z : Nat) : Int)) rfl rfl (by omega) (inI (by omega) (by omega)) rfl<|adE (r := ((2 * z + (2 * z + a) : Nat) : Int)) rfl rfl (by omega) (inI (by omega) (by omega)) rfl<|asg rfl rfl<|nl ?_
        refine bN ?_
        exact ag ((f - 1, 2 * z + a, symP ltC (2 * z) a (a + z) (2 * z + a) ys) : Nat × Nat × List Tcounted) ⟨by show 2 * z + a ≤ n; omega, by show n - (2 * z + a) ≤ f - 1; omega, (symP_len ..).trans hl, (mrgP_le ltC (by omega) (by omega)).symm.trans hy⟩ (by show n - (2 * z + a) < n - a; omega) ⟨rfl, rfl, rfl, rfl, rfl, rfl, trivial⟩ rfl SubD.nil
      ·
        refine ex<|tE<|tE<|bE<|nx<|sq<|sq<|rg<|mv rfl rfl<|mv rfl rfl<|adE (r := ((a + z : Nat) : Int)) rfl rfl (by omega) (inI (by omega) (by omega)) rfl<|asg rfl rfl<|nl<|nx ?_
        refine sq<|rg<|mv rfl rfl<|mv rfl rfl<|ltI rfl rfl rfl<|nl<|nx<|cdP rfl (fun h54 => ?_) (fun h54 => ?_)
        ·
          refine rg<|mv rfl rfl<|mv rfl rfl<|mv rfl rfl<|mv rfl rfl<|mv rfl rfl<|cf1 0 (symM_c (n - a) v ys a (a + z) n (by omega) (by omega) (by omega) (by omega)) ok_219 rfl rfl SubD.nil rfl fun _ v60 _ => nl<|nx<|rg<|mv rfl rfl<|mlE (r := ((2 * z : Nat) : Int)) rfl rfl (by omega) (inI (by omega) (by omega)) rfl<|asg rfl rfl<|nl ?_
          refine bN ?_
          exact ag ((g - 1, 2 * z, symP ltC (n - a) a (a + z) n ys) : Nat × Nat × List Tcounted) ⟨by show 20 ≤ 2 * z; omega, by show n - 2 * z ≤ g - 1; omega, (symP_len ..).trans hl, by rw [outP_lt ltC (by omega) (by omega), ← hy, mrgP_end ltC (by omega), if_pos (by omega)] at hzs; exact hzs⟩ (by show n - 2 * z < n - z; omega) ⟨rfl, rfl, rfl, rfl, trivial⟩ rfl SubD.nil
        ·
          refine sk<|nx<|rg<|mv rfl rfl<|mlE (r := ((2 * z : Nat) : Int)) rfl rfl (by omega) (inI (by omega) (by omega)) rfl<|asg rfl rfl<|nl<|bN ?_
          exact ag ((g - 1, 2 * z, ys) : Nat × Nat × List Tcounted) ⟨by show 20 ≤ 2 * z; omega, by show n - 2 * z ≤ g - 1; omega, hl, by rw [outP_lt ltC (by omega) (by omega), ← hy, mrgP_end ltC (by omega), if_neg (by omega)] at hzs; exact hzs⟩ (by show n - 2 * z < n - z; omega) ⟨rfl, rfl, rfl, rfl, trivial⟩ rfl SubD.nil
    ·
      have hfin : zs = outP ltC n n 20 (blkP ltC n n 0 xs) := (outP_end ltC (by omega)).symm.trans hzs
      subst hfin
      exact ex<|tE<|tE<|bE<|fR0N () rfl trivial rfl SubD.nil

theorem sort_c (v : Value) (xs : List Tcounted)   : Fnc Tryz.prog 85 [v, (.func (.func 86) #[] #[])] [@row Tcounted rcounted 150 v xs] [] (fun (_ : Unit) _ => True) (fun _ _ => [@row Tcounted rcounted 150 v (sortP ltC xs)]) (fun _ _ => []) := by
  exact Fnc.proof Tryz.func85 rfl 9 rfl rfl fun X w => lenRC 0 rfl fun hlen => rg<|mv rfl rfl<|mv rfl rfl<|lnR 0 rfl rfl Tryz.underlying145 rfl fun l6 => mv rfl rfl<|cf1 0 (stable_c v xs xs.length (Nat.le_refl _)) ok_161 rfl rfl SubD.nil rfl fun _ v8 _ => nl<|fR0N () rfl trivial rfl SubD.nil
end Go.Proofs.YtmpoffijcfaalaaGreat

/- Lists joined: written by specs10.py. -/

namespace Go.Proofs.YtmpoffijcfaalaaGreat
open Go.Eng Go.YtmpoffijcfaalaaGreat

theorem grow_c (n : Nat) (hn : n ≤ 1000) : Fnc Tryz.prog 217 [.slice none 0 0, .int .i64 (n : Int)] [] [] (fun (_ : Unit) _ => True) (fun _ v => [@row HA rHA 70 v []]) (fun _ _ => []) := by
  refine Fnc.proof Tryz.func217 rfl 27 rfl rfl fun X w => sq<|rg<|asg rfl rfl<|nl<|nx<|sq<|sq<|rg<|mv rfl rfl<|ltI rfl rfl rfl<|nl<|nx<|cdP rfl (fun h6 => ?_) (fun h6 => ?_)
  ·
    exact absurd h6 (by omega) --#done
  ·
    refine sk<|nx<|sq<|sq<|rg<|mv rfl rfl<|mv rfl rfl<|cpV rfl Tryz.underlying50 rfl<|mv rfl rfl<|lnV rfl Tryz.underlying50 rfl<|sbI rfl rfl (inI (by omega) (by omega)) rfl<|sbE (r := ((n : Nat) : Int)) rfl rfl (by omega) (inI (by omega) (by omega)) rfl<|asg rfl rfl<|nl ?_
    refine nx<|sq<|rg<|mv rfl rfl<|gtI rfl rfl rfl<|nl<|nx<|cdP rfl (fun h16 => ?_) (fun h16 => ?_)
    ·
      refine rg<|mv rfl rfl<|mv rfl rfl<|cpV rfl Tryz.underlying50 rfl<|slV (h := 0) rfl slt_50 rfl (Nat.le_refl _) rfl<|mv rfl rfl<|apZ rfl rfl app_50 Tryz.underlying3 (by omega) (by omega) (by omega) rfl fun b22 G22 cs22 hc22 hg22 hm22 => mv rfl rfl<|lnV rfl Tryz.underlying50 rfl<|slV (h := 0) rfl slt_50 rfl (Nat.zero_le _) rfl<|rwZ (α := HA) hc22 hm22<|asg rfl rfl<|nl<|nx ?_
      exact sq<|rg<|mv rfl rfl<|asg rfl rfl<|nl<|nx<|rt<|fR1 () rfl rfl trivial rfl SubD.nil
    ·
      exact rwC HA 70<|sk<|nx<|sq<|rg<|mv rfl rfl<|asg rfl rfl<|nl<|nx<|rt<|fR1 () rfl rfl trivial rfl SubD.nil

theorem concat_c (v_q : Value) (q : List (List HA)) (hq : sumL q q.length ≤ 1000) : Fnc Tryz.prog 160 [v_q] [] [⟨v_q, q⟩] (fun (_ : Unit) _ => True) (fun _ v => [@row HA rHA 70 v q.flatten]) (fun _ _ => []) := by
  refine Fnc.proof Tryz.func160 rfl 36 rfl rfl fun X w => sq<|rg<|asg rfl rfl<|nl<|nx<|sq<|rg<|asg rfl rfl<|nl<|nx<|sq<|sq<|rg ?_
  refine mv rfl rfl<|lnP 0 rfl rfl Tryz.underlying272 rfl fun l10 => mv rfl rfl<|nl<|nx<|bk<|lpC (σ := Nat) [(0, _), (9, _), (10, _)] _ (fun i C => (11, .int .i64 (i : Int)) :: (3, .int .i64 ((sumL q i : Nat) : Int)) :: C) (fun i => i ≤ q.length) (fun i => q.length - i) 0 ⟨rfl, rfl, rfl, trivial⟩ (SubD.cons 0 rfl SubD.nil) (Nat.zero_le _) ⟨rfl, rfl, rfl, rfl, rfl, trivial⟩ ?_
  intro i hi
  refine sq<|rg<|ltI rfl rfl rfl<|nl<|nx<|sq<|cdP rfl (fun h12 => ?_) (fun h12 => ?_)
  ·
    refine sk<|nx<|sq<|bk<|sq<|rg<|ixP 0 rfl rfl rfl slt_272 (by omega) (getDE (d := default) (by omega)) rfl fun v13 => ldL 0 rfl rfl one_50 rfl fun v14 => asg rfl rfl<|nl<|nx<|sq<|rg<|mv rfl rfl ?_
    refine mv rfl rfl ?_
    have hs : sumL q (i + 1) = sumL q i + (q.getD (i : Int).toNat default).length := sumL_succ (q := q) (i := i) (by omega)
    have hs2 := sumL_le (q := q) (q.length - (i + 1)) (i + 1) (by omega)
    refine lnP 0 rfl rfl Tryz.underlying50 rfl fun l17 => adE (r := ((sumL q (i + 1) : Nat) : Int)) rfl rfl (by omega) (inI (by omega) (by omega)) rfl<|asg rfl rfl<|nl<|nx<|sq<|rg<|mv rfl rfl<|ltI rfl rfl rfl<|nl<|nx<|cdP rfl (fun h20 => ?_) (fun h20 => ?_)
    ·
      exact absurd h20 (by omega) --#done
    ·
      refine sk<|bN<|nx<|rg<|adI rfl rfl (inI (by omega) (by omega)) rfl<|mv rfl rfl<|nl ?_
      exact ag (i + 1) (by omega) (by omega) ⟨rfl, rfl, rfl, rfl, rfl, trivial⟩ rfl (SubD.cons 2 rfl SubD.nil)
  ·
    obtain rfl : i = q.length := by omega
    refine ex<|tE<|tE<|bE<|nx<|sq<|rg<|mv rfl rfl<|cf (grow_c (sumL q q.length) hq) ok_217 rfl SubD.nil rfl fun _ v24 _ => asg rfl rfl<|nl<|nx<|sq<|sq ?_
    refine rg<|mv rfl rfl<|lnP 0 rfl rfl Tryz.underlying272 rfl fun l26 => mv rfl rfl<|nl<|nx<|bk<|lpE (σ := Nat × Value) [(25, _), (26, _)] _ (fun s C => (27, .int .i64 (s.1 : Int)) :: (6, s.2) :: C) (fun s => [@row HA rHA 70 s.2 (catL q s.1), fz X w]) (fun _ Dc => Dc) (fun s => s.1 ≤ q.length) (fun s => q.length - s.1) (0, v24) ⟨rfl, rfl, trivial⟩ (SubD.cons 0 rfl SubD.nil) (Nat.zero_le _) ⟨rfl, rfl, rfl, rfl, trivial⟩ rfl (SubD.cons 0 rfl SubD.nil) ?_
    rintro ⟨i, rv⟩ hi
    simp only at hi
    show WC _ _ _ [(27, .int .i64 ((i : Int))), (6, _), (25, _), (26, _)] [@row HA rHA 70 rv (catL q i), fz X w] _
    refine sq<|rg<|ltI rfl rfl rfl<|nl<|nx<|sq<|cdP rfl (fun h28 => ?_) (fun h28 => ?_)
    ·
      refine sk<|nx<|sq<|bk<|sq<|rg<|ixP 0 rfl rfl rfl slt_272 (by omega) (getDE (d := default) (by omega)) rfl fun v29 => ldL 0 rfl rfl one_50 rfl fun v30 => asg rfl rfl<|nl<|nx<|rg<|mv rfl rfl<|mv rfl rfl ?_
      have hs : sumL q (i + 1) = sumL q i + (q.getD (i : Int).toNat default).length := sumL_succ (q := q) (i := i) (by omega)
      have hs2 := sumL_le (q := q) (q.length - (i + 1)) (i + 1) (by omega)
      have hc := catL_len q i
      refine ap 0 0 rfl rfl rfl rfl app_50 (by omega) (by omega) rfl fun v33 => asg rfl rfl<|nl<|bN<|nx<|rg<|adI rfl rfl (inI (by omega) (by omega)) rfl<|mv rfl rfl<|nl ?_
      rw [show catL q i ++ q.getD (i : Int).toNat default = catL q (i + 1) from (catL_succ (by omega)).symm]
      exact ag ((i + 1, v33) : Nat × Value) (by show i + 1 ≤ q.length; omega) (by show q.length - (i + 1) < q.length - i; omega) ⟨rfl, rfl, rfl, rfl, trivial⟩ rfl (SubD.cons 2 rfl SubD.nil)
    ·
      obtain rfl : i = q.length := by omega
      rw [catL_all]
      exact ex<|tE<|tE<|bE<|nx<|sq<|rg<|mv rfl rfl<|asg rfl rfl<|nl<|nx<|rt<|fR1 () rfl rfl trivial rfl SubD.nil
end Go.Proofs.YtmpoffijcfaalaaGreat

/- What ranges over all accounts that count, round by round. -/

namespace Go.Proofs.YtmpoffijcfaalaaGreat.Al
open Go.Eng Go.YtmpoffijcfaalaaGreat Go.RowKit
set_option maxHeartbeats 1000000

/-- What a round is handed. -/
def Item (SS : Nat → Prop) (W0 : World) := { p : HC // p.1.wf ∧ Atom.holds ⟨p.2, p.1.fAccount.fHolders⟩ SS W0 }
def encA {SS : Nat → Prop} {W0 : World} (x : Item SS W0) : Array Value := #[.agg (ccounted x.1.1 x.1.2).toArray]
def dat {SS : Nat → Prop} {W0 : World} (xs : List (Item SS W0)) : List Tcounted := xs.map (·.1.1)
theorem dat_snoc {SS : Nat → Prop} {W0 : World} (l : List (Item SS W0)) (y : Item SS W0) : dat (l ++ [y]) = dat l ++ [y.1.1] := by simp [dat]
structure Bs (SS : Nat → Prop) (k5 : Value) (ss : List TState) (W0 : World) : Prop where
  hl : Atom.holds ⟨k5, ss⟩ SS W0
  acc : ∀ S ∈ ss, S.fAccounts.length ≤ 500
  img : ∀ S ∈ ss, waitsP ss S = true → (rdState S.fImage).1.fAccounts.length ≤ 500 ∧ ∀ a ∈ (rdState S.fImage).1.fAccounts, a.fHolders = []
theorem stA1 {b1 : Nat} {k5 : Value} {w : World} (box : w.heap[b1]? = some (.cells #[k5] 28 (0, 0))) : St w [b1] w [bl b1 28 [k5]] := ⟨Stp.refl _ _, fun p hp => by
  have : p = bl b1 28 [k5] := by simpa using hp
  subst this
  exact box, by simp [Own.bs, bsOf], fun b hb => .inl (by simpa [Own.bs, bsOf] using hb)⟩
theorem stA2 {b1 b4 : Nat} {k5 : Value} {cs : List Value} {w : World} (box : w.heap[b1]? = some (.cells #[k5] 28 (0, 0))) (hne : b4 ≠ b1) (box4 : w.heap[b4]? = some (.cells cs.toArray 55 (0, 0))) : St w [b4, b1] w [bl b4 55 cs, bl b1 28 [k5]] := ⟨Stp.refl _ _, fun q hq => by
  have : q = bl b4 55 cs ∨ q = bl b1 28 [k5] := by simpa using hq
  rcases this with rfl | rfl
  · exact box4
  · exact box, by simp [Own.bs, bsOf, hne], fun b hb => .inl (by simpa [Own.bs, bsOf] using hb)⟩

theorem iterA (n ll : Nat) {n₀ b1 b3 : Nat} {SS : Nat → Prop} {W0 : World} (hSS : ∀ b, SS b → b < n₀ ∧ b ≠ b1 ∧ b ≠ b3) (J Jx : List (Item SS W0) → World → Prop) (W : World) (k5 : Value) (ss : List TState) (hB : Bs SS k5 ss W0) (hb1 : b1 < n₀) (hb3 : b3 < n₀) (hne : b1 ≠ b3) (hn0 : n₀ ≤ W.heap.size)
    (box : W.heap[b1]? = some (.cells #[k5] 28 (0, 0))) (h0W : KC n₀ b3 150 W0 W) (hJ : AbidesFrom W.heap.size J) (hJx : AbidesFrom W.heap.size Jx)
    (hY : ∀ pre x W1, J pre W1 → pre.length < (allU ss ss.length).length → YieldAt Fence.wide (n - 1) Tryz.prog ll (encA x) W1 fun e W' => (e = .returned (.bool true) ∧ J (pre ++ [x]) W' ∧ KC n₀ b3 150 W1 W') ∨ (e = .returned (.bool false) ∧ Jx (pre ++ [x]) W'))
    (hJ0 : J [] W) : Ret Tryz.prog 158 [.func (.yield ll) #[] #[], .pointer (some ⟨b1, 0, none⟩)] W (fun _ w' => (∃ xs, dat xs = allU ss ss.length ∧ J xs w') ∨ ∃ pre, Jx pre w') := by
  have keepJ : ∀ {pre : List (Item SS W0)} {w w' : World}, J pre w → Stp [] w w' → J pre w' := fun hj hs => hJ _ _ _ none hj hs.grown (fun r h => by cases h)
  obtain ⟨ysS, hS1, hS2, hS3⟩ := raw_of (s := sState) hB.hl
  have hSl : ysS.length = ss.length := by rw [← hS1]; simp
  have up : ∀ {t : Atom} {w : World} {L : Go.Eng.Own}, t.holds SS W0 → KC n₀ b3 150 W0 w → n₀ ≤ w.heap.size → (∀ b ∈ L.bs, b = b1 ∨ n₀ ≤ b) → t.holds (Sf L.bs w) w := fun h hk hn hL => Atom.keep h (fun b hb => ⟨Nat.lt_of_lt_of_le (hSS b hb).1 hn, fun hx => by
    rcases hL b hx with h | h
    · exact (hSS b hb).2.1 h
    · have := (hSS b hb).1
      omega⟩) (fun b hb => hk.block b (hSS b hb).1 (hSS b hb).2.2)
  refine enter [b1] [bl b1 28 [k5]] [⟨k5, ss⟩] Tryz.func158 rfl 47 rfl (Nat.le_of_ble_eq_true rfl) (stA1 box) (DH.cons (up hB.hl h0W hn0 (by simp [Own.bs, bsOf])) DH.nil)<|sq<|rg<|ldB 0 rfl rfl one_28 rfl rfl<|lnP 0 rfl rfl Tryz.underlying28 rfl fun l11 => mv rfl rfl<|nl<|nx<|bk ?_
  refine lpW (σ := Nat) (fun i => [(12, .int .i64 (i : Int)), (11, .int .i64 (ss.length : Int)), (10, k5), (1, .pointer (some ⟨b1, 0, none⟩)), (0, .func (.yield ll) #[] #[])])
    (fun i w => i ≤ ss.length ∧ (∃ pre, dat pre = allU ss i ∧ J pre w) ∧ KC n₀ b3 150 W w) (fun i => ss.length - i) 0 ⟨rfl, rfl, rfl, rfl, rfl, trivial⟩ ?_ ?_
  · intro w st dh
    have hb := Ep.bl_at 0 rfl st
    have hs : Stp [] W w := Ep.stp_own st.stp (hb.trans box.symm)
    exact ⟨Nat.zero_le _, ⟨[], rfl, keepJ hJ0 hs⟩, hs.kc hn0 (by simp)⟩
  · rintro i w ⟨hi, ⟨pre, hpre, hJw⟩, hK⟩ a f
    have box' : w.heap[b1]? = some (.cells #[k5] 28 (0, 0)) := (hK.block b1 hb1 hne).trans box
    have hn' : n₀ ≤ w.heap.size := Nat.le_trans hn0 hK.size
    have hK0 := h0W.trans hK
    by_cases hil : i < ss.length
    · obtain ⟨⟨S, h0, h1, h2, h3, h4, h5⟩, hx⟩ : ∃ p, ysS[i]? = some p := ⟨_, List.getElem?_eq_getElem (by omega)⟩
      have hSg : ss.getD i default = S := by rw [← hS1]; simp [List.getD, hx]
      have hSm : S ∈ ss := by rw [← hSg]; exact getD_mem hil
      have hsub := hS3 _ (List.mem_of_getElem? hx)
      have haA : Atom.holds ⟨h0, S.fAccounts⟩ SS W0 := hsub _ (List.mem_cons_self ..)
      obtain ⟨ysA, hA1, hA2, hA3⟩ := raw_of (s := sAccount) haA
      have hAl : ysA.length = S.fAccounts.length := by rw [← hA1]; simp
      have hU : ∀ {t : Atom}, t.holds SS W0 → t.holds (Sf (Own.bs [bl b1 28 [k5]]) w) w := fun h => up h hK0 hn' (by simp [Own.bs, bsOf])
      refine (show WC ⟨Tryz.prog, 47, w, [b1]⟩ _ _ _ [bl b1 28 [k5]] [rawA sState k5 ysS, ⟨k5, ss⟩, ⟨h0, S.fAccounts⟩, ⟨h1, S.fMarks⟩, ⟨h2, S.fWaits⟩, ⟨h3, S.fDeals⟩, ⟨h4, S.fEnds⟩, ⟨h5, S.fImage⟩, rawA sAccount h0 ysA] from ?_) a w f (stA1 box')
        (DH.cons (hU hS2) (DH.cons (hU hB.hl) (DH.cons (hU haA) (DH.cons (hU (hsub _ (by simp))) (DH.cons (hU (hsub _ (by simp))) (DH.cons (hU (hsub _ (by simp))) (DH.cons (hU (hsub _ (by simp))) (DH.cons (hU (hsub _ (by simp))) (DH.cons (hU hA2) DH.nil)))))))))
      refine sq<|rg<|ltI rfl rfl rfl<|nl<|nx<|sq<|cdT (by simp [ev, lk]; omega)<|sk<|nx<|sq<|bk<|sq<|rg<|ixP 0 rfl rfl rfl slt_28 (by omega) hx rfl fun v14 => ?_
      refine ldRaw (s := sState) 0 rfl rfl row_55 rfl fun w15 => al zero_55 rfl fun b4 => gtL (q := h0.oneCell' = true) (fun S w h => oneCell_of_list (h _ (List.mem_of_getElem? (i := 3) rfl))) fun o_h0 => gtL (q := h1.oneCell' = true) (fun S w h => oneCell_of_list (h _ (List.mem_of_getElem? (i := 4) rfl))) fun o_h1 => gtL (q := h2.oneCell' = true) (fun S w h => oneCell_of_list (h _ (List.mem_of_getElem? (i := 5) rfl))) fun o_h2 => gtL (q := h3.oneCell' = true) (fun S w h => oneCell_of_list (h _ (List.mem_of_getElem? (i := 6) rfl))) fun o_h3 => gtL (q := h4.oneCell' = true) (fun S w h => oneCell_of_list (h _ (List.mem_of_getElem? (i := 7) rfl))) fun o_h4 => gtL (q := h5.oneCell' = true) (fun S w h => oneCell_of_list (h _ (List.mem_of_getElem? (i := 8) rfl))) fun o_h5 => stW 0 (us := (cState S h0 h1 h2 h3 h4 h5)) rfl rfl rfl row_55 (by simp only [List.all_cons, List.all_nil, Bool.and_true, o_h0, o_h1, o_h2, o_h3, o_h4, o_h5]; rfl) rfl<|nl<|nx<|sq<|rg<|fa rfl fld_55_6 rfl ?_
      refine ldB 0 rfl rfl one_50 rfl rfl<|asg rfl rfl<|nl<|nx<|sq<|sq<|rg<|ldB 1 rfl rfl one_28 rfl rfl<|ldM 0 (cState S h0 h1 h2 h3 h4 h5) rfl rfl row_55 rfl rfl<|cfv (waits_c _ _ _ _ _ _ _ _ _ w15) ok_79 rfl (SubD.cons 2 rfl (SubD.cons 3 rfl (SubD.cons 4 rfl (SubD.cons 5 rfl (SubD.cons 6 rfl (SubD.cons 7 rfl (SubD.cons 8 rfl SubD.nil))))))) rfl<|nl<|nx ?_
      refine jnW (σ := Value × List HA) (fun s => [(5, s.1), (4, .pointer (some ⟨b4, 0, none⟩)), (12, .int .i64 (i : Int)), (11, .int .i64 (ss.length : Int)), (10, k5), (1, .pointer (some ⟨b1, 0, none⟩)), (0, .func (.yield ll) #[] #[])])
        (fun s w2 => s.2.map Prod.fst = listP ss S ∧ (∀ p ∈ s.2, Atom.holds ⟨p.2, p.1.fHolders⟩ SS W0) ∧ Rd n₀ b3 150 [b4, b1] s.1 s.2 w2 ∧ b4 ≠ b1 ∧ b4 ≠ b3 ∧ w2.heap[b4]? = some (.cells (cState S h0 h1 h2 h3 h4 h5).toArray 55 (0, 0)) ∧ Stp [] w w2) ?_ ?_
      · have hfin : ∀ {w2 : World} {L : Go.Eng.Own}, St w [b1] w2 (L ++ [bl b4 55 (cState S h0 h1 h2 h3 h4 h5), bl b1 28 [k5]]) → b4 ≠ b1 ∧ b4 ≠ b3 ∧ w2.heap[b4]? = some (.cells (cState S h0 h1 h2 h3 h4 h5).toArray 55 (0, 0)) ∧ Stp [] w w2 ∧ n₀ ≤ b4 := fun {w2 L} st => by
          have e4 := st.own (bl b4 55 (cState S h0 h1 h2 h3 h4 h5)) (by simp)
          have e1 := st.own (bl b1 28 [k5]) (by simp)
          have hnd := (St.dropA (A := L) st).nd
          have h41 : b4 ≠ b1 := by simpa [Own.bs, bsOf] using hnd
          have hge : w.heap.size ≤ b4 := by
            rcases (St.dropA (A := L) st).new b4 (by simp [Own.bs, bsOf]) with h | h
            · exact absurd (by simpa using h) h41
            · exact h
          exact ⟨h41, by omega, e4, Ep.stp_own st.stp (e1.trans box'.symm), by omega⟩
        refine cdB rfl (fun h20 => ?_) (fun h20 => ?_)
        · obtain ⟨hi1, hi2⟩ := hB.img S hSm h20
          refine sq<|rg<|fa rfl fld_55_13 rfl<|ldB 0 rfl rfl one_35 rfl rfl<|cf (rs_c _ _) ok_159 rfl (SubD.cons 8 rfl SubD.nil) rfl fun y24 v24 h24 => ?_
          obtain ⟨y24_0, y24_1, y24_2, y24_3, y24_4, y24_5⟩ := y24
          replace h24 : v24 = .tuple #[.agg (cState (rdState _).1 y24_0 y24_1 y24_2 y24_3 y24_4 y24_5).toArray, .int .i64 (rdState _).2] := h24
          subst h24
          refine mv rfl rfl<|xt rfl rfl rfl<|xt rfl rfl rfl<|al zero_55 rfl fun b6 => gtL (q := y24_0.oneCell' = true) (fun S w h => oneCell_of_list (h _ (List.mem_of_getElem? (i := 0) rfl))) fun o_y24_0 => gtL (q := y24_1.oneCell' = true) (fun S w h => oneCell_of_list (h _ (List.mem_of_getElem? (i := 1) rfl))) fun o_y24_1 => gtL (q := y24_2.oneCell' = true) (fun S w h => oneCell_of_list (h _ (List.mem_of_getElem? (i := 2) rfl))) fun o_y24_2 => gtL (q := y24_3.oneCell' = true) (fun S w h => oneCell_of_list (h _ (List.mem_of_getElem? (i := 3) rfl))) fun o_y24_3 => gtL (q := y24_4.oneCell' = true) (fun S w h => oneCell_of_list (h _ (List.mem_of_getElem? (i := 4) rfl))) fun o_y24_4 => gtL (q := y24_5.oneCell' = true) (fun S w h => oneCell_of_list (h _ (List.mem_of_getElem? (i := 5) rfl))) fun o_y24_5 => stW 0 (us := (cState ((rdState S.fImage).1) y24_0 y24_1 y24_2 y24_3 y24_4 y24_5)) rfl rfl rfl row_55 (by simp only [List.all_cons, List.all_nil, Bool.and_true, o_y24_0, o_y24_1, o_y24_2, o_y24_3, o_y24_4, o_y24_5]; rfl) rfl<|asg rfl rfl<|nl<|nx ?_
          refine rg<|mv rfl rfl<|fa rfl fld_55_6 rfl<|ldB 0 rfl rfl one_50 rfl rfl<|rawL (s := sAccount) 0 rfl fun ysI hI1 hI2 => ?_
          have hIl : ysI.length = (rdState S.fImage).1.fAccounts.length := by rw [← hI1]; simp
          refine bs1 (xs := [.tmp 27, .tmp 29]) (us := [h0, y24_0]) (E := 50) (bytes := 24) (n := 2) rfl (by exact app_272) (by simp only [List.all_cons, List.all_nil, Bool.and_true, o_h0, o_y24_0]) rfl rfl rfl rfl rfl fun b30 => frS (r := @repList _ (rawR sAccount)) [ysA, ysI] [[h0], [y24_0]] rfl (fun S w h => ⟨list_rd (h _ (List.mem_of_getElem? (i := 16) rfl)), list_rd (h _ (List.mem_of_getElem? (i := 0) rfl)), trivial⟩) (Nat.le_of_ble_eq_true rfl) ?_
          have hacc := hB.acc S hSm
          refine cf (concat_c _ [ysA, ysI] (by simp only [sumL]; simp; omega)) ok_160 rfl (SubD.cons 0 rfl SubD.nil) rfl fun _ v31 _ => asg rfl rfl<|nl ?_
          intro a' w' f' st' dh'
          have st' : St w [b1] w' [@row HA rHA 70 v31 [ysA, ysI].flatten, bl b6 55 (cState ((rdState S.fImage).1) y24_0 y24_1 y24_2 y24_3 y24_4 y24_5), bl b4 55 (cState S h0 h1 h2 h3 h4 h5), bl b1 28 [k5]] := st'
          obtain ⟨g1, g2, g3, g4, g5⟩ := hfin (L := [_, _]) st'
          have hrow := st'.own _ (List.mem_cons_self ..)
          refine ⟨(v31, [ysA, ysI].flatten), f'.sub ⟨rfl, rfl, rfl, rfl, rfl, rfl, rfl, trivial⟩, ?_, ?_, ?_, g1, g2, g3, g4⟩
          · show List.map Prod.fst [ysA, ysI].flatten = _
            rw [listP, if_pos h20, ← hA1, ← hI1]
            simp
          · intro p hp
            have hp : p ∈ ysA ∨ p ∈ ysI := by simpa using hp
            rcases hp with hp | hp
            · exact hA3 p hp _ (List.mem_cons_self ..)
            · obtain ⟨S', w'', h⟩ := hI2 p hp _ (List.mem_cons_self ..)
              have he : p.1.fHolders = [] := hi2 _ (by rw [← hI1]; exact List.mem_map.2 ⟨p, hp, rfl⟩)
              rw [he] at h ⊢
              exact emp_any h
          · refine rd_of_row (s := sAccount) hrow (by decide) fun b hb => ?_
            have hnd := st'.nd
            have hnew := st'.new b (mem_bsOf.2 ⟨_, List.mem_cons_self .., hb⟩)
            simp only [Own.bs, bsOf, List.nodup_append] at hnd
            have hd := hnd.2.2 b hb
            have e4 : b ≠ b4 := fun e => hd b4 (by simp) e
            have e1 : b ≠ b1 := fun e => hd b1 (by simp) e
            have hge : w.heap.size ≤ b := by
              rcases hnew with h | h
              · exact absurd (by simpa using h) e1
              · exact h
            exact ⟨by simp [e4, e1], by omega⟩
        · refine sk ?_
          intro a' w' f' st' dh'
          obtain ⟨g1, g2, g3, g4, g5⟩ := hfin (L := []) st'
          refine ⟨(h0, ysA), f'.sub ⟨rfl, rfl, rfl, rfl, rfl, rfl, rfl, trivial⟩, ?_, fun p hp => hA3 p hp _ (List.mem_cons_self ..), ?_, g1, g2, g3, g4⟩
          · show List.map Prod.fst ysA = _
            rw [listP, if_neg (by rw [h20]; decide), hA1]
          · have hkc := hK0.trans (g4.kc (b := b3) (E := 150) hn' (by simp))
            exact ⟨SS, Atom.keep hA2 (fun _ h => h) (fun b hb => hkc.block b (hSS b hb).1 (hSS b hb).2.2), fun b hb => ⟨Nat.lt_of_lt_of_le (hSS b hb).1 (Nat.le_trans hn' g4.size), by simp; exact ⟨by have := (hSS b hb).1; omega, (hSS b hb).2.1⟩, (hSS b hb).2.2, .inl (hSS b hb).1⟩⟩
      · rintro ⟨v5, ys⟩ w2 ⟨hy1, hy2, hRd, h41, h43, box4, hs2⟩ a2 f2
        simp only at hy1 hy2 hRd
        have hn2 : n₀ ≤ w2.heap.size := Nat.le_trans hn' hs2.size
        have hK2 : KC n₀ b3 150 W w2 := hK.trans (hs2.kc hn' (by simp))
        have box2 : w2.heap[b1]? = some (.cells #[k5] 28 (0, 0)) := (hK2.block b1 hb1 hne).trans box
        have hyl : ys.length = (listP ss S).length := by rw [← hy1]; simp
        have hall : allU ss (i + 1) = allU ss i ++ ys.map (fun p => cntOf S.fGroup p.1) := by
          rw [allU, hSg, ← hy1, List.map_map]
          rfl
        have hle : (allU ss (i + 1)).length ≤ (allU ss ss.length).length := by
          have := allU_le ss (ss.length - (i + 1)) (i + 1)
          rwa [show i + 1 + (ss.length - (i + 1)) = ss.length by omega] at this
        have hpl : pre.length = (allU ss i).length := by rw [← hpre]; simp [dat]
        have hjw2 : J pre w2 := keepJ hJw hs2
        refine (show WQ ⟨Tryz.prog, 47, w2, [b4, b1]⟩ _ .normal [(5, v5), (4, .pointer (some ⟨b4, 0, none⟩)), (12, .int .i64 (i : Int)), (11, .int .i64 (ss.length : Int)), (10, k5), (1, .pointer (some ⟨b1, 0, none⟩)), (0, .func (.yield ll) #[] #[])] [bl b4 55 (cState S h0 h1 h2 h3 h4 h5), bl b1 28 [k5]] [rawA sAccount v5 ys] from ?_) a2 w2 f2 (stA2 box2 h41 box4) (DH.cons (hRd.holds (by simp [Own.bs, bsOf])) DH.nil)
        refine nx<|sq<|rg<|mv rfl rfl<|lnP 0 rfl rfl Tryz.underlying50 rfl fun l33 => mv rfl rfl<|nl<|nx<|bk ?_
        refine lpW (σ := Nat) (fun k => [(34, .int .i64 (k : Int)), (33, .int .i64 (ys.length : Int)), (32, v5), (4, .pointer (some ⟨b4, 0, none⟩)), (12, .int .i64 (i : Int)), (11, .int .i64 (ss.length : Int)), (10, k5), (1, .pointer (some ⟨b1, 0, none⟩)), (0, .func (.yield ll) #[] #[])])
          (fun k w3 => k ≤ ys.length ∧ (∃ pre', dat pre' = allU ss i ++ (ys.take k).map (fun p => cntOf S.fGroup p.1) ∧ J pre' w3) ∧ KC n₀ b3 150 w2 w3) (fun k => ys.length - k) 0 ⟨rfl, rfl, rfl, rfl, rfl, rfl, rfl, rfl, rfl, trivial⟩ ?_ ?_
        · intro w' st dh
          have hs : Stp [] w2 w' := stp_drop st.stp (fun k hk => by
            have : k = b4 ∨ k = b1 := by simpa using hk
            rcases this with rfl | rfl
            · exact (Ep.bl_at 0 rfl st).trans box4.symm
            · exact (Ep.bl_at 1 rfl st).trans box2.symm)
          exact ⟨Nat.zero_le _, ⟨pre, by simp [hpre], keepJ hjw2 hs⟩, hs.kc hn2 (by simp)⟩
        · rintro k w3 ⟨hk, ⟨pre', hpre', hJ3⟩, hK3⟩ a3 f3
          have hn3 : n₀ ≤ w3.heap.size := Nat.le_trans hn2 hK3.size
          have box43 : w3.heap[b4]? = some (.cells (cState S h0 h1 h2 h3 h4 h5).toArray 55 (0, 0)) := hK3.typed b4 _ _ _ h43 (by decide) box4
          have box13 : w3.heap[b1]? = some (.cells #[k5] 28 (0, 0)) := (hK3.block b1 hb1 hne).trans box2
          have keep3 : ∀ {w4 : World} {L : Go.Eng.Own}, St w3 [b4, b1] w4 (L ++ [bl b4 55 (cState S h0 h1 h2 h3 h4 h5), bl b1 28 [k5]]) → Stp [] w3 w4 := fun {w4 L} st => stp_drop st.stp (fun q hq => by
            have : q = b4 ∨ q = b1 := by simpa using hq
            rcases this with rfl | rfl
            · exact (st.own (bl q 55 (cState S h0 h1 h2 h3 h4 h5)) (by simp)).trans box43.symm
            · exact (st.own (bl q 28 [k5]) (by simp)).trans box13.symm)
          refine (show WC ⟨Tryz.prog, 47, w3, [b4, b1]⟩ _ _ _ [bl b4 55 (cState S h0 h1 h2 h3 h4 h5), bl b1 28 [k5]] [rawA sAccount v5 ys] from ?_) a3 w3 f3 (stA2 box13 h41 box43) (DH.cons ((hRd.keep hK3).holds (by simp [Own.bs, bsOf])) DH.nil)
          refine sq<|rg<|ltI rfl rfl rfl<|nl<|nx<|sq<|cdP rfl (fun h35 => ?_) (fun h35 => ?_)
          · obtain ⟨p, hp⟩ : ∃ p, ys[k]? = some p := ⟨_, List.getElem?_eq_getElem (by omega)⟩
            have hpm := List.mem_of_getElem? hp
            have hpa := hy2 p hpm
            have hpo : p.2.oneCell' = true := oneCell_of_list hpa
            refine sk<|nx<|sq<|bk<|sq<|rg<|ixP 0 rfl rfl rfl slt_50 (by omega) hp rfl fun v36 => ldRaw (s := sAccount) (ov := p.1) (hh := p.2) 0 rfl rfl row_70 rfl fun w37 => al zero_70 rfl fun b9 => stW 0 (us := (cAccount p.1 p.2)) rfl rfl rfl row_70 (by simp only [List.all_cons, List.all_nil, Bool.and_true, hpo]; rfl) rfl<|nl<|nx<|sq ?_
            intro a4 w4 f4 st4 dh4
            have st4 : St w3 [b4, b1] w4 [bl b9 70 (cAccount p.1 p.2), bl b4 55 (cState S h0 h1 h2 h3 h4 h5), bl b1 28 [k5]] := st4
            refine (wpIn_wide (n := n)).1 (wpIn_region_lit (listIn_head (tl := [_, _]) [_, _, _, _, _] a4 w4 ?_))
            refine (show WL (fun e a w => e = .normal ∧ wpListIn Fence.wide n Tryz.prog _ _ _ a w) ⟨Tryz.prog, 47, w3, [b4, b1]⟩ _ _ _ [bl b9 70 (cAccount p.1 p.2), bl b4 55 (cState S h0 h1 h2 h3 h4 h5), bl b1 28 [k5]] [] from ?_) a4 w4 f4 st4 DH.nil
            refine mv rfl rfl<|ldM 0 (cAccount p.1 p.2) rfl rfl row_70 rfl rfl<|fa rfl fld_55_0 rfl<|ldB 1 rfl rfl one_3 rfl rfl<|bd (ps := [(0, .tmp 39), (1, .tmp 41)]) (cs := (ccounted (({ fAccount := p.1, fGroup := S.fGroup } : Tcounted)) p.2)) (by rfl) (by kernel_rfl) rfl<|nl ?_
            intro a5 w5 f5 st5 dh5
            have hs5 : Stp [] w3 w5 := keep3 (L := [_]) st5
            have hlen : pre'.length < (allU ss ss.length).length := by
              have e1 : pre'.length = (allU ss i).length + k := by
                have := congrArg List.length hpre'
                simpa [dat, Nat.min_eq_left hk] using this
              have e2 := congrArg List.length hall
              simp only [List.length_append, List.length_map] at e2
              omega
            have hSw : InI S.fGroup := w15.1
            obtain ⟨fn, tmps, assign, body, hy, hR⟩ := hY pre' ⟨(⟨p.1, S.fGroup⟩, p.2), ⟨w37, hSw⟩, hpa⟩ w5 (keepJ hJ3 hs5) hlen
            refine ⟨rfl, listIn_plain rfl (round_in rfl rfl (fun _ => trivial) (run_round rfl (f5.ev rfl) (f5.evs rfl) hy) (hR.mono ?_))⟩
            have hnext : dat (pre' ++ [⟨(⟨p.1, S.fGroup⟩, p.2), ⟨w37, hSw⟩, hpa⟩]) = allU ss i ++ (ys.take (k + 1)).map (fun p => cntOf S.fGroup p.1) := (dat_snoc _ _).trans (by
              show dat pre' ++ [cntOf S.fGroup p.1] = _
              rw [hpre', List.take_add_one, hp, List.append_assoc, List.map_append]
              rfl)
            rintro e W' (⟨rfl, hJ6, hk6⟩ | ⟨rfl, hJ6⟩)
            · refine ⟨_, rfl, listIn_plain rfl (not_in rfl rfl ((f5.put (d := 43) (.bool true) (by show 43 < 47; decide)).ev rfl) (fun _ => trivial) (wpListIn_nil ?_))⟩
              have f6 := (f5.put (d := 43) (.bool true) (by show 43 < 47; decide)).put (d := 44) (.bool false) (by show 44 < 47; decide)
              refine (show WQ ⟨Tryz.prog, 47, W', []⟩ _ .normal _ [] [] from ?_) _ W' f6 (St.start W' []) DH.nil
              refine nx<|cdF rfl<|sk<|bN<|nx<|rg<|adI rfl rfl (inI (by omega) (by omega)) rfl<|mv rfl rfl<|nl ?_
              intro a7 w7 f7 st7 _
              have hs7 : Stp [] W' w7 := st7.stp
              exact ⟨k + 1, by omega, f7.sub ⟨rfl, rfl, rfl, rfl, rfl, rfl, rfl, rfl, rfl, trivial⟩, by omega, ⟨_, hnext, keepJ hJ6 hs7⟩, hK3.trans ((hs5.kc hn3 (by simp)).trans (hk6.trans (hs7.kc (Nat.le_trans hn3 (Nat.le_trans hs5.size hk6.size)) (by simp))))⟩
            · refine ⟨_, rfl, listIn_plain rfl (not_in rfl rfl ((f5.put (d := 43) (.bool false) (by show 43 < 47; decide)).ev rfl) (fun _ => trivial) (wpListIn_nil ?_))⟩
              have f6 := (f5.put (d := 43) (.bool false) (by show 43 < 47; decide)).put (d := 44) (.bool true) (by show 44 < 47; decide)
              refine (show WQ ⟨Tryz.prog, 47, W', []⟩ _ .normal _ [] [] from ?_) _ W' f6 (St.start W' []) DH.nil
              refine nx<|cdT rfl<|rt<|bR<|tR<|tR<|bR<|bR<|tR<|tR<|bR ?_
              intro a7 w7 f7 st7 _
              have hs7 : Stp [] W' w7 := st7.stp
              exact bodyPost_ret (results_none rfl _ _ _) f7.dn ⟨_, rfl, .inr ⟨_, hJx _ _ _ none hJ6 hs7.grown (fun r h => by cases h)⟩⟩
          · refine ex ?_
            refine tE<|tE<|bE<|bN<|nx<|rg<|adI rfl rfl (inI (by omega) (by omega)) rfl<|mv rfl rfl<|nl ?_
            intro a7 w7 f7 st7 _
            have hs7 : Stp [] w3 w7 := keep3 (L := []) st7
            have hkl : k = ys.length := by omega
            refine ⟨i + 1, by omega, f7.sub ⟨rfl, rfl, rfl, rfl, rfl, trivial⟩, by omega, ⟨pre', ?_, keepJ hJ3 hs7⟩, hK2.trans (hK3.trans (hs7.kc hn3 (by simp)))⟩
            rw [hall, hpre', hkl, List.take_length]
    · refine (show WC ⟨Tryz.prog, 47, w, [b1]⟩ _ _ _ [bl b1 28 [k5]] [] from ?_) a w f (stA1 box') DH.nil
      refine sq<|rg<|ltI rfl rfl rfl<|nl<|nx<|sq<|cdF (by simp [ev, lk]; omega)<|ex<|tE<|tE<|bE ?_
      intro a' w' f' st' dh'
      have e : i = ss.length := by omega
      subst e
      have hs : Stp [] w w' := Ep.stp_own st'.stp ((Ep.bl_at 0 rfl st').trans box'.symm)
      exact bodyPost_end (results_none rfl _ _ _) f'.dn ⟨_, rfl, .inl ⟨pre, hpre, keepJ hJw hs⟩⟩
end Go.Proofs.YtmpoffijcfaalaaGreat.Al
