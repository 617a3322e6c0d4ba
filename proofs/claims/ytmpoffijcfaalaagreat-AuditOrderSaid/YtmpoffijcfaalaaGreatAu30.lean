/- Part 30 of the proof of auditOrder_holds: AudW3. Every text below begins with what it shows. -/
import Derived.Test.YtmpoffijcfaalaaGreatAu29

/- What is in order is brought into one order: written by specs10.py. -/

namespace Go.Proofs.YtmpoffijcfaalaaGreat
open Go.Eng Go.YtmpoffijcfaalaaGreat

theorem symM_step (v : Value) (xs : List Tcounted) (a m b f : Nat) (ih : ∀ (v : Value) (xs : List Tcounted) (a m b : Nat), a < m → m < b → b ≤ xs.length → b - a ≤ f → Fnc Tryz.prog 219 [v, .int .i64 (a : Int), .int .i64 (m : Int), .int .i64 (b : Int), (.func (.func 86) #[] #[])] [@row Tcounted rcounted 150 v xs] [] (fun (_ : Unit) _ => True) (fun _ _ => [@row Tcounted rcounted 150 v (symP ltC f a m b xs)]) (fun _ _ => [])) (ha : a < m) (hm : m < b) (hb : b ≤ xs.length) (hf : b - a ≤ f + 1) : Fnc Tryz.prog 219 [v, .int .i64 (a : Int), .int .i64 (m : Int), .int .i64 (b : Int), (.func (.func 86) #[] #[])] [@row Tcounted rcounted 150 v xs] [] (fun (_ : Unit) _ => True) (fun _ _ => [@row Tcounted rcounted 150 v (symP ltC (f + 1) a m b xs)]) (fun _ _ => []) := by
  refine Fnc.proof Tryz.func219 rfl 220 rfl rfl fun X w => lenRC 0 rfl fun hlen => sq<|sq<|rg<|mv rfl rfl<|mv rfl rfl<|sbI rfl rfl (inI (by omega) (by omega)) rfl<|eqI rfl rfl rfl<|nl<|nx<|cdP rfl (fun h28 => ?_) (fun h28 => ?_)
  ·
    refine sq<|rg<|mv rfl rfl<|asg rfl rfl<|nl<|nx<|sq<|rg<|mv rfl rfl<|asg rfl rfl<|nl<|nx<|sq<|bk ?_
    refine lpC (σ := Nat × Nat × Nat) [(0, _), (1, _), (4, _)] _ (fun s C => (10, .int .i64 (s.2.1 : Int)) :: (11, .int .i64 (s.2.2 : Int)) :: C) (fun s => m ≤ s.2.1 ∧ s.2.1 ≤ s.2.2 ∧ s.2.2 ≤ b ∧ s.2.2 - s.2.1 ≤ s.1 ∧ search (fun q => ltC (xs.getD q default) (xs.getD a default)) s.1 s.2.1 s.2.2 = search (fun q => ltC (xs.getD q default) (xs.getD a default)) (b - m) m b) (fun s => s.2.2 - s.2.1) (b - m, m, b) ⟨rfl, rfl, rfl, trivial⟩ SubD.nil ⟨Nat.le_refl _, (by show m ≤ b; omega), Nat.le_refl _, (by show b - m ≤ b - m; omega), rfl⟩ ⟨rfl, rfl, rfl, rfl, rfl, trivial⟩ ?_
    rintro ⟨n, i, j⟩ ⟨h1, h2, h3, hn, hs⟩
    simp only at h1 h2 h3 hn hs
    show WC _ _ _ [(10, .int .i64 (i : Int)), (11, .int .i64 (j : Int)), (0, _), (1, _), (4, _)] _ _
    refine sq<|sq<|rg<|mv rfl rfl<|mv rfl rfl<|ltI rfl rfl rfl<|nl<|nx<|cdP rfl (fun h33 => ?_) (fun h33 => ?_)
    ·
      refine sk<|nx<|bk<|sq<|rg<|mv rfl rfl<|mv rfl rfl<|adE (r := ((i + j : Nat) : Int)) rfl rfl (by omega) (inI (by omega) (by omega)) rfl<|cv Tryz.underlying3 Tryz.underlying278 rfl (u64_nat (by omega)) rfl<|shR rfl rfl (by omega) (shr1n _) rfl<|cv Tryz.underlying278 Tryz.underlying3 rfl (i64_nat (by omega)) rfl<|asg rfl rfl<|nl<|nx ?_
      refine sq<|rgQ mixed (by kernel_rfl)<|mv rfl rfl<|mv rfl rfl<|mv rfl rfl<|ixN 0 (((i + j) / 2 : Nat)) rfl rfl rfl slt_145 (by omega) (by omega) rfl<|ldR (s := scounted) 0 (((i + j) / 2 : Nat)) rfl rfl (getDE (d := default) (by omega)) row_150 rfl fun q44 w44 => mv rfl rfl<|mv rfl rfl<|ixN 0 (a) rfl rfl rfl slt_145 (by omega) (by omega) rfl<|ldR (s := scounted) 0 (a) rfl rfl (getDE (d := default) (by omega)) row_150 rfl fun q48 w48 => cfqc (cmpC_c _ _ _ _ w44 w48) ok_86 rfl rfl rfl (SubD.cons 3 rfl (SubD.cons 1 rfl SubD.nil)) rfl<|ltI rfl rfl rfl<|nlQ ?_
      refine nx<|cdP rfl (fun h50 => ?_) (fun h50 => ?_)
      ·
        refine rg<|mv rfl rfl<|adE (r := (((i + j) / 2 + 1 : Nat) : Int)) rfl rfl (by omega) (inI (by omega) (by omega)) rfl<|asg rfl rfl<|nl<|bN ?_
        exact ag ((n - 1, (i + j) / 2 + 1, j) : Nat × Nat × Nat) ⟨(by show m ≤ (i + j) / 2 + 1; omega), (by show (i + j) / 2 + 1 ≤ j; omega), (by show j ≤ b; omega), (by show j - ((i + j) / 2 + 1) ≤ n - 1; omega), (search_t (fun q => ltC (xs.getD q default) (xs.getD a default)) (by omega) hn (decide_eq_true h50)).symm.trans hs⟩ (by show j - ((i + j) / 2 + 1) < j - i; omega) ⟨rfl, rfl, rfl, rfl, rfl, trivial⟩ rfl SubD.nil
      ·
        refine rg<|mv rfl rfl<|asg rfl rfl<|nl<|bN ?_
        exact ag ((n - 1, i, (i + j) / 2) : Nat × Nat × Nat) ⟨(by show m ≤ i; omega), (by show i ≤ (i + j) / 2; omega), (by show (i + j) / 2 ≤ b; omega), (by show (i + j) / 2 - i ≤ n - 1; omega), (search_f (fun q => ltC (xs.getD q default) (xs.getD a default)) (by omega) hn (fun q => h50 (of_decide_eq_true q))).symm.trans hs⟩ (by show (i + j) / 2 - i < j - i; omega) ⟨rfl, rfl, rfl, rfl, rfl, trivial⟩ rfl SubD.nil
    ·
      have e : i = search (fun q => ltC (xs.getD q default) (xs.getD a default)) (b - m) m b := by rw [← hs, search_end _ _ _ _ (by omega)]
      refine ex<|tE<|tE<|bE<|nx<|sq<|sq<|rg<|mv rfl rfl<|asg rfl rfl<|nl<|nx<|bk<|lpE (σ := Nat × List Tcounted) [(0, _), (10, _)] _ (fun s C => (13, .int .i64 (s.1 : Int)) :: C) (fun s => [@row Tcounted rcounted 150 v s.2, fz X w]) (fun _ Dc => Dc) (fun s => a ≤ s.1 ∧ s.1 ≤ i - 1 ∧ s.2.length = xs.length ∧ shU (i - 1 - s.1) s.1 s.2 = shU (i - 1 - a) a xs) (fun s => i - 1 - s.1) (a, xs) ⟨rfl, rfl, trivial⟩ SubD.nil ⟨Nat.le_refl _, (by show a ≤ i - 1; omega), rfl, rfl⟩ ⟨rfl, rfl, rfl, trivial⟩ rfl SubD.nil ?_
      rintro ⟨k, ys⟩ ⟨hk0, hk1, hl, hy⟩
      simp only at hk0 hk1 hl hy
      show WC _ _ _ [(13, .int .i64 ((k : Int))), (0, _), (10, _)] [@row Tcounted rcounted 150 v ys, fz X w] _
      refine sq<|sq<|rg<|mv rfl rfl<|mv rfl rfl<|sbE (r := ((i - 1 : Nat) : Int)) rfl rfl (by omega) (inI (by omega) (by omega)) rfl<|ltI rfl rfl rfl<|nl<|nx<|cdP rfl (fun h58 => ?_) (fun h58 => ?_)
      ·
        refine sk<|nx<|sq<|bk ?_
        refine rgH ⟨fun q_ => ([[], [], [], [], [3], [], [], [6], [5, 7], [8], [], [], [10, 11], [12], [0, 1], [14, 9], [2, 4], [16, 13]] : List (List Nat)).getD q_ [], fun _ _ => True, fun q_ => ([fun _ => [], fun _ => [], fun _ => [], fun _ => [], fun _ => [], fun _ => [], fun _ => [], fun _ => [], fun _ => [], fun u => [(@Atom.mk Tcounted rcounted u (ys.getD ((k) + 1) default))], fun _ => [], fun _ => [], fun _ => [], fun u => [(@Atom.mk Tcounted rcounted u (ys.getD (k) default))], fun _ => [], fun _ => [], fun _ => [], fun _ => []] : List (Value → List Atom)).getD q_ (fun _ => []), fun q_ => ([some (v), some (.int .i64 ((k : Int))), some (v), some (.int .i64 ((k : Int))), some (.int .i64 (((k : Int) + 1))), some (v), some (.int .i64 ((k : Int))), some (.int .i64 (((k : Int) + 1))), some ((elp v (((k) + 1) * 11))), none, some (v), some (.int .i64 ((k : Int))), some ((elp v ((k) * 11))), none, some ((elp v ((k) * 11))), none, some ((elp v (((k) + 1) * 11))), none] : List (Option Value)).getD q_ none, fun h_ => match h_ with
            | [] => fun vs_ => [row 150 v ys, fz X w]
            | [15] => fun vs_ => [row 150 v (ys.set (k) (ys.getD ((k) + 1) default)), fz X w]
            | [15, 17] => fun vs_ => [row 150 v ((ys.set (k) (ys.getD ((k) + 1) default)).set ((k) + 1) (ys.getD (k) default)), fz X w]
            | _ => fun _ => [], [15, 17], [[], [15], [15, 17]]⟩ (fun V => [row 150 v ((ys.set (k) (ys.getD ((k) + 1) default)).set ((k) + 1) (ys.getD (k) default)), fz X w]) mixed rfl rfl (show AllP _ [[15, 17]] from ⟨fun _ => rfl, trivial⟩) ?_ ?_
        ·
          refine ⟨fun V De _ => (show AllP _ [[]] from ⟨?_, trivial⟩), ?_⟩
          ·
            exact mv rfl rfl<|nl (odH rfl rfl rfl rfl SubD.nil SubD.refl)
          refine ⟨fun V De _ => (show AllP _ [[]] from ⟨?_, trivial⟩), ?_⟩
          ·
            exact mv rfl rfl<|nl (odH rfl rfl rfl rfl SubD.nil SubD.refl)
          refine ⟨fun V De _ => (show AllP _ [[], [15]] from ⟨?_, ?_, trivial⟩), ?_⟩
          ·
            exact mv rfl rfl<|nl (odH rfl rfl rfl rfl SubD.nil SubD.refl)
          ·
            exact mv rfl rfl<|nl (odH rfl rfl rfl rfl SubD.nil SubD.refl)
          refine ⟨fun V De _ => (show AllP _ [[], [15]] from ⟨?_, ?_, trivial⟩), ?_⟩
          ·
            exact mv rfl rfl<|nl (odH rfl rfl rfl rfl SubD.nil SubD.refl)
          ·
            exact mv rfl rfl<|nl (odH rfl rfl rfl rfl SubD.nil SubD.refl)
          refine ⟨fun V De _ => (show AllP _ [[], [15]] from ⟨?_, ?_, trivial⟩), ?_⟩
          ·
            exact adI rfl rfl (inI (by omega) (by omega)) rfl<|nl (odH rfl rfl rfl rfl SubD.nil SubD.refl)
          ·
            exact adI rfl rfl (inI (by omega) (by omega)) rfl<|nl (odH rfl rfl rfl rfl SubD.nil SubD.refl)
          refine ⟨fun V De _ => (show AllP _ [[]] from ⟨?_, trivial⟩), ?_⟩
          ·
            exact mv rfl rfl<|nl (odH rfl rfl rfl rfl SubD.nil SubD.refl)
          refine ⟨fun V De _ => (show AllP _ [[]] from ⟨?_, trivial⟩), ?_⟩
          ·
            exact mv rfl rfl<|nl (odH rfl rfl rfl rfl SubD.nil SubD.refl)
          refine ⟨fun V De _ => (show AllP _ [[]] from ⟨?_, trivial⟩), ?_⟩
          ·
            exact adI rfl rfl (inI (by omega) (by omega)) rfl<|nl (odH rfl rfl rfl rfl SubD.nil SubD.refl)
          refine ⟨fun V De _ => (show AllP _ [[]] from ⟨?_, trivial⟩), ?_⟩
          ·
            exact ixN 0 ((k) + 1) rfl rfl rfl slt_145 (by omega) (by omega) rfl<|nl (odH rfl rfl rfl rfl SubD.nil SubD.refl)
          refine ⟨fun V De _ => (show AllP _ [[]] from ⟨?_, trivial⟩), ?_⟩
          ·
            exact ldR (s := scounted) 0 ((k) + 1) rfl rfl (getDE (d := default) (by omega)) row_150 rfl fun q70 w70 => nl (odH rfl rfl rfl trivial (SubD.cons 0 rfl SubD.nil) (SubD.tail (SubD.tail SubD.refl)))
          refine ⟨fun V De _ => (show AllP _ [[], [15]] from ⟨?_, ?_, trivial⟩), ?_⟩
          ·
            exact mv rfl rfl<|nl (odH rfl rfl rfl rfl SubD.nil SubD.refl)
          ·
            exact mv rfl rfl<|nl (odH rfl rfl rfl rfl SubD.nil SubD.refl)
          refine ⟨fun V De _ => (show AllP _ [[], [15]] from ⟨?_, ?_, trivial⟩), ?_⟩
          ·
            exact mv rfl rfl<|nl (odH rfl rfl rfl rfl SubD.nil SubD.refl)
          ·
            exact mv rfl rfl<|nl (odH rfl rfl rfl rfl SubD.nil SubD.refl)
          refine ⟨fun V De _ => (show AllP _ [[], [15]] from ⟨?_, ?_, trivial⟩), ?_⟩
          ·
            exact ixN 0 (k) rfl rfl rfl slt_145 (by omega) (by omega) rfl<|nl (odH rfl rfl rfl rfl SubD.nil SubD.refl)
          ·
            exact ixN 0 (k) rfl rfl rfl slt_145 (by omega) (by simp only [List.length_set]; omega) rfl<|nl (odH rfl rfl rfl rfl SubD.nil SubD.refl)
          refine ⟨fun V De _ => (show AllP _ [[]] from ⟨?_, trivial⟩), ?_⟩
          ·
            exact ldR (s := scounted) 0 (k) rfl rfl (getDE (d := default) (by omega)) row_150 rfl fun q74 w74 => nl (odH rfl rfl rfl trivial (SubD.cons 0 rfl SubD.nil) (SubD.tail (SubD.tail SubD.refl)))
          refine ⟨fun V De _ => (show AllP _ [[]] from ⟨?_, trivial⟩), ?_⟩
          ·
            exact ixN 0 (k) rfl rfl rfl slt_145 (by omega) (by omega) rfl<|nl (odH rfl rfl rfl rfl SubD.nil SubD.refl)
          refine ⟨fun V De _ => (show AllP _ [[]] from ⟨?_, trivial⟩), ?_⟩
          ·
            exact stA (s := scounted) 0 (k) 0 rfl rfl rfl rfl (by omega) row_150<|nl (od0H rfl rfl (SubD.tail SubD.refl))
          refine ⟨fun V De _ => (show AllP _ [[15]] from ⟨?_, trivial⟩), ?_⟩
          ·
            exact ixN 0 ((k) + 1) rfl rfl rfl slt_145 (by omega) (by simp only [List.length_set]; omega) rfl<|nl (odH rfl rfl rfl rfl SubD.nil SubD.refl)
          refine ⟨fun V De _ => (show AllP _ [[15]] from ⟨?_, trivial⟩), ?_⟩
          ·
            exact stA (s := scounted) 0 ((k) + 1) 0 rfl rfl rfl rfl (by simp only [List.length_set]; omega) row_150<|nl (od0H rfl rfl (SubD.tail SubD.refl))
          trivial
        ·
          intro V _
          refine wkQ (L := [row 150 v ((ys.set (k) (ys.getD ((k) + 1) default)).set ((k) + 1) (ys.getD (k) default)), fz X w]) [(0, _), (10, _), (13, _)] [] ⟨rfl, rfl, rfl, trivial⟩ SubD.nil<|bN<|nx<|rg<|mv rfl rfl<|adE (r := ((k + 1 : Nat) : Int)) rfl rfl (by omega) (inI (by omega) (by omega)) rfl<|asg rfl rfl<|nl ?_
          exact ag ((k + 1, swapL ys k (k + 1)) : Nat × List Tcounted) ⟨by show a ≤ k + 1; omega, by show k + 1 ≤ i - 1; omega, (swapL_len _ _ _).trans hl, (shU_lt (by omega)).symm.trans hy⟩ (by show i - 1 - (k + 1) < i - 1 - k; omega) ⟨rfl, rfl, rfl, trivial⟩ rfl SubD.nil
      ·
        have hfin : ys = symP ltC (f + 1) a m b xs := by
          rw [symP, if_pos (by omega), ← e, ← hy, show i - 1 - k = 0 by omega]
          rfl
        subst hfin
        exact ex<|tE<|tE<|bE<|nx<|rt<|tR<|fR0 () rfl trivial rfl SubD.nil
  ·
    refine sk<|nx<|sq<|sq<|rg<|mv rfl rfl<|mv rfl rfl<|sbI rfl rfl (inI (by omega) (by omega)) rfl<|eqI rfl rfl rfl<|nl<|nx<|cdP rfl (fun h80 => ?_) (fun h80 => ?_)
    ·
      refine sq<|rg<|mv rfl rfl<|asg rfl rfl<|nl<|nx<|sq<|rg<|mv rfl rfl<|asg rfl rfl<|nl<|nx<|sq<|bk ?_
      refine lpC (σ := Nat × Nat × Nat) [(0, _), (2, _), (4, _)] _ (fun s C => (14, .int .i64 (s.2.1 : Int)) :: (15, .int .i64 (s.2.2 : Int)) :: C) (fun s => a ≤ s.2.1 ∧ s.2.1 ≤ s.2.2 ∧ s.2.2 ≤ m ∧ s.2.2 - s.2.1 ≤ s.1 ∧ search (fun q => !ltC (xs.getD m default) (xs.getD q default)) s.1 s.2.1 s.2.2 = search (fun q => !ltC (xs.getD m default) (xs.getD q default)) (m - a) a m) (fun s => s.2.2 - s.2.1) (m - a, a, m) ⟨rfl, rfl, rfl, trivial⟩ SubD.nil ⟨Nat.le_refl _, (by show a ≤ m; omega), Nat.le_refl _, (by show m - a ≤ m - a; omega), rfl⟩ ⟨rfl, rfl, rfl, rfl, rfl, trivial⟩ ?_
      rintro ⟨n, i, j⟩ ⟨h1, h2, h3, hn, hs⟩
      simp only at h1 h2 h3 hn hs
      show WC _ _ _ [(14, .int .i64 (i : Int)), (15, .int .i64 (j : Int)), (0, _), (2, _), (4, _)] _ _
      refine sq<|sq<|rg<|mv rfl rfl<|mv rfl rfl<|ltI rfl rfl rfl<|nl<|nx<|cdP rfl (fun h85 => ?_) (fun h85 => ?_)
      ·
        refine sk<|nx<|bk<|sq<|rg<|mv rfl rfl<|mv rfl rfl<|adE (r := ((i + j : Nat) : Int)) rfl rfl (by omega) (inI (by omega) (by omega)) rfl<|cv Tryz.underlying3 Tryz.underlying278 rfl (u64_nat (by omega)) rfl<|shR rfl rfl (by omega) (shr1n _) rfl<|cv Tryz.underlying278 Tryz.underlying3 rfl (i64_nat (by omega)) rfl<|asg rfl rfl<|nl<|nx ?_
        refine sq<|rgQ mixed (by kernel_rfl)<|mv rfl rfl<|mv rfl rfl<|mv rfl rfl<|ixN 0 (m) rfl rfl rfl slt_145 (by omega) (by omega) rfl<|ldR (s := scounted) 0 (m) rfl rfl (getDE (d := default) (by omega)) row_150 rfl fun q96 w96 => mv rfl rfl<|mv rfl rfl<|ixN 0 (((i + j) / 2 : Nat)) rfl rfl rfl slt_145 (by omega) (by omega) rfl<|ldR (s := scounted) 0 (((i + j) / 2 : Nat)) rfl rfl (getDE (d := default) (by omega)) row_150 rfl fun q100 w100 => cfqc (cmpC_c _ _ _ _ w96 w100) ok_86 rfl rfl rfl (SubD.cons 3 rfl (SubD.cons 1 rfl SubD.nil)) rfl<|ltI rfl rfl rfl<|nt rfl rfl ?_
        refine nlQ<|nx<|cdN rfl (fun h103 => ?_) (fun h103 => ?_)
        ·
          refine rg<|mv rfl rfl<|adE (r := (((i + j) / 2 + 1 : Nat) : Int)) rfl rfl (by omega) (inI (by omega) (by omega)) rfl<|asg rfl rfl<|nl<|bN ?_
          exact ag ((n - 1, (i + j) / 2 + 1, j) : Nat × Nat × Nat) ⟨(by show a ≤ (i + j) / 2 + 1; omega), (by show (i + j) / 2 + 1 ≤ j; omega), (by show j ≤ m; omega), (by show j - ((i + j) / 2 + 1) ≤ n - 1; omega), (search_t (fun q => !ltC (xs.getD m default) (xs.getD q default)) (by omega) hn (not_dectrue h103)).symm.trans hs⟩ (by show j - ((i + j) / 2 + 1) < j - i; omega) ⟨rfl, rfl, rfl, rfl, rfl, trivial⟩ rfl SubD.nil
        ·
          refine rg<|mv rfl rfl<|asg rfl rfl<|nl<|bN ?_
          exact ag ((n - 1, i, (i + j) / 2) : Nat × Nat × Nat) ⟨(by show a ≤ i; omega), (by show i ≤ (i + j) / 2; omega), (by show (i + j) / 2 ≤ m; omega), (by show (i + j) / 2 - i ≤ n - 1; omega), (search_f (fun q => !ltC (xs.getD m default) (xs.getD q default)) (by omega) hn (fun q => Bool.false_ne_true ((not_decfalse h103).symm.trans q))).symm.trans hs⟩ (by show (i + j) / 2 - i < j - i; omega) ⟨rfl, rfl, rfl, rfl, rfl, trivial⟩ rfl SubD.nil
      ·
        have e : i = search (fun q => !ltC (xs.getD m default) (xs.getD q default)) (m - a) a m := by rw [← hs, search_end _ _ _ _ (by omega)]
        refine ex<|tE<|tE<|bE<|nx<|sq<|sq<|rg<|mv rfl rfl<|asg rfl rfl<|nl<|nx<|bk<|lpE (σ := Nat × List Tcounted) [(0, _), (14, _)] _ (fun s C => (17, .int .i64 (s.1 : Int)) :: C) (fun s => [@row Tcounted rcounted 150 v s.2, fz X w]) (fun _ Dc => Dc) (fun s => i ≤ s.1 ∧ s.1 ≤ m ∧ s.2.length = xs.length ∧ shD (s.1 - i) s.1 s.2 = shD (m - i) m xs) (fun s => s.1 - i) (m, xs) ⟨rfl, rfl, trivial⟩ SubD.nil ⟨(by show i ≤ m; omega), Nat.le_refl _, rfl, rfl⟩ ⟨rfl, rfl, rfl, trivial⟩ rfl SubD.nil ?_
        rintro ⟨k, ys⟩ ⟨hk0, hk1, hl, hy⟩
        simp only at hk0 hk1 hl hy
        show WC _ _ _ [(17, .int .i64 ((k : Int))), (0, _), (14, _)] [@row Tcounted rcounted 150 v ys, fz X w] _
        refine sq<|sq<|rg<|mv rfl rfl<|mv rfl rfl<|gtI rfl rfl rfl<|nl<|nx<|cdP rfl (fun h110 => ?_) (fun h110 => ?_)
        ·
          refine sk<|nx<|sq<|bk ?_
          refine rgH ⟨fun q_ => ([[], [], [], [], [3], [], [], [6], [5, 7], [8], [], [], [10, 11], [12], [0, 1], [14, 9], [2, 4], [16, 13]] : List (List Nat)).getD q_ [], fun _ _ => True, fun q_ => ([fun _ => [], fun _ => [], fun _ => [], fun _ => [], fun _ => [], fun _ => [], fun _ => [], fun _ => [], fun _ => [], fun u => [(@Atom.mk Tcounted rcounted u (ys.getD ((k) - 1) default))], fun _ => [], fun _ => [], fun _ => [], fun u => [(@Atom.mk Tcounted rcounted u (ys.getD (k) default))], fun _ => [], fun _ => [], fun _ => [], fun _ => []] : List (Value → List Atom)).getD q_ (fun _ => []), fun q_ => ([some (v), some (.int .i64 ((k : Int))), some (v), some (.int .i64 ((k : Int))), some (.int .i64 (((k : Int) - 1))), some (v), some (.int .i64 ((k : Int))), some (.int .i64 (((k : Int) - 1))), some ((elp v (((k) - 1) * 11))), none, some (v), some (.int .i64 ((k : Int))), some ((elp v ((k) * 11))), none, some ((elp v ((k) * 11))), none, some ((elp v (((k) - 1) * 11))), none] : List (Option Value)).getD q_ none, fun h_ => match h_ with
              | [] => fun vs_ => [row 150 v ys, fz X w]
              | [15] => fun vs_ => [row 150 v (ys.set (k) (ys.getD ((k) - 1) default)), fz X w]
              | [15, 17] => fun vs_ => [row 150 v ((ys.set (k) (ys.getD ((k) - 1) default)).set ((k) - 1) (ys.getD (k) default)), fz X w]
              | _ => fun _ => [], [15, 17], [[], [15], [15, 17]]⟩ (fun V => [row 150 v ((ys.set (k) (ys.getD ((k) - 1) default)).set ((k) - 1) (ys.getD (k) default)), fz X w]) mixed rfl rfl (show AllP _ [[15, 17]] from ⟨fun _ => rfl, trivial⟩) ?_ ?_
          ·
            refine ⟨fun V De _ => (show AllP _ [[]] from ⟨?_, trivial⟩), ?_⟩
            ·
              exact mv rfl rfl<|nl (odH rfl rfl rfl rfl SubD.nil SubD.refl)
            refine ⟨fun V De _ => (show AllP _ [[]] from ⟨?_, trivial⟩), ?_⟩
            ·
              exact mv rfl rfl<|nl (odH rfl rfl rfl rfl SubD.nil SubD.refl)
            refine ⟨fun V De _ => (show AllP _ [[], [15]] from ⟨?_, ?_, trivial⟩), ?_⟩
            ·
              exact mv rfl rfl<|nl (odH rfl rfl rfl rfl SubD.nil SubD.refl)
            ·
              exact mv rfl rfl<|nl (odH rfl rfl rfl rfl SubD.nil SubD.refl)
            refine ⟨fun V De _ => (show AllP _ [[], [15]] from ⟨?_, ?_, trivial⟩), ?_⟩
            ·
              exact mv rfl rfl<|nl (odH rfl rfl rfl rfl SubD.nil SubD.refl)
            ·
              exact mv rfl rfl<|nl (odH rfl rfl rfl rfl SubD.nil SubD.refl)
            refine ⟨fun V De _ => (show AllP _ [[], [15]] from ⟨?_, ?_, trivial⟩), ?_⟩
            ·
              exact sbI rfl rfl (inI (by omega) (by omega)) rfl<|nl (odH rfl rfl rfl rfl SubD.nil SubD.refl)
            ·
              exact sbI rfl rfl (inI (by omega) (by omega)) rfl<|nl (odH rfl rfl rfl rfl SubD.nil SubD.refl)
            refine ⟨fun V De _ => (show AllP _ [[]] from ⟨?_, trivial⟩), ?_⟩
            ·
              exact mv rfl rfl<|nl (odH rfl rfl rfl rfl SubD.nil SubD.refl)
            refine ⟨fun V De _ => (show AllP _ [[]] from ⟨?_, trivial⟩), ?_⟩
            ·
              exact mv rfl rfl<|nl (odH rfl rfl rfl rfl SubD.nil SubD.refl)
            refine ⟨fun V De _ => (show AllP _ [[]] from ⟨?_, trivial⟩), ?_⟩
            ·
              exact sbI rfl rfl (inI (by omega) (by omega)) rfl<|nl (odH rfl rfl rfl rfl SubD.nil SubD.refl)
            refine ⟨fun V De _ => (show AllP _ [[]] from ⟨?_, trivial⟩), ?_⟩
            ·
              exact ixN 0 ((k) - 1) rfl rfl rfl slt_145 (by omega) (by omega) rfl<|nl (odH rfl rfl rfl rfl SubD.nil SubD.refl)
            refine ⟨fun V De _ => (show AllP _ [[]] from ⟨?_, trivial⟩), ?_⟩
            ·
              exact ldR (s := scounted) 0 ((k) - 1) rfl rfl (getDE (d := default) (by omega)) row_150 rfl fun q122 w122 => nl (odH rfl rfl rfl trivial (SubD.cons 0 rfl SubD.nil) (SubD.tail (SubD.tail SubD.refl)))
            refine ⟨fun V De _ => (show AllP _ [[], [15]] from ⟨?_, ?_, trivial⟩), ?_⟩
            ·
              exact mv rfl rfl<|nl (odH rfl rfl rfl rfl SubD.nil SubD.refl)
            ·
              exact mv rfl rfl<|nl (odH rfl rfl rfl rfl SubD.nil SubD.refl)
            refine ⟨fun V De _ => (show AllP _ [[], [15]] from ⟨?_, ?_, trivial⟩), ?_⟩
            ·
              exact mv rfl rfl<|nl (odH rfl rfl rfl rfl SubD.nil SubD.refl)
            ·
              exact mv rfl rfl<|nl (odH rfl rfl rfl rfl SubD.nil SubD.refl)
            refine ⟨fun V De _ => (show AllP _ [[], [15]] from ⟨?_, ?_, trivial⟩), ?_⟩
            ·
              exact ixN 0 (k) rfl rfl rfl slt_145 (by omega) (by omega) rfl<|nl (odH rfl rfl rfl rfl SubD.nil SubD.refl)
            ·
              exact ixN 0 (k) rfl rfl rfl slt_145 (by omega) (by simp only [List.length_set]; omega) rfl<|nl (odH rfl rfl rfl rfl SubD.nil SubD.refl)
            refine ⟨fun V De _ => (show AllP _ [[]] from ⟨?_, trivial⟩), ?_⟩
            ·
              exact ldR (s := scounted) 0 (k) rfl rfl (getDE (d := default) (by omega)) row_150 rfl fun q126 w126 => nl (odH rfl rfl rfl trivial (SubD.cons 0 rfl SubD.nil) (SubD.tail (SubD.tail SubD.refl)))
            refine ⟨fun V De _ => (show AllP _ [[]] from ⟨?_, trivial⟩), ?_⟩
            ·
              exact ixN 0 (k) rfl rfl rfl slt_145 (by omega) (by omega) rfl<|nl (odH rfl rfl rfl rfl SubD.nil SubD.refl)
            refine ⟨fun V De _ => (show AllP _ [[]] from ⟨?_, trivial⟩), ?_⟩
            ·
              exact stA (s := scounted) 0 (k) 0 rfl rfl rfl rfl (by omega) row_150<|nl (od0H rfl rfl (SubD.tail SubD.refl))
            refine ⟨fun V De _ => (show AllP _ [[15]] from ⟨?_, trivial⟩), ?_⟩
            ·
              exact ixN 0 ((k) - 1) rfl rfl rfl slt_145 (by omega) (by simp only [List.length_set]; omega) rfl<|nl (odH rfl rfl rfl rfl SubD.nil SubD.refl)
            refine ⟨fun V De _ => (show AllP _ [[15]] from ⟨?_, trivial⟩), ?_⟩
            ·
              exact stA (s := scounted) 0 ((k) - 1) 0 rfl rfl rfl rfl (by simp only [List.length_set]; omega) row_150<|nl (od0H rfl rfl (SubD.tail SubD.refl))
            trivial
          ·
            intro V _
            refine wkQ (L := [row 150 v ((ys.set (k) (ys.getD ((k) - 1) default)).set ((k) - 1) (ys.getD (k) default)), fz X w]) [(0, _), (14, _), (17, _)] [] ⟨rfl, rfl, rfl, trivial⟩ SubD.nil<|bN<|nx<|rg<|mv rfl rfl<|sbE (r := ((k - 1 : Nat) : Int)) rfl rfl (by omega) (inI (by omega) (by omega)) rfl<|asg rfl rfl<|nl ?_
            exact ag ((k - 1, swapL ys k (k - 1)) : Nat × List Tcounted) ⟨by show i ≤ k - 1; omega, by show k - 1 ≤ m; omega, (swapL_len _ _ _).trans hl, (shD_gt (by omega)).symm.trans hy⟩ (by show k - 1 - i < k - i; omega) ⟨rfl, rfl, rfl, trivial⟩ rfl SubD.nil
        ·
          have hfin : ys = symP ltC (f + 1) a m b xs := by
            rw [symP, if_neg (by omega), if_pos (by omega), ← e, ← hy, show k - i = 0 by omega]
            rfl
          subst hfin
          exact ex<|tE<|tE<|bE<|nx<|rt<|tR<|fR0 () rfl trivial rfl SubD.nil
    ·
      refine sk<|nx<|sq<|rg<|mv rfl rfl<|mv rfl rfl<|adE (r := ((a + b : Nat) : Int)) rfl rfl (by omega) (inI (by omega) (by omega)) rfl<|cv Tryz.underlying3 Tryz.underlying278 rfl (u64_nat (by omega)) rfl<|shR rfl rfl (by omega) (shr1n _) rfl<|cv Tryz.underlying278 Tryz.underlying3 rfl (i64_nat (by omega)) rfl<|asg rfl rfl<|nl<|nx<|sq ?_
      refine rg<|mv rfl rfl<|mv rfl rfl<|adE (r := (((a + b) / 2 + m : Nat) : Int)) rfl rfl (by omega) (inI (by omega) (by omega)) rfl<|asg rfl rfl<|nl<|nx<|sq<|rg<|asg rfl rfl<|asg rfl rfl<|nl<|nx<|sq ?_
      refine sq<|rg<|mv rfl rfl<|mv rfl rfl<|gtI rfl rfl rfl<|nl<|nx<|jnC (σ := Nat × Nat) [(0, _), (1, _), (2, _), (3, _), (4, _), (18, _), (19, _)] _ (fun s C => (20, .int .i64 (s.1 : Int)) :: (21, .int .i64 (s.2 : Int)) :: C) (fun s => [@row Tcounted rcounted 150 v xs, fz X w]) (fun s => (a + b) / 2 + m ≤ s.1 + b ∧ a ≤ s.1 ∧ s.1 ≤ s.2 ∧ s.2 ≤ (a + b) / 2 ∧ s.2 ≤ m ∧ search (fun q => !ltC (xs.getD ((a + b) / 2 + m - 1 - q) default) (xs.getD q default)) (b - a) s.1 s.2 = symS ltC a m b xs) ⟨rfl, rfl, rfl, rfl, rfl, rfl, rfl, trivial⟩ SubD.nil ?_ ?_
      ·
        refine cdP rfl (fun h140 => ?_) (fun h140 => ?_)
        ·
          exact sq<|rg<|mv rfl rfl<|mv rfl rfl<|sbE (r := (((a + b) / 2 + m - b : Nat) : Int)) rfl rfl (by omega) (inI (by omega) (by omega)) rfl<|asg rfl rfl<|nl<|nx<|rg<|mv rfl rfl<|asg rfl rfl<|nl<|jx (((a + b) / 2 + m - b, (a + b) / 2) : Nat × Nat) ⟨(by show (a + b) / 2 + m ≤ (a + b) / 2 + m - b + b; omega), (by show a ≤ (a + b) / 2 + m - b; omega), (by show (a + b) / 2 + m - b ≤ (a + b) / 2; omega), Nat.le_refl _, (by show (a + b) / 2 ≤ m; omega), (by rw [symS, if_pos (by omega)])⟩ ⟨rfl, rfl, rfl, rfl, rfl, rfl, rfl, rfl, rfl, trivial⟩ rfl SubD.nil
        ·
          exact sq<|rg<|mv rfl rfl<|asg rfl rfl<|nl<|nx<|rg<|mv rfl rfl<|asg rfl rfl<|nl<|jx ((a, m) : Nat × Nat) ⟨(by show (a + b) / 2 + m ≤ a + b; omega), Nat.le_refl _, (by show a ≤ m; omega), (by show m ≤ (a + b) / 2; omega), Nat.le_refl _, (by rw [symS, if_neg (by omega)])⟩ ⟨rfl, rfl, rfl, rfl, rfl, rfl, rfl, rfl, rfl, trivial⟩ rfl SubD.nil
      ·
        rintro ⟨i0, j0⟩ ⟨g1, g2, g3, g4, g5, hsy⟩
        simp only at g1 g2 g3 g4 g5 hsy
        show WQ _ _ _ [(20, .int .i64 ((i0 : Int))), (21, .int .i64 ((j0 : Int))), (0, _), (1, _), (2, _), (3, _), (4, _), (18, _), (19, _)] [@row Tcounted rcounted 150 v xs, fz X w] _
        refine nx<|sq<|rg<|mv rfl rfl<|sbE (r := (((a + b) / 2 + m - 1 : Nat) : Int)) rfl rfl (by omega) (inI (by omega) (by omega)) rfl<|asg rfl rfl<|nl<|nx<|sq<|bk<|lpC (σ := Nat × Nat × Nat) [(0, _), (1, _), (2, _), (3, _), (4, _), (18, _), (19, _), (22, _)] _ (fun s C => (20, .int .i64 (s.2.1 : Int)) :: (21, .int .i64 (s.2.2 : Int)) :: C) (fun s => (a + b) / 2 + m ≤ s.2.1 + b ∧ a ≤ s.2.1 ∧ s.2.1 ≤ s.2.2 ∧ s.2.2 ≤ (a + b) / 2 ∧ s.2.2 ≤ m ∧ s.2.2 - s.2.1 ≤ s.1 ∧ search (fun q => !ltC (xs.getD ((a + b) / 2 + m - 1 - q) default) (xs.getD q default)) s.1 s.2.1 s.2.2 = symS ltC a m b xs) (fun s => s.2.2 - s.2.1) (b - a, i0, j0) ⟨rfl, rfl, rfl, rfl, rfl, rfl, rfl, rfl, trivial⟩ SubD.nil ⟨g1, g2, g3, g4, g5, (by show j0 - i0 ≤ b - a; omega), hsy⟩ ⟨rfl, rfl, rfl, rfl, rfl, rfl, rfl, rfl, rfl, rfl, trivial⟩ ?_
        rintro ⟨n, i, j⟩ ⟨h1, h2, h3, h4, h5, hn, hs⟩
        simp only at h1 h2 h3 h4 h5 hn hs
        show WC _ _ _ [(20, .int .i64 (i : Int)), (21, .int .i64 (j : Int)), (0, _), (1, _), (2, _), (3, _), (4, _), (18, _), (19, _), (22, _)] _ _
        refine sq<|sq<|rg<|mv rfl rfl<|mv rfl rfl<|ltI rfl rfl rfl<|nl<|nx<|cdP rfl (fun h151 => ?_) (fun h151 => ?_)
        ·
          refine sk<|nx<|bk<|sq<|rg<|mv rfl rfl<|mv rfl rfl<|adE (r := ((i + j : Nat) : Int)) rfl rfl (by omega) (inI (by omega) (by omega)) rfl<|cv Tryz.underlying3 Tryz.underlying278 rfl (u64_nat (by omega)) rfl<|shR rfl rfl (by omega) (shr1n _) rfl<|cv Tryz.underlying278 Tryz.underlying3 rfl (i64_nat (by omega)) rfl<|asg rfl rfl<|nl<|nx ?_
          refine sq<|rgQ mixed (by kernel_rfl)<|mv rfl rfl<|mv rfl rfl<|mv rfl rfl<|mv rfl rfl<|sbE (r := (((a + b) / 2 + m - 1 - (i + j) / 2 : Nat) : Int)) rfl rfl (by omega) (inI (by omega) (by omega)) rfl<|ixN 0 (((a + b) / 2 + m - 1 - (i + j) / 2 : Nat)) rfl rfl rfl slt_145 (by omega) (by omega) rfl<|ldR (s := scounted) 0 (((a + b) / 2 + m - 1 - (i + j) / 2 : Nat)) rfl rfl (getDE (d := default) (by omega)) row_150 rfl fun q164 w164 => mv rfl rfl<|mv rfl rfl<|ixN 0 (((i + j) / 2 : Nat)) rfl rfl rfl slt_145 (by omega) (by omega) rfl<|ldR (s := scounted) 0 (((i + j) / 2 : Nat)) rfl rfl (getDE (d := default) (by omega)) row_150 rfl fun q168 w168 => cfqc (cmpC_c _ _ _ _ w164 w168) ok_86 rfl rfl rfl (SubD.cons 3 rfl (SubD.cons 1 rfl SubD.nil)) rfl ?_
          refine ltI rfl rfl rfl<|nt rfl rfl<|nlQ<|nx<|cdN rfl (fun h171 => ?_) (fun h171 => ?_)
          ·
            refine rg<|mv rfl rfl<|adE (r := (((i + j) / 2 + 1 : Nat) : Int)) rfl rfl (by omega) (inI (by omega) (by omega)) rfl<|asg rfl rfl<|nl<|bN ?_
            exact ag ((n - 1, (i + j) / 2 + 1, j) : Nat × Nat × Nat) ⟨(by show (a + b) / 2 + m ≤ (i + j) / 2 + 1 + b; omega), (by show a ≤ (i + j) / 2 + 1; omega), (by show (i + j) / 2 + 1 ≤ j; omega), (by show j ≤ (a + b) / 2; omega), (by show j ≤ m; omega), (by show j - ((i + j) / 2 + 1) ≤ n - 1; omega), (search_t (fun q => !ltC (xs.getD ((a + b) / 2 + m - 1 - q) default) (xs.getD q default)) (by omega) hn (not_dectrue h171)).symm.trans hs⟩ (by show j - ((i + j) / 2 + 1) < j - i; omega) ⟨rfl, rfl, rfl, rfl, rfl, rfl, rfl, rfl, rfl, rfl, trivial⟩ rfl SubD.nil
          ·
            refine rg<|mv rfl rfl<|asg rfl rfl<|nl<|bN ?_
            exact ag ((n - 1, i, (i + j) / 2) : Nat × Nat × Nat) ⟨(by show (a + b) / 2 + m ≤ i + b; omega), (by show a ≤ i; omega), (by show i ≤ (i + j) / 2; omega), (by show (i + j) / 2 ≤ (a + b) / 2; omega), (by show (i + j) / 2 ≤ m; omega), (by show (i + j) / 2 - i ≤ n - 1; omega), (search_f (fun q => !ltC (xs.getD ((a + b) / 2 + m - 1 - q) default) (xs.getD q default)) (by omega) hn (fun q => Bool.false_ne_true ((not_decfalse h171).symm.trans q))).symm.trans hs⟩ (by show (i + j) / 2 - i < j - i; omega) ⟨rfl, rfl, rfl, rfl, rfl, rfl, rfl, rfl, rfl, rfl, trivial⟩ rfl SubD.nil
        ·
          have e : symS ltC a m b xs = i := by rw [← hs, search_end _ _ _ _ (by omega)]
          refine ex<|tE<|tE<|bE<|nx<|sq<|rg<|mv rfl rfl<|mv rfl rfl<|sbE (r := (((a + b) / 2 + m - i : Nat) : Int)) rfl rfl (by omega) (inI (by omega) (by omega)) rfl<|asg rfl rfl<|nl<|nx<|sq ?_
          refine sq<|rg<|mv rfl rfl<|mv rfl rfl<|ltI rfl rfl rfl<|mv rfl rfl ?_
          apply jo [(0, _), (1, _), (2, _), (3, _), (4, _), (18, _), (20, _), (24, _)] ⟨rfl, rfl, rfl, rfl, rfl, rfl, rfl, rfl, trivial⟩
          ·
            intro K185
            refine spA (i := 181) rfl (fun h181 => ?_) (fun h181 => ?_)
            ·
              have p181 := of_decide_eq_true h181
              exact gY rfl rfl rfl<|mv rfl rfl<|gY rfl rfl rfl<|mv rfl rfl<|gY rfl rfl rfl<|ltI rfl rfl rfl<|pkT rfl rfl rfl<|jA K185 h181 ⟨rfl, rfl, rfl, rfl, rfl, rfl, rfl, rfl, trivial⟩ SubD.refl
            ·
              exact gS (g := [_, _, _]) rfl<|pkF rfl rfl rfl<|jA0 K185 h181 ⟨rfl, rfl, rfl, rfl, rfl, rfl, rfl, rfl, trivial⟩ SubD.refl
          refine nl<|nx<|jnC (σ := List Tcounted) [(0, _), (1, _), (3, _), (4, _), (18, _), (20, _), (24, _)] _ (fun s C => C) (fun s => [@row Tcounted rcounted 150 v s, fz X w]) (fun s => s = (if i < m ∧ m < (a + b) / 2 + m - i then rotP i m ((a + b) / 2 + m - i) xs else xs) ∧ s.length = xs.length) ⟨rfl, rfl, rfl, rfl, rfl, rfl, rfl, trivial⟩ SubD.nil ?_ ?_
          ·
            refine cdB rfl (fun h185 => ?_) (fun h185 => ?_)
            ·
              have q185 : i < m ∧ m < (a + b) / 2 + m - i := by
                have q := h185
                simp only [Bool.and_eq_true, decide_eq_true_eq] at q
                omega
              exact rg<|mv rfl rfl<|mv rfl rfl<|mv rfl rfl<|mv rfl rfl<|mv rfl rfl<|cf1 0 (rot_c v xs i m ((a + b) / 2 + m - i) (by omega) (by omega) (by omega)) ok_276 rfl rfl SubD.nil rfl fun _ v191 _ => nl<|jx (rotP i m ((a + b) / 2 + m - i) xs) ⟨(if_pos q185).symm, rotP_len ..⟩ ⟨rfl, rfl, rfl, rfl, rfl, rfl, rfl, trivial⟩ rfl SubD.nil
            ·
              have q185 : ¬(i < m ∧ m < (a + b) / 2 + m - i) := by
                have q := h185
                simp only [Bool.and_eq_false_iff, decide_eq_false_iff_not] at q
                omega
              exact sk<|jx xs ⟨(if_neg q185).symm, rfl⟩ ⟨rfl, rfl, rfl, rfl, rfl, rfl, rfl, trivial⟩ rfl SubD.nil
          ·
            rintro y1 ⟨hy1, hl1⟩
            show WQ _ _ _ [(0, _), (1, _), (3, _), (4, _), (18, _), (20, _), (24, _)] [@row Tcounted rcounted 150 v y1, fz X w] _
            refine nx<|sq<|sq<|rg<|mv rfl rfl<|mv rfl rfl<|ltI rfl rfl rfl<|mv rfl rfl ?_
            apply jo [(0, _), (1, _), (3, _), (4, _), (18, _), (20, _), (24, _)] ⟨rfl, rfl, rfl, rfl, rfl, rfl, rfl, trivial⟩
            ·
              intro K199
              refine spA (i := 195) rfl (fun h195 => ?_) (fun h195 => ?_)
              ·
                have p195 := of_decide_eq_true h195
                exact gY rfl rfl rfl<|mv rfl rfl<|gY rfl rfl rfl<|mv rfl rfl<|gY rfl rfl rfl<|ltI rfl rfl rfl<|pkT rfl rfl rfl<|jA K199 h195 ⟨rfl, rfl, rfl, rfl, rfl, rfl, rfl, trivial⟩ SubD.refl
              ·
                exact gS (g := [_, _, _]) rfl<|pkF rfl rfl rfl<|jA0 K199 h195 ⟨rfl, rfl, rfl, rfl, rfl, rfl, rfl, trivial⟩ SubD.refl
            refine nl<|nx<|jnC (σ := List Tcounted) [(0, _), (3, _), (4, _), (18, _), (24, _)] _ (fun s C => C) (fun s => [@row Tcounted rcounted 150 v s, fz X w]) (fun s => s = (if a < i ∧ i < (a + b) / 2 then symP ltC f a i ((a + b) / 2) y1 else y1) ∧ s.length = xs.length) ⟨rfl, rfl, rfl, rfl, rfl, trivial⟩ SubD.nil ?_ ?_
            ·
              refine cdB rfl (fun h199 => ?_) (fun h199 => ?_)
              ·
                have q199 : a < i ∧ i < (a + b) / 2 := by
                  have q := h199
                  simp only [Bool.and_eq_true, decide_eq_true_eq] at q
                  omega
                exact rg<|mv rfl rfl<|mv rfl rfl<|mv rfl rfl<|mv rfl rfl<|mv rfl rfl<|cf1 0 (ih v y1 a i ((a + b) / 2) (by omega) (by omega) (by omega) (by omega)) ok_219 rfl rfl SubD.nil rfl fun _ v205 _ => nl<|jx (symP ltC f a i ((a + b) / 2) y1) ⟨(if_pos q199).symm, (symP_len ..).trans hl1⟩ ⟨rfl, rfl, rfl, rfl, rfl, trivial⟩ rfl SubD.nil
              ·
                have q199 : ¬(a < i ∧ i < (a + b) / 2) := by
                  have q := h199
                  simp only [Bool.and_eq_false_iff, decide_eq_false_iff_not] at q
                  omega
                exact sk<|jx y1 ⟨(if_neg q199).symm, hl1⟩ ⟨rfl, rfl, rfl, rfl, rfl, trivial⟩ rfl SubD.nil
            ·
              rintro y2 ⟨hy2, hl2⟩
              show WQ _ _ _ [(0, _), (3, _), (4, _), (18, _), (24, _)] [@row Tcounted rcounted 150 v y2, fz X w] _
              refine nx<|sq<|rg<|mv rfl rfl<|mv rfl rfl<|ltI rfl rfl rfl<|mv rfl rfl ?_
              apply jo [(0, _), (3, _), (4, _), (18, _), (24, _)] ⟨rfl, rfl, rfl, rfl, rfl, trivial⟩
              ·
                intro K213
                refine spA (i := 209) rfl (fun h209 => ?_) (fun h209 => ?_)
                ·
                  have p209 := of_decide_eq_true h209
                  exact gY rfl rfl rfl<|mv rfl rfl<|gY rfl rfl rfl<|mv rfl rfl<|gY rfl rfl rfl<|ltI rfl rfl rfl<|pkT rfl rfl rfl<|jA K213 h209 ⟨rfl, rfl, rfl, rfl, rfl, trivial⟩ SubD.refl
                ·
                  exact gS (g := [_, _, _]) rfl<|pkF rfl rfl rfl<|jA0 K213 h209 ⟨rfl, rfl, rfl, rfl, rfl, trivial⟩ SubD.refl
              refine nl<|nx<|cdB rfl (fun h213 => ?_) (fun h213 => ?_)
              ·
                have q213 : (a + b) / 2 < (a + b) / 2 + m - i ∧ (a + b) / 2 + m - i < b := by
                  have q := h213
                  simp only [Bool.and_eq_true, decide_eq_true_eq] at q
                  omega
                refine rg<|mv rfl rfl<|mv rfl rfl<|mv rfl rfl<|mv rfl rfl<|mv rfl rfl<|cf1 0 (ih v y2 ((a + b) / 2) ((a + b) / 2 + m - i) b (by omega) (by omega) (by omega) (by omega)) ok_219 rfl rfl SubD.nil rfl fun _ v219 _ => nl ?_
                have hfin : symP ltC f ((a + b) / 2) ((a + b) / 2 + m - i) b y2 = symP ltC (f + 1) a m b xs := by
                  rw [symP, if_neg (by omega), if_neg (by omega)]
                  simp only [e]
                  rw [if_pos q213, ← hy1, ← hy2]
                rw [hfin]
                exact fR0N () rfl trivial rfl SubD.nil
              ·
                have q213 : ¬((a + b) / 2 < (a + b) / 2 + m - i ∧ (a + b) / 2 + m - i < b) := by
                  have q := h213
                  simp only [Bool.and_eq_false_iff, decide_eq_false_iff_not] at q
                  omega
                have hfin : y2 = symP ltC (f + 1) a m b xs := by
                  rw [symP, if_neg (by omega), if_neg (by omega)]
                  simp only [e]
                  rw [if_neg q213, ← hy1]
                  exact hy2
                subst hfin
                exact sk<|fR0N () rfl trivial rfl SubD.nil

theorem symM_c : ∀ (f : Nat), ∀ (v : Value) (xs : List Tcounted) (a m b : Nat), a < m → m < b → b ≤ xs.length → b - a ≤ f → Fnc Tryz.prog 219 [v, .int .i64 (a : Int), .int .i64 (m : Int), .int .i64 (b : Int), (.func (.func 86) #[] #[])] [@row Tcounted rcounted 150 v xs] [] (fun (_ : Unit) _ => True) (fun _ _ => [@row Tcounted rcounted 150 v (symP ltC f a m b xs)]) (fun _ _ => [])
  | 0, _, _, _, _, _, ha, hm, _, hf => absurd hf (by omega)
  | f + 1, v, xs, a, m, b, ha, hm, hb, hf => symM_step v xs a m b f (symM_c f) ha hm hb hf
end Go.Proofs.YtmpoffijcfaalaaGreat
