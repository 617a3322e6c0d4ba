/- Part 19 of auditPlays_holds. -/
import Derived.Test.YtmpoffijcfaalaaGreatAp18

set_option maxRecDepth 20000
set_option maxHeartbeats 1000000
namespace Go.Proofs.YtmpoffijcfaalaaGreat
open Go.Eng Go.YtmpoffijcfaalaaGreat
theorem symM_step (v : Value) (xs : List Tcounted) (a m b f : Nat) (ih : ∀ (v : Value) (xs : List Tcounted) (a m b : Nat), a < m → m < b → b ≤ xs.length → b - a ≤ f → Fnc Pg 219 [v, .int .i64 (a : Int), .int .i64 (m : Int), .int .i64 (b : Int), (.func (.func 86) #[] #[])] [@row Tcounted rcounted 150 v xs] [] (fun (_ : Unit) _ => True) (fun _ _ => [@row Tcounted rcounted 150 v (symP ltC f a m b xs)]) (fun _ _ => [])) (ha : a < m) (hm : m < b) (hb : b ≤ xs.length) (hf : b - a ≤ f + 1) : Fnc Pg 219 [v, .int .i64 (a : Int), .int .i64 (m : Int), .int .i64 (b : Int), (.func (.func 86) #[] #[])] [@row Tcounted rcounted 150 v xs] [] (fun (_ : Unit) _ => True) (fun _ _ => [@row Tcounted rcounted 150 v (symP ltC (f + 1) a m b xs)]) (fun _ _ => []) := by
 refine Fnc.proof Tryz.func219 G 220 G G fun X w => lenRC 0 G fun hlen => sq<|qg<|ru 2 G<|sbI G G inI G<|ru 1 G<|nl<|nx<|cdP G (fun h28 => ?_) (fun h28 => ?_)
 ·
  refine sa 2 G<|sa 2 G<|sq<|bk<|lpC (σ := Nat × Nat × Nat) [(0, _), (1, _), (4, _)] _ (fun s C => (10, .int .i64 (s.2.1 : Int)) :: (11, .int .i64 (s.2.2 : Int)) :: C) (fun s => m ≤ s.2.1 ∧ s.2.1 ≤ s.2.2 ∧ s.2.2 ≤ b ∧ s.2.2 - s.2.1 ≤ s.1 ∧ search (fun q => ltC (xs.getD q default) (xs.getD a default)) s.1 s.2.1 s.2.2 = search (fun q => ltC (xs.getD q default) (xs.getD a default)) (b - m) m b) (fun s => s.2.2 - s.2.1) (b - m, m, b) (Gs G) Sn ⟨Nat.le_refl _, (by show m ≤ b; omega), Nat.le_refl _, (by show b - m ≤ b - m; omega), G⟩ (Gs G) ?_
  rintro ⟨n, i, j⟩ ⟨h1, h2, h3, hn, hs⟩
  simp only at h1 h2 h3 hn hs
  show WC _ _ _ [(10, .int .i64 (i : Int)), (11, .int .i64 (j : Int)), (0, _), (1, _), (4, _)] _ _
  refine sq<|sa 3 G<|cdP G (fun h33 => ?_) (fun h33 => ?_)
  ·
   refine sk<|nx<|bk<|qg<|ru 2 G<|adE (r := ((i + j : Nat) : Int)) G G (by omega) inI G<|cv Tryz.underlying3 Tryz.underlying278 G (u64_nat (by omega)) G<|shR G G (by omega) (shr1n _) G<|cv Tryz.underlying278 Tryz.underlying3 G (i64_nat (by omega)) G<|ru 1 G<|nl<|nx<|sq<|rgQ mixed (by kernel_rfl)<|ru 3 G<|ixN 0 (((i + j) / 2 : Nat)) G G G slt_145 (by omega) (by omega) G<|ldR (s := scounted) 0 (((i + j) / 2 : Nat)) G G gE (Rg G) G fun q44 w44 => ru 2 G<|ixN 0 (a) G G G slt_145 (by omega) (by omega) G<|ldR (s := scounted) 0 (a) G G gE (Rg G) G fun q48 w48 => cfqc (cmpC_c _ _ _ _ w44 w48) (Kg G) G G G (Si [3,1] G) G<|ru 1 G<|nlQ<|nx<|cdP G (fun h50 => ?_) (fun h50 => ?_)
   ·
    refine rg<|mv G G<|adE (r := (((i + j) / 2 + 1 : Nat) : Int)) G G (by omega) inI G<|ru 1 G<|nl<|bN ?_
    exact ag ((n - 1, (i + j) / 2 + 1, j) : Nat × Nat × Nat) ⟨(by show m ≤ (i + j) / 2 + 1; omega), (by show (i + j) / 2 + 1 ≤ j; omega), (by show j ≤ b; omega), (by show j - ((i + j) / 2 + 1) ≤ n - 1; omega), (search_t (fun q => ltC (xs.getD q default) (xs.getD a default)) (by omega) hn (decide_eq_true h50)).symm.trans hs⟩ (by show j - ((i + j) / 2 + 1) < j - i; omega) (Gs G) G Sn
   ·
    refine ra 2 G<|bN ?_
    exact ag ((n - 1, i, (i + j) / 2) : Nat × Nat × Nat) ⟨(by show m ≤ i; omega), (by show i ≤ (i + j) / 2; omega), (by show (i + j) / 2 ≤ b; omega), (by show (i + j) / 2 - i ≤ n - 1; omega), (search_f (fun q => ltC (xs.getD q default) (xs.getD a default)) (by omega) hn (fun q => h50 (of_decide_eq_true q))).symm.trans hs⟩ (by show (i + j) / 2 - i < j - i; omega) (Gs G) G Sn
  ·
   have e : i = search (fun q => ltC (xs.getD q default) (xs.getD a default)) (b - m) m b := by rw [← hs, search_end _ _ _ _ (by omega)]
   refine ex<|tE<|tE<|bE<|nx<|sq<|sa 2 G<|bk<|lpE (σ := Nat × List Tcounted) [(0, _), (10, _)] _ (fun s C => (13, .int .i64 (s.1 : Int)) :: C) (fun s => [@row Tcounted rcounted 150 v s.2, fz X w]) (fun _ Dc => Dc) (fun s => a ≤ s.1 ∧ s.1 ≤ i - 1 ∧ s.2.length = xs.length ∧ shU (i - 1 - s.1) s.1 s.2 = shU (i - 1 - a) a xs) (fun s => i - 1 - s.1) (a, xs) (Gs G) Sn ⟨Nat.le_refl _, (by show a ≤ i - 1; omega), G, G⟩ (Gs G) G Sn ?_
   rintro ⟨k, ys⟩ ⟨hk0, hk1, hl, hy⟩
   simp only at hk0 hk1 hl hy
   show WC _ _ _ [(13, .int .i64 ((k : Int))), (0, _), (10, _)] [@row Tcounted rcounted 150 v ys, fz X w] _
   refine sq<|qg<|ru 2 G<|sbE (r := ((i - 1 : Nat) : Int)) G G (by omega) inI G<|ru 1 G<|nl<|nx<|cdP G (fun h58 => ?_) (fun h58 => ?_)
   ·
    refine sk<|nx<|sq<|bk<|rgZ (L := [row 150 v ys, fz X w]) [] [(4,⟨some (.int .i64 (((k : Int) + 1))),fun _ => [],false⟩),(7,⟨some (.int .i64 (((k : Int) + 1))),fun _ => [],false⟩),(8,⟨some ((elp v (((k) + 1) * 11))),fun _ => [],false⟩),(9,⟨none,fun u => [(@Atom.mk Tcounted rcounted u (ys.getD ((k) + 1) default))],false⟩),(12,⟨some ((elp v ((k) * 11))),fun _ => [],false⟩),(13,⟨none,fun u => [(@Atom.mk Tcounted rcounted u (ys.getD (k) default))],false⟩),(14,⟨some ((elp v ((k) * 11))),fun _ => [],false⟩),(15,⟨none,fun _ => [],true⟩),(16,⟨some ((elp v (((k) + 1) * 11))),fun _ => [],false⟩),(17,⟨none,fun _ => [],true⟩)] [] [] [(15,fun L _ => rpE 1 (row 150 v (ys.set (k) (ys.getD ((k) + 1) default))) L),(17,fun L _ => rpE 1 (row 150 v ((ys.set (k) (ys.getD ((k) + 1) default)).set ((k) + 1) (ys.getD (k) default))) L)] (fun _ => G) (fun _ => by kernel_rfl) ⟨fun V De _=>aP2 (adI G G inI G<|oh G G G G) (adI G G inI G<|oh G G G G),fun V De _=>aP1 (adI G G inI G<|oh G G G G),fun V De _=>aP1 (ixN 0 ((k) + 1) G G G slt_145 (by omega) (by omega) G<|oh G G G G),fun V De _=>aP1 (ldR (s := scounted) 0 ((k) + 1) G G gE (Rg G) G fun q70 w70 => nl (odH G G G trivial (Sc 0 G Sn) (SubD.tail (SubD.tail Sr)))),fun V De _=>aP2 (ixN 0 (k) G G G slt_145 (by omega) (by omega) G<|oh G G G G) (ixN 0 (k) G G G slt_145 (by omega) (by simp only [List.length_set]; omega) G<|oh G G G G),fun V De _=>aP1 (ldR (s := scounted) 0 (k) G G gE (Rg G) G fun q74 w74 => nl (odH G G G trivial (Sc 0 G Sn) (SubD.tail (SubD.tail Sr)))),fun V De _=>aP1 (ixN 0 (k) G G G slt_145 (by omega) (by omega) G<|oh G G G G),fun V De _=>aP1 (stA (s := scounted) 0 (k) 0 G G G G (by omega) (Rg G)<|nl (od0H G G (SubD.tail Sr))),fun V De _=>aP1 (ixN 0 ((k) + 1) G G G slt_145 (by omega) (by simp only [List.length_set]; omega) G<|oh G G G G),fun V De _=>aP1 (stA (s := scounted) 0 ((k) + 1) 0 G G G G (by simp only [List.length_set]; omega) (Rg G)<|nl (od0H G G (SubD.tail Sr))),trivial⟩ fun V _ => bN<|nx<|rg<|mv G G<|adE (r := ((k + 1 : Nat) : Int)) G G (by omega) inI G<|ru 1 G<|nl ?_
    exact ag ((k + 1, swapL ys k (k + 1)) : Nat × List Tcounted) ⟨by show a ≤ k + 1; omega, by show k + 1 ≤ i - 1; omega, (swapL_len _ _ _).trans hl, (shU_lt (by omega)).symm.trans hy⟩ (by show i - 1 - (k + 1) < i - 1 - k; omega) (Gs G) G Sn
   ·
    have hfin : ys = symP ltC (f + 1) a m b xs := by
     rw [symP, if_pos (by omega), ← e, ← hy, show i - 1 - k = 0 by omega]
     rfl
    subst hfin
    exact ex<|tE<|tE<|bE<|nx<|rt<|tR<|fR0 () G trivial G Sn
 ·
  refine sk<|nx<|sq<|qg<|ru 2 G<|sbI G G inI G<|ru 1 G<|nl<|nx<|cdP G (fun h80 => ?_) (fun h80 => ?_)
  ·
   refine sa 2 G<|sa 2 G<|sq<|bk<|lpC (σ := Nat × Nat × Nat) [(0, _), (2, _), (4, _)] _ (fun s C => (14, .int .i64 (s.2.1 : Int)) :: (15, .int .i64 (s.2.2 : Int)) :: C) (fun s => a ≤ s.2.1 ∧ s.2.1 ≤ s.2.2 ∧ s.2.2 ≤ m ∧ s.2.2 - s.2.1 ≤ s.1 ∧ search (fun q => !ltC (xs.getD m default) (xs.getD q default)) s.1 s.2.1 s.2.2 = search (fun q => !ltC (xs.getD m default) (xs.getD q default)) (m - a) a m) (fun s => s.2.2 - s.2.1) (m - a, a, m) (Gs G) Sn ⟨Nat.le_refl _, (by show a ≤ m; omega), Nat.le_refl _, (by show m - a ≤ m - a; omega), G⟩ (Gs G) ?_
   rintro ⟨n, i, j⟩ ⟨h1, h2, h3, hn, hs⟩
   simp only at h1 h2 h3 hn hs
   show WC _ _ _ [(14, .int .i64 (i : Int)), (15, .int .i64 (j : Int)), (0, _), (2, _), (4, _)] _ _
   refine sq<|sa 3 G<|cdP G (fun h85 => ?_) (fun h85 => ?_)
   ·
    refine sk<|nx<|bk<|qg<|ru 2 G<|adE (r := ((i + j : Nat) : Int)) G G (by omega) inI G<|cv Tryz.underlying3 Tryz.underlying278 G (u64_nat (by omega)) G<|shR G G (by omega) (shr1n _) G<|cv Tryz.underlying278 Tryz.underlying3 G (i64_nat (by omega)) G<|ru 1 G<|nl<|nx<|sq<|rgQ mixed (by kernel_rfl)<|ru 3 G<|ixN 0 (m) G G G slt_145 (by omega) (by omega) G<|ldR (s := scounted) 0 (m) G G gE (Rg G) G fun q96 w96 => ru 2 G<|ixN 0 (((i + j) / 2 : Nat)) G G G slt_145 (by omega) (by omega) G<|ldR (s := scounted) 0 (((i + j) / 2 : Nat)) G G gE (Rg G) G fun q100 w100 => cfqc (cmpC_c _ _ _ _ w96 w100) (Kg G) G G G (Si [3,1] G) G<|ru 2 G<|nlQ<|nx<|cdN G (fun h103 => ?_) (fun h103 => ?_)
    ·
     refine rg<|mv G G<|adE (r := (((i + j) / 2 + 1 : Nat) : Int)) G G (by omega) inI G<|ru 1 G<|nl<|bN ?_
     exact ag ((n - 1, (i + j) / 2 + 1, j) : Nat × Nat × Nat) ⟨(by show a ≤ (i + j) / 2 + 1; omega), (by show (i + j) / 2 + 1 ≤ j; omega), (by show j ≤ m; omega), (by show j - ((i + j) / 2 + 1) ≤ n - 1; omega), (search_t (fun q => !ltC (xs.getD m default) (xs.getD q default)) (by omega) hn (not_dectrue h103)).symm.trans hs⟩ (by show j - ((i + j) / 2 + 1) < j - i; omega) (Gs G) G Sn
    ·
     refine ra 2 G<|bN ?_
     exact ag ((n - 1, i, (i + j) / 2) : Nat × Nat × Nat) ⟨(by show a ≤ i; omega), (by show i ≤ (i + j) / 2; omega), (by show (i + j) / 2 ≤ m; omega), (by show (i + j) / 2 - i ≤ n - 1; omega), (search_f (fun q => !ltC (xs.getD m default) (xs.getD q default)) (by omega) hn (fun q => Bool.false_ne_true ((not_decfalse h103).symm.trans q))).symm.trans hs⟩ (by show (i + j) / 2 - i < j - i; omega) (Gs G) G Sn
   ·
    have e : i = search (fun q => !ltC (xs.getD m default) (xs.getD q default)) (m - a) a m := by rw [← hs, search_end _ _ _ _ (by omega)]
    refine ex<|tE<|tE<|bE<|nx<|sq<|sa 2 G<|bk<|lpE (σ := Nat × List Tcounted) [(0, _), (14, _)] _ (fun s C => (17, .int .i64 (s.1 : Int)) :: C) (fun s => [@row Tcounted rcounted 150 v s.2, fz X w]) (fun _ Dc => Dc) (fun s => i ≤ s.1 ∧ s.1 ≤ m ∧ s.2.length = xs.length ∧ shD (s.1 - i) s.1 s.2 = shD (m - i) m xs) (fun s => s.1 - i) (m, xs) (Gs G) Sn ⟨(by show i ≤ m; omega), Nat.le_refl _, G, G⟩ (Gs G) G Sn ?_
    rintro ⟨k, ys⟩ ⟨hk0, hk1, hl, hy⟩
    simp only at hk0 hk1 hl hy
    show WC _ _ _ [(17, .int .i64 ((k : Int))), (0, _), (14, _)] [@row Tcounted rcounted 150 v ys, fz X w] _
    refine sq<|sa 3 G<|cdP G (fun h110 => ?_) (fun h110 => ?_)
    ·
     refine sk<|nx<|sq<|bk<|rgZ (L := [row 150 v ys, fz X w]) [] [(4,⟨some (.int .i64 (((k : Int) - 1))),fun _ => [],false⟩),(7,⟨some (.int .i64 (((k : Int) - 1))),fun _ => [],false⟩),(8,⟨some ((elp v (((k) - 1) * 11))),fun _ => [],false⟩),(9,⟨none,fun u => [(@Atom.mk Tcounted rcounted u (ys.getD ((k) - 1) default))],false⟩),(12,⟨some ((elp v ((k) * 11))),fun _ => [],false⟩),(13,⟨none,fun u => [(@Atom.mk Tcounted rcounted u (ys.getD (k) default))],false⟩),(14,⟨some ((elp v ((k) * 11))),fun _ => [],false⟩),(15,⟨none,fun _ => [],true⟩),(16,⟨some ((elp v (((k) - 1) * 11))),fun _ => [],false⟩),(17,⟨none,fun _ => [],true⟩)] [] [] [(15,fun L _ => rpE 1 (row 150 v (ys.set (k) (ys.getD ((k) - 1) default))) L),(17,fun L _ => rpE 1 (row 150 v ((ys.set (k) (ys.getD ((k) - 1) default)).set ((k) - 1) (ys.getD (k) default))) L)] (fun _ => G) (fun _ => by kernel_rfl) ⟨fun V De _=>aP2 (sbI G G inI G<|oh G G G G) (sbI G G inI G<|oh G G G G),fun V De _=>aP1 (sbI G G inI G<|oh G G G G),fun V De _=>aP1 (ixN 0 ((k) - 1) G G G slt_145 (by omega) (by omega) G<|oh G G G G),fun V De _=>aP1 (ldR (s := scounted) 0 ((k) - 1) G G gE (Rg G) G fun q122 w122 => nl (odH G G G trivial (Sc 0 G Sn) (SubD.tail (SubD.tail Sr)))),fun V De _=>aP2 (ixN 0 (k) G G G slt_145 (by omega) (by omega) G<|oh G G G G) (ixN 0 (k) G G G slt_145 (by omega) (by simp only [List.length_set]; omega) G<|oh G G G G),fun V De _=>aP1 (ldR (s := scounted) 0 (k) G G gE (Rg G) G fun q126 w126 => nl (odH G G G trivial (Sc 0 G Sn) (SubD.tail (SubD.tail Sr)))),fun V De _=>aP1 (ixN 0 (k) G G G slt_145 (by omega) (by omega) G<|oh G G G G),fun V De _=>aP1 (stA (s := scounted) 0 (k) 0 G G G G (by omega) (Rg G)<|nl (od0H G G (SubD.tail Sr))),fun V De _=>aP1 (ixN 0 ((k) - 1) G G G slt_145 (by omega) (by simp only [List.length_set]; omega) G<|oh G G G G),fun V De _=>aP1 (stA (s := scounted) 0 ((k) - 1) 0 G G G G (by simp only [List.length_set]; omega) (Rg G)<|nl (od0H G G (SubD.tail Sr))),trivial⟩ fun V _ => bN<|nx<|rg<|mv G G<|sbE (r := ((k - 1 : Nat) : Int)) G G (by omega) inI G<|ru 1 G<|nl ?_
     exact ag ((k - 1, swapL ys k (k - 1)) : Nat × List Tcounted) ⟨by show i ≤ k - 1; omega, by show k - 1 ≤ m; omega, (swapL_len _ _ _).trans hl, (shD_gt (by omega)).symm.trans hy⟩ (by show k - 1 - i < k - i; omega) (Gs G) G Sn
    ·
     have hfin : ys = symP ltC (f + 1) a m b xs := by
      rw [symP, if_neg (by omega), if_pos (by omega), ← e, ← hy, show k - i = 0 by omega]
      rfl
     subst hfin
     exact ex<|tE<|tE<|bE<|nx<|rt<|tR<|fR0 () G trivial G Sn
  ·
   refine sk<|nx<|qg<|ru 2 G<|adE (r := ((a + b : Nat) : Int)) G G (by omega) inI G<|cv Tryz.underlying3 Tryz.underlying278 G (u64_nat (by omega)) G<|shR G G (by omega) (shr1n _) G<|cv Tryz.underlying278 Tryz.underlying3 G (i64_nat (by omega)) G<|ru 1 G<|nl<|nx<|qg<|ru 2 G<|adE (r := (((a + b) / 2 + m : Nat) : Int)) G G (by omega) inI G<|ru 1 G<|nl<|nx<|sa 2 G<|sq<|sa 3 G<|jnC (σ := Nat × Nat) [(0, _), (1, _), (2, _), (3, _), (4, _), (18, _), (19, _)] _ (fun s C => (20, .int .i64 (s.1 : Int)) :: (21, .int .i64 (s.2 : Int)) :: C) (fun s => [@row Tcounted rcounted 150 v xs, fz X w]) (fun s => (a + b) / 2 + m ≤ s.1 + b ∧ a ≤ s.1 ∧ s.1 ≤ s.2 ∧ s.2 ≤ (a + b) / 2 ∧ s.2 ≤ m ∧ search (fun q => !ltC (xs.getD ((a + b) / 2 + m - 1 - q) default) (xs.getD q default)) (b - a) s.1 s.2 = symS ltC a m b xs) (Gs G) Sn ?_ ?_
   ·
    refine cdP G (fun h140 => ?_) (fun h140 => ?_)
    · exact qg<|ru 2 G<|sbE (r := (((a + b) / 2 + m - b : Nat) : Int)) G G (by omega) inI G<|ru 1 G<|nl<|nx<|ra 2 G<|jx (((a + b) / 2 + m - b, (a + b) / 2) : Nat × Nat) ⟨(by show (a + b) / 2 + m ≤ (a + b) / 2 + m - b + b; omega), (by show a ≤ (a + b) / 2 + m - b; omega), (by show (a + b) / 2 + m - b ≤ (a + b) / 2; omega), Nat.le_refl _, (by show (a + b) / 2 ≤ m; omega), (by rw [symS, if_pos (by omega)])⟩ (Gs G) G Sn
    · exact sa 2 G<|ra 2 G<|jx ((a, m) : Nat × Nat) ⟨(by show (a + b) / 2 + m ≤ a + b; omega), Nat.le_refl _, (by show a ≤ m; omega), (by show m ≤ (a + b) / 2; omega), Nat.le_refl _, (by rw [symS, if_neg (by omega)])⟩ (Gs G) G Sn
   ·
    rintro ⟨i0, j0⟩ ⟨g1, g2, g3, g4, g5, hsy⟩
    simp only at g1 g2 g3 g4 g5 hsy
    show WQ _ _ _ [(20, .int .i64 ((i0 : Int))), (21, .int .i64 ((j0 : Int))), (0, _), (1, _), (2, _), (3, _), (4, _), (18, _), (19, _)] [@row Tcounted rcounted 150 v xs, fz X w] _
    refine nx<|qg<|mv G G<|sbE (r := (((a + b) / 2 + m - 1 : Nat) : Int)) G G (by omega) inI G<|ru 1 G<|nl<|nx<|sq<|bk<|lpC (σ := Nat × Nat × Nat) [(0, _), (1, _), (2, _), (3, _), (4, _), (18, _), (19, _), (22, _)] _ (fun s C => (20, .int .i64 (s.2.1 : Int)) :: (21, .int .i64 (s.2.2 : Int)) :: C) (fun s => (a + b) / 2 + m ≤ s.2.1 + b ∧ a ≤ s.2.1 ∧ s.2.1 ≤ s.2.2 ∧ s.2.2 ≤ (a + b) / 2 ∧ s.2.2 ≤ m ∧ s.2.2 - s.2.1 ≤ s.1 ∧ search (fun q => !ltC (xs.getD ((a + b) / 2 + m - 1 - q) default) (xs.getD q default)) s.1 s.2.1 s.2.2 = symS ltC a m b xs) (fun s => s.2.2 - s.2.1) (b - a, i0, j0) (Gs G) Sn ⟨g1, g2, g3, g4, g5, (by show j0 - i0 ≤ b - a; omega), hsy⟩ (Gs G) ?_
    rintro ⟨n, i, j⟩ ⟨h1, h2, h3, h4, h5, hn, hs⟩
    simp only at h1 h2 h3 h4 h5 hn hs
    show WC _ _ _ [(20, .int .i64 (i : Int)), (21, .int .i64 (j : Int)), (0, _), (1, _), (2, _), (3, _), (4, _), (18, _), (19, _), (22, _)] _ _
    refine sq<|sa 3 G<|cdP G (fun h151 => ?_) (fun h151 => ?_)
    ·
     refine sk<|nx<|bk<|qg<|ru 2 G<|adE (r := ((i + j : Nat) : Int)) G G (by omega) inI G<|cv Tryz.underlying3 Tryz.underlying278 G (u64_nat (by omega)) G<|shR G G (by omega) (shr1n _) G<|cv Tryz.underlying278 Tryz.underlying3 G (i64_nat (by omega)) G<|ru 1 G<|nl<|nx<|sq<|rgQ mixed (by kernel_rfl)<|ru 4 G<|sbE (r := (((a + b) / 2 + m - 1 - (i + j) / 2 : Nat) : Int)) G G (by omega) inI G<|ixN 0 (((a + b) / 2 + m - 1 - (i + j) / 2 : Nat)) G G G slt_145 (by omega) (by omega) G<|ldR (s := scounted) 0 (((a + b) / 2 + m - 1 - (i + j) / 2 : Nat)) G G gE (Rg G) G fun q164 w164 => ru 2 G<|ixN 0 (((i + j) / 2 : Nat)) G G G slt_145 (by omega) (by omega) G<|ldR (s := scounted) 0 (((i + j) / 2 : Nat)) G G gE (Rg G) G fun q168 w168 => cfqc (cmpC_c _ _ _ _ w164 w168) (Kg G) G G G (Si [3,1] G) G<|ru 2 G<|nlQ<|nx<|cdN G (fun h171 => ?_) (fun h171 => ?_)
     ·
      refine rg<|mv G G<|adE (r := (((i + j) / 2 + 1 : Nat) : Int)) G G (by omega) inI G<|ru 1 G<|nl<|bN ?_
      exact ag ((n - 1, (i + j) / 2 + 1, j) : Nat × Nat × Nat) ⟨(by show (a + b) / 2 + m ≤ (i + j) / 2 + 1 + b; omega), (by show a ≤ (i + j) / 2 + 1; omega), (by show (i + j) / 2 + 1 ≤ j; omega), (by show j ≤ (a + b) / 2; omega), (by show j ≤ m; omega), (by show j - ((i + j) / 2 + 1) ≤ n - 1; omega), (search_t (fun q => !ltC (xs.getD ((a + b) / 2 + m - 1 - q) default) (xs.getD q default)) (by omega) hn (not_dectrue h171)).symm.trans hs⟩ (by show j - ((i + j) / 2 + 1) < j - i; omega) (Gs G) G Sn
     ·
      refine ra 2 G<|bN ?_
      exact ag ((n - 1, i, (i + j) / 2) : Nat × Nat × Nat) ⟨(by show (a + b) / 2 + m ≤ i + b; omega), (by show a ≤ i; omega), (by show i ≤ (i + j) / 2; omega), (by show (i + j) / 2 ≤ (a + b) / 2; omega), (by show (i + j) / 2 ≤ m; omega), (by show (i + j) / 2 - i ≤ n - 1; omega), (search_f (fun q => !ltC (xs.getD ((a + b) / 2 + m - 1 - q) default) (xs.getD q default)) (by omega) hn (fun q => Bool.false_ne_true ((not_decfalse h171).symm.trans q))).symm.trans hs⟩ (by show (i + j) / 2 - i < j - i; omega) (Gs G) G Sn
    ·
     have e : symS ltC a m b xs = i := by rw [← hs, search_end _ _ _ _ (by omega)]
     refine ex<|tE<|tE<|bE<|nx<|qg<|ru 2 G<|sbE (r := (((a + b) / 2 + m - i : Nat) : Int)) G G (by omega) inI G<|ru 1 G<|nl<|nx<|sq<|qg<|ru 4 G<|ja 181 4 [] [0,1,2,3,4,18,20,24] G G G<|nl<|nx<|jnC (σ := List Tcounted) [(0, _), (1, _), (3, _), (4, _), (18, _), (20, _), (24, _)] _ (fun s C => C) (fun s => [@row Tcounted rcounted 150 v s, fz X w]) (fun s => s = (if i < m ∧ m < (a + b) / 2 + m - i then rotP i m ((a + b) / 2 + m - i) xs else xs) ∧ s.length = xs.length) (Gs G) Sn ?_ ?_
     ·
      refine cdB G (fun h185 => ?_) (fun h185 => ?_)
      ·
       have q185 : i < m ∧ m < (a + b) / 2 + m - i := by
        have q := h185
        simp only [Bool.and_eq_true, decide_eq_true_eq] at q
        omega
       exact rg<|ru 5 G<|cf1 0 (rot_c v xs i m ((a + b) / 2 + m - i) (by omega) (by omega) (by omega)) (Kg G) G G Sn G fun _ v191 _ => nl<|jx (rotP i m ((a + b) / 2 + m - i) xs) ⟨(if_pos q185).symm, rotP_len ..⟩ (Gs G) G Sn
      ·
       have q185 : ¬(i < m ∧ m < (a + b) / 2 + m - i) := by
        have q := h185
        simp only [Bool.and_eq_false_iff, decide_eq_false_iff_not] at q
        omega
       exact sk<|jx xs ⟨(if_neg q185).symm, G⟩ (Gs G) G Sn
     ·
      rintro y1 ⟨hy1, hl1⟩
      show WQ _ _ _ [(0, _), (1, _), (3, _), (4, _), (18, _), (20, _), (24, _)] [@row Tcounted rcounted 150 v y1, fz X w] _
      refine nx<|sq<|qg<|ru 4 G<|ja 195 4 [] [0,1,3,4,18,20,24] G G G<|nl<|nx<|jnC (σ := List Tcounted) [(0, _), (3, _), (4, _), (18, _), (24, _)] _ (fun s C => C) (fun s => [@row Tcounted rcounted 150 v s, fz X w]) (fun s => s = (if a < i ∧ i < (a + b) / 2 then symP ltC f a i ((a + b) / 2) y1 else y1) ∧ s.length = xs.length) (Gs G) Sn ?_ ?_
      ·
       refine cdB G (fun h199 => ?_) (fun h199 => ?_)
       ·
        have q199 : a < i ∧ i < (a + b) / 2 := by
         have q := h199
         simp only [Bool.and_eq_true, decide_eq_true_eq] at q
         omega
        exact rg<|ru 5 G<|cf1 0 (ih v y1 a i ((a + b) / 2) (by omega) (by omega) (by omega) (by omega)) (Kg G) G G Sn G fun _ v205 _ => nl<|jx (symP ltC f a i ((a + b) / 2) y1) ⟨(if_pos q199).symm, (symP_len ..).trans hl1⟩ (Gs G) G Sn
       ·
        have q199 : ¬(a < i ∧ i < (a + b) / 2) := by
         have q := h199
         simp only [Bool.and_eq_false_iff, decide_eq_false_iff_not] at q
         omega
        exact sk<|jx y1 ⟨(if_neg q199).symm, hl1⟩ (Gs G) G Sn
      ·
       rintro y2 ⟨hy2, hl2⟩
       show WQ _ _ _ [(0, _), (3, _), (4, _), (18, _), (24, _)] [@row Tcounted rcounted 150 v y2, fz X w] _
       refine nx<|qg<|ru 4 G<|ja 209 4 [] [0,3,4,18,24] G G G<|nl<|nx<|cdB G (fun h213 => ?_) (fun h213 => ?_)
       ·
        have q213 : (a + b) / 2 < (a + b) / 2 + m - i ∧ (a + b) / 2 + m - i < b := by
         have q := h213
         simp only [Bool.and_eq_true, decide_eq_true_eq] at q
         omega
        refine rg<|ru 5 G<|cf1 0 (ih v y2 ((a + b) / 2) ((a + b) / 2 + m - i) b (by omega) (by omega) (by omega) (by omega)) (Kg G) G G Sn G fun _ v219 _ => nl ?_
        have hfin : symP ltC f ((a + b) / 2) ((a + b) / 2 + m - i) b y2 = symP ltC (f + 1) a m b xs := by
         rw [symP, if_neg (by omega), if_neg (by omega)]
         simp only [e]
         rw [if_pos q213, ← hy1, ← hy2]
        rw [hfin]
        exact fR0N () G trivial G Sn
       ·
        have q213 : ¬((a + b) / 2 < (a + b) / 2 + m - i ∧ (a + b) / 2 + m - i < b) := by
         have q := h213
         simp only [Bool.and_eq_false_iff, decide_eq_false_iff_not] at q
         omega
        have hfin : y2 = symP ltC (f + 1) a m b xs := by
         rw [symP, if_neg (by omega), if_neg (by omega)]
         simp only [e]
         rw [if_neg q213, ← hy1]
         exact hy2
        subst hfin
        exact sk<|fR0N () G trivial G Sn
theorem symM_c : ∀ (f : Nat), ∀ (v : Value) (xs : List Tcounted) (a m b : Nat), a < m → m < b → b ≤ xs.length → b - a ≤ f → Fnc Pg 219 [v, .int .i64 (a : Int), .int .i64 (m : Int), .int .i64 (b : Int), (.func (.func 86) #[] #[])] [@row Tcounted rcounted 150 v xs] [] (fun (_ : Unit) _ => True) (fun _ _ => [@row Tcounted rcounted 150 v (symP ltC f a m b xs)]) (fun _ _ => [])
 | 0, _, _, _, _, _, ha, hm, _, hf => absurd hf (by omega)
 | f + 1, v, xs, a, m, b, ha, hm, hb, hf => symM_step v xs a m b f (symM_c f) ha hm hb hf
theorem stable_c (v : Value) (xs : List Tcounted) (n : Nat) (hn : n ≤ xs.length) : Fnc Pg 161 [v, .int .i64 (n : Int), (.func (.func 86) #[] #[])] [@row Tcounted rcounted 150 v xs] [] (fun (_ : Unit) _ => True) (fun _ _ => [@row Tcounted rcounted 150 v (outP ltC n n 20 (blkP ltC n n 0 xs))]) (fun _ _ => []) := by
 refine Fnc.proof Tryz.func161 G 63 G G fun X w => lenRC 0 G fun hlen => sa 1 G<|sa 3 G<|sq<|bk<|lpE (σ := Nat × Nat × List Tcounted) [(0, _), (1, _), (2, _), (6, _)] _ (fun s C => (7, .int .i64 (s.2.1 : Int)) :: (8, .int .i64 ((s.2.1 + 20 : Nat) : Int)) :: C) (fun s => [@row Tcounted rcounted 150 v s.2.2, fz X w]) (fun _ Dc => Dc) (fun s => s.2.1 ≤ n ∧ n - s.2.1 ≤ s.1 ∧ s.2.2.length = xs.length ∧ blkP ltC n s.1 s.2.1 s.2.2 = blkP ltC n n 0 xs) (fun s => n - s.2.1) (n, 0, xs) (Gs G) Sn ⟨Nat.zero_le _, Nat.le_refl _, G, G⟩ (Gs G) G Sn ?_
 rintro ⟨f, a, ys⟩ ⟨ha, hf, hl, hy⟩
 simp only at ha hf hl hy
 show WC _ _ _ [(7, .int .i64 ((a : Int))), (8, .int .i64 (((a + 20 : Nat) : Int))), (0, _), (1, _), (2, _), (6, _)] [@row Tcounted rcounted 150 v ys, fz X w] _
 refine sq<|sa 3 G<|cdP G (fun h13 => ?_) (fun h13 => ?_)
 ·
  refine sk<|nx<|bk<|qg<|ru 4 G<|cf1 0 (insS_c v ys a (a + 20) (by omega) (by omega)) (Kg G) G G Sn G fun _ v18 _ => nl<|nx<|sa 2 G<|rg<|ru 2 G<|adE (r := ((a + 20 + 20 : Nat) : Int)) G G (by omega) inI G<|ru 1 G<|nl<|bN ?_
  exact ag ((f - 1, a + 20, insP ltC a (a + 20) ys) : Nat × Nat × List Tcounted) ⟨by show a + 20 ≤ n; omega, by show n - (a + 20) ≤ f - 1; omega, (insP_len ..).trans hl, (blkP_le ltC (by omega) (by omega)).symm.trans hy⟩ (by show n - (a + 20) < n - a; omega) (Gs G) G Sn
 ·
  have hb : insP ltC a n ys = blkP ltC n n 0 xs := (blkP_end ltC (by omega)).symm.trans hy
  have hbl : (insP ltC a n ys).length = xs.length := (insP_len ..).trans hl
  refine ex<|tE<|tE<|bE<|nx<|qg<|ru 4 G<|cf1 0 (insS_c v ys a n (by omega) (by omega)) (Kg G) G G Sn G fun _ v27 _ => nl<|nx<|bk<|lpE (σ := Nat × Nat × List Tcounted) [(0, _), (1, _), (2, _)] _ (fun s C => (6, .int .i64 (s.2.1 : Int)) :: C) (fun s => [@row Tcounted rcounted 150 v s.2.2, fz X w]) (fun _ Dc => Dc) (fun s => 20 ≤ s.2.1 ∧ n - s.2.1 ≤ s.1 ∧ s.2.2.length = xs.length ∧ outP ltC n s.1 s.2.1 s.2.2 = outP ltC n n 20 (blkP ltC n n 0 xs)) (fun s => n - s.2.1) (n, 20, insP ltC a n ys) (Gs G) Sn ⟨Nat.le_refl _, (by show n - 20 ≤ n; omega), hbl, (by rw [hb])⟩ (Gs G) G Sn ?_
  rintro ⟨g, z, zs⟩ ⟨hz, hg, hlz, hzs⟩
  simp only at hz hg hlz hzs
  show WC _ _ _ [(6, .int .i64 ((z : Int))), (0, _), (1, _), (2, _)] [@row Tcounted rcounted 150 v zs, fz X w] _
  refine sq<|sa 3 G<|cdP G (fun h30 => ?_) (fun h30 => ?_)
  ·
   refine sk<|nx<|bk<|qg<|mv G G<|mlE (r := ((2 * z : Nat) : Int)) G G (by omega) inI G<|ru 2 G<|nl<|nx<|sq<|bk<|lpE (σ := Nat × Nat × List Tcounted) [(0, _), (1, _), (2, _), (6, _)] _ (fun s C => (7, .int .i64 (s.2.1 : Int)) :: (8, .int .i64 ((2 * z + s.2.1 : Nat) : Int)) :: C) (fun s => [@row Tcounted rcounted 150 v s.2.2, fz X w]) (fun _ Dc => Dc) (fun s => s.2.1 ≤ n ∧ n - s.2.1 ≤ s.1 ∧ s.2.2.length = xs.length ∧ mrgP ltC n z s.1 s.2.1 s.2.2 = mrgP ltC n z n 0 zs) (fun s => n - s.2.1) (n, 0, zs) (Gs G) Sn ⟨Nat.zero_le _, Nat.le_refl _, hlz, G⟩ (Gs G) G Sn ?_
   rintro ⟨f, a, ys⟩ ⟨ha, hf, hl, hy⟩
   simp only at ha hf hl hy
   show WC _ _ _ [(7, .int .i64 ((a : Int))), (8, .int .i64 (((2 * z + a : Nat) : Int))), (0, _), (1, _), (2, _), (6, _)] [@row Tcounted rcounted 150 v ys, fz X w] _
   refine sq<|sa 3 G<|cdP G (fun h35 => ?_) (fun h35 => ?_)
   ·
    refine sk<|nx<|bk<|qg<|ru 4 G<|adE (r := ((a + z : Nat) : Int)) G G (by omega) inI G<|ru 2 G<|cf1 0 (symM_c (2 * z) v ys a (a + z) (2 * z + a) (by omega) (by omega) (by omega) (by omega)) (Kg G) G G Sn G fun _ v43 _ => nl<|nx<|sa 2 G<|rg<|ru 2 G<|mlE (r := ((2 * z : Nat) : Int)) G G (by omega) inI G<|adE (r := ((2 * z + (2 * z + a) : Nat) : Int)) G G (by omega) inI G<|ru 1 G<|nl<|bN ?_
    exact ag ((f - 1, 2 * z + a, symP ltC (2 * z) a (a + z) (2 * z + a) ys) : Nat × Nat × List Tcounted) ⟨by show 2 * z + a ≤ n; omega, by show n - (2 * z + a) ≤ f - 1; omega, (symP_len ..).trans hl, (mrgP_le ltC (by omega) (by omega)).symm.trans hy⟩ (by show n - (2 * z + a) < n - a; omega) (Gs G) G Sn
   ·
    refine ex<|tE<|tE<|bE<|nx<|sq<|qg<|ru 2 G<|adE (r := ((a + z : Nat) : Int)) G G (by omega) inI G<|ru 1 G<|nl<|nx<|sa 3 G<|cdP G (fun h54 => ?_) (fun h54 => ?_)
    ·
     refine rg<|ru 5 G<|cf1 0 (symM_c (n - a) v ys a (a + z) n (by omega) (by omega) (by omega) (by omega)) (Kg G) G G Sn G fun _ v60 _ => nl<|nx<|rg<|mv G G<|mlE (r := ((2 * z : Nat) : Int)) G G (by omega) inI G<|ru 1 G<|nl<|bN ?_
     exact ag ((g - 1, 2 * z, symP ltC (n - a) a (a + z) n ys) : Nat × Nat × List Tcounted) ⟨by show 20 ≤ 2 * z; omega, by show n - 2 * z ≤ g - 1; omega, (symP_len ..).trans hl, by rw [outP_lt ltC (by omega) (by omega), ← hy, mrgP_end ltC (by omega), if_pos (by omega)] at hzs; exact hzs⟩ (by show n - 2 * z < n - z; omega) (Gs G) G Sn
    ·
     refine sk<|nx<|rg<|mv G G<|mlE (r := ((2 * z : Nat) : Int)) G G (by omega) inI G<|ru 1 G<|nl<|bN ?_
     exact ag ((g - 1, 2 * z, ys) : Nat × Nat × List Tcounted) ⟨by show 20 ≤ 2 * z; omega, by show n - 2 * z ≤ g - 1; omega, hl, by rw [outP_lt ltC (by omega) (by omega), ← hy, mrgP_end ltC (by omega), if_neg (by omega)] at hzs; exact hzs⟩ (by show n - 2 * z < n - z; omega) (Gs G) G Sn
  ·
   have hfin : zs = outP ltC n n 20 (blkP ltC n n 0 xs) := (outP_end ltC (by omega)).symm.trans hzs
   subst hfin
   exact ex<|tE<|tE<|bE<|fR0N () G trivial G Sn
theorem sort_c (v : Value) (xs : List Tcounted)   : Fnc Pg 85 [v, (.func (.func 86) #[] #[])] [@row Tcounted rcounted 150 v xs] [] (fun (_ : Unit) _ => True) (fun _ _ => [@row Tcounted rcounted 150 v (sortP ltC xs)]) (fun _ _ => []) := by
 exact Fnc.proof Tryz.func85 G 9 G G fun X w => lenRC 0 G fun hlen => rg<|ru 2 G<|lnR 0 G G Tryz.underlying145 G fun l6 => mv G G<|cf1 0 (stable_c v xs xs.length (Nat.le_refl _)) (Kg G) G G Sn G fun _ v8 _ => nl<|fR0N () G trivial G Sn
theorem grow_c (n : Nat) (hn : n ≤ 1000) : Fnc Pg 217 [.slice none 0 0, .int .i64 (n : Int)] [] [] (fun (_ : Unit) _ => True) (fun _ v => [@row HA rHA 70 v []]) (fun _ _ => []) := by
 refine Fnc.proof Tryz.func217 G 27 G G fun X w => sa 1 G<|sq<|sa 2 G<|cdP G (fun h6 => ?_) (fun h6 => ?_)
 · exact absurd h6 (by omega) --#done
 ·
  refine sk<|nx<|sq<|qg<|ru 2 G<|cpV G Tryz.underlying50 G<|mv G G<|lnV G Tryz.underlying50 G<|sbI G G inI G<|sbE (r := ((n : Nat) : Int)) G G (by omega) inI G<|ru 1 G<|nl<|nx<|sa 2 G<|cdP G (fun h16 => ?_) (fun h16 => ?_)
  · exact rg<|ru 2 G<|cpV G Tryz.underlying50 G<|slV (h := 0) G slt_50 G (Nat.le_refl _) G<|mv G G<|apZ G G app_50 Tryz.underlying3 (by omega) (by omega) (by omega) G fun b22 G22 cs22 hc22 hg22 hm22 => mv G G<|lnV G Tryz.underlying50 G<|slV (h := 0) G slt_50 G (Nat.zero_le _) G<|rwZ (α := HA) hc22 hm22<|ru 1 G<|nl<|nx<|sa 2 G<|rt<|fR1 () G G trivial G Sn
  · exact rwC HA 70<|sk<|nx<|sa 2 G<|rt<|fR1 () G G trivial G Sn
theorem concat_c (v_q : Value) (q : List (List HA)) (hq : sumL q q.length ≤ 1000) : Fnc Pg 160 [v_q] [] [⟨v_q, q⟩] (fun (_ : Unit) _ => True) (fun _ v => [@row HA rHA 70 v q.flatten]) (fun _ _ => []) := by
 refine Fnc.proof Tryz.func160 G 36 G G fun X w => sa 1 G<|sa 1 G<|sq<|qg<|mv G G<|lnP 0 G G Tryz.underlying272 G fun l10 => mv G G<|nl<|nx<|bk<|lpC (σ := Nat) [(0, _), (9, _), (10, _)] _ (fun i C => (11, .int .i64 (i : Int)) :: (3, .int .i64 ((sumL q i : Nat) : Int)) :: C) (fun i => i ≤ q.length) (fun i => q.length - i) 0 (Gs G) (Sc 0 G Sn) (Nat.zero_le _) (Gs G) ?_
 intro i hi
 refine sa 1 G<|sq<|cdP G (fun h12 => ?_) (fun h12 => ?_)
 ·
  refine sk<|nx<|sq<|bk<|qg<|ixQ 0 G G G slt_272 G fun v13 => ldL 0 G G (Og G) G fun v14 => ru 1 G<|nl<|nx<|qg<|ru 2 G ?_
  have hs : sumL q (i + 1) = sumL q i + (q.getD (i : Int).toNat default).length := sumL_succ (q := q) (i := i) (by omega)
  have hs2 := sumL_le (q := q) (q.length - (i + 1)) (i + 1) (by omega)
  refine lnP 0 G G Tryz.underlying50 G fun l17 => adE (r := ((sumL q (i + 1) : Nat) : Int)) G G (by omega) inI G<|ru 1 G<|nl<|nx<|sa 2 G<|cdP G (fun h20 => ?_) (fun h20 => ?_)
  · exact absurd h20 (by omega) --#done
  ·
   refine sk<|bN<|nx<|rg<|adI G G inI G<|mv G G<|nl ?_
   exact ag (i + 1) (by omega) (by omega) (Gs G) G (Sc 2 G Sn)
 ·
  obtain rfl : i = q.length := by omega
  refine ex<|tE<|tE<|bE<|nx<|qg<|mv G G<|cf (grow_c (sumL q q.length) hq) (Kg G) G Sn G fun _ v24 _ => ru 1 G<|nl<|nx<|sq<|qg<|mv G G<|lnP 0 G G Tryz.underlying272 G fun l26 => mv G G<|nl<|nx<|bk<|lpE (σ := Nat × Value) [(25, _), (26, _)] _ (fun s C => (27, .int .i64 (s.1 : Int)) :: (6, s.2) :: C) (fun s => [@row HA rHA 70 s.2 (catL q s.1), fz X w]) (fun _ Dc => Dc) (fun s => s.1 ≤ q.length) (fun s => q.length - s.1) (0, v24) (Gs G) (Sc 0 G Sn) (Nat.zero_le _) (Gs G) G (Sc 0 G Sn) ?_
  rintro ⟨i, rv⟩ hi
  simp only at hi
  show WC _ _ _ [(27, .int .i64 ((i : Int))), (6, _), (25, _), (26, _)] [@row HA rHA 70 rv (catL q i), fz X w] _
  refine sa 1 G<|sq<|cdP G (fun h28 => ?_) (fun h28 => ?_)
  ·
   refine sk<|nx<|sq<|bk<|qg<|ixQ 0 G G G slt_272 G fun v29 => ldL 0 G G (Og G) G fun v30 => ru 1 G<|nl<|nx<|rg<|ru 2 G ?_
   have hs : sumL q (i + 1) = sumL q i + (q.getD (i : Int).toNat default).length := sumL_succ (q := q) (i := i) (by omega)
   have hs2 := sumL_le (q := q) (q.length - (i + 1)) (i + 1) (by omega)
   have hc := catL_len q i
   refine ap 0 0 G G G G app_50 (by omega) (by omega) G fun v33 => ru 1 G<|nl<|bN<|nx<|rg<|adI G G inI G<|mv G G<|nl ?_
   rw [show catL q i ++ q.getD (i : Int).toNat default = catL q (i + 1) from (catL_succ (by omega)).symm]
   exact ag ((i + 1, v33) : Nat × Value) (by show i + 1 ≤ q.length; omega) (by show q.length - (i + 1) < q.length - i; omega) (Gs G) G (Sc 2 G Sn)
  ·
   obtain rfl : i = q.length := by omega
   rw [catL_all]
   exact ex<|tE<|tE<|bE<|nx<|sa 2 G<|rt<|fR1 () G G trivial G Sn
end Go.Proofs.YtmpoffijcfaalaaGreat
namespace Go.Proofs.YtmpoffijcfaalaaGreat.Al
open Go.Eng Go.YtmpoffijcfaalaaGreat Go.RowKit
def Item (SS : Nat → Prop) (W0 : World) := { p : HC // p.1.wf ∧ Atom.holds ⟨p.2, p.1.fAccount.fHolders⟩ SS W0 }
def encA {SS : Nat → Prop} {W0 : World} (x : Item SS W0) : Array Value := #[.agg (ccounted x.1.1 x.1.2).toArray]
def dat {SS : Nat → Prop} {W0 : World} (xs : List (Item SS W0)) : List Tcounted := xs.map (·.1.1)
theorem dat_snoc {SS : Nat → Prop} {W0 : World} (l : List (Item SS W0)) (y : Item SS W0) : dat (l ++ [y]) = dat l ++ [y.1.1] := by simp [dat]
structure Bs (SS : Nat → Prop) (k5 : Value) (ss : List TState) (W0 : World) : Prop where
 hl : Atom.holds ⟨k5, ss⟩ SS W0
 acc : ∀ S ∈ ss, S.fAccounts.length ≤ 500
 img : ∀ S ∈ ss, waitsP ss S = true → (rdState S.fImage).1.fAccounts.length ≤ 500 ∧ ∀ a ∈ (rdState S.fImage).1.fAccounts, a.fHolders = []
theorem stA1 {b1 : Nat} {k5 : Value} {w : World} (box : w.heap[b1]? = some (.cells #[k5] 28 (0, 0))) : St w [b1] w [bl b1 28 [k5]] := ⟨Stp.refl _ _, fun p hp => by
 have : p = bl b1 28 [k5] := by simpa using hp
 subst this
 exact box, by simp [Own.bs, bsOf], fun b hb => .inl (by simpa [Own.bs, bsOf] using hb)⟩
theorem stA2 {b1 b4 : Nat} {k5 : Value} {cs : List Value} {w : World} (box : w.heap[b1]? = some (.cells #[k5] 28 (0, 0))) (hne : b4 ≠ b1) (box4 : w.heap[b4]? = some (.cells cs.toArray 55 (0, 0))) : St w [b4, b1] w [bl b4 55 cs, bl b1 28 [k5]] := ⟨Stp.refl _ _, fun q hq => by
 have : q = bl b4 55 cs ∨ q = bl b1 28 [k5] := by simpa using hq
 rcases this with rfl | rfl
 · exact box4
 · exact box, by simp [Own.bs, bsOf, hne], fun b hb => .inl (by simpa [Own.bs, bsOf] using hb)⟩
theorem iterA (n ll : Nat) {n₀ b1 b3 : Nat} {SS : Nat → Prop} {W0 : World} (hSS : ∀ b, SS b → b < n₀ ∧ b ≠ b1 ∧ b ≠ b3) (J Jx : List (Item SS W0) → World → Prop) (W : World) (k5 : Value) (ss : List TState) (hB : Bs SS k5 ss W0) (hb1 : b1 < n₀) (hb3 : b3 < n₀) (hne : b1 ≠ b3) (hn0 : n₀ ≤ W.heap.size)
  (box : W.heap[b1]? = some (.cells #[k5] 28 (0, 0))) (h0W : KC n₀ b3 150 W0 W) (hJ : AbidesFrom W.heap.size J) (hJx : AbidesFrom W.heap.size Jx)
  (hY : ∀ pre x W1, J pre W1 → pre.length < (allU ss ss.length).length → YieldAt Fence.wide (n - 1) Tryz.prog ll (encA x) W1 fun e W' => (e = .returned (.bool true) ∧ J (pre ++ [x]) W' ∧ KC n₀ b3 150 W1 W') ∨ (e = .returned (.bool false) ∧ Jx (pre ++ [x]) W'))
  (hJ0 : J [] W) : Ret Tryz.prog 158 [.func (.yield ll) #[] #[], .pointer (some ⟨b1, 0, none⟩)] W (fun _ w' => (∃ xs, dat xs = allU ss ss.length ∧ J xs w') ∨ ∃ pre, Jx pre w') := by
 have keepJ : ∀ {pre : List (Item SS W0)} {w w' : World}, J pre w → Stp [] w w' → J pre w' := fun hj hs => hJ _ _ _ none hj hs.grown (fun r h => by cases h)
 obtain ⟨ysS, hS1, hS2, hS3⟩ := raw_of (s := sState) hB.hl
 have hSl : ysS.length = ss.length := by rw [← hS1]; simp
 have up : ∀ {t : Atom} {w : World} {L : Go.Eng.Own}, t.holds SS W0 → KC n₀ b3 150 W0 w → n₀ ≤ w.heap.size → (∀ b ∈ L.bs, b = b1 ∨ n₀ ≤ b) → t.holds (Sf L.bs w) w := fun h hk hn hL => Atom.keep h (fun b hb => ⟨Nat.lt_of_lt_of_le (hSS b hb).1 hn, fun hx => by
  rcases hL b hx with h | h
  · exact (hSS b hb).2.1 h
  ·
   have := (hSS b hb).1
   omega⟩) (fun b hb => hk.block b (hSS b hb).1 (hSS b hb).2.2)
 refine enter [b1] [bl b1 28 [k5]] [⟨k5, ss⟩] Tryz.func158 G 47 G (Nat.le_of_ble_eq_true G) (stA1 box) (DH.cons (up hB.hl h0W hn0 (by simp [Own.bs, bsOf])) DH.nil)<|qg<|rl 1 [0] G G<|lnP 0 G G Tryz.underlying28 G fun l11 => mv G G<|nl<|nx<|bk ?_
 refine lpW (σ := Nat) (fun i => [(12, .int .i64 (i : Int)), (11, .int .i64 (ss.length : Int)), (10, k5), (1, .pointer (some ⟨b1, 0, none⟩)), (0, .func (.yield ll) #[] #[])])
  (fun i w => i ≤ ss.length ∧ (∃ pre, dat pre = allU ss i ∧ J pre w) ∧ KC n₀ b3 150 W w) (fun i => ss.length - i) 0 ⟨rfl, rfl, rfl, rfl, rfl, trivial⟩ ?_ ?_
 ·
  intro w st dh
  have hb := Ep.bl_at 0 rfl st
  have hs : Stp [] W w := Ep.stp_own st.stp (hb.trans box.symm)
  exact ⟨Nat.zero_le _, ⟨[], G, keepJ hJ0 hs⟩, hs.kc hn0 (by simp)⟩
 ·
  rintro i w ⟨hi, ⟨pre, hpre, hJw⟩, hK⟩ a f
  have box' : w.heap[b1]? = some (.cells #[k5] 28 (0, 0)) := (hK.block b1 hb1 hne).trans box
  have hn' : n₀ ≤ w.heap.size := Nat.le_trans hn0 hK.size
  have hK0 := h0W.trans hK
  by_cases hil : i < ss.length
  ·
   obtain ⟨⟨S, h0, h1, h2, h3, h4, h5⟩, hx⟩ : ∃ p, ysS[i]? = some p := ⟨_, List.getElem?_eq_getElem (by omega)⟩
   have hSg : ss.getD i default = S := by rw [← hS1]; simp [List.getD, hx]
   have hSm : S ∈ ss := by rw [← hSg]; exact getD_mem hil
   have hsub := hS3 _ (List.mem_of_getElem? hx)
   have haA : Atom.holds ⟨h0, S.fAccounts⟩ SS W0 := hsub _ (List.mem_cons_self ..)
   obtain ⟨ysA, hA1, hA2, hA3⟩ := raw_of (s := sAccount) haA
   have hAl : ysA.length = S.fAccounts.length := by rw [← hA1]; simp
   have hU : ∀ {t : Atom}, t.holds SS W0 → t.holds (Sf (Own.bs [bl b1 28 [k5]]) w) w := fun h => up h hK0 hn' (by simp [Own.bs, bsOf])
   refine (show WC ⟨Tryz.prog, 47, w, [b1]⟩ _ _ _ [bl b1 28 [k5]] [rawA sState k5 ysS, ⟨k5, ss⟩, ⟨h0, S.fAccounts⟩, ⟨h1, S.fMarks⟩, ⟨h2, S.fWaits⟩, ⟨h3, S.fDeals⟩, ⟨h4, S.fEnds⟩, ⟨h5, S.fImage⟩, rawA sAccount h0 ysA] from ?_) a w f (stA1 box')
    (DH.cons (hU hS2) (DH.cons (hU hB.hl) (DH.cons (hU haA) (DH.cons (hU (hsub _ (by simp))) (DH.cons (hU (hsub _ (by simp))) (DH.cons (hU (hsub _ (by simp))) (DH.cons (hU (hsub _ (by simp))) (DH.cons (hU (hsub _ (by simp))) (DH.cons (hU hA2) DH.nil)))))))))
   refine sa 1 G<|sq<|cdT (by simp [ev, lk]; omega)<|sk<|nx<|sq<|bk<|qg<|ixP 0 G G G slt_28 (by omega) hx G fun v14 => ldRaw (s := sState) 0 G G (Rg G) G fun w15 => al zero_55 G fun b4 => oc 3 G fun o_h0 => oc 4 G fun o_h1 => oc 5 G fun o_h2 => oc 6 G fun o_h3 => oc 7 G fun o_h4 => oc 8 G fun o_h5 => stW 0 (us := (cState S h0 h1 h2 h3 h4 h5)) G G G (Rg G) (by simp only [List.all_cons, List.all_nil, Bool.and_true, o_h0, o_h1, o_h2, o_h3, o_h4, o_h5]; rfl) G<|nl<|nx<|qg<|ru 1 G<|rl 2 [0] G G<|nl<|nx<|sq<|qg<|rl 1 [1] G G<|ldM 0 (cState S h0 h1 h2 h3 h4 h5) G G (Rg G) G G<|cfv (waits_c _ _ _ _ _ _ _ _ _ w15) (Kg G) G (Si [2,3,4,5,6,7,8] G) G<|nl<|nx ?_
   refine jnW (σ := Value × List HA) (fun s => [(5, s.1), (4, .pointer (some ⟨b4, 0, none⟩)), (12, .int .i64 (i : Int)), (11, .int .i64 (ss.length : Int)), (10, k5), (1, .pointer (some ⟨b1, 0, none⟩)), (0, .func (.yield ll) #[] #[])])
    (fun s w2 => s.2.map Prod.fst = listP ss S ∧ (∀ p ∈ s.2, Atom.holds ⟨p.2, p.1.fHolders⟩ SS W0) ∧ Rd n₀ b3 150 [b4, b1] s.1 s.2 w2 ∧ b4 ≠ b1 ∧ b4 ≠ b3 ∧ w2.heap[b4]? = some (.cells (cState S h0 h1 h2 h3 h4 h5).toArray 55 (0, 0)) ∧ Stp [] w w2) ?_ ?_
   ·
    have hfin : ∀ {w2 : World} {L : Go.Eng.Own}, St w [b1] w2 (L ++ [bl b4 55 (cState S h0 h1 h2 h3 h4 h5), bl b1 28 [k5]]) → b4 ≠ b1 ∧ b4 ≠ b3 ∧ w2.heap[b4]? = some (.cells (cState S h0 h1 h2 h3 h4 h5).toArray 55 (0, 0)) ∧ Stp [] w w2 ∧ n₀ ≤ b4 := fun {w2 L} st => by
     have e4 := st.own (bl b4 55 (cState S h0 h1 h2 h3 h4 h5)) (by simp)
     have e1 := st.own (bl b1 28 [k5]) (by simp)
     have hnd := (St.dropA (A := L) st).nd
     have h41 : b4 ≠ b1 := by simpa [Own.bs, bsOf] using hnd
     have hge : w.heap.size ≤ b4 := by
      rcases (St.dropA (A := L) st).new b4 (by simp [Own.bs, bsOf]) with h | h
      · exact absurd (by simpa using h) h41
      · exact h
     exact ⟨h41, by omega, e4, Ep.stp_own st.stp (e1.trans box'.symm), by omega⟩
    refine cdB G (fun h20 => ?_) (fun h20 => ?_)
    ·
     obtain ⟨hi1, hi2⟩ := hB.img S hSm h20
     refine qg<|rl 2 [0] G G<|cf (rs_c _ _) (Kg G) G (Sc 8 G Sn) G fun y24 v24 h24 => ?_
     obtain ⟨y24_0, y24_1, y24_2, y24_3, y24_4, y24_5⟩ := y24
     replace h24 : v24 = .tuple #[.agg (cState (rdState _).1 y24_0 y24_1 y24_2 y24_3 y24_4 y24_5).toArray, .int .i64 (rdState _).2] := h24
     subst h24
     refine ru 3 G<|al zero_55 G fun b6 => oc 0 G fun o_y24_0 => oc 1 G fun o_y24_1 => oc 2 G fun o_y24_2 => oc 3 G fun o_y24_3 => oc 4 G fun o_y24_4 => oc 5 G fun o_y24_5 => stW 0 (us := (cState ((rdState S.fImage).1) y24_0 y24_1 y24_2 y24_3 y24_4 y24_5)) G G G (Rg G) (by simp only [List.all_cons, List.all_nil, Bool.and_true, o_y24_0, o_y24_1, o_y24_2, o_y24_3, o_y24_4, o_y24_5]; rfl) G<|ru 1 G<|nl<|nx<|rg<|rl 3 [0] G G<|rawL (s := sAccount) 0 G fun ysI hI1 hI2 => ?_
     have hIl : ysI.length = (rdState S.fImage).1.fAccounts.length := by rw [← hI1]; simp
     refine bs1 (xs := [.tmp 27, .tmp 29]) (us := [h0, y24_0]) (E := 50) (bytes := 24) (n := 2) G (by exact app_272) (by simp only [List.all_cons, List.all_nil, Bool.and_true, o_h0, o_y24_0]) G G G G G fun b30 => frS (r := @repList _ (rawR sAccount)) [ysA, ysI] [[h0], [y24_0]] G (fun S w h => ⟨list_rd (h _ (List.mem_of_getElem? (i := 16) G)), list_rd (h _ (List.mem_of_getElem? (i := 0) G)), trivial⟩) (Nat.le_of_ble_eq_true G) ?_
     have hacc := hB.acc S hSm
     refine cf (concat_c _ [ysA, ysI] (by simp only [sumL]; simp; omega)) (Kg G) G (Sc 0 G Sn) G fun _ v31 _ => ru 1 G<|nl ?_
     intro a' w' f' st' dh'
     have st' : St w [b1] w' [@row HA rHA 70 v31 [ysA, ysI].flatten, bl b6 55 (cState ((rdState S.fImage).1) y24_0 y24_1 y24_2 y24_3 y24_4 y24_5), bl b4 55 (cState S h0 h1 h2 h3 h4 h5), bl b1 28 [k5]] := st'
     obtain ⟨g1, g2, g3, g4, g5⟩ := hfin (L := [_, _]) st'
     have hrow := st'.own _ (List.mem_cons_self ..)
     refine ⟨(v31, [ysA, ysI].flatten), f'.sub (Gs G), ?_, ?_, ?_, g1, g2, g3, g4⟩
     ·
      show List.map Prod.fst [ysA, ysI].flatten = _
      rw [listP, if_pos h20, ← hA1, ← hI1]
      simp
     ·
      intro p hp
      have hp : p ∈ ysA ∨ p ∈ ysI := by simpa using hp
      rcases hp with hp | hp
      · exact hA3 p hp _ (List.mem_cons_self ..)
      ·
       obtain ⟨S', w'', h⟩ := hI2 p hp _ (List.mem_cons_self ..)
       have he : p.1.fHolders = [] := hi2 _ (by rw [← hI1]; exact List.mem_map.2 ⟨p, hp, rfl⟩)
       rw [he] at h ⊢
       exact emp_any h
     ·
      refine rd_of_row (s := sAccount) hrow (by decide) fun b hb => ?_
      have hnd := st'.nd
      have hnew := st'.new b (mem_bsOf.2 ⟨_, List.mem_cons_self .., hb⟩)
      simp only [Own.bs, bsOf, List.nodup_append] at hnd
      have hd := hnd.2.2 b hb
      have e4 : b ≠ b4 := fun e => hd b4 (by simp) e
      have e1 : b ≠ b1 := fun e => hd b1 (by simp) e
      have hge : w.heap.size ≤ b := by
       rcases hnew with h | h
       · exact absurd (by simpa using h) e1
       · exact h
      exact ⟨by simp [e4, e1], by omega⟩
    ·
     refine sk ?_
     intro a' w' f' st' dh'
     obtain ⟨g1, g2, g3, g4, g5⟩ := hfin (L := []) st'
     refine ⟨(h0, ysA), f'.sub (Gs G), ?_, fun p hp => hA3 p hp _ (List.mem_cons_self ..), ?_, g1, g2, g3, g4⟩
     ·
      show List.map Prod.fst ysA = _
      rw [listP, if_neg (by rw [h20]; decide), hA1]
     ·
      have hkc := hK0.trans (g4.kc (b := b3) (E := 150) hn' (by simp))
      exact ⟨SS, Atom.keep hA2 (fun _ h => h) (fun b hb => hkc.block b (hSS b hb).1 (hSS b hb).2.2), fun b hb => ⟨Nat.lt_of_lt_of_le (hSS b hb).1 (Nat.le_trans hn' g4.size), by simp; exact ⟨by have := (hSS b hb).1; omega, (hSS b hb).2.1⟩, (hSS b hb).2.2, .inl (hSS b hb).1⟩⟩
   ·
    rintro ⟨v5, ys⟩ w2 ⟨hy1, hy2, hRd, h41, h43, box4, hs2⟩ a2 f2
    simp only at hy1 hy2 hRd
    have hn2 : n₀ ≤ w2.heap.size := Nat.le_trans hn' hs2.size
    have hK2 : KC n₀ b3 150 W w2 := hK.trans (hs2.kc hn' (by simp))
    have box2 : w2.heap[b1]? = some (.cells #[k5] 28 (0, 0)) := (hK2.block b1 hb1 hne).trans box
    have hyl : ys.length = (listP ss S).length := by rw [← hy1]; simp
    have hall : allU ss (i + 1) = allU ss i ++ ys.map (fun p => cntOf S.fGroup p.1) := by
     rw [allU, hSg, ← hy1, List.map_map]
     rfl
    have hle : (allU ss (i + 1)).length ≤ (allU ss ss.length).length := by
     have := allU_le ss (ss.length - (i + 1)) (i + 1)
     rwa [show i + 1 + (ss.length - (i + 1)) = ss.length by omega] at this
    have hpl : pre.length = (allU ss i).length := by rw [← hpre]; simp [dat]
    have hjw2 : J pre w2 := keepJ hJw hs2
    refine (show WQ ⟨Tryz.prog, 47, w2, [b4, b1]⟩ _ .normal [(5, v5), (4, .pointer (some ⟨b4, 0, none⟩)), (12, .int .i64 (i : Int)), (11, .int .i64 (ss.length : Int)), (10, k5), (1, .pointer (some ⟨b1, 0, none⟩)), (0, .func (.yield ll) #[] #[])] [bl b4 55 (cState S h0 h1 h2 h3 h4 h5), bl b1 28 [k5]] [rawA sAccount v5 ys] from ?_) a2 w2 f2 (stA2 box2 h41 box4) (DH.cons (hRd.holds (by simp [Own.bs, bsOf])) DH.nil)
    refine nx<|qg<|mv G G<|lnP 0 G G Tryz.underlying50 G fun l33 => mv G G<|nl<|nx<|bk ?_
    refine lpW (σ := Nat) (fun k => [(34, .int .i64 (k : Int)), (33, .int .i64 (ys.length : Int)), (32, v5), (4, .pointer (some ⟨b4, 0, none⟩)), (12, .int .i64 (i : Int)), (11, .int .i64 (ss.length : Int)), (10, k5), (1, .pointer (some ⟨b1, 0, none⟩)), (0, .func (.yield ll) #[] #[])])
     (fun k w3 => k ≤ ys.length ∧ (∃ pre', dat pre' = allU ss i ++ (ys.take k).map (fun p => cntOf S.fGroup p.1) ∧ J pre' w3) ∧ KC n₀ b3 150 w2 w3) (fun k => ys.length - k) 0 ⟨rfl, rfl, rfl, rfl, rfl, rfl, rfl, rfl, rfl, trivial⟩ ?_ ?_
    ·
     intro w' st dh
     have hs : Stp [] w2 w' := stp_drop st.stp (fun k hk => by
      have : k = b4 ∨ k = b1 := by simpa using hk
      rcases this with rfl | rfl
      · exact (Ep.bl_at 0 G st).trans box4.symm
      · exact (Ep.bl_at 1 G st).trans box2.symm)
     exact ⟨Nat.zero_le _, ⟨pre, by simp [hpre], keepJ hjw2 hs⟩, hs.kc hn2 (by simp)⟩
    ·
     rintro k w3 ⟨hk, ⟨pre', hpre', hJ3⟩, hK3⟩ a3 f3
     have hn3 : n₀ ≤ w3.heap.size := Nat.le_trans hn2 hK3.size
     have box43 : w3.heap[b4]? = some (.cells (cState S h0 h1 h2 h3 h4 h5).toArray 55 (0, 0)) := hK3.typed b4 _ _ _ h43 (by decide) box4
     have box13 : w3.heap[b1]? = some (.cells #[k5] 28 (0, 0)) := (hK3.block b1 hb1 hne).trans box2
     have keep3 : ∀ {w4 : World} {L : Go.Eng.Own}, St w3 [b4, b1] w4 (L ++ [bl b4 55 (cState S h0 h1 h2 h3 h4 h5), bl b1 28 [k5]]) → Stp [] w3 w4 := fun {w4 L} st => stp_drop st.stp (fun q hq => by
      have : q = b4 ∨ q = b1 := by simpa using hq
      rcases this with rfl | rfl
      · exact (st.own (bl q 55 (cState S h0 h1 h2 h3 h4 h5)) (by simp)).trans box43.symm
      · exact (st.own (bl q 28 [k5]) (by simp)).trans box13.symm)
     refine (show WC ⟨Tryz.prog, 47, w3, [b4, b1]⟩ _ _ _ [bl b4 55 (cState S h0 h1 h2 h3 h4 h5), bl b1 28 [k5]] [rawA sAccount v5 ys] from ?_) a3 w3 f3 (stA2 box13 h41 box43) (DH.cons ((hRd.keep hK3).holds (by simp [Own.bs, bsOf])) DH.nil)
     refine sa 1 G<|sq<|cdP G (fun h35 => ?_) (fun h35 => ?_)
     ·
      obtain ⟨p, hp⟩ : ∃ p, ys[k]? = some p := ⟨_, List.getElem?_eq_getElem (by omega)⟩
      have hpm := List.mem_of_getElem? hp
      have hpa := hy2 p hpm
      have hpo : p.2.oneCell' = true := oneCell_of_list hpa
      refine sk<|nx<|sq<|bk<|qg<|ixP 0 G G G slt_50 (by omega) hp G fun v36 => ldRaw (s := sAccount) (ov := p.1) (hh := p.2) 0 G G (Rg G) G fun w37 => al zero_70 G fun b9 => stW 0 (us := (cAccount p.1 p.2)) G G G (Rg G) (by simp only [List.all_cons, List.all_nil, Bool.and_true, hpo]; rfl) G<|nl<|nx<|sq ?_
      intro a4 w4 f4 st4 dh4
      have st4 : St w3 [b4, b1] w4 [bl b9 70 (cAccount p.1 p.2), bl b4 55 (cState S h0 h1 h2 h3 h4 h5), bl b1 28 [k5]] := st4
      refine (wpIn_wide (n := n)).1 (wpIn_region_lit (listIn_head (tl := [_, _]) [_, _, _, _, _] a4 w4 ?_))
      refine (show WL (fun e a w => e = .normal ∧ wpListIn Fence.wide n Tryz.prog _ _ _ a w) ⟨Tryz.prog, 47, w3, [b4, b1]⟩ _ _ _ [bl b9 70 (cAccount p.1 p.2), bl b4 55 (cState S h0 h1 h2 h3 h4 h5), bl b1 28 [k5]] [] from ?_) a4 w4 f4 st4 DH.nil
      refine mv G G<|ldM 0 (cAccount p.1 p.2) G G (Rg G) G G<|rl 2 [1] G G<|bd (ps := [(0, .tmp 39), (1, .tmp 41)]) (cs := (ccounted ((⟨p.1, S.fGroup⟩ : Tcounted)) p.2)) (by rfl) (by kernel_rfl) G<|nl ?_
      intro a5 w5 f5 st5 dh5
      have hs5 : Stp [] w3 w5 := keep3 (L := [_]) st5
      have hlen : pre'.length < (allU ss ss.length).length := by
       have e1 : pre'.length = (allU ss i).length + k := by
        have := congrArg List.length hpre'
        simpa [dat, Nat.min_eq_left hk] using this
       have e2 := congrArg List.length hall
       simp only [List.length_append, List.length_map] at e2
       omega
      have hSw : InI S.fGroup := w15.1
      obtain ⟨fn, tmps, assign, body, hy, hR⟩ := hY pre' ⟨(⟨p.1, S.fGroup⟩, p.2), ⟨w37, hSw⟩, hpa⟩ w5 (keepJ hJ3 hs5) hlen
      refine ⟨G, listIn_plain G (round_in G G (fun _ => trivial) (run_round G (f5.ev G) (f5.evs G) hy) (hR.mono ?_))⟩
      have hnext : dat (pre' ++ [⟨(⟨p.1, S.fGroup⟩, p.2), ⟨w37, hSw⟩, hpa⟩]) = allU ss i ++ (ys.take (k + 1)).map (fun p => cntOf S.fGroup p.1) := (dat_snoc _ _).trans (by
       show dat pre' ++ [cntOf S.fGroup p.1] = _
       rw [hpre', List.take_add_one, hp, List.append_assoc, List.map_append]
       rfl)
      rintro e W' (⟨rfl, hJ6, hk6⟩ | ⟨rfl, hJ6⟩)
      ·
       refine ⟨_, G, listIn_plain G (not_in G G ((f5.put (d := 43) (.bool true) (by show 43 < 47; decide)).ev G) (fun _ => trivial) (wpListIn_nil ?_))⟩
       have f6 := (f5.put (d := 43) (.bool true) (by show 43 < 47; decide)).put (d := 44) (.bool false) (by show 44 < 47; decide)
       refine (show WQ ⟨Tryz.prog, 47, W', []⟩ _ .normal _ [] [] from ?_) _ W' f6 (St.start W' []) DH.nil
       refine nx<|cdF G<|sk<|bN<|nx<|rg<|adI G G inI G<|mv G G<|nl ?_
       intro a7 w7 f7 st7 _
       have hs7 : Stp [] W' w7 := st7.stp
       exact ⟨k + 1, by omega, f7.sub (Gs G), by omega, ⟨_, hnext, keepJ hJ6 hs7⟩, hK3.trans ((hs5.kc hn3 (by simp)).trans (hk6.trans (hs7.kc (Nat.le_trans hn3 (Nat.le_trans hs5.size hk6.size)) (by simp))))⟩
      ·
       refine ⟨_, G, listIn_plain G (not_in G G ((f5.put (d := 43) (.bool false) (by show 43 < 47; decide)).ev G) (fun _ => trivial) (wpListIn_nil ?_))⟩
       have f6 := (f5.put (d := 43) (.bool false) (by show 43 < 47; decide)).put (d := 44) (.bool true) (by show 44 < 47; decide)
       refine (show WQ ⟨Tryz.prog, 47, W', []⟩ _ .normal _ [] [] from ?_) _ W' f6 (St.start W' []) DH.nil
       refine nx<|cdT G<|rt<|bR<|tR<|tR<|bR<|bR<|tR<|tR<|bR ?_
       intro a7 w7 f7 st7 _
       have hs7 : Stp [] W' w7 := st7.stp
       exact bodyPost_ret (results_none G _ _ _) f7.dn ⟨_, G, .inr ⟨_, hJx _ _ _ none hJ6 hs7.grown (fun r h => by cases h)⟩⟩
     ·
      refine ex<|tE<|tE<|bE<|bN<|nx<|rg<|adI G G inI G<|mv G G<|nl ?_
      intro a7 w7 f7 st7 _
      have hs7 : Stp [] w3 w7 := keep3 (L := []) st7
      have hkl : k = ys.length := by omega
      refine ⟨i + 1, by omega, f7.sub (Gs G), by omega, ⟨pre', ?_, keepJ hJ3 hs7⟩, hK2.trans (hK3.trans (hs7.kc hn3 (by simp)))⟩
      rw [hall, hpre', hkl, List.take_length]
  ·
   refine (show WC ⟨Tryz.prog, 47, w, [b1]⟩ _ _ _ [bl b1 28 [k5]] [] from ?_) a w f (stA1 box') DH.nil
   refine sa 1 G<|sq<|cdF (by simp [ev, lk]; omega)<|ex<|tE<|tE<|bE ?_
   intro a' w' f' st' dh'
   have e : i = ss.length := by omega
   subst e
   have hs : Stp [] w w' := Ep.stp_own st'.stp ((Ep.bl_at 0 rfl st').trans box'.symm)
   exact bodyPost_end (results_none G _ _ _) f'.dn ⟨_, G, .inl ⟨pre, hpre, keepJ hJw hs⟩⟩
theorem row_blk {α : Type} {r : Rep α} {S : Nat → Prop} {w : World} {e : TypeId} {v : Value} {xs : List α} (h : (@row α r e v xs).holds S w) : ∀ b ∈ v.ownBlock.toList, ∃ cur, w.heap[b]? = some (.cells cur e (0, 0)) := fun b hb => by
 obtain ⟨css, hown, _⟩ := h
 rcases hown.2 with ⟨rfl, _⟩ | ⟨g, cap, cur, rfl, _, hg, _⟩
 ·
  simp [Value.ownBlock] at hb
 ·
  have : b = g := by simpa [Value.ownBlock] using hb
  subst this
  exact ⟨cur, by simpa using hg⟩
structure Inv {SS : Nat → Prop} {W0 : World} (w1 : World) (b8 : Nat) (pre : List (Item SS W0)) (W : World) : Prop where
 size : w1.heap.size ≤ W.heap.size
 stp : Stp [b8] w1 W
 row : ∃ rv, W.heap[b8]? = some (.cells #[rv] 145 (0, 0)) ∧ (∀ S, (@row HC rHC 150 rv (pre.map (·.1))).holds S W) ∧ ∀ b ∈ rv.ownBlock.toList, w1.heap.size ≤ b
structure InA {SS : Nat → Prop} {W0 : World} (w1 : World) (b8 : Nat) (x : Item SS W0) (a : Act) (W : World) : Prop where
 ex : ∃ B9, w1.heap.size ≤ B9 ∧ W.heap[B9]? = some (.cells (ccounted x.1.1 x.1.2).toArray 150 (0, 0)) ∧ (∀ rv, W.heap[b8]? = some (.cells #[rv] 145 (0, 0)) → B9 ∉ rv.ownBlock.toList) ∧ Fr 88 a [(9, .pointer (some ⟨B9, 0, none⟩)), (8, .pointer (some ⟨b8, 0, none⟩))]
theorem cells_keep {B : Nat} {W W' : World} {row : Option Nat} (hg : W.grownBy W' row) (hr : ∀ r, row = some r → B ≤ r ∧ ∃ o : Obj, W.heap[r]? = some o ∧ o.isCells = false) {k : Nat} {cs : Array Value} {T : TypeId} {fl : Nat × Nat} (hk : W.heap[k]? = some (.cells cs T fl)) : W'.heap[k]? = some (.cells cs T fl) :=
 (hg.block k (lt_of_heap hk) fun e => by
  obtain ⟨_, o, ho, hc⟩ := hr k e.symm
  rw [hk] at ho
  cases ho
  cases hc).trans hk
theorem inv_step {SS : Nat → Prop} {W0 w1 W W' : World} {b8 : Nat} {pre : List (Item SS W0)} (h : Inv w1 b8 pre W) (hs : W.heap.size ≤ W'.heap.size) (h1 : Stp [b8] w1 W') (hc : ∀ (k : Nat) (cs : Array Value) (T : TypeId) (fl : Nat × Nat), W.heap[k]? = some (Obj.cells cs T fl) → W'.heap[k]? = some (Obj.cells cs T fl)) : Inv w1 b8 pre W' := by
 obtain ⟨rv, h8, hrow, hnew⟩ := h.row
 refine ⟨Nat.le_trans h.size hs, h1, rv, hc _ _ _ _ h8, fun S => ?_, hnew⟩
 refine (@row HC rHC 150 rv (pre.map (·.1))).keep (hrow (fun _ => False)) (fun _ h => h.elim) (fun b hb => ?_)
 rcases hb with hb | hb
 · exact hb.elim
 ·
  obtain ⟨cur, hcur⟩ := row_blk (hrow (fun _ => False)) b hb
  rw [hcur]
  exact hc _ _ _ _ hcur
theorem inv_own {SS : Nat → Prop} {W0 w1 : World} {b8 : Nat} : OwnFrom w1.heap.size (Inv (SS := SS) (W0 := W0) w1 b8) := fun s W W' row hs hg hr =>
 inv_step hs hg.size ⟨hg.os.trans hs.stp.os, hg.tape.trans hs.stp.tape, hg.output.trans hs.stp.output, Nat.le_trans hs.size hg.size, fun k hk hx => (hg.block k (Nat.lt_of_lt_of_le hk hs.size) (fun e => by
  have := (hr k e.symm).1
  omega)).trans (hs.stp.block k hk hx)⟩ fun k cs T fl hk => cells_keep hg hr hk
theorem ina_own {SS : Nat → Prop} {W0 w1 : World} {b8 : Nat} (hb8 : b8 < w1.heap.size) (x : Item SS W0) (a : Act) : OwnFrom w1.heap.size (fun (_ : Unit) W => InA w1 b8 x a W) := fun _ W W' row hs hg hr => by
 obtain ⟨B9, h1, h2, h3, h4⟩ := hs.ex
 refine ⟨B9, h1, cells_keep hg hr h2, fun rv hrv => h3 rv ?_, h4⟩
 have hb : b8 < W.heap.size := Nat.lt_of_lt_of_le hb8 (Nat.le_trans h1 (Nat.le_of_lt (lt_of_heap h2)))
 rw [← hg.block b8 hb (fun e => by have := (hr b8 e.symm).1; omega)]
 exact hrv
theorem stp_nil {W W' : World} (hs : Stp [] W W') : ∀ (k : Nat) (cs : Array Value) (T : TypeId) (fl : Nat × Nat), W.heap[k]? = some (Obj.cells cs T fl) → W'.heap[k]? = some (Obj.cells cs T fl) := fun k cs T fl hk => (hs.block k (lt_of_heap hk) (by simp)).trans hk
theorem stp_more {b8 : Nat} {w1 W W' : World} (h : Stp [b8] w1 W) {M : List Nat} (hs : Stp M W W') (hM : ∀ k ∈ M, k = b8 ∨ w1.heap.size ≤ k) : Stp [b8] w1 W' :=
 ⟨hs.os.trans h.os, hs.tape.trans h.tape, hs.output.trans h.output, Nat.le_trans h.size hs.size, fun k hk hx => (hs.block k (Nat.lt_of_lt_of_le hk h.size) (fun hm => by
  rcases hM k hm with e | e
  · exact hx (by simp [e])
  ·
   omega)).trans (h.block k hk hx)⟩
theorem seqA (m : Nat) {w1 : World} {b1 b8 : Nat} {SS : Nat → Prop} (hSS : ∀ b, SS b → b < w1.heap.size ∧ b ≠ b1 ∧ b ≠ b8) {k5 : Value} {ss : List TState} (hB : Bs SS k5 ss w1) (hb1 : b1 < w1.heap.size) (hb8 : b8 < w1.heap.size) (hne : b1 ≠ b8) (box : w1.heap[b1]? = some (.cells #[k5] 28 (0, 0))) :
  SeqStopsK Fence.wide m Tryz.prog 158 #[.pointer (some ⟨b1, 0, none⟩)] (encA (SS := SS) (W0 := w1)) (KC w1.heap.size b8 150) (fun xs => dat xs = allU ss ss.length) (fun _ => True) (allU ss ss.length).length w1 := by
 intro ll J Jx W hW hJ hJx hY h0
 have hkc : KC w1.heap.size b8 150 w1 W := ⟨hW.size, fun k hk _ => hW.block k hk, fun k cs T fl _ _ hk => (hW.block k (lt_of_heap hk)).trans hk⟩
 refine callsIn_wide.2 (Calls.mono (iterA m ll hSS J Jx W k5 ss hB hb1 hb8 hne hW.size ((hW.block b1 hb1).trans box) hkc hJ hJx hY h0) ?_)
 rintro e w' ⟨v, rfl, h⟩
 refine ⟨⟨v, G⟩, ?_⟩
 rcases h with ⟨xs, h1, h2⟩ | ⟨pre, h⟩
 · exact .inl ⟨xs, h1, h2⟩
 · exact .inr ⟨pre, trivial, h⟩
theorem stV {b8 : Nat} {rv : Value} {w : World} (box : w.heap[b8]? = some (.cells #[rv] 145 (0, 0))) : St w [b8] w [bl b8 145 [rv]] := ⟨Stp.refl _ _, fun p hp => by
 have : p = bl b8 145 [rv] := by simpa using hp
 subst this
 exact box, by simp [Own.bs, bsOf], fun b hb => .inl (by simpa [Own.bs, bsOf] using hb)⟩
theorem assignA {SS : Nat → Prop} {W0 w1 W : World} {b8 l n : Nat} {env : Env} {a : Act} {pre : List (Item SS W0)} {x : Item SS W0} {K : Act → World → Prop} (f : Fr 88 a env) (he : lk env 8 = some (.pointer (some ⟨b8, 0, none⟩))) (hb8 : b8 < w1.heap.size) (hI : Inv w1 b8 pre W)
  (hK : ∀ a' W', KeepsFrom w1.heap.size W W' → KC w1.heap.size b8 150 W W' → Inv w1 b8 pre W' → InA w1 b8 x a' W' → K a' W') {id : Nat} {p1 p2 : String} {t1 t2 : TypeId} {af1 af2 : Array Edge} :
  (Code.region id #[⟨some 9, .alloc 150, t1, p1, af1, none⟩, ⟨none, .store 150 (.tmp 9) (.tmp 23), t2, p2, af2, none⟩] false).wpIn (Fence.wide.inRound l) n Tryz.prog (Exit.then K (fun _ _ _ => False)) { tmps := ((#[23] : Array Tmp).zip (encA x)).foldl (fun t (p, v) => t.setIfInBounds p v) a.tmps, defers := [] } W := by
 obtain ⟨rv, h8, hrow, hnew⟩ := hI.row
 refine round_region (ops := [⟨some 9, .alloc 150, t1, p1, af1, none⟩, ⟨none, .store 150 (.tmp 9) (.tmp 23), t2, p2, af2, none⟩]) (K := K) G (fun _ _ h => h) ?_
 have hone : x.1.2.oneCell' = true := oneCell_of_list x.2.2
 refine (show WL _ ⟨Tryz.prog, 88, W, [b8]⟩ _ _ [(23, .agg (ccounted x.1.1 x.1.2).toArray), (8, .pointer (some ⟨b8, 0, none⟩))] [bl b8 145 [rv]] [] from ?_) _ W ((f.round1 (show 23 < 88 by decide) (.agg (ccounted x.1.1 x.1.2).toArray)).sub ⟨G, he, trivial⟩) (stV h8) DH.nil
 refine al zero_150 G fun b9 => stW 0 (us := ccounted x.1.1 x.1.2) G G G (Rg G) (by simp only [List.all_cons, List.all_nil, Bool.and_true, hone]; rfl) G<|nl ?_
 intro a' w' f' st' dh'
 have st' : St W [b8] w' [bl b9 150 (ccounted x.1.1 x.1.2), bl b8 145 [rv]] := st'
 have h9 : w'.heap[b9]? = some (.cells (ccounted x.1.1 x.1.2).toArray 150 (0, 0)) := Ep.bl_at 0 rfl st'
 have h8' : w'.heap[b8]? = some (.cells #[rv] 145 (0, 0)) := Ep.bl_at 1 rfl st'
 have hn9 : b9 ≠ b8 := nd_ne st'.nd (i := 0) (j := 1) rfl rfl (by decide) (by simp) (by simp)
 have hge : W.heap.size ≤ b9 := by
  rcases st'.new b9 (by simp [Own.bs, bsOf]) with h | h
  · exact absurd (by simpa using h) hn9
  · exact h
 have hs : Stp [] W w' := Ep.stp_own st'.stp (h8'.trans h8.symm)
 refine ⟨G, hK a' w' ⟨hs.size, fun k o _ hk _ => (hs.block k (Array.getElem?_eq_some_iff.1 hk).1 (by simp)).trans hk⟩ (hs.kc hI.size (by simp)) (inv_step hI hs.size (stp_more hI.stp hs (by simp)) (stp_nil hs)) ⟨b9, Nat.le_trans hI.size hge, h9, fun rv' hrv' hm => ?_, f'.sub (Gs G)⟩⟩
 rw [h8'] at hrv'
 have e : rv = rv' := by simpa using hrv'
 subst e
 obtain ⟨cur, hcur⟩ := row_blk (hrow (fun _ => False)) b9 hm
 have := lt_of_heap hcur
 omega
theorem bodyA {SS : Nat → Prop} {W0 w1 W : World} {b8 l n N : Nat} {a' : Act} {pre : List (Item SS W0)} {x : Item SS W0} (hb8 : b8 < w1.heap.size) (hI : Inv w1 b8 pre W) (hA : InA w1 b8 x a' W) (hlen : pre.length < N) (hN : N ≤ 100000) {id id2 : Nat} {p1 p2 p3 p4 p5 : String} {t1 t2 t3 t4 t5 : TypeId} {af1 af2 af3 af4 af5 : Array Edge} :
  (Code.block id (.region id2 #[⟨some 24, .load 145 (.tmp 8), t1, p1, af1, none⟩, ⟨some 25, .load 150 (.tmp 9), t2, p2, af2, none⟩, ⟨some 26, .buildSlice 145 1 #[(0, .tmp 25)], t3, p3, af3, none⟩, ⟨some 27, .call { callee := .builtin .append, args := #[.tmp 24, .tmp 26], argTypes := #[145, 145] }, t4, p4, af4, none⟩, ⟨none, .store 145 (.tmp 8) (.tmp 27), t5, p5, af5, none⟩] false)).wpIn (Fence.wide.inRound l) n Tryz.prog
   (ownPostG w1.heap.size (KC w1.heap.size b8 150) (Inv w1 b8) (fun _ _ _ => False) (pre ++ [x]) W) a' W := by
 obtain ⟨rv, h8, hrow, hnew⟩ := hI.row
 obtain ⟨B9, hB9, hp9, hn9, f'⟩ := hA.ex
 have h98 : B9 ≠ b8 := by omega
 have hone : x.1.2.oneCell' = true := oneCell_of_list x.2.2
 have hcr := row_blk (hrow (fun _ => False))
 refine wpIn_block (round_region (ops := [_, _, _, _, _]) (K := fun a W' => ownPostG w1.heap.size (KC w1.heap.size b8 150) (Inv w1 b8) (fun _ _ _ => False) (pre ++ [x]) W .normal a W') G (fun _ _ h => h) ?_)
 refine (show WL _ ⟨Tryz.prog, 88, W, rv.ownBlock.toList ++ [B9, b8]⟩ _ _ [(9, .pointer (some ⟨B9, 0, none⟩)), (8, .pointer (some ⟨b8, 0, none⟩))] [@row HC rHC 150 rv (pre.map (·.1)), bl B9 150 (ccounted x.1.1 x.1.2), bl b8 145 [rv]] [] from ?_) _ W f' ⟨Stp.refl _ _, ?_, ?_, ?_⟩ DH.nil
 ·
  refine rl 1 [2] G G<|ldM 1 (ccounted x.1.1 x.1.2) G G (Rg G) G G<|bsM G app_145 G G G G fun b26 => ?_
  refine frS1 (α := HC) x.1 (fun S w h => ⟨(), G, ones_hold (fun u hu => by
   simp only [List.mem_cons, List.not_mem_nil, or_false] at hu
   rcases hu with rfl | rfl | rfl | rfl | rfl | rfl | rfl | rfl | rfl | rfl | rfl <;> first | rfl | exact hone), x.2.1⟩) ?_
  have hpl : (pre.map (fun y : Item SS W0 => y.1)).length = pre.length := by simp
  refine ap 0 0 G G G G app_145 (by simp only [List.length_map, List.length_cons, List.length_nil]; omega) (by simp only [List.length_map, List.length_cons, List.length_nil]; omega) G fun v27 => stR 2 0 G G G G (Og G) (Nat.lt_succ_self _)<|nl ?_
  intro a2 w2 f2 st2 dh2
  have st2 : St W (rv.ownBlock.toList ++ [B9, b8]) w2 [@row HC rHC 150 v27 (pre.map (·.1) ++ [x.1]), bl B9 150 (ccounted x.1.1 x.1.2), bl b8 145 [v27]] := st2
  have h8' : w2.heap[b8]? = some (.cells #[v27] 145 (0, 0)) := Ep.bl_at 2 rfl st2
  have hs := st2.stp
  have hM : ∀ k ∈ rv.ownBlock.toList ++ [B9, b8], k = b8 ∨ (w1.heap.size ≤ k ∧ ∃ cs fl, W.heap[k]? = some (.cells cs 150 fl)) := fun k hk => by
   simp only [List.mem_append, List.mem_cons, List.not_mem_nil, or_false] at hk
   rcases hk with hk | rfl | rfl
   ·
    obtain ⟨cur, hc⟩ := hcr k hk
    exact .inr ⟨hnew k hk, _, _, hc⟩
   · exact .inr ⟨hB9, _, _, hp9⟩
   · exact .inl G
  refine ⟨G, ⟨hs.size, fun k o hB hk ho => (hs.block k (Array.getElem?_eq_some_iff.1 hk).1 (fun hm => ?_)).trans hk⟩, hs.kc hI.size (fun k hk _ => hM k hk), Nat.le_trans hI.size hs.size, stp_more hI.stp hs (fun k hk => (hM k hk).imp_right (·.1)), v27, h8', fun S => ?_, fun b hb => ?_⟩
  ·
   rcases hM k hm with e | ⟨_, cs, fl, e⟩
   ·
    omega
   ·
    rw [hk] at e
    cases e
    cases ho
  ·
   have := st2.own _ (List.mem_cons_self ..)
   rw [List.map_append]
   exact raw_row_any this
  ·
   have hb8' : b ≠ b8 := nd_ne st2.nd (i := 0) (j := 2) rfl rfl (by decide) hb (by simp)
   rcases st2.new b (mem_bsOf.2 ⟨_, List.mem_cons_self .., hb⟩) with h | h
   ·
    rcases hM b h with e | ⟨e, _⟩
    · exact absurd e hb8'
    · exact e
   · exact Nat.le_trans hI.size h
 ·
  intro p hp
  simp only [List.mem_cons, List.not_mem_nil, or_false] at hp
  rcases hp with rfl | rfl | rfl
  · exact hrow _
  · exact hp9
  · exact h8
 ·
  show (rv.ownBlock.toList ++ ([B9] ++ ([b8] ++ []))).Nodup
  refine List.nodup_append.2 ⟨by cases rv.ownBlock <;> simp, by simp [h98], fun k hk k' hk' e => ?_⟩
  subst e
  simp only [List.cons_append, List.nil_append, List.mem_cons, List.not_mem_nil, or_false] at hk'
  rcases hk' with rfl | rfl
  · exact hn9 rv h8 hk
  ·
   have := hnew k hk
   omega
 ·
  intro b hb
  exact .inl (by simpa [Own.bs, bsOf] using hb)
theorem rangeAll {w0 : World} {M : List Nat} {Q : Exit → Act → World → Prop} {env : Env} {L : Go.Eng.Own} {D : List Atom} {b1 b8 : Nat} {k5 : Value} {ss : List TState} (i j k : Nat) (hi : L[i]? = some (bl b1 28 [k5])) (hj : L[j]? = some (bl b8 145 [.slice none 0 0])) (hij : Nat.blt i j = true) (hA : D[k]? = some ⟨k5, ss⟩)
  (hacc : ∀ S ∈ ss, S.fAccounts.length ≤ 500) (himg : ∀ S ∈ ss, waitsP ss S = true → (rdState S.fImage).1.fAccounts.length ≤ 500 ∧ ∀ a ∈ (rdState S.fImage).1.fAccounts, a.fHolders = []) (hN : (allU ss ss.length).length ≤ 100000)
  (hg : ev env (.tmp 22) = some (.func (.func 158) #[] #[.pointer (some ⟨b1, 0, none⟩)])) (he : lk env 8 = some (.pointer (some ⟨b8, 0, none⟩)))
  {id id1 id2 : Nat} {q1 q2 p1 p2 p3 p4 p5 : String} {u1 u2 t1 t2 t3 t4 t5 : TypeId} {bf1 bf2 af1 af2 af3 af4 af5 : Array Edge}
  (kk : ∀ Dm v, WQD [mk Dm] ⟨Tryz.prog, 88, w0, M⟩ Q .normal env ([dk Dm, @row Tcounted rcounted 150 v (allU ss ss.length)] ++ L.set j (bl b8 145 [v])) D) :
  WC ⟨Tryz.prog, 88, w0, M⟩ (.rangeFunc (.tmp 22) #[23] (.region id1 #[⟨some 9, .alloc 150, u1, q1, bf1, none⟩, ⟨none, .store 150 (.tmp 9) (.tmp 23), u2, q2, bf2, none⟩] false)
   (.block id (.region id2 #[⟨some 24, .load 145 (.tmp 8), t1, p1, af1, none⟩, ⟨some 25, .load 150 (.tmp 9), t2, p2, af2, none⟩, ⟨some 26, .buildSlice 145 1 #[(0, .tmp 25)], t3, p3, af3, none⟩, ⟨some 27, .call { callee := .builtin .append, args := #[.tmp 24, .tmp 26], argTypes := #[145, 145] }, t4, p4, af4, none⟩, ⟨none, .store 145 (.tmp 8) (.tmp 27), t5, p5, af5, none⟩] false))) Q env L D := by
 intro a w1 f st dh
 have m1 : b1 ∈ L.bs := mem_bsOf.2 ⟨_, List.mem_of_getElem? hi, by simp⟩
 have m8 : b8 ∈ L.bs := mem_bsOf.2 ⟨_, List.mem_of_getElem? hj, by simp⟩
 have hb1 : b1 < w1.heap.size := st.lt b1 m1
 have hb8 : b8 < w1.heap.size := st.lt b8 m8
 have hne : b1 ≠ b8 := nd_ne st.nd hi hj (lt_blt hij) (by simp) (by simp)
 have box1 : w1.heap[b1]? = some (.cells #[k5] 28 (0, 0)) := st.own _ (List.mem_of_getElem? hi)
 have box8 : w1.heap[b8]? = some (.cells #[.slice none 0 0] 145 (0, 0)) := st.own _ (List.mem_of_getElem? hj)
 have hSS : ∀ b, Sf L.bs w1 b → b < w1.heap.size ∧ b ≠ b1 ∧ b ≠ b8 := fun b hb => ⟨hb.1, fun e => hb.2 (e ▸ m1), fun e => hb.2 (e ▸ m8)⟩
 have hBs : Bs (Sf L.bs w1) k5 ss w1 := ⟨dh _ (List.mem_of_getElem? hA), hacc, himg⟩
 refine (wpIn_wide (n := 2)).1 (wpIn_rangeFunc_ownH (gf := 158) (lb := #[.pointer (some ⟨b1, 0, none⟩)]) (encs := encA (SS := Sf L.bs w1) (W0 := w1)) (Kp := KC w1.heap.size b8 150) (S := fun xs => dat xs = allU ss ss.length) (Sp := fun _ => True) (N := (allU ss ss.length).length) (w0 := w1) G (by decide) (f.ev hg) trivial (run_callFunc (Kg G))
  (seqA _ hSS hBs hb1 hb8 hne box1) (fun h h' => h.trans h') (fun W ll o o' h hl ho _ => KC.putObj h hl ho) (Below.refl _ _) (fun _ => rfl) (Inv w1 b8) (fun _ _ _ => False) inv_own (fun _ _ _ _ _ h => h.elim)
  ⟨Nat.le_refl _, Stp.refl _ _, .slice none 0 0, box8, fun S => ⟨[], World.ownsRow_nil _ _ _ _, trivial, by simp⟩, by simp [Value.ownBlock]⟩ (InA w1 b8) (fun x a => ina_own hb8 x a) ?_ ?_ ?_ ?_)
 ·
  intro ll pre x W K hI hK
  exact assignA f he hb8 hI hK
 ·
  intro ll pre x a' W _ _ hI hA hlen
  exact bodyA hb8 hI hA hlen hN
 ·
  intro Dm xs W hDm hxs hI hK
  obtain ⟨rv, h8, hrow, hnew⟩ := hI.row
  have hcr := row_blk (hrow (fun _ => False))
  have re := range_end st dh hj hI.stp h8 [dk Dm, @row Tcounted rcounted 150 rv (allU ss ss.length)] (fun q hq => by
   have hq : q = Dm ∨ q ∈ rv.ownBlock.toList := by simpa [Own.bs, bsOf] using hq
   rcases hq with rfl | hq
   · exact hDm
   · exact hnew q hq) (by
   show ([Dm] ++ (rv.ownBlock.toList ++ [])).Nodup
   refine List.nodup_append.2 ⟨by simp, by cases rv.ownBlock <;> simp, fun q hq q' hq' e => ?_⟩
   subst e
   have e : q = Dm := by simpa using hq
   subst e
   obtain ⟨cur, hc⟩ := hcr q (by simpa using hq')
   rw [hK] at hc
   cases hc) (fun p hp => by
   simp only [List.mem_cons, List.not_mem_nil, or_false] at hp
   rcases hp with rfl | rfl
   · exact hK
   ·
    have hr := row_of_raw (s := scounted) (hrow (fun _ => False)) (S' := Sf (Own.bs ([dk Dm, @row Tcounted rcounted 150 rv (allU ss ss.length)] ++ L.set j (bl b8 145 [rv]))) W) (fun y hy t ht => by
     obtain ⟨x, _, rfl⟩ := List.mem_map.1 hy
     have ht : t = ⟨x.1.2, x.1.1.fAccount.fHolders⟩ := by simpa using ht
     subst ht
     refine Atom.keep x.2.2 (fun b hb => ⟨Nat.lt_of_lt_of_le hb.1 hI.size, fun hx => ?_⟩) (fun b hb => hI.stp.block b hb.1 (fun hx => ?_))
     ·
      rw [Own.bs, bsOf_append] at hx
      rcases List.mem_append.1 hx with hx | hx
      ·
       have hx : b = Dm ∨ b ∈ rv.ownBlock.toList := by simpa [bsOf] using hx
       have h1 := hb.1
       rcases hx with rfl | hx
       ·
        omega
       ·
        have := hnew b hx
        omega
      ·
       rw [← Own.bs, bs_set1 L j hj] at hx
       exact hb.2 hx
     ·
      have hx : b = b8 := by simpa using hx
      exact hb.2 (hx ▸ m8))
    have e : (xs.map (·.1)).map Prod.fst = allU ss ss.length := by rw [← hxs, dat, List.map_map]; rfl
    rw [e] at hr
    exact hr)
  have := kk Dm rv a W f re.1 re.2
  rw [f.dn]
  exact this
 ·
  intro _ _ _ _ _ _ h
  exact h.elim
end Go.Proofs.YtmpoffijcfaalaaGreat.Al
namespace Go.Proofs.YtmpoffijcfaalaaGreat
open Go.Eng Go.YtmpoffijcfaalaaGreat
theorem all_c (v_ss : Value) (ss : List TState) : Fnc Pg 84 [v_ss] [] [⟨v_ss, ss⟩] (fun (y : Nat) v => v = .func (.func 158) #[] #[.pointer (some ⟨y, 0, none⟩)]) (fun y _ => [bl y 28 [v_ss]]) (fun _ _ => []) := by
 refine Fnc.proof Tryz.func84 G 4 G G fun X w => gtC (q := ∃ A cc, v_ss = .slice A ss.length cc) (fun S w h => slice_of (h _ (List.mem_of_getElem? (i := 0) G))) ?_
 rintro ⟨A, cc, rfl⟩
 exact qg<|bx G G G fun b1 => ru 1 G<|nl<|nx<|qg<|mf (xs := [.tmp 1]) G G<|ru 1 G<|nl<|nx<|rt<|fR1 b1 G G G G Sn
theorem truth_c (c : TChart) (c_0 c_1 : Value) (v_ss : Value) (ss : List TState) (v_rr : Value) (rr : List (List TRight)) (Z : List TTotal × Int) (h_c : c.wf) (hrw : ∀ l ∈ rr, ∀ r ∈ l, r.wf) (hZ : truthP c ss rr = Z) : Fnc Pg 33 [.agg (cChart c c_0 c_1).toArray, v_ss, v_rr] [] [⟨c_0, c.fPlaces⟩, ⟨c_1, c.fMarks⟩, ⟨v_ss, ss⟩, ⟨v_rr, rr⟩] (fun (y : Value) u => u = .tuple #[y, .int .i64 Z.2]) (fun _ _ => []) (fun y _ => [⟨y, Z.1⟩]) := by
 refine Fnc.proofZ 2 Tryz.func33 G 88 G G fun X w => qg<|bx G G G fun b3 => ru 2 G<|nl<|nx<|sq<|qg<|ldM 0 (cChart c c_0 c_1) G G (Rg G) G G<|ru 2 G<|cfv (sound_c _ _ _ _ _ _ _ h_c) (Kg G) G (Si [0,1,2,3] G) G<|nt G G<|nl<|nx<|cdB G (fun h20 => ?_) (fun h20 => ?_)
 ·
  have hs : soundP c ss rr = false := by simpa using h20
  have hZ2 : (([], 1) : List TTotal × Int) = Z := by rw [← hZ, truthP, if_pos hs]
  subst hZ2
  exact emC (α := TTotal)<|sa 2 G<|rt<|tR<|dpQ<|fR2Z nS [] G G G G G (Sc 0 G Sn)
 ·
  have hs : soundP c ss rr = true := by simpa using h20
  have hF := sound_facts hs
  have hs0 : ¬ soundP c ss rr = false := by rw [hs]; decide
  refine sk<|nx<|qg<|al zero_145 G fun b8 => nl<|nx<|sq<|qg<|mv G G<|cf (all_c _ _) (Kg G) G (Sc 2 G Sn) G fun b22 v22 h22 => ?_
  subst h22
  refine nl<|nx<|bk<|Al.rangeAll 0 1 2 G G G G hF.acc hF.img hF.big G G fun Dm v => mtQD 2 G<|dpQD<|mtQD 3 G<|dpQD<|bND<|nxD<|sqD<|rgM<|rl 1 [2] G G<|cf1 1 (show Fnc Pg 85 [v, (.func (.func 86) #[] #[])] [@row Tcounted rcounted 150 v (allU ss ss.length)] [] (fun (_ : Unit) _ => True) (fun _ _ => [@row Tcounted rcounted 150 v (srtC ss)]) (fun _ _ => []) from sort_c v (allU ss ss.length)) (Kg G) G G Sn G fun _ v29 _ => nlD<|nxD<|sqD<|sqD<|rgM<|ru 1 G<|nlD<|nxD<|bkD<|lpCD (σ := Nat) [(1, _), (2, _), (8, _)] _ (fun i C => (10, .int .i64 ((i + 1 : Nat) : Int)) :: C) (fun i => (i + 1 ≤ (srtC ss).length ∨ i = 0) ∧ ∀ j, j < i → (!decide (keyC (srtC ss) (j + 1) = keyC (srtC ss) j)) = true) (fun i => (srtC ss).length - i) 0 (Gs G) (Sc 0 G (Sc 1 G (Sc 2 G (Sc 3 G Sn)))) ⟨.inr G, fun j hj => absurd hj (Nat.not_lt_zero j)⟩ (Gs G) ?_
  rintro i ⟨hi, hall⟩
  refine sqD<|sqD<|rgM<|rl 2 [2] G G<|lnR 1 G G Tryz.underlying145 G fun l32 => ru 1 G<|nlD<|nxD<|cdPD G (fun h33 => ?_) (fun h33 => ?_)
  ·
   refine skD<|nxD<|sqD<|bkD<|sqD<|rgQD mixed (by kernel_rfl)<|rl 2 [2] G G<|ixN 1 ((i + 1 : Nat)) G G G slt_145 (by omega) (by omega) G<|faE 1 G G (by omega) (Fg G) G<|faE 1 G G (by omega) (Fg G) G<|ldE (s := scounted) 1 ((i + 1 : Nat)) 0 (fun _ => .string ((srtC ss).getD ((i + 1 : Nat)) default).fAccount.fKey) G G gE (fun _ => G) (Og G) G fun q41 w41 => rl 2 [2] G G<|sbE (r := ((i : Nat) : Int)) G G (by omega) inI G<|ixN 1 ((i : Nat)) G G G slt_145 (by omega) (by omega) G<|faE 1 G G (by omega) (Fg G) G<|faE 1 G G (by omega) (Fg G) G<|ldE (s := scounted) 1 ((i : Nat)) 0 (fun _ => .string ((srtC ss).getD ((i : Nat)) default).fAccount.fKey) G G gE (fun _ => G) (Og G) G fun q48 w48 => ru 1 G<|nlQD<|nxD<|cdPD G (fun h49 => ?_) (fun h49 => ?_)
   ·
    have hd : dupB (srtC ss) = true := by rw [dupB, allI_false i (by omega) (not_decfalse h49)]; rfl
    have hZ2 : (([], 171) : List TTotal × Int) = Z := by rw [← hZ, truthP, if_neg hs0, if_pos hd]
    subst hZ2
    exact sqD<|rgM<|ru 2 G<|nlD<|nxD<|rtD<|bRD<|tRD<|tRD<|bRD<|tRD<|mtQD 1 G<|dpQD<|mtQD 1 G<|dpQD<|emQD (α := TTotal)<|fR2D nS [Dm] [] G G G G G (Sc 0 G Sn)
   · exact skD<|bND<|nxD<|rgM<|mv G G<|adE (r := ((i + 1 + 1 : Nat) : Int)) G G (by omega) inI G<|ru 1 G<|nlD<|agD (i + 1) ⟨.inl (by omega), all_snoc hall (not_dectrue h49)⟩ (by omega) (Gs G) G (Sc 2 G (Sc 3 G (Sc 4 G (Sc 5 G Sn))))
  ·
   have hd : ¬ dupB (srtC ss) = true := by rw [dupB, allI_true (fun j hj => hall j (by omega))]; decide
   refine exD<|tED<|tED<|bED<|nxD<|sqD<|rgM<|ru 1 G<|nlD<|nxD<|sqD<|sqD<|rgM<|rl 1 [2] G G<|lnR 1 G G Tryz.underlying145 G fun l51 => mv G G<|nlD<|nxD<|bkD<|rwCD TTotal 78<|lpED (σ := Nat × Value) [(1, _), (2, _), (50, _), (51, _)] _ (fun s C => (52, .int .i64 (s.1 : Int)) :: (11, s.2) :: C) (fun s => [@row TTotal rTotal 78 s.2 (totL ss rr (srtC ss) s.1), dk Dm, @row Tcounted rcounted 150 v (srtC ss), bl b8 145 [v], fz X w]) (fun _ Dc => Dc) (fun s => s.1 ≤ (srtC ss).length ∧ ∀ j, j < s.1 → (hasV ss rr ((srtC ss).getD j default)).2 = true) (fun s => (srtC ss).length - s.1) (0, .slice none 0 0) (Gs G) (Sc 0 G (Sc 1 G (Sc 2 G (Sc 3 G Sn)))) ⟨Nat.zero_le _, fun j hj => absurd hj (Nat.not_lt_zero j)⟩ (Gs G) G (Sc 0 G (Sc 1 G (Sc 2 G (Sc 3 G Sn)))) ?_
   rintro ⟨i, rv⟩ ⟨hi, hall⟩
   simp only at hi hall
   show WCD _ _ _ _ [(52, .int .i64 ((i : Int))), (11, _), (1, _), (2, _), (50, _), (51, _)] [@row TTotal rTotal 78 rv (totL ss rr (srtC ss) i), dk Dm, @row Tcounted rcounted 150 v (srtC ss), bl b8 145 [v], fz X w] _
   refine sqD<|rgM<|ru 1 G<|nlD<|nxD<|sqD<|cdPD G (fun h53 => ?_) (fun h53 => ?_)
   ·
    refine skD<|nxD<|sqD<|bkD<|sqD<|rgM<|ixN 2 (i) G G G slt_145 (by omega) (by omega) G<|ldR (s := scounted) 2 (i) G G gE (Rg G) G fun q55 w55 => al zero_150 G fun b13 => oc 1 G fun o_q55 => stW 0 (us := (ccounted (((srtC ss).getD (i) default)) q55)) G G G (Rg G) (by simp only [List.all_cons, List.all_nil, Bool.and_true, o_q55]; rfl) G<|nlD<|nxD<|sqD<|rgM<|ru 2 G<|ldM 0 (ccounted (((srtC ss).getD (i) default)) q55) G G (Rg G) G G<|cfv (hasC_c _ _ _ _ _ _ w55 (hF.hold _ (getD_mem (by omega))) hrw) (Kg G) G (Si [4,5,1] G) G<|ru 4 G<|ru 1 G<|nlD<|nxD<|sqD<|sqD<|rgM<|ru 2 G<|nlD<|nxD<|cdBD G (fun h64 => ?_) (fun h64 => ?_)
    ·
     have hno : ¬ allI (srtC ss).length (fun j => (hasV ss rr ((srtC ss).getD j default)).2) = true := by rw [allI_false i (by omega) (by simpa using h64)]; decide
     have hZ2 : (([], 150) : List TTotal × Int) = Z := by rw [← hZ, truthP, if_neg hs0, if_neg hd, if_neg hno]
     subst hZ2
     exact sqD<|rgM<|ru 2 G<|nlD<|nxD<|rtD<|tRD<|bRD<|tRD<|tRD<|bRD<|tRD<|dpQD<|dpQD<|mtQD 1 G<|dpQD<|mtQD 1 G<|dpQD<|emQD (α := TTotal)<|fR2D nS [Dm] [] G G G G G (Sc 0 G Sn)
    ·
     have hok : (hasV ss rr ((srtC ss).getD i default)).2 = true := by simpa using h64
     refine skD<|nxD<|sqD<|rgM<|rl 5 [0] G G<|ldM 0 (cSpan (((srtC ss).getD (i) default).fAccount.fSpan)) G G (Rg G) G G<|mv G G<|bd (ps := [(0, .tmp 67), (1, .tmp 70), (2, .tmp 71)]) (cs := (cAccount ((⟨((srtC ss).getD (i) default).fAccount.fKey, ((srtC ss).getD (i) default).fAccount.fSpan, (hasV ss rr ((srtC ss).getD i default)).1, 0, [], (⟨0, 0, 0, 0⟩ : TLock)⟩ : TAccount)) nS)) (by rfl) (by kernel_rfl) G<|emL (α := THolder)<|cfv (aplain_c (accC ss rr ((srtC ss).getD i default)) _ ⟨w55.1.1, w55.1.2.1, sumI_in _, in0, trivial, in0, in0, in0, in0⟩) (Kg G) G (Sc 0 G Sn) G<|nt G G<|nlD<|nxD<|cdBD G (fun h74 => ?_) (fun h74 => ?_)
     ·
      have h74 : aplainP (accC ss rr ((srtC ss).getD i default)) = false := by simpa using h74
      refine rgM<|rl 6 [0] G G<|ldM 0 (cSpan (((srtC ss).getD (i) default).fAccount.fSpan)) G G (Rg G) G G<|mv G G<|bd (ps := [(0, .tmp 78), (1, .tmp 81), (2, .tmp 82)]) (cs := (cTotal ((⟨((srtC ss).getD (i) default).fAccount.fKey, ((srtC ss).getD (i) default).fAccount.fSpan, (hasV ss rr ((srtC ss).getD i default)).1⟩ : TTotal)))) (by rfl) (by kernel_rfl) G<|bsM G app_72 G G G G fun b84 => frS1 (α := TTotal) (totC ss rr ((srtC ss).getD i default)) (fun S w h => ⟨(), G, by simp, w55.1.1, w55.1.2.1, sumI_in _⟩)<|ap 1 0 G G G G app_72 (by have := totL_len ss rr (srtC ss) i; have hb := hF.big; have hl : (srtC ss).length = (allU ss ss.length).length := sortP_len ..; simp only [List.length_cons, List.length_nil]; omega) (by have := totL_len ss rr (srtC ss) i; have hb := hF.big; have hl : (srtC ss).length = (allU ss ss.length).length := sortP_len ..; simp only [List.length_cons, List.length_nil]; omega) G fun v85 => ru 1 G<|nlD<|bND<|nxD<|rgM<|adI G G inI G<|mv G G<|nlD<|dpQD ?_
      rw [show totL ss rr (srtC ss) i ++ [totC ss rr ((srtC ss).getD i default)] = totL ss rr (srtC ss) (i + 1) from by rw [totL, if_neg (by rw [h74]; decide)]]
      exact agD ((i + 1, v85) : Nat × Value) ⟨by show i + 1 ≤ (srtC ss).length; omega, all_snoc hall hok⟩ (by show (srtC ss).length - (i + 1) < (srtC ss).length - i; omega) (Gs G) G (Sc 4 G (Sc 5 G (Sc 6 G (Sc 7 G Sn))))
     ·
      have h74 : aplainP (accC ss rr ((srtC ss).getD i default)) = true := by simpa using h74
      refine skD<|bND<|nxD<|rgM<|adI G G inI G<|mv G G<|nlD<|dpQD ?_
      rw [show totL ss rr (srtC ss) i = totL ss rr (srtC ss) (i + 1) from by rw [totL, if_pos h74, List.append_nil]]
      exact agD ((i + 1, rv) : Nat × Value) ⟨by show i + 1 ≤ (srtC ss).length; omega, all_snoc hall hok⟩ (by show (srtC ss).length - (i + 1) < (srtC ss).length - i; omega) (Gs G) G (Sc 3 G (Sc 4 G (Sc 5 G (Sc 6 G Sn))))
   ·
    obtain rfl : i = (srtC ss).length := by omega
    have hZ2 : (totL ss rr (srtC ss) (srtC ss).length, 0) = Z := by rw [← hZ, truthP, if_neg hs0, if_neg hd, if_pos (allI_true hall)]
    subst hZ2
    exact exD<|tED<|tED<|bED<|nxD<|sqD<|frRCD<|rgM<|ru 3 G<|nlD<|nxD<|rtD<|mtQD 1 G<|dpQD<|mtQD 1 G<|dpQD<|fR2D _ [Dm] [] G G G G G (Sc 0 G Sn)
end Go.Proofs.YtmpoffijcfaalaaGreat
