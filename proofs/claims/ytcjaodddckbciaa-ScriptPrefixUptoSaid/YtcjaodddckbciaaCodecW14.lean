/- Walks: written by specs1.py. -/
import Derived.Test.YtcjaodddckbciaaCodecW13
import Derived.Test.YtcjaodddckbciaaCodecE
namespace Go.Proofs.Ytcjaodddckbciaa
open Go.Eng Go.Ytcjaodddckbciaa

theorem scriptPrefix_c (av xv : Value) (b zs : List UInt8) (hlen : b.length + zs.length ≤ 140737488355328) : FnV Try.prog 4 [av, xv] [⟨av, b⟩, ⟨xv, zs⟩] (.bool true) := by
  refine Fnc.proof Try.func4 rfl 94 rfl rfl fun X w => ?_
  rcases hD : decS b with ⟨n, l⟩
  rcases hD2 : decS (b ++ zs) with ⟨m, x⟩
  have hd1 := decode_c av b (by omega)
  rw [hD] at hd1
  have hd2 := fun v => decode_c v (b ++ zs) (by rw [List.length_append]; omega)
  rw [hD2] at hd2
  simp only at hd1 hd2
  have hkn := decS_known hD
  have hky := decS_keys hD
  refine sq ?_
  refine rg ?_
  refine asg rfl rfl ?_
  refine nl ?_
  refine nx ?_
  refine sq ?_
  refine rg ?_
  refine mv rfl rfl ?_
  refine cf (hd1) ok_7 rfl (SubD.cons 0 rfl SubD.nil) rfl fun y12 v12 h12 => ?_
  have h12 : v12 = .tuple #[.int .i64 n, y12] := h12
  subst h12
  refine mv rfl rfl ?_
  refine xt rfl rfl rfl ?_
  refine xt rfl rfl rfl ?_
  refine asg rfl rfl ?_
  refine asg rfl rfl ?_
  refine nl ?_
  refine nx ?_
  refine sq ?_
  refine sq ?_
  refine rg ?_
  refine cfv (awake_c) ok_6 rfl SubD.nil rfl ?_
  refine nt rfl rfl ?_
  refine nl ?_
  refine nx ?_
  refine cdF rfl ?_
  refine sk ?_
  refine nx ?_
  refine sq ?_
  refine rg ?_
  refine bs0 app_23 rfl fun b18 => ?_
  refine rwB (α := UInt8) [] [] rfl rfl (fun _ _ _ => trivial) rfl ?_
  refine mv rfl rfl ?_
  refine ap 0 1 rfl rfl rfl rfl app_23 (by simp; omega) (by simp; omega) rfl fun v20 => ?_
  refine mv rfl rfl ?_
  refine ap 0 2 rfl rfl rfl rfl app_23 (by simp; omega) (by simp; omega) rfl fun v22 => ?_
  refine frRL ?_
  refine cf (hd2 _) ok_7 rfl (SubD.cons 0 rfl SubD.nil) rfl fun y23 v23 h23 => ?_
  have h23 : v23 = .tuple #[.int .i64 m, y23] := h23
  subst h23
  refine mv rfl rfl ?_
  refine xt rfl rfl rfl ?_
  refine xt rfl rfl rfl ?_
  refine asg rfl rfl ?_
  refine asg rfl rfl ?_
  refine nl ?_
  refine nx ?_
  refine sq ?_
  refine sq ?_
  refine rg ?_
  refine mv rfl rfl ?_
  refine lnP 3 rfl rfl Try.underlying23 rfl fun l27 => ?_
  refine eqI rfl rfl rfl ?_
  refine nl ?_
  refine nx ?_
  refine cdP rfl (fun h28 => ?_) (fun h28 => ?_)
  ·
    obtain rfl : b = [] := List.eq_nil_of_length_eq_zero (by omega)
    obtain ⟨rfl, rfl⟩ : n = 3 ∧ l = [] := by have q := hD.symm.trans decS_nil; simpa using q
    refine sq ?_
    refine rg ?_
    refine mv rfl rfl ?_
    refine eqI rfl rfl rfl ?_
    refine mv rfl rfl ?_
    refine spP (i := 31) rfl (fun h31 => ?_) (fun h31 => ?_)
    ·
      refine gY rfl rfl rfl ?_
      refine mv rfl rfl ?_
      refine gY rfl rfl rfl ?_
      refine lnP 2 rfl rfl Try.underlying22 rfl fun l33 => ?_
      refine gY rfl rfl rfl ?_
      refine eqI rfl rfl rfl ?_
      refine pkT rfl rfl rfl ?_
      refine asg rfl rfl ?_
      refine nl ?_
      refine nx ?_
      refine rt ?_
      refine tR ?_
      exact fR1 () rfl rfl (by simp) rfl SubD.nil
    ·
      exact absurd rfl h31 --#done
  ·
    obtain ⟨hm, r, rfl⟩ := decS_pre (fun e => h28 (by rw [e]; rfl)) hD hD2
    obtain rfl := hm.symm
    refine sk ?_
    refine nx ?_
    refine sq ?_
    refine sq ?_
    refine rg ?_
    refine mv rfl rfl ?_
    refine mv rfl rfl ?_
    refine neI rfl rfl rfl ?_
    refine mv rfl rfl ?_
    refine spN (i := 39) rfl (fun h39 => ?_) (fun h39 => ?_)
    ·
      exact absurd rfl h39 --#done
    ·
      refine gY rfl rfl rfl ?_
      refine mv rfl rfl ?_
      refine gY rfl rfl rfl ?_
      refine lnP 0 rfl rfl Try.underlying22 rfl fun l41 => ?_
      refine gY rfl rfl rfl ?_
      refine mv rfl rfl ?_
      refine gY rfl rfl rfl ?_
      refine lnP 2 rfl rfl Try.underlying22 rfl fun l43 => ?_
      refine gY rfl rfl rfl ?_
      refine ltI rfl rfl rfl ?_
      refine pkF rfl rfl rfl ?_
      refine mv rfl rfl ?_
      refine spP (i := 46) rfl (fun h46 => ?_) (fun h46 => ?_)
      ·
        exact absurd h46 (by rw [List.length_append]; omega) --#done
      ·
        refine gY rfl rfl rfl ?_
        refine mv rfl rfl ?_
        refine gY rfl rfl rfl ?_
        refine neI rfl rfl rfl ?_
        refine gY rfl rfl rfl ?_
        refine mv rfl rfl ?_
        refine spN (i := 49) rfl (fun h49 => ?_) (fun h49 => ?_)
        ·
          refine gY rfl rfl rfl ?_
          refine mv rfl rfl ?_
          refine gY rfl rfl rfl ?_
          refine neI rfl rfl rfl ?_
          refine gY rfl rfl rfl ?_
          refine pkT rfl rfl rfl ?_
          refine gY rfl rfl rfl ?_
          refine mv rfl rfl ?_
          refine spN (i := 53) rfl (fun h53 => ?_) (fun h53 => ?_)
          ·
            refine gY rfl rfl rfl ?_
            refine mv rfl rfl ?_
            refine gY rfl rfl rfl ?_
            refine neI rfl rfl rfl ?_
            refine gY rfl rfl rfl ?_
            refine pkT rfl rfl rfl ?_
            refine pkF rfl rfl rfl ?_
            refine nl ?_
            refine nx ?_
            refine cdN rfl (fun h57 => ?_) (fun h57 => ?_)
            ·
              exact absurd h57 (by omega) --#done
            ·
              refine sk ?_
              refine nx ?_
              refine sq ?_
              refine sq ?_
              refine rg ?_
              refine asg rfl rfl ?_
              refine nl ?_
              refine nx ?_
              refine bk ?_
              refine lp (σ := Nat) (fun i => [(0, av), (1, xv), (5, .int .i64 n), (6, y12), (7, .int .i64 n), (8, y23), (9, .int .i64 (i : Int))]) (fun _ => [fz X w]) (fun _ => [⟨y23, l ++ r⟩, ⟨y12, l⟩, ⟨av, b⟩, ⟨xv, zs⟩]) (fun i => i ≤ l.length) (fun i => l.length - i) 0 (Nat.zero_le _) ⟨rfl, rfl, rfl, rfl, rfl, rfl, rfl, trivial⟩ rfl (SubD.cons 0 rfl (SubD.cons 2 rfl (SubD.cons 3 rfl (SubD.cons 4 rfl SubD.nil)))) ?_
              intro i hi
              refine sq ?_
              refine sq ?_
              refine rg ?_
              refine mv rfl rfl ?_
              refine mv rfl rfl ?_
              refine lnP 1 rfl rfl Try.underlying22 rfl fun l60 => ?_
              refine ltI rfl rfl rfl ?_
              refine nl ?_
              refine nx ?_
              refine cdP rfl (fun h61 => ?_) (fun h61 => ?_)
              ·
                obtain ⟨x, hx⟩ : ∃ x, l[i]? = some x := ⟨_, getE (by omega)⟩
                have hx2 : (l ++ r)[i]? = some x := by rw [List.getElem?_append_left (by omega)]; exact hx
                obtain ⟨hk1, hk2⟩ := hky x (List.mem_of_getElem? hx)
                have qe : ∀ ka kb, FnV Try.prog 8 [.agg (evCells x ka).toArray, .agg (evCells x kb).toArray] [⟨ka, x.keep⟩, ⟨kb, x.keep⟩] (.bool true) := fun ka kb => by
                  have q := event_eq x x ka kb
                  rwa [evEq_self] at q
                refine sk ?_
                refine nx ?_
                refine sq ?_
                refine bk ?_
                refine sq ?_
                refine rgQ mixed (by kernel_rfl) ?_
                refine mv rfl rfl ?_
                refine mv rfl rfl ?_
                refine ixP 1 rfl rfl rfl slt_22 (by omega) hx rfl fun v66 => ?_
                refine ldS 0 rfl rfl row_35 rfl fun q67 w67 => ?_
                refine mv rfl rfl ?_
                refine mv rfl rfl ?_
                refine ixP 3 rfl rfl rfl slt_22 (by omega) hx2 rfl fun v70 => ?_
                refine ldS 0 rfl rfl row_35 rfl fun q71 w71 => ?_
                refine cfq (qe _ _) ok_8 rfl (SubD.cons 4 rfl (SubD.cons 1 rfl SubD.nil)) rfl ?_
                refine nt rfl rfl ?_
                refine mv rfl rfl ?_
                refine gY rfl rfl rfl ?_
                refine mv rfl rfl ?_
                refine gY rfl rfl rfl ?_
                refine mv rfl rfl ?_
                refine gY rfl rfl rfl ?_
                refine ixP 7 rfl rfl rfl slt_22 (by omega) hx rfl fun v77 => ?_
                refine gY rfl rfl rfl ?_
                refine faP (α := Ev) (β := OpV) 0 (fun e : Ev => e.op) rfl rfl fld_35_5 ev_op rfl fun v78 => ?_
                refine gY rfl rfl rfl ?_
                refine faP (α := OpV) (β := ByteArray) 0 (fun o : OpV => o.key) rfl rfl fld_32_1 op_key rfl fun v79 => ?_
                refine gY rfl rfl rfl ?_
                refine ldV 0 rfl rfl one_9 rfl fun w80 => ?_
                refine gY rfl rfl rfl ?_
                refine lnS rfl Try.underlying9 rfl ?_
                refine gY rfl rfl rfl ?_
                refine gtI rfl rfl rfl ?_
                refine pkF rfl rfl rfl ?_
                refine mv rfl rfl ?_
                refine spP (i := 84) rfl (fun h84 => ?_) (fun h84 => ?_)
                ·
                  exact absurd h84 (by omega) --#done
                ·
                  refine gY rfl rfl rfl ?_
                  refine mv rfl rfl ?_
                  refine gY rfl rfl rfl ?_
                  refine mv rfl rfl ?_
                  refine gY rfl rfl rfl ?_
                  refine ixP 10 rfl rfl rfl slt_22 (by omega) hx rfl fun v87 => ?_
                  refine gY rfl rfl rfl ?_
                  refine faP (α := Ev) (β := OpV) 0 (fun e : Ev => e.op) rfl rfl fld_35_5 ev_op rfl fun v88 => ?_
                  refine gY rfl rfl rfl ?_
                  refine faP (α := OpV) (β := ByteArray) 0 (fun o : OpV => o.other) rfl rfl fld_32_2 op_other rfl fun v89 => ?_
                  refine gY rfl rfl rfl ?_
                  refine ldV 0 rfl rfl one_9 rfl fun w90 => ?_
                  refine gY rfl rfl rfl ?_
                  refine lnS rfl Try.underlying9 rfl ?_
                  refine gY rfl rfl rfl ?_
                  refine gtI rfl rfl rfl ?_
                  refine pkF rfl rfl rfl ?_
                  refine nlQ ?_
                  refine nx ?_
                  refine cdP rfl (fun h93 => ?_) (fun h93 => ?_)
                  ·
                    exact absurd h93 (by omega) --#done
                  ·
                    refine sk ?_
                    refine bN ?_
                    refine nx ?_
                    refine rg ?_
                    refine mv rfl rfl ?_
                    refine adI rfl rfl (inI (by omega) (by omega)) rfl ?_
                    refine asg rfl rfl ?_
                    refine nl ?_
                    exact ag (i + 1) (by omega) (by omega) ⟨rfl, rfl, rfl, rfl, rfl, rfl, rfl, trivial⟩ rfl (SubD.cons 12 rfl (SubD.cons 13 rfl (SubD.cons 14 rfl (SubD.cons 15 rfl SubD.nil))))
              ·
                refine ex ?_
                refine tE ?_
                refine tE ?_
                refine bE ?_
                refine nx ?_
                refine sq ?_
                refine rg ?_
                refine asg rfl rfl ?_
                refine nl ?_
                refine nx ?_
                refine rt ?_
                exact fR1 () rfl rfl rfl rfl SubD.nil
          ·
            refine gN rfl rfl rfl rfl rfl ?_
            refine gN rfl rfl rfl rfl rfl ?_
            refine gY rfl rfl rfl ?_
            refine pkF rfl rfl rfl ?_
            refine pkF rfl rfl rfl ?_
            refine nl ?_
            refine nx ?_
            refine cdF rfl ?_
            refine sk ?_
            refine nx ?_
            refine sq ?_
            refine sq ?_
            refine rg ?_
            refine asg rfl rfl ?_
            refine nl ?_
            refine nx ?_
            refine bk ?_
            refine lp (σ := Nat) (fun i => [(0, av), (1, xv), (5, .int .i64 n), (6, y12), (7, .int .i64 n), (8, y23), (9, .int .i64 (i : Int))]) (fun _ => [fz X w]) (fun _ => [⟨y23, l ++ r⟩, ⟨y12, l⟩, ⟨av, b⟩, ⟨xv, zs⟩]) (fun i => i ≤ l.length) (fun i => l.length - i) 0 (Nat.zero_le _) ⟨rfl, rfl, rfl, rfl, rfl, rfl, rfl, trivial⟩ rfl (SubD.cons 0 rfl (SubD.cons 2 rfl (SubD.cons 3 rfl (SubD.cons 4 rfl SubD.nil)))) ?_
            intro i hi
            refine sq ?_
            refine sq ?_
            refine rg ?_
            refine mv rfl rfl ?_
            refine mv rfl rfl ?_
            refine lnP 1 rfl rfl Try.underlying22 rfl fun l60 => ?_
            refine ltI rfl rfl rfl ?_
            refine nl ?_
            refine nx ?_
            refine cdP rfl (fun h61 => ?_) (fun h61 => ?_)
            ·
              obtain ⟨x, hx⟩ : ∃ x, l[i]? = some x := ⟨_, getE (by omega)⟩
              have hx2 : (l ++ r)[i]? = some x := by rw [List.getElem?_append_left (by omega)]; exact hx
              obtain ⟨hk1, hk2⟩ := hky x (List.mem_of_getElem? hx)
              have qe : ∀ ka kb, FnV Try.prog 8 [.agg (evCells x ka).toArray, .agg (evCells x kb).toArray] [⟨ka, x.keep⟩, ⟨kb, x.keep⟩] (.bool true) := fun ka kb => by
                have q := event_eq x x ka kb
                rwa [evEq_self] at q
              refine sk ?_
              refine nx ?_
              refine sq ?_
              refine bk ?_
              refine sq ?_
              refine rgQ mixed (by kernel_rfl) ?_
              refine mv rfl rfl ?_
              refine mv rfl rfl ?_
              refine ixP 1 rfl rfl rfl slt_22 (by omega) hx rfl fun v66 => ?_
              refine ldS 0 rfl rfl row_35 rfl fun q67 w67 => ?_
              refine mv rfl rfl ?_
              refine mv rfl rfl ?_
              refine ixP 3 rfl rfl rfl slt_22 (by omega) hx2 rfl fun v70 => ?_
              refine ldS 0 rfl rfl row_35 rfl fun q71 w71 => ?_
              refine cfq (qe _ _) ok_8 rfl (SubD.cons 4 rfl (SubD.cons 1 rfl SubD.nil)) rfl ?_
              refine nt rfl rfl ?_
              refine mv rfl rfl ?_
              refine gY rfl rfl rfl ?_
              refine mv rfl rfl ?_
              refine gY rfl rfl rfl ?_
              refine mv rfl rfl ?_
              refine gY rfl rfl rfl ?_
              refine ixP 7 rfl rfl rfl slt_22 (by omega) hx rfl fun v77 => ?_
              refine gY rfl rfl rfl ?_
              refine faP (α := Ev) (β := OpV) 0 (fun e : Ev => e.op) rfl rfl fld_35_5 ev_op rfl fun v78 => ?_
              refine gY rfl rfl rfl ?_
              refine faP (α := OpV) (β := ByteArray) 0 (fun o : OpV => o.key) rfl rfl fld_32_1 op_key rfl fun v79 => ?_
              refine gY rfl rfl rfl ?_
              refine ldV 0 rfl rfl one_9 rfl fun w80 => ?_
              refine gY rfl rfl rfl ?_
              refine lnS rfl Try.underlying9 rfl ?_
              refine gY rfl rfl rfl ?_
              refine gtI rfl rfl rfl ?_
              refine pkF rfl rfl rfl ?_
              refine mv rfl rfl ?_
              refine spP (i := 84) rfl (fun h84 => ?_) (fun h84 => ?_)
              ·
                exact absurd h84 (by omega) --#done
              ·
                refine gY rfl rfl rfl ?_
                refine mv rfl rfl ?_
                refine gY rfl rfl rfl ?_
                refine mv rfl rfl ?_
                refine gY rfl rfl rfl ?_
                refine ixP 10 rfl rfl rfl slt_22 (by omega) hx rfl fun v87 => ?_
                refine gY rfl rfl rfl ?_
                refine faP (α := Ev) (β := OpV) 0 (fun e : Ev => e.op) rfl rfl fld_35_5 ev_op rfl fun v88 => ?_
                refine gY rfl rfl rfl ?_
                refine faP (α := OpV) (β := ByteArray) 0 (fun o : OpV => o.other) rfl rfl fld_32_2 op_other rfl fun v89 => ?_
                refine gY rfl rfl rfl ?_
                refine ldV 0 rfl rfl one_9 rfl fun w90 => ?_
                refine gY rfl rfl rfl ?_
                refine lnS rfl Try.underlying9 rfl ?_
                refine gY rfl rfl rfl ?_
                refine gtI rfl rfl rfl ?_
                refine pkF rfl rfl rfl ?_
                refine nlQ ?_
                refine nx ?_
                refine cdP rfl (fun h93 => ?_) (fun h93 => ?_)
                ·
                  exact absurd h93 (by omega) --#done
                ·
                  refine sk ?_
                  refine bN ?_
                  refine nx ?_
                  refine rg ?_
                  refine mv rfl rfl ?_
                  refine adI rfl rfl (inI (by omega) (by omega)) rfl ?_
                  refine asg rfl rfl ?_
                  refine nl ?_
                  exact ag (i + 1) (by omega) (by omega) ⟨rfl, rfl, rfl, rfl, rfl, rfl, rfl, trivial⟩ rfl (SubD.cons 12 rfl (SubD.cons 13 rfl (SubD.cons 14 rfl (SubD.cons 15 rfl SubD.nil))))
            ·
              refine ex ?_
              refine tE ?_
              refine tE ?_
              refine bE ?_
              refine nx ?_
              refine sq ?_
              refine rg ?_
              refine asg rfl rfl ?_
              refine nl ?_
              refine nx ?_
              refine rt ?_
              exact fR1 () rfl rfl rfl rfl SubD.nil
        ·
          refine gN rfl rfl rfl rfl rfl ?_
          refine gN rfl rfl rfl rfl rfl ?_
          refine gY rfl rfl rfl ?_
          refine pkF rfl rfl rfl ?_
          refine gY rfl rfl rfl ?_
          refine mv rfl rfl ?_
          refine gN rfl rfl rfl rfl rfl ?_
          refine gN rfl rfl rfl rfl rfl ?_
          refine gY rfl rfl rfl ?_
          refine pkF rfl rfl rfl ?_
          refine pkF rfl rfl rfl ?_
          refine nl ?_
          refine nx ?_
          refine cdF rfl ?_
          refine sk ?_
          refine nx ?_
          refine sq ?_
          refine sq ?_
          refine rg ?_
          refine asg rfl rfl ?_
          refine nl ?_
          refine nx ?_
          refine bk ?_
          refine lp (σ := Nat) (fun i => [(0, av), (1, xv), (5, .int .i64 n), (6, y12), (7, .int .i64 n), (8, y23), (9, .int .i64 (i : Int))]) (fun _ => [fz X w]) (fun _ => [⟨y23, l ++ r⟩, ⟨y12, l⟩, ⟨av, b⟩, ⟨xv, zs⟩]) (fun i => i ≤ l.length) (fun i => l.length - i) 0 (Nat.zero_le _) ⟨rfl, rfl, rfl, rfl, rfl, rfl, rfl, trivial⟩ rfl (SubD.cons 0 rfl (SubD.cons 2 rfl (SubD.cons 3 rfl (SubD.cons 4 rfl SubD.nil)))) ?_
          intro i hi
          refine sq ?_
          refine sq ?_
          refine rg ?_
          refine mv rfl rfl ?_
          refine mv rfl rfl ?_
          refine lnP 1 rfl rfl Try.underlying22 rfl fun l60 => ?_
          refine ltI rfl rfl rfl ?_
          refine nl ?_
          refine nx ?_
          refine cdP rfl (fun h61 => ?_) (fun h61 => ?_)
          ·
            obtain ⟨x, hx⟩ : ∃ x, l[i]? = some x := ⟨_, getE (by omega)⟩
            have hx2 : (l ++ r)[i]? = some x := by rw [List.getElem?_append_left (by omega)]; exact hx
            obtain ⟨hk1, hk2⟩ := hky x (List.mem_of_getElem? hx)
            have qe : ∀ ka kb, FnV Try.prog 8 [.agg (evCells x ka).toArray, .agg (evCells x kb).toArray] [⟨ka, x.keep⟩, ⟨kb, x.keep⟩] (.bool true) := fun ka kb => by
              have q := event_eq x x ka kb
              rwa [evEq_self] at q
            refine sk ?_
            refine nx ?_
            refine sq ?_
            refine bk ?_
            refine sq ?_
            refine rgQ mixed (by kernel_rfl) ?_
            refine mv rfl rfl ?_
            refine mv rfl rfl ?_
            refine ixP 1 rfl rfl rfl slt_22 (by omega) hx rfl fun v66 => ?_
            refine ldS 0 rfl rfl row_35 rfl fun q67 w67 => ?_
            refine mv rfl rfl ?_
            refine mv rfl rfl ?_
            refine ixP 3 rfl rfl rfl slt_22 (by omega) hx2 rfl fun v70 => ?_
            refine ldS 0 rfl rfl row_35 rfl fun q71 w71 => ?_
            refine cfq (qe _ _) ok_8 rfl (SubD.cons 4 rfl (SubD.cons 1 rfl SubD.nil)) rfl ?_
            refine nt rfl rfl ?_
            refine mv rfl rfl ?_
            refine gY rfl rfl rfl ?_
            refine mv rfl rfl ?_
            refine gY rfl rfl rfl ?_
            refine mv rfl rfl ?_
            refine gY rfl rfl rfl ?_
            refine ixP 7 rfl rfl rfl slt_22 (by omega) hx rfl fun v77 => ?_
            refine gY rfl rfl rfl ?_
            refine faP (α := Ev) (β := OpV) 0 (fun e : Ev => e.op) rfl rfl fld_35_5 ev_op rfl fun v78 => ?_
            refine gY rfl rfl rfl ?_
            refine faP (α := OpV) (β := ByteArray) 0 (fun o : OpV => o.key) rfl rfl fld_32_1 op_key rfl fun v79 => ?_
            refine gY rfl rfl rfl ?_
            refine ldV 0 rfl rfl one_9 rfl fun w80 => ?_
            refine gY rfl rfl rfl ?_
            refine lnS rfl Try.underlying9 rfl ?_
            refine gY rfl rfl rfl ?_
            refine gtI rfl rfl rfl ?_
            refine pkF rfl rfl rfl ?_
            refine mv rfl rfl ?_
            refine spP (i := 84) rfl (fun h84 => ?_) (fun h84 => ?_)
            ·
              exact absurd h84 (by omega) --#done
            ·
              refine gY rfl rfl rfl ?_
              refine mv rfl rfl ?_
              refine gY rfl rfl rfl ?_
              refine mv rfl rfl ?_
              refine gY rfl rfl rfl ?_
              refine ixP 10 rfl rfl rfl slt_22 (by omega) hx rfl fun v87 => ?_
              refine gY rfl rfl rfl ?_
              refine faP (α := Ev) (β := OpV) 0 (fun e : Ev => e.op) rfl rfl fld_35_5 ev_op rfl fun v88 => ?_
              refine gY rfl rfl rfl ?_
              refine faP (α := OpV) (β := ByteArray) 0 (fun o : OpV => o.other) rfl rfl fld_32_2 op_other rfl fun v89 => ?_
              refine gY rfl rfl rfl ?_
              refine ldV 0 rfl rfl one_9 rfl fun w90 => ?_
              refine gY rfl rfl rfl ?_
              refine lnS rfl Try.underlying9 rfl ?_
              refine gY rfl rfl rfl ?_
              refine gtI rfl rfl rfl ?_
              refine pkF rfl rfl rfl ?_
              refine nlQ ?_
              refine nx ?_
              refine cdP rfl (fun h93 => ?_) (fun h93 => ?_)
              ·
                exact absurd h93 (by omega) --#done
              ·
                refine sk ?_
                refine bN ?_
                refine nx ?_
                refine rg ?_
                refine mv rfl rfl ?_
                refine adI rfl rfl (inI (by omega) (by omega)) rfl ?_
                refine asg rfl rfl ?_
                refine nl ?_
                exact ag (i + 1) (by omega) (by omega) ⟨rfl, rfl, rfl, rfl, rfl, rfl, rfl, trivial⟩ rfl (SubD.cons 12 rfl (SubD.cons 13 rfl (SubD.cons 14 rfl (SubD.cons 15 rfl SubD.nil))))
          ·
            refine ex ?_
            refine tE ?_
            refine tE ?_
            refine bE ?_
            refine nx ?_
            refine sq ?_
            refine rg ?_
            refine asg rfl rfl ?_
            refine nl ?_
            refine nx ?_
            refine rt ?_
            exact fR1 () rfl rfl rfl rfl SubD.nil
end Go.Proofs.Ytcjaodddckbciaa
