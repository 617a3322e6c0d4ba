/- Part 29 of the proof of auditOrder_holds: AudW10, AudW2. Every text below begins with what it shows. -/
import Derived.Test.YtmpoffijcfaalaaGreatAu28

/- What an account has: written by specs10.py. -/

namespace Go.Proofs.YtmpoffijcfaalaaGreat
open Go.Eng Go.YtmpoffijcfaalaaGreat

theorem hasC_c (v_ss : Value) (ss : List TState) (v_rr : Value) (rr : List (List TRight)) (c : Tcounted) (c_0 : Value) (h_c : c.wf) (hh : c.fAccount.fHolders.length ≤ 1000) (hrw : ∀ l ∈ rr, ∀ r ∈ l, r.wf) : FnV Tryz.prog 88 [v_ss, v_rr, .agg (ccounted c c_0).toArray] [⟨v_ss, ss⟩, ⟨v_rr, rr⟩, ⟨c_0, c.fAccount.fHolders⟩] (.tuple #[.int .i64 (hasV ss rr c).1, .bool (hasV ss rr c).2]) := by
  refine Fnc.proof Tryz.func88 rfl 110 rfl rfl fun X w => gtC (q := rr.length ≤ 9223372036854775807) (fun S w h => list_len (h _ (List.mem_of_getElem? (i := 1) rfl))) fun hlr => sq<|rg<|bx rfl rfl rfl fun b5 => asg rfl rfl<|asg rfl rfl<|nl<|nx<|sq<|rg<|fa rfl fld_150_0 rfl<|ldM 0 (cAccount c.fAccount c_0) rfl rfl row_70 rfl rfl<|al zero_70 rfl fun b8 => ?_
  refine gtL (q := c_0.oneCell' = true) (fun S w h => oneCell_of_list (h _ (List.mem_of_getElem? (i := 2) rfl))) fun o_c_0 => stW 0 (us := (cAccount c.fAccount c_0)) rfl rfl rfl row_70 (by simp only [List.all_cons, List.all_nil, Bool.and_true, o_c_0]; rfl) rfl<|nl<|nx<|sq<|rg<|fa rfl fld_70_2 rfl<|ldB 0 rfl rfl one_3 rfl rfl<|bs1 (xs := [.tmp 21]) (us := [.int .i64 c.fAccount.fBase]) (E := 3) (bytes := 8) (n := 1) rfl (by exact app_220) rfl rfl rfl rfl rfl rfl fun b22 => rwB (α := Int) [c.fAccount.fBase] [[.int .i64 (c.fAccount.fBase)]] rfl rfl (fun S w h => ⟨⟨rfl, h_c.1.2.2.1⟩, trivial⟩) rfl<|asg rfl rfl<|nl<|nx<|sq ?_
  refine sq<|rg<|fa rfl fld_70_4 rfl<|ldB 1 rfl rfl one_66 rfl rfl<|lnP 2 rfl rfl Tryz.underlying66 rfl fun l25 => mv rfl rfl<|nl<|nx<|bk<|lpE (σ := Nat × Value) [(0, _), (1, _), (5, _), (8, _), (24, _), (25, _)] _ (fun s C => (26, .int .i64 (s.1 : Int)) :: (9, s.2) :: C) (fun s => [row 3 s.2 (partsL rr c s.1), bl b8 70 (cAccount c.fAccount c_0), bl b5 150 (ccounted c c_0), fz X w]) (fun _ Dc => Dc) (fun s => s.1 ≤ c.fAccount.fHolders.length) (fun s => c.fAccount.fHolders.length - s.1) (0, _) ⟨rfl, rfl, rfl, rfl, rfl, rfl, trivial⟩ (SubD.cons 0 rfl (SubD.cons 1 rfl (SubD.cons 2 rfl SubD.nil))) (Nat.zero_le _) ⟨rfl, rfl, rfl, rfl, rfl, rfl, rfl, rfl, trivial⟩ rfl (SubD.cons 0 rfl (SubD.cons 1 rfl (SubD.cons 2 rfl SubD.nil))) ?_
  rintro ⟨i, rv⟩ hi
  simp only at hi
  show WC _ _ _ [(26, .int .i64 ((i : Int))), (9, _), (0, _), (1, _), (5, _), (8, _), (24, _), (25, _)] [row 3 rv (partsL rr c i), bl b8 70 (cAccount c.fAccount c_0), bl b5 150 (ccounted c c_0), fz X w] _
  refine sq<|rg<|ltI rfl rfl rfl<|nl<|nx<|sq<|cdP rfl (fun h27 => ?_) (fun h27 => ?_)
  ·
    refine sk<|nx<|sq<|bk<|sq<|rg<|ixP 2 rfl rfl rfl slt_66 (by omega) (getDE (d := default) (by omega)) rfl fun v28 => ldS 0 rfl rfl row_165 rfl fun q29 w29 => ?_
    refine al zero_165 rfl fun b11 => stW 0 (us := (cHolder ((c.fAccount.fHolders.getD i default)))) rfl rfl rfl row_165 rfl rfl<|nl<|nx<|sq<|rg<|fa rfl fld_165_0 rfl<|ldB 0 rfl rfl one_3 rfl rfl<|geI rfl rfl rfl<|mv rfl rfl ?_
    apply jo [(0, _), (1, _), (5, _), (8, _), (9, _), (11, _), (24, _), (25, _), (26, _)] ⟨rfl, rfl, rfl, rfl, rfl, rfl, rfl, rfl, rfl, trivial⟩
    ·
      intro K39
      refine spA (i := 33) rfl (fun h33 => ?_) (fun h33 => ?_)
      ·
        have p33 := of_decide_eq_true h33
        exact gY rfl rfl rfl<|fa rfl fld_165_0 rfl<|gY rfl rfl rfl<|ldB 0 rfl rfl one_3 rfl rfl<|gY rfl rfl rfl<|mv rfl rfl<|gY rfl rfl rfl<|lnP 3 rfl rfl Tryz.underlying71 rfl fun l37 => gY rfl rfl rfl<|leI rfl rfl rfl<|pkT rfl rfl rfl<|jA K39 h33 ⟨rfl, rfl, rfl, rfl, rfl, rfl, rfl, rfl, rfl, trivial⟩ SubD.refl
      ·
        exact gS (g := [_, _, _, _, _]) rfl<|pkF rfl rfl rfl<|jA0 K39 h33 ⟨rfl, rfl, rfl, rfl, rfl, rfl, rfl, rfl, rfl, trivial⟩ SubD.refl
    refine nl<|nx<|cdB rfl (fun h39 => ?_) (fun h39 => ?_)
    ·
      have q39 : (c.fAccount.fHolders.getD i default).fNode ≥ 1 ∧ (c.fAccount.fHolders.getD i default).fNode ≤ (rr.length : Int) := by
        simpa only [Bool.and_eq_true, decide_eq_true_eq] using h39
      refine rgHT 15 ⟨fun q_ => ([[], [], [], [2], [3], [1, 4], [5], [], [7], [], [9], [], [11], [6, 8, 10, 12], [13], [], []] : List (List Nat)).getD q_ [], fun _ _ => True, fun q_ => ([fun _ => [], fun _ => [], fun _ => [], fun _ => [], fun _ => [], fun u => [⟨u, (⟨(rr.getD (((c.fAccount.fHolders.getD i default).fNode - 1)).toNat default)⟩ : Pt (List TRight))⟩], fun u => [⟨u, (rr.getD (((c.fAccount.fHolders.getD i default).fNode - 1)).toNat default)⟩], fun _ => [], fun _ => [], fun _ => [], fun _ => [], fun _ => [], fun _ => [], fun _ => [], fun u => [⟨u, [(netP (rr.getD ((c.fAccount.fHolders.getD i default).fNode - 1).toNat default) c.fGroup c.fAccount.fKey (c.fAccount.fHolders.getD i default).fLease)]⟩], fun _ => [], fun _ => []] : List (Value → List Atom)).getD q_ (fun _ => []), fun q_ => ([some (rv), some (v_rr), some (.pointer (some ⟨b11, 0, none⟩)), some (.int .i64 ((c.fAccount.fHolders.getD i default).fNode)), some (.int .i64 (((c.fAccount.fHolders.getD i default).fNode - 1))), none, none, some (.pointer (some ⟨b5, 10, none⟩)), some (.int .i64 c.fGroup), some (.pointer (some ⟨b8, 0, none⟩)), some (.string c.fAccount.fKey), some (.pointer (some ⟨b11, 1, none⟩)), some (.int .i64 ((c.fAccount.fHolders.getD i default).fLease)), some (.int .i64 ((netP (rr.getD (((c.fAccount.fHolders.getD i default).fNode - 1)).toNat default) c.fGroup c.fAccount.fKey (c.fAccount.fHolders.getD i default).fLease))), none, none, none] : List (Option Value)).getD q_ none, fun _ _ => _, [], [[]]⟩ rfl mixed (by kernel_rfl) (Nat.le_of_ble_eq_true rfl) rfl ?_ ?_
      ·
        refine ⟨fun V De _ => (show AllP _ [[]] from ⟨?_, trivial⟩), ?_⟩
        ·
          exact mv rfl rfl<|nl (odH rfl rfl rfl rfl SubD.nil SubD.refl)
        refine ⟨fun V De _ => (show AllP _ [[]] from ⟨?_, trivial⟩), ?_⟩
        ·
          exact mv rfl rfl<|nl (odH rfl rfl rfl rfl SubD.nil SubD.refl)
        refine ⟨fun V De _ => (show AllP _ [[]] from ⟨?_, trivial⟩), ?_⟩
        ·
          exact fa rfl fld_165_0 rfl<|nl (odH rfl rfl rfl rfl SubD.nil SubD.refl)
        refine ⟨fun V De _ => (show AllP _ [[]] from ⟨?_, trivial⟩), ?_⟩
        ·
          exact ldB 0 rfl rfl one_3 rfl rfl<|nl (odH rfl rfl rfl rfl SubD.nil SubD.refl)
        refine ⟨fun V De _ => (show AllP _ [[]] from ⟨?_, trivial⟩), ?_⟩
        ·
          exact sbI rfl rfl (inI (by omega) (by omega)) rfl<|nl (odH rfl rfl rfl rfl SubD.nil SubD.refl)
        refine ⟨fun V De _ => (show AllP _ [[]] from ⟨?_, trivial⟩), ?_⟩
        ·
          exact ixP 3 rfl rfl rfl slt_71 (by omega) (getDE (d := default) (by omega)) rfl fun v45 => nl (odH rfl rfl rfl trivial (SubD.cons 0 rfl SubD.nil) (SubD.tail SubD.refl))
        refine ⟨fun V De _ => (show AllP _ [[]] from ⟨?_, trivial⟩), ?_⟩
        ·
          exact ldL 0 rfl rfl one_29 rfl fun v46 => nl (odH rfl rfl rfl trivial (SubD.cons 0 rfl SubD.nil) (SubD.tail (SubD.tail SubD.refl)))
        refine ⟨fun V De _ => (show AllP _ [[]] from ⟨?_, trivial⟩), ?_⟩
        ·
          exact fa rfl fld_150_1 rfl<|nl (odH rfl rfl rfl rfl SubD.nil SubD.refl)
        refine ⟨fun V De _ => (show AllP _ [[]] from ⟨?_, trivial⟩), ?_⟩
        ·
          exact ldB 3 rfl rfl one_3 rfl rfl<|nl (odH rfl rfl rfl rfl SubD.nil SubD.refl)
        refine ⟨fun V De _ => (show AllP _ [[]] from ⟨?_, trivial⟩), ?_⟩
        ·
          exact fa rfl fld_70_0 rfl<|nl (odH rfl rfl rfl rfl SubD.nil SubD.refl)
        refine ⟨fun V De _ => (show AllP _ [[]] from ⟨?_, trivial⟩), ?_⟩
        ·
          exact ldB 2 rfl rfl one_9 rfl rfl<|nl (odH rfl rfl rfl rfl SubD.nil SubD.refl)
        refine ⟨fun V De _ => (show AllP _ [[]] from ⟨?_, trivial⟩), ?_⟩
        ·
          exact fa rfl fld_165_1 rfl<|nl (odH rfl rfl rfl rfl SubD.nil SubD.refl)
        refine ⟨fun V De _ => (show AllP _ [[]] from ⟨?_, trivial⟩), ?_⟩
        ·
          exact ldB 0 rfl rfl one_3 rfl rfl<|nl (odH rfl rfl rfl rfl SubD.nil SubD.refl)
        refine ⟨fun V De _ => (show AllP _ [[]] from ⟨?_, trivial⟩), ?_⟩
        ·
          exact cfv (net_c _ _ _ _ _) ok_100 rfl (SubD.cons 0 rfl SubD.nil) rfl<|nl (odH rfl rfl rfl rfl SubD.nil (SubD.tail SubD.refl))
        refine ⟨fun V De _ => (show AllP _ [[]] from ⟨?_, trivial⟩), ?_⟩
        ·
          exact bs1 (xs := [.tmp 53]) (us := [.int .i64 ((netP (rr.getD (((c.fAccount.fHolders.getD i default).fNode - 1)).toNat default) c.fGroup c.fAccount.fKey (c.fAccount.fHolders.getD i default).fLease))]) (E := 3) (bytes := 8) (n := 1) rfl (by exact app_220) rfl rfl rfl rfl rfl rfl fun b54 => frS (α := Int) [(netP (rr.getD ((c.fAccount.fHolders.getD i default).fNode - 1).toNat default) c.fGroup c.fAccount.fKey (c.fAccount.fHolders.getD i default).fLease)] [[.int .i64 ((netP (rr.getD ((c.fAccount.fHolders.getD i default).fNode - 1).toNat default) c.fGroup c.fAccount.fKey (c.fAccount.fHolders.getD i default).fLease))]] rfl (fun S w h => ⟨⟨rfl, netP_in (hrw _ (getD_mem (by omega))) _ _ _⟩, trivial⟩) (Nat.le_of_ble_eq_true rfl)<|nl (odH rfl rfl rfl trivial (SubD.cons 0 rfl SubD.nil) (SubD.tail SubD.refl))
        trivial
      ·
        intro V _
        refine wkL [(40, rv), (54, V 14), (0, _), (1, _), (5, _), (8, _), (24, _), (25, _), (26, _)] [(⟨(V 5), (⟨(rr.getD (((c.fAccount.fHolders.getD i default).fNode - 1)).toNat default)⟩ : Pt (List TRight))⟩ : Atom), (⟨(V 6), (rr.getD (((c.fAccount.fHolders.getD i default).fNode - 1)).toNat default)⟩ : Atom), (⟨(V 14), [(netP (rr.getD ((c.fAccount.fHolders.getD i default).fNode - 1).toNat default) c.fGroup c.fAccount.fKey (c.fAccount.fHolders.getD i default).fLease)]⟩ : Atom), _, _, _, _, _] ⟨rfl, rfl, rfl, rfl, rfl, rfl, rfl, rfl, rfl, trivial⟩ SubD.refl ?_
        generalize V 14 = v54
        refine ap 1 2 rfl rfl rfl rfl app_220 (by have := partsL_len rr c i; simp only [List.length_cons, List.length_nil]; omega) (by have := partsL_len rr c i; simp only [List.length_cons, List.length_nil]; omega) rfl fun v55 => asg rfl rfl<|nl<|bN<|nx<|rg<|adI rfl rfl (inI (by omega) (by omega)) rfl<|mv rfl rfl<|nl<|dpQ ?_
        rw [show partsL rr c i ++ [(netP (rr.getD ((c.fAccount.fHolders.getD i default).fNode - 1).toNat default) c.fGroup c.fAccount.fKey (c.fAccount.fHolders.getD i default).fLease)] = partsL rr c (i + 1) from (partsL_T q39).symm]
        exact ag ((i + 1, v55) : Nat × Value) (by show i + 1 ≤ c.fAccount.fHolders.length; omega) (by show c.fAccount.fHolders.length - (i + 1) < c.fAccount.fHolders.length - i; omega) ⟨rfl, rfl, rfl, rfl, rfl, rfl, rfl, rfl, trivial⟩ rfl (SubD.cons 5 rfl (SubD.cons 6 rfl (SubD.cons 7 rfl SubD.nil)))
    ·
      refine sk<|bN<|nx<|rg<|adI rfl rfl (inI (by omega) (by omega)) rfl<|mv rfl rfl<|nl<|dpQ ?_
      rw [show partsL rr c i = partsL rr c (i + 1) from (partsL_F h39).symm]
      exact ag ((i + 1, rv) : Nat × Value) (by show i + 1 ≤ c.fAccount.fHolders.length; omega) (by show c.fAccount.fHolders.length - (i + 1) < c.fAccount.fHolders.length - i; omega) ⟨rfl, rfl, rfl, rfl, rfl, rfl, rfl, rfl, trivial⟩ rfl (SubD.cons 2 rfl (SubD.cons 3 rfl (SubD.cons 4 rfl SubD.nil)))
  ·
    obtain rfl : i = c.fAccount.fHolders.length := by omega
    refine ex<|tE<|tE<|bE<|nx<|sq<|sq<|rg<|mv rfl rfl<|fa rfl fld_70_5 rfl<|fa rfl fld_68_2 rfl<|ldB 1 rfl rfl one_3 rfl rfl<|cf (ofS_c _ _ _ (stOf ss c.fAccount.fLock.fHome) rfl) ok_154 rfl (SubD.cons 0 rfl SubD.nil) rfl fun y62 v62 h62 => ?_
    obtain ⟨e62, w62⟩ := h62
    subst e62
    obtain ⟨z62_0, z62_1, z62_2, z62_3, z62_4, z62_5⟩ := y62
    refine mv rfl rfl<|xt rfl rfl rfl<|xt rfl rfl rfl<|al zero_55 rfl fun b12 => gtL (q := z62_0.oneCell' = true) (fun S w h => oneCell_of_list (h _ (List.mem_of_getElem? (i := 0) rfl))) fun o_z62_0 => gtL (q := z62_1.oneCell' = true) (fun S w h => oneCell_of_list (h _ (List.mem_of_getElem? (i := 1) rfl))) fun o_z62_1 => gtL (q := z62_2.oneCell' = true) (fun S w h => oneCell_of_list (h _ (List.mem_of_getElem? (i := 2) rfl))) fun o_z62_2 => gtL (q := z62_3.oneCell' = true) (fun S w h => oneCell_of_list (h _ (List.mem_of_getElem? (i := 3) rfl))) fun o_z62_3 => gtL (q := z62_4.oneCell' = true) (fun S w h => oneCell_of_list (h _ (List.mem_of_getElem? (i := 4) rfl))) fun o_z62_4 => gtL (q := z62_5.oneCell' = true) (fun S w h => oneCell_of_list (h _ (List.mem_of_getElem? (i := 5) rfl))) fun o_z62_5 => stW 0 (us := (cState ((stOf ss c.fAccount.fLock.fHome)) z62_0 z62_1 z62_2 z62_3 z62_4 z62_5)) rfl rfl rfl row_55 (by simp only [List.all_cons, List.all_nil, Bool.and_true, o_z62_0, o_z62_1, o_z62_2, o_z62_3, o_z62_4, o_z62_5]; rfl) rfl<|asg rfl rfl<|nl<|nx ?_
    refine sq<|rg<|mv rfl rfl<|mv rfl rfl ?_
    apply jo [(8, _), (9, _), (12, _)] ⟨rfl, rfl, rfl, trivial⟩
    ·
      intro K71
      refine spA (i := 66) rfl (fun h66 => ?_) (fun h66 => ?_)
      ·
        exact gY rfl rfl rfl<|fa rfl fld_70_5 rfl<|gY rfl rfl rfl<|fa rfl fld_68_0 rfl<|gY rfl rfl rfl<|ldB 2 rfl rfl one_3 rfl rfl<|gY rfl rfl rfl<|neI rfl rfl rfl<|pkT rfl rfl rfl<|jA K71 h66 ⟨rfl, rfl, rfl, trivial⟩ SubD.refl
      ·
        exact gS (g := [_, _, _, _]) rfl<|pkF rfl rfl rfl<|jA0 K71 h66 ⟨rfl, rfl, rfl, trivial⟩ SubD.refl
    refine nl<|nx<|cdB rfl (fun h71 => ?_) (fun h71 => ?_)
    ·
      refine sq<|rg<|fa rfl fld_55_9 rfl<|ldB 0 rfl rfl one_52 rfl rfl<|fa rfl fld_70_5 rfl<|fa rfl fld_68_0 rfl<|ldB 2 rfl rfl one_3 rfl rfl<|fa rfl fld_70_5 rfl<|fa rfl fld_68_1 rfl<|ldB 2 rfl rfl one_3 rfl rfl<|cfv (findD_c _ _ _ _ h_c.1.2.2.2.2.2.1 h_c.1.2.2.2.2.2.2.1) ok_163 rfl (SubD.cons 3 rfl SubD.nil) rfl<|mv rfl rfl<|xt rfl rfl rfl<|xt rfl rfl rfl ?_
      refine al zero_126 rfl fun b14 => stW 0 (us := (cDeal ((findD (stOf ss c.fAccount.fLock.fHome).fDeals c.fAccount.fLock.fClient c.fAccount.fLock.fSeq)))) rfl rfl rfl row_126 rfl rfl<|asg rfl rfl<|nl<|nx<|sq<|rg<|mv rfl rfl<|mv rfl rfl ?_
      apply jo [(8, _), (9, _)] ⟨rfl, rfl, trivial⟩
      ·
        intro K89
        refine spA (i := 85) rfl (fun h85 => ?_) (fun h85 => ?_)
        ·
          exact gY rfl rfl rfl<|fa rfl fld_126_7 rfl<|gY rfl rfl rfl<|ldB 0 rfl rfl one_3 rfl rfl<|gY rfl rfl rfl<|eqI rfl rfl rfl<|pkT rfl rfl rfl<|jA K89 h85 ⟨rfl, rfl, trivial⟩ SubD.refl
        ·
          exact gS (g := [_, _, _]) rfl<|pkF rfl rfl rfl<|jA0 K89 h85 ⟨rfl, rfl, trivial⟩ SubD.refl
      refine nl<|nx<|cdB rfl (fun h89 => ?_) (fun h89 => ?_)
      ·
        refine rg<|mv rfl rfl<|fa rfl fld_70_5 rfl<|fa rfl fld_68_3 rfl<|ldB 3 rfl rfl one_3 rfl rfl<|bs1 (xs := [.tmp 93]) (us := [.int .i64 c.fAccount.fLock.fN]) (E := 3) (bytes := 8) (n := 1) rfl (by exact app_220) rfl rfl rfl rfl rfl rfl fun b94 => frS (α := Int) [c.fAccount.fLock.fN] [[.int .i64 (c.fAccount.fLock.fN)]] rfl (fun S w h => ⟨⟨rfl, h_c.1.2.2.2.2.2.2.2.2⟩, trivial⟩) (Nat.le_of_ble_eq_true rfl)<|ap 2 0 rfl rfl rfl rfl app_220 (by have := partsL_len rr c c.fAccount.fHolders.length; simp only [List.length_cons, List.length_nil]; omega) (by have := partsL_len rr c c.fAccount.fHolders.length; simp only [List.length_cons, List.length_nil]; omega) rfl fun v95 => asg rfl rfl<|nl<|nx<|sq<|mtC 2 rfl<|frR ?_
        refine rg<|mv rfl rfl<|cfv (sum_c _ _) ok_164 rfl (SubD.cons 0 rfl SubD.nil) rfl<|mv rfl rfl<|xt rfl rfl rfl<|xt rfl rfl rfl<|asg rfl rfl<|asg rfl rfl<|nl<|nx<|sq<|rg<|mv rfl rfl<|mv rfl rfl ?_
        refine eqI rfl rfl rfl<|mv rfl rfl ?_
        apply jo [(101, _)] ⟨rfl, trivial⟩
        ·
          intro K109
          refine spA (i := 104) rfl (fun h104 => ?_) (fun h104 => ?_)
          ·
            have p104 := of_decide_eq_true h104
            exact gY rfl rfl rfl<|fa rfl fld_70_1 rfl<|gY rfl rfl rfl<|ldM 2 (cSpan c.fAccount.fSpan) rfl rfl row_65 rfl rfl<|gY rfl rfl rfl<|mv rfl rfl<|gY rfl rfl rfl<|cfv (has_c _ _ h_c.1.2.1 (sumI_in _)) ok_165 rfl SubD.nil rfl<|pkT rfl rfl rfl<|jA K109 h104 ⟨rfl, trivial⟩ SubD.refl
          ·
            exact gS (g := [_, _, _, _]) rfl<|pkF rfl rfl rfl<|jA0 K109 h104 ⟨rfl, trivial⟩ SubD.refl
        exact asg rfl rfl<|asg rfl rfl<|nl<|nx<|rt<|dpQ<|dpQ<|dpQ<|dpQ<|fR2 () rfl rfl rfl (by rw [hasV, partsC, lockPart, if_pos h71, if_pos h89]; try rfl) rfl SubD.nil
      ·
        refine sk<|nx<|sq<|mtC 2 rfl<|frR<|rg<|mv rfl rfl<|cfv (sum_c _ _) ok_164 rfl (SubD.cons 0 rfl SubD.nil) rfl<|mv rfl rfl<|xt rfl rfl rfl<|xt rfl rfl rfl<|asg rfl rfl<|asg rfl rfl<|nl ?_
        refine nx<|sq<|rg<|mv rfl rfl<|mv rfl rfl<|eqI rfl rfl rfl<|mv rfl rfl ?_
        apply jo [(101, _)] ⟨rfl, trivial⟩
        ·
          intro K109
          refine spA (i := 104) rfl (fun h104 => ?_) (fun h104 => ?_)
          ·
            have p104 := of_decide_eq_true h104
            exact gY rfl rfl rfl<|fa rfl fld_70_1 rfl<|gY rfl rfl rfl<|ldM 2 (cSpan c.fAccount.fSpan) rfl rfl row_65 rfl rfl<|gY rfl rfl rfl<|mv rfl rfl<|gY rfl rfl rfl<|cfv (has_c _ _ h_c.1.2.1 (sumI_in _)) ok_165 rfl SubD.nil rfl<|pkT rfl rfl rfl<|jA K109 h104 ⟨rfl, trivial⟩ SubD.refl
          ·
            exact gS (g := [_, _, _, _]) rfl<|pkF rfl rfl rfl<|jA0 K109 h104 ⟨rfl, trivial⟩ SubD.refl
        exact asg rfl rfl<|asg rfl rfl<|nl<|nx<|rt<|dpQ<|dpQ<|dpQ<|dpQ<|fR2 () rfl rfl rfl (by rw [hasV, partsC, lockPart, if_pos h71, if_neg (by rw [h89]; decide), List.append_nil]; try rfl) rfl SubD.nil
    ·
      refine sk<|nx<|sq<|mtC 1 rfl<|frR<|rg<|mv rfl rfl<|cfv (sum_c _ _) ok_164 rfl (SubD.cons 0 rfl SubD.nil) rfl<|mv rfl rfl<|xt rfl rfl rfl<|xt rfl rfl rfl<|asg rfl rfl<|asg rfl rfl<|nl ?_
      refine nx<|sq<|rg<|mv rfl rfl<|mv rfl rfl<|eqI rfl rfl rfl<|mv rfl rfl ?_
      apply jo [(101, _)] ⟨rfl, trivial⟩
      ·
        intro K109
        refine spA (i := 104) rfl (fun h104 => ?_) (fun h104 => ?_)
        ·
          have p104 := of_decide_eq_true h104
          exact gY rfl rfl rfl<|fa rfl fld_70_1 rfl<|gY rfl rfl rfl<|ldM 1 (cSpan c.fAccount.fSpan) rfl rfl row_65 rfl rfl<|gY rfl rfl rfl<|mv rfl rfl<|gY rfl rfl rfl<|cfv (has_c _ _ h_c.1.2.1 (sumI_in _)) ok_165 rfl SubD.nil rfl<|pkT rfl rfl rfl<|jA K109 h104 ⟨rfl, trivial⟩ SubD.refl
        ·
          exact gS (g := [_, _, _, _]) rfl<|pkF rfl rfl rfl<|jA0 K109 h104 ⟨rfl, trivial⟩ SubD.refl
      exact asg rfl rfl<|asg rfl rfl<|nl<|nx<|rt<|dpQ<|dpQ<|dpQ<|fR2 () rfl rfl rfl (by rw [hasV, partsC, lockPart, if_neg (by rw [h71]; decide), List.append_nil]; try rfl) rfl SubD.nil
end Go.Proofs.YtmpoffijcfaalaaGreat

/- The library sorts: written by specs10.py. -/

namespace Go.Proofs.YtmpoffijcfaalaaGreat
open Go.Eng Go.YtmpoffijcfaalaaGreat

theorem swapR_c (v : Value) (xs : List Tcounted) (a b n : Nat) (hab : a + n ≤ b) (hb : b + n ≤ xs.length) : Fnc Tryz.prog 308 [v, .int .i64 (a : Int), .int .i64 (b : Int), .int .i64 (n : Int), (.func (.func 86) #[] #[])] [@row Tcounted rcounted 150 v xs] [] (fun (_ : Unit) _ => True) (fun _ _ => [@row Tcounted rcounted 150 v (swR a b n 0 xs)]) (fun _ _ => []) := by
  refine Fnc.proof Tryz.func308 rfl 38 rfl rfl fun X w => lenRC 0 rfl fun hlen => sq<|rg<|asg rfl rfl<|nl<|nx<|bk<|lpE (σ := Nat × List Tcounted) [(0, _), (1, _), (2, _), (3, _)] _ (fun s C => (10, .int .i64 (s.1 : Int)) :: C) (fun s => [@row Tcounted rcounted 150 v s.2, fz X w]) (fun _ Dc => Dc) (fun s => s.1 ≤ n ∧ s.2.length = xs.length ∧ swR a b (n - s.1) s.1 s.2 = swR a b n 0 xs) (fun s => n - s.1) (0, xs) ⟨rfl, rfl, rfl, rfl, trivial⟩ SubD.nil ⟨Nat.zero_le _, rfl, rfl⟩ ⟨rfl, rfl, rfl, rfl, rfl, trivial⟩ rfl SubD.nil ?_
  rintro ⟨i, ys⟩ ⟨hi, hl, hy⟩
  simp only at hi hl hy
  show WC _ _ _ [(10, .int .i64 ((i : Int))), (0, _), (1, _), (2, _), (3, _)] [@row Tcounted rcounted 150 v ys, fz X w] _
  refine sq<|sq<|rg<|mv rfl rfl<|mv rfl rfl<|ltI rfl rfl rfl<|nl<|nx<|cdP rfl (fun h13 => ?_) (fun h13 => ?_)
  ·
    refine sk<|nx<|sq<|bk ?_
    refine rgH ⟨fun q_ => ([[], [], [], [1, 2], [], [], [], [5, 6], [], [], [], [9, 10], [8, 11], [12], [], [], [], [15, 16], [14, 17], [18], [0, 3], [20, 13], [4, 7], [22, 19]] : List (List Nat)).getD q_ [], fun _ _ => True, fun q_ => ([fun _ => [], fun _ => [], fun _ => [], fun _ => [], fun _ => [], fun _ => [], fun _ => [], fun _ => [], fun _ => [], fun _ => [], fun _ => [], fun _ => [], fun _ => [], fun u => [(@Atom.mk Tcounted rcounted u (ys.getD ((b) + (i)) default))], fun _ => [], fun _ => [], fun _ => [], fun _ => [], fun _ => [], fun u => [(@Atom.mk Tcounted rcounted u (ys.getD ((a) + (i)) default))], fun _ => [], fun _ => [], fun _ => [], fun _ => []] : List (Value → List Atom)).getD q_ (fun _ => []), fun q_ => ([some (v), some (.int .i64 ((a : Int))), some (.int .i64 ((i : Int))), some (.int .i64 (((a : Int) + (i : Int)))), some (v), some (.int .i64 ((b : Int))), some (.int .i64 ((i : Int))), some (.int .i64 (((b : Int) + (i : Int)))), some (v), some (.int .i64 ((b : Int))), some (.int .i64 ((i : Int))), some (.int .i64 (((b : Int) + (i : Int)))), some ((elp v (((b) + (i)) * 11))), none, some (v), some (.int .i64 ((a : Int))), some (.int .i64 ((i : Int))), some (.int .i64 (((a : Int) + (i : Int)))), some ((elp v (((a) + (i)) * 11))), none, some ((elp v (((a) + (i)) * 11))), none, some ((elp v (((b) + (i)) * 11))), none] : List (Option Value)).getD q_ none, fun h_ => match h_ with
        | [] => fun vs_ => [row 150 v ys, fz X w]
        | [21] => fun vs_ => [row 150 v (ys.set ((a) + (i)) (ys.getD ((b) + (i)) default)), fz X w]
        | [21, 23] => fun vs_ => [row 150 v ((ys.set ((a) + (i)) (ys.getD ((b) + (i)) default)).set ((b) + (i)) (ys.getD ((a) + (i)) default)), fz X w]
        | _ => fun _ => [], [21, 23], [[], [21], [21, 23]]⟩ (fun V => [row 150 v ((ys.set ((a) + (i)) (ys.getD ((b) + (i)) default)).set ((b) + (i)) (ys.getD ((a) + (i)) default)), fz X w]) mixed rfl rfl (show AllP _ [[21, 23]] from ⟨fun _ => rfl, trivial⟩) ?_ ?_
    ·
      refine ⟨fun V De _ => (show AllP _ [[]] from ⟨?_, trivial⟩), ?_⟩
      ·
        exact mv rfl rfl<|nl (odH rfl rfl rfl rfl SubD.nil SubD.refl)
      refine ⟨fun V De _ => (show AllP _ [[]] from ⟨?_, trivial⟩), ?_⟩
      ·
        exact mv rfl rfl<|nl (odH rfl rfl rfl rfl SubD.nil SubD.refl)
      refine ⟨fun V De _ => (show AllP _ [[]] from ⟨?_, trivial⟩), ?_⟩
      ·
        exact mv rfl rfl<|nl (odH rfl rfl rfl rfl SubD.nil SubD.refl)
      refine ⟨fun V De _ => (show AllP _ [[]] from ⟨?_, trivial⟩), ?_⟩
      ·
        exact adI rfl rfl (inI (by omega) (by omega)) rfl<|nl (odH rfl rfl rfl rfl SubD.nil SubD.refl)
      refine ⟨fun V De _ => (show AllP _ [[], [21]] from ⟨?_, ?_, trivial⟩), ?_⟩
      ·
        exact mv rfl rfl<|nl (odH rfl rfl rfl rfl SubD.nil SubD.refl)
      ·
        exact mv rfl rfl<|nl (odH rfl rfl rfl rfl SubD.nil SubD.refl)
      refine ⟨fun V De _ => (show AllP _ [[], [21]] from ⟨?_, ?_, trivial⟩), ?_⟩
      ·
        exact mv rfl rfl<|nl (odH rfl rfl rfl rfl SubD.nil SubD.refl)
      ·
        exact mv rfl rfl<|nl (odH rfl rfl rfl rfl SubD.nil SubD.refl)
      refine ⟨fun V De _ => (show AllP _ [[], [21]] from ⟨?_, ?_, trivial⟩), ?_⟩
      ·
        exact mv rfl rfl<|nl (odH rfl rfl rfl rfl SubD.nil SubD.refl)
      ·
        exact mv rfl rfl<|nl (odH rfl rfl rfl rfl SubD.nil SubD.refl)
      refine ⟨fun V De _ => (show AllP _ [[], [21]] from ⟨?_, ?_, trivial⟩), ?_⟩
      ·
        exact adI rfl rfl (inI (by omega) (by omega)) rfl<|nl (odH rfl rfl rfl rfl SubD.nil SubD.refl)
      ·
        exact adI rfl rfl (inI (by omega) (by omega)) rfl<|nl (odH rfl rfl rfl rfl SubD.nil SubD.refl)
      refine ⟨fun V De _ => (show AllP _ [[]] from ⟨?_, trivial⟩), ?_⟩
      ·
        exact mv rfl rfl<|nl (odH rfl rfl rfl rfl SubD.nil SubD.refl)
      refine ⟨fun V De _ => (show AllP _ [[]] from ⟨?_, trivial⟩), ?_⟩
      ·
        exact mv rfl rfl<|nl (odH rfl rfl rfl rfl SubD.nil SubD.refl)
      refine ⟨fun V De _ => (show AllP _ [[]] from ⟨?_, trivial⟩), ?_⟩
      ·
        exact mv rfl rfl<|nl (odH rfl rfl rfl rfl SubD.nil SubD.refl)
      refine ⟨fun V De _ => (show AllP _ [[]] from ⟨?_, trivial⟩), ?_⟩
      ·
        exact adI rfl rfl (inI (by omega) (by omega)) rfl<|nl (odH rfl rfl rfl rfl SubD.nil SubD.refl)
      refine ⟨fun V De _ => (show AllP _ [[]] from ⟨?_, trivial⟩), ?_⟩
      ·
        exact ixN 0 ((b) + (i)) rfl rfl rfl slt_145 (by omega) (by omega) rfl<|nl (odH rfl rfl rfl rfl SubD.nil SubD.refl)
      refine ⟨fun V De _ => (show AllP _ [[]] from ⟨?_, trivial⟩), ?_⟩
      ·
        exact ldR (s := scounted) 0 ((b) + (i)) rfl rfl (getDE (d := default) (by omega)) row_150 rfl fun q29 w29 => nl (odH rfl rfl rfl trivial (SubD.cons 0 rfl SubD.nil) (SubD.tail (SubD.tail SubD.refl)))
      refine ⟨fun V De _ => (show AllP _ [[], [21]] from ⟨?_, ?_, trivial⟩), ?_⟩
      ·
        exact mv rfl rfl<|nl (odH rfl rfl rfl rfl SubD.nil SubD.refl)
      ·
        exact mv rfl rfl<|nl (odH rfl rfl rfl rfl SubD.nil SubD.refl)
      refine ⟨fun V De _ => (show AllP _ [[], [21]] from ⟨?_, ?_, trivial⟩), ?_⟩
      ·
        exact mv rfl rfl<|nl (odH rfl rfl rfl rfl SubD.nil SubD.refl)
      ·
        exact mv rfl rfl<|nl (odH rfl rfl rfl rfl SubD.nil SubD.refl)
      refine ⟨fun V De _ => (show AllP _ [[], [21]] from ⟨?_, ?_, trivial⟩), ?_⟩
      ·
        exact mv rfl rfl<|nl (odH rfl rfl rfl rfl SubD.nil SubD.refl)
      ·
        exact mv rfl rfl<|nl (odH rfl rfl rfl rfl SubD.nil SubD.refl)
      refine ⟨fun V De _ => (show AllP _ [[], [21]] from ⟨?_, ?_, trivial⟩), ?_⟩
      ·
        exact adI rfl rfl (inI (by omega) (by omega)) rfl<|nl (odH rfl rfl rfl rfl SubD.nil SubD.refl)
      ·
        exact adI rfl rfl (inI (by omega) (by omega)) rfl<|nl (odH rfl rfl rfl rfl SubD.nil SubD.refl)
      refine ⟨fun V De _ => (show AllP _ [[], [21]] from ⟨?_, ?_, trivial⟩), ?_⟩
      ·
        exact ixN 0 ((a) + (i)) rfl rfl rfl slt_145 (by omega) (by omega) rfl<|nl (odH rfl rfl rfl rfl SubD.nil SubD.refl)
      ·
        exact ixN 0 ((a) + (i)) rfl rfl rfl slt_145 (by omega) (by simp only [List.length_set]; omega) rfl<|nl (odH rfl rfl rfl rfl SubD.nil SubD.refl)
      refine ⟨fun V De _ => (show AllP _ [[]] from ⟨?_, trivial⟩), ?_⟩
      ·
        exact ldR (s := scounted) 0 ((a) + (i)) rfl rfl (getDE (d := default) (by omega)) row_150 rfl fun q35 w35 => nl (odH rfl rfl rfl trivial (SubD.cons 0 rfl SubD.nil) (SubD.tail (SubD.tail SubD.refl)))
      refine ⟨fun V De _ => (show AllP _ [[]] from ⟨?_, trivial⟩), ?_⟩
      ·
        exact ixN 0 ((a) + (i)) rfl rfl rfl slt_145 (by omega) (by omega) rfl<|nl (odH rfl rfl rfl rfl SubD.nil SubD.refl)
      refine ⟨fun V De _ => (show AllP _ [[]] from ⟨?_, trivial⟩), ?_⟩
      ·
        exact stA (s := scounted) 0 ((a) + (i)) 0 rfl rfl rfl rfl (by omega) row_150<|nl (od0H rfl rfl (SubD.tail SubD.refl))
      refine ⟨fun V De _ => (show AllP _ [[21]] from ⟨?_, trivial⟩), ?_⟩
      ·
        exact ixN 0 ((b) + (i)) rfl rfl rfl slt_145 (by omega) (by simp only [List.length_set]; omega) rfl<|nl (odH rfl rfl rfl rfl SubD.nil SubD.refl)
      refine ⟨fun V De _ => (show AllP _ [[21]] from ⟨?_, trivial⟩), ?_⟩
      ·
        exact stA (s := scounted) 0 ((b) + (i)) 0 rfl rfl rfl rfl (by simp only [List.length_set]; omega) row_150<|nl (od0H rfl rfl (SubD.tail SubD.refl))
      trivial
    ·
      intro V _
      refine wkQ (L := [row 150 v ((ys.set ((a) + (i)) (ys.getD ((b) + (i)) default)).set ((b) + (i)) (ys.getD ((a) + (i)) default)), fz X w]) [(0, _), (1, _), (2, _), (3, _), (10, _)] [] ⟨rfl, rfl, rfl, rfl, rfl, trivial⟩ SubD.nil<|bN<|nx<|rg<|mv rfl rfl<|adI rfl rfl (inI (by omega) (by omega)) rfl<|asg rfl rfl<|nl ?_
      exact ag ((i + 1, swapL ys (a + i) (b + i)) : Nat × List Tcounted) ⟨by show i + 1 ≤ n; omega, (swapL_len _ _ _).trans hl, by rw [show n - i = n - (i + 1) + 1 by omega] at hy; exact hy⟩ (by show n - (i + 1) < n - i; omega) ⟨rfl, rfl, rfl, rfl, rfl, trivial⟩ rfl SubD.nil
  ·
    have e : n - i = 0 := by omega
    rw [e] at hy
    have hy : ys = swR a b n 0 xs := hy
    subst hy
    exact ex<|tE<|tE<|bE<|fR0N () rfl trivial rfl SubD.nil

theorem insS_c (v : Value) (xs : List Tcounted) (a b : Nat) (hb : b ≤ xs.length) (ha : a ≤ b) : Fnc Tryz.prog 218 [v, .int .i64 (a : Int), .int .i64 (b : Int), (.func (.func 86) #[] #[])] [@row Tcounted rcounted 150 v xs] [] (fun (_ : Unit) _ => True) (fun _ _ => [@row Tcounted rcounted 150 v (insP ltC a b xs)]) (fun _ _ => []) := by
  refine Fnc.proof Tryz.func218 rfl 53 rfl rfl fun X w => lenRC 0 rfl fun hlen => sq<|rg<|mv rfl rfl<|adI rfl rfl (inI (by omega) (by omega)) rfl<|asg rfl rfl<|nl<|nx<|bk<|lpE (σ := Nat × List Tcounted) [(0, _), (1, _), (2, _), (3, _)] _ (fun s C => (8, .int .i64 (s.1 : Int)) :: C) (fun s => [@row Tcounted rcounted 150 v s.2, fz X w]) (fun _ Dc => Dc) (fun s => a + 1 ≤ s.1 ∧ (s.1 ≤ b ∨ s.1 = a + 1) ∧ s.2.length = xs.length ∧ insI ltC a (b - s.1) s.1 s.2 = insP ltC a b xs) (fun s => b - s.1) (a + 1, xs) ⟨rfl, rfl, rfl, rfl, trivial⟩ SubD.nil ⟨Nat.le_refl _, .inr rfl, rfl, rfl⟩ ⟨rfl, rfl, rfl, rfl, rfl, trivial⟩ rfl SubD.nil ?_
  rintro ⟨i, ys⟩ ⟨hi0, hi, hl, hy⟩
  simp only at hi0 hi hl hy
  show WC _ _ _ [(8, .int .i64 ((i : Int))), (0, _), (1, _), (2, _), (3, _)] [@row Tcounted rcounted 150 v ys, fz X w] _
  refine sq<|sq<|rg<|mv rfl rfl<|mv rfl rfl<|ltI rfl rfl rfl<|nl<|nx<|cdP rfl (fun h14 => ?_) (fun h14 => ?_)
  ·
    refine sk<|nx<|sq<|bk<|sq<|rg<|mv rfl rfl<|asg rfl rfl<|nl<|nx<|bk<|lpE (σ := Nat × List Tcounted) [(0, _), (1, _), (2, _), (3, _), (8, _)] _ (fun s C => (9, .int .i64 (s.1 : Int)) :: C) (fun s => [@row Tcounted rcounted 150 v s.2, fz X w]) (fun _ Dc => Dc) (fun s => a ≤ s.1 ∧ s.1 ≤ i ∧ s.2.length = xs.length ∧ insJ ltC a i ys = insJ ltC a s.1 s.2) (fun s => s.1) (i, ys) ⟨rfl, rfl, rfl, rfl, rfl, trivial⟩ SubD.nil ⟨by show a ≤ i; omega, Nat.le_refl _, hl, rfl⟩ ⟨rfl, rfl, rfl, rfl, rfl, rfl, trivial⟩ rfl SubD.nil ?_
    rintro ⟨j, zs⟩ ⟨hj0, hj, hlz, hz⟩
    simp only at hj0 hj hlz hz
    show WC _ _ _ [(9, .int .i64 ((j : Int))), (0, _), (1, _), (2, _), (3, _), (8, _)] [@row Tcounted rcounted 150 v zs, fz X w] _
    refine sq<|sq<|rgQ mixed (by kernel_rfl)<|mv rfl rfl<|mv rfl rfl<|gtI rfl rfl rfl<|mv rfl rfl ?_
    apply jo [(0, _), (1, _), (2, _), (3, _), (8, _), (9, _)] ⟨rfl, rfl, rfl, rfl, rfl, rfl, trivial⟩
    ·
      intro K34
      refine spA (i := 21) rfl (fun h21 => ?_) (fun h21 => ?_)
      ·
        have p21 := of_decide_eq_true h21
        refine gY rfl rfl rfl<|mv rfl rfl<|gY rfl rfl rfl<|mv rfl rfl<|gY rfl rfl rfl<|mv rfl rfl<|gY rfl rfl rfl<|ixN 0 (j) rfl rfl rfl slt_145 (by omega) (by omega) rfl<|gY rfl rfl rfl<|ldR (s := scounted) 0 (j) rfl rfl (getDE (d := default) (by omega)) row_150 rfl fun q26 w26 => gY rfl rfl rfl<|mv rfl rfl<|gY rfl rfl rfl<|mv rfl rfl ?_
        exact gY rfl rfl rfl<|sbI rfl rfl (inI (by omega) (by omega)) rfl<|gY rfl rfl rfl<|ixN 0 ((j) - 1) rfl rfl rfl slt_145 (by omega) (by omega) rfl<|gY rfl rfl rfl<|ldR (s := scounted) 0 ((j) - 1) rfl rfl (getDE (d := default) (by omega)) row_150 rfl fun q31 w31 => gY rfl rfl rfl<|cfqc (cmpC_c _ _ _ _ w26 w31) ok_86 rfl rfl rfl (SubD.cons 3 rfl (SubD.cons 1 rfl SubD.nil)) rfl<|gY rfl rfl rfl<|ltI rfl rfl rfl<|pkT rfl rfl rfl<|jA K34 h21 ⟨rfl, rfl, rfl, rfl, rfl, rfl, trivial⟩ (SubD.tail (SubD.tail (SubD.tail (SubD.tail SubD.refl))))
      ·
        exact gS (g := [_, _, _, _, _, _, _, _, _, _, _, _]) rfl<|pkF rfl rfl rfl<|jA0 K34 h21 ⟨rfl, rfl, rfl, rfl, rfl, rfl, trivial⟩ SubD.refl
    refine nlQ<|nx<|cdB rfl (fun h34 => ?_) (fun h34 => ?_)
    ·
      have q34 : (j : Int) > a ∧ cmpC (zs.getD j default) (zs.getD (j - 1) default) < 0 := by
        simpa only [Bool.and_eq_true, decide_eq_true_eq] using h34
      refine sk<|nx<|sq<|bk ?_
      refine rgH ⟨fun q_ => ([[], [], [], [], [3], [], [], [6], [5, 7], [8], [], [], [10, 11], [12], [0, 1], [14, 9], [2, 4], [16, 13]] : List (List Nat)).getD q_ [], fun _ _ => True, fun q_ => ([fun _ => [], fun _ => [], fun _ => [], fun _ => [], fun _ => [], fun _ => [], fun _ => [], fun _ => [], fun _ => [], fun u => [(@Atom.mk Tcounted rcounted u (zs.getD ((j) - 1) default))], fun _ => [], fun _ => [], fun _ => [], fun u => [(@Atom.mk Tcounted rcounted u (zs.getD (j) default))], fun _ => [], fun _ => [], fun _ => [], fun _ => []] : List (Value → List Atom)).getD q_ (fun _ => []), fun q_ => ([some (v), some (.int .i64 ((j : Int))), some (v), some (.int .i64 ((j : Int))), some (.int .i64 (((j : Int) - 1))), some (v), some (.int .i64 ((j : Int))), some (.int .i64 (((j : Int) - 1))), some ((elp v (((j) - 1) * 11))), none, some (v), some (.int .i64 ((j : Int))), some ((elp v ((j) * 11))), none, some ((elp v ((j) * 11))), none, some ((elp v (((j) - 1) * 11))), none] : List (Option Value)).getD q_ none, fun h_ => match h_ with
          | [] => fun vs_ => [row 150 v zs, fz X w]
          | [15] => fun vs_ => [row 150 v (zs.set (j) (zs.getD ((j) - 1) default)), fz X w]
          | [15, 17] => fun vs_ => [row 150 v ((zs.set (j) (zs.getD ((j) - 1) default)).set ((j) - 1) (zs.getD (j) default)), fz X w]
          | _ => fun _ => [], [15, 17], [[], [15], [15, 17]]⟩ (fun V => [row 150 v ((zs.set (j) (zs.getD ((j) - 1) default)).set ((j) - 1) (zs.getD (j) default)), fz X w]) mixed rfl rfl (show AllP _ [[15, 17]] from ⟨fun _ => rfl, trivial⟩) ?_ ?_
      ·
        refine ⟨fun V De _ => (show AllP _ [[]] from ⟨?_, trivial⟩), ?_⟩
        ·
          exact mv rfl rfl<|nl (odH rfl rfl rfl rfl SubD.nil SubD.refl)
        refine ⟨fun V De _ => (show AllP _ [[]] from ⟨?_, trivial⟩), ?_⟩
        ·
          exact mv rfl rfl<|nl (odH rfl rfl rfl rfl SubD.nil SubD.refl)
        refine ⟨fun V De _ => (show AllP _ [[], [15]] from ⟨?_, ?_, trivial⟩), ?_⟩
        ·
          exact mv rfl rfl<|nl (odH rfl rfl rfl rfl SubD.nil SubD.refl)
        ·
          exact mv rfl rfl<|nl (odH rfl rfl rfl rfl SubD.nil SubD.refl)
        refine ⟨fun V De _ => (show AllP _ [[], [15]] from ⟨?_, ?_, trivial⟩), ?_⟩
        ·
          exact mv rfl rfl<|nl (odH rfl rfl rfl rfl SubD.nil SubD.refl)
        ·
          exact mv rfl rfl<|nl (odH rfl rfl rfl rfl SubD.nil SubD.refl)
        refine ⟨fun V De _ => (show AllP _ [[], [15]] from ⟨?_, ?_, trivial⟩), ?_⟩
        ·
          exact sbI rfl rfl (inI (by omega) (by omega)) rfl<|nl (odH rfl rfl rfl rfl SubD.nil SubD.refl)
        ·
          exact sbI rfl rfl (inI (by omega) (by omega)) rfl<|nl (odH rfl rfl rfl rfl SubD.nil SubD.refl)
        refine ⟨fun V De _ => (show AllP _ [[]] from ⟨?_, trivial⟩), ?_⟩
        ·
          exact mv rfl rfl<|nl (odH rfl rfl rfl rfl SubD.nil SubD.refl)
        refine ⟨fun V De _ => (show AllP _ [[]] from ⟨?_, trivial⟩), ?_⟩
        ·
          exact mv rfl rfl<|nl (odH rfl rfl rfl rfl SubD.nil SubD.refl)
        refine ⟨fun V De _ => (show AllP _ [[]] from ⟨?_, trivial⟩), ?_⟩
        ·
          exact sbI rfl rfl (inI (by omega) (by omega)) rfl<|nl (odH rfl rfl rfl rfl SubD.nil SubD.refl)
        refine ⟨fun V De _ => (show AllP _ [[]] from ⟨?_, trivial⟩), ?_⟩
        ·
          exact ixN 0 ((j) - 1) rfl rfl rfl slt_145 (by omega) (by omega) rfl<|nl (odH rfl rfl rfl rfl SubD.nil SubD.refl)
        refine ⟨fun V De _ => (show AllP _ [[]] from ⟨?_, trivial⟩), ?_⟩
        ·
          exact ldR (s := scounted) 0 ((j) - 1) rfl rfl (getDE (d := default) (by omega)) row_150 rfl fun q46 w46 => nl (odH rfl rfl rfl trivial (SubD.cons 0 rfl SubD.nil) (SubD.tail (SubD.tail SubD.refl)))
        refine ⟨fun V De _ => (show AllP _ [[], [15]] from ⟨?_, ?_, trivial⟩), ?_⟩
        ·
          exact mv rfl rfl<|nl (odH rfl rfl rfl rfl SubD.nil SubD.refl)
        ·
          exact mv rfl rfl<|nl (odH rfl rfl rfl rfl SubD.nil SubD.refl)
        refine ⟨fun V De _ => (show AllP _ [[], [15]] from ⟨?_, ?_, trivial⟩), ?_⟩
        ·
          exact mv rfl rfl<|nl (odH rfl rfl rfl rfl SubD.nil SubD.refl)
        ·
          exact mv rfl rfl<|nl (odH rfl rfl rfl rfl SubD.nil SubD.refl)
        refine ⟨fun V De _ => (show AllP _ [[], [15]] from ⟨?_, ?_, trivial⟩), ?_⟩
        ·
          exact ixN 0 (j) rfl rfl rfl slt_145 (by omega) (by omega) rfl<|nl (odH rfl rfl rfl rfl SubD.nil SubD.refl)
        ·
          exact ixN 0 (j) rfl rfl rfl slt_145 (by omega) (by simp only [List.length_set]; omega) rfl<|nl (odH rfl rfl rfl rfl SubD.nil SubD.refl)
        refine ⟨fun V De _ => (show AllP _ [[]] from ⟨?_, trivial⟩), ?_⟩
        ·
          exact ldR (s := scounted) 0 (j) rfl rfl (getDE (d := default) (by omega)) row_150 rfl fun q50 w50 => nl (odH rfl rfl rfl trivial (SubD.cons 0 rfl SubD.nil) (SubD.tail (SubD.tail SubD.refl)))
        refine ⟨fun V De _ => (show AllP _ [[]] from ⟨?_, trivial⟩), ?_⟩
        ·
          exact ixN 0 (j) rfl rfl rfl slt_145 (by omega) (by omega) rfl<|nl (odH rfl rfl rfl rfl SubD.nil SubD.refl)
        refine ⟨fun V De _ => (show AllP _ [[]] from ⟨?_, trivial⟩), ?_⟩
        ·
          exact stA (s := scounted) 0 (j) 0 rfl rfl rfl rfl (by omega) row_150<|nl (od0H rfl rfl (SubD.tail SubD.refl))
        refine ⟨fun V De _ => (show AllP _ [[15]] from ⟨?_, trivial⟩), ?_⟩
        ·
          exact ixN 0 ((j) - 1) rfl rfl rfl slt_145 (by omega) (by simp only [List.length_set]; omega) rfl<|nl (odH rfl rfl rfl rfl SubD.nil SubD.refl)
        refine ⟨fun V De _ => (show AllP _ [[15]] from ⟨?_, trivial⟩), ?_⟩
        ·
          exact stA (s := scounted) 0 ((j) - 1) 0 rfl rfl rfl rfl (by simp only [List.length_set]; omega) row_150<|nl (od0H rfl rfl (SubD.tail SubD.refl))
        trivial
      ·
        intro V _
        refine wkQ (L := [row 150 v ((zs.set (j) (zs.getD ((j) - 1) default)).set ((j) - 1) (zs.getD (j) default)), fz X w]) [(0, _), (1, _), (2, _), (3, _), (8, _), (9, _)] [] ⟨rfl, rfl, rfl, rfl, rfl, rfl, trivial⟩ SubD.nil<|bN<|nx<|rg<|mv rfl rfl<|sbE (r := ((j - 1 : Nat) : Int)) rfl rfl (by omega) (inI (by omega) (by omega)) rfl<|asg rfl rfl<|nl ?_
        exact ag ((j - 1, swapL zs j (j - 1)) : Nat × List Tcounted) ⟨by show a ≤ j - 1; omega, by show j - 1 ≤ i; omega, (swapL_len _ _ _).trans hlz, by rw [hz, insJ_eq, if_pos ⟨by omega, decide_eq_true q34.2⟩]⟩ (by show j - 1 < j; omega) ⟨rfl, rfl, rfl, rfl, rfl, rfl, trivial⟩ rfl SubD.nil
    ·
      refine ex<|tE<|tE<|bE<|bN<|nx<|rg<|mv rfl rfl<|adI rfl rfl (inI (by omega) (by omega)) rfl<|asg rfl rfl<|nl ?_
      exact ag ((i + 1, zs) : Nat × List Tcounted) ⟨by show a + 1 ≤ i + 1; omega, .inl (by show i + 1 ≤ b; omega), hlz, by rw [show b - i = b - (i + 1) + 1 by omega] at hy; rw [← hy]; show insI ltC a (b - (i + 1)) (i + 1) zs = insI ltC a (b - (i + 1)) (i + 1) (insJ ltC a i ys); rw [hz]; exact congrArg (insI ltC a (b - (i + 1)) (i + 1)) (by rw [insJ_eq, if_neg (fun q => by rw [Bool.and_eq_false_iff, decide_eq_false_iff_not, decide_eq_false_iff_not] at h34; rcases h34 with h | h; exact h (by omega); exact h (of_decide_eq_true q.2))])⟩ (by show b - (i + 1) < b - i; omega) ⟨rfl, rfl, rfl, rfl, rfl, trivial⟩ rfl SubD.nil
  ·
    have e : b - i = 0 := by omega
    rw [e] at hy
    have hy : ys = insP ltC a b xs := hy
    subst hy
    exact ex<|tE<|tE<|bE<|fR0N () rfl trivial rfl SubD.nil

theorem rot_c (v : Value) (xs : List Tcounted) (a m b : Nat) (ha : a < m) (hm : m < b) (hb : b ≤ xs.length) : Fnc Tryz.prog 276 [v, .int .i64 (a : Int), .int .i64 (m : Int), .int .i64 (b : Int), (.func (.func 86) #[] #[])] [@row Tcounted rcounted 150 v xs] [] (fun (_ : Unit) _ => True) (fun _ _ => [@row Tcounted rcounted 150 v (rotP a m b xs)]) (fun _ _ => []) := by
  refine Fnc.proof Tryz.func276 rfl 58 rfl rfl fun X w => lenRC 0 rfl fun hlen => sq<|rg<|mv rfl rfl<|mv rfl rfl<|sbE (r := ((m - a : Nat) : Int)) rfl rfl (by omega) (inI (by omega) (by omega)) rfl<|asg rfl rfl<|nl<|nx<|sq<|rg<|mv rfl rfl<|mv rfl rfl ?_
  refine sbE (r := ((b - m : Nat) : Int)) rfl rfl (by omega) (inI (by omega) (by omega)) rfl<|asg rfl rfl<|nl<|nx<|sq<|bk<|lpE (σ := Nat × Nat × Nat × List Tcounted) [(0, _), (2, _), (4, _)] _ (fun s C => (10, .int .i64 (s.2.1 : Int)) :: (11, .int .i64 (s.2.2.1 : Int)) :: C) (fun s => [@row Tcounted rcounted 150 v s.2.2.2, fz X w]) (fun _ Dc => Dc) (fun s => 0 < s.2.1 ∧ 0 < s.2.2.1 ∧ s.2.1 ≤ m ∧ m + s.2.2.1 ≤ xs.length ∧ s.2.2.2.length = xs.length ∧ s.2.1 + s.2.2.1 ≤ s.1 ∧ rotF m s.1 s.2.1 s.2.2.1 s.2.2.2 = rotP a m b xs) (fun s => s.2.1 + s.2.2.1) (b - a, m - a, b - m, xs) ⟨rfl, rfl, rfl, trivial⟩ SubD.nil ⟨by show 0 < m - a; omega, by show 0 < b - m; omega, by show m - a ≤ m; omega, by show m + (b - m) ≤ xs.length; omega, rfl, by show m - a + (b - m) ≤ b - a; omega, rfl⟩ ⟨rfl, rfl, rfl, rfl, rfl, trivial⟩ rfl SubD.nil ?_
  rintro ⟨f, i, j, ys⟩ ⟨hi, hj, him, hjm, hl, hf, hy⟩
  simp only at hi hj him hjm hl hf hy
  show WC _ _ _ [(10, .int .i64 ((i : Int))), (11, .int .i64 ((j : Int))), (0, _), (2, _), (4, _)] [@row Tcounted rcounted 150 v ys, fz X w] _
  refine sq<|sq<|rg<|mv rfl rfl<|mv rfl rfl<|neI rfl rfl rfl<|nl<|nx<|cdN rfl (fun h20 => ?_) (fun h20 => ?_)
  ·
    refine sk<|nx<|bk<|sq<|rg<|mv rfl rfl<|mv rfl rfl<|gtI rfl rfl rfl<|nl<|nx<|cdP rfl (fun h23 => ?_) (fun h23 => ?_)
    ·
      refine sq<|rg<|mv rfl rfl<|mv rfl rfl<|mv rfl rfl<|sbE (r := ((m - i : Nat) : Int)) rfl rfl (by omega) (inI (by omega) (by omega)) rfl<|mv rfl rfl<|mv rfl rfl<|mv rfl rfl<|cf1 0 (swapR_c v ys (m - i) m j (by omega) (by omega)) ok_308 rfl rfl SubD.nil rfl fun _ v31 _ => nl<|nx<|rg<|mv rfl rfl ?_
      refine mv rfl rfl<|sbE (r := ((i - j : Nat) : Int)) rfl rfl (by omega) (inI (by omega) (by omega)) rfl<|asg rfl rfl<|nl<|bN ?_
      exact ag ((f - 1, i - j, j, swR (m - i) m j 0 ys) : Nat × Nat × Nat × List Tcounted) ⟨by show 0 < i - j; omega, hj, by show i - j ≤ m; omega, hjm, (swR_len ..).trans hl, by show i - j + j ≤ f - 1; omega, by rw [rotF_gt m (by omega) (by omega)] at hy; exact hy⟩ (by show i - j + j < i + j; omega) ⟨rfl, rfl, rfl, rfl, rfl, trivial⟩ rfl SubD.nil
    ·
      refine sq<|rg<|mv rfl rfl<|mv rfl rfl<|mv rfl rfl<|sbE (r := ((m - i : Nat) : Int)) rfl rfl (by omega) (inI (by omega) (by omega)) rfl<|mv rfl rfl<|mv rfl rfl<|adI rfl rfl (inI (by omega) (by omega)) rfl<|mv rfl rfl<|sbE (r := ((m + j - i : Nat) : Int)) rfl rfl (by omega) (inI (by omega) (by omega)) rfl<|mv rfl rfl<|mv rfl rfl<|cf1 0 (swapR_c v ys (m - i) (m + j - i) i (by omega) (by omega)) ok_308 rfl rfl SubD.nil rfl fun _ v46 _ => ?_
      refine nl<|nx<|rg<|mv rfl rfl<|mv rfl rfl<|sbE (r := ((j - i : Nat) : Int)) rfl rfl (by omega) (inI (by omega) (by omega)) rfl<|asg rfl rfl<|nl<|bN ?_
      exact ag ((f - 1, i, j - i, swR (m - i) (m + j - i) i 0 ys) : Nat × Nat × Nat × List Tcounted) ⟨hi, by show 0 < j - i; omega, him, by show m + (j - i) ≤ xs.length; omega, (swR_len ..).trans hl, by show i + (j - i) ≤ f - 1; omega, by rw [rotF_lt m (by omega) (by omega)] at hy; exact hy⟩ (by show i + (j - i) < i + j; omega) ⟨rfl, rfl, rfl, rfl, rfl, trivial⟩ rfl SubD.nil
  ·
    have e : j = i := by omega
    subst e
    rw [rotF_end] at hy
    refine ex<|tE<|tE<|bE<|nx<|rg<|mv rfl rfl<|mv rfl rfl<|mv rfl rfl<|sbE (r := ((m - j : Nat) : Int)) rfl rfl (by omega) (inI (by omega) (by omega)) rfl<|mv rfl rfl<|mv rfl rfl<|mv rfl rfl<|cf1 0 (swapR_c v ys (m - j) m j (by omega) (by omega)) ok_308 rfl rfl SubD.nil rfl fun _ v57 _ => ?_
    refine nl ?_
    rw [hy]
    exact fR0N () rfl trivial rfl SubD.nil
end Go.Proofs.YtmpoffijcfaalaaGreat
