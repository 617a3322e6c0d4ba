/- Walks: written by specs1.py. -/
import Derived.Test.YtcjaodddckbciaaCodecW10
namespace Go.Proofs.Ytcjaodddckbciaa
open Go.Eng Go.Ytcjaodddckbciaa

theorem encode_c (nodes : Int) (hni : InI nodes) (lv : Value) (l : List Ev) : Fnc Try.prog 5 [.int .i64 nodes, lv] [] [⟨lv, l⟩] (fun (y : Value) v => v = .tuple #[y, .int .i64 ((encS nodes l).2 : Int)]) (fun _ _ => []) (fun y _ => [⟨y, (encS nodes l).1⟩]) := by
  refine Fnc.proof Try.func5 rfl 104 rfl rfl fun X w => ?_
  refine sq ?_
  refine rg ?_
  refine asg rfl rfl ?_
  refine asg rfl rfl ?_
  refine nl ?_
  refine nx ?_
  refine sq ?_
  refine sq ?_
  refine rg ?_
  refine mv rfl rfl ?_
  refine cfv (known_c _ hni) ok_11 rfl SubD.nil rfl ?_
  refine nt rfl rfl ?_
  refine nl ?_
  refine nx ?_
  refine cdB rfl (fun h13 => ?_) (fun h13 => ?_)
  ·
    refine sq ?_
    refine rg ?_
    refine asg rfl rfl ?_
    refine asg rfl rfl ?_
    refine nl ?_
    refine nx ?_
    refine rt ?_
    refine tR ?_
    refine adQ ⟨.slice none 0 0, ([] : List UInt8)⟩ (fun S w _ => nil_list S w) ?_
    rw [show encS nodes l = ([], 1) from by unfold encS; rw [if_pos (by simpa using h13)]]
    exact fR2 (.slice none 0 0) rfl rfl rfl rfl rfl (SubD.cons 0 rfl SubD.nil)
  ·
    have hkn : known nodes = true := by simpa using h13
    refine sk ?_
    refine nx ?_
    refine sq ?_
    refine sq ?_
    refine rg ?_
    refine mv rfl rfl ?_
    refine lnP 0 rfl rfl Try.underlying22 rfl fun l15 => ?_
    refine gtI rfl rfl rfl ?_
    refine nl ?_
    refine nx ?_
    refine cdP rfl (fun h16 => ?_) (fun h16 => ?_)
    ·
      refine sq ?_
      refine rg ?_
      refine asg rfl rfl ?_
      refine asg rfl rfl ?_
      refine nl ?_
      refine nx ?_
      refine rt ?_
      refine tR ?_
      refine adQ ⟨.slice none 0 0, ([] : List UInt8)⟩ (fun S w _ => nil_list S w) ?_
      rw [show encS nodes l = ([], 22) from by unfold encS; rw [if_neg (by rw [hkn]; decide), if_pos (by omega)]]
      exact fR2 (.slice none 0 0) rfl rfl rfl rfl rfl (SubD.cons 0 rfl SubD.nil)
    ·
      refine sk ?_
      refine nx ?_
      refine sq ?_
      refine rg ?_
      refine mv rfl rfl ?_
      refine cv Try.underlying3 Try.underlying5 rfl (known_u8 hkn) rfl ?_
      refine bs1 (xs := [.tmp 18]) (by rfl) app_23 (by rfl) (by rfl) (by rfl) (by rfl) (by rfl) (by rfl) fun b19 => ?_
      refine rwB (α := UInt8) [UInt8.ofNat nodes.toNat] [[_]] rfl rfl (fun _ _ _ => by exact ⟨⟨rfl, trivial⟩, trivial⟩) rfl ?_
      refine al zero_23 rfl fun b6 => ?_
      refine stR 0 1 rfl rfl rfl rfl one_23 (Nat.lt_of_lt_of_le (Nat.lt_succ_self _) (Nat.le_of_ble_eq_true rfl)) ?_
      refine nl ?_
      refine nx ?_
      refine sq ?_
      refine rg ?_
      refine mf (xs := [.tmp 6]) rfl rfl ?_
      refine asg rfl rfl ?_
      refine nl ?_
      refine nx ?_
      refine sq ?_
      refine sq ?_
      refine rg ?_
      refine mv rfl rfl ?_
      refine lnP 0 rfl rfl Try.underlying22 rfl fun l22 => ?_
      refine mv rfl rfl ?_
      refine nl ?_
      refine nx ?_
      refine bk ?_
      refine lp (σ := Nat × Value × List UInt8) (fun s => [(6, .pointer (some ⟨b6, 0, none⟩)), (7, .func (.func 12) #[] #[.pointer (some ⟨b6, 0, none⟩)]), (21, lv), (22, .int .i64 (l.length : Int)), (23, .int .i64 (s.1 : Int))]) (fun s => [bl b6 23 [s.2.1], row 5 s.2.1 s.2.2, fz X w]) (fun _ => [⟨lv, l⟩]) (fun s => s.1 ≤ l.length ∧ s.2.2.length ≤ 1 + 1000 * s.1 ∧ encL [UInt8.ofNat nodes.toNat] l = encL s.2.2 (l.drop s.1)) (fun s => l.length - s.1) (0, _, [UInt8.ofNat nodes.toNat]) ⟨Nat.zero_le _, Nat.le_refl _, rfl⟩ ⟨rfl, rfl, rfl, rfl, rfl, trivial⟩ rfl (SubD.cons 0 rfl SubD.nil) ?_
      rintro ⟨i, rv, acc⟩ ⟨g1, g2, g3⟩
      simp only at g1 g2 g3
      refine wkC (L := [bl b6 23 [rv], row 5 rv (acc), fz X w]) [(6, .pointer (some ⟨b6, 0, none⟩)), (7, .func (.func 12) #[] #[.pointer (some ⟨b6, 0, none⟩)]), (21, lv), (22, .int .i64 (l.length : Int)), (23, .int .i64 (i : Int))] [⟨lv, l⟩] ⟨rfl, rfl, rfl, rfl, rfl, trivial⟩ SubD.refl ?_
      refine sq ?_
      refine rg ?_
      refine ltI rfl rfl rfl ?_
      refine nl ?_
      refine nx ?_
      refine sq ?_
      refine cdP rfl (fun h24 => ?_) (fun h24 => ?_)
      ·
        obtain ⟨e, he⟩ : ∃ e, l[i]? = some e := ⟨_, getE (by omega)⟩
        refine sk ?_
        refine nx ?_
        refine sq ?_
        refine bk ?_
        refine sq ?_
        refine rg ?_
        refine ixP 0 rfl rfl rfl slt_22 (by omega) he rfl fun v25 => ?_
        refine ldS 0 rfl rfl row_35 rfl fun q26 w26 => ?_
        obtain ⟨i1, i2, i3, i4, i5, o1, o2, o3, o4, o5, o6⟩ : Ev.wf e := w26
        have hw : e.wf := ⟨i1, i2, i3, i4, i5, o1, o2, o3, o4, o5, o6⟩
        refine gtL (q := Value.oneCell' q26 = true) (fun S w h => oneCell_of_list (h _ (List.mem_of_getElem? (i := 1) rfl))) fun hk => ?_
        refine gtL (q := ∀ x ∈ e.keep, InI x) (fun S w h => ints_in (h _ (List.mem_of_getElem? (i := 1) rfl))) fun hki => ?_
        refine al zero_35 rfl fun b9 => ?_
        refine stM 0 (us := evCells e q26) rfl rfl rfl row_35 (evCells_one _ hk) (Nat.le_of_ble_eq_true rfl) ?_
        refine nl ?_
        refine nx ?_
        refine sq ?_
        refine rg ?_
        refine fa rfl fld_35_5 rfl ?_
        refine ldM 0 (opCells e.op) rfl rfl row_32 rfl rfl ?_
        refine al zero_32 rfl fun b10 => ?_
        refine stM 0 (us := opCells e.op) rfl rfl rfl row_32 rfl (Nat.le_of_ble_eq_true rfl) ?_
        refine nl ?_
        refine nx ?_
        refine sq ?_
        refine sq ?_
        refine rg ?_
        refine mtL 3 rfl ?_
        refine mtL 3 rfl ?_
        refine fa rfl fld_32_1 rfl ?_
        refine ldB 2 rfl rfl one_9 rfl rfl ?_
        refine lnS rfl Try.underlying9 rfl ?_
        refine gtI rfl rfl rfl ?_
        refine mv rfl rfl ?_
        refine spP (i := 33) rfl (fun h33 => ?_) (fun h33 => ?_)
        ·
          refine gN rfl rfl rfl rfl rfl ?_
          refine gN rfl rfl rfl rfl rfl ?_
          refine gN rfl rfl rfl rfl rfl ?_
          refine gN rfl rfl rfl rfl rfl ?_
          refine pkT rfl rfl rfl ?_
          refine mv rfl rfl ?_
          refine gN rfl rfl rfl rfl rfl ?_
          refine gN rfl rfl rfl rfl rfl ?_
          refine gN rfl rfl rfl rfl rfl ?_
          refine gN rfl rfl rfl rfl rfl ?_
          refine pkT rfl rfl rfl ?_
          refine nl ?_
          refine nx ?_
          refine cdT rfl ?_
          refine sq ?_
          refine rg ?_
          refine asg rfl rfl ?_
          refine asg rfl rfl ?_
          refine nl ?_
          refine nx ?_
          refine rt ?_
          refine tR ?_
          refine bR ?_
          refine tR ?_
          refine tR ?_
          refine bR ?_
          refine tR ?_
          have hbg : evBig e = true := by unfold evBig; simp; omega
          have hE : encS nodes l = ([], 22) := by rw [encS_of hkn (by omega), g3, encL_big he hbg]
          rw [hE]
          refine dpQ (dpQ (dpQ (dpQ ?_)))
          refine adQ ⟨.slice none 0 0, ([] : List UInt8)⟩ (fun S w _ => nil_list S w) ?_
          exact fR2 (.slice none 0 0) rfl rfl rfl rfl rfl (SubD.cons 0 rfl SubD.nil)
        ·
          refine gY rfl rfl rfl ?_
          refine fa rfl fld_32_2 rfl ?_
          refine gY rfl rfl rfl ?_
          refine ldB 2 rfl rfl one_9 rfl rfl ?_
          refine gY rfl rfl rfl ?_
          refine lnS rfl Try.underlying9 rfl ?_
          refine gY rfl rfl rfl ?_
          refine gtI rfl rfl rfl ?_
          refine pkF rfl rfl rfl ?_
          refine mv rfl rfl ?_
          refine spP (i := 39) rfl (fun h39 => ?_) (fun h39 => ?_)
          ·
            refine gN rfl rfl rfl rfl rfl ?_
            refine gN rfl rfl rfl rfl rfl ?_
            refine gN rfl rfl rfl rfl rfl ?_
            refine gN rfl rfl rfl rfl rfl ?_
            refine pkT rfl rfl rfl ?_
            refine nl ?_
            refine nx ?_
            refine cdT rfl ?_
            refine sq ?_
            refine rg ?_
            refine asg rfl rfl ?_
            refine asg rfl rfl ?_
            refine nl ?_
            refine nx ?_
            refine rt ?_
            refine tR ?_
            refine bR ?_
            refine tR ?_
            refine tR ?_
            refine bR ?_
            refine tR ?_
            have hbg : evBig e = true := by unfold evBig; simp; omega
            have hE : encS nodes l = ([], 22) := by rw [encS_of hkn (by omega), g3, encL_big he hbg]
            rw [hE]
            refine dpQ (dpQ (dpQ (dpQ ?_)))
            refine adQ ⟨.slice none 0 0, ([] : List UInt8)⟩ (fun S w _ => nil_list S w) ?_
            exact fR2 (.slice none 0 0) rfl rfl rfl rfl rfl (SubD.cons 0 rfl SubD.nil)
          ·
            refine gY rfl rfl rfl ?_
            refine fa rfl fld_35_6 rfl ?_
            refine gY rfl rfl rfl ?_
            refine ldB 3 rfl rfl one_33 rfl rfl ?_
            refine gY rfl rfl rfl ?_
            refine lnP 1 rfl rfl Try.underlying33 rfl fun l42 => ?_
            refine gY rfl rfl rfl ?_
            refine gtI rfl rfl rfl ?_
            refine pkF rfl rfl rfl ?_
            refine nl ?_
            refine nx ?_
            refine cdP rfl (fun h44 => ?_) (fun h44 => ?_)
            ·
              refine sq ?_
              refine rg ?_
              refine asg rfl rfl ?_
              refine asg rfl rfl ?_
              refine nl ?_
              refine nx ?_
              refine rt ?_
              refine tR ?_
              refine bR ?_
              refine tR ?_
              refine tR ?_
              refine bR ?_
              refine tR ?_
              have hbg : evBig e = true := by unfold evBig; simp; omega
              have hE : encS nodes l = ([], 22) := by rw [encS_of hkn (by omega), g3, encL_big he hbg]
              rw [hE]
              refine dpQ (dpQ (dpQ (dpQ ?_)))
              refine adQ ⟨.slice none 0 0, ([] : List UInt8)⟩ (fun S w _ => nil_list S w) ?_
              exact fR2 (.slice none 0 0) rfl rfl rfl rfl rfl (SubD.cons 0 rfl SubD.nil)
            ·
              have hbg : evBig e = false := by unfold evBig; simp; omega
              have hk1 : e.op.key.size ≤ 16 := by omega
              have hk2 : e.op.other.size ≤ 16 := by omega
              have t1 := encText_le hk1
              have t2 := encText_le hk2
              have z1 := toList_size e.op.key
              have z2 := toList_size e.op.other
              have ak := encInts_le e.keep hki
              have an := encNat_le (v := e.keep.length) (by omega)
              have a5 : (encInts [e.kind, e.client, e.node, e.other, e.n]).length ≤ 50 := encInts_le _ (fun x hx => by
                simp only [List.mem_cons, List.not_mem_nil, or_false] at hx
                rcases hx with rfl | rfl | rfl | rfl | rfl <;> assumption)
              have a1 : (encInts [e.op.kind]).length ≤ 10 := encInts_le _ (fun x hx => by
                simp only [List.mem_cons, List.not_mem_nil, or_false] at hx
                rcases hx with rfl; assumption)
              have a3 : (encInts [e.op.n, e.op.lo, e.op.hi]).length ≤ 30 := encInts_le _ (fun x hx => by
                simp only [List.mem_cons, List.not_mem_nil, or_false] at hx
                rcases hx with rfl | rfl | rfl <;> assumption)
              refine sk ?_
              refine nx ?_
              refine sq ?_
              refine rg ?_
              refine mv rfl rfl ?_
              refine fa rfl fld_35_0 rfl ?_
              refine ldB 3 rfl rfl one_3 rfl rfl ?_
              refine fa rfl fld_35_1 rfl ?_
              refine ldB 3 rfl rfl one_3 rfl rfl ?_
              refine fa rfl fld_35_2 rfl ?_
              refine ldB 3 rfl rfl one_3 rfl rfl ?_
              refine fa rfl fld_35_3 rfl ?_
              refine ldB 3 rfl rfl one_3 rfl rfl ?_
              refine fa rfl fld_35_4 rfl ?_
              refine ldB 3 rfl rfl one_3 rfl rfl ?_
              refine bs1 (xs := [.tmp 47, .tmp 49, .tmp 51, .tmp 53, .tmp 55]) (by rfl) app_33 (by rfl) (by rfl) (by rfl) (by rfl) (by rfl) (by rfl) fun b56 => ?_
              refine frS (α := Int) [e.kind, e.client, e.node, e.other, e.n] [[_], [_], [_], [_], [_]] rfl (fun S w h => by exact ⟨⟨rfl, i1⟩, ⟨rfl, i2⟩, ⟨rfl, i3⟩, ⟨rfl, i4⟩, ⟨rfl, i5⟩, trivial⟩) (Nat.le_of_ble_eq_true rfl) ?_
              refine cfPc (L0 := [bl b6 23 [rv], row 5 rv (acc)]) (Lr := [bl b10 32 (opCells e.op), bl b9 35 (evCells e q26), fz X w]) (ints_e b6 _ rv ([e.kind, e.client, e.node, e.other, e.n]) (acc) (by simp only [List.length_append, List.length_cons, List.length_nil]; omega)) ok_12 rfl (by rfl) (by rfl) (by rfl) (SubD.cons 0 rfl SubD.nil) (by rfl) fun rv1 urv1 hrv1 => ?_
              refine nl ?_
              refine nx ?_
              refine bk ?_
              refine sq ?_
              refine rg ?_
              refine fa rfl fld_35_0 rfl ?_
              refine ldB 3 rfl rfl one_3 rfl rfl ?_
              refine eqI rfl rfl rfl ?_
              refine asg rfl rfl ?_
              refine nl ?_
              refine nx ?_
              refine cdP rfl (fun h58 => ?_) (fun h58 => ?_)
              ·
                refine sq ?_
                refine rg ?_
                refine mv rfl rfl ?_
                refine fa rfl fld_32_0 rfl ?_
                refine ldB 2 rfl rfl one_3 rfl rfl ?_
                refine bs1 (xs := [.tmp 64]) (by rfl) app_33 (by rfl) (by rfl) (by rfl) (by rfl) (by rfl) (by rfl) fun b65 => ?_
                refine frS (α := Int) [e.op.kind] [[_]] rfl (fun S w h => by exact ⟨⟨rfl, o1⟩, trivial⟩) (Nat.le_of_ble_eq_true rfl) ?_
                refine cfPc (L0 := [bl b6 23 [rv1], row 5 rv1 (acc ++ encInts [e.kind, e.client, e.node, e.other, e.n])]) (Lr := [bl b10 32 (opCells e.op), bl b9 35 (evCells e q26), fz X w]) (ints_e b6 _ rv1 ([e.op.kind]) (acc ++ encInts [e.kind, e.client, e.node, e.other, e.n]) (by simp only [List.length_append, List.length_cons, List.length_nil]; omega)) ok_12 rfl (by rfl) (by rfl) (by rfl) (SubD.cons 0 rfl SubD.nil) (by rfl) fun rv2 urv2 hrv2 => ?_
                refine nl ?_
                refine nx ?_
                refine sq ?_
                refine rgV ⟨fun i => ([[], [], [1], [2], [3], [0, 4], [], [6], [7], [8], [5, 9], [10]] : List (List Nat)).getD i [], fun _ _ => True, fun i => ([fun _ => [], fun _ => [], fun _ => [], fun u => [⟨u, e.op.key.data.toList⟩], fun u => [⟨u, encText e.op.key.data.toList⟩], fun _ => [], fun _ => [], fun _ => [], fun u => [⟨u, e.op.other.data.toList⟩], fun u => [⟨u, encText e.op.other.data.toList⟩], fun _ => [], fun _ => []] : List (Value → List Atom)).getD i (fun _ => []), fun vs => match vs with
                    | [] => [bl b6 23 [rv2], row 5 rv2 (acc ++ encInts [e.kind, e.client, e.node, e.other, e.n] ++ encInts [e.op.kind]), bl b10 32 (opCells e.op), bl b9 35 (evCells e q26), fz X w]
                    | [v0] => [bl b6 23 [rv2], row 5 v0 (acc ++ encInts [e.kind, e.client, e.node, e.other, e.n] ++ encInts [e.op.kind] ++ encText e.op.key.data.toList), bl b10 32 (opCells e.op), bl b9 35 (evCells e q26), fz X w]
                    | [v0, v1] => [bl b6 23 [rv2], row 5 v1 (acc ++ encInts [e.kind, e.client, e.node, e.other, e.n] ++ encInts [e.op.kind] ++ encText e.op.key.data.toList ++ encText e.op.other.data.toList), bl b10 32 (opCells e.op), bl b9 35 (evCells e q26), fz X w]
                    | [v0, v1, v2] => [bl b6 23 [v1], row 5 v1 (acc ++ encInts [e.kind, e.client, e.node, e.other, e.n] ++ encInts [e.op.kind] ++ encText e.op.key.data.toList ++ encText e.op.other.data.toList), bl b10 32 (opCells e.op), bl b9 35 (evCells e q26), fz X w]
                    | _ => [], [5, 10, 11]⟩ (fun i => ([some (rv2), some (.pointer (some ⟨b10, 1, none⟩)), some (.string e.op.key), none, none, none, some (.pointer (some ⟨b10, 2, none⟩)), some (.string e.op.other), none, none, none, none] : List (Option Value)).getD i none) mixed rfl rfl ?_ ?_
                ·
                  refine ⟨fun V De _ => (show AllP _ [0] from ⟨?_, trivial⟩), ?_⟩
                  ·
                    refine ldB 0 rfl rfl one_23 rfl rfl ?_
                    exact nl (od rfl rfl rfl rfl SubD.nil SubD.refl)
                  refine ⟨fun V De _ => (show AllP _ [0, 1, 2] from ⟨?_, ?_, ?_, trivial⟩), ?_⟩
                  ·
                    refine fa rfl fld_32_1 rfl ?_
                    exact nl (od rfl rfl rfl rfl SubD.nil SubD.refl)
                  ·
                    refine fa rfl fld_32_1 rfl ?_
                    exact nl (od rfl rfl rfl rfl SubD.nil SubD.refl)
                  ·
                    refine fa rfl fld_32_1 rfl ?_
                    exact nl (od rfl rfl rfl rfl SubD.nil SubD.refl)
                  refine ⟨fun V De _ => (show AllP _ [0, 1, 2] from ⟨?_, ?_, ?_, trivial⟩), ?_⟩
                  ·
                    refine ldB 2 rfl rfl one_9 rfl rfl ?_
                    exact nl (od rfl rfl rfl rfl SubD.nil SubD.refl)
                  ·
                    refine ldB 2 rfl rfl one_9 rfl rfl ?_
                    exact nl (od rfl rfl rfl rfl SubD.nil SubD.refl)
                  ·
                    refine ldB 2 rfl rfl one_9 rfl rfl ?_
                    exact nl (od rfl rfl rfl rfl SubD.nil SubD.refl)
                  refine ⟨fun V De _ => (show AllP _ [0, 1, 2] from ⟨?_, ?_, ?_, trivial⟩), ?_⟩
                  ·
                    refine csb Try.underlying9 Try.underlying23 Try.underlying5 rfl (by omega) rfl fun v70 => ?_
                    exact nl (od rfl rfl rfl trivial (SubD.cons 0 rfl SubD.nil) (SubD.tail SubD.refl))
                  ·
                    refine csb Try.underlying9 Try.underlying23 Try.underlying5 rfl (by omega) rfl fun v70 => ?_
                    exact nl (od rfl rfl rfl trivial (SubD.cons 0 rfl SubD.nil) (SubD.tail SubD.refl))
                  ·
                    refine csb Try.underlying9 Try.underlying23 Try.underlying5 rfl (by omega) rfl fun v70 => ?_
                    exact nl (od rfl rfl rfl trivial (SubD.cons 0 rfl SubD.nil) (SubD.tail SubD.refl))
                  refine ⟨fun V De _ => (show AllP _ [0] from ⟨?_, trivial⟩), ?_⟩
                  ·
                    refine cf (text_e _ _ (by omega)) ok_14 rfl (SubD.cons 0 rfl SubD.nil) rfl fun y71 v71 h71 => ?_
                    refine frRL ?_
                    exact nl (od rfl rfl rfl trivial (SubD.cons 0 rfl SubD.nil) (SubD.tail (SubD.tail SubD.refl)))
                  refine ⟨fun V De _ => (show AllP _ [0] from ⟨?_, trivial⟩), ?_⟩
                  ·
                    refine ap 1 0 rfl rfl rfl rfl app_23 (by simp only [List.length_append]; omega) (by simp only [List.length_append]; omega) rfl fun v72 => ?_
                    exact nl (od rfl rfl rfl trivial SubD.nil (SubD.tail SubD.refl))
                  refine ⟨fun V De _ => (show AllP _ [0, 1, 2] from ⟨?_, ?_, ?_, trivial⟩), ?_⟩
                  ·
                    refine fa rfl fld_32_2 rfl ?_
                    exact nl (od rfl rfl rfl rfl SubD.nil SubD.refl)
                  ·
                    refine fa rfl fld_32_2 rfl ?_
                    exact nl (od rfl rfl rfl rfl SubD.nil SubD.refl)
                  ·
                    refine fa rfl fld_32_2 rfl ?_
                    exact nl (od rfl rfl rfl rfl SubD.nil SubD.refl)
                  refine ⟨fun V De _ => (show AllP _ [0, 1, 2] from ⟨?_, ?_, ?_, trivial⟩), ?_⟩
                  ·
                    refine ldB 2 rfl rfl one_9 rfl rfl ?_
                    exact nl (od rfl rfl rfl rfl SubD.nil SubD.refl)
                  ·
                    refine ldB 2 rfl rfl one_9 rfl rfl ?_
                    exact nl (od rfl rfl rfl rfl SubD.nil SubD.refl)
                  ·
                    refine ldB 2 rfl rfl one_9 rfl rfl ?_
                    exact nl (od rfl rfl rfl rfl SubD.nil SubD.refl)
                  refine ⟨fun V De _ => (show AllP _ [0, 1, 2] from ⟨?_, ?_, ?_, trivial⟩), ?_⟩
                  ·
                    refine csb Try.underlying9 Try.underlying23 Try.underlying5 rfl (by omega) rfl fun v75 => ?_
                    exact nl (od rfl rfl rfl trivial (SubD.cons 0 rfl SubD.nil) (SubD.tail SubD.refl))
                  ·
                    refine csb Try.underlying9 Try.underlying23 Try.underlying5 rfl (by omega) rfl fun v75 => ?_
                    exact nl (od rfl rfl rfl trivial (SubD.cons 0 rfl SubD.nil) (SubD.tail SubD.refl))
                  ·
                    refine csb Try.underlying9 Try.underlying23 Try.underlying5 rfl (by omega) rfl fun v75 => ?_
                    exact nl (od rfl rfl rfl trivial (SubD.cons 0 rfl SubD.nil) (SubD.tail SubD.refl))
                  refine ⟨fun V De _ => (show AllP _ [1] from ⟨?_, trivial⟩), ?_⟩
                  ·
                    refine cf (text_e _ _ (by omega)) ok_14 rfl (SubD.cons 0 rfl SubD.nil) rfl fun y76 v76 h76 => ?_
                    refine frRL ?_
                    exact nl (od rfl rfl rfl trivial (SubD.cons 0 rfl SubD.nil) (SubD.tail (SubD.tail SubD.refl)))
                  refine ⟨fun V De _ => (show AllP _ [1] from ⟨?_, trivial⟩), ?_⟩
                  ·
                    refine ap 1 0 rfl rfl rfl rfl app_23 (by simp only [List.length_append]; omega) (by simp only [List.length_append]; omega) rfl fun v77 => ?_
                    exact nl (od rfl rfl rfl trivial SubD.nil (SubD.tail SubD.refl))
                  refine ⟨fun V De _ => (show AllP _ [2] from ⟨?_, trivial⟩), ?_⟩
                  ·
                    refine stR 0 1 rfl rfl rfl rfl one_23 (Nat.lt_of_lt_of_le (Nat.lt_succ_self _) (Nat.le_of_ble_eq_true rfl)) ?_
                    exact nl (od0 rfl rfl SubD.refl)
                  trivial
                ·
                  intro V _
                  refine wkQ (L := [bl b6 23 [(V 10)], row 5 (V 10) (acc ++ encInts [e.kind, e.client, e.node, e.other, e.n] ++ encInts [e.op.kind] ++ encText e.op.key.data.toList ++ encText e.op.other.data.toList), bl b10 32 (opCells e.op), bl b9 35 (evCells e q26), fz X w]) [(6, .pointer (some ⟨b6, 0, none⟩)), (7, .func (.func 12) #[] #[.pointer (some ⟨b6, 0, none⟩)]), (21, lv), (22, .int .i64 (l.length : Int)), (23, .int .i64 (i : Int)), (9, .pointer (some ⟨b9, 0, none⟩)), (10, .pointer (some ⟨b10, 0, none⟩))] [⟨lv, l⟩] ⟨rfl, rfl, rfl, rfl, rfl, rfl, rfl, trivial⟩ (SubD.cons 9 rfl SubD.nil) ?_
                  refine nx ?_
                  refine rg ?_
                  refine mv rfl rfl ?_
                  refine fa rfl fld_32_3 rfl ?_
                  refine ldB 2 rfl rfl one_3 rfl rfl ?_
                  refine fa rfl fld_32_4 rfl ?_
                  refine ldB 2 rfl rfl one_3 rfl rfl ?_
                  refine fa rfl fld_32_5 rfl ?_
                  refine ldB 2 rfl rfl one_3 rfl rfl ?_
                  refine bs1 (xs := [.tmp 80, .tmp 82, .tmp 84]) (by rfl) app_33 (by rfl) (by rfl) (by rfl) (by rfl) (by rfl) (by rfl) fun b85 => ?_
                  refine frS (α := Int) [e.op.n, e.op.lo, e.op.hi] [[_], [_], [_]] rfl (fun S w h => by exact ⟨⟨rfl, o4⟩, ⟨rfl, o5⟩, ⟨rfl, o6⟩, trivial⟩) (Nat.le_of_ble_eq_true rfl) ?_
                  refine cfPc (L0 := [bl b6 23 [(V 10)], row 5 (V 10) (acc ++ encInts [e.kind, e.client, e.node, e.other, e.n] ++ encInts [e.op.kind] ++ encText e.op.key.data.toList ++ encText e.op.other.data.toList)]) (Lr := [bl b10 32 (opCells e.op), bl b9 35 (evCells e q26), fz X w]) (ints_e b6 _ (V 10) ([e.op.n, e.op.lo, e.op.hi]) (acc ++ encInts [e.kind, e.client, e.node, e.other, e.n] ++ encInts [e.op.kind] ++ encText e.op.key.data.toList ++ encText e.op.other.data.toList) (by simp only [List.length_append, List.length_cons, List.length_nil]; omega)) ok_12 rfl (by rfl) (by rfl) (by rfl) (SubD.cons 0 rfl SubD.nil) (by rfl) fun uT uuT huT => ?_
                  refine nl ?_
                  refine bN ?_
                  refine bN ?_
                  refine nx ?_
                  refine rg ?_
                  refine adI rfl rfl (inI (by omega) (by omega)) rfl ?_
                  refine mv rfl rfl ?_
                  refine nl ?_
                  refine mtQ 2 rfl (dpQ (mtQ 2 rfl (dpQ ?_)))
                  have hx : acc ++ encInts [e.kind, e.client, e.node, e.other, e.n] ++ encInts [e.op.kind] ++ encText e.op.key.data.toList ++ encText e.op.other.data.toList ++ encInts [e.op.n, e.op.lo, e.op.hi] = acc ++ encEv e := by simp only [encEv, if_pos h58, List.append_assoc]
                  have hel := encEv_le hw hki hbg
                  exact ag (i + 1, uT, acc ++ encInts [e.kind, e.client, e.node, e.other, e.n] ++ encInts [e.op.kind] ++ encText e.op.key.data.toList ++ encText e.op.other.data.toList ++ encInts [e.op.n, e.op.lo, e.op.hi]) ⟨by show i + 1 ≤ l.length; omega, by rw [hx, List.length_append]; show _ ≤ 1 + 1000 * (i + 1); omega, by show _ = encL _ (l.drop (i + 1)); rw [g3]; exact encL_step he hbg hx⟩ (by show l.length - (i + 1) < l.length - i; omega) ⟨rfl, rfl, rfl, rfl, rfl, trivial⟩ rfl (SubD.cons 1 rfl SubD.nil)
              ·
                refine sq ?_
                refine rg ?_
                refine fa rfl fld_35_0 rfl ?_
                refine ldB 3 rfl rfl one_3 rfl rfl ?_
                refine cfv (keeps_c _ i1) ok_15 rfl SubD.nil rfl ?_
                refine asg rfl rfl ?_
                refine nl ?_
                refine nx ?_
                refine cdB rfl (fun h87 => ?_) (fun h87 => ?_)
                ·
                  refine sq ?_
                  refine rgV ⟨fun i => ([[], [], [1], [2], [3], [4], [0, 5], [6]] : List (List Nat)).getD i [], fun _ _ => True, fun i => ([fun _ => [], fun _ => [], fun _ => [], fun _ => [], fun _ => [], fun u => [⟨u, encNat e.keep.length⟩], fun _ => [], fun _ => []] : List (Value → List Atom)).getD i (fun _ => []), fun vs => match vs with
                      | [] => [bl b6 23 [rv1], row 5 rv1 (acc ++ encInts [e.kind, e.client, e.node, e.other, e.n]), bl b10 32 (opCells e.op), bl b9 35 (evCells e q26), fz X w]
                      | [v0] => [bl b6 23 [rv1], row 5 v0 (acc ++ encInts [e.kind, e.client, e.node, e.other, e.n] ++ encNat e.keep.length), bl b10 32 (opCells e.op), bl b9 35 (evCells e q26), fz X w]
                      | [v0, v1] => [bl b6 23 [v0], row 5 v0 (acc ++ encInts [e.kind, e.client, e.node, e.other, e.n] ++ encNat e.keep.length), bl b10 32 (opCells e.op), bl b9 35 (evCells e q26), fz X w]
                      | _ => [], [6, 7]⟩ (fun i => ([some (rv1), some (.pointer (some ⟨b9, 11, none⟩)), some (q26), some (.int .i64 (e.keep.length : Int)), some (.int .u64 (e.keep.length : Int)), none, none, none] : List (Option Value)).getD i none) mixed rfl rfl ?_ ?_
                  ·
                    refine ⟨fun V De _ => (show AllP _ [0] from ⟨?_, trivial⟩), ?_⟩
                    ·
                      refine ldB 0 rfl rfl one_23 rfl rfl ?_
                      exact nl (od rfl rfl rfl rfl SubD.nil SubD.refl)
                    refine ⟨fun V De _ => (show AllP _ [0, 1] from ⟨?_, ?_, trivial⟩), ?_⟩
                    ·
                      refine fa rfl fld_35_6 rfl ?_
                      exact nl (od rfl rfl rfl rfl SubD.nil SubD.refl)
                    ·
                      refine fa rfl fld_35_6 rfl ?_
                      exact nl (od rfl rfl rfl rfl SubD.nil SubD.refl)
                    refine ⟨fun V De _ => (show AllP _ [0, 1] from ⟨?_, ?_, trivial⟩), ?_⟩
                    ·
                      refine ldB 3 rfl rfl one_33 rfl rfl ?_
                      exact nl (od rfl rfl rfl rfl SubD.nil SubD.refl)
                    ·
                      refine ldB 3 rfl rfl one_33 rfl rfl ?_
                      exact nl (od rfl rfl rfl rfl SubD.nil SubD.refl)
                    refine ⟨fun V De _ => (show AllP _ [0, 1] from ⟨?_, ?_, trivial⟩), ?_⟩
                    ·
                      refine lnP 2 rfl rfl Try.underlying33 rfl fun l94 => ?_
                      exact nl (od rfl rfl rfl rfl SubD.nil SubD.refl)
                    ·
                      refine lnP 2 rfl rfl Try.underlying33 rfl fun l94 => ?_
                      exact nl (od rfl rfl rfl rfl SubD.nil SubD.refl)
                    refine ⟨fun V De _ => (show AllP _ [0, 1] from ⟨?_, ?_, trivial⟩), ?_⟩
                    ·
                      refine cv Try.underlying3 Try.underlying44 rfl (wrap_u64_int (by omega) (by omega)) rfl ?_
                      exact nl (od rfl rfl rfl rfl SubD.nil SubD.refl)
                    ·
                      refine cv Try.underlying3 Try.underlying44 rfl (wrap_u64_int (by omega) (by omega)) rfl ?_
                      exact nl (od rfl rfl rfl rfl SubD.nil SubD.refl)
                    refine ⟨fun V De _ => (show AllP _ [0] from ⟨?_, trivial⟩), ?_⟩
                    ·
                      refine cf (num_e _ (by omega)) ok_16 rfl SubD.nil rfl fun y96 v96 h96 => ?_
                      refine frRL ?_
                      exact nl (od rfl rfl rfl trivial (SubD.cons 0 rfl SubD.nil) (SubD.tail SubD.refl))
                    refine ⟨fun V De _ => (show AllP _ [0] from ⟨?_, trivial⟩), ?_⟩
                    ·
                      refine ap 1 0 rfl rfl rfl rfl app_23 (by simp only [List.length_append]; omega) (by simp only [List.length_append]; omega) rfl fun v97 => ?_
                      exact nl (od rfl rfl rfl trivial SubD.nil (SubD.tail SubD.refl))
                    refine ⟨fun V De _ => (show AllP _ [1] from ⟨?_, trivial⟩), ?_⟩
                    ·
                      refine stR 0 1 rfl rfl rfl rfl one_23 (Nat.lt_of_lt_of_le (Nat.lt_succ_self _) (Nat.le_of_ble_eq_true rfl)) ?_
                      exact nl (od0 rfl rfl SubD.refl)
                    trivial
                  ·
                    intro V _
                    refine wkQ (L := [bl b6 23 [(V 6)], row 5 (V 6) (acc ++ encInts [e.kind, e.client, e.node, e.other, e.n] ++ encNat e.keep.length), bl b10 32 (opCells e.op), bl b9 35 (evCells e q26), fz X w]) [(6, .pointer (some ⟨b6, 0, none⟩)), (7, .func (.func 12) #[] #[.pointer (some ⟨b6, 0, none⟩)]), (21, lv), (22, .int .i64 (l.length : Int)), (23, .int .i64 (i : Int)), (9, .pointer (some ⟨b9, 0, none⟩)), (10, .pointer (some ⟨b10, 0, none⟩))] [⟨q26, e.keep⟩, ⟨lv, l⟩] ⟨rfl, rfl, rfl, rfl, rfl, rfl, rfl, trivial⟩ (SubD.cons 3 rfl (SubD.cons 5 rfl SubD.nil)) ?_
                    refine nx ?_
                    refine rg ?_
                    refine mv rfl rfl ?_
                    refine fa rfl fld_35_6 rfl ?_
                    refine ldB 3 rfl rfl one_33 rfl rfl ?_
                    refine cfPc (L0 := [bl b6 23 [(V 6)], row 5 (V 6) (acc ++ encInts [e.kind, e.client, e.node, e.other, e.n] ++ encNat e.keep.length)]) (Lr := [bl b10 32 (opCells e.op), bl b9 35 (evCells e q26), fz X w]) (ints_e b6 _ (V 6) (e.keep) (acc ++ encInts [e.kind, e.client, e.node, e.other, e.n] ++ encNat e.keep.length) (by simp only [List.length_append, List.length_cons, List.length_nil]; omega)) ok_12 rfl (by rfl) (by rfl) (by rfl) (SubD.cons 0 rfl SubD.nil) (by rfl) fun uK uuK huK => ?_
                    refine nl ?_
                    refine bN ?_
                    refine bN ?_
                    refine nx ?_
                    refine rg ?_
                    refine adI rfl rfl (inI (by omega) (by omega)) rfl ?_
                    refine mv rfl rfl ?_
                    refine nl ?_
                    refine mtQ 2 rfl (dpQ (mtQ 2 rfl (dpQ ?_)))
                    have hx : acc ++ encInts [e.kind, e.client, e.node, e.other, e.n] ++ encNat e.keep.length ++ encInts e.keep = acc ++ encEv e := by simp only [encEv, if_neg h58, if_pos h87, List.append_assoc]
                    have hel := encEv_le hw hki hbg
                    exact ag (i + 1, uK, acc ++ encInts [e.kind, e.client, e.node, e.other, e.n] ++ encNat e.keep.length ++ encInts e.keep) ⟨by show i + 1 ≤ l.length; omega, by rw [hx, List.length_append]; show _ ≤ 1 + 1000 * (i + 1); omega, by show _ = encL _ (l.drop (i + 1)); rw [g3]; exact encL_step he hbg hx⟩ (by show l.length - (i + 1) < l.length - i; omega) ⟨rfl, rfl, rfl, rfl, rfl, trivial⟩ rfl (SubD.cons 1 rfl SubD.nil)
                ·
                  refine sk ?_
                  refine bN ?_
                  refine bN ?_
                  refine nx ?_
                  refine rg ?_
                  refine adI rfl rfl (inI (by omega) (by omega)) rfl ?_
                  refine mv rfl rfl ?_
                  refine nl ?_
                  refine mtQ 2 rfl (dpQ (mtQ 2 rfl (dpQ ?_)))
                  have hx : acc ++ encInts [e.kind, e.client, e.node, e.other, e.n] = acc ++ encEv e := by simp only [encEv, if_neg h58, h87, Bool.false_eq_true, if_false, List.append_nil]
                  have hel := encEv_le hw hki hbg
                  exact ag (i + 1, rv1, acc ++ encInts [e.kind, e.client, e.node, e.other, e.n]) ⟨by show i + 1 ≤ l.length; omega, by rw [hx, List.length_append]; show _ ≤ 1 + 1000 * (i + 1); omega, by show _ = encL _ (l.drop (i + 1)); rw [g3]; exact encL_step he hbg hx⟩ (by show l.length - (i + 1) < l.length - i; omega) ⟨rfl, rfl, rfl, rfl, rfl, trivial⟩ rfl (SubD.cons 4 rfl SubD.nil)
      ·
        refine ex ?_
        refine tE ?_
        refine tE ?_
        refine bE ?_
        refine nx ?_
        refine sq ?_
        refine rg ?_
        refine ldB 0 rfl rfl one_23 rfl rfl ?_
        refine asg rfl rfl ?_
        refine asg rfl rfl ?_
        refine nl ?_
        refine nx ?_
        refine rt ?_
        have hE : encS nodes l = (acc, 0) := by rw [encS_of hkn (by omega), g3, List.drop_eq_nil_of_le (by omega)]; rfl
        rw [hE]
        refine mtQ 1 rfl (frRQ (dpQ ?_))
        exact fR2 rv rfl rfl rfl rfl rfl (SubD.cons 0 rfl SubD.nil)
end Go.Proofs.Ytcjaodddckbciaa
