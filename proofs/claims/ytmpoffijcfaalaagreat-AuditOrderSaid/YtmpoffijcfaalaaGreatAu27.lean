/- Part 27 of the proof of auditOrder_holds: AudW6. Every text below begins with what it shows. -/
import Derived.Test.YtmpoffijcfaalaaGreatAu26

/- Copies of states: written by specs10.py. -/

namespace Go.Proofs.YtmpoffijcfaalaaGreat
open Go.Eng Go.YtmpoffijcfaalaaGreat

theorem own_c (S : TState) (s_0 s_1 s_2 s_3 s_4 s_5 : Value) (h_S : S.wf) (hb : BigS S) : Fnc Tryz.prog 73 [.agg (cState S s_0 s_1 s_2 s_3 s_4 s_5).toArray] [] [⟨s_0, S.fAccounts⟩, ⟨s_1, S.fMarks⟩, ⟨s_2, S.fWaits⟩, ⟨s_3, S.fDeals⟩, ⟨s_4, S.fEnds⟩, ⟨s_5, S.fImage⟩] (fun (y : sState.H) u => u = .agg (cState S (y.1) (y.2.1) (y.2.2.1) (y.2.2.2.1) (y.2.2.2.2.1) (y.2.2.2.2.2)).toArray ∧ S.wf) (fun _ _ => []) (fun y _ => [⟨y.1, S.fAccounts⟩, ⟨y.2.1, S.fMarks⟩, ⟨y.2.2.1, S.fWaits⟩, ⟨y.2.2.2.1, S.fDeals⟩, ⟨y.2.2.2.2.1, S.fEnds⟩, ⟨y.2.2.2.2.2, S.fImage⟩]) := by
  refine Fnc.proof Tryz.func73 rfl 48 rfl rfl fun X w => sq<|rg<|bx rfl rfl rfl fun b1 => al zero_55 rfl fun b2 => nl<|nx<|sq<|rg<|fa rfl fld_55_6 rfl<|ldB 1 rfl rfl one_50 rfl rfl<|cf (cloneAc_c _ _ hb.acc) ok_143 rfl (SubD.cons 0 rfl SubD.nil) rfl fun _ v6 _ => fa rfl fld_55_6 rfl<|stR 2 0 rfl rfl rfl rfl one_50 (Nat.lt_of_lt_of_le (Nat.lt_succ_self _) (Nat.le_of_ble_eq_true rfl)) ?_
  refine nl<|nx<|sq<|sq<|rg<|fa rfl fld_55_6 rfl<|ldB 2 rfl rfl one_50 rfl rfl<|lnR 0 rfl rfl Tryz.underlying50 rfl fun l10 => mv rfl rfl<|nl<|nx<|bk<|lpC (σ := Nat) [(1, _), (2, _), (10, _)] _ (fun i C => (11, .int .i64 (i : Int)) :: C) (fun i => i ≤ S.fAccounts.length) (fun i => S.fAccounts.length - i) 0 ⟨rfl, rfl, rfl, trivial⟩ (SubD.cons 0 rfl (SubD.cons 1 rfl (SubD.cons 2 rfl (SubD.cons 3 rfl (SubD.cons 4 rfl (SubD.cons 5 rfl SubD.nil)))))) (Nat.zero_le _) ⟨rfl, rfl, rfl, rfl, trivial⟩ ?_
  intro i hi
  refine sq<|rg<|ltI rfl rfl rfl<|nl<|nx<|sq<|cdP rfl (fun h12 => ?_) (fun h12 => ?_)
  ·
    refine sk<|nx<|sq<|bk<|sq<|rg<|mv rfl rfl<|asg rfl rfl<|nl<|nx ?_
    refine rgH ⟨fun q_ => ([[], [0], [], [], [3], [], [4, 5], [6], [7], [8], [1, 2], [10], [11, 9]] : List (List Nat)).getD q_ [], fun _ _ => True, fun q_ => ([fun _ => [], fun _ => [], fun _ => [], fun _ => [], fun _ => [], fun _ => [], fun _ => [], fun _ => [], fun u => [⟨u, (S.fAccounts.getD (i) default).fHolders⟩], fun u => [⟨u, (S.fAccounts.getD (i) default).fHolders⟩], fun _ => [], fun _ => [], fun _ => []] : List (Value → List Atom)).getD q_ (fun _ => []), fun q_ => ([some (.pointer (some ⟨b1, 6, none⟩)), some (v6), some (.int .i64 ((i : Int))), some (.pointer (some ⟨b1, 6, none⟩)), some (v6), some (.int .i64 ((i : Int))), some ((elp v6 ((i) * 10))), some ((elp v6 ((i) * 10 + 5))), none, none, some ((elp v6 ((i) * 10))), some ((elp v6 ((i) * 10 + 5))), none] : List (Option Value)).getD q_ none, fun h_ => match h_ with
        | [] => fun vs_ => [row 70 v6 S.fAccounts, bl b2 55 [.int .i64 0, .int .i64 0, .bool false, .string ByteArray.empty, .string ByteArray.empty, .int .i64 0, .slice none 0 0, .slice none 0 0, .slice none 0 0, .slice none 0 0, .slice none 0 0, .int .i64 0, .int .i64 0, .int .i64 0, .string ByteArray.empty, .string ByteArray.empty, .int .i64 0, .int .i64 0, .int .i64 0, .int .i64 0, .int .i64 0, .string ByteArray.empty, .string ByteArray.empty, .int .i64 0, .int .i64 0, .slice none 0 0, .int .i64 0, .int .i64 0, .int .i64 0], bl b1 55 [.int .i64 S.fGroup, .int .i64 S.fIndex, .bool (S.fOwns), .string S.fLo, .string S.fHi, .int .i64 S.fEpoch, v6, s_1, s_2, s_3, s_4, .int .i64 S.fSeal.fNumber, .int .i64 S.fSeal.fFrom, .int .i64 S.fSeal.fTo, .string S.fSeal.fLo, .string S.fSeal.fHi, .int .i64 S.fSeal.fClient, .int .i64 S.fSeal.fSeq, .int .i64 S.fOut.fNumber, .int .i64 S.fOut.fFrom, .int .i64 S.fOut.fTo, .string S.fOut.fLo, .string S.fOut.fHi, .int .i64 S.fOut.fClient, .int .i64 S.fOut.fSeq, s_5, .int .i64 S.fAbsorbed, .int .i64 S.fRefused, .int .i64 S.fUndone], fz X w]
        | [12] => fun vs_ => [row 70 v6 S.fAccounts, bl b2 55 [.int .i64 0, .int .i64 0, .bool false, .string ByteArray.empty, .string ByteArray.empty, .int .i64 0, .slice none 0 0, .slice none 0 0, .slice none 0 0, .slice none 0 0, .slice none 0 0, .int .i64 0, .int .i64 0, .int .i64 0, .string ByteArray.empty, .string ByteArray.empty, .int .i64 0, .int .i64 0, .int .i64 0, .int .i64 0, .int .i64 0, .string ByteArray.empty, .string ByteArray.empty, .int .i64 0, .int .i64 0, .slice none 0 0, .int .i64 0, .int .i64 0, .int .i64 0], bl b1 55 [.int .i64 S.fGroup, .int .i64 S.fIndex, .bool (S.fOwns), .string S.fLo, .string S.fHi, .int .i64 S.fEpoch, v6, s_1, s_2, s_3, s_4, .int .i64 S.fSeal.fNumber, .int .i64 S.fSeal.fFrom, .int .i64 S.fSeal.fTo, .string S.fSeal.fLo, .string S.fSeal.fHi, .int .i64 S.fSeal.fClient, .int .i64 S.fSeal.fSeq, .int .i64 S.fOut.fNumber, .int .i64 S.fOut.fFrom, .int .i64 S.fOut.fTo, .string S.fOut.fLo, .string S.fOut.fHi, .int .i64 S.fOut.fClient, .int .i64 S.fOut.fSeq, s_5, .int .i64 S.fAbsorbed, .int .i64 S.fRefused, .int .i64 S.fUndone], fz X w]
        | _ => fun _ => [], [12], [[], [12]]⟩ (fun V => [row 70 v6 S.fAccounts, bl b2 55 [.int .i64 0, .int .i64 0, .bool false, .string ByteArray.empty, .string ByteArray.empty, .int .i64 0, .slice none 0 0, .slice none 0 0, .slice none 0 0, .slice none 0 0, .slice none 0 0, .int .i64 0, .int .i64 0, .int .i64 0, .string ByteArray.empty, .string ByteArray.empty, .int .i64 0, .int .i64 0, .int .i64 0, .int .i64 0, .int .i64 0, .string ByteArray.empty, .string ByteArray.empty, .int .i64 0, .int .i64 0, .slice none 0 0, .int .i64 0, .int .i64 0, .int .i64 0], bl b1 55 [.int .i64 S.fGroup, .int .i64 S.fIndex, .bool (S.fOwns), .string S.fLo, .string S.fHi, .int .i64 S.fEpoch, v6, s_1, s_2, s_3, s_4, .int .i64 S.fSeal.fNumber, .int .i64 S.fSeal.fFrom, .int .i64 S.fSeal.fTo, .string S.fSeal.fLo, .string S.fSeal.fHi, .int .i64 S.fSeal.fClient, .int .i64 S.fSeal.fSeq, .int .i64 S.fOut.fNumber, .int .i64 S.fOut.fFrom, .int .i64 S.fOut.fTo, .string S.fOut.fLo, .string S.fOut.fHi, .int .i64 S.fOut.fClient, .int .i64 S.fOut.fSeq, s_5, .int .i64 S.fAbsorbed, .int .i64 S.fRefused, .int .i64 S.fUndone], fz X w]) mixed rfl rfl (show AllP _ [[12]] from ⟨fun _ => rfl, trivial⟩) ?_ ?_
    ·
      refine ⟨fun V De _ => (show AllP _ [[]] from ⟨?_, trivial⟩), ?_⟩
      ·
        exact fa rfl fld_55_6 rfl<|nl (odH rfl rfl rfl rfl SubD.nil SubD.refl)
      refine ⟨fun V De _ => (show AllP _ [[]] from ⟨?_, trivial⟩), ?_⟩
      ·
        exact ldB 2 rfl rfl one_50 rfl rfl<|nl (odH rfl rfl rfl rfl SubD.nil SubD.refl)
      refine ⟨fun V De _ => (show AllP _ [[]] from ⟨?_, trivial⟩), ?_⟩
      ·
        exact mv rfl rfl<|nl (odH rfl rfl rfl rfl SubD.nil SubD.refl)
      refine ⟨fun V De _ => (show AllP _ [[]] from ⟨?_, trivial⟩), ?_⟩
      ·
        exact fa rfl fld_55_6 rfl<|nl (odH rfl rfl rfl rfl SubD.nil SubD.refl)
      refine ⟨fun V De _ => (show AllP _ [[]] from ⟨?_, trivial⟩), ?_⟩
      ·
        exact ldB 2 rfl rfl one_50 rfl rfl<|nl (odH rfl rfl rfl rfl SubD.nil SubD.refl)
      refine ⟨fun V De _ => (show AllP _ [[]] from ⟨?_, trivial⟩), ?_⟩
      ·
        exact mv rfl rfl<|nl (odH rfl rfl rfl rfl SubD.nil SubD.refl)
      refine ⟨fun V De _ => (show AllP _ [[]] from ⟨?_, trivial⟩), ?_⟩
      ·
        exact ixN 0 (i) rfl rfl rfl slt_50 (by omega) (by omega) rfl<|nl (odH rfl rfl rfl rfl SubD.nil SubD.refl)
      refine ⟨fun V De _ => (show AllP _ [[]] from ⟨?_, trivial⟩), ?_⟩
      ·
        exact faE 0 rfl rfl (by omega) fld_70_4 rfl<|nl (odH rfl rfl rfl rfl SubD.nil SubD.refl)
      refine ⟨fun V De _ => (show AllP _ [[]] from ⟨?_, trivial⟩), ?_⟩
      ·
        exact ldE (s := sAccount) 0 (i) 5 (fun h => h) rfl rfl (getDE (d := default) (by omega)) (fun _ => rfl) one_66 rfl fun q22 w22 => nl (odH rfl rfl rfl trivial (SubD.cons 0 rfl SubD.nil) (SubD.tail SubD.refl))
      refine ⟨fun V De _ => (show AllP _ [[]] from ⟨?_, trivial⟩), ?_⟩
      ·
        exact cf (cloneHo_c _ _ (hb.hold i (by omega))) ok_144 rfl (SubD.cons 0 rfl SubD.nil) rfl fun _ v23 _ => nl (odH rfl rfl rfl trivial (SubD.cons 0 rfl SubD.nil) (SubD.tail (SubD.tail SubD.refl)))
      refine ⟨fun V De _ => (show AllP _ [[], [12]] from ⟨?_, ?_, trivial⟩), ?_⟩
      ·
        exact ixN 0 (i) rfl rfl rfl slt_50 (by omega) (by omega) rfl<|nl (odH rfl rfl rfl rfl SubD.nil SubD.refl)
      ·
        exact ixN 0 (i) rfl rfl rfl slt_50 (by omega) (by omega) rfl<|nl (odH rfl rfl rfl rfl SubD.nil SubD.refl)
      refine ⟨fun V De _ => (show AllP _ [[]] from ⟨?_, trivial⟩), ?_⟩
      ·
        exact faE 0 rfl rfl (by omega) fld_70_4 rfl<|nl (odH rfl rfl rfl rfl SubD.nil SubD.refl)
      refine ⟨fun V De _ => (show AllP _ [[]] from ⟨?_, trivial⟩), ?_⟩
      ·
        exact stF (s := sAccount) 0 (i) 5 0 _ rfl rfl rfl rfl (getDE (d := default) (by omega)) (by decide) (fun _ => rfl) (SubD.cons 0 rfl SubD.nil) one_66<|nl (od0H rfl rfl (SubD.tail SubD.refl))
      trivial
    ·
      intro V _
      refine wkQ (L := [row 70 v6 S.fAccounts, bl b2 55 [.int .i64 0, .int .i64 0, .bool false, .string ByteArray.empty, .string ByteArray.empty, .int .i64 0, .slice none 0 0, .slice none 0 0, .slice none 0 0, .slice none 0 0, .slice none 0 0, .int .i64 0, .int .i64 0, .int .i64 0, .string ByteArray.empty, .string ByteArray.empty, .int .i64 0, .int .i64 0, .int .i64 0, .int .i64 0, .int .i64 0, .string ByteArray.empty, .string ByteArray.empty, .int .i64 0, .int .i64 0, .slice none 0 0, .int .i64 0, .int .i64 0, .int .i64 0], bl b1 55 [.int .i64 S.fGroup, .int .i64 S.fIndex, .bool (S.fOwns), .string S.fLo, .string S.fHi, .int .i64 S.fEpoch, v6, s_1, s_2, s_3, s_4, .int .i64 S.fSeal.fNumber, .int .i64 S.fSeal.fFrom, .int .i64 S.fSeal.fTo, .string S.fSeal.fLo, .string S.fSeal.fHi, .int .i64 S.fSeal.fClient, .int .i64 S.fSeal.fSeq, .int .i64 S.fOut.fNumber, .int .i64 S.fOut.fFrom, .int .i64 S.fOut.fTo, .string S.fOut.fLo, .string S.fOut.fHi, .int .i64 S.fOut.fClient, .int .i64 S.fOut.fSeq, s_5, .int .i64 S.fAbsorbed, .int .i64 S.fRefused, .int .i64 S.fUndone], fz X w]) [(1, _), (2, _), (10, _), (11, _)] [_, _, _, _, _, _] ⟨rfl, rfl, rfl, rfl, trivial⟩ (SubD.cons 2 rfl (SubD.cons 3 rfl (SubD.cons 4 rfl (SubD.cons 5 rfl (SubD.cons 6 rfl (SubD.cons 7 rfl SubD.nil))))))<|bN<|nx<|rg<|adI rfl rfl (inI (by omega) (by omega)) rfl<|mv rfl rfl<|nl ?_
      exact ag (i + 1) (by omega) (by omega) ⟨rfl, rfl, rfl, rfl, trivial⟩ rfl (SubD.cons 0 rfl (SubD.cons 1 rfl (SubD.cons 2 rfl (SubD.cons 3 rfl (SubD.cons 4 rfl (SubD.cons 5 rfl SubD.nil))))))
  ·
    refine ex<|tE<|tE<|bE<|nx<|sq ?_
    refine rgH ⟨fun q_ => ([[], [0], [1], [], [3], [4], [], [6], [7], [], [9], [10], [], [12], [13], [], [15, 2], [], [17, 5], [], [19, 8], [], [21, 11], [], [23, 14]] : List (List Nat)).getD q_ [], fun _ _ => True, fun q_ => ([fun _ => [], fun _ => [], fun u => [⟨u, S.fMarks⟩], fun _ => [], fun _ => [], fun u => [⟨u, S.fWaits⟩], fun _ => [], fun _ => [], fun u => [⟨u, S.fDeals⟩], fun _ => [], fun _ => [], fun u => [⟨u, S.fEnds⟩], fun _ => [], fun _ => [], fun u => [⟨u, S.fImage⟩], fun _ => [], fun _ => [], fun _ => [], fun _ => [], fun _ => [], fun _ => [], fun _ => [], fun _ => [], fun _ => [], fun _ => []] : List (Value → List Atom)).getD q_ (fun _ => []), fun q_ => ([some (.pointer (some ⟨b1, 7, none⟩)), some (s_1), none, some (.pointer (some ⟨b1, 8, none⟩)), some (s_2), none, some (.pointer (some ⟨b1, 9, none⟩)), some (s_3), none, some (.pointer (some ⟨b1, 10, none⟩)), some (s_4), none, some (.pointer (some ⟨b1, 25, none⟩)), some (s_5), none, some (.pointer (some ⟨b1, 7, none⟩)), none, some (.pointer (some ⟨b1, 8, none⟩)), none, some (.pointer (some ⟨b1, 9, none⟩)), none, some (.pointer (some ⟨b1, 10, none⟩)), none, some (.pointer (some ⟨b1, 25, none⟩)), none] : List (Option Value)).getD q_ none, fun h_ => match h_ with
        | [] => fun vs_ => [row 70 v6 S.fAccounts, bl b2 55 [.int .i64 0, .int .i64 0, .bool false, .string ByteArray.empty, .string ByteArray.empty, .int .i64 0, .slice none 0 0, .slice none 0 0, .slice none 0 0, .slice none 0 0, .slice none 0 0, .int .i64 0, .int .i64 0, .int .i64 0, .string ByteArray.empty, .string ByteArray.empty, .int .i64 0, .int .i64 0, .int .i64 0, .int .i64 0, .int .i64 0, .string ByteArray.empty, .string ByteArray.empty, .int .i64 0, .int .i64 0, .slice none 0 0, .int .i64 0, .int .i64 0, .int .i64 0], bl b1 55 [.int .i64 S.fGroup, .int .i64 S.fIndex, .bool (S.fOwns), .string S.fLo, .string S.fHi, .int .i64 S.fEpoch, v6, s_1, s_2, s_3, s_4, .int .i64 S.fSeal.fNumber, .int .i64 S.fSeal.fFrom, .int .i64 S.fSeal.fTo, .string S.fSeal.fLo, .string S.fSeal.fHi, .int .i64 S.fSeal.fClient, .int .i64 S.fSeal.fSeq, .int .i64 S.fOut.fNumber, .int .i64 S.fOut.fFrom, .int .i64 S.fOut.fTo, .string S.fOut.fLo, .string S.fOut.fHi, .int .i64 S.fOut.fClient, .int .i64 S.fOut.fSeq, s_5, .int .i64 S.fAbsorbed, .int .i64 S.fRefused, .int .i64 S.fUndone], fz X w]
        | [2] => fun vs_ => [row 70 v6 S.fAccounts, bl b2 55 [.int .i64 0, .int .i64 0, .bool false, .string ByteArray.empty, .string ByteArray.empty, .int .i64 0, .slice none 0 0, .slice none 0 0, .slice none 0 0, .slice none 0 0, .slice none 0 0, .int .i64 0, .int .i64 0, .int .i64 0, .string ByteArray.empty, .string ByteArray.empty, .int .i64 0, .int .i64 0, .int .i64 0, .int .i64 0, .int .i64 0, .string ByteArray.empty, .string ByteArray.empty, .int .i64 0, .int .i64 0, .slice none 0 0, .int .i64 0, .int .i64 0, .int .i64 0], bl b1 55 [.int .i64 S.fGroup, .int .i64 S.fIndex, .bool (S.fOwns), .string S.fLo, .string S.fHi, .int .i64 S.fEpoch, v6, s_1, s_2, s_3, s_4, .int .i64 S.fSeal.fNumber, .int .i64 S.fSeal.fFrom, .int .i64 S.fSeal.fTo, .string S.fSeal.fLo, .string S.fSeal.fHi, .int .i64 S.fSeal.fClient, .int .i64 S.fSeal.fSeq, .int .i64 S.fOut.fNumber, .int .i64 S.fOut.fFrom, .int .i64 S.fOut.fTo, .string S.fOut.fLo, .string S.fOut.fHi, .int .i64 S.fOut.fClient, .int .i64 S.fOut.fSeq, s_5, .int .i64 S.fAbsorbed, .int .i64 S.fRefused, .int .i64 S.fUndone], fz X w]
        | [2, 5] => fun vs_ => [row 70 v6 S.fAccounts, bl b2 55 [.int .i64 0, .int .i64 0, .bool false, .string ByteArray.empty, .string ByteArray.empty, .int .i64 0, .slice none 0 0, .slice none 0 0, .slice none 0 0, .slice none 0 0, .slice none 0 0, .int .i64 0, .int .i64 0, .int .i64 0, .string ByteArray.empty, .string ByteArray.empty, .int .i64 0, .int .i64 0, .int .i64 0, .int .i64 0, .int .i64 0, .string ByteArray.empty, .string ByteArray.empty, .int .i64 0, .int .i64 0, .slice none 0 0, .int .i64 0, .int .i64 0, .int .i64 0], bl b1 55 [.int .i64 S.fGroup, .int .i64 S.fIndex, .bool (S.fOwns), .string S.fLo, .string S.fHi, .int .i64 S.fEpoch, v6, s_1, s_2, s_3, s_4, .int .i64 S.fSeal.fNumber, .int .i64 S.fSeal.fFrom, .int .i64 S.fSeal.fTo, .string S.fSeal.fLo, .string S.fSeal.fHi, .int .i64 S.fSeal.fClient, .int .i64 S.fSeal.fSeq, .int .i64 S.fOut.fNumber, .int .i64 S.fOut.fFrom, .int .i64 S.fOut.fTo, .string S.fOut.fLo, .string S.fOut.fHi, .int .i64 S.fOut.fClient, .int .i64 S.fOut.fSeq, s_5, .int .i64 S.fAbsorbed, .int .i64 S.fRefused, .int .i64 S.fUndone], fz X w]
        | [2, 5, 8] => fun vs_ => [row 70 v6 S.fAccounts, bl b2 55 [.int .i64 0, .int .i64 0, .bool false, .string ByteArray.empty, .string ByteArray.empty, .int .i64 0, .slice none 0 0, .slice none 0 0, .slice none 0 0, .slice none 0 0, .slice none 0 0, .int .i64 0, .int .i64 0, .int .i64 0, .string ByteArray.empty, .string ByteArray.empty, .int .i64 0, .int .i64 0, .int .i64 0, .int .i64 0, .int .i64 0, .string ByteArray.empty, .string ByteArray.empty, .int .i64 0, .int .i64 0, .slice none 0 0, .int .i64 0, .int .i64 0, .int .i64 0], bl b1 55 [.int .i64 S.fGroup, .int .i64 S.fIndex, .bool (S.fOwns), .string S.fLo, .string S.fHi, .int .i64 S.fEpoch, v6, s_1, s_2, s_3, s_4, .int .i64 S.fSeal.fNumber, .int .i64 S.fSeal.fFrom, .int .i64 S.fSeal.fTo, .string S.fSeal.fLo, .string S.fSeal.fHi, .int .i64 S.fSeal.fClient, .int .i64 S.fSeal.fSeq, .int .i64 S.fOut.fNumber, .int .i64 S.fOut.fFrom, .int .i64 S.fOut.fTo, .string S.fOut.fLo, .string S.fOut.fHi, .int .i64 S.fOut.fClient, .int .i64 S.fOut.fSeq, s_5, .int .i64 S.fAbsorbed, .int .i64 S.fRefused, .int .i64 S.fUndone], fz X w]
        | [2, 5, 8, 11] => fun vs_ => [row 70 v6 S.fAccounts, bl b2 55 [.int .i64 0, .int .i64 0, .bool false, .string ByteArray.empty, .string ByteArray.empty, .int .i64 0, .slice none 0 0, .slice none 0 0, .slice none 0 0, .slice none 0 0, .slice none 0 0, .int .i64 0, .int .i64 0, .int .i64 0, .string ByteArray.empty, .string ByteArray.empty, .int .i64 0, .int .i64 0, .int .i64 0, .int .i64 0, .int .i64 0, .string ByteArray.empty, .string ByteArray.empty, .int .i64 0, .int .i64 0, .slice none 0 0, .int .i64 0, .int .i64 0, .int .i64 0], bl b1 55 [.int .i64 S.fGroup, .int .i64 S.fIndex, .bool (S.fOwns), .string S.fLo, .string S.fHi, .int .i64 S.fEpoch, v6, s_1, s_2, s_3, s_4, .int .i64 S.fSeal.fNumber, .int .i64 S.fSeal.fFrom, .int .i64 S.fSeal.fTo, .string S.fSeal.fLo, .string S.fSeal.fHi, .int .i64 S.fSeal.fClient, .int .i64 S.fSeal.fSeq, .int .i64 S.fOut.fNumber, .int .i64 S.fOut.fFrom, .int .i64 S.fOut.fTo, .string S.fOut.fLo, .string S.fOut.fHi, .int .i64 S.fOut.fClient, .int .i64 S.fOut.fSeq, s_5, .int .i64 S.fAbsorbed, .int .i64 S.fRefused, .int .i64 S.fUndone], fz X w]
        | [2, 5, 8, 11, 14] => fun vs_ => [row 70 v6 S.fAccounts, bl b2 55 [.int .i64 0, .int .i64 0, .bool false, .string ByteArray.empty, .string ByteArray.empty, .int .i64 0, .slice none 0 0, .slice none 0 0, .slice none 0 0, .slice none 0 0, .slice none 0 0, .int .i64 0, .int .i64 0, .int .i64 0, .string ByteArray.empty, .string ByteArray.empty, .int .i64 0, .int .i64 0, .int .i64 0, .int .i64 0, .int .i64 0, .string ByteArray.empty, .string ByteArray.empty, .int .i64 0, .int .i64 0, .slice none 0 0, .int .i64 0, .int .i64 0, .int .i64 0], bl b1 55 [.int .i64 S.fGroup, .int .i64 S.fIndex, .bool (S.fOwns), .string S.fLo, .string S.fHi, .int .i64 S.fEpoch, v6, s_1, s_2, s_3, s_4, .int .i64 S.fSeal.fNumber, .int .i64 S.fSeal.fFrom, .int .i64 S.fSeal.fTo, .string S.fSeal.fLo, .string S.fSeal.fHi, .int .i64 S.fSeal.fClient, .int .i64 S.fSeal.fSeq, .int .i64 S.fOut.fNumber, .int .i64 S.fOut.fFrom, .int .i64 S.fOut.fTo, .string S.fOut.fLo, .string S.fOut.fHi, .int .i64 S.fOut.fClient, .int .i64 S.fOut.fSeq, s_5, .int .i64 S.fAbsorbed, .int .i64 S.fRefused, .int .i64 S.fUndone], fz X w]
        | [2, 5, 8, 11, 14, 16] => fun vs_ => [row 70 v6 S.fAccounts, bl b2 55 [.int .i64 0, .int .i64 0, .bool false, .string ByteArray.empty, .string ByteArray.empty, .int .i64 0, .slice none 0 0, .slice none 0 0, .slice none 0 0, .slice none 0 0, .slice none 0 0, .int .i64 0, .int .i64 0, .int .i64 0, .string ByteArray.empty, .string ByteArray.empty, .int .i64 0, .int .i64 0, .int .i64 0, .int .i64 0, .int .i64 0, .string ByteArray.empty, .string ByteArray.empty, .int .i64 0, .int .i64 0, .slice none 0 0, .int .i64 0, .int .i64 0, .int .i64 0], bl b1 55 [.int .i64 S.fGroup, .int .i64 S.fIndex, .bool (S.fOwns), .string S.fLo, .string S.fHi, .int .i64 S.fEpoch, v6, (vs_.getD 0 undef), s_2, s_3, s_4, .int .i64 S.fSeal.fNumber, .int .i64 S.fSeal.fFrom, .int .i64 S.fSeal.fTo, .string S.fSeal.fLo, .string S.fSeal.fHi, .int .i64 S.fSeal.fClient, .int .i64 S.fSeal.fSeq, .int .i64 S.fOut.fNumber, .int .i64 S.fOut.fFrom, .int .i64 S.fOut.fTo, .string S.fOut.fLo, .string S.fOut.fHi, .int .i64 S.fOut.fClient, .int .i64 S.fOut.fSeq, s_5, .int .i64 S.fAbsorbed, .int .i64 S.fRefused, .int .i64 S.fUndone], fz X w]
        | [2, 5, 8, 11, 14, 16, 18] => fun vs_ => [row 70 v6 S.fAccounts, bl b2 55 [.int .i64 0, .int .i64 0, .bool false, .string ByteArray.empty, .string ByteArray.empty, .int .i64 0, .slice none 0 0, .slice none 0 0, .slice none 0 0, .slice none 0 0, .slice none 0 0, .int .i64 0, .int .i64 0, .int .i64 0, .string ByteArray.empty, .string ByteArray.empty, .int .i64 0, .int .i64 0, .int .i64 0, .int .i64 0, .int .i64 0, .string ByteArray.empty, .string ByteArray.empty, .int .i64 0, .int .i64 0, .slice none 0 0, .int .i64 0, .int .i64 0, .int .i64 0], bl b1 55 [.int .i64 S.fGroup, .int .i64 S.fIndex, .bool (S.fOwns), .string S.fLo, .string S.fHi, .int .i64 S.fEpoch, v6, (vs_.getD 0 undef), (vs_.getD 1 undef), s_3, s_4, .int .i64 S.fSeal.fNumber, .int .i64 S.fSeal.fFrom, .int .i64 S.fSeal.fTo, .string S.fSeal.fLo, .string S.fSeal.fHi, .int .i64 S.fSeal.fClient, .int .i64 S.fSeal.fSeq, .int .i64 S.fOut.fNumber, .int .i64 S.fOut.fFrom, .int .i64 S.fOut.fTo, .string S.fOut.fLo, .string S.fOut.fHi, .int .i64 S.fOut.fClient, .int .i64 S.fOut.fSeq, s_5, .int .i64 S.fAbsorbed, .int .i64 S.fRefused, .int .i64 S.fUndone], fz X w]
        | [2, 5, 8, 11, 14, 16, 18, 20] => fun vs_ => [row 70 v6 S.fAccounts, bl b2 55 [.int .i64 0, .int .i64 0, .bool false, .string ByteArray.empty, .string ByteArray.empty, .int .i64 0, .slice none 0 0, .slice none 0 0, .slice none 0 0, .slice none 0 0, .slice none 0 0, .int .i64 0, .int .i64 0, .int .i64 0, .string ByteArray.empty, .string ByteArray.empty, .int .i64 0, .int .i64 0, .int .i64 0, .int .i64 0, .int .i64 0, .string ByteArray.empty, .string ByteArray.empty, .int .i64 0, .int .i64 0, .slice none 0 0, .int .i64 0, .int .i64 0, .int .i64 0], bl b1 55 [.int .i64 S.fGroup, .int .i64 S.fIndex, .bool (S.fOwns), .string S.fLo, .string S.fHi, .int .i64 S.fEpoch, v6, (vs_.getD 0 undef), (vs_.getD 1 undef), (vs_.getD 2 undef), s_4, .int .i64 S.fSeal.fNumber, .int .i64 S.fSeal.fFrom, .int .i64 S.fSeal.fTo, .string S.fSeal.fLo, .string S.fSeal.fHi, .int .i64 S.fSeal.fClient, .int .i64 S.fSeal.fSeq, .int .i64 S.fOut.fNumber, .int .i64 S.fOut.fFrom, .int .i64 S.fOut.fTo, .string S.fOut.fLo, .string S.fOut.fHi, .int .i64 S.fOut.fClient, .int .i64 S.fOut.fSeq, s_5, .int .i64 S.fAbsorbed, .int .i64 S.fRefused, .int .i64 S.fUndone], fz X w]
        | [2, 5, 8, 11, 14, 16, 18, 20, 22] => fun vs_ => [row 70 v6 S.fAccounts, bl b2 55 [.int .i64 0, .int .i64 0, .bool false, .string ByteArray.empty, .string ByteArray.empty, .int .i64 0, .slice none 0 0, .slice none 0 0, .slice none 0 0, .slice none 0 0, .slice none 0 0, .int .i64 0, .int .i64 0, .int .i64 0, .string ByteArray.empty, .string ByteArray.empty, .int .i64 0, .int .i64 0, .int .i64 0, .int .i64 0, .int .i64 0, .string ByteArray.empty, .string ByteArray.empty, .int .i64 0, .int .i64 0, .slice none 0 0, .int .i64 0, .int .i64 0, .int .i64 0], bl b1 55 [.int .i64 S.fGroup, .int .i64 S.fIndex, .bool (S.fOwns), .string S.fLo, .string S.fHi, .int .i64 S.fEpoch, v6, (vs_.getD 0 undef), (vs_.getD 1 undef), (vs_.getD 2 undef), (vs_.getD 3 undef), .int .i64 S.fSeal.fNumber, .int .i64 S.fSeal.fFrom, .int .i64 S.fSeal.fTo, .string S.fSeal.fLo, .string S.fSeal.fHi, .int .i64 S.fSeal.fClient, .int .i64 S.fSeal.fSeq, .int .i64 S.fOut.fNumber, .int .i64 S.fOut.fFrom, .int .i64 S.fOut.fTo, .string S.fOut.fLo, .string S.fOut.fHi, .int .i64 S.fOut.fClient, .int .i64 S.fOut.fSeq, s_5, .int .i64 S.fAbsorbed, .int .i64 S.fRefused, .int .i64 S.fUndone], fz X w]
        | [2, 5, 8, 11, 14, 16, 18, 20, 22, 24] => fun vs_ => [row 70 v6 S.fAccounts, bl b2 55 [.int .i64 0, .int .i64 0, .bool false, .string ByteArray.empty, .string ByteArray.empty, .int .i64 0, .slice none 0 0, .slice none 0 0, .slice none 0 0, .slice none 0 0, .slice none 0 0, .int .i64 0, .int .i64 0, .int .i64 0, .string ByteArray.empty, .string ByteArray.empty, .int .i64 0, .int .i64 0, .int .i64 0, .int .i64 0, .int .i64 0, .string ByteArray.empty, .string ByteArray.empty, .int .i64 0, .int .i64 0, .slice none 0 0, .int .i64 0, .int .i64 0, .int .i64 0], bl b1 55 [.int .i64 S.fGroup, .int .i64 S.fIndex, .bool (S.fOwns), .string S.fLo, .string S.fHi, .int .i64 S.fEpoch, v6, (vs_.getD 0 undef), (vs_.getD 1 undef), (vs_.getD 2 undef), (vs_.getD 3 undef), .int .i64 S.fSeal.fNumber, .int .i64 S.fSeal.fFrom, .int .i64 S.fSeal.fTo, .string S.fSeal.fLo, .string S.fSeal.fHi, .int .i64 S.fSeal.fClient, .int .i64 S.fSeal.fSeq, .int .i64 S.fOut.fNumber, .int .i64 S.fOut.fFrom, .int .i64 S.fOut.fTo, .string S.fOut.fLo, .string S.fOut.fHi, .int .i64 S.fOut.fClient, .int .i64 S.fOut.fSeq, (vs_.getD 4 undef), .int .i64 S.fAbsorbed, .int .i64 S.fRefused, .int .i64 S.fUndone], fz X w]
        | _ => fun _ => [], [2, 5, 8, 11, 14, 16, 18, 20, 22, 24], [[], [2], [2, 5], [2, 5, 8], [2, 5, 8, 11], [2, 5, 8, 11, 14], [2, 5, 8, 11, 14, 16], [2, 5, 8, 11, 14, 16, 18], [2, 5, 8, 11, 14, 16, 18, 20], [2, 5, 8, 11, 14, 16, 18, 20, 22], [2, 5, 8, 11, 14, 16, 18, 20, 22, 24]]⟩ (fun V => [row 70 v6 S.fAccounts, bl b2 55 [.int .i64 0, .int .i64 0, .bool false, .string ByteArray.empty, .string ByteArray.empty, .int .i64 0, .slice none 0 0, .slice none 0 0, .slice none 0 0, .slice none 0 0, .slice none 0 0, .int .i64 0, .int .i64 0, .int .i64 0, .string ByteArray.empty, .string ByteArray.empty, .int .i64 0, .int .i64 0, .int .i64 0, .int .i64 0, .int .i64 0, .string ByteArray.empty, .string ByteArray.empty, .int .i64 0, .int .i64 0, .slice none 0 0, .int .i64 0, .int .i64 0, .int .i64 0], bl b1 55 [.int .i64 S.fGroup, .int .i64 S.fIndex, .bool (S.fOwns), .string S.fLo, .string S.fHi, .int .i64 S.fEpoch, v6, (V 2), (V 5), (V 8), (V 11), .int .i64 S.fSeal.fNumber, .int .i64 S.fSeal.fFrom, .int .i64 S.fSeal.fTo, .string S.fSeal.fLo, .string S.fSeal.fHi, .int .i64 S.fSeal.fClient, .int .i64 S.fSeal.fSeq, .int .i64 S.fOut.fNumber, .int .i64 S.fOut.fFrom, .int .i64 S.fOut.fTo, .string S.fOut.fLo, .string S.fOut.fHi, .int .i64 S.fOut.fClient, .int .i64 S.fOut.fSeq, (V 14), .int .i64 S.fAbsorbed, .int .i64 S.fRefused, .int .i64 S.fUndone], fz X w]) mixed rfl rfl (show AllP _ [[2, 5, 8, 11, 14, 16, 18, 20, 22, 24]] from ⟨fun _ => rfl, trivial⟩) ?_ ?_
    ·
      refine ⟨fun V De _ => (show AllP _ [[], [2], [2, 5], [2, 5, 8], [2, 5, 8, 11], [2, 5, 8, 11, 14]] from ⟨?_, ?_, ?_, ?_, ?_, ?_, trivial⟩), ?_⟩
      ·
        exact fa rfl fld_55_7 rfl<|nl (odH rfl rfl rfl rfl SubD.nil SubD.refl)
      ·
        exact fa rfl fld_55_7 rfl<|nl (odH rfl rfl rfl rfl SubD.nil SubD.refl)
      ·
        exact fa rfl fld_55_7 rfl<|nl (odH rfl rfl rfl rfl SubD.nil SubD.refl)
      ·
        exact fa rfl fld_55_7 rfl<|nl (odH rfl rfl rfl rfl SubD.nil SubD.refl)
      ·
        exact fa rfl fld_55_7 rfl<|nl (odH rfl rfl rfl rfl SubD.nil SubD.refl)
      ·
        exact fa rfl fld_55_7 rfl<|nl (odH rfl rfl rfl rfl SubD.nil SubD.refl)
      refine ⟨fun V De _ => (show AllP _ [[]] from ⟨?_, trivial⟩), ?_⟩
      ·
        exact ldB 2 rfl rfl one_25 rfl rfl<|nl (odH rfl rfl rfl rfl SubD.nil SubD.refl)
      refine ⟨fun V De _ => (show AllP _ [[]] from ⟨?_, trivial⟩), ?_⟩
      ·
        exact cf (cloneMk_c _ _ hb.marks) ok_72 rfl (SubD.cons 1 rfl SubD.nil) rfl fun _ v29 _ => nl (odH rfl rfl rfl trivial (SubD.cons 0 rfl SubD.nil) (SubD.tail SubD.refl))
      refine ⟨fun V De _ => (show AllP _ [[], [2], [2, 5], [2, 5, 8], [2, 5, 8, 11], [2, 5, 8, 11, 14]] from ⟨?_, ?_, ?_, ?_, ?_, ?_, trivial⟩), ?_⟩
      ·
        exact fa rfl fld_55_8 rfl<|nl (odH rfl rfl rfl rfl SubD.nil SubD.refl)
      ·
        exact fa rfl fld_55_8 rfl<|nl (odH rfl rfl rfl rfl SubD.nil SubD.refl)
      ·
        exact fa rfl fld_55_8 rfl<|nl (odH rfl rfl rfl rfl SubD.nil SubD.refl)
      ·
        exact fa rfl fld_55_8 rfl<|nl (odH rfl rfl rfl rfl SubD.nil SubD.refl)
      ·
        exact fa rfl fld_55_8 rfl<|nl (odH rfl rfl rfl rfl SubD.nil SubD.refl)
      ·
        exact fa rfl fld_55_8 rfl<|nl (odH rfl rfl rfl rfl SubD.nil SubD.refl)
      refine ⟨fun V De _ => (show AllP _ [[], [2]] from ⟨?_, ?_, trivial⟩), ?_⟩
      ·
        exact ldB 2 rfl rfl one_51 rfl rfl<|nl (odH rfl rfl rfl rfl SubD.nil SubD.refl)
      ·
        exact ldB 2 rfl rfl one_51 rfl rfl<|nl (odH rfl rfl rfl rfl SubD.nil SubD.refl)
      refine ⟨fun V De _ => (show AllP _ [[2]] from ⟨?_, trivial⟩), ?_⟩
      ·
        exact cf (cloneWt_c _ _ hb.waits) ok_145 rfl (SubD.cons 2 rfl SubD.nil) rfl fun _ v32 _ => nl (odH rfl rfl rfl trivial (SubD.cons 0 rfl SubD.nil) (SubD.tail SubD.refl))
      refine ⟨fun V De _ => (show AllP _ [[], [2], [2, 5], [2, 5, 8], [2, 5, 8, 11], [2, 5, 8, 11, 14]] from ⟨?_, ?_, ?_, ?_, ?_, ?_, trivial⟩), ?_⟩
      ·
        exact fa rfl fld_55_9 rfl<|nl (odH rfl rfl rfl rfl SubD.nil SubD.refl)
      ·
        exact fa rfl fld_55_9 rfl<|nl (odH rfl rfl rfl rfl SubD.nil SubD.refl)
      ·
        exact fa rfl fld_55_9 rfl<|nl (odH rfl rfl rfl rfl SubD.nil SubD.refl)
      ·
        exact fa rfl fld_55_9 rfl<|nl (odH rfl rfl rfl rfl SubD.nil SubD.refl)
      ·
        exact fa rfl fld_55_9 rfl<|nl (odH rfl rfl rfl rfl SubD.nil SubD.refl)
      ·
        exact fa rfl fld_55_9 rfl<|nl (odH rfl rfl rfl rfl SubD.nil SubD.refl)
      refine ⟨fun V De _ => (show AllP _ [[], [2], [2, 5]] from ⟨?_, ?_, ?_, trivial⟩), ?_⟩
      ·
        exact ldB 2 rfl rfl one_52 rfl rfl<|nl (odH rfl rfl rfl rfl SubD.nil SubD.refl)
      ·
        exact ldB 2 rfl rfl one_52 rfl rfl<|nl (odH rfl rfl rfl rfl SubD.nil SubD.refl)
      ·
        exact ldB 2 rfl rfl one_52 rfl rfl<|nl (odH rfl rfl rfl rfl SubD.nil SubD.refl)
      refine ⟨fun V De _ => (show AllP _ [[2, 5]] from ⟨?_, trivial⟩), ?_⟩
      ·
        exact cf (cloneDl_c _ _ hb.deals) ok_146 rfl (SubD.cons 3 rfl SubD.nil) rfl fun _ v35 _ => nl (odH rfl rfl rfl trivial (SubD.cons 0 rfl SubD.nil) (SubD.tail SubD.refl))
      refine ⟨fun V De _ => (show AllP _ [[], [2], [2, 5], [2, 5, 8], [2, 5, 8, 11], [2, 5, 8, 11, 14]] from ⟨?_, ?_, ?_, ?_, ?_, ?_, trivial⟩), ?_⟩
      ·
        exact fa rfl fld_55_10 rfl<|nl (odH rfl rfl rfl rfl SubD.nil SubD.refl)
      ·
        exact fa rfl fld_55_10 rfl<|nl (odH rfl rfl rfl rfl SubD.nil SubD.refl)
      ·
        exact fa rfl fld_55_10 rfl<|nl (odH rfl rfl rfl rfl SubD.nil SubD.refl)
      ·
        exact fa rfl fld_55_10 rfl<|nl (odH rfl rfl rfl rfl SubD.nil SubD.refl)
      ·
        exact fa rfl fld_55_10 rfl<|nl (odH rfl rfl rfl rfl SubD.nil SubD.refl)
      ·
        exact fa rfl fld_55_10 rfl<|nl (odH rfl rfl rfl rfl SubD.nil SubD.refl)
      refine ⟨fun V De _ => (show AllP _ [[], [2], [2, 5], [2, 5, 8]] from ⟨?_, ?_, ?_, ?_, trivial⟩), ?_⟩
      ·
        exact ldB 2 rfl rfl one_53 rfl rfl<|nl (odH rfl rfl rfl rfl SubD.nil SubD.refl)
      ·
        exact ldB 2 rfl rfl one_53 rfl rfl<|nl (odH rfl rfl rfl rfl SubD.nil SubD.refl)
      ·
        exact ldB 2 rfl rfl one_53 rfl rfl<|nl (odH rfl rfl rfl rfl SubD.nil SubD.refl)
      ·
        exact ldB 2 rfl rfl one_53 rfl rfl<|nl (odH rfl rfl rfl rfl SubD.nil SubD.refl)
      refine ⟨fun V De _ => (show AllP _ [[2, 5, 8]] from ⟨?_, trivial⟩), ?_⟩
      ·
        exact cf (cloneEn_c _ _ hb.ends) ok_147 rfl (SubD.cons 4 rfl SubD.nil) rfl fun _ v38 _ => nl (odH rfl rfl rfl trivial (SubD.cons 0 rfl SubD.nil) (SubD.tail SubD.refl))
      refine ⟨fun V De _ => (show AllP _ [[], [2], [2, 5], [2, 5, 8], [2, 5, 8, 11], [2, 5, 8, 11, 14]] from ⟨?_, ?_, ?_, ?_, ?_, ?_, trivial⟩), ?_⟩
      ·
        exact fa rfl fld_55_13 rfl<|nl (odH rfl rfl rfl rfl SubD.nil SubD.refl)
      ·
        exact fa rfl fld_55_13 rfl<|nl (odH rfl rfl rfl rfl SubD.nil SubD.refl)
      ·
        exact fa rfl fld_55_13 rfl<|nl (odH rfl rfl rfl rfl SubD.nil SubD.refl)
      ·
        exact fa rfl fld_55_13 rfl<|nl (odH rfl rfl rfl rfl SubD.nil SubD.refl)
      ·
        exact fa rfl fld_55_13 rfl<|nl (odH rfl rfl rfl rfl SubD.nil SubD.refl)
      ·
        exact fa rfl fld_55_13 rfl<|nl (odH rfl rfl rfl rfl SubD.nil SubD.refl)
      refine ⟨fun V De _ => (show AllP _ [[], [2], [2, 5], [2, 5, 8], [2, 5, 8, 11]] from ⟨?_, ?_, ?_, ?_, ?_, trivial⟩), ?_⟩
      ·
        exact ldB 2 rfl rfl one_35 rfl rfl<|nl (odH rfl rfl rfl rfl SubD.nil SubD.refl)
      ·
        exact ldB 2 rfl rfl one_35 rfl rfl<|nl (odH rfl rfl rfl rfl SubD.nil SubD.refl)
      ·
        exact ldB 2 rfl rfl one_35 rfl rfl<|nl (odH rfl rfl rfl rfl SubD.nil SubD.refl)
      ·
        exact ldB 2 rfl rfl one_35 rfl rfl<|nl (odH rfl rfl rfl rfl SubD.nil SubD.refl)
      ·
        exact ldB 2 rfl rfl one_35 rfl rfl<|nl (odH rfl rfl rfl rfl SubD.nil SubD.refl)
      refine ⟨fun V De _ => (show AllP _ [[2, 5, 8, 11]] from ⟨?_, trivial⟩), ?_⟩
      ·
        exact cf (Rdr.clone_c _ _ hb.image) ok_107 rfl (SubD.cons 5 rfl SubD.nil) rfl fun _ v41 _ => nl (odH rfl rfl rfl trivial (SubD.cons 0 rfl SubD.nil) (SubD.tail SubD.refl))
      refine ⟨fun V De _ => (show AllP _ [[2], [2, 5], [2, 5, 8], [2, 5, 8, 11], [2, 5, 8, 11, 14]] from ⟨?_, ?_, ?_, ?_, ?_, trivial⟩), ?_⟩
      ·
        exact fa rfl fld_55_7 rfl<|nl (odH rfl rfl rfl rfl SubD.nil SubD.refl)
      ·
        exact fa rfl fld_55_7 rfl<|nl (odH rfl rfl rfl rfl SubD.nil SubD.refl)
      ·
        exact fa rfl fld_55_7 rfl<|nl (odH rfl rfl rfl rfl SubD.nil SubD.refl)
      ·
        exact fa rfl fld_55_7 rfl<|nl (odH rfl rfl rfl rfl SubD.nil SubD.refl)
      ·
        exact fa rfl fld_55_7 rfl<|nl (odH rfl rfl rfl rfl SubD.nil SubD.refl)
      refine ⟨fun V De _ => (show AllP _ [[2, 5, 8, 11, 14]] from ⟨?_, trivial⟩), ?_⟩
      ·
        exact stL 2 0 rfl rfl rfl rfl one_25 (Nat.lt_of_lt_of_le (Nat.lt_succ_self _) (Nat.le_of_ble_eq_true rfl))<|nl (od0H rfl rfl (SubD.tail SubD.refl))
      refine ⟨fun V De _ => (show AllP _ [[2, 5, 8, 11, 14, 16]] from ⟨?_, trivial⟩), ?_⟩
      ·
        exact fa rfl fld_55_8 rfl<|nl (odH rfl rfl rfl rfl SubD.nil SubD.refl)
      refine ⟨fun V De _ => (show AllP _ [[2, 5, 8, 11, 14, 16]] from ⟨?_, trivial⟩), ?_⟩
      ·
        exact stL 2 0 rfl rfl rfl rfl one_51 (Nat.lt_of_lt_of_le (Nat.lt_succ_self _) (Nat.le_of_ble_eq_true rfl))<|nl (od0H rfl rfl (SubD.tail SubD.refl))
      refine ⟨fun V De _ => (show AllP _ [[2, 5, 8, 11, 14, 16, 18]] from ⟨?_, trivial⟩), ?_⟩
      ·
        exact fa rfl fld_55_9 rfl<|nl (odH rfl rfl rfl rfl SubD.nil SubD.refl)
      refine ⟨fun V De _ => (show AllP _ [[2, 5, 8, 11, 14, 16, 18]] from ⟨?_, trivial⟩), ?_⟩
      ·
        exact stL 2 0 rfl rfl rfl rfl one_52 (Nat.lt_of_lt_of_le (Nat.lt_succ_self _) (Nat.le_of_ble_eq_true rfl))<|nl (od0H rfl rfl (SubD.tail SubD.refl))
      refine ⟨fun V De _ => (show AllP _ [[2, 5, 8, 11, 14, 16, 18, 20]] from ⟨?_, trivial⟩), ?_⟩
      ·
        exact fa rfl fld_55_10 rfl<|nl (odH rfl rfl rfl rfl SubD.nil SubD.refl)
      refine ⟨fun V De _ => (show AllP _ [[2, 5, 8, 11, 14, 16, 18, 20]] from ⟨?_, trivial⟩), ?_⟩
      ·
        exact stL 2 0 rfl rfl rfl rfl one_53 (Nat.lt_of_lt_of_le (Nat.lt_succ_self _) (Nat.le_of_ble_eq_true rfl))<|nl (od0H rfl rfl (SubD.tail SubD.refl))
      refine ⟨fun V De _ => (show AllP _ [[2, 5, 8, 11, 14, 16, 18, 20, 22]] from ⟨?_, trivial⟩), ?_⟩
      ·
        exact fa rfl fld_55_13 rfl<|nl (odH rfl rfl rfl rfl SubD.nil SubD.refl)
      refine ⟨fun V De _ => (show AllP _ [[2, 5, 8, 11, 14, 16, 18, 20, 22]] from ⟨?_, trivial⟩), ?_⟩
      ·
        exact stL 2 0 rfl rfl rfl rfl one_35 (Nat.lt_of_lt_of_le (Nat.lt_succ_self _) (Nat.le_of_ble_eq_true rfl))<|nl (od0H rfl rfl (SubD.tail SubD.refl))
      trivial
    ·
      intro V _
      refine wkQ (L := [row 70 v6 S.fAccounts, bl b2 55 [.int .i64 0, .int .i64 0, .bool false, .string ByteArray.empty, .string ByteArray.empty, .int .i64 0, .slice none 0 0, .slice none 0 0, .slice none 0 0, .slice none 0 0, .slice none 0 0, .int .i64 0, .int .i64 0, .int .i64 0, .string ByteArray.empty, .string ByteArray.empty, .int .i64 0, .int .i64 0, .int .i64 0, .int .i64 0, .int .i64 0, .string ByteArray.empty, .string ByteArray.empty, .int .i64 0, .int .i64 0, .slice none 0 0, .int .i64 0, .int .i64 0, .int .i64 0], bl b1 55 [.int .i64 S.fGroup, .int .i64 S.fIndex, .bool (S.fOwns), .string S.fLo, .string S.fHi, .int .i64 S.fEpoch, v6, (V 2), (V 5), (V 8), (V 11), .int .i64 S.fSeal.fNumber, .int .i64 S.fSeal.fFrom, .int .i64 S.fSeal.fTo, .string S.fSeal.fLo, .string S.fSeal.fHi, .int .i64 S.fSeal.fClient, .int .i64 S.fSeal.fSeq, .int .i64 S.fOut.fNumber, .int .i64 S.fOut.fFrom, .int .i64 S.fOut.fTo, .string S.fOut.fLo, .string S.fOut.fHi, .int .i64 S.fOut.fClient, .int .i64 S.fOut.fSeq, (V 14), .int .i64 S.fAbsorbed, .int .i64 S.fRefused, .int .i64 S.fUndone], fz X w]) [(1, _), (2, _)] [(⟨(V 2), S.fMarks⟩ : Atom), (⟨(V 5), S.fWaits⟩ : Atom), (⟨(V 8), S.fDeals⟩ : Atom), (⟨(V 11), S.fEnds⟩ : Atom), (⟨(V 14), S.fImage⟩ : Atom), _, _, _, _, _, _] ⟨rfl, rfl, trivial⟩ (SubD.cons 0 rfl (SubD.cons 1 rfl (SubD.cons 2 rfl (SubD.cons 3 rfl (SubD.cons 4 rfl (SubD.cons 5 rfl (SubD.cons 6 rfl (SubD.cons 7 rfl (SubD.cons 8 rfl (SubD.cons 9 rfl (SubD.cons 10 rfl SubD.nil))))))))))) ?_
      generalize V 2 = v2
      generalize V 5 = v5
      generalize V 8 = v8
      generalize V 11 = v11
      generalize V 14 = v14
      refine nx<|sq<|frR<|rg<|ldM 1 (cState (({ fGroup := S.fGroup, fIndex := S.fIndex, fOwns := S.fOwns, fLo := S.fLo, fHi := S.fHi, fEpoch := S.fEpoch, fAccounts := S.fAccounts, fMarks := S.fMarks, fWaits := S.fWaits, fDeals := S.fDeals, fEnds := S.fEnds, fSeal := ({ fNumber := S.fSeal.fNumber, fFrom := S.fSeal.fFrom, fTo := S.fSeal.fTo, fLo := S.fSeal.fLo, fHi := S.fSeal.fHi, fClient := S.fSeal.fClient, fSeq := S.fSeal.fSeq } : TPlan), fOut := ({ fNumber := S.fOut.fNumber, fFrom := S.fOut.fFrom, fTo := S.fOut.fTo, fLo := S.fOut.fLo, fHi := S.fOut.fHi, fClient := S.fOut.fClient, fSeq := S.fOut.fSeq } : TPlan), fImage := S.fImage, fAbsorbed := S.fAbsorbed, fRefused := S.fRefused, fUndone := S.fUndone } : TState)) v6 v2 v5 v8 v11 v14) rfl rfl row_55 rfl rfl<|gtL (q := v6.oneCell' = true) (fun S w h => oneCell_of_list (h _ (List.mem_of_getElem? (i := 0) rfl))) fun o_v6 => gtL (q := v2.oneCell' = true) (fun S w h => oneCell_of_list (h _ (List.mem_of_getElem? (i := 1) rfl))) fun o_v2 => gtL (q := v5.oneCell' = true) (fun S w h => oneCell_of_list (h _ (List.mem_of_getElem? (i := 2) rfl))) fun o_v5 => gtL (q := v8.oneCell' = true) (fun S w h => oneCell_of_list (h _ (List.mem_of_getElem? (i := 3) rfl))) fun o_v8 => gtL (q := v11.oneCell' = true) (fun S w h => oneCell_of_list (h _ (List.mem_of_getElem? (i := 4) rfl))) fun o_v11 => gtL (q := v14.oneCell' = true) (fun S w h => oneCell_of_list (h _ (List.mem_of_getElem? (i := 5) rfl))) fun o_v14 => stW 0 (us := (cState (({ fGroup := S.fGroup, fIndex := S.fIndex, fOwns := S.fOwns, fLo := S.fLo, fHi := S.fHi, fEpoch := S.fEpoch, fAccounts := S.fAccounts, fMarks := S.fMarks, fWaits := S.fWaits, fDeals := S.fDeals, fEnds := S.fEnds, fSeal := ({ fNumber := S.fSeal.fNumber, fFrom := S.fSeal.fFrom, fTo := S.fSeal.fTo, fLo := S.fSeal.fLo, fHi := S.fSeal.fHi, fClient := S.fSeal.fClient, fSeq := S.fSeal.fSeq } : TPlan), fOut := ({ fNumber := S.fOut.fNumber, fFrom := S.fOut.fFrom, fTo := S.fOut.fTo, fLo := S.fOut.fLo, fHi := S.fOut.fHi, fClient := S.fOut.fClient, fSeq := S.fOut.fSeq } : TPlan), fImage := S.fImage, fAbsorbed := S.fAbsorbed, fRefused := S.fRefused, fUndone := S.fUndone } : TState)) v6 v2 v5 v8 v11 v14)) rfl rfl rfl row_55 (by simp only [List.all_cons, List.all_nil, Bool.and_true, o_v6, o_v2, o_v5, o_v8, o_v11, o_v14]; rfl) rfl<|nl<|nx ?_
      exact rt<|fRG ⟨v6, v2, v5, v8, v11, v14⟩ [_, _] (rC 0 rfl rfl rfl row_55) (by exact ⟨rfl, h_S⟩) rfl (SubD.cons 0 rfl (SubD.cons 1 rfl (SubD.cons 2 rfl (SubD.cons 3 rfl (SubD.cons 4 rfl (SubD.cons 5 rfl SubD.nil))))))
end Go.Proofs.YtmpoffijcfaalaaGreat
