/- Part 34 of the proof of dutyQuiet_holds: DutW14, DutW15. Every text below begins with what it shows. -/
import Derived.Test.YtmpoffijcfaalaaGreatQu33

/- Walks, written by specs6.py. -/

namespace Go.Proofs.YtmpoffijcfaalaaGreat
open Go.Eng Go.YtmpoffijcfaalaaGreat
set_option maxHeartbeats 1000000

theorem wof1 (v : Value) (n : Int) : FnV Tryz.prog 210 [v] [⟨v, [n]⟩] (.agg (cWide (wide n)).toArray) := by
 have := wof_c v [n] (by simp)
 rwa [show [n].sum = n by simp] at this
theorem wof2 (v : Value) (m n : Int) : FnV Tryz.prog 210 [v] [⟨v, [m, n]⟩] (.agg (cWide (wide (m + n))).toArray) := by
 have := wof_c v [m, n] (by simp)
 rwa [show [m, n].sum = m + n by simp] at this

theorem ends15_c (a : TAccount) (a_0 : Value) (h_a : a.wf) (hh : holdersP a.fHolders = true) : FnV Tryz.prog 227 [.agg (cAccount a a_0).toArray] [⟨a_0, a.fHolders⟩] (.tuple #[.agg (cWide (wide (downsS a))).toArray, .agg (cWide (wide (upsS a))).toArray]) := by
 refine Fnc.proof Tryz.func227 G 40 G G fun X w => gtC (q := ∀ x ∈ a.fHolders, x.wf) (fun S w h => list_wf (s := sHolder) (h _ (List.mem_of_getElem? (i := 0) G))) fun hW => ?_
 have hl5 := hold_len hh
 refine sq<|rg<|bx G G G fun b1 => al zero_211 G fun b2 => al zero_211 G fun b3 => nl<|nx<|sq ?_
 refine rgH ⟨fun q_ => ([[], [0], [1], [2], [], [4], [5], [6], [], [], [8, 3], [9, 7]] : List (List Nat)).getD q_ [], fun q_ => ([fun _ => True, fun _ => True, fun _ => True, fun _ => True, fun _ => True, fun _ => True, fun _ => True, fun _ => True, fun u => u = .pointer (some ⟨ptrB u, 0, none⟩), fun u => u = .pointer (some ⟨ptrB u, 0, none⟩), fun _ => True, fun _ => True] : List (Value → Prop)).getD q_ (fun _ => True), fun q_ => ([fun _ => [], fun _ => [], fun u => [⟨u, [a.fBase]⟩], fun _ => [], fun _ => [], fun _ => [], fun u => [⟨u, [a.fBase]⟩], fun _ => [], fun _ => [], fun _ => [], fun _ => [], fun _ => []] : List (Value → List Atom)).getD q_ (fun _ => []), fun q_ => ([some (.pointer (some ⟨b1, 3, none⟩)), some (.int .i64 a.fBase), none, some (.agg (cWide ((wide (a.fBase)))).toArray), some (.pointer (some ⟨b1, 3, none⟩)), some (.int .i64 a.fBase), none, some (.agg (cWide ((wide (a.fBase)))).toArray), none, none, none, none] : List (Option Value)).getD q_ none, fun h_ => match h_ with
   | [] => fun vs_ => [bl b3 211 zv7, bl b2 211 zv7, bl b1 70 (cAccount a a_0), fz X w]
   | [8] => fun vs_ => [bl (ptrB (vs_.getD 0 undef)) 211 zv7, bl b3 211 zv7, bl b2 211 zv7, bl b1 70 (cAccount a a_0), fz X w]
   | [9] => fun vs_ => [bl (ptrB (vs_.getD 0 undef)) 211 zv7, bl b3 211 zv7, bl b2 211 zv7, bl b1 70 (cAccount a a_0), fz X w]
   | [8, 9] => fun vs_ => [bl (ptrB (vs_.getD 1 undef)) 211 zv7, bl (ptrB (vs_.getD 0 undef)) 211 zv7, bl b3 211 zv7, bl b2 211 zv7, bl b1 70 (cAccount a a_0), fz X w]
   | [9, 8] => fun vs_ => [bl (ptrB (vs_.getD 0 undef)) 211 zv7, bl (ptrB (vs_.getD 1 undef)) 211 zv7, bl b3 211 zv7, bl b2 211 zv7, bl b1 70 (cAccount a a_0), fz X w]
   | [8, 9, 10] => fun vs_ => [bl (ptrB (vs_.getD 1 undef)) 211 zv7, bl (ptrB (vs_.getD 0 undef)) 211 (cWide ((wide (a.fBase)))), bl b3 211 zv7, bl b2 211 zv7, bl b1 70 (cAccount a a_0), fz X w]
   | [9, 8, 10] => fun vs_ => [bl (ptrB (vs_.getD 0 undef)) 211 zv7, bl (ptrB (vs_.getD 1 undef)) 211 (cWide ((wide (a.fBase)))), bl b3 211 zv7, bl b2 211 zv7, bl b1 70 (cAccount a a_0), fz X w]
   | [8, 9, 10, 11] => fun vs_ => [bl (ptrB (vs_.getD 1 undef)) 211 (cWide ((wide (a.fBase)))), bl (ptrB (vs_.getD 0 undef)) 211 (cWide ((wide (a.fBase)))), bl b3 211 zv7, bl b2 211 zv7, bl b1 70 (cAccount a a_0), fz X w]
   | [9, 8, 10, 11] => fun vs_ => [bl (ptrB (vs_.getD 0 undef)) 211 (cWide ((wide (a.fBase)))), bl (ptrB (vs_.getD 1 undef)) 211 (cWide ((wide (a.fBase)))), bl b3 211 zv7, bl b2 211 zv7, bl b1 70 (cAccount a a_0), fz X w]
   | _ => fun _ => [], [8, 9, 10, 11], [[], [8], [9], [8, 9], [9, 8], [8, 9, 10], [9, 8, 10], [8, 9, 10, 11], [9, 8, 10, 11]]⟩ (fun V => [bl (ptrB (V 9)) 211 (cWide ((wide (a.fBase)))), bl (ptrB (V 8)) 211 (cWide ((wide (a.fBase)))), bl b3 211 zv7, bl b2 211 zv7, bl b1 70 (cAccount a a_0), fz X w]) mixed rfl rfl (show AllP _ [[8, 9, 10, 11], [9, 8, 10, 11]] from ⟨fun _ => rfl, fun _ => rfl, trivial⟩) ?_ ?_
 ·
  refine ⟨fun V De _=>aP5 (fa G fld_70_2 G<|oh G G G G) (fa G fld_70_2 G<|oh G G G G) (fa G fld_70_2 G<|oh G G G G) (fa G fld_70_2 G<|oh G G G G) (fa G fld_70_2 G<|oh G G G G),fun V De _=>aP5 (ldB 2 G G one_3 G G<|oh G G G G) (ldB 3 G G one_3 G G<|oh G G G G) (ldB 3 G G one_3 G G<|oh G G G G) (ldB 4 G G one_3 G G<|oh G G G G) (ldB 4 G G one_3 G G<|oh G G G G),fun V De _=>aP5 (bs1 (xs := [.tmp 8]) (us := [.int .i64 a.fBase]) (E := 3) (bytes := 8) (n := 1) G (by exact app_220) G G G G G G fun b9 => frS (α := Int) [a.fBase] [[.int .i64 (a.fBase)]] G (fun S w h => ⟨⟨G, h_a.2.2.1⟩, trivial⟩) (Nat.le_of_ble_eq_true G)<|nl (odH G G G trivial (Sc 0 G Sn) (SubD.tail Sr))) (bs1 (xs := [.tmp 8]) (us := [.int .i64 a.fBase]) (E := 3) (bytes := 8) (n := 1) G (by exact app_220) G G G G G G fun b9 => frS (α := Int) [a.fBase] [[.int .i64 (a.fBase)]] G (fun S w h => ⟨⟨G, h_a.2.2.1⟩, trivial⟩) (Nat.le_of_ble_eq_true G)<|nl (odH G G G trivial (Sc 0 G Sn) (SubD.tail Sr))) (bs1 (xs := [.tmp 8]) (us := [.int .i64 a.fBase]) (E := 3) (bytes := 8) (n := 1) G (by exact app_220) G G G G G G fun b9 => frS (α := Int) [a.fBase] [[.int .i64 (a.fBase)]] G (fun S w h => ⟨⟨G, h_a.2.2.1⟩, trivial⟩) (Nat.le_of_ble_eq_true G)<|nl (odH G G G trivial (Sc 0 G Sn) (SubD.tail Sr))) (bs1 (xs := [.tmp 8]) (us := [.int .i64 a.fBase]) (E := 3) (bytes := 8) (n := 1) G (by exact app_220) G G G G G G fun b9 => frS (α := Int) [a.fBase] [[.int .i64 (a.fBase)]] G (fun S w h => ⟨⟨G, h_a.2.2.1⟩, trivial⟩) (Nat.le_of_ble_eq_true G)<|nl (odH G G G trivial (Sc 0 G Sn) (SubD.tail Sr))) (bs1 (xs := [.tmp 8]) (us := [.int .i64 a.fBase]) (E := 3) (bytes := 8) (n := 1) G (by exact app_220) G G G G G G fun b9 => frS (α := Int) [a.fBase] [[.int .i64 (a.fBase)]] G (fun S w h => ⟨⟨G, h_a.2.2.1⟩, trivial⟩) (Nat.le_of_ble_eq_true G)<|nl (odH G G G trivial (Sc 0 G Sn) (SubD.tail Sr))),fun V De _=>aP5 (cfv (wof1 _ a.fBase) ok_210 G (Sc 0 G Sn) G<|nl (odH G G G G Sn (SubD.tail Sr))) (cfv (wof1 _ a.fBase) ok_210 G (Sc 0 G Sn) G<|nl (odH G G G G Sn (SubD.tail Sr))) (cfv (wof1 _ a.fBase) ok_210 G (Sc 0 G Sn) G<|nl (odH G G G G Sn (SubD.tail Sr))) (cfv (wof1 _ a.fBase) ok_210 G (Sc 0 G Sn) G<|nl (odH G G G G Sn (SubD.tail Sr))) (cfv (wof1 _ a.fBase) ok_210 G (Sc 0 G Sn) G<|nl (odH G G G G Sn (SubD.tail Sr))),?_⟩
  refine ⟨fun V De _ => (show AllP _ [[], [8], [9], [8, 9], [9, 8], [8, 9, 10], [9, 8, 10]] from ⟨?_, ?_, ?_, ?_, ?_, ?_, ?_, trivial⟩), ?_⟩
  ·
   exact fa G fld_70_2 G<|oh G G G G
  ·
   exact fa G fld_70_2 G<|oh G G G G
  ·
   exact fa G fld_70_2 G<|oh G G G G
  ·
   exact fa G fld_70_2 G<|oh G G G G
  ·
   exact fa G fld_70_2 G<|oh G G G G
  ·
   exact fa G fld_70_2 G<|oh G G G G
  ·
   exact fa G fld_70_2 G<|oh G G G G
  refine ⟨fun V De _ => (show AllP _ [[], [8], [9], [8, 9], [9, 8], [8, 9, 10], [9, 8, 10]] from ⟨?_, ?_, ?_, ?_, ?_, ?_, ?_, trivial⟩), ?_⟩
  ·
   exact ldB 2 G G one_3 G G<|oh G G G G
  ·
   exact ldB 3 G G one_3 G G<|oh G G G G
  ·
   exact ldB 3 G G one_3 G G<|oh G G G G
  ·
   exact ldB 4 G G one_3 G G<|oh G G G G
  ·
   exact ldB 4 G G one_3 G G<|oh G G G G
  ·
   exact ldB 4 G G one_3 G G<|oh G G G G
  ·
   exact ldB 4 G G one_3 G G<|oh G G G G
  refine ⟨fun V De _ => (show AllP _ [[], [8], [9], [8, 9], [9, 8], [8, 9, 10], [9, 8, 10]] from ⟨?_, ?_, ?_, ?_, ?_, ?_, ?_, trivial⟩), ?_⟩
  ·
   exact bs1 (xs := [.tmp 12]) (us := [.int .i64 a.fBase]) (E := 3) (bytes := 8) (n := 1) G (by exact app_220) G G G G G G fun b13 => frS (α := Int) [a.fBase] [[.int .i64 (a.fBase)]] G (fun S w h => ⟨⟨G, h_a.2.2.1⟩, trivial⟩) (Nat.le_of_ble_eq_true G)<|nl (odH G G G trivial (Sc 0 G Sn) (SubD.tail Sr))
  ·
   exact bs1 (xs := [.tmp 12]) (us := [.int .i64 a.fBase]) (E := 3) (bytes := 8) (n := 1) G (by exact app_220) G G G G G G fun b13 => frS (α := Int) [a.fBase] [[.int .i64 (a.fBase)]] G (fun S w h => ⟨⟨G, h_a.2.2.1⟩, trivial⟩) (Nat.le_of_ble_eq_true G)<|nl (odH G G G trivial (Sc 0 G Sn) (SubD.tail Sr))
  ·
   exact bs1 (xs := [.tmp 12]) (us := [.int .i64 a.fBase]) (E := 3) (bytes := 8) (n := 1) G (by exact app_220) G G G G G G fun b13 => frS (α := Int) [a.fBase] [[.int .i64 (a.fBase)]] G (fun S w h => ⟨⟨G, h_a.2.2.1⟩, trivial⟩) (Nat.le_of_ble_eq_true G)<|nl (odH G G G trivial (Sc 0 G Sn) (SubD.tail Sr))
  ·
   exact bs1 (xs := [.tmp 12]) (us := [.int .i64 a.fBase]) (E := 3) (bytes := 8) (n := 1) G (by exact app_220) G G G G G G fun b13 => frS (α := Int) [a.fBase] [[.int .i64 (a.fBase)]] G (fun S w h => ⟨⟨G, h_a.2.2.1⟩, trivial⟩) (Nat.le_of_ble_eq_true G)<|nl (odH G G G trivial (Sc 0 G Sn) (SubD.tail Sr))
  ·
   exact bs1 (xs := [.tmp 12]) (us := [.int .i64 a.fBase]) (E := 3) (bytes := 8) (n := 1) G (by exact app_220) G G G G G G fun b13 => frS (α := Int) [a.fBase] [[.int .i64 (a.fBase)]] G (fun S w h => ⟨⟨G, h_a.2.2.1⟩, trivial⟩) (Nat.le_of_ble_eq_true G)<|nl (odH G G G trivial (Sc 0 G Sn) (SubD.tail Sr))
  ·
   exact bs1 (xs := [.tmp 12]) (us := [.int .i64 a.fBase]) (E := 3) (bytes := 8) (n := 1) G (by exact app_220) G G G G G G fun b13 => frS (α := Int) [a.fBase] [[.int .i64 (a.fBase)]] G (fun S w h => ⟨⟨G, h_a.2.2.1⟩, trivial⟩) (Nat.le_of_ble_eq_true G)<|nl (odH G G G trivial (Sc 0 G Sn) (SubD.tail Sr))
  ·
   exact bs1 (xs := [.tmp 12]) (us := [.int .i64 a.fBase]) (E := 3) (bytes := 8) (n := 1) G (by exact app_220) G G G G G G fun b13 => frS (α := Int) [a.fBase] [[.int .i64 (a.fBase)]] G (fun S w h => ⟨⟨G, h_a.2.2.1⟩, trivial⟩) (Nat.le_of_ble_eq_true G)<|nl (odH G G G trivial (Sc 0 G Sn) (SubD.tail Sr))
  refine ⟨fun V De _=>aP5 (cfv (wof1 _ a.fBase) ok_210 G (Sc 0 G Sn) G<|nl (odH G G G G Sn (SubD.tail Sr))) (cfv (wof1 _ a.fBase) ok_210 G (Sc 0 G Sn) G<|nl (odH G G G G Sn (SubD.tail Sr))) (cfv (wof1 _ a.fBase) ok_210 G (Sc 0 G Sn) G<|nl (odH G G G G Sn (SubD.tail Sr))) (cfv (wof1 _ a.fBase) ok_210 G (Sc 0 G Sn) G<|nl (odH G G G G Sn (SubD.tail Sr))) (cfv (wof1 _ a.fBase) ok_210 G (Sc 0 G Sn) G<|nl (odH G G G G Sn (SubD.tail Sr))),fun V De _=>aP2 (al zero_211 G fun b4 => oh G G G G) (al zero_211 G fun b4 => mtL 4 G<|mtL 4 G<|mtL 4 G<|mtL 3 G<|mtL 4 G<|oh G G G G),fun V De _=>aP2 (al zero_211 G fun b5 => oh G G G G) (al zero_211 G fun b5 => oh G G G G),?_⟩
  refine ⟨fun V De hV => (show AllP _ [[8, 9], [9, 8]] from ⟨?_, ?_, trivial⟩), ?_⟩
  ·
   exact stW 1 (us := (cWide ((wide (a.fBase))))) (congrArg some (hV.mem 8 (show 8 ∈ [8, 3] from by decide) G)) G G row_211 G G<|oh0 G G
  ·
   exact stW 1 (us := (cWide ((wide (a.fBase))))) (congrArg some (hV.mem 8 (show 8 ∈ [8, 3] from by decide) G)) G G row_211 G G<|oh0 G G
  refine ⟨fun V De hV => (show AllP _ [[8, 9, 10], [9, 8, 10]] from ⟨?_, ?_, trivial⟩), ?_⟩
  ·
   exact stW 0 (us := (cWide ((wide (a.fBase))))) (congrArg some (hV.mem 9 (show 9 ∈ [9, 7] from by decide) G)) G G row_211 G G<|oh0 G G
  ·
   exact stW 0 (us := (cWide ((wide (a.fBase))))) (congrArg some (hV.mem 9 (show 9 ∈ [9, 7] from by decide) G)) G G row_211 G G<|oh0 G G
  trivial
 ·
  intro V hV
  refine wkQ (L := [bl (ptrB (V 9)) 211 (cWide ((wide (a.fBase)))), bl (ptrB (V 8)) 211 (cWide ((wide (a.fBase)))), bl b3 211 zv7, bl b2 211 zv7, bl b1 70 (cAccount a a_0), fz X w]) [(1, _), (2, _), (3, _), (4, V 8), (5, V 9)] [_] ⟨G, G, G, G, G, trivial⟩ (Sc 2 G Sn) ?_
  obtain ⟨b4, hb4⟩ : ∃ b, V 8 = .pointer (some ⟨b, 0, none⟩) := ⟨_, hV.mem 8 (by decide) rfl rfl⟩
  obtain ⟨b5, hb5⟩ : ∃ b, V 9 = .pointer (some ⟨b, 0, none⟩) := ⟨_, hV.mem 9 (by decide) rfl rfl⟩
  simp only [hb4, hb5, ptrB_mk]
  refine nx<|sq<|sq<|rg<|asg G G<|nl<|nx<|bk<|lpE (σ := Nat) [(1, _), (2, _), (3, _), (4, _), (5, _)] _ (fun i C => (6, .int .i64 (i : Int)) :: C) (fun i => [bl b5 211 (cWide (wide (accS (fun h => h.fUp) a.fBase a.fHolders i))), bl b4 211 (cWide (wide (accN (fun h => h.fDown) a.fBase a.fHolders i))), bl b3 211 zv7, bl b2 211 zv7, bl b1 70 (cAccount a a_0), fz X w]) (fun _ Dc => Dc) (fun i => i ≤ a.fHolders.length) (fun i => a.fHolders.length - i) 0 ⟨G, G, G, G, G, trivial⟩ (Sc 0 G Sn) (Nat.zero_le _) ⟨G, G, G, G, G, G, trivial⟩ G (Sc 0 G Sn) ?_
  intro i hi
  refine sq<|sq<|rg<|mv G G<|fa G fld_70_4 G<|ldB 4 G G one_66 G G<|lnP 0 G G Tryz.underlying66 G fun l18 => ltI G G G<|nl<|nx<|cdP G (fun h19 => ?_) (fun h19 => ?_)
  ·
   have hwi := hW _ (getD_mem (l := a.fHolders) (i := i) (by omega))
   have hb1 := lim6 (i := i) (by omega) (accN_bd (l := a.fHolders) h_a.2.2.1 (fun x hx => (hW x hx).2.2.2) i hi)
   have hb2 := lim6 (i := i) (by omega) (accS_bd (l := a.fHolders) h_a.2.2.1 (fun x hx => (hW x hx).2.2.1) i hi)
   refine sk<|nx<|sq<|bk ?_
   refine rgH ⟨fun q_ => ([[], [], [1], [], [2, 3], [4], [5], [0, 6], [], [], [9], [], [10, 11], [12], [13], [8, 14], [7], [15]] : List (List Nat)).getD q_ [], fun _ _ => True, fun q_ => ([fun _ => [], fun _ => [], fun _ => [], fun _ => [], fun u => [⟨u, (⟨(a.fHolders.getD i default)⟩ : Pt THolder)⟩], fun u => [⟨u, (⟨(a.fHolders.getD i default).fDown⟩ : Pt Int)⟩], fun _ => [], fun _ => [], fun _ => [], fun _ => [], fun _ => [], fun _ => [], fun u => [⟨u, (⟨(a.fHolders.getD i default)⟩ : Pt THolder)⟩], fun u => [⟨u, (⟨(a.fHolders.getD i default).fUp⟩ : Pt Int)⟩], fun _ => [], fun _ => [], fun _ => [], fun _ => []] : List (Value → List Atom)).getD q_ (fun _ => []), fun q_ => ([some (.agg (cWide ((wide (accN (fun h => h.fDown) a.fBase a.fHolders i)))).toArray), some (.pointer (some ⟨b1, 5, none⟩)), some (a_0), some (.int .i64 ((i : Int))), none, none, some (.int .i64 ((a.fHolders.getD i default).fDown)), some (.agg (cWide ((wide ((accN (fun h => h.fDown) a.fBase a.fHolders i) - (a.fHolders.getD i default).fDown)))).toArray), some (.agg (cWide ((wide (accS (fun h => h.fUp) a.fBase a.fHolders i)))).toArray), some (.pointer (some ⟨b1, 5, none⟩)), some (a_0), some (.int .i64 ((i : Int))), none, none, some (.int .i64 ((a.fHolders.getD i default).fUp)), some (.agg (cWide ((wide ((accS (fun h => h.fUp) a.fBase a.fHolders i) + (a.fHolders.getD i default).fUp)))).toArray), none, none] : List (Option Value)).getD q_ none, fun h_ => match h_ with
     | [] => fun vs_ => [bl b5 211 (cWide ((wide (accS (fun h => h.fUp) a.fBase a.fHolders i)))), bl b4 211 (cWide ((wide (accN (fun h => h.fDown) a.fBase a.fHolders i)))), bl b3 211 zv7, bl b2 211 zv7, bl b1 70 (cAccount a a_0), fz X w]
     | [16] => fun vs_ => [bl b5 211 (cWide ((wide (accS (fun h => h.fUp) a.fBase a.fHolders i)))), bl b4 211 (cWide ((wide ((accN (fun h => h.fDown) a.fBase a.fHolders i) - (a.fHolders.getD i default).fDown)))), bl b3 211 zv7, bl b2 211 zv7, bl b1 70 (cAccount a a_0), fz X w]
     | [16, 17] => fun vs_ => [bl b5 211 (cWide ((wide ((accS (fun h => h.fUp) a.fBase a.fHolders i) + (a.fHolders.getD i default).fUp)))), bl b4 211 (cWide ((wide ((accN (fun h => h.fDown) a.fBase a.fHolders i) - (a.fHolders.getD i default).fDown)))), bl b3 211 zv7, bl b2 211 zv7, bl b1 70 (cAccount a a_0), fz X w]
     | _ => fun _ => [], [16, 17], [[], [16], [16, 17]]⟩ (fun V => [bl b5 211 (cWide ((wide ((accS (fun h => h.fUp) a.fBase a.fHolders i) + (a.fHolders.getD i default).fUp)))), bl b4 211 (cWide ((wide ((accN (fun h => h.fDown) a.fBase a.fHolders i) - (a.fHolders.getD i default).fDown)))), bl b3 211 zv7, bl b2 211 zv7, bl b1 70 (cAccount a a_0), fz X w]) mixed rfl rfl (show AllP _ [[16, 17]] from ⟨fun _ => rfl, trivial⟩) ?_ ?_
   ·
    refine ⟨fun V De _=>aP1 (ldM 1 (cWide ((wide (accN (fun h => h.fDown) a.fBase a.fHolders i)))) G G row_211 G G<|oh G G G G),fun V De _=>aP1 (fa G fld_70_4 G<|oh G G G G),fun V De _=>aP1 (ldB 4 G G one_66 G G<|oh G G G G),fun V De _=>aP1 (mv G G<|oh G G G G),fun V De _=>aP1 (ixP 0 G G G slt_66 (by omega) (getDE (d := default) (by omega)) G fun v26 => nl (odH G G G trivial (Sc 0 G Sn) (SubD.tail Sr))),fun V De _=>aP1 (faP (α := THolder) (β := Int) 0 (fun x : THolder => x.fDown) G G fld_165_3 pHolder_3 G fun v27 => nl (odH G G G trivial (Sc 0 G Sn) (SubD.tail (SubD.tail Sr)))),?_⟩
    refine ⟨fun V De _ => (show AllP _ [[]] from ⟨?_, trivial⟩), ?_⟩
    ·
     refine ldV 0 G G one_3 G fun w28 => ?_
     exact nl (odH G G G G Sn (SubD.tail Sr))
    refine ⟨fun V De _=>aP1 (cfv (less_c (accN (fun h => h.fDown) a.fBase a.fHolders i) (a.fHolders.getD i default).fDown hb1 hwi.2.2.2) ok_229 G Sn G<|oh G G G G),fun V De _=>aP2 (ldM 0 (cWide ((wide (accS (fun h => h.fUp) a.fBase a.fHolders i)))) G G row_211 G G<|oh G G G G) (ldM 0 (cWide ((wide (accS (fun h => h.fUp) a.fBase a.fHolders i)))) G G row_211 G G<|oh G G G G),fun V De _=>aP2 (fa G fld_70_4 G<|oh G G G G) (fa G fld_70_4 G<|oh G G G G),fun V De _=>aP2 (ldB 4 G G one_66 G G<|oh G G G G) (ldB 4 G G one_66 G G<|oh G G G G),fun V De _=>aP2 (mv G G<|oh G G G G) (mv G G<|oh G G G G),fun V De _=>aP2 (ixP 0 G G G slt_66 (by omega) (getDE (d := default) (by omega)) G fun v34 => nl (odH G G G trivial (Sc 0 G Sn) (SubD.tail Sr))) (ixP 0 G G G slt_66 (by omega) (getDE (d := default) (by omega)) G fun v34 => nl (odH G G G trivial (Sc 0 G Sn) (SubD.tail Sr))),fun V De _=>aP2 (faP (α := THolder) (β := Int) 0 (fun x : THolder => x.fUp) G G fld_165_2 pHolder_2 G fun v35 => nl (odH G G G trivial (Sc 0 G Sn) (SubD.tail (SubD.tail Sr)))) (faP (α := THolder) (β := Int) 0 (fun x : THolder => x.fUp) G G fld_165_2 pHolder_2 G fun v35 => nl (odH G G G trivial (Sc 0 G Sn) (SubD.tail (SubD.tail Sr)))),?_⟩
    refine ⟨fun V De _ => (show AllP _ [[], [16]] from ⟨?_, ?_, trivial⟩), ?_⟩
    ·
     refine ldV 0 G G one_3 G fun w36 => ?_
     exact nl (odH G G G G Sn (SubD.tail Sr))
    ·
     refine ldV 0 G G one_3 G fun w36 => ?_
     exact nl (odH G G G G Sn (SubD.tail Sr))
    exact ⟨fun V De _=>aP1 (cfv (plus_c (accS (fun h => h.fUp) a.fBase a.fHolders i) (a.fHolders.getD i default).fUp hb2.w hwi.2.2.1) ok_211 G Sn G<|oh G G G G),fun V De _=>aP1 (stW 1 (us := (cWide ((wide ((accN (fun h => h.fDown) a.fBase a.fHolders i) - (a.fHolders.getD i default).fDown))))) G G G row_211 G G<|oh0 G G),fun V De _=>aP1 (stW 0 (us := (cWide ((wide ((accS (fun h => h.fUp) a.fBase a.fHolders i) + (a.fHolders.getD i default).fUp))))) G G G row_211 G G<|oh0 G G),trivial⟩
   ·
    intro V _
    refine wkQ (L := [bl b5 211 (cWide ((wide ((accS (fun h => h.fUp) a.fBase a.fHolders i) + (a.fHolders.getD i default).fUp)))), bl b4 211 (cWide ((wide ((accN (fun h => h.fDown) a.fBase a.fHolders i) - (a.fHolders.getD i default).fDown)))), bl b3 211 zv7, bl b2 211 zv7, bl b1 70 (cAccount a a_0), fz X w]) [(1, _), (2, _), (3, _), (4, _), (5, _), (6, _)] [_] ⟨G, G, G, G, G, G, trivial⟩ (Sc 4 G Sn)<|bN<|nx<|rg<|mv G G<|adI G G (inI (by omega) (by omega)) G<|asg G G<|nl ?_
    exact ag (i + 1) (by omega) (by omega) ⟨G, G, G, G, G, G, trivial⟩ G (Sc 0 G Sn)
  ·
   refine ex<|tE<|tE<|bE<|nx<|sq ?_
   refine rgH ⟨fun q_ => ([[], [], [0], [1]] : List (List Nat)).getD q_ [], fun _ _ => True, fun _ _ => [], fun q_ => ([some (.agg (cWide ((wide (accN (fun h => h.fDown) a.fBase a.fHolders i)))).toArray), some (.agg (cWide ((wide (accS (fun h => h.fUp) a.fBase a.fHolders i)))).toArray), none, none] : List (Option Value)).getD q_ none, fun h_ => match h_ with
     | [] => fun vs_ => [bl b5 211 (cWide ((wide (accS (fun h => h.fUp) a.fBase a.fHolders i)))), bl b4 211 (cWide ((wide (accN (fun h => h.fDown) a.fBase a.fHolders i)))), bl b3 211 zv7, bl b2 211 zv7, bl b1 70 (cAccount a a_0), fz X w]
     | [2] => fun vs_ => [bl b5 211 (cWide ((wide (accS (fun h => h.fUp) a.fBase a.fHolders i)))), bl b4 211 (cWide ((wide (accN (fun h => h.fDown) a.fBase a.fHolders i)))), bl b3 211 zv7, bl b2 211 (cWide ((wide (accN (fun h => h.fDown) a.fBase a.fHolders i)))), bl b1 70 (cAccount a a_0), fz X w]
     | [2, 3] => fun vs_ => [bl b5 211 (cWide ((wide (accS (fun h => h.fUp) a.fBase a.fHolders i)))), bl b4 211 (cWide ((wide (accN (fun h => h.fDown) a.fBase a.fHolders i)))), bl b3 211 (cWide ((wide (accS (fun h => h.fUp) a.fBase a.fHolders i)))), bl b2 211 (cWide ((wide (accN (fun h => h.fDown) a.fBase a.fHolders i)))), bl b1 70 (cAccount a a_0), fz X w]
     | _ => fun _ => [], [2, 3], [[], [2], [2, 3]]⟩ (fun V => [bl b5 211 (cWide ((wide (accS (fun h => h.fUp) a.fBase a.fHolders i)))), bl b4 211 (cWide ((wide (accN (fun h => h.fDown) a.fBase a.fHolders i)))), bl b3 211 (cWide ((wide (accS (fun h => h.fUp) a.fBase a.fHolders i)))), bl b2 211 (cWide ((wide (accN (fun h => h.fDown) a.fBase a.fHolders i)))), bl b1 70 (cAccount a a_0), fz X w]) mixed rfl rfl (show AllP _ [[2, 3]] from ⟨fun _ => rfl, trivial⟩) ?_ ?_
   ·
    exact ⟨fun V De _=>aP1 (ldM 1 (cWide ((wide (accN (fun h => h.fDown) a.fBase a.fHolders i)))) G G row_211 G G<|oh G G G G),fun V De _=>aP2 (ldM 0 (cWide ((wide (accS (fun h => h.fUp) a.fBase a.fHolders i)))) G G row_211 G G<|oh G G G G) (ldM 0 (cWide ((wide (accS (fun h => h.fUp) a.fBase a.fHolders i)))) G G row_211 G G<|oh G G G G),fun V De _=>aP1 (stW 3 (us := (cWide ((wide (accN (fun h => h.fDown) a.fBase a.fHolders i))))) G G G row_211 G G<|oh0 G G),fun V De _=>aP1 (stW 2 (us := (cWide ((wide (accS (fun h => h.fUp) a.fBase a.fHolders i))))) G G G row_211 G G<|oh0 G G),trivial⟩
   ·
    intro V _
    exact wkQ (L := [bl b5 211 (cWide ((wide (accS (fun h => h.fUp) a.fBase a.fHolders i)))), bl b4 211 (cWide ((wide (accN (fun h => h.fDown) a.fBase a.fHolders i)))), bl b3 211 (cWide ((wide (accS (fun h => h.fUp) a.fBase a.fHolders i)))), bl b2 211 (cWide ((wide (accN (fun h => h.fDown) a.fBase a.fHolders i)))), bl b1 70 (cAccount a a_0), fz X w]) [(2, _), (3, _)] [_] ⟨G, G, trivial⟩ (Sc 0 G Sn)<|nx<|rt<|fRG () [_, _, _, _, _] (rCC 3 2 G G G G G row_211 row_211) (by have e : i = a.fHolders.length := (by omega); subst e; rw [accS_ups, accN_downs]; try rfl) G Sn
end Go.Proofs.YtmpoffijcfaalaaGreat

/- Walks, written by specs6.py. -/

namespace Go.Proofs.YtmpoffijcfaalaaGreat
open Go.Eng Go.YtmpoffijcfaalaaGreat
set_option maxHeartbeats 1000000

theorem right15_c (a : TAccount) (a_0 : Value) (h_a : a.wf) : FnV Tryz.prog 171 [.agg (cAccount a a_0).toArray] [⟨a_0, a.fHolders⟩] (.bool (right15 a)) := by
 refine Fnc.proof Tryz.func171 G 121 G G fun X w => gtC (q := ∀ x ∈ a.fHolders, x.wf) (fun S w h => list_wf (s := sHolder) (h _ (List.mem_of_getElem? (i := 0) G))) fun hW => sq<|rg<|bx G G G fun b1 => asg G G<|nl<|nx<|sq<|sq<|rg<|fa G fld_70_0 G<|ldB 0 G G one_9 G G<|cfv (key15_c _) ok_168 G Sn G ?_
 refine nt G G<|mv G G ?_
 apply jo [(1, _)] ⟨rfl, trivial⟩
 ·
  intro K21
  refine spO (i := 14) G (fun h14 => ?_) (fun h14 => ?_)
  ·
   exact gY G G G<|fa G fld_70_1 G<|gY G G G<|ldM 0 (cSpan a.fSpan) G G row_65 G G<|gY G G G<|fa G fld_70_2 G<|gY G G G<|ldB 0 G G one_3 G G<|gY G G G<|cfv (has01_c _ _ h_a.2.1 h_a.2.2.1) ok_153 G Sn G<|gY G G G<|nt G G<|pkF G G G<|jR K21 h14 ⟨G, trivial⟩ Sr
  ·
   exact gS (g := [_, _, _, _, _, _]) G<|pkT G G G<|jR0 K21 h14 ⟨G, trivial⟩ Sr
 refine mv G G ?_
 apply jo [(1, _)] ⟨rfl, trivial⟩
 ·
  intro K26
  refine spO (i := 22) G (fun h22 => ?_) (fun h22 => ?_)
  ·
   exact gY G G G<|fa G fld_70_3 G<|gY G G G<|ldB 0 G G one_3 G G<|gY G G G<|ltI G G G<|pkF G G G<|jR K26 h22 ⟨G, trivial⟩ Sr
  ·
   exact gS (g := [_, _, _]) G<|pkT G G G<|jR0 K26 h22 ⟨G, trivial⟩ Sr
 refine nl<|nx<|cdB G (fun h26 => ?_) (fun h26 => ?_)
 ·
  have e26 : (r15a a) = true := h26
  refine sq<|rg<|asg G G<|nl<|nx<|rt<|tR<|dpQ ?_
  exact fR1 () G G (by rw [right15, if_pos e26]) G Sn
 ·
  have e26 : (r15a a) = false := h26
  refine sk<|nx<|sq<|rg<|asg G G<|nl<|nx<|sq<|sq<|rg<|asg G G<|nl<|nx<|bk ?_
  refine lpC (σ := Nat) [(1, _)] _ (fun i C => (4, .int .i64 (i : Int)) :: (3, .int .i64 (prevI (fun k => (a.fHolders.getD k default).fNode) i)) :: C) (fun i => i ≤ a.fHolders.length ∧ (∀ j, j < i → (!holdP (prevI (fun k => (a.fHolders.getD k default).fNode) j) (a.fHolders.getD j default)) = true)) (fun i => a.fHolders.length - i) 0 ⟨G, trivial⟩ (Sc 0 G Sn) ⟨Nat.zero_le _, fun j hj => absurd hj (Nat.not_lt_zero j)⟩ ⟨G, G, G, trivial⟩ ?_
  rintro i ⟨hi, hall⟩
  refine sq<|sq<|rg<|mv G G<|fa G fld_70_4 G<|ldB 0 G G one_66 G G<|lnP 0 G G Tryz.underlying66 G fun l30 => ltI G G G<|nl<|nx<|cdP G (fun h31 => ?_) (fun h31 => ?_)
  ·
   refine sk<|nx<|sq<|bk<|sq<|rg<|fa G fld_70_4 G<|ldB 0 G G one_66 G G<|mv G G<|ixP 0 G G G slt_66 (by omega) (getDE (d := default) (by omega)) G fun v37 => ldS 0 G G row_165 G fun q38 w38 => ?_
   refine al zero_165 G fun b5 => stW 0 (us := (cHolder ((a.fHolders.getD i default)))) G G G row_165 G G<|nl<|nx<|sq<|sq<|rg<|fa G fld_165_0 G<|ldB 0 G G one_3 G G<|mv G G<|leI G G G<|mv G G ?_
   apply jo [(1, _), (4, _), (5, _)] ⟨rfl, rfl, rfl, trivial⟩
   ·
    intro K47
    refine spO (i := 43) G (fun h43 => ?_) (fun h43 => ?_)
    ·
     have p43 := of_decide_eq_false h43
     exact gY G G G<|fa G fld_165_0 G<|gY G G G<|ldB 0 G G one_3 G G<|gY G G G<|gtI G G G<|pkF G G G<|jR K47 h43 ⟨G, G, G, trivial⟩ Sr
    ·
     exact gS (g := [_, _, _]) G<|pkT G G G<|jR0 K47 h43 ⟨G, G, G, trivial⟩ Sr
   refine mv G G ?_
   apply jo [(1, _), (4, _), (5, _)] ⟨rfl, rfl, rfl, trivial⟩
   ·
    intro K52
    refine spO (i := 48) G (fun h48 => ?_) (fun h48 => ?_)
    ·
     exact gY G G G<|fa G fld_165_1 G<|gY G G G<|ldB 0 G G one_3 G G<|gY G G G<|ltI G G G<|pkF G G G<|jR K52 h48 ⟨G, G, G, trivial⟩ Sr
    ·
     exact gS (g := [_, _, _]) G<|pkT G G G<|jR0 K52 h48 ⟨G, G, G, trivial⟩ Sr
   refine mv G G ?_
   apply jo [(1, _), (4, _), (5, _)] ⟨rfl, rfl, rfl, trivial⟩
   ·
    intro K57
    refine spO (i := 53) G (fun h53 => ?_) (fun h53 => ?_)
    ·
     exact gY G G G<|fa G fld_165_2 G<|gY G G G<|ldB 0 G G one_3 G G<|gY G G G<|ltI G G G<|pkF G G G<|jR K57 h53 ⟨G, G, G, trivial⟩ Sr
    ·
     exact gS (g := [_, _, _]) G<|pkT G G G<|jR0 K57 h53 ⟨G, G, G, trivial⟩ Sr
   refine mv G G ?_
   apply jo [(1, _), (4, _), (5, _)] ⟨rfl, rfl, rfl, trivial⟩
   ·
    intro K62
    refine spO (i := 58) G (fun h58 => ?_) (fun h58 => ?_)
    ·
     exact gY G G G<|fa G fld_165_3 G<|gY G G G<|ldB 0 G G one_3 G G<|gY G G G<|ltI G G G<|pkF G G G<|jR K62 h58 ⟨G, G, G, trivial⟩ Sr
    ·
     exact gS (g := [_, _, _]) G<|pkT G G G<|jR0 K62 h58 ⟨G, G, G, trivial⟩ Sr
   refine nl<|nx<|cdB G (fun h62 => ?_) (fun h62 => ?_)
   ·
    refine sq<|rg<|asg G G<|nl<|nx<|rt<|tR<|bR<|tR<|tR<|bR<|tR<|dpQ<|dpQ ?_
    exact fR1 () G G (by rw [right15, if_neg (by rw [e26]; decide), if_neg (by rw [holdersP, allI_false i (by omega) (not_t h62)]; decide)]) G Sn
   ·
    refine sk<|nx<|rg<|fa G fld_165_0 G<|ldB 0 G G one_3 G G<|asg G G<|nl<|bN<|nx<|rg<|mv G G<|adI G G (inI (by omega) (by omega)) G<|asg G G<|nl ?_
    refine dpQ ?_
    exact ag (i + 1) ⟨(by omega), (all_snoc hall (not_f h62))⟩ (by omega) ⟨G, G, G, trivial⟩ G (Sc 2 G Sn)
  ·
   have hh : holdersP a.fHolders = true := allI_true (fun j hj => hall j (by omega))
   have hb1 := ups_BV h_a hW hh
   have hb2 := downs_BV h_a hW hh
   refine ex<|tE<|tE<|bE<|nx<|sq<|rg<|ldM 0 (cAccount a a_0) G G row_70 G G<|cfv (ends15_c a a_0 h_a hh) ok_227 G (Sc 0 G Sn) G<|mv G G<|xt G G G<|xt G G G<|al zero_211 G fun b6 => al zero_211 G fun b7 => ?_
   refine stW 1 (us := (cWide ((wide (downsS a))))) G G G row_211 G G<|stW 0 (us := (cWide ((wide (upsS a))))) G G G row_211 G G<|nl<|nx<|sq<|sq<|rg<|ldM 0 (cWide ((wide (upsS a)))) G G row_211 G G<|fa G fld_70_1 G<|fa G fld_65_1 G<|ldB 2 G G one_3 G G<|cfv (above_c (upsS a) a.fSpan.fHi hb1 h_a.2.1.2) ok_228 G Sn G<|mv G G ?_
   apply jo [(1, _)] ⟨rfl, trivial⟩
   ·
    intro K83
    refine spO (i := 75) G (fun h75 => ?_) (fun h75 => ?_)
    ·
     refine gY G G G<|ldM 1 (cWide ((wide (downsS a)))) G G row_211 G G<|gY G G G<|fa G fld_70_1 G<|gY G G G<|fa G fld_65_0 G<|gY G G G<|ldB 2 G G one_3 G G<|gY G G G<|cfv (less_c (downsS a) a.fSpan.fLo hb2 h_a.2.1.1) ok_229 G Sn G<|gY G G G<|fd G fdv_211_0 G G<|gY G G G<|ltI G G G ?_
     exact pkF G G G<|jR K83 h75 ⟨G, trivial⟩ Sr
    ·
     exact gS (g := [_, _, _, _, _, _, _]) G<|pkT G G G<|jR0 K83 h75 ⟨G, trivial⟩ Sr
   refine nl<|nx<|cdB G (fun h83 => ?_) (fun h83 => ?_)
   ·
    have e83 : (r15b a) = true := h83
    refine sq<|rg<|asg G G<|nl<|nx<|rt<|tR<|dpQ<|dpQ<|dpQ ?_
    exact fR1 () G G (by rw [right15, if_neg (by rw [e26]; decide), if_pos hh, if_pos e83]) G Sn
   ·
    have e83 : (r15b a) = false := h83
    refine sk<|nx<|sq<|sq<|rg<|fa G fld_70_5 G<|fa G fld_68_0 G<|ldB 2 G G one_3 G G<|eqI G G G<|nl<|nx<|cdP G (fun h87 => ?_) (fun h87 => ?_)
    ·
     have e87 : (decide (a.fLock.fClient = 0)) = true := (decide_eq_true h87)
     refine sq<|rg<|fa G fld_70_5 G<|ldM 2 (cLock a.fLock) G G row_68 G G<|bd (ps := []) (cs := (cLock ((⟨0, 0, 0, 0⟩ : TLock)))) (by rfl) (by kernel_rfl) G<|eqT eq_Lock (a.fLock) ((⟨0, 0, 0, 0⟩ : TLock)) G G G<|asg G G<|nl<|nx<|rt<|tR<|dpQ<|dpQ<|dpQ ?_
     exact fR1 () G G (by rw [right15, if_neg (by rw [e26]; decide), if_pos hh, if_neg (by rw [e83]; decide), if_pos e87]; try rfl) G Sn
    ·
     have e87 : (decide (a.fLock.fClient = 0)) = false := (decide_eq_false h87)
     refine sk<|nx<|sq<|rg<|fa G fld_70_2 G<|ldB 2 G G one_3 G G<|fa G fld_70_5 G<|fa G fld_68_3 G<|ldB 2 G G one_3 G G<|bs1 (xs := [.tmp 94, .tmp 97]) (us := [.int .i64 a.fBase, .int .i64 a.fLock.fN]) (E := 3) (bytes := 8) (n := 2) G (by exact app_220) G G G G G G fun b98 => frS (α := Int) [a.fBase, a.fLock.fN] [[.int .i64 (a.fBase)], [.int .i64 (a.fLock.fN)]] G (fun S w h => ⟨⟨G, h_a.2.2.1⟩, ⟨G, h_a.2.2.2.2.2.2.2.2⟩, trivial⟩) (Nat.le_of_ble_eq_true G)<|cfv (wof2 _ a.fBase a.fLock.fN) ok_210 G (Sc 0 G Sn) G<|cfv (wint_c (a.fBase + a.fLock.fN) (sum2_BW h_a)) ok_152 G Sn G<|mv G G ?_
     refine xt G G G<|xt G G G<|asg G G<|asg G G<|nl<|nx<|sq<|rg<|fa G fld_70_5 G<|ldM 2 (cLock a.fLock) G G row_68 G G<|cfv (locked15_c _ h_a.2.2.2.2.2) ok_230 G Sn G<|mv G G ?_
     apply jo [(1, _), (8, _), (9, _)] ⟨rfl, rfl, rfl, trivial⟩
     ·
      intro K111
      refine spA (i := 106) G (fun h106 => ?_) (fun h106 => ?_)
      ·
       exact gY G G G<|fa G fld_70_4 G<|gY G G G<|ldB 2 G G one_66 G G<|gY G G G<|lnP 1 G G Tryz.underlying66 G fun l109 => gY G G G<|eqI G G G<|pkT G G G<|jA K111 h106 ⟨G, G, G, trivial⟩ Sr
      ·
       exact gS (g := [_, _, _, _]) G<|pkF G G G<|jA0 K111 h106 ⟨G, G, G, trivial⟩ Sr
     refine mv G G ?_
     apply jo [(1, _), (8, _)] ⟨rfl, rfl, trivial⟩
     ·
      intro K114
      refine spA (i := 112) G (fun h112 => ?_) (fun h112 => ?_)
      ·
       exact gY G G G<|mv G G<|pkT G G G<|jA K114 h112 ⟨G, G, trivial⟩ Sr
      ·
       exact gS (g := [_]) G<|pkF G G G<|jA0 K114 h112 ⟨G, G, trivial⟩ Sr
     refine mv G G ?_
     apply jo [] trivial
     ·
      intro K120
      refine spA (i := 115) G (fun h115 => ?_) (fun h115 => ?_)
      ·
       exact gY G G G<|fa G fld_70_1 G<|gY G G G<|ldM 2 (cSpan a.fSpan) G G row_65 G G<|gY G G G<|mv G G<|gY G G G<|cfv (has01_c _ _ h_a.2.1 (wrapi_in _)) ok_153 G Sn G<|pkT G G G<|jA K120 h115 trivial Sr
      ·
       exact gS (g := [_, _, _, _]) G<|pkF G G G<|jA0 K120 h115 trivial Sr
     refine asg G G<|nl<|nx<|rt<|dpQ<|dpQ<|dpQ ?_
     exact fR1 () G G (by rw [right15, if_neg (by rw [e26]; decide), if_pos hh, if_neg (by rw [e83]; decide), if_neg (by rw [e87]; decide)]; try rfl) G Sn

theorem rising19_c (v_l : Value) (l : List TAccount) : FnV Tryz.prog 135 [v_l] [⟨v_l, l⟩] (.bool (rising19 l)) := by
 refine Fnc.proof Tryz.func135 G 44 G G fun X w => gtC (q := l.length ≤ 9223372036854775807) (fun S w h => list_len (h _ (List.mem_of_getElem? (i := 0) G))) fun hlen => sq<|rg<|asg G G<|nl<|nx<|sq<|sq<|rg<|asg G G<|nl<|nx<|bk ?_
 refine lpC (σ := Nat) [(0, _)] _ (fun i C => (3, .int .i64 (i : Int)) :: C) (fun i => i ≤ l.length ∧ (∀ j, j < i → (!risj l j) = true)) (fun i => l.length - i) 0 ⟨G, trivial⟩ (Sc 0 G Sn) ⟨Nat.zero_le _, fun j hj => absurd hj (Nat.not_lt_zero j)⟩ ⟨G, G, trivial⟩ ?_
 rintro i ⟨hi, hall⟩
 refine sq<|sq<|rg<|mv G G<|mv G G<|lnP 0 G G Tryz.underlying50 G fun l6 => ltI G G G<|nl<|nx<|cdP G (fun h7 => ?_) (fun h7 => ?_)
 ·
  refine sk<|nx<|sq<|bk<|sq<|rgQ mixed (by kernel_rfl)<|mv G G<|mv G G<|ixP 0 G G G slt_50 (by omega) (getDE (d := default) (by omega)) G fun v12 => ldS 0 G G row_70 G fun q13 w13 => ?_
  refine cfq (right15_c _ _ w13) ok_171 G (Sc 1 G Sn) G<|nt G G<|mv G G ?_
  apply jo [(0, _), (3, _)] ⟨rfl, rfl, trivial⟩
  ·
   intro K22
   refine spO (i := 16) G (fun h16 => ?_) (fun h16 => ?_)
   ·
    have p16 := h16
    try simp only [Bool.or_eq_false_iff, Bool.and_eq_true, decide_eq_true_eq, decide_eq_false_iff_not, Bool.not_eq_true', Bool.not_eq_false'] at p16
    refine gY G G G<|mv G G<|gY G G G<|mv G G<|gY G G G<|ixP 3 G G G slt_50 (by omega) (getDE (d := default) (by omega)) G fun v19 => gY G G G<|ldS 0 G G row_70 G fun q20 w20 => ?_
    exact gY G G G<|cfq (plain15_c _ _ w20) ok_193 G (Sc 1 G Sn) G<|pkF G G G<|jR K22 h16 ⟨G, G, trivial⟩ (SubD.tail (SubD.tail (SubD.tail Sr)))
   ·
    exact gS (g := [_, _, _, _, _]) G<|pkT G G G<|jR0 K22 h16 ⟨G, G, trivial⟩ Sr
  refine mv G G ?_
  apply jo [(0, _), (3, _)] ⟨rfl, rfl, trivial⟩
  ·
   intro K40
   refine spO (i := 23) G (fun h23 => ?_) (fun h23 => ?_)
   ·
    have p23 := h23
    try simp only [Bool.or_eq_false_iff, Bool.and_eq_true, decide_eq_true_eq, decide_eq_false_iff_not, Bool.not_eq_true', Bool.not_eq_false'] at p23
    refine gY G G G<|mv G G<|gY G G G<|gtI G G G<|gY G G G<|mv G G ?_
    apply jo [(0, _), (3, _), (23, _)] ⟨rfl, rfl, rfl, trivial⟩
    ·
     intro K39
     refine spA (i := 26) G (fun h26 => ?_) (fun h26 => ?_)
     ·
      have p26 := of_decide_eq_true h26
      refine gY G G G<|mv G G<|gY G G G<|mv G G<|gY G G G<|ixP 3 G G G slt_50 (by omega) (getDE (d := default) (by omega)) G fun v29 => gY G G G<|faP (α := TAccount) (β := ByteArray) 0 (fun x : TAccount => x.fKey) G G fld_70_0 pAccount_0 G fun v30 => gY G G G<|ldV 0 G G one_9 G fun w31 => ?_
      refine gY G G G<|mv G G<|gY G G G<|mv G G<|gY G G G<|sbI G G (inI (by omega) (by omega)) G<|gY G G G<|ixP 5 G G G slt_50 (by omega) (getDE (d := default) (by omega)) G fun v35 => gY G G G<|faP (α := TAccount) (β := ByteArray) 0 (fun x : TAccount => x.fKey) G G fld_70_0 pAccount_0 G fun v36 => gY G G G<|ldV 0 G G one_9 G fun w37 => ?_
      exact gY G G G<|leS G G G<|gY G G G<|pkT G G G<|jA K39 h26 ⟨G, G, G, trivial⟩ (SubD.tail (SubD.tail (SubD.tail (SubD.tail Sr))))
     ·
      exact gS (g := [_, _, _, _, _, _, _, _, _, _, _, _]) G<|gY G G G<|pkF G G G<|jA0 K39 h26 ⟨G, G, G, trivial⟩ Sr
    exact pkF G G G<|jR K40 h23 ⟨G, G, trivial⟩ Sr
   ·
    exact gS (g := [_, _, _, _, _, _, _, _, _, _, _, _, _, _, _, _]) G<|pkT G G G<|jR0 K40 h23 ⟨G, G, trivial⟩ Sr
  refine nlQ<|nx<|cdB G (fun h40 => ?_) (fun h40 => ?_)
  ·
   refine sq<|rg<|asg G G<|nl<|nx<|rt<|bR<|tR<|tR<|bR<|tR ?_
   exact fR1 () G G (by rw [rising19, if_neg (by rw [allI_false i (by omega) (not_t h40)]; decide)]) G Sn
  ·
   refine sk<|bN<|nx<|rg<|mv G G<|adI G G (inI (by omega) (by omega)) G<|asg G G<|nl ?_
   exact ag (i + 1) ⟨(by omega), (all_snoc hall (not_f h40))⟩ (by omega) ⟨G, G, trivial⟩ G (Sc 3 G Sn)
 ·
  refine ex<|tE<|tE<|bE<|nx<|sq<|rg<|mv G G<|lnP 0 G G Tryz.underlying50 G fun l42 => leI G G G<|asg G G<|nl<|nx<|rt ?_
  exact fR1 () G G (by rw [rising19, if_pos (allI_true (fun j hj => hall j (by omega)))]; try rfl) G Sn
end Go.Proofs.YtmpoffijcfaalaaGreat
