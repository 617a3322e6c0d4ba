/- Part 14 of auditPlays_holds. -/
import Derived.Test.YtmpoffijcfaalaaGreatAp13

set_option maxRecDepth 20000
set_option maxHeartbeats 1000000
namespace Go.Proofs.YtmpoffijcfaalaaGreat
open Go.Eng Go.YtmpoffijcfaalaaGreat
theorem eq_Holder : EqTy Pg 165 cHolder := by
 refine ⟨by kernel_rfl, fun a b w => ?_⟩
 rw [run_equalIn_struct w 9999 165 _ _ (by simp only [Program.fieldsOf, Tryz.underlying165]) (by kernel_rfl)]
 simp only [Program.fieldsOf, Tryz.underlying165]
 refine Eq.trans (eqG G Tryz.underlying3 G G G (eqFi Tryz.underlying3 _ _) (fun w => eqG G Tryz.underlying3 G G G (eqFi Tryz.underlying3 _ _) (fun w => eqG G Tryz.underlying3 G G G (eqFi Tryz.underlying3 _ _) (fun w => eqG G Tryz.underlying3 G G G (eqFi Tryz.underlying3 _ _) (fun w => eqF0 w))))) ?_
 congr 1
 obtain ⟨a0, a1, a2, a3⟩ := a
 obtain ⟨b0, b1, b2, b3⟩ := b
 simp [THolder.mk.injEq, Bool.and_assoc]
theorem locked15_c (l : TLock) (h_l : l.wf) : FnV Pg 230 [.agg (cLock l).toArray] [] (.bool (keeperP l)) := by
 exact Fnc.proof Tryz.func230 G 21 G G fun X w => qg<|bx G G G fun b1 => ru 1 G<|nl<|nx<|qg<|rl 4 [0] G G<|ja 6 4 [0] [1] G G G<|mv G G<|ja 11 4 [0] [1] G G G<|mv G G<|ja 16 4 [0] [] G G G<|ru 1 G<|nl<|nx<|rt<|dpQ<|fR1 () G G (by rfl) G Sn
theorem plainHolder_c (v_x : Value) (x : List THolder) (v_y : Value) (y : List THolder) : FnV Pg 197 [v_x, v_y] [⟨v_x, x⟩, ⟨v_y, y⟩] (.bool (decide (x = y))) := by
 refine Fnc.proof Tryz.func197 G 26 G G fun X w => gtC (q := x.length ≤ 9223372036854775807) (fun S w h => list_len (h _ (List.mem_of_getElem? (i := 0) G))) fun hlx => gtC (q := y.length ≤ 9223372036854775807) (fun S w h => list_len (h _ (List.mem_of_getElem? (i := 1) G))) fun hly => sa 1 G<|sq<|qg<|mv G G<|lnP 0 G G Tryz.underlying66 G fun l7 => mv G G<|lnP 1 G G Tryz.underlying66 G fun l9 => ru 1 G<|nl<|nx<|cdN G (fun h10 => ?_) (fun h10 => ?_)
 · exact sa 1 G<|rt<|tR<|fR1 () G G (by rw [plain_len (by omega)]) G Sn
 ·
  have hl : x.length = y.length := by omega
  refine sk<|nx<|sq<|sa 1 G<|bk<|lpC (σ := Nat) [(0, _), (1, _)] _ (fun i C => (5, .int .i64 (i : Int)) :: C) (fun i => i ≤ x.length ∧ (∀ j, j < i → x.getD j default = y.getD j default)) (fun i => x.length - i) 0 (Gs G) (Sc 0 G (Sc 1 G Sn)) ⟨Nat.zero_le _, fun j hj => absurd hj (Nat.not_lt_zero j)⟩ (Gs G) ?_
  rintro i ⟨hi, hall⟩
  refine sq<|qg<|ru 2 G<|lnP 0 G G Tryz.underlying66 G fun l13 => ru 1 G<|nl<|nx<|cdP G (fun h14 => ?_) (fun h14 => ?_)
  ·
   refine sk<|nx<|sq<|bk<|sq<|rgQ mixed (by kernel_rfl)<|ru 2 G<|ixQ 0 G G G slt_66 G fun v19 => ldS 0 G G (Rg G) G fun q20 w20 => ru 2 G<|ixQ 3 G G G slt_66 G fun v23 => ldS 0 G G (Rg G) G fun q24 w24 => neT eq_Holder ((x.getD i default)) ((y.getD i default)) G G G<|nlQ<|nx<|cdN G (fun h25 => ?_) (fun h25 => ?_)
   · exact sa 1 G<|rt<|bR<|tR<|tR<|bR<|tR<|fR1 () G G (by rw [plain_at i (by simpa using h25)]) G Sn
   ·
    refine sk<|bN<|nx<|rg<|mv G G<|adI G G inI G<|ru 1 G<|nl ?_
    exact ag (i + 1) ⟨(by omega), (all_snoc hall (by simpa using h25))⟩ (by omega) (Gs G) G (Si [4,5] G)
  · exact ex<|tE<|tE<|bE<|nx<|sa 1 G<|rt<|fR1 () G G (by rw [plain_all hl (fun j hj => hall j (by omega))]) G Sn
theorem plainByte_c (v_x : Value) (x : List UInt8) (v_y : Value) (y : List UInt8) : FnV Pg 95 [v_x, v_y] [⟨v_x, x⟩, ⟨v_y, y⟩] (.bool (decide (x = y))) := by
 refine Fnc.proof Tryz.func95 G 26 G G fun X w => gtC (q := x.length ≤ 9223372036854775807) (fun S w h => list_len (h _ (List.mem_of_getElem? (i := 0) G))) fun hlx => gtC (q := y.length ≤ 9223372036854775807) (fun S w h => list_len (h _ (List.mem_of_getElem? (i := 1) G))) fun hly => sa 1 G<|sq<|qg<|mv G G<|lnP 0 G G Tryz.underlying35 G fun l7 => mv G G<|lnP 1 G G Tryz.underlying35 G fun l9 => ru 1 G<|nl<|nx<|cdN G (fun h10 => ?_) (fun h10 => ?_)
 · exact sa 1 G<|rt<|tR<|fR1 () G G (by rw [plain_len (by omega)]) G Sn
 ·
  have hl : x.length = y.length := by omega
  refine sk<|nx<|sq<|sa 1 G<|bk<|lpC (σ := Nat) [(0, _), (1, _)] _ (fun i C => (5, .int .i64 (i : Int)) :: C) (fun i => i ≤ x.length ∧ (∀ j, j < i → x.getD j default = y.getD j default)) (fun i => x.length - i) 0 (Gs G) (Sc 0 G (Sc 1 G Sn)) ⟨Nat.zero_le _, fun j hj => absurd hj (Nat.not_lt_zero j)⟩ (Gs G) ?_
  rintro i ⟨hi, hall⟩
  refine sq<|qg<|ru 2 G<|lnP 0 G G Tryz.underlying35 G fun l13 => ru 1 G<|nl<|nx<|cdP G (fun h14 => ?_) (fun h14 => ?_)
  ·
   refine sk<|nx<|sq<|bk<|sq<|rgQ mixed (by kernel_rfl)<|ru 2 G<|ixQ 0 G G G slt_35 G fun v19 => ldV 0 G G (Og G) G fun w20 => ru 2 G<|ixQ 2 G G G slt_35 G fun v23 => ldV 0 G G (Og G) G fun w24 => ru 1 G<|nlQ<|nx<|cdN G (fun h25 => ?_) (fun h25 => ?_)
   · exact sa 1 G<|rt<|bR<|tR<|tR<|bR<|tR<|fR1 () G G (by rw [plain_at i (fun e => h25 (by simp only [Int.toNat_natCast, e]))]) G Sn
   ·
    refine sk<|bN<|nx<|rg<|mv G G<|adI G G inI G<|ru 1 G<|nl ?_
    exact ag (i + 1) ⟨(by omega), (all_snoc hall (UInt8.toNat_inj.1 (by have q := h25; simp only [Int.toNat_natCast] at q; omega)))⟩ (by omega) (Gs G) G (Si [2,3] G)
  · exact ex<|tE<|tE<|bE<|nx<|sa 1 G<|rt<|fR1 () G G (by rw [plain_all hl (fun j hj => hall j (by omega))]) G Sn
theorem sameBytes_c (v_x : Value) (x : List UInt8) (v_y : Value) (y : List UInt8) : FnV Pg 41 [v_x, v_y] [⟨v_x, x⟩, ⟨v_y, y⟩] (.bool (decide (x = y))) := by
 exact Fnc.proof Tryz.func41 G 8 G G fun X w => sa 1 G<|qg<|ru 2 G<|cfv (plainByte_c _ _ _ _) (Kg G) G (Si [0,1] G) G<|ru 1 G<|nl<|nx<|rt<|fR1 () G G (by rfl) G Sn
theorem sameAcc_c (x : TAccount) (x_0 : Value) (y : TAccount) (y_0 : Value) (h_x : x.wf) (h_y : y.wf) : FnV Pg 142 [.agg (cAccount x x_0).toArray, .agg (cAccount y y_0).toArray] [⟨x_0, x.fHolders⟩, ⟨y_0, y.fHolders⟩] (.bool (sameAcc x y)) := by
 refine Fnc.proof Tryz.func142 G 45 G G fun X w => qg<|bx G G G fun b2 => bx G G G fun b3 => ru 1 G<|nl<|nx<|qg<|rl 4 [1,0] G G<|ru 2 G ?_
 refine jy 10 6 [2,3] G G (fun h10 K16 => by
  have p10 := of_decide_eq_true h10
  exact ru 1 G<|gY G G G<|ldM 1 (cSpan x.fSpan) G G (Rg G) G G<|ru 1 G<|gY G G G<|ldM 0 (cSpan y.fSpan) G G (Rg G) G G<|gY G G G<|eqT eq_Span (x.fSpan) (y.fSpan) G G G<|ru 1 G<|K16 G Sr) ?_
 exact mv G G<|ja 17 6 [1,0] [2,3] G G G<|mv G G<|ja 24 6 [1,0] [2,3] G G G<|mv G G<|jy 31 6 [2,3] G G (fun h31 K37 => rl 4 [1,0] G G<|gY G G G<|cfv (plainHolder_c _ _ _ _) (Kg G) G (Si [0,1] G) G<|ru 1 G<|K37 G Sr)<|mv G G<|jy 38 6 [] G G (fun h38 K44 => ru 1 G<|gY G G G<|ldM 1 (cLock x.fLock) G G (Rg G) G G<|ru 1 G<|gY G G G<|ldM 0 (cLock y.fLock) G G (Rg G) G G<|gY G G G<|eqT eq_Lock (x.fLock) (y.fLock) G G G<|ru 1 G<|K44 G Sr)<|ru 1 G<|nl<|nx<|rt<|dpQ<|dpQ<|fR1 () G G (by rfl) G Sn
theorem new15_c (k : ByteArray) : FnV Pg 236 [.string k] [] (.tuple #[.agg (cAccount (new15 k) nS).toArray, .int .i64 (newE k)]) := by
 refine Fnc.proof Tryz.func236 G 10 G G fun X w => qg<|al zero_70 G fun b2 => ru 1 G<|nl<|nx<|sq<|qg<|mv G G<|cfv (key15_c _) (Kg G) G Sn G<|nt G G<|nl<|nx<|cdB G (fun h6 => ?_) (fun h6 => ?_)
 · exact qg<|bd (ps := []) (cs := (cAccount ((⟨ByteArray.empty, (⟨0, 0⟩ : TSpan), 0, 0, [], (⟨0, 0, 0, 0⟩ : TLock)⟩ : TAccount)) nS)) (by rfl) (by kernel_rfl) G<|stW 0 (us := (cAccount ((⟨ByteArray.empty, (⟨0, 0⟩ : TSpan), 0, 0, [], (⟨0, 0, 0, 0⟩ : TLock)⟩ : TAccount)) nS)) G G G (Rg G) G G<|ru 1 G<|nl<|nx<|rt<|tR<|fRG () [_] (rCT 0 G G G G (Rg G)) (by have q : okKey k = false := (by simpa using h6); rw [new15, newE, q]; rfl) G Sn
 · exact sk<|nx<|qg<|mv G G<|bd (ps := [(0, .tmp 8)]) (cs := (cAccount ((⟨k, (⟨0, 0⟩ : TSpan), 0, 0, [], (⟨0, 0, 0, 0⟩ : TLock)⟩ : TAccount)) nS)) (by rfl) (by kernel_rfl) G<|stW 0 (us := (cAccount ((⟨k, (⟨0, 0⟩ : TSpan), 0, 0, [], (⟨0, 0, 0, 0⟩ : TLock)⟩ : TAccount)) nS)) G G G (Rg G) G G<|ru 1 G<|nl<|nx<|rt<|fRG () [_] (rCT 0 G G G G (Rg G)) (by have q : okKey k = true := (by simpa using h6); rw [new15, newE, q]; rfl) G Sn
theorem plain15_c (a : TAccount) (a_0 : Value) (h_a : a.wf) : FnV Pg 193 [.agg (cAccount a a_0).toArray] [⟨a_0, a.fHolders⟩] (.bool (plain15 a)) := by
 refine Fnc.proof Tryz.func193 G 18 G G fun X w => qg<|bx G G G fun b1 => ru 1 G<|nl<|nx<|qg<|rl 2 [0] G G<|cfv (new15_c _) (Kg G) G Sn G<|ru 2 G<|ru 1 G<|al zero_70 G fun b3 => stW 0 (us := (cAccount ((new15 a.fKey)) nS)) G G G (Rg G) G G<|ru 1 G<|nl<|nx<|qg<|ru 3 G ?_
 refine jy 13 4 [] G G (fun h13 K17 => by
  have p13 := of_decide_eq_true h13
  exact gY G G G<|ldM 1 (cAccount a a_0) G G (Rg G) G G<|gY G G G<|ldM 0 (cAccount ((new15 a.fKey)) nS) G G (Rg G) G G<|gY G G G<|emL (α := THolder)<|cfv (sameAcc_c _ _ _ _ h_a (new15_wf _)) (Kg G) G (Si [1,0] G) G<|ru 1 G<|K17 G (SubD.tail Sr)) ?_
 exact ru 1 G<|nl<|nx<|rt<|dpQ<|dpQ<|fR1 () G G (by rfl) G Sn
theorem wof1 (v : Value) (n : Int) : FnV Pg 210 [v] [⟨v, [n]⟩] (.agg (cWide (wide n)).toArray) := by
 have := wof_c v [n] (by simp)
 rwa [show [n].sum = n by simp] at this
theorem wof2 (v : Value) (m n : Int) : FnV Pg 210 [v] [⟨v, [m, n]⟩] (.agg (cWide (wide (m + n))).toArray) := by
 have := wof_c v [m, n] (by simp)
 rwa [show [m, n].sum = m + n by simp] at this
theorem ends15_c (a : TAccount) (a_0 : Value) (h_a : a.wf) (hh : holdersP a.fHolders = true) : FnV Pg 227 [.agg (cAccount a a_0).toArray] [⟨a_0, a.fHolders⟩] (.tuple #[.agg (cWide (wide (downsS a))).toArray, .agg (cWide (wide (upsS a))).toArray]) := by
 refine Fnc.proof Tryz.func227 G 40 G G fun X w => gtC (q := ∀ x ∈ a.fHolders, x.wf) (fun S w h => list_wf (s := sHolder) (h _ (List.mem_of_getElem? (i := 0) G))) fun hW => ?_
 have hl5 := hold_len hh
 refine qg<|bx G G G fun b1 => al zero_211 G fun b2 => al zero_211 G fun b3 => nl<|nx<|sq<|rgZ (L := [bl b3 211 zv7, bl b2 211 zv7, bl b1 70 (cAccount a a_0), fz X w]) [] [(1,⟨some (.int .i64 a.fBase),fun _ => [],false⟩),(2,⟨none,fun u => [⟨u, [a.fBase]⟩],false⟩),(3,⟨some (.agg (cWide ((wide (a.fBase)))).toArray),fun _ => [],false⟩),(4,⟨some (.pointer (some ⟨b1, 3, none⟩)),fun _ => [],false⟩),(5,⟨some (.int .i64 a.fBase),fun _ => [],false⟩),(6,⟨none,fun u => [⟨u, [a.fBase]⟩],false⟩),(7,⟨some (.agg (cWide ((wide (a.fBase)))).toArray),fun _ => [],false⟩),(8,⟨none,fun _ => [],true⟩),(9,⟨none,fun _ => [],true⟩),(10,⟨none,fun _ => [],true⟩),(11,⟨none,fun _ => [],true⟩)] [(8,fun u => u = .pointer (some ⟨ptrB u, 0, none⟩)),(9,fun u => u = .pointer (some ⟨ptrB u, 0, none⟩))] [[],[8],[9],[8,9],[9,8],[8,9,10],[9,8,10],[8,9,10,11],[9,8,10,11]] [(8,fun L zz => inE 4 (bl (ptrB (zz 8)) 211 zv7) L),(9,fun L zz => (bl (ptrB (zz 9)) 211 zv7) :: L),(10,fun L zz => rpE 4 (bl (ptrB (zz 8)) 211 (cWide ((wide (a.fBase))))) L),(11,fun L zz => rpE 5 (bl (ptrB (zz 9)) 211 (cWide ((wide (a.fBase))))) L)] (fun _ => G) (fun _ => by kernel_rfl) ?_ fun V hV => ?_
 ·
  refine ⟨fun V De _=>aP5 (ldB 2 G G (Og G) G G<|oh G G G G) (ldB 3 G G (Og G) G G<|oh G G G G) (ldB 3 G G (Og G) G G<|oh G G G G) (ldB 4 G G (Og G) G G<|oh G G G G) (ldB 4 G G (Og G) G G<|oh G G G G),fun V De _=>(by (repeat (refine aC ?_ ?_; exact bs1 (xs := [.tmp 8]) (us := [.int .i64 a.fBase]) (E := 3) (bytes := 8) (n := 1) G (by exact app_220) G G G G G G fun b9 => frS (α := Int) [a.fBase] [[.int .i64 (a.fBase)]] G (fun S w h => ⟨⟨G, h_a.2.2.1⟩, trivial⟩) (Nat.le_of_ble_eq_true G)<|nl (odH G G G trivial (Sc 0 G Sn) (SubD.tail Sr)))); trivial),fun V De _=>(by (repeat (refine aC ?_ ?_; exact cfv (wof1 _ a.fBase) (Kg G) G (Sc 0 G Sn) G<|nl (odH G G G G Sn (SubD.tail Sr)))); trivial),?_⟩
  refine ⟨fun V De _=>?_,?_⟩
  ·
   repeat
    refine aC ?_ ?_
    · exact ru 1 G<|oh G G G G
   trivial
  refine ⟨fun V De _=>aP7 ?_ ?_ ?_ ?_ ?_ ?_ ?_,?_⟩
  · exact rl 1 [2] G G<|oh G G G G
  · exact rl 1 [3] G G<|oh G G G G
  · exact rl 1 [3] G G<|oh G G G G
  · exact rl 1 [4] G G<|oh G G G G
  · exact rl 1 [4] G G<|oh G G G G
  · exact rl 1 [4] G G<|oh G G G G
  · exact rl 1 [4] G G<|oh G G G G
  refine ⟨fun V De _=>?_,?_⟩
  ·
   repeat
    refine aC ?_ ?_
    · exact bs1 (xs := [.tmp 12]) (us := [.int .i64 a.fBase]) (E := 3) (bytes := 8) (n := 1) G (by exact app_220) G G G G G G fun b13 => frS (α := Int) [a.fBase] [[.int .i64 (a.fBase)]] G (fun S w h => ⟨⟨G, h_a.2.2.1⟩, trivial⟩) (Nat.le_of_ble_eq_true G)<|nl (odH G G G trivial (Sc 0 G Sn) (SubD.tail Sr))
   trivial
  refine ⟨fun V De _=>(by (repeat (refine aC ?_ ?_; exact cfv (wof1 _ a.fBase) (Kg G) G (Sc 0 G Sn) G<|nl (odH G G G G Sn (SubD.tail Sr)))); trivial),fun V De _=>aP2 (al zero_211 G fun b4 => oh G G G G) (al zero_211 G fun b4 => mtL 4 G<|mtL 4 G<|mtL 4 G<|mtL 3 G<|mtL 4 G<|oh G G G G),fun V De _=>aP2 (al zero_211 G fun b5 => oh G G G G) (al zero_211 G fun b5 => oh G G G G),?_⟩
  refine ⟨fun V De hV=>?_,?_⟩
  ·
   repeat
    refine aC ?_ ?_
    · exact stW 1 (us := (cWide ((wide (a.fBase))))) (congrArg some (hV.mem 8 (mE G) G)) G G (Rg G) G G<|oh0 G G
   trivial
  refine ⟨fun V De hV=>?_,?_⟩
  ·
   repeat
    refine aC ?_ ?_
    · exact stW 0 (us := (cWide ((wide (a.fBase))))) (congrArg some (hV.mem 9 (mE G) G)) G G (Rg G) G G<|oh0 G G
   trivial
  trivial
 ·
  refine wD [2] G<|?_
  obtain ⟨b4, hb4⟩ : ∃ b, V 8 = .pointer (some ⟨b, 0, none⟩) := ⟨_, hV.mem 8 (by decide) rfl rfl⟩
  obtain ⟨b5, hb5⟩ : ∃ b, V 9 = .pointer (some ⟨b, 0, none⟩) := ⟨_, hV.mem 9 (by decide) rfl rfl⟩
  simp only [hb4, hb5, ptrB_mk]
  refine nx<|sq<|sa 1 G<|bk<|lpE (σ := Nat) [(1, _), (2, _), (3, _), (4, _), (5, _)] _ (fun i C => (6, .int .i64 (i : Int)) :: C) (fun i => [bl b5 211 (cWide (wide (accS (fun h => h.fUp) a.fBase a.fHolders i))), bl b4 211 (cWide (wide (accN (fun h => h.fDown) a.fBase a.fHolders i))), bl b3 211 zv7, bl b2 211 zv7, bl b1 70 (cAccount a a_0), fz X w]) (fun _ Dc => Dc) (fun i => i ≤ a.fHolders.length) (fun i => a.fHolders.length - i) 0 (Gs G) (Sc 0 G Sn) (Nat.zero_le _) (Gs G) G (Sc 0 G Sn) ?_
  intro i hi
  refine sq<|qg<|rl 3 [4] G G<|lnP 0 G G Tryz.underlying66 G fun l18 => ru 1 G<|nl<|nx<|cdP G (fun h19 => ?_) (fun h19 => ?_)
  ·
   have hwi := hW _ (getD_mem (l := a.fHolders) (i := i) (by omega))
   have hb1 := lim6 (i := i) (by omega) (accN_bd (l := a.fHolders) h_a.2.2.1 (fun x hx => (hW x hx).2.2.2) i hi)
   have hb2 := lim6 (i := i) (by omega) (accS_bd (l := a.fHolders) h_a.2.2.1 (fun x hx => (hW x hx).2.2.1) i hi)
   refine sk<|nx<|sq<|bk<|rgZ (L := [bl b5 211 (cWide ((wide (accS (fun h => h.fUp) a.fBase a.fHolders i)))), bl b4 211 (cWide ((wide (accN (fun h => h.fDown) a.fBase a.fHolders i)))), bl b3 211 zv7, bl b2 211 zv7, bl b1 70 (cAccount a a_0), fz X w]) [(0,.ld 1),(2,.ld 4),(7,.cv [] ⟨_,_,_,_,less_c (accN (fun h => h.fDown) a.fBase a.fHolders i) (a.fHolders.getD i default).fDown hb1 hwi.2.2.2,(Kg G)⟩),(8,.ld 0),(10,.ld 4),(15,.cv [] ⟨_,_,_,_,plus_c (accS (fun h => h.fUp) a.fBase a.fHolders i) (a.fHolders.getD i default).fUp hb2.w hwi.2.2.1,(Kg G)⟩)] [(4,⟨none,fun u => [⟨u, (⟨(a.fHolders.getD i default)⟩ : Pt THolder)⟩],false⟩),(5,⟨none,fun u => [⟨u, (⟨(a.fHolders.getD i default).fDown⟩ : Pt Int)⟩],false⟩),(6,⟨some (.int .i64 ((a.fHolders.getD i default).fDown)),fun _ => [],false⟩),(12,⟨none,fun u => [⟨u, (⟨(a.fHolders.getD i default)⟩ : Pt THolder)⟩],false⟩),(13,⟨none,fun u => [⟨u, (⟨(a.fHolders.getD i default).fUp⟩ : Pt Int)⟩],false⟩),(14,⟨some (.int .i64 ((a.fHolders.getD i default).fUp)),fun _ => [],false⟩),(16,⟨none,fun _ => [],true⟩),(17,⟨none,fun _ => [],true⟩)] [] [] [(16,fun L _ => rpE 4 (bl b4 211 (cWide ((wide ((accN (fun h => h.fDown) a.fBase a.fHolders i) - (a.fHolders.getD i default).fDown))))) L),(17,fun L _ => rpE 5 (bl b5 211 (cWide ((wide ((accS (fun h => h.fUp) a.fBase a.fHolders i) + (a.fHolders.getD i default).fUp))))) L)] (fun _ => G) (fun _ => by kernel_rfl) ?_ fun V _ => ?_
   ·
    refine ⟨fun V De _=>aP1 (ixQ 0 G G G slt_66 G fun v26 => nl (odH G G G trivial (Sc 0 G Sn) (SubD.tail Sr))),fun V De _=>aP1 (faP (α := THolder) (β := Int) 0 (fun x : THolder => x.fDown) G G (Fg G) pHolder_3 G fun v27 => nl (odH G G G trivial (Sc 0 G Sn) (SubD.tail (SubD.tail Sr)))),?_⟩
    refine ⟨fun V De _=>aP1 ?_,?_⟩
    ·
     refine ldV 0 G G (Og G) G fun w28 => ?_
     exact nl (odH G G G G Sn (SubD.tail Sr))
    refine ⟨fun V De _=>(by (repeat (refine aC ?_ ?_; exact ixQ 0 G G G slt_66 G fun v34 => nl (odH G G G trivial (Sc 0 G Sn) (SubD.tail Sr)))); trivial),fun V De _=>(by (repeat (refine aC ?_ ?_; exact faP (α := THolder) (β := Int) 0 (fun x : THolder => x.fUp) G G (Fg G) pHolder_2 G fun v35 => nl (odH G G G trivial (Sc 0 G Sn) (SubD.tail (SubD.tail Sr))))); trivial),?_⟩
    refine ⟨fun V De _=>?_,?_⟩
    ·
     repeat
      refine aC ?_ ?_
      ·
       refine ldV 0 G G (Og G) G fun w36 => ?_
       exact nl (odH G G G G Sn (SubD.tail Sr))
     trivial
    exact ⟨fun V De _=>aP1 (stW 1 (us := (cWide ((wide ((accN (fun h => h.fDown) a.fBase a.fHolders i) - (a.fHolders.getD i default).fDown))))) G G G (Rg G) G G<|oh0 G G),fun V De _=>aP1 (stW 0 (us := (cWide ((wide ((accS (fun h => h.fUp) a.fBase a.fHolders i) + (a.fHolders.getD i default).fUp))))) G G G (Rg G) G G<|oh0 G G),trivial⟩
   ·
    refine wD [4] G<|bN<|nx<|rg<|mv G G<|adI G G inI G<|ru 1 G<|nl ?_
    exact ag (i + 1) (by omega) (by omega) (Gs G) G (Sc 0 G Sn)
  · exact ex<|tE<|tE<|bE<|nx<|sq<|rgX [(0,.ld 1),(1,.ld 0),(2,.st 3),(3,.st 2)] G (by kernel_rfl)<|nx<|rt<|fRG () [_, _, _, _, _] (rCC 3 2 G G G G G (Rg G) (Rg G)) (by have e : i = a.fHolders.length := (by omega); subst e; rw [accS_ups, accN_downs]; try rfl) G Sn
theorem right15_c (a : TAccount) (a_0 : Value) (h_a : a.wf) : FnV Pg 171 [.agg (cAccount a a_0).toArray] [⟨a_0, a.fHolders⟩] (.bool (right15 a)) := by
 refine Fnc.proof Tryz.func171 G 121 G G fun X w => gtC (q := ∀ x ∈ a.fHolders, x.wf) (fun S w h => list_wf (s := sHolder) (h _ (List.mem_of_getElem? (i := 0) G))) fun hW => qg<|bx G G G fun b1 => ru 1 G<|nl<|nx<|sq<|qg<|rl 2 [0] G G<|cfv (key15_c _) (Kg G) G Sn G<|ru 2 G<|jz 14 7 [1] G G (fun h14 K21 => ru 1 G<|gY G G G<|ldM 0 (cSpan a.fSpan) G G (Rg G) G G<|rl 2 [0] G G<|gY G G G<|cfv (has01_c _ _ h_a.2.1 h_a.2.2.1) (Kg G) G Sn G<|ru 2 G<|K21 G Sr)<|mv G G<|jb 22 4 [0] [1] G G G<|nl<|nx<|cdB G (fun h26 => ?_) (fun h26 => ?_)
 ·
  have e26 : (r15a a) = true := h26
  exact sa 1 G<|rt<|tR<|dpQ<|fR1 () G G (by rw [right15, if_pos e26]) G Sn
 ·
  have e26 : (r15a a) = false := h26
  refine sk<|nx<|sa 1 G<|sq<|sa 1 G<|bk<|lpC (σ := Nat) [(1, _)] _ (fun i C => (4, .int .i64 (i : Int)) :: (3, .int .i64 (prevI (fun k => (a.fHolders.getD k default).fNode) i)) :: C) (fun i => i ≤ a.fHolders.length ∧ (∀ j, j < i → (!holdP (prevI (fun k => (a.fHolders.getD k default).fNode) j) (a.fHolders.getD j default)) = true)) (fun i => a.fHolders.length - i) 0 ⟨G, trivial⟩ (Sc 0 G Sn) ⟨Nat.zero_le _, fun j hj => absurd hj (Nat.not_lt_zero j)⟩ (Gs G) ?_
  rintro i ⟨hi, hall⟩
  refine sq<|qg<|rl 3 [0] G G<|lnP 0 G G Tryz.underlying66 G fun l30 => ru 1 G<|nl<|nx<|cdP G (fun h31 => ?_) (fun h31 => ?_)
  ·
   refine sk<|nx<|sq<|bk<|qg<|rl 3 [0] G G<|ixQ 0 G G G slt_66 G fun v37 => ldS 0 G G (Rg G) G fun q38 w38 => al zero_165 G fun b5 => stW 0 (us := (cHolder ((a.fHolders.getD i default)))) G G G (Rg G) G G<|nl<|nx<|sq<|qg<|rl 5 [0] G G<|jb 43 4 [0] [1,4,5] G G G<|mv G G<|jb 48 4 [0] [1,4,5] G G G<|mv G G<|jb 53 4 [0] [1,4,5] G G G<|mv G G<|jb 58 4 [0] [1,4,5] G G G<|nl<|nx<|cdB G (fun h62 => ?_) (fun h62 => ?_)
   · exact sa 1 G<|rt<|tR<|bR<|tR<|tR<|bR<|tR<|dpQ<|dpQ<|fR1 () G G (by rw [right15, if_neg (by rw [e26]; decide), if_neg (by rw [holdersP, allI_false i (by omega) (not_t h62)]; decide)]) G Sn
   ·
    refine sk<|nx<|rb 3 [0] G G<|bN<|nx<|rg<|mv G G<|adI G G inI G<|ru 1 G<|nl<|dpQ ?_
    exact ag (i + 1) ⟨(by omega), (all_snoc hall (not_f h62))⟩ (by omega) (Gs G) G (Sc 2 G Sn)
  ·
   have hh : holdersP a.fHolders = true := allI_true (fun j hj => hall j (by omega))
   have hb1 := ups_BV h_a hW hh
   have hb2 := downs_BV h_a hW hh
   refine ex<|tE<|tE<|bE<|nx<|qg<|ldM 0 (cAccount a a_0) G G (Rg G) G G<|cfv (ends15_c a a_0 h_a hh) (Kg G) G (Sc 0 G Sn) G<|ru 3 G<|al zero_211 G fun b6 => al zero_211 G fun b7 => stW 1 (us := (cWide ((wide (downsS a))))) G G G (Rg G) G G<|stW 0 (us := (cWide ((wide (upsS a))))) G G G (Rg G) G G<|nl<|nx<|sq<|qg<|ldM 0 (cWide ((wide (upsS a)))) G G (Rg G) G G<|rl 3 [2] G G<|cfv (above_c (upsS a) a.fSpan.fHi hb1 h_a.2.1.2) (Kg G) G Sn G<|mv G G ?_
   refine jz 75 8 [1] G G (fun h75 K83 => by
    exact gY G G G<|ldM 1 (cWide ((wide (downsS a)))) G G (Rg G) G G<|rl 3 [2] G G<|gY G G G<|cfv (less_c (downsS a) a.fSpan.fLo hb2 h_a.2.1.1) (Kg G) G Sn G<|gY G G G<|fd G fdv_211_0 G G<|ru 1 G<|ru 1 G<|K83 G Sr) ?_
   refine nl<|nx<|cdB G (fun h83 => ?_) (fun h83 => ?_)
   ·
    have e83 : (r15b a) = true := h83
    exact sa 1 G<|rt<|tR<|dpQ<|dpQ<|dpQ<|fR1 () G G (by rw [right15, if_neg (by rw [e26]; decide), if_pos hh, if_pos e83]) G Sn
   ·
    have e83 : (r15b a) = false := h83
    refine sk<|nx<|sq<|sb 4 [2] G G<|cdP G (fun h87 => ?_) (fun h87 => ?_)
    ·
     have e87 : (decide (a.fLock.fClient = 0)) = true := (decide_eq_true h87)
     exact qg<|ru 1 G<|ldM 2 (cLock a.fLock) G G (Rg G) G G<|bd (ps := []) (cs := (cLock ((⟨0, 0, 0, 0⟩ : TLock)))) (by rfl) (by kernel_rfl) G<|eqT eq_Lock (a.fLock) ((⟨0, 0, 0, 0⟩ : TLock)) G G G<|ru 1 G<|nl<|nx<|rt<|tR<|dpQ<|dpQ<|dpQ<|fR1 () G G (by rw [right15, if_neg (by rw [e26]; decide), if_pos hh, if_neg (by rw [e83]; decide), if_pos e87]; try rfl) G Sn
    ·
     have e87 : (decide (a.fLock.fClient = 0)) = false := (decide_eq_false h87)
     exact sk<|nx<|qg<|rl 5 [2,2] G G<|bs1 (xs := [.tmp 94, .tmp 97]) (us := [.int .i64 a.fBase, .int .i64 a.fLock.fN]) (E := 3) (bytes := 8) (n := 2) G (by exact app_220) G G G G G G fun b98 => frS (α := Int) [a.fBase, a.fLock.fN] [[.int .i64 (a.fBase)], [.int .i64 (a.fLock.fN)]] G (fun S w h => ⟨⟨G, h_a.2.2.1⟩, ⟨G, h_a.2.2.2.2.2.2.2.2⟩, trivial⟩) (Nat.le_of_ble_eq_true G)<|cfv (wof2 _ a.fBase a.fLock.fN) (Kg G) G (Sc 0 G Sn) G<|cfv (wint_c (a.fBase + a.fLock.fN) (sum2_BW h_a)) (Kg G) G Sn G<|mv G G<|ru 4 G<|nl<|nx<|qg<|ru 1 G<|ldM 2 (cLock a.fLock) G G (Rg G) G G<|cfv (locked15_c _ h_a.2.2.2.2.2) (Kg G) G Sn G<|mv G G<|jy 106 5 [1,8,9] G G (fun h106 K111 => rl 2 [2] G G<|gY G G G<|lnP 1 G G Tryz.underlying66 G fun l109 => ru 2 G<|K111 G Sr)<|mv G G<|ja 112 2 [] [1,8] G G G<|mv G G<|jy 115 5 [] G G (fun h115 K120 => ru 1 G<|gY G G G<|ldM 2 (cSpan a.fSpan) G G (Rg G) G G<|ru 1 G<|gY G G G<|cfv (has01_c _ _ h_a.2.1 (wrapi_in _)) (Kg G) G Sn G<|ru 1 G<|K120 G Sr)<|ru 1 G<|nl<|nx<|rt<|dpQ<|dpQ<|dpQ<|fR1 () G G (by rw [right15, if_neg (by rw [e26]; decide), if_pos hh, if_neg (by rw [e83]; decide), if_neg (by rw [e87]; decide)]; try rfl) G Sn
theorem rising19_c (v_l : Value) (l : List TAccount) : FnV Pg 135 [v_l] [⟨v_l, l⟩] (.bool (rising19 l)) := by
 refine Fnc.proof Tryz.func135 G 44 G G fun X w => gtC (q := l.length ≤ 9223372036854775807) (fun S w h => list_len (h _ (List.mem_of_getElem? (i := 0) G))) fun hlen => sa 1 G<|sq<|sa 1 G<|bk<|lpC (σ := Nat) [(0, _)] _ (fun i C => (3, .int .i64 (i : Int)) :: C) (fun i => i ≤ l.length ∧ (∀ j, j < i → (!risj l j) = true)) (fun i => l.length - i) 0 ⟨G, trivial⟩ (Sc 0 G Sn) ⟨Nat.zero_le _, fun j hj => absurd hj (Nat.not_lt_zero j)⟩ (Gs G) ?_
 rintro i ⟨hi, hall⟩
 refine sq<|qg<|ru 2 G<|lnP 0 G G Tryz.underlying50 G fun l6 => ru 1 G<|nl<|nx<|cdP G (fun h7 => ?_) (fun h7 => ?_)
 ·
  refine sk<|nx<|sq<|bk<|sq<|rgQ mixed (by kernel_rfl)<|ru 2 G<|ixQ 0 G G G slt_50 G fun v12 => ldS 0 G G (Rg G) G fun q13 w13 => cfq (right15_c _ _ w13) (Kg G) G (Sc 1 G Sn) G<|ru 2 G ?_
  refine jz 16 6 [0,3] G G (fun h16 K22 => by
   have p16 := h16
   try simp only [Bool.or_eq_false_iff, Bool.and_eq_true, decide_eq_true_eq, decide_eq_false_iff_not, Bool.not_eq_true', Bool.not_eq_false'] at p16
   exact ru 2 G<|gY G G G<|ixQ 3 G G G slt_50 G fun v19 => gY G G G<|ldS 0 G G (Rg G) G fun q20 w20 => gY G G G<|cfq (plain15_c _ _ w20) (Kg G) G (Sc 1 G Sn) G<|ru 1 G<|K22 G (SubD.tail (SubD.tail (SubD.tail Sr)))) ?_
  refine mv G G ?_
  refine jz 23 17 [0,3] G G (fun h23 K40 => by
   have p23 := h23
   try simp only [Bool.or_eq_false_iff, Bool.and_eq_true, decide_eq_true_eq, decide_eq_false_iff_not, Bool.not_eq_true', Bool.not_eq_false'] at p23
   refine ru 3 G ?_
   refine jy 26 13 [0,3,23] G G (fun h26 K39 => by
    have p26 := of_decide_eq_true h26
    exact ru 2 G<|gY G G G<|ixQ 3 G G G slt_50 G fun v29 => gY G G G<|faP (α := TAccount) (β := ByteArray) 0 (fun x : TAccount => x.fKey) G G (Fg G) pAccount_0 G fun v30 => gY G G G<|ldV 0 G G (Og G) G fun w31 => ru 2 G<|gY G G G<|sbI G G inI G<|gY G G G<|ixQ 5 G G G slt_50 G fun v35 => gY G G G<|faP (α := TAccount) (β := ByteArray) 0 (fun x : TAccount => x.fKey) G G (Fg G) pAccount_0 G fun v36 => gY G G G<|ldV 0 G G (Og G) G fun w37 => gY G G G<|leS G G G<|ru 1 G<|K39 G (SubD.tail (SubD.tail (SubD.tail (SubD.tail Sr))))) ?_
   exact ru 1 G<|K40 G Sr) ?_
  refine nlQ<|nx<|cdB G (fun h40 => ?_) (fun h40 => ?_)
  · exact sa 1 G<|rt<|bR<|tR<|tR<|bR<|tR<|fR1 () G G (by rw [rising19, if_neg (by rw [allI_false i (by omega) (not_t h40)]; decide)]) G Sn
  ·
   refine sk<|bN<|nx<|rg<|mv G G<|adI G G inI G<|ru 1 G<|nl ?_
   exact ag (i + 1) ⟨(by omega), (all_snoc hall (not_f h40))⟩ (by omega) (Gs G) G (Sc 3 G Sn)
 · exact ex<|tE<|tE<|bE<|nx<|qg<|mv G G<|lnP 0 G G Tryz.underlying50 G fun l42 => ru 2 G<|nl<|nx<|rt<|fR1 () G G (by rw [rising19, if_pos (allI_true (fun j hj => hall j (by omega)))]; try rfl) G Sn
theorem sright19_c (s : TState) (s_0 s_1 s_2 s_3 s_4 s_5 : Value) (h_s : s.wf) : FnV Pg 62 [.agg (cState s s_0 s_1 s_2 s_3 s_4 s_5).toArray] [⟨s_0, s.fAccounts⟩, ⟨s_1, s.fMarks⟩, ⟨s_2, s.fWaits⟩, ⟨s_3, s.fDeals⟩, ⟨s_4, s.fEnds⟩, ⟨s_5, s.fImage⟩] (.bool (sright19 s)) := by
 refine Fnc.proof Tryz.func62 G 210 G G fun X w => qg<|bx G G G fun b1 => ru 1 G<|nl<|nx<|sq<|qg<|rl 2 [0] G G<|cfv (group19_c _ h_s.1) (Kg G) G Sn G<|ru 2 G<|jz 11 5 [1] G G (fun h11 K16 => rl 2 [0] G G<|gY G G G<|cfv (number19_c _ h_s.2.1) (Kg G) G Sn G<|ru 2 G<|K16 G Sr)<|mv G G<|jz 17 5 [1] G G (fun h17 K22 => rl 2 [0] G G<|gY G G G<|cfv (number19_c _ h_s.2.2.2.2.2.1) (Kg G) G Sn G<|ru 2 G<|K22 G Sr)<|mv G G<|jz 23 5 [1] G G (fun h23 K28 => rl 2 [0] G G<|gY G G G<|cfv (number19_c _ h_s.2.2.2.2.2.2.2.2.2.2.2.2.2.2.1) (Kg G) G Sn G<|ru 2 G<|K28 G Sr)<|mv G G<|jz 29 5 [1] G G (fun h29 K34 => rl 2 [0] G G<|gY G G G<|cfv (number19_c _ h_s.2.2.2.2.2.2.2.2.2.2.2.2.2.2.2.1) (Kg G) G Sn G<|ru 2 G<|K34 G Sr)<|mv G G<|jz 35 5 [1] G G (fun h35 K40 => rl 2 [0] G G<|gY G G G<|cfv (number19_c _ h_s.2.2.2.2.2.2.2.2.2.2.2.2.2.2.2.2) (Kg G) G Sn G<|ru 2 G<|K40 G Sr)<|nl<|nx<|cdB G (fun h40 => ?_) (fun h40 => ?_)
 ·
  have e40 : (q19a s) = true := h40
  exact sa 1 G<|rt<|tR<|dpQ<|fR1 () G G (by rw [sright19, if_pos e40]) G Sn
 ·
  have e40 : (q19a s) = false := h40
  refine sk<|nx<|sq<|qg<|rl 4 [0] G G ?_
  refine jy 44 27 [1] G G (fun h44 K71 => by
   exact rl 4 [0] G G<|jb 48 4 [0] [1,44] G G G<|ru 1 G<|jz 53 5 [1,44] G G (fun h53 K58 => rl 2 [0] G G<|gY G G G<|lnP 0 G G Tryz.underlying50 G fun l56 => ru 2 G<|K58 G Sr)<|ru 1 G<|jz 59 5 [1,44] G G (fun h59 K64 => rl 2 [0] G G<|gY G G G<|lnP 2 G G Tryz.underlying51 G fun l62 => ru 2 G<|K64 G Sr)<|ru 1 G<|jz 65 5 [1,44] G G (fun h65 K70 => ru 1 G<|gY G G G<|ldM 0 (cPlan s.fSeal) G G (Rg G) G G<|gY G G G<|bd (ps := []) (cs := (cPlan (pZ))) (by rfl) (by kernel_rfl) G<|gY G G G<|neT eq_Plan (s.fSeal) (pZ) G G G<|ru 1 G<|K70 G Sr)<|ru 1 G<|K71 G Sr) ?_
  refine mv G G ?_
  refine jz 72 16 [1] G G (fun h72 K88 => by
   refine rl 3 [0] G G ?_
   refine jy 75 12 [1,72] G G (fun h75 K87 => by
    refine rl 4 [0] G G ?_
    refine jz 79 7 [1,72,75] G G (fun h79 K86 => by
     have p79 := of_decide_eq_false h79
     exact rl 4 [0,0] G G<|gY G G G<|cfv (span19_c _ _) (Kg G) G Sn G<|ru 2 G<|K86 G Sr) ?_
    exact ru 1 G<|K87 G Sr) ?_
   exact ru 1 G<|K88 G Sr) ?_
  refine nl<|nx<|cdB G (fun h88 => ?_) (fun h88 => ?_)
  ·
   have e88 : (q19b s) = true := h88
   exact sa 1 G<|rt<|tR<|dpQ<|fR1 () G G (by rw [sright19, if_neg (by rw [e40]; decide), if_pos e88]) G Sn
  ·
   have e88 : (q19b s) = false := h88
   refine sk<|nx<|sq<|qg<|rl 2 [0] G G<|cfv (rising19_c _ _) (Kg G) G (Sc 0 G Sn) G<|ru 2 G<|jz 93 5 [1] G G (fun h93 K98 => rl 2 [0] G G<|gY G G G<|cfv (right14_c _ _) (Kg G) G (Sc 1 G Sn) G<|ru 2 G<|K98 G Sr)<|mv G G<|jz 99 5 [1] G G (fun h99 K104 => rl 2 [0] G G<|gY G G G<|cfv (right18_c _ _) (Kg G) G (Sc 3 G Sn) G<|ru 2 G<|K104 G Sr)<|mv G G<|jz 105 5 [1] G G (fun h105 K110 => rl 2 [0] G G<|gY G G G<|cfv (ends18_c _ _) (Kg G) G (Sc 4 G Sn) G<|ru 2 G<|K110 G Sr)<|mv G G<|jz 111 5 [1] G G (fun h111 K116 => rl 2 [0] G G<|gY G G G<|lnP 2 G G Tryz.underlying51 G fun l114 => ru 2 G<|K116 G Sr)<|nl<|nx<|cdB G (fun h116 => ?_) (fun h116 => ?_)
   ·
    have e116 : (q19c s) = true := h116
    exact sa 1 G<|rt<|tR<|dpQ<|fR1 () G G (by rw [sright19, if_neg (by rw [e40]; decide), if_neg (by rw [e88]; decide), if_pos e116]) G Sn
   ·
    have e116 : (q19c s) = false := h116
    refine sk<|nx<|sq<|sa 1 G<|bk<|lpC (σ := Nat) [(1, _)] _ (fun i C => (3, .int .i64 (i : Int)) :: C) (fun i => i ≤ s.fAccounts.length ∧ (∀ j, j < i → ownsP s (s.fAccounts.getD j default).fKey = true)) (fun i => s.fAccounts.length - i) 0 ⟨G, trivial⟩ (Sc 0 G (Sc 1 G (Sc 2 G (Sc 3 G (Sc 4 G (Sc 5 G Sn)))))) ⟨Nat.zero_le _, fun j hj => absurd hj (Nat.not_lt_zero j)⟩ (Gs G) ?_
    rintro i ⟨hi, hall⟩
    refine sq<|qg<|rl 3 [0] G G<|lnP 0 G G Tryz.underlying50 G fun l120 => ru 1 G<|nl<|nx<|cdP G (fun h121 => ?_) (fun h121 => ?_)
    ·
     refine sk<|nx<|sq<|bk<|sq<|rgQ mixed (by kernel_rfl)<|ldM 0 (cState s s_0 s_1 s_2 s_3 s_4 s_5) G G (Rg G) G G<|rl 3 [0] G G<|ixQ 0 G G G slt_50 G fun v128 => faP (α := TAccount) (β := ByteArray) 0 (fun x : TAccount => x.fKey) G G (Fg G) pAccount_0 G fun v129 => ldV 0 G G (Og G) G fun w130 => cfq (owns19_c _ _ _ _ _ _ _ _ h_s) (Kg G) G (Si [2,3,4,5,6,7] G) G<|nt G G<|nlQ<|nx<|cdB G (fun h132 => ?_) (fun h132 => ?_)
     · exact sa 1 G<|rt<|bR<|tR<|tR<|bR<|tR<|dpQ<|fR1 () G G (by rw [sright19, if_neg (by rw [e40]; decide), if_neg (by rw [e88]; decide), if_neg (by rw [e116]; decide), if_neg (by rw [accs19, allI_false i (by omega) (by simpa using h132)]; decide)]) G Sn
     ·
      refine sk<|bN<|nx<|rg<|mv G G<|adI G G inI G<|ru 1 G<|nl ?_
      exact ag (i + 1) ⟨(by omega), (all_snoc hall (by simpa using h132))⟩ (by omega) (Gs G) G (Si [2,3,4,5,6,7] G)
    ·
     have eA : accs19 s = true := allI_true (fun j hj => hall j (by omega))
     refine ex<|tE<|tE<|bE<|nx<|sq<|sa 1 G<|bk<|lpC (σ := Nat) [(1, _)] _ (fun k C => (4, .int .i64 (k : Int)) :: C) (fun k => k ≤ s.fWaits.length ∧ (∀ j, j < k → wait19 s (s.fWaits.getD j default) = true)) (fun k => s.fWaits.length - k) 0 ⟨G, trivial⟩ (Sc 0 G (Sc 1 G (Sc 2 G (Sc 3 G (Sc 4 G (Sc 5 G Sn)))))) ⟨Nat.zero_le _, fun j hj => absurd hj (Nat.not_lt_zero j)⟩ (Gs G) ?_
     rintro k ⟨hi_k, hall_k⟩
     refine sq<|qg<|rl 3 [0] G G<|lnP 2 G G Tryz.underlying51 G fun l136 => ru 1 G<|nl<|nx<|cdP G (fun h137 => ?_) (fun h137 => ?_)
     ·
      refine sk<|nx<|sq<|bk<|sq<|rgQ mixed (by kernel_rfl)<|ldM 0 (cState s s_0 s_1 s_2 s_3 s_4 s_5) G G (Rg G) G G<|rl 3 [0] G G<|ixQ 2 G G G slt_51 G fun v144 => ldS 0 G G (Rg G) G fun q145 w145 => cfq (wait19_c _ _ _ _ _ _ _ _ h_s w145) (Kg G) G (Si [2,3,4,5,6,7] G) G<|nt G G<|nlQ<|nx<|cdB G (fun h147 => ?_) (fun h147 => ?_)
      · exact sa 1 G<|rt<|bR<|tR<|tR<|bR<|tR<|dpQ<|fR1 () G G (by rw [sright19, if_neg (by rw [e40]; decide), if_neg (by rw [e88]; decide), if_neg (by rw [e116]; decide), if_pos eA, if_neg (by rw [waits19, allI_false k (by omega) (by simpa using h147)]; decide)]) G Sn
      ·
       refine sk<|bN<|nx<|rg<|mv G G<|adI G G inI G<|ru 1 G<|nl ?_
       exact ag (k + 1) ⟨(by omega), (all_snoc hall_k (by simpa using h147))⟩ (by omega) (Gs G) G (Si [2,3,4,5,6,7] G)
     ·
      have eW : waits19 s = true := allI_true (fun j hj => hall_k j (by omega))
      refine ex<|tE<|tE<|bE<|nx<|sq<|qg<|ru 1 G<|ldM 0 (cPlan s.fSeal) G G (Rg G) G G<|bd (ps := []) (cs := (cPlan (pZ))) (by rfl) (by kernel_rfl) G<|neT eq_Plan (s.fSeal) (pZ) G G G<|mv G G ?_
      refine jy 152 29 [1] G G (fun h152 K181 => by
       have p152 := h152
       simp only [Bool.not_eq_true', Bool.not_eq_false', decide_eq_true_eq, decide_eq_false_iff_not] at p152
       refine ru 1 G<|gY G G G<|ldM 0 (cPlan s.fSeal) G G (Rg G) G G<|gY G G G<|cfv (plan19_c _ h_s.2.2.2.2.2.2.2.2.2.2.2.1) (Kg G) G Sn G<|ru 2 G ?_
       refine jz 157 7 [1,152] G G (fun h157 K164 => by
        exact rl 7 [0,0] G G<|K164 G Sr) ?_
       refine ru 1 G ?_
       refine jz 165 7 [1,152] G G (fun h165 K172 => by
        exact rl 7 [0,0] G G<|K172 G Sr) ?_
       refine ru 1 G ?_
       refine jz 173 7 [1,152] G G (fun h173 K180 => by
        exact gY G G G<|ldM 0 (cState s s_0 s_1 s_2 s_3 s_4 s_5) G G (Rg G) G G<|rl 3 [0] G G<|gY G G G<|cfv (owns19_c _ _ _ _ _ _ _ _ h_s) (Kg G) G (Si [0,1,2,3,4,5] G) G<|ru 2 G<|K180 G Sr) ?_
       exact ru 1 G<|K181 G Sr) ?_
      refine nl<|nx<|cdB G (fun h181 => ?_) (fun h181 => ?_)
      ·
       have e181 : (q19d s) = true := h181
       exact sa 1 G<|rt<|tR<|dpQ<|fR1 () G G (by rw [sright19, if_neg (by rw [e40]; decide), if_neg (by rw [e88]; decide), if_neg (by rw [e116]; decide), if_pos eA, if_pos eW, if_pos e181]) G Sn
      ·
       have e181 : (q19d s) = false := h181
       refine sk<|nx<|sq<|qg<|ru 1 G<|ldM 0 (cPlan s.fOut) G G (Rg G) G G<|bd (ps := []) (cs := (cPlan (pZ))) (by rfl) (by kernel_rfl) G<|eqT eq_Plan (s.fOut) (pZ) G G G<|nl<|nx<|cdP G (fun h185 => ?_) (fun h185 => ?_)
       ·
        have e185 : (decide (s.fOut = ⟨0, 0, 0, ByteArray.empty, ByteArray.empty, 0, 0⟩)) = true := (decide_eq_true h185)
        exact qg<|rl 2 [0] G G<|lnP 5 G G Tryz.underlying35 G fun l188 => ru 2 G<|nl<|nx<|rt<|tR<|dpQ<|fR1 () G G (by rw [sright19, if_neg (by rw [e40]; decide), if_neg (by rw [e88]; decide), if_neg (by rw [e116]; decide), if_pos eA, if_pos eW, if_neg (by rw [e181]; decide), if_pos e185]; try rfl) G Sn
       ·
        have e185 : (decide (s.fOut = ⟨0, 0, 0, ByteArray.empty, ByteArray.empty, 0, 0⟩)) = false := (decide_eq_false h185)
        refine sk<|nx<|qg<|rl 2 [0] G G<|cf (image19_c _ _) (Kg G) G (Sc 5 G Sn) G fun y193 v193 h193 => ?_
        obtain ⟨y193_0, y193_1, y193_2, y193_3, y193_4, y193_5⟩ := y193
        replace h193 : v193 = .tuple #[.agg (cState (rdState _).1 y193_0 y193_1 y193_2 y193_3 y193_4 y193_5).toArray, .bool (decide ((rdState _).2 = 0))] := h193
        subst h193
        refine ru 3 G<|al zero_55 G fun b5 => oc 0 G fun o_y193_0 => oc 1 G fun o_y193_1 => oc 2 G fun o_y193_2 => oc 3 G fun o_y193_3 => oc 4 G fun o_y193_4 => oc 5 G fun o_y193_5 => stW 0 (us := (cState ((rdState s.fImage).1) y193_0 y193_1 y193_2 y193_3 y193_4 y193_5)) G G G (Rg G) (by simp only [List.all_cons, List.all_nil, Bool.and_true, o_y193_0, o_y193_1, o_y193_2, o_y193_3, o_y193_4, o_y193_5]; rfl) G<|ru 1 G<|nl<|nx<|qg<|ru 2 G ?_
        refine jy 197 4 [1] G G (fun h197 K201 => by
         have p197 := of_decide_eq_true h197
         exact ru 1 G<|gY G G G<|ldM 1 (cPlan s.fOut) G G (Rg G) G G<|gY G G G<|cfv (plan19_c _ h_s.2.2.2.2.2.2.2.2.2.2.2.2.1) (Kg G) G Sn G<|ru 1 G<|K201 G Sr) ?_
        exact mv G G<|ja 202 7 [1,1] [] G G G<|ru 1 G<|nl<|nx<|rt<|dpQ<|dpQ<|fR1 () G G (by rw [sright19, if_neg (by rw [e40]; decide), if_neg (by rw [e88]; decide), if_neg (by rw [e116]; decide), if_pos eA, if_pos eW, if_neg (by rw [e181]; decide), if_neg (by rw [e185]; decide)]; try rfl) G Sn
theorem right22_c (v : TScene) (v_0 v_1 v_2 v_3 v_4 : Value) (h_v : v.wf) : FnV Pg 18 [.agg (cScene v v_0 v_1 v_2 v_3 v_4).toArray] [⟨v_0, v.fChart.fPlaces⟩, ⟨v_1, v.fChart.fMarks⟩, ⟨v_2, v.fStates⟩, ⟨v_3, v.fRights⟩, ⟨v_4, v.fAges⟩] (.bool (right22 v)) := by
 refine Fnc.proof Tryz.func18 G 72 G G fun X w => gtC (q := v.fStates.length ≤ 9223372036854775807) (fun S w h => list_len (h _ (List.mem_of_getElem? (i := 2) G))) fun hlst => qg<|bx G G G fun b1 => ru 1 G<|nl<|nx<|sq<|qg<|rl 3 [0] G G<|mv G G<|ja 7 4 [0] [1] G G G<|mv G G<|ja 12 4 [0] [1] G G G<|mv G G<|jb 17 4 [0] [1] G G G<|mv G G<|jb 22 6 [0,0] [1] G G G<|mv G G<|jz 29 5 [1] G G (fun h29 K34 => ru 1 G<|gY G G G<|ldM 0 (cChart v.fChart v_0 v_1) G G (Rg G) G G<|gY G G G<|cfv (right20_c _ _ _ h_v.2.2.1) (Kg G) G (Si [0,1] G) G<|ru 2 G<|K34 G Sr)<|mv G G<|jz 35 5 [1] G G (fun h35 K40 => rl 2 [0] G G<|gY G G G<|lnP 2 G G Tryz.underlying28 G fun l38 => ru 2 G<|K40 G Sr)<|mv G G ?_
 refine jz 41 5 [1] G G (fun h41 K46 => rl 2 [0] G G<|gY G G G<|cfv (right16_c _ _) (Kg G) G (Sc 3 G Sn) G<|ru 2 G<|K46 G Sr)<|nl<|nx<|cdB G (fun h46 => ?_) (fun h46 => ?_)
 ·
  have e46 : (r22a v) = true := h46
  exact sa 1 G<|rt<|tR<|dpQ<|fR1 () G G (by rw [right22, if_pos e46]) G Sn
 ·
  have e46 : (r22a v) = false := h46
  refine sk<|nx<|sq<|sa 1 G<|bk<|lpC (σ := Nat) [(1, _)] _ (fun i C => (3, .int .i64 (i : Int)) :: C) (fun i => i ≤ v.fStates.length ∧ (∀ j, j < i → (!r22j v j) = true)) (fun i => v.fStates.length - i) 0 ⟨G, trivial⟩ (Sc 0 G (Sc 1 G (Sc 2 G (Sc 3 G (Sc 4 G Sn))))) ⟨Nat.zero_le _, fun j hj => absurd hj (Nat.not_lt_zero j)⟩ (Gs G) ?_
  rintro i ⟨hi, hall⟩
  refine sq<|qg<|rl 3 [0] G G<|lnP 2 G G Tryz.underlying28 G fun l50 => ru 1 G<|nl<|nx<|cdP G (fun h51 => ?_) (fun h51 => ?_)
  ·
   refine sk<|nx<|sq<|bk<|qg<|rl 3 [0] G G<|ixQ 2 G G G slt_28 G fun v57 => faP (α := TState) (β := Int) 0 (fun x : TState => x.fGroup) G G (Fg G) pState_0 G fun v58 => ldV 0 G G (Og G) G fun w59 => mv G G<|adI G G inI G<|ru 2 G ?_
   refine jz 63 8 [1,3] G G (fun h63 K71 => by
    have p63 := h63
    simp only [Bool.not_eq_true', Bool.not_eq_false', decide_eq_true_eq, decide_eq_false_iff_not] at p63
    refine rl 3 [0] G G<|gY G G G<|ixQ 4 G G G slt_28 G fun v67 => gY G G G<|ldS 0 G G (Rg G) G fun q68 w68 => ?_
    obtain ⟨q68_0, q68_1, q68_2, q68_3, q68_4, q68_5⟩ := q68
    exact gY G G G<|cfv (sright19_c _ _ _ _ _ _ _ w68) (Kg G) G (Si [1,2,3,4,5,6] G) G<|ru 2 G<|K71 G (SubD.tail (SubD.tail (SubD.tail (SubD.tail (SubD.tail (SubD.tail (SubD.tail (SubD.tail Sr))))))))) ?_
   refine nl<|nx<|cdB G (fun h71 => ?_) (fun h71 => ?_)
   · exact sa 1 G<|rt<|bR<|tR<|tR<|bR<|tR<|dpQ<|fR1 () G G (by rw [right22, if_neg (by rw [e46]; decide), allI_false i (by omega) (not_t h71)]) G Sn
   ·
    refine sk<|bN<|nx<|rg<|mv G G<|adI G G inI G<|ru 1 G<|nl ?_
    exact ag (i + 1) ⟨(by omega), (all_snoc hall (not_f h71))⟩ (by omega) (Gs G) G (Si [2,3,4,5,6] G)
  · exact ex<|tE<|tE<|bE<|nx<|sa 1 G<|rt<|dpQ<|fR1 () G G (by rw [right22, if_neg (by rw [e46]; decide), allI_true (fun j hj => hall j (by omega))]) G Sn
theorem pnew_c : Fnc Pg 93 [] [] [] (fun (y : Value) v => v = .agg (cChart chart1 y nS).toArray) (fun _ _ => []) (fun y _ => [⟨y, chart1.fPlaces⟩]) := by
 exact Fnc.proof Tryz.func93 G 4 G G fun X w => qg<|al zero_27 G fun b0 => nl<|nx<|qg<|bd (ps := [(0, .const (.int .i64 1)), (2, .const (.int .i64 1))]) (cs := (cPlace ((⟨1, ByteArray.empty, 1⟩ : TPlace)))) (by rfl) (by kernel_rfl) G<|bsM G app_22 G G G G fun b2 => frS1 (α := TPlace) place1 (fun S w h => ⟨(), G, by simp, place1_wf⟩)<|bd (ps := [(1, .tmp 2), (2, .const (.int .i64 2))]) (cs := (cChart ((⟨0, [place1], 2, 0, pZ, []⟩ : TChart)) (.slice (some ⟨b2, 0, none⟩) 1 1) nS)) (by rfl) (by kernel_rfl) G<|stW 0 (us := (cChart ((⟨0, [place1], 2, 0, pZ, []⟩ : TChart)) (.slice (some ⟨b2, 0, none⟩) 1 1) nS)) G G G (Rg G) G G<|nl<|nx<|rt<|fRG (.slice (some ⟨b2, 0, none⟩) 1 1) [_] (rC 0 G G G (Rg G)) (by rfl) G (Sc 0 G Sn)
theorem snew_c (n : Int) (h_n : InI n) : FnV Pg 94 [.int .i64 n] [] (.tuple #[.agg (cState (newS n) nS nS nS nS nS nS).toArray, .int .i64 (if okGroup n = true then 0 else 1)]) := by
 refine Fnc.proof Tryz.func94 G 16 G G fun X w => ?_
 obtain ⟨h_n1, h_n2⟩ := id h_n
 refine qg<|al zero_55 G fun b2 => ru 1 G<|nl<|nx<|sq<|qg<|mv G G<|cfv (sgroup_c _ h_n) (Kg G) G Sn G<|nt G G<|nl<|nx<|cdB G (fun h7 => ?_) (fun h7 => ?_)
 ·
  have q : okGroup n = false := (by simpa using h7)
  exact qg<|bd (ps := []) (cs := (cState ((⟨0, 0, false, ByteArray.empty, ByteArray.empty, 0, [], [], [], [], [], pZ, pZ, [], 0, 0, 0⟩ : TState)) nS nS nS nS nS nS)) (by rfl) (by kernel_rfl) G<|stW 0 (us := (cState ((⟨0, 0, false, ByteArray.empty, ByteArray.empty, 0, [], [], [], [], [], pZ, pZ, [], 0, 0, 0⟩ : TState)) nS nS nS nS nS nS)) G G G (Rg G) G G<|ru 1 G<|nl<|nx<|rt<|tR<|fRG () [_] (rCT 0 G G G G (Rg G)) (by rw [newS, q]; rfl) G Sn
 ·
  have q : okGroup n = true := (by simpa using h7)
  refine sk<|nx<|qg<|mv G G<|bd (ps := [(0, .tmp 9)]) (cs := (cState ((⟨n, 0, false, ByteArray.empty, ByteArray.empty, 0, [], [], [], [], [], pZ, pZ, [], 0, 0, 0⟩ : TState)) nS nS nS nS nS nS)) (by rfl) (by kernel_rfl) G<|al zero_55 G fun b4 => stW 0 (us := (cState ((⟨n, 0, false, ByteArray.empty, ByteArray.empty, 0, [], [], [], [], [], pZ, pZ, [], 0, 0, 0⟩ : TState)) nS nS nS nS nS nS)) G G G (Rg G) G G<|nl<|nx<|sq<|qg<|mv G G<|ru 1 G<|nl<|nx<|cdP G (fun h12 => ?_) (fun h12 => ?_)
  · exact qg<|ru 1 G<|stB 0 G G G (Og G) G (nlt G)<|nl<|nx<|rg<|ru 1 G<|stB 0 G G G (Og G) G (nlt G)<|nl<|nx<|qg<|ldM 0 (cState ((⟨n, 0, true, ByteArray.empty, ByteArray.empty, 1, ([]), ([]), ([]), ([]), ([]), pZ, pZ, ([]), 0, 0, 0⟩ : TState)) nS nS nS nS nS nS) G G (Rg G) G G<|stW 1 (us := (cState ((⟨n, 0, true, ByteArray.empty, ByteArray.empty, 1, ([]), ([]), ([]), ([]), ([]), pZ, pZ, ([]), 0, 0, 0⟩ : TState)) nS nS nS nS nS nS)) G G G (Rg G) G G<|ru 1 G<|nl<|nx<|rt<|fRG () [_, _] (rCT 1 G G G G (Rg G)) (by rw [newS, q, if_pos rfl, if_pos rfl, if_pos rfl]; simp [h12]) G Sn
  · exact sk<|nx<|qg<|ldM 0 (cState ((⟨n, 0, false, ByteArray.empty, ByteArray.empty, 0, [], [], [], [], [], pZ, pZ, [], 0, 0, 0⟩ : TState)) nS nS nS nS nS nS) G G (Rg G) G G<|stW 1 (us := (cState ((⟨n, 0, false, ByteArray.empty, ByteArray.empty, 0, [], [], [], [], [], pZ, pZ, [], 0, 0, 0⟩ : TState)) nS nS nS nS nS nS)) G G G (Rg G) G G<|ru 1 G<|nl<|nx<|rt<|fRG () [_, _] (rCT 1 G G G G (Rg G)) (by rw [newS, q]; simp [h12]) G Sn
theorem scene_c (a b : Int) (h_a : InI a) (h_b : InI b) : Fnc Pg 40 [.int .i64 a, .int .i64 b] [] [] (fun (y : Value × Value) v => v = .tuple #[.agg (cScene (scene1 a b) y.1 nS y.2 nS nS).toArray, .bool true]) (fun _ _ => []) (fun y _ => [⟨y.1, chart1.fPlaces⟩, ⟨y.2, stsN 7⟩]) := by
 refine Fnc.proof Tryz.func40 G 33 G G fun X w => ?_
 obtain ⟨h_a1, h_a2⟩ := id h_a
 obtain ⟨h_b1, h_b2⟩ := id h_b
 refine qg<|al zero_32 G fun b4 => ru 1 G<|nl<|nx<|qg<|ru 2 G<|cf (pnew_c) (Kg G) G Sn G fun y12 v12 h12 => ?_
 have h12 : v12 = .agg (cChart chart1 y12 nS).toArray := h12
 subst h12
 refine bd (ps := [(0, .tmp 10), (1, .tmp 11), (2, .tmp 12)]) (cs := (cScene ((⟨a, b, chart1, [], [], []⟩ : TScene)) y12 nS nS nS nS)) (by rfl) (by kernel_rfl) G<|al zero_32 G fun b6 => oc 0 G fun o_y12 => stW 0 (us := (cScene ((⟨a, b, chart1, [], [], []⟩ : TScene)) y12 nS nS nS nS)) G G G (Rg G) (by simp only [List.all_cons, List.all_nil, Bool.and_true, o_y12]; rfl) G<|nl<|nx<|sq<|sa 1 G<|bk<|rwC TState 55<|lpE (σ := Nat × Value) [(4, _), (6, _)] _ (fun i C => (7, .int .i64 ((i.1 : Int) + 1)) :: C) (fun i => [row 55 i.2 (stsN i.1), bl b6 32 (cScene (scene1 a b) y12 nS i.2 nS nS), bl b4 32 (cScene zscene nS nS nS nS nS), fz X w]) (fun _ Dc => Dc) (fun i => i.1 ≤ 7) (fun i => 7 - i.1) (0, nS) (Gs G) (Sc 0 G Sn) (by decide) (Gs G) G (Sc 0 G Sn) ?_
 rintro ⟨i, rv⟩ hi
 simp only at hi
 refine sq<|sa 2 G<|cdP G (fun h15 => ?_) (fun h15 => ?_)
 ·
  have hg : okGroup ((i : Int) + 1) = true := (by simp only [okGroup, Bool.and_eq_true, decide_eq_true_eq]; omega)
  refine sk<|nx<|sq<|bk<|qg<|mv G G<|cfv (snew_c _ inI) (Kg G) G Sn G<|ru 3 G<|al zero_55 G fun b8 => stW 0 (us := (cState ((newS ((i : Int) + 1))) nS nS nS nS nS nS)) G G G (Rg G) G G<|ru 1 G<|nl<|nx<|sq<|sa 2 G<|cdN G (fun h24 => ?_) (fun h24 => ?_)
  · exact absurd (if_pos hg) h24 --#done
  ·
   refine sk<|nx<|rg<|rl 2 [2] G G<|ldM 0 (cState ((newS ((i : Int) + 1))) nS nS nS nS nS nS) G G (Rg G) G G<|emL (α := TAccount)<|emL (α := TMark)<|emL (α := TWait)<|emL (α := TDeal)<|emL (α := TEnd)<|emL (α := UInt8)<|bsM G app_28 G G G G fun b29 => ?_
   refine frS1 (α := TState) (newS ((i : Int) + 1)) (fun S w h => ⟨(nS, nS, nS, nS, nS, nS), G, fun t ht => by
     simp only [List.mem_cons, List.not_mem_nil, or_false] at ht
     rcases ht with rfl | rfl | rfl | rfl | rfl | rfl
     · exact h _ (List.mem_of_getElem? (i := 5) G)
     · exact h _ (List.mem_of_getElem? (i := 4) G)
     · exact h _ (List.mem_of_getElem? (i := 3) G)
     · exact h _ (List.mem_of_getElem? (i := 2) G)
     · exact h _ (List.mem_of_getElem? (i := 1) G)
     · exact h _ (List.mem_of_getElem? (i := 0) G), newS_wf inI⟩) ?_
   refine ap 1 0 G G G G app_28 (by simp only [stsN_len, List.length_cons, List.length_nil]; omega) (by simp only [stsN_len, List.length_cons, List.length_nil]; omega) G fun v30 => ru 1 G<|stR 2 1 G G G G (Og G) (nlt G)<|nl<|bN<|nx<|rg<|mv G G<|adI G G inI G<|ru 1 G<|nl<|dpQ ?_
   exact ag ((i + 1, v30) : Nat × Value) (by show i + 1 ≤ 7; omega) (by show 7 - (i + 1) < 7 - i; omega) (Gs G) G (Sc 7 G Sn)
 ·
  have e : i = 7 := (by omega)
  subst e
  exact ex<|tE<|tE<|bE<|nx<|sq<|frR<|rg<|ldM 0 (cScene (scene1 a b) y12 nS rv nS nS) G G (Rg G) G G<|oc 1 G fun o_y12 => oc 0 G fun o_rv => stW 1 (us := (cScene ((scene1 a b)) y12 nS rv nS nS)) G G G (Rg G) (by simp only [List.all_cons, List.all_nil, Bool.and_true, o_y12, o_rv]; rfl) G<|ru 1 G<|nl<|nx<|rt<|fRG (y12, rv) [_, _] (rCT 1 G G G G (Rg G)) (by rfl) G (Sc 1 G (Sc 0 G Sn))
theorem ofS_c (v_ss : Value) (ss : List TState) (gr : Int) (S : TState) (hS : stOf ss gr = S) : Fnc Pg 154 [v_ss, .int .i64 gr] [] [⟨v_ss, ss⟩] (fun (y : sState.H) u => u = .tuple #[.agg (cState S (y.1) (y.2.1) (y.2.2.1) (y.2.2.2.1) (y.2.2.2.2.1) (y.2.2.2.2.2)).toArray, .bool (isOf ss gr)] ∧ S.wf) (fun _ _ => []) (fun y _ => [⟨y.1, S.fAccounts⟩, ⟨y.2.1, S.fMarks⟩, ⟨y.2.2.1, S.fWaits⟩, ⟨y.2.2.2.1, S.fDeals⟩, ⟨y.2.2.2.2.1, S.fEnds⟩, ⟨y.2.2.2.2.2, S.fImage⟩]) := by
 refine Fnc.proof Tryz.func154 G 21 G G fun X w => qg<|al zero_55 G fun b4 => ru 1 G<|nl<|nx<|sq<|qg<|mv G G<|lnP 0 G G Tryz.underlying28 G fun l9 => mv G G<|nl<|nx<|bk<|lpC (σ := Nat) [(1, _), (4, _), (8, _), (9, _)] _ (fun i C => (10, .int .i64 (i : Int)) :: C) (fun i => i ≤ ss.length ∧ (∀ j, j < i → decide ((ss.getD j default).fGroup = gr) = false)) (fun i => ss.length - i) 0 (Gs G) (Sc 0 G Sn) ⟨Nat.zero_le _, fun j hj => absurd hj (Nat.not_lt_zero j)⟩ (Gs G) ?_
 rintro i ⟨hi, hall⟩
 refine sa 1 G<|sq<|cdP G (fun h11 => ?_) (fun h11 => ?_)
 ·
  refine sk<|nx<|sq<|bk<|qg<|ixQ 0 G G G slt_28 G fun v12 => ldS 0 G G (Rg G) G fun q13 w13 => ?_
  obtain ⟨q13_0, q13_1, q13_2, q13_3, q13_4, q13_5⟩ := q13
  refine al zero_55 G fun b7 => oc 1 G fun o_q13_0 => oc 2 G fun o_q13_1 => oc 3 G fun o_q13_2 => oc 4 G fun o_q13_3 => oc 5 G fun o_q13_4 => oc 6 G fun o_q13_5 => stW 0 (us := (cState ((ss.getD i default)) q13_0 q13_1 q13_2 q13_3 q13_4 q13_5)) G G G (Rg G) (by simp only [List.all_cons, List.all_nil, Bool.and_true, o_q13_0, o_q13_1, o_q13_2, o_q13_3, o_q13_4, o_q13_5]; rfl) G<|nl<|nx<|qg<|rl 2 [0] G G<|ru 2 G<|nl<|nx<|cdP G (fun h17 => ?_) (fun h17 => ?_)
  ·
   have e1 : firstI ss.length (fun j => decide ((ss.getD j default).fGroup = gr)) = some i := firstI_some (by omega) hall (decide_eq_true h17)
   have hS2 : ss.getD i default = S := by
    rw [← hS, stOf, e1]
    rfl
   subst hS2
   exact qg<|ldM 0 (cState ((ss.getD i default)) q13_0 q13_1 q13_2 q13_3 q13_4 q13_5) G G (Rg G) G G<|oc 1 G fun o_q13_0 => oc 2 G fun o_q13_1 => oc 3 G fun o_q13_2 => oc 4 G fun o_q13_3 => oc 5 G fun o_q13_4 => oc 6 G fun o_q13_5 => stW 1 (us := (cState ((ss.getD i default)) q13_0 q13_1 q13_2 q13_3 q13_4 q13_5)) G G G (Rg G) (by simp only [List.all_cons, List.all_nil, Bool.and_true, o_q13_0, o_q13_1, o_q13_2, o_q13_3, o_q13_4, o_q13_5]; rfl) G<|ru 1 G<|nl<|nx<|rt<|bR<|tR<|tR<|bR<|tR<|fRG ⟨q13_0, q13_1, q13_2, q13_3, q13_4, q13_5⟩ [_, _] (rCT 1 G G G G (Rg G)) (by rw [isOf, e1]; exact ⟨rfl, w13⟩) G (Sc 1 G (Sc 2 G (Sc 3 G (Sc 4 G (Sc 5 G (Sc 6 G Sn))))))
  ·
   refine sk<|bN<|nx<|rg<|adI G G inI G<|mv G G<|nl<|dpQ ?_
   exact ag (i + 1) ⟨(by omega), (all_snoc hall (decide_eq_false h17))⟩ (by omega) (Gs G) G (Sc 8 G Sn)
 ·
  have e1 : firstI ss.length (fun j => decide ((ss.getD j default).fGroup = gr)) = none := firstI_none (fun k hk => hall k (by omega))
  have hS2 : zeroState = S := by
   rw [← hS, stOf, e1]
   rfl
  subst hS2
  exact emC (α := TAccount)<|emC (α := TMark)<|emC (α := TWait)<|emC (α := TDeal)<|emC (α := TEnd)<|emC (α := UInt8)<|ex<|tE<|tE<|bE<|nx<|qg<|bd (ps := []) (cs := (cState ((⟨0, 0, false, ByteArray.empty, ByteArray.empty, 0, [], [], [], [], [], pZ, pZ, [], 0, 0, 0⟩ : TState)) nS nS nS nS nS nS)) (by rfl) (by kernel_rfl) G<|stW 0 (us := (cState ((⟨0, 0, false, ByteArray.empty, ByteArray.empty, 0, [], [], [], [], [], pZ, pZ, [], 0, 0, 0⟩ : TState)) nS nS nS nS nS nS)) G G G (Rg G) G G<|ru 1 G<|nl<|nx<|rt<|fRG ⟨nS, nS, nS, nS, nS, nS⟩ [_] (rCT 0 G G G G (Rg G)) (by rw [isOf, e1]; exact ⟨rfl, zeroState_wf⟩) G (Sc 5 G (Sc 4 G (Sc 3 G (Sc 2 G (Sc 1 G (Sc 0 G Sn))))))
theorem waits_c (v_ss : Value) (ss : List TState) (S : TState) (s_0 s_1 s_2 s_3 s_4 s_5 : Value) (h_S : S.wf) : FnV Pg 79 [v_ss, .agg (cState S s_0 s_1 s_2 s_3 s_4 s_5).toArray] [⟨v_ss, ss⟩, ⟨s_0, S.fAccounts⟩, ⟨s_1, S.fMarks⟩, ⟨s_2, S.fWaits⟩, ⟨s_3, S.fDeals⟩, ⟨s_4, S.fEnds⟩, ⟨s_5, S.fImage⟩] (.bool (waitsP ss S)) := by
 refine Fnc.proof Tryz.func79 G 37 G G fun X w => qg<|bx G G G fun b3 => ru 1 G<|nl<|nx<|sq<|sb 4 [0] G G<|cdP G (fun h10 => ?_) (fun h10 => ?_)
 · exact sa 1 G<|rt<|tR<|dpQ<|fR1 () G G (by rw [waitsP, if_pos h10]) G Sn
 ·
  refine sk<|nx<|qg<|rl 4 [0] G G<|cf (ofS_c _ _ _ (stOf ss S.fOut.fTo) G) (Kg G) G (Sc 0 G Sn) G fun y16 v16 h16 => ?_
  obtain ⟨e16, w16⟩ := h16
  subst e16
  obtain ⟨z16_0, z16_1, z16_2, z16_3, z16_4, z16_5⟩ := y16
  exact ru 3 G<|al zero_55 G fun b5 => oc 0 G fun o_z16_0 => oc 1 G fun o_z16_1 => oc 2 G fun o_z16_2 => oc 3 G fun o_z16_3 => oc 4 G fun o_z16_4 => oc 5 G fun o_z16_5 => stW 0 (us := (cState ((stOf ss S.fOut.fTo)) z16_0 z16_1 z16_2 z16_3 z16_4 z16_5)) G G G (Rg G) (by simp only [List.all_cons, List.all_nil, Bool.and_true, o_z16_0, o_z16_1, o_z16_2, o_z16_3, o_z16_4, o_z16_5]; rfl) G<|ru 1 G<|nl<|nx<|qg<|ru 3 G<|jb 21 7 [0,1] [3,5] G G G<|mv G G<|jb 29 7 [0,1] [] G G G<|ru 1 G<|nl<|nx<|rt<|dpQ<|dpQ<|fR1 () G G (by rw [waitsP, if_neg h10]; try rfl) G Sn
theorem imaged_c (S : TState) (s_0 s_1 s_2 s_3 s_4 s_5 : Value) (h_S : S.wf) : FnV Pg 155 [.agg (cState S s_0 s_1 s_2 s_3 s_4 s_5).toArray] [⟨s_0, S.fAccounts⟩, ⟨s_1, S.fMarks⟩, ⟨s_2, S.fWaits⟩, ⟨s_3, S.fDeals⟩, ⟨s_4, S.fEnds⟩, ⟨s_5, S.fImage⟩] (.bool (imagedP S)) := by
 refine Fnc.proof Tryz.func155 G 84 G G fun X w => qg<|bx G G G fun b1 => ru 1 G<|nl<|nx<|sq<|sb 4 [0] G G<|cdP G (fun h10 => ?_) (fun h10 => ?_)
 · exact sa 1 G<|rt<|tR<|dpQ<|fR1 () G G (by rw [imagedP, if_pos h10]) G Sn
 ·
  refine sk<|nx<|qg<|rl 2 [0] G G<|cf (rs_c _ _) (Kg G) G (Sc 5 G Sn) G fun y14 v14 h14 => ?_
  obtain ⟨y14_0, y14_1, y14_2, y14_3, y14_4, y14_5⟩ := y14
  replace h14 : v14 = .tuple #[.agg (cState (rdState _).1 y14_0 y14_1 y14_2 y14_3 y14_4 y14_5).toArray, .int .i64 (rdState _).2] := h14
  subst h14
  refine ru 3 G<|al zero_55 G fun b3 => oc 0 G fun o_y14_0 => oc 1 G fun o_y14_1 => oc 2 G fun o_y14_2 => oc 3 G fun o_y14_3 => oc 4 G fun o_y14_4 => oc 5 G fun o_y14_5 => stW 0 (us := (cState ((rdState S.fImage).1) y14_0 y14_1 y14_2 y14_3 y14_4 y14_5)) G G G (Rg G) (by simp only [List.all_cons, List.all_nil, Bool.and_true, o_y14_0, o_y14_1, o_y14_2, o_y14_3, o_y14_4, o_y14_5]; rfl) G<|ru 1 G<|nl<|nx<|sq<|qg<|ru 3 G ?_
  refine jz 19 5 [1,3] G G (fun h19 K24 => by
   have p19 := h19
   simp only [Bool.not_eq_true', Bool.not_eq_false', decide_eq_true_eq, decide_eq_false_iff_not] at p19
   exact rl 2 [0] G G<|gY G G G<|lnP 0 G G Tryz.underlying50 G fun l22 => ru 2 G<|K24 G Sr) ?_
  refine nl<|nx<|cdB G (fun h24 => ?_) (fun h24 => ?_)
  · exact sa 1 G<|rt<|tR<|dpQ<|dpQ<|fR1 () G G (by rw [imagedP, if_neg h10, if_pos h24]) G Sn
  ·
   refine sk<|nx<|sq<|qg<|rl 2 [0] G G<|lnP 0 G G Tryz.underlying50 G fun l27 => mv G G<|nl<|nx<|bk<|lpC (σ := Nat) [(1, _), (3, _), (26, _), (27, _)] _ (fun i C => (28, .int .i64 (i : Int)) :: C) (fun i => i ≤ (rdState S.fImage).1.fAccounts.length ∧ (∀ j, j < i → (!imgA ((rdState S.fImage).1.fAccounts.getD j default) && !imgB S (rdState S.fImage).1.fAccounts j) = true)) (fun i => (rdState S.fImage).1.fAccounts.length - i) 0 (Gs G) (Sc 0 G (Sc 1 G (Sc 2 G (Sc 3 G (Sc 4 G (Sc 5 G (Sc 6 G (Sc 7 G (Sc 8 G (Sc 9 G (Sc 10 G (Sc 11 G Sn)))))))))))) ⟨Nat.zero_le _, fun j hj => absurd hj (Nat.not_lt_zero j)⟩ (Gs G) ?_
   rintro i ⟨hi, hall⟩
   refine sa 1 G<|sq<|cdP G (fun h29 => ?_) (fun h29 => ?_)
   ·
    refine sk<|nx<|sq<|bk<|qg<|mv G G<|ixQ 0 G G G slt_50 G fun v31 => ldS 0 G G (Rg G) G fun q32 w32 => ?_
    refine al zero_70 G fun b6 => ru 1 G<|oc 1 G fun o_q32 => stW 0 (us := (cAccount (((rdState S.fImage).1.fAccounts.getD i default)) q32)) G G G (Rg G) (by simp only [List.all_cons, List.all_nil, Bool.and_true, o_q32]; rfl) G<|nl<|nx<|sq<|qg<|ldM 0 (cAccount (((rdState S.fImage).1.fAccounts.getD i default)) q32) G G (Rg G) G G<|cfv (acheck_c _ _ w32) (Kg G) G (Sc 1 G Sn) G<|ru 2 G ?_
    refine jz 36 3 [1,3,5,6,26,27,28] G G (fun h36 K39 => by
     have p36 := h36
     simp only [Bool.not_eq_true', Bool.not_eq_false', decide_eq_true_eq, decide_eq_false_iff_not] at p36
     exact gY G G G<|ldM 0 (cAccount (((rdState S.fImage).1.fAccounts.getD i default)) q32) G G (Rg G) G G<|gY G G G<|cfv (aplain_c _ _ w32) (Kg G) G (Sc 1 G Sn) G<|ru 1 G<|K39 G Sr) ?_
    refine mv G G<|jb 40 5 [0] [1,3,5,6,26,27,28] G G G<|mv G G<|jz 46 5 [1,3,5,6,26,27,28] G G (fun h46 K51 => rl 2 [0] G G<|gY G G G<|lnP 1 G G Tryz.underlying66 G fun l49 => ru 2 G<|K51 G Sr)<|mv G G<|jb 52 4 [0] [1,3,5,6,26,27,28] G G G<|nl<|nx<|cdB G (fun h56 => ?_) (fun h56 => ?_)
    · exact sa 1 G<|rt<|tR<|bR<|tR<|tR<|bR<|tR<|dpQ<|dpQ<|dpQ<|fR1 () G G (by rw [imagedP, if_neg h10, if_neg (by rw [h24]; decide), imgAll, allI_false i (by omega) (by rw [show imgA ((rdState S.fImage).1.fAccounts.getD i default) = true from h56]; rfl)]) G Sn
    ·
     refine sk<|nx<|sq<|rgQ mixed (by kernel_rfl)<|rl 8 [2,2,0] G G<|cfq (within_c _ _ _) (Kg G) G Sn G<|ru 2 G ?_
     refine jz 67 15 [1,3,26,27,28] G G (fun h67 K82 => by
      have p67 := h67
      try simp only [Bool.or_eq_false_iff, Bool.and_eq_true, decide_eq_true_eq, decide_eq_false_iff_not, Bool.not_eq_true', Bool.not_eq_false'] at p67
      refine ru 3 G ?_
      refine jy 70 11 [1,3,26,27,28,67] G G (fun h70 K81 => by
       have p70 := of_decide_eq_true h70
       exact rl 5 [0,1] G G<|gY G G G<|sbI G G inI G<|gY G G G<|ixQ 3 G G G slt_50 G fun v77 => gY G G G<|faP (α := TAccount) (β := ByteArray) 0 (fun x : TAccount => x.fKey) G G (Fg G) pAccount_0 G fun v78 => gY G G G<|ldV 0 G G (Og G) G fun w79 => gY G G G<|leS G G G<|ru 1 G<|K81 G (SubD.tail (SubD.tail Sr))) ?_
      exact ru 1 G<|K82 G Sr) ?_
     refine nlQ<|nx<|cdB G (fun h82 => ?_) (fun h82 => ?_)
     · exact sa 1 G<|rt<|bR<|tR<|tR<|bR<|tR<|dpQ<|dpQ<|dpQ<|fR1 () G G (by rw [imagedP, if_neg h10, if_neg (by rw [h24]; decide), imgAll, allI_false i (by omega) (by rw [show imgB S (rdState S.fImage).1.fAccounts i = true from h82]; exact Bool.and_false _)]) G Sn
     ·
      refine sk<|bN<|nx<|rg<|adI G G inI G<|mv G G<|nl<|dpQ ?_
      exact ag (i + 1) ⟨(by omega), (all_snoc hall (by rw [show imgA ((rdState S.fImage).1.fAccounts.getD i default) = false from h56, show imgB S (rdState S.fImage).1.fAccounts i = false from h82]; rfl))⟩ (by omega) (Gs G) G (Si [3,4,5,6,7,8,9,10,11,12,13,14] G)
   · exact ex<|tE<|tE<|bE<|nx<|sa 1 G<|rt<|dpQ<|dpQ<|fR1 () G G (by rw [imagedP, if_neg h10, if_neg (by rw [h24]; decide), imgAll, allI_true (fun j hj => hall j (by omega))]) G Sn
theorem sound1_c (v_l : Value) (l : List TRight) : FnV Pg 157 [v_l] [⟨v_l, l⟩] (.bool (!decide (errF (ledgerP l) = 0))) := by
 exact Fnc.proof Tryz.func157 G 6 G G fun X w => sa 1 G<|qg<|mv G G<|cfv (lcheck_c _ _) (Kg G) G (Sc 0 G Sn) G<|ru 2 G<|nl<|nx<|rt<|fR1 () G G (by rfl) G Sn
theorem indexF_c (v_rr : Value) (rr : List (List TRight)) : FnV Pg 213 [v_rr, .func (.func 157) #[] #[]] [⟨v_rr, rr⟩] (.int .i64 (placeI (firstI rr.length (fun j => badR (rr.getD j default))))) := by
 refine Fnc.proof Tryz.func213 G 19 G G fun X w => sa 1 G<|sq<|qg<|mv G G<|lnP 0 G G Tryz.underlying71 G fun l7 => mv G G<|nl<|nx<|bk<|lpC (σ := Nat) [(0, _), (1, _), (7, _)] _ (fun i C => (8, .int .i64 (i : Int)) :: C) (fun i => i ≤ rr.length ∧ (∀ j, j < i → badR (rr.getD j default) = false)) (fun i => rr.length - i) 0 (Gs G) (Sc 0 G Sn) ⟨Nat.zero_le _, fun j hj => absurd hj (Nat.not_lt_zero j)⟩ (Gs G) ?_
 rintro i ⟨hi, hall⟩
 refine sa 1 G<|sq<|cdP G (fun h9 => ?_) (fun h9 => ?_)
 ·
  refine sk<|nx<|sq<|bk<|sa 2 G<|qg<|ru 2 G<|mv G G<|ixQ 0 G G G slt_71 G fun v14 => ldL 0 G G (Og G) G fun v15 => cfc (sound1_c _ _) (Kg G) G G G (Sc 0 G Sn) G fun y16 v16 h16 => ?_
  subst h16
  refine nl<|nx<|cdB G (fun h16 => ?_) (fun h16 => ?_)
  · exact sa 2 G<|rt<|bR<|tR<|tR<|bR<|tR<|fR1 () G G (by rw [firstI_some (j := i) (by omega) hall h16]; try rfl) G Sn
  ·
   refine sk<|bN<|nx<|rg<|adI G G inI G<|mv G G<|nl ?_
   exact ag (i + 1) ⟨(by omega), (all_snoc hall (h16))⟩ (by omega) (Gs G) G (Sc 2 G Sn)
 · exact ex<|tE<|tE<|bE<|nx<|sa 1 G<|rt<|fR1 () G G (by rw [firstI_none (fun k hk => hall k (by omega))]; try rfl) G Sn
theorem containsF_c (v_rr : Value) (rr : List (List TRight)) : FnV Pg 156 [v_rr, .func (.func 157) #[] #[]] [⟨v_rr, rr⟩] (.bool (decide (placeI (firstI rr.length (fun j => badR (rr.getD j default))) ≥ 0))) := by
 exact Fnc.proof Tryz.func156 G 9 G G fun X w => sa 1 G<|qg<|ru 2 G<|cfv (indexF_c _ _) (Kg G) G (Sc 0 G Sn) G<|ru 2 G<|nl<|nx<|rt<|fR1 () G G (by rfl) G Sn
theorem sound_c (c : TChart) (c_0 c_1 : Value) (v_ss : Value) (ss : List TState) (v_rr : Value) (rr : List (List TRight)) (h_c : c.wf) : FnV Pg 83 [.agg (cChart c c_0 c_1).toArray, v_ss, v_rr] [⟨c_0, c.fPlaces⟩, ⟨c_1, c.fMarks⟩, ⟨v_ss, ss⟩, ⟨v_rr, rr⟩] (.bool (soundP c ss rr)) := by
 refine Fnc.proof Tryz.func83 G 48 G G fun X w => qg<|bx G G G fun b3 => ru 1 G<|nl<|nx<|sq<|qg<|mv G G<|lnP 2 G G Tryz.underlying28 G fun l10 => ru 2 G ?_
 refine jz 12 4 [1,2,3] G G (fun h12 K16 => by
  have p12 := h12
  simp only [Bool.not_eq_true', Bool.not_eq_false', decide_eq_true_eq, decide_eq_false_iff_not] at p12
  exact ru 1 G<|gY G G G<|lnP 3 G G Tryz.underlying71 G fun l14 => ru 2 G<|K16 G Sr) ?_
 refine mv G G<|jz 17 4 [1,2] G G (fun h17 K21 => gY G G G<|ldM 0 (cChart c c_0 c_1) G G (Rg G) G G<|gY G G G<|cfv (pcheck_c _ _ _ h_c) (Kg G) G (Si [0,1] G) G<|ru 2 G<|K21 G Sr)<|nl<|nx<|cdB G (fun h21 => ?_) (fun h21 => ?_)
 ·
  have e21 : (sndA c ss rr) = true := h21
  exact sa 1 G<|rt<|tR<|dpQ<|fR1 () G G (by rw [soundP, if_pos e21]) G Sn
 ·
  have e21 : (sndA c ss rr) = false := h21
  refine sk<|nx<|sq<|qg<|mv G G<|lnP 2 G G Tryz.underlying28 G fun l23 => mv G G<|nl<|nx<|bk<|lpC (σ := Nat) [(2, _), (22, _), (23, _)] _ (fun i C => (24, .int .i64 (i : Int)) :: C) (fun i => i ≤ ss.length ∧ (∀ j, j < i → (!sndB ss j) = true)) (fun i => ss.length - i) 0 (Gs G) (Sc 0 G (Sc 1 G (Sc 2 G (Sc 3 G Sn)))) ⟨Nat.zero_le _, fun j hj => absurd hj (Nat.not_lt_zero j)⟩ (Gs G) ?_
  rintro i ⟨hi, hall⟩
  refine sa 1 G<|sq<|cdP G (fun h25 => ?_) (fun h25 => ?_)
  ·
   refine sk<|nx<|sq<|bk<|qg<|mv G G<|ixQ 2 G G G slt_28 G fun v27 => ldS 0 G G (Rg G) G fun q28 w28 => ?_
   obtain ⟨q28_0, q28_1, q28_2, q28_3, q28_4, q28_5⟩ := q28
   refine al zero_55 G fun b8 => ru 1 G<|oc 1 G fun o_q28_0 => oc 2 G fun o_q28_1 => oc 3 G fun o_q28_2 => oc 4 G fun o_q28_3 => oc 5 G fun o_q28_4 => oc 6 G fun o_q28_5 => stW 0 (us := (cState ((ss.getD i default)) q28_0 q28_1 q28_2 q28_3 q28_4 q28_5)) G G G (Rg G) (by simp only [List.all_cons, List.all_nil, Bool.and_true, o_q28_0, o_q28_1, o_q28_2, o_q28_3, o_q28_4, o_q28_5]; rfl) G<|nl<|nx<|qg<|ru 1 G<|rl 2 [0] G G<|adI G G inI G<|ru 2 G ?_
   refine jz 34 4 [2,8,22,23,24] G G (fun h34 K38 => by
    have p34 := h34
    simp only [Bool.not_eq_true', Bool.not_eq_false', decide_eq_true_eq, decide_eq_false_iff_not] at p34
    exact gY G G G<|ldM 0 (cState ((ss.getD i default)) q28_0 q28_1 q28_2 q28_3 q28_4 q28_5) G G (Rg G) G G<|gY G G G<|cfv (shcheck_c _ _ _ _ _ _ _ w28) (Kg G) G (Si [1,2,3,4,5,6] G) G<|ru 2 G<|K38 G Sr) ?_
   refine mv G G<|jz 39 4 [2,22,23,24] G G (fun h39 K43 => gY G G G<|ldM 0 (cState ((ss.getD i default)) q28_0 q28_1 q28_2 q28_3 q28_4 q28_5) G G (Rg G) G G<|gY G G G<|cfv (imaged_c _ _ _ _ _ _ _ w28) (Kg G) G (Si [1,2,3,4,5,6] G) G<|ru 2 G<|K43 G Sr)<|nl<|nx<|cdB G (fun h43 => ?_) (fun h43 => ?_)
   · exact sa 1 G<|rt<|bR<|tR<|tR<|bR<|tR<|dpQ<|dpQ<|fR1 () G G (by rw [soundP, if_neg (by rw [e21]; decide), if_neg (by rw [allI_false i (by omega) (by rw [show sndB ss i = true from h43]; rfl)]; decide)]) G Sn
   ·
    refine sk<|bN<|nx<|rg<|adI G G inI G<|mv G G<|nl<|dpQ ?_
    exact ag (i + 1) ⟨(by omega), (all_snoc hall (by rw [show sndB ss i = false from h43]; rfl))⟩ (by omega) (Gs G) G (Si [8,9,10,11] G)
  · exact ex<|tE<|tE<|bE<|nx<|qg<|mv G G<|cfv (containsF_c _ _) (Kg G) G (Sc 3 G Sn) G<|ru 2 G<|nl<|nx<|rt<|dpQ<|fR1 () G G (by rw [soundP, if_neg (by rw [e21]; decide), if_pos (allI_true (fun j hj => hall j (by omega)))]; try rfl) G Sn
theorem eq_Right : EqTy Pg 59 cRight := by
 refine ⟨by kernel_rfl, fun a b w => ?_⟩
 rw [run_equalIn_struct w 9999 59 _ _ (by simp only [Program.fieldsOf, Tryz.underlying59]) (by kernel_rfl)]
 simp only [Program.fieldsOf, Tryz.underlying59]
 refine Eq.trans (eqG G Tryz.underlying3 G G G (eqFi Tryz.underlying3 _ _) (fun w => eqG G Tryz.underlying9 G G G (eqFs Tryz.underlying9 _ _) (fun w => eqG G Tryz.underlying3 G G G (eqFi Tryz.underlying3 _ _) (fun w => eqG G Tryz.underlying3 G G G (eqFi Tryz.underlying3 _ _) (fun w => eqF0 w))))) ?_
 congr 1
 obtain ⟨a0, a1, a2, a3⟩ := a
 obtain ⟨b0, b1, b2, b3⟩ := b
 simp [TRight.mk.injEq, Bool.and_assoc]
theorem eq_Total : EqTy Pg 78 cTotal := by
 refine ⟨by kernel_rfl, fun a b w => ?_⟩
 rw [run_equalIn_struct w 9999 78 _ _ (by simp only [Program.fieldsOf, Tryz.underlying78]) (by kernel_rfl)]
 simp only [Program.fieldsOf, Tryz.underlying78]
 refine Eq.trans (eqG G Tryz.underlying9 G G G (eqFs Tryz.underlying9 _ _) (fun w => eqGr (m := 2) (zs1 := #[.int .i64 a.fSpan.fLo, .int .i64 a.fSpan.fHi]) (zs2 := #[.int .i64 b.fSpan.fLo, .int .i64 b.fSpan.fHi]) (r := decide (a.fSpan.fLo = b.fSpan.fLo) && (decide (a.fSpan.fHi = b.fSpan.fHi) && true)) G Tryz.underlying65 G (by kernel_rfl) (by simp) (by simp) (fun w => ?_) (fun w => eqG G Tryz.underlying3 G G G (eqFi Tryz.underlying3 _ _) (fun w => eqF0 w)))) ?_
 ·
  rw [run_equalIn_struct w 9998 65 _ _ (by simp only [Program.fieldsOf, Tryz.underlying65]) (by kernel_rfl)]
  simp only [Program.fieldsOf, Tryz.underlying65]
  exact eqG G Tryz.underlying3 G G G (eqFi Tryz.underlying3 _ _) (fun w => eqG G Tryz.underlying3 G G G (eqFi Tryz.underlying3 _ _) (fun w => eqF0 w))
 congr 1
 obtain ⟨a0, ⟨a1, a2⟩, a3⟩ := a
 obtain ⟨b0, ⟨b1, b2⟩, b3⟩ := b
 simp [TTotal.mk.injEq, TSpan.mk.injEq, Bool.and_assoc]
theorem net_c (v_l : Value) (l : List TRight) (gr : Int) (key : ByteArray) (n : Int) : FnV Pg 100 [v_l, .int .i64 gr, .string key, .int .i64 n] [⟨v_l, l⟩] (.int .i64 (netP l gr key n)) := by
 refine Fnc.proof Tryz.func100 G 31 G G fun X w => sa 1 G<|sq<|qg<|mv G G<|cfv (lcheck_c _ _) (Kg G) G (Sc 0 G Sn) G<|ru 1 G<|nl<|nx<|cdN G (fun h13 => ?_) (fun h13 => ?_)
 · exact sa 1 G<|rt<|tR<|fR1 () G G (by rw [netP, if_pos h13]) G Sn
 ·
  refine sk<|nx<|sq<|qg<|mv G G<|lnP 0 G G Tryz.underlying29 G fun l15 => mv G G<|nl<|nx<|bk<|lpC (σ := Nat) [(1, _), (2, _), (3, _), (14, _), (15, _)] _ (fun i C => (16, .int .i64 (i : Int)) :: C) (fun i => i ≤ l.length ∧ (∀ j, j < i → decide (l.getD j default = (⟨gr, key, n, (l.getD j default).fNet⟩ : TRight)) = false)) (fun i => l.length - i) 0 (Gs G) (Sc 0 G Sn) ⟨Nat.zero_le _, fun j hj => absurd hj (Nat.not_lt_zero j)⟩ (Gs G) ?_
  rintro i ⟨hi, hall⟩
  refine sa 1 G<|sq<|cdP G (fun h17 => ?_) (fun h17 => ?_)
  ·
   refine sk<|nx<|sq<|bk<|qg<|ixQ 0 G G G slt_29 G fun v18 => ldS 0 G G (Rg G) G fun q19 w19 => al zero_59 G fun b10 => stW 0 (us := (cRight ((l.getD i default)))) G G G (Rg G) G G<|nl<|nx<|qg<|ldM 0 (cRight ((l.getD i default))) G G (Rg G) G G<|rl 5 [0] G G<|bd (ps := [(0, .tmp 21), (1, .tmp 22), (2, .tmp 23), (3, .tmp 25)]) (cs := (cRight ((⟨gr, key, n, (l.getD i default).fNet⟩ : TRight)))) (by rfl) (by kernel_rfl) G<|eqT eq_Right ((l.getD i default)) ((⟨gr, key, n, (l.getD i default).fNet⟩ : TRight)) G G G<|nl<|nx<|cdP G (fun h27 => ?_) (fun h27 => ?_)
   · exact sb 3 [0] G G<|rt<|bR<|tR<|tR<|bR<|tR<|dpQ<|fR1 () G G (by rw [netP, if_neg (not_not_intro h13), firstI_some (j := i) (by omega) hall (decide_eq_true h27)]; try rfl) G Sn
   ·
    refine sk<|bN<|nx<|rg<|adI G G inI G<|mv G G<|nl<|dpQ ?_
    exact ag (i + 1) ⟨(by omega), (all_snoc hall (decide_eq_false h27))⟩ (by omega) (Gs G) G (Sc 2 G Sn)
  · exact ex<|tE<|tE<|bE<|nx<|sa 1 G<|rt<|fR1 () G G (by rw [netP, if_neg (not_not_intro h13), firstI_none (fun k hk => hall k (by omega))]; try rfl) G Sn
theorem findD_c (v_l : Value) (l : List TDeal) (c q : Int) (h_c : InI c) (h_q : InI q) : FnV Pg 163 [v_l, .int .i64 c, .int .i64 q] [⟨v_l, l⟩] (.tuple #[.agg (cDeal (findD l c q)).toArray, .bool (isD l c q)]) := by
 refine Fnc.proof Tryz.func163 G 25 G G fun X w => ?_
 obtain ⟨h_c1, h_c2⟩ := id h_c
 obtain ⟨h_q1, h_q2⟩ := id h_q
 refine qg<|al zero_126 G fun b6 => ru 1 G<|nl<|nx<|qg<|ru 3 G<|cfv (place_c _ _ _ _ h_c h_q) (Kg G) G (Sc 0 G Sn) G<|ru 1 G<|nl<|nx<|sq<|qg<|ru 3 G ?_
 refine jz 15 4 [0,6,8] G G (fun h15 K19 => by
  have p15 := of_decide_eq_false h15
  exact ru 1 G<|gY G G G<|cfv (deals_c _ _) (Kg G) G (Sc 0 G Sn) G<|ru 2 G<|K19 G Sr) ?_
 refine nl<|nx<|cdB G (fun h19 => ?_) (fun h19 => ?_)
 · exact qg<|bd (ps := []) (cs := (cDeal ((⟨0, 0, ByteArray.empty, ByteArray.empty, 0, 0, 0, 0⟩ : TDeal)))) (by rfl) (by kernel_rfl) G<|stW 0 (us := (cDeal ((⟨0, 0, ByteArray.empty, ByteArray.empty, 0, 0, 0, 0⟩ : TDeal)))) G G G (Rg G) G G<|ru 1 G<|nl<|nx<|rt<|tR<|fRG () [_] (rCT 0 G G G G (Rg G)) (by rw [findD, isD, if_pos h19, if_pos h19]; rfl) G Sn
 ·
  obtain ⟨k, hk, hkl⟩ := placeO_ok h19
  exact sk<|nx<|qg<|mv G G<|mv (v := .int .i64 ((k : Nat) : Int)) (congrArg (fun x => some (Value.int .i64 x)) (by rw [hk]; rfl)) G<|ixQ 0 G G G slt_52 G fun v23 => ldS 0 G G (Rg G) G fun q24 w24 => stW 0 (us := (cDeal ((l.getD k default)))) G G G (Rg G) G G<|ru 1 G<|nl<|nx<|rt<|fRG () [_] (rCT 0 G G G G (Rg G)) (by rw [findD, isD, if_neg (by rw [h19]; decide), if_neg (by rw [h19]; decide), hk]; try rfl) G Sn
theorem plainT_c (v_x : Value) (x : List TTotal) (v_y : Value) : FnV Pg 26 [v_x, v_y] [⟨v_x, x⟩, ⟨v_y, x⟩] (.bool true) := by
 refine Fnc.proof Tryz.func26 G 26 G G fun X w => sa 1 G<|sq<|qg<|mv G G<|lnP 0 G G Tryz.underlying72 G fun l7 => mv G G<|lnP 1 G G Tryz.underlying72 G fun l9 => ru 1 G<|nl<|nx<|cdN G (fun h10 => ?_) (fun h10 => ?_)
 · exact absurd G h10 --#done
 ·
  refine sk<|nx<|sq<|sa 1 G<|bk<|lpC (σ := Nat) [(0, _), (1, _)] _ (fun i C => (5, .int .i64 (i : Int)) :: C) (fun i => i ≤ x.length) (fun i => x.length - i) 0 (Gs G) (Sc 0 G (Sc 1 G Sn)) (Nat.zero_le _) (Gs G) ?_
  intro i hi
  refine sq<|qg<|ru 2 G<|lnP 0 G G Tryz.underlying72 G fun l13 => ru 1 G<|nl<|nx<|cdP G (fun h14 => ?_) (fun h14 => ?_)
  ·
   refine sk<|nx<|sq<|bk<|sq<|rgQ mixed (by kernel_rfl)<|ru 2 G<|ixQ 0 G G G slt_72 G fun v19 => ldS 0 G G (Rg G) G fun q20 w20 => ru 2 G<|ixQ 3 G G G slt_72 G fun v23 => ldS 0 G G (Rg G) G fun q24 w24 => neT eq_Total ((x.getD i default)) ((x.getD i default)) G G G<|nlQ<|nx<|cdN G (fun h25 => ?_) (fun h25 => ?_)
   · exact absurd G h25 --#done
   ·
    refine sk<|bN<|nx<|rg<|mv G G<|adI G G inI G<|ru 1 G<|nl ?_
    exact ag (i + 1) (by omega) (by omega) (Gs G) G (Si [4,5] G)
  · exact ex<|tE<|tE<|bE<|nx<|sa 1 G<|rt<|fR1 () G G (by rfl) G Sn
end Go.Proofs.YtmpoffijcfaalaaGreat
namespace Go.Proofs.YtmpoffijcfaalaaGreat
open Go.Eng
theorem app_29 : AppTy Pg 29 59 4 40 := AppTy.mk Tryz.underlying29 (by kernel_rfl) (by decide)
theorem app_30 : AppTy Pg 30 62 3 24 := AppTy.mk Tryz.underlying30 (by kernel_rfl) (by decide)
theorem app_35 : AppTy Pg 35 5 1 1 := AppTy.mk Tryz.underlying35 (by kernel_rfl) (by decide)
end Go.Proofs.YtmpoffijcfaalaaGreat
