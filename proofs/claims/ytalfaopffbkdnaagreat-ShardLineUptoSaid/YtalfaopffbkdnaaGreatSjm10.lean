/- Part 10 of shardLine_holds. -/
import Derived.Test.YtalfaopffbkdnaaGreatSjm9

set_option maxRecDepth 20000
set_option maxHeartbeats 1000000
open Go.A_ Go.Proofs Go.Proofs.YtalfaopffbkdnaaGreat Go.Apw
namespace Go.Apw
theorem q6(a:AD)(Cw:Value)(C6:a.wf)(hh:LI a.A0=true):Cv AG 261 [.agg (A3 a Cw).toArray] [⟨Cw,a.A0⟩] (Adv a):=by
 refine Aw.proof Tryz.func261 G 54 G G fun X w=>HP (q:=∀x∈a.A0,x.wf) (fun S w h=>O7 (s:=MN) (h _ (List.mem_of_getElem? (i:=0) G))) fun F5=>?_;have Ys:=PC hh;refine Ae<|CV G G G fun CY=>U 3 G<|Ac<|Am ?_;refine lh ⟨fun Rt=>([[],[0],[1],[],[3],[4],[2],[5]]:List (List Nat)).getD Rt [],fun _ _=>True,fun _ _=>[],fun Rt=>([some (.pointer (some ⟨CY,3,none⟩)),some (.int .i64 a.BT),none,some (.pointer (some ⟨CY,3,none⟩)),some (.int .i64 a.BT),none,none,none]:List (Option Value)).getD Rt none,fun Aa4=>match Aa4 with
   |[]=>fun IM=>[AO CY 73 (A3 a Cw),CL X w]
   |[2]=>fun IM=>[row 3 (IM.getD 0 undef) [a.BT],AO CY 73 (A3 a Cw),CL X w]
   |[5]=>fun IM=>[row 3 (IM.getD 0 undef) [a.BT],AO CY 73 (A3 a Cw),CL X w]
   |[2,5]=>fun IM=>[row 3 (IM.getD 1 undef) [a.BT],row 3 (IM.getD 0 undef) [a.BT],AO CY 73 (A3 a Cw),CL X w]
   |[2,6]=>fun IM=>[row 3 (IM.getD 1 undef) [a.BT],AO CY 73 (A3 a Cw),CL X w]
   |[5,2]=>fun IM=>[row 3 (IM.getD 0 undef) [a.BT],row 3 (IM.getD 1 undef) [a.BT],AO CY 73 (A3 a Cw),CL X w]
   |[2,5,6]=>fun IM=>[row 3 (IM.getD 1 undef) [a.BT],row 3 (IM.getD 2 undef) [a.BT],AO CY 73 (A3 a Cw),CL X w]
   |[2,6,5]=>fun IM=>[row 3 (IM.getD 2 undef) [a.BT],row 3 (IM.getD 1 undef) [a.BT],AO CY 73 (A3 a Cw),CL X w]
   |[5,2,6]=>fun IM=>[row 3 (IM.getD 0 undef) [a.BT],row 3 (IM.getD 2 undef) [a.BT],AO CY 73 (A3 a Cw),CL X w]
   |[2,5,6,7]=>fun IM=>[row 3 (IM.getD 3 undef) [a.BT],row 3 (IM.getD 2 undef) [a.BT],AO CY 73 (A3 a Cw),CL X w]
   |[2,6,5,7]=>fun IM=>[row 3 (IM.getD 3 undef) [a.BT],row 3 (IM.getD 1 undef) [a.BT],AO CY 73 (A3 a Cw),CL X w]
   |[5,2,6,7]=>fun IM=>[row 3 (IM.getD 3 undef) [a.BT],row 3 (IM.getD 2 undef) [a.BT],AO CY 73 (A3 a Cw),CL X w]
   |_=>fun _=>[],[2,5,6,7],[[],[2],[5],[2,5],[2,6],[5,2],[2,5,6],[2,6,5],[5,2,6],[2,5,6,7],[2,6,5,7],[5,2,6,7]]⟩ (fun V=>[row 3 (V 7) [a.BT],row 3 (V 6) [a.BT],AO CY 73 (A3 a Cw),CL X w]) mixed rfl rfl (show E7 _ [[2,5,6,7],[2,6,5,7],[5,2,6,7]]from⟨fun _=>rfl,fun _=>rfl,fun _=>rfl,trivial⟩) ?_ ?_
 ·
  refine⟨fun V Az _=>wI (UG G (BR G) G<|GH G G G G) (UG G (BR G) G<|GH G G G G) (UG G (BR G) G<|GH G G G G) (UG G (BR G) G<|GH G G G G) (UG G (BR G) G<|GH G G G G),fun V Az _=>m6 (ME 0 G G (A2 G) G G<|GH G G G G) (ME 1 G G (A2 G) G G<|GH G G G G),fun V Az _=>m6 (BH (xs:=[.tmp 12]) (us:=[.int .i64 a.BT]) (E:=3) (bytes:=8) (n:=1) G (by exact RL) G G G G G G fun xj=>Nm (α:=Int) [a.BT] [[.int .i64 (a.BT)]] G G (fun S w h=>⟨⟨G,C6.2.2.1⟩,trivial⟩) G<|nl (Ig G G G trivial Aa Br)) (BH (xs:=[.tmp 12]) (us:=[.int .i64 a.BT]) (E:=3) (bytes:=8) (n:=1) G (by exact RL) G G G G G G fun xj=>Nm (α:=Int) [a.BT] [[.int .i64 (a.BT)]] G G (fun S w h=>⟨⟨G,C6.2.2.1⟩,trivial⟩) G<|D9 2 G<|D9 1 G<|D9 2 G<|nl (Ig G G G trivial Aa Br)),?_⟩;refine⟨fun V Az _=>(show E7 _ [[],[2],[5],[2,5],[2,6],[5,2],[2,5,6],[2,6,5],[5,2,6]]from⟨?_,?_,?_,?_,?_,?_,?_,?_,?_,trivial⟩),?_⟩
  · exact U 1 G<|GH G G G G
  · exact U 1 G<|GH G G G G
  · exact U 1 G<|GH G G G G
  · exact U 1 G<|GH G G G G
  · exact U 1 G<|GH G G G G
  · exact U 1 G<|GH G G G G
  · exact U 1 G<|GH G G G G
  · exact U 1 G<|GH G G G G
  · exact U 1 G<|GH G G G G
  exact⟨fun V Az _=>du (ME 0 G G (A2 G) G G<|GH G G G G) (ME 1 G G (A2 G) G G<|GH G G G G) (ME 1 G G (A2 G) G G<|GH G G G G),fun V Az _=>du (BH (xs:=[.tmp 15]) (us:=[.int .i64 a.BT]) (E:=3) (bytes:=8) (n:=1) G (by exact RL) G G G G G G fun nt=>Nm (α:=Int) [a.BT] [[.int .i64 (a.BT)]] G G (fun S w h=>⟨⟨G,C6.2.2.1⟩,trivial⟩) G<|nl (Ig G G G trivial Aa Br)) (BH (xs:=[.tmp 15]) (us:=[.int .i64 a.BT]) (E:=3) (bytes:=8) (n:=1) G (by exact RL) G G G G G G fun nt=>Nm (α:=Int) [a.BT] [[.int .i64 (a.BT)]] G G (fun S w h=>⟨⟨G,C6.2.2.1⟩,trivial⟩) G<|nl (Ig G G G trivial Aa Br)) (BH (xs:=[.tmp 15]) (us:=[.int .i64 a.BT]) (E:=3) (bytes:=8) (n:=1) G (by exact RL) G G G G G G fun nt=>Nm (α:=Int) [a.BT] [[.int .i64 (a.BT)]] G G (fun S w h=>⟨⟨G,C6.2.2.1⟩,trivial⟩) G<|nl (Ig G G G trivial Aa Br)),fun V Az _=>du (VQ G G<|nl (Ig G G G trivial Aa Br)) (VQ G G<|nl (Ig G G G trivial Aa Br)) (VQ G G<|nl (Ig G G G trivial Aa Br)),fun V Az _=>du (VQ G G<|nl (Ig G G G trivial Aa Br)) (VQ G G<|nl (Ig G G G trivial Aa Br)) (VQ G G<|nl (Ig G G G trivial Aa Br)),trivial⟩
 ·
  intro V _;refine Ali (L:=[row 3 (V 7) [a.BT],row 3 (V 6) [a.BT],AO CY 73 (A3 a Cw),CL X w]) [(1,_),(5,V 6),(6,V 7)] [_] (Bs G) (Ad 0 G Aa) ?_;generalize V 6=v6;generalize V 7=EZ;refine A5<|Am<|Ae<|AX 2 [2] G G<|C2 0 G G Tryz.underlying69 G fun U9=>An G G<|Ac<|B5<|Hx (σ:=Nat×Value×Value) [(18,_),(19,_)] _ (fun i C=>(20,.int .i64 (i.1:Int))::(5,i.2.1)::(6,i.2.2)::C) (fun i=>[row 3 i.2.2 (So (fun h=> -h.Fc) a.BT a.A0 i.1),row 3 i.2.1 (So (fun h=>h.DV) a.BT a.A0 i.1),AO CY 73 (A3 a Cw),CL X w]) (fun _ Dw=>Dw) (fun i=>i.1<=a.A0.length) (fun i=>a.A0.length-i.1) (0,v6,EZ) (Bs G) (Ad 0 G Aa) (Nat.zero_le _) (Bs G) G (Ad 0 G Aa) ?_;rintro⟨i,Mp,v6⟩ Ag;simp only at Ag;refine AF 1 G<|Am<|B9 G (fun E1=>?_) (fun E1=>?_)
  ·
   have AJ:=Wy hh (i:=i) (by omega);obtain⟨Ank,Anl⟩:=(F5 _ (Hl (l:=a.A0) (i:=i) (by omega))).2.2.2;refine AZ<|Am<|B5<|Ae<|Fo 0 G G G I6 G fun RB=>Gi 0 G G (At G) G fun AhM cY=>CT Um G fun K0=>BZ 0 (us:=(JH ((a.A0.getD i default)))) G G G (At G) G G<|Ac<|Ae<|AX 3 [0] G G<|BH (xs:=[.tmp 26]) (us:=[.int .i64 ((a.A0.getD i default).DV)]) (E:=3) (bytes:=8) (n:=1) G (by exact RL) G G G G G G fun Amd=>Q5 (α:=Int) [(a.A0.getD i default).DV] [[.int .i64 ((a.A0.getD i default).DV)]] G (fun S w h=>⟨⟨G,(F5 _ (Hl (l:=a.A0) (i:=i) (by omega))).2.2.1⟩,trivial⟩) (Nat.le_of_ble_eq_true G)<|ap 2 0 G G G G RL (by simp only[bC,List.length_cons,List.length_nil];omega) (by simp only[bC,List.length_cons,List.length_nil];omega) G fun Pg=>U 1 G<|Ac<|rg<|AX 3 [0] G G<|fl G BV G<|BH (xs:=[.tmp 32]) (us:=[.int .i64 ((-(a.A0.getD i default).Fc))]) (E:=3) (bytes:=8) (n:=1) G (by exact RL) G G G G G G fun nv=>Q5 (α:=Int) [-(a.A0.getD i default).Fc] [[.int .i64 (-(a.A0.getD i default).Fc)]] G (fun S w h=>⟨⟨G,BV⟩,trivial⟩) (Nat.le_of_ble_eq_true G)<|ap 1 0 G G G G RL (by simp only[bC,List.length_cons,List.length_nil];omega) (by simp only[bC,List.length_cons,List.length_nil];omega) G fun Xm=>U 1 G<|nl<|CU<|A5<|rg<|C5 G G BV G<|An G G<|nl<|AQ ?_;exact Dy ((i+1,Pg,Xm):Nat×Value×Value) (by show i+1<=_;omega) (by show _-_<_-_;omega) (Bs G) G (Ad 4 G Aa)
  · exact ex<|Ck<|Ck<|D7<|A5<|Ae<|An G G<|D9 1 G<|JO<|B0 (tK _ _) (Ar G) G (Ad 0 G Aa) G<|U 3 G<|U 2 G<|Ac<|Ae<|An G G<|JO<|B0 (tK _ _) (Ar G) G (Ad 0 G Aa) G<|U 5 G<|Ac<|Ae<|U 5 G<|Fu 50 3 [] [46,47] G G G<|U 3 G<|Ac<|rt<|AQ<|IB () G G G G (by have e:i=a.A0.length:=(by omega);subst e;simp only[AdN a,AdM a];try rfl) G Aa
theorem wR(x:Int)(y:Int)(GP:A' x)(Ym:A' y):Cv AG 296 [.int .i64 x,.int .i64 y] [] (SA (x+y)):=by
 refine Aw.proof Tryz.func296 G 33 G G fun X w=>?_;obtain⟨Ane,Anf⟩:=id GP;obtain⟨Ang,Anh⟩:=id Ym;refine AF 2 G<|Ae<|U 2 G<|Jm G G G<|U 1 G<|Ac<|Am<|Ae<|U 3 G<|Fu 12 3 [] [0,1,6] G G G<|An G G<|Fu 16 3 [] [0,1,6] G G G<|An G G ?_;refine DE 20 11 [6] G G (fun HQ VF=>by
  exact U 3 G<|Fu 23 3 [] [6,20] G G G<|U 1 G<|Fu 27 3 [] [6,20] G G G<|U 1 G<|VF G Br) ?_
 refine Ac<|BN G (fun ES=>?_) (fun ES=>?_)
 · exact AF 2 G<|BA<|Fl () G G G (by show _=SA (x+y);have e:=(hg GP Ym).1.symm.trans ES;rw[Bool.not_eq_true']at e;rw[SA,Lo,No,if_neg (by rw[e];decide),if_neg (by rw[e];decide)]) G Aa
 · exact AZ<|AF 3 G<|rt<|Fl () G G G (by show _=SA (x+y);have e:=(hg GP Ym).1.symm.trans ES;rw[Bool.not_eq_false']at e;rw[SA,Lo,No,if_pos e,if_pos e,(hg GP Ym).2 e]) G Aa
theorem oX(a:AD)(Cw:Value)(k:F_)(C6:a.wf)(R8:k.wf):Cv AG 257 [.agg (A3 a Cw).toArray,.agg (Lx k).toArray] [⟨Cw,a.A0⟩] (.bool (UJ a k)):=by
 refine Aw.proof Tryz.func257 G 23 G G fun X w=>Ae<|CV G G G fun Dh=>CV G G G fun DQ=>U 1 G<|Ac<|Ae<|AX 4 [1,0] G G<|B0 (wR _ _ C6.2.2.1 R8.2.2.2) (Ar G) G Aa G<|U 5 G<|Ac<|Ae<|U 3 G ?_;refine D4 17 5 [] G G (fun DA VD=>by
  have r2:=of_decide_eq_true DA;exact U 1 G<|Bl G G G<|BJ 1 (Od a.Cs) G G (At G) G G<|U 1 G<|Bl G G G<|B0 (jd _ _ C6.2.1 (AjW (a.BT+k.B2))) (Ar G) G Aa G<|U 1 G<|VD G Br) ?_
 exact U 1 G<|Ac<|rt<|AQ<|AQ<|Bq () G G (by rfl) G Aa
theorem Ps(a:AD)(Cw:Value)(C6:a.wf):Cv AG 186 [.agg (A3 a Cw).toArray] [⟨Cw,a.A0⟩] (.bool (E4 a)):=by
 refine Aw.proof Tryz.func186 G 80 G G fun X w=>Ae<|CV G G G fun CY=>U 1 G<|Ac<|Am<|Ae<|AX 2 [0] G G<|PI G Tryz.underlying9 G<|U 1 G<|An G G ?_;refine DE 10 5 [1] G G (fun Dq ZF=>by
  have AfX:=of_decide_eq_false Dq;exact AX 2 [0] G G<|Bl G G G<|PI G Tryz.underlying9 G<|U 2 G<|ZF G Br) ?_
 refine An G G<|DE 16 7 [1] G G (fun CR SU=>U 1 G<|Bl G G G<|BJ 0 (Od a.Cs) G G (At G) G G<|AX 2 [0] G G<|Bl G G G<|B0 (jd _ _ C6.2.1 C6.2.2.1) (Ar G) G Aa G<|U 2 G<|SU G Br)<|An G G<|ET 24 4 [0] [1] G G G<|An G G<|DE 29 5 [1] G G (fun G5 ZJ=>AX 2 [0] G G<|Bl G G G<|B0 (Ab6 _ _) (Ar G) G (Ad 0 G Aa) G<|U 2 G<|ZJ G Br)<|Ac<|BN G (fun FN=>?_) (fun FN=>?_)
 ·
  have an:(VO a)=true:=FN;exact AF 1 G<|BA<|AQ<|Bq () G G (by rw[E4,an];try rfl) G Aa
 ·
  have hh:LI a.A0=true:=(by have q:=FN;simp only[Bool.or_eq_false_iff,Bool.not_eq_false']at q;exact q.2);have an:(VO a)=false:=FN;refine AZ<|Ae<|BJ 0 (A3 a Cw) G G (At G) G G<|B0 (q6 _ _ C6 (by assumption)) (Ar G) G (Ad 0 G Aa) G<|U 7 G<|Ac<|Am<|Ae<|U 3 G<|ET 43 6 [0] [1,4] G G G<|An G G<|ET 50 6 [0] [1] G G G<|Ac<|BN G (fun eu=>?_) (fun eu=>?_)
  ·
   have ea:(XQ a)=true:=eu;exact AF 1 G<|BA<|AQ<|Bq () G G (by rw[E4,an,ea];try rfl) G Aa
  ·
   have ea:(XQ a)=false:=eu;refine AZ<|Am<|I5 4 [0] G G<|B9 G (fun Tg=>?_) (fun Tg=>?_)
   ·
    have hW:(decide (a.BG.Ap=0))=true:=(decide_eq_true Tg);exact Ae<|U 1 G<|BJ 0 (Lx a.BG) G G (At G) G G<|Db (ps:=[]) (cs:=(Lx PF)) (by rfl) (by kernel_rfl) G<|RU oK (a.BG) PF G G G<|U 1 G<|Ac<|BA<|AQ<|Bq () G G (by rw[E4,an,ea,hW];try rfl) G Aa
   ·
    have hW:(decide (a.BG.Ap=0))=false:=(decide_eq_false Tg);exact AZ<|Ae<|U 1 G<|BJ 0 (Lx a.BG) G G (At G) G G<|B0 (qO _ C6.2.2.2.2.2) (Ar G) G Aa G<|An G G<|D4 68 5 [1] G G (fun R5 v9=>AX 2 [0] G G<|Bl G G G<|C2 0 G G Tryz.underlying69 G fun AnY=>U 2 G<|v9 G Br)<|An G G<|D4 74 5 [] G G (fun ew ZP=>Bl G G G<|BJ 0 (A3 a Cw) G G (At G) G G<|U 1 G<|Bl G G G<|BJ 0 (Lx a.BG) G G (At G) G G<|Bl G G G<|B0 (oX _ _ _ C6 C6.2.2.2.2.2) (Ar G) G (Ad 0 G Aa) G<|U 1 G<|ZP G Br)<|U 1 G<|Ac<|rt<|AQ<|Bq () G G (by rw[E4,an,ea,hW];try rfl) G Aa
theorem m8(a:AD)(Cw:Value)(C6:a.wf):Cv AG 135 [.agg (A3 a Cw).toArray] [⟨Cw,a.A0⟩] (.int .i64 (IA (E4 a))):=by
 refine Aw.proof Tryz.func135 G 6 G G fun X w=>Ae<|CV G G G fun CY=>U 1 G<|Ac<|Am<|Ae<|BJ 0 (A3 a Cw) G G (At G) G G<|B0 (Ps _ _ C6) (Ar G) G (Ad 0 G Aa) G<|IH G G<|Ac<|BN G (fun C'=>?_) (fun C'=>?_)
 · exact AF 1 G<|BA<|AQ<|Bq () G G (by rw[IA,if_neg (by have q:=C';rw[Bool.not_eq_true']at q;rw[q];decide)]) G Aa
 · exact AZ<|AF 1 G<|rt<|AQ<|Bq () G G (by rw[IA,if_pos (by have q:=C';rw[Bool.not_eq_false']at q;exact q)]) G Aa
theorem dz(a:AD)(Cw:Value)(C6:a.wf):Cv AG 102 [.agg (A3 a Cw).toArray] [⟨Cw,a.A0⟩] (.bool (FT a)):=by
 exact Aw.proof Tryz.func102 G 32 G G fun X w=>Ae<|CV G G G fun CY=>U 1 G<|Ac<|Ae<|BJ 0 (A3 a Cw) G G (At G) G G<|B0 (Ps _ _ C6) (Ar G) G (Ad 0 G Aa) G<|An G G<|D4 5 5 [1] G G (fun C' ZC=>U 1 G<|Bl G G G<|BJ 0 (Od a.Cs) G G (At G) G G<|Bl G G G<|Db (ps:=[]) (cs:=(Od cz)) (by rfl) (by kernel_rfl) G<|Bl G G G<|RU oL (a.Cs) cz G G G<|U 1 G<|ZC G Br)<|An G G<|Fu 11 4 [0] [1] G G G<|An G G<|D4 16 5 [1] G G (fun CR SS=>AX 2 [0] G G<|Bl G G G<|C2 0 G G Tryz.underlying69 G fun U9=>U 2 G<|SS G Br)<|An G G<|Fu 22 4 [0] [1] G G G<|An G G<|D4 27 4 [] G G (fun G4 VF=>Bl G G G<|BJ 0 (A3 a Cw) G G (At G) G G<|Bl G G G<|B0 (YP _ _ C6) (Ar G) G (Ad 0 G Aa) G<|U 2 G<|VF G Br)<|U 1 G<|Ac<|rt<|AQ<|Bq () G G (by rfl) G Aa
theorem yd(x:ByteArray)(y:ByteArray):Cv AG 299 [.string x,.string y] [] (.int .i64 (RO x y)):=by
 exact Aw.proof Tryz.func299 G 8 G G fun X w=>AF 1 G<|Ae<|U 2 G<|hL zy (fun w=>yc (P:=Tryz.prog) x y w) G G<|U 1 G<|Ac<|rt<|Bq () G G (by rfl) G Aa
theorem yf(x:ByteArray)(y:ByteArray):Cv AG 266 [.string x,.string y] [] (.int .i64 (RO x y)):=by
 exact Aw.proof Tryz.func266 G 8 G G fun X w=>AF 1 G<|Ae<|U 2 G<|B0 (yd _ _) (Ar G) G Aa G<|U 1 G<|Ac<|rt<|Bq () G G (by rfl) G Aa
theorem Ai6(s:Bv)(El EV D_ EA Em Eh:Value)(J8:s.wf):Cv AG 65 [.agg (BY s El EV D_ EA Em Eh).toArray] [⟨El,s.Aj⟩,⟨EV,s.Bz⟩,⟨D_,s.AA⟩,⟨EA,s.Bj⟩,⟨Em,s.CX⟩,⟨Eh,s.Cf⟩] (.bool (VP s)):=by
 refine Aw.proof Tryz.func65 G 48 G G fun X w=>Ae<|CV G G G fun CY=>U 1 G<|Ac<|Am<|Ae<|AX 2 [0] G G<|C2 0 G G Tryz.underlying22 G fun MD=>U 1 G<|Ac<|B9 G (fun D2=>?_) (fun D2=>?_)
 ·
  have X8:(decide ((s.Aj.length:Int)>12))=true:=(decide_eq_true D2);exact AF 1 G<|BA<|AQ<|Bq () G G (by rw[VP,if_pos X8]) G Aa
 ·
  have X8:(decide ((s.Aj.length:Int)>12))=false:=(decide_eq_false D2);refine AZ<|Am<|Ae<|AX 2 [0] G G<|C2 0 G G Tryz.underlying22 G fun e'=>An G G<|Ac<|B5<|Ji (σ:=Nat) [(1,_),(10,_),(11,_)] _ (fun i C=>(12,.int .i64 (i:Int))::C) (fun i=>i<=s.Aj.length/\(∀j,j<i->(!dv s j)=true)) (fun i=>s.Aj.length-i) 0 (Bs G) (Ad 0 G (Ad 1 G (Ad 2 G (Ad 3 G (Ad 4 G (Ad 5 G Aa)))))) ⟨Nat.zero_le _,fun j Ay=>absurd Ay (Nat.not_lt_zero j)⟩ (Bs G) ?_;rintro i ⟨Ag,C0⟩;refine AF 1 G<|Am<|B9 G (fun Dp=>?_) (fun Dp=>?_)
  ·
   refine AZ<|Am<|B5<|Ae<|An G G<|Fo 0 G G G Gt G fun Xk=>Gi 0 G G (At G) G fun Ii PV=>?_;refine CT Hd G fun En=>U 1 G<|Cp 1 G fun WU=>?_;refine BZ 0 (us:=(A3 ((s.Aj.getD i default)) Ii)) G G G (At G) (by simp only[List.all_cons,List.all_nil,Bool.and_true,WU];rfl) G<|Ac<|Am<|Gx mixed (by kernel_rfl)<|BJ 0 (A3 ((s.Aj.getD i default)) Ii) G G (At G) G G<|HD (m8 _ _ PV) (Ar G) G (Ad 1 G Aa) G<|U 2 G ?_;refine DE 20 3 [1,3,4,10,11,12] G G (fun HQ SU=>by
    have Af3:=HQ;simp only[Bool.not_eq_false',decide_eq_true_eq]at Af3;exact Bl G G G<|BJ 0 (A3 ((s.Aj.getD i default)) Ii) G G (At G) G G<|Bl G G G<|HD (dz _ _ PV) (Ar G) G (Ad 1 G Aa) G<|U 1 G<|SU G Br) ?_
   refine An G G<|DE 24 6 [1,3,4,10,11,12] G G (fun F3 VE=>Bl G G G<|BJ 1 (BY s El EV D_ EA Em Eh) G G (At G) G G<|AX 2 [0] G G<|Bl G G G<|HD (kJ _ _ _ _ _ _ _ _ J8) (Ar G) G (BE [3,4,5,6,7,8] G) G<|U 2 G<|VE G Br)<|An G G ?_;refine DE 31 15 [1,10,11,12] G G (fun ES vV=>by
    have Af5:=ES;try simp only[Bool.or_eq_false_iff,decide_eq_true_eq,Bool.not_eq_false']at Af5
    refine U 3 G ?_;refine D4 34 11 [1,10,11,12,31] G G (fun FN ZN=>by
     have Aob:=of_decide_eq_true FN;exact AX 5 [0,1] G G<|Bl G G G<|TU G G BV G<|Bl G G G<|Fo 3 G G G Gt G fun AkF=>Bl G G G<|CJ 0 kM G G (BR G) G fun ml=>Bl G G G<|CQ 0 G G (A2 G) G fun gD=>Bl G G G<|j2 G G G<|U 1 G<|ZN G (Bg.tail (Bg.tail Br))) ?_
    exact U 1 G<|vV G Br) ?_
   refine Gj<|A5<|BN G (fun US=>?_) (fun US=>?_)
   · exact AF 1 G<|rt<|C9<|Cd<|Cd<|C9<|Cd<|AQ<|AQ<|Bq () G G (by rw[VP,if_neg (by rw[X8];decide),Ur i (by omega) (YU US)]) G Aa
   ·
    refine EG<|CU<|A5<|rg<|C5 G G BV G<|An G G<|nl<|AQ ?_;exact Dy (i+1) ⟨(by omega),(Ki C0 (YT US))⟩ (by omega) (Bs G) G (BE [3,4,5,6,7,8] G)
  · exact ex<|Ck<|Ck<|D7<|A5<|AF 1 G<|rt<|AQ<|Bq () G G (by rw[VP,if_neg (by rw[X8];decide),Us (fun j Ay=>C0 j (by omega))]) G Aa
theorem AcG(CP:Value)(l:List Bx)(f:Nat)(D0:Array Value)(A:List Atom)(p:Bx->Bool)(CM:GU AG f)(E5:∀x:Bx,x.wf->Cv AG f (.agg (H8 x).toArray::D0.toList) A (.bool (p x))):Cv AG 219 [CP,.func (.func f) #[] D0] (⟨CP,l⟩::A) (.int .i64 (HI (Gd l.length (fun j=>p (l.getD j default))))):=by
 refine Aw.proof Tryz.func219 G 19 G G fun X w=>AF 1 G<|Am<|Ae<|An G G<|C2 0 G G Tryz.underlying25 G fun MD=>An G G<|Ac<|B5<|Ji (σ:=Nat) [(0,_),(1,_),(7,_)] _ (fun i C=>(8,.int .i64 (i:Int))::C) (fun i=>i<=l.length/\(∀j,j<i->p (l.getD j default)=false)) (fun i=>l.length-i) 0 (Bs G) (Ad 0 G (Bg.tail Br)) ⟨Nat.zero_le _,fun j Ay=>absurd Ay (Nat.not_lt_zero j)⟩ (Bs G) ?_;rintro i ⟨Ag,C0⟩;refine AF 1 G<|Am<|B9 G (fun EO=>?_) (fun EO=>?_)
 ·
  refine AZ<|Am<|B5<|AF 2 G<|Ae<|U 2 G<|An G G<|Fo 0 G G G Ox G fun PS=>Gi 0 G G (At G) G fun KR N6=>QV (E5 _ N6) CM G G G (Bg.tail (Bg.tail (Bg.tail Br))) G fun Ui Mn V4=>?_;obtain rfl:Mn=.bool (p (l.getD i default)):=V4;refine Ac<|BN G (fun CR=>?_) (fun CR=>?_)
  · exact AF 2 G<|rt<|C9<|Cd<|Cd<|C9<|Cd<|Bq () G G (by rw[Tc (j:=i) (by omega) C0 CR];try rfl) G Aa
  ·
   refine EG<|CU<|A5<|rg<|C5 G G BV G<|An G G<|nl ?_;exact Dy (i+1) ⟨(by omega),(Ki C0 (CR))⟩ (by omega) (Bs G) G (Ad 2 G (Bg.tail (Bg.tail (Bg.tail Br))))
 · exact ex<|Ck<|Ck<|D7<|A5<|AF 1 G<|rt<|Bq () G G (by rw[Tb (fun k AE=>C0 k (by omega))];try rfl) G Aa
theorem Ahm(x:Bx)(v1 v2:Value)(c q:Int)(_:x.wf):Cv AG 220 [.agg (H8 x).toArray,v1,v2] [⟨v1,(⟨c⟩:Cq Int)⟩,⟨v2,(⟨q⟩:Cq Int)⟩] (.bool (decide (x.Ap=c)&&decide (x.As=q))):=by
 refine Aw.proof Tryz.func220 G 15 G G fun X w=>Ae<|CV G G G fun DQ=>U 1 G<|Ac<|Ae<|AX 2 [0] G G<|CQ 0 G G (A2 G) G fun OD=>U 2 G ?_;refine D4 9 5 [] G G (fun EO VC=>by
  have Y0:=of_decide_eq_true EO;exact AX 2 [0] G G<|Bl G G G<|CQ 1 G G (A2 G) G fun Xr=>U 2 G<|VC G Br) ?_
 exact U 1 G<|Ac<|rt<|AQ<|Bq () G G (by rfl) G Aa
theorem fA(CP:Value)(l:List Bx)(c:Int)(q:Int)(BK:A' c)(Ed:A' q):Cv AG 137 [CP,.int .i64 c,.int .i64 q] [⟨CP,l⟩] (.int .i64 (HI (Kt l c q))):=by
 refine Aw.proof Tryz.func137 G 10 G G fun X w=>?_;obtain⟨K9,K_⟩:=id BK;obtain⟨LD,LF⟩:=id Ed;exact Ae<|CV G G G fun En=>CV G G G fun E'=>U 1 G<|Ac<|Ae<|M4 (α:=Int) q (fun S w h=>⟨G,Ed⟩)<|M4 (α:=Int) c (fun S w h=>⟨G,BK⟩)<|An G G<|Nd (xs:=[.tmp 4,.tmp 5]) G G<|B0 (AcG _ _ 220 #[.pointer (some ⟨En,0,none⟩),.pointer (some ⟨E',0,none⟩)] [⟨_,(⟨c⟩:Cq Int)⟩,⟨_,(⟨q⟩:Cq Int)⟩] (fun x=>decide (x.Ap=c)&&decide (x.As=q)) (Ar G) (fun x Ab=>Ahm x _ _ c q Ab)) (Ar G) G (BE [2,0,1] G) G<|U 1 G<|Ac<|rt<|Bq () G G (by rfl) G Aa
theorem dS(CP:Value)(l:List Bx):Cv AG 66 [CP] [⟨CP,l⟩] (.int .i64 (IA (Is l))):=by
 refine Aw.proof Tryz.func66 G 29 G G fun X w=>AF 1 G<|Am<|Ae<|An G G<|C2 0 G G Tryz.underlying25 G fun qY=>U 1 G<|Ac<|B9 G (fun GY=>?_) (fun GY=>?_)
 ·
  have X7:(decide ((l.length:Int)>4))=true:=(decide_eq_true GY);exact AF 1 G<|BA<|Bq () G G (by rw[Is,if_pos X7];try rfl) G Aa
 ·
  have X7:(decide ((l.length:Int)>4))=false:=(decide_eq_false GY);refine AZ<|Am<|Ae<|An G G<|C2 0 G G Tryz.underlying25 G fun Sm=>An G G<|Ac<|B5<|Ji (σ:=Nat) [(0,_),(8,_),(9,_)] _ (fun i C=>(10,.int .i64 (i:Int))::C) (fun i=>i<=l.length/\(∀j,j<i->(!ab l j)=true)) (fun i=>l.length-i) 0 (Bs G) (Ad 0 G Aa) ⟨Nat.zero_le _,fun j Ay=>absurd Ay (Nat.not_lt_zero j)⟩ (Bs G) ?_;rintro i ⟨Ag,C0⟩;refine AF 1 G<|Am<|B9 G (fun Ct=>?_) (fun Ct=>?_)
  ·
   refine AZ<|Am<|B5<|Ae<|An G G<|Fo 0 G G G Ox G fun RA=>Gi 0 G G (At G) G fun MI SE=>CT SO G fun En=>U 1 G<|BZ 0 (us:=(H8 ((l.getD i default)))) G G G (At G) G G<|Ac<|Ae<|BJ 0 (H8 ((l.getD i default))) G G (At G) G G<|B0 (oq _ SE) (Ar G) G Aa G<|U 2 G ?_;refine DE 18 9 [0,8,9,10] G G (fun ER vP=>by
    exact AX 5 [0,0] G G<|Bl G G G<|B0 (fA _ _ _ _ SE.1 SE.2.1) (Ar G) G (Ad 2 G Aa) G<|U 1 G<|U 2 G<|vP G Br) ?_
   refine Ac<|BN G (fun G4=>?_) (fun G4=>?_)
   · exact AF 1 G<|rt<|C9<|Cd<|Cd<|C9<|Cd<|AQ<|Bq () G G (by rw[Is,if_neg (by rw[X7];decide),Ur i (by omega) (YU G4)];try rfl) G Aa
   ·
    refine EG<|CU<|A5<|rg<|C5 G G BV G<|An G G<|nl<|AQ ?_;exact Dy (i+1) ⟨(by omega),(Ki C0 (YT G4))⟩ (by omega) (Bs G) G (Ad 2 G Aa)
  · exact ex<|Ck<|Ck<|D7<|A5<|AF 1 G<|rt<|Bq () G G (by rw[Is,if_neg (by rw[X7];decide),Us (fun j Ay=>C0 j (by omega))];try rfl) G Aa
end Go.Apw
namespace Go.Proofs.YtalfaopffbkdnaaGreat.Uo
open Go.A_ Go.RowKit Go.Proofs Go.Proofs.YtalfaopffbkdnaaGreat
end Go.Proofs.YtalfaopffbkdnaaGreat.Uo
namespace Go.Apw
open Go.A_ Go.RowKit Go.Proofs.YtalfaopffbkdnaaGreat.Uo Go.Proofs Go.Proofs.YtalfaopffbkdnaaGreat
theorem gS:E3 AG 28 [.int .i64 0,.int .i64 0,.int .i64 0,.string ByteArray.empty,.string ByteArray.empty,.int .i64 0,.int .i64 0]:=E3.mk (by kernel_rfl)
end Go.Apw
namespace Go.Proofs.YtalfaopffbkdnaaGreat.XM
theorem QN:EH AG 23 54 7 56:=EH.mk Tryz.underlying23 (by kernel_rfl) (by decide)
theorem HB:EH AG 259 171 1 8:=EH.mk Tryz.underlying259 (by kernel_rfl) (by decide)
theorem QO:EH AG 339 175 1 8:=EH.mk Tryz.underlying339 (by kernel_rfl) (by decide)
theorem OI:EH AG 22 73 10 104:=EH.mk Tryz.underlying22 (by kernel_rfl) (by decide)
theorem Mt:EH AG 24 50 11 104:=EH.mk Tryz.underlying24 (by kernel_rfl) (by decide)
theorem QQ:EH AG 25 52 8 80:=EH.mk Tryz.underlying25 (by kernel_rfl) (by decide)
theorem RM:EH AG 26 125 2 16:=EH.mk Tryz.underlying26 (by kernel_rfl) (by decide)
theorem S1:EH AG 69 83 4 32:=EH.mk Tryz.underlying69 (by kernel_rfl) (by decide)
theorem AIj:QD AG 83 0 0:=QD.mk Tryz.underlying83 rfl (by kernel_rfl) rfl
theorem AIk:QD AG 83 1 1:=QD.mk Tryz.underlying83 rfl (by kernel_rfl) rfl
theorem AHN:QD AG 83 2 2:=QD.mk Tryz.underlying83 rfl (by kernel_rfl) rfl
theorem AHg:QD AG 33 0 0:=QD.mk Tryz.underlying33 rfl (by kernel_rfl) rfl
theorem AIl:QD AG 33 1 1:=QD.mk Tryz.underlying33 rfl (by kernel_rfl) rfl
theorem AIm:QD AG 33 3 3:=QD.mk Tryz.underlying33 rfl (by kernel_rfl) rfl
theorem AIn:QD AG 33 4 4:=QD.mk Tryz.underlying33 rfl (by kernel_rfl) rfl
theorem AIo:QD AG 33 5 5:=QD.mk Tryz.underlying33 rfl (by kernel_rfl) rfl
theorem AHO:QD AG 31 1 1:=QD.mk Tryz.underlying31 rfl (by kernel_rfl) rfl
theorem AHP:QD AG 31 8 8:=QD.mk Tryz.underlying31 rfl (by kernel_rfl) rfl
theorem AIp:QD AG 73 1 1:=QD.mk Tryz.underlying73 rfl (by kernel_rfl) rfl
theorem AIq:QD AG 73 2 3:=QD.mk Tryz.underlying73 rfl (by kernel_rfl) rfl
theorem AHz:QD AG 73 3 4:=QD.mk Tryz.underlying73 rfl (by kernel_rfl) rfl
theorem AIr:QD AG 73 4 5:=QD.mk Tryz.underlying73 rfl (by kernel_rfl) rfl
theorem mixed:Tryz.prog.follows .mixedOrders=true:=by kernel_rfl
theorem AGx:Nv AG 3:=⟨⟨_,Tryz.underlying3,rfl⟩,by kernel_rfl⟩
theorem AH0:Nv AG 24:=⟨⟨_,Tryz.underlying24,rfl⟩,by kernel_rfl⟩
theorem AIF:Nv AG 69:=⟨⟨_,Tryz.underlying69,rfl⟩,by kernel_rfl⟩
theorem AGY:Nv AG 9:=⟨⟨_,Tryz.underlying9,rfl⟩,by kernel_rfl⟩
theorem AH2:Oc AG 83 4:=⟨⟨_,Tryz.underlying83,rfl⟩,by kernel_rfl⟩
theorem AGM:Oc AG 31 29:=⟨⟨_,Tryz.underlying31,rfl⟩,by kernel_rfl⟩
theorem AHu:Oc AG 73 10:=⟨⟨_,Tryz.underlying73,rfl⟩,by kernel_rfl⟩
theorem lQ:H5 AG 259 171 1:=⟨Tryz.underlying259,by kernel_rfl⟩
theorem lR:H5 AG 339 175 1:=⟨Tryz.underlying339,by kernel_rfl⟩
theorem SM:E3 AG 50 [.int .i64 0,.int .i64 0,.int .i64 0,.int .i64 0,.int .i64 0,.int .i64 0,.string ByteArray.empty,.string ByteArray.empty,.int .i64 0,.int .i64 0,.int .i64 0]:=E3.mk (by kernel_rfl)
theorem SN:E3 AG 54 [.int .i64 0,.int .i64 0,.bool false,.int .i64 0,.int .i64 0,.int .i64 0,.int .i64 0]:=E3.mk (by kernel_rfl)
theorem SO:E3 AG 52 [.int .i64 0,.int .i64 0,.string ByteArray.empty,.string ByteArray.empty,.int .i64 0,.int .i64 0,.int .i64 0,.int .i64 0]:=E3.mk (by kernel_rfl)
theorem de:E3 AG 125 [.int .i64 0,.int .i64 0]:=E3.mk (by kernel_rfl)
theorem Um:E3 AG 83 [.int .i64 0,.int .i64 0,.int .i64 0,.int .i64 0]:=E3.mk (by kernel_rfl)
theorem df:E3 AG 3 [.int .i64 0]:=E3.mk (by kernel_rfl)
theorem dg:E3 AG 29 [.slice none 0 0]:=E3.mk (by kernel_rfl)
theorem LQ:E3 AG 31 [.int .i64 0,.int .i64 0,.bool false,.string ByteArray.empty,.string ByteArray.empty,.int .i64 0,.slice none 0 0,.slice none 0 0,.slice none 0 0,.slice none 0 0,.slice none 0 0,.int .i64 0,.int .i64 0,.int .i64 0,.string ByteArray.empty,.string ByteArray.empty,.int .i64 0,.int .i64 0,.int .i64 0,.int .i64 0,.int .i64 0,.string ByteArray.empty,.string ByteArray.empty,.int .i64 0,.int .i64 0,.slice none 0 0,.int .i64 0,.int .i64 0,.int .i64 0]:=E3.mk (by kernel_rfl)
theorem Hd:E3 AG 73 [.string ByteArray.empty,.int .i64 0,.int .i64 0,.int .i64 0,.int .i64 0,.slice none 0 0,.int .i64 0,.int .i64 0,.int .i64 0,.int .i64 0]:=E3.mk (by kernel_rfl)
end Go.Proofs.YtalfaopffbkdnaaGreat.XM
namespace Go.Proofs.YtalfaopffbkdnaaGreat.MW
theorem QP:EH AG 29 5 1 1:=EH.mk Tryz.underlying29 (by kernel_rfl) (by decide)
theorem mixed:Tryz.prog.follows .mixedOrders=true:=by kernel_rfl
theorem AGx:Nv AG 3:=⟨⟨_,Tryz.underlying3,rfl⟩,by kernel_rfl⟩
theorem TZ:H5 AG 29 5 1:=⟨Tryz.underlying29,by kernel_rfl⟩
theorem AlW:E3 AG 136 [.int .u64 0]:=E3.mk (by kernel_rfl)
theorem df:E3 AG 3 [.int .i64 0]:=E3.mk (by kernel_rfl)
theorem dg:E3 AG 29 [.slice none 0 0]:=E3.mk (by kernel_rfl)
theorem AlX:E3 AG 4 [.bool false]:=E3.mk (by kernel_rfl)
theorem rL(Bk:Value)(J:List UInt8):Cv AG 318 [Bk] [⟨Bk,J⟩] (TF (HH 0 0 J)):=by
 refine Aw.proof Tryz.func318 G 41 G G fun X w=>AF 3 G<|AF 1 G<|Am<|Ae<|An G G<|C2 0 G G Tryz.underlying29 G fun Sm=>An G G<|Ac<|B5<|j9 (σ:=Nat×Nat) (fun s=>[(0,Bk),(5,.int .u64 (s.2:Int)),(8,Bk),(9,.int .i64 (J.length:Int)),(10,.int .i64 (s.1:Int))]) (fun _=>[CL X w]) (fun _=>[⟨Bk,J⟩]) (fun s=>s.1<=9/\s.1<=J.length/\s.2<2^(7*s.1)/\HH 0 0 J=HH s.1 s.2 (J.drop s.1)) (fun s=>J.length-s.1) (0,0) ⟨by decide,Nat.zero_le _,by decide,G⟩ (Bs G) G Br ?_;rintro⟨i,v⟩ ⟨Af,h2,Bo,BB⟩;simp only at Af h2 Bo BB;refine AF 1 G<|Am<|B9 G (fun Ct=>?_) (fun Ct=>?_)
 ·
  refine AZ<|Am<|B5<|Ae<|An G G ?_;obtain⟨c,Bm⟩:∃c,J[i]? =some c:=⟨_,Aav (by omega)⟩;have AJ:=yD Bm;have E5:=c.toNat_lt;refine Qh 0 G G G TZ (by omega) Bm G fun RA=>CQ 0 G G (A2 G) G fun SE=>U 2 G<|Ac<|Am<|Ae<|U 3 G<|cD (i:=17) G (fun DA=>?_) (fun DA=>?_)
  ·
   refine U 3 G<|Ac<|B9 G (fun HQ=>?_) (fun HQ=>?_)
   · exact AF 3 G<|BA<|C9<|Cd<|Cd<|C9<|Cd<|IB () G G G G (by have e:=BB;rw[AJ]at e;simp only[HH]at e;(repeat (first|rw[if_pos (by omega)]at e|rw[if_neg (by omega)]at e));first|exact congrArg TF e.symm|(exfalso;omega)) G Aa
   ·
    refine AZ<|Ae<|U 2 G<|hA G G (nf c) G<|F0 Tryz.underlying5 Tryz.underlying136 G (mB (by omega)) G<|An G G<|rD G G BV G<|gb G G (by omega) (lN _ (7*i) (gf Af (by omega)) (by omega)) G<|dF G G (rW Bo (gf Af (by omega)) (by omega)) G<|U 1 G<|Ac<|Am<|AF 2 G<|B9 G (fun OS=>?_) (fun OS=>?_)
    ·
     refine ex<|Ck<|D7<|A5<|rg<|C5 G G BV G<|An G G<|nl ?_;exact Dy (i+1,v+c.toNat % 128*2^(7*i)) ⟨by show i+1<=9;omega,by show i+1<=J.length;omega,gd Bo,by show HH 0 0 J=_;rw[BB,AJ];simp only[HH];rw[if_neg (by omega),if_pos (by omega)]⟩ (by show J.length-(i+1)<J.length-i;omega) (Bs G) G (Ad 1 G Aa)
    ·
     refine AZ<|Am<|Ae<|U 3 G<|cD (i:=33) G (fun L'=>?_) (fun L'=>?_)
     ·
      refine U 3 G<|Ac<|B9 G (fun K6=>?_) (fun K6=>?_)
      · exact AF 3 G<|BA<|C9<|Cd<|Cd<|C9<|Cd<|IB () G G G G (by have e:=BB;rw[AJ]at e;simp only[HH]at e;(repeat (first|rw[if_pos (by omega)]at e|rw[if_neg (by omega)]at e));first|exact congrArg TF e.symm|(exfalso;omega)) G Aa
      · exact AZ<|Ae<|U 2 G<|C5 G G BV G<|U 3 G<|Ac<|rt<|C9<|Cd<|Cd<|C9<|Cd<|IB () G G G G (by have e:=BB;rw[AJ]at e;simp only[HH]at e;(repeat (first|rw[if_pos (by omega)]at e|rw[if_neg (by omega)]at e));first|exact congrArg TF e.symm|(exfalso;omega)) G Aa
     · exact G2 G G G G G<|G2 G G G G G<|U 1 G<|Ac<|LW G<|AZ<|Ae<|U 2 G<|C5 G G BV G<|U 1 G<|U 2 G<|Ac<|rt<|C9<|Cd<|Cd<|C9<|Cd<|IB () G G G G (by have e:=BB;rw[AJ]at e;simp only[HH]at e;(repeat (first|rw[if_pos (by omega)]at e|rw[if_neg (by omega)]at e));first|exact congrArg TF e.symm|(exfalso;omega)) G Aa
  ·
   refine G2 G G G G G<|G2 G G G G G<|U 1 G<|Ac<|LW G<|AZ<|Ae<|U 2 G<|hA G G (nf c) G<|F0 Tryz.underlying5 Tryz.underlying136 G (mB (by omega)) G<|An G G<|rD G G BV G<|gb G G (by omega) (lN _ (7*i) (gf Af (by omega)) (by omega)) G<|dF G G (rW Bo (gf Af (by omega)) (by omega)) G<|U 1 G<|Ac<|Am<|AF 2 G<|B9 G (fun OS=>?_) (fun OS=>?_)
   ·
    refine ex<|Ck<|D7<|A5<|rg<|C5 G G BV G<|An G G<|nl ?_;exact Dy (i+1,v+c.toNat % 128*2^(7*i)) ⟨by show i+1<=9;omega,by show i+1<=J.length;omega,gd Bo,by show HH 0 0 J=_;rw[BB,AJ];simp only[HH];rw[if_neg (by omega),if_pos (by omega)]⟩ (by show J.length-(i+1)<J.length-i;omega) (Bs G) G (Ad 1 G Aa)
   ·
    refine AZ<|Am<|Ae<|U 3 G<|cD (i:=33) G (fun L'=>?_) (fun L'=>?_)
    ·
     refine U 3 G<|Ac<|B9 G (fun K6=>?_) (fun K6=>?_)
     · exact AF 3 G<|BA<|C9<|Cd<|Cd<|C9<|Cd<|IB () G G G G (by have e:=BB;rw[AJ]at e;simp only[HH]at e;(repeat (first|rw[if_pos (by omega)]at e|rw[if_neg (by omega)]at e));first|exact congrArg TF e.symm|(exfalso;omega)) G Aa
     · exact AZ<|Ae<|U 2 G<|C5 G G BV G<|U 3 G<|Ac<|rt<|C9<|Cd<|Cd<|C9<|Cd<|IB () G G G G (by have e:=BB;rw[AJ]at e;simp only[HH]at e;(repeat (first|rw[if_pos (by omega)]at e|rw[if_neg (by omega)]at e));first|exact congrArg TF e.symm|(exfalso;omega)) G Aa
    · exact G2 G G G G G<|G2 G G G G G<|U 1 G<|Ac<|LW G<|AZ<|Ae<|U 2 G<|C5 G G BV G<|U 1 G<|U 2 G<|Ac<|rt<|C9<|Cd<|Cd<|C9<|Cd<|IB () G G G G (by have e:=BB;rw[AJ]at e;simp only[HH]at e;(repeat (first|rw[if_pos (by omega)]at e|rw[if_neg (by omega)]at e));first|exact congrArg TF e.symm|(exfalso;omega)) G Aa
 · exact ex<|Ck<|Ck<|D7<|A5<|AF 3 G<|rt<|IB () G G G G (by have e:=BB;rw[List.drop_eq_nil_of_le (by omega)]at e;exact congrArg TF e.symm) G Aa
theorem n8(Bk:Value)(J:List UInt8)(most:Int)(hm:A' most):Cv AG 308 [Bk,.int .i64 most] [⟨Bk,J⟩] (WI (L9 J most)):=by
 refine Aw.proof Tryz.func308 G 31 G G fun X w=>?_;have Aq:=YV J 0 0 (by decide) (by decide);have LB:=rL Bk J;rcases Fx:HH 0 0 J with⟨v,n,e⟩;rw[Fx]at LB Aq;have LB:Cv AG 318 [Bk] [⟨Bk,J⟩] (.tuple #[.int .u64 (v:Int),.int .i64 (n:Int),.int .i64 (e:Int)]):=LB;simp only at Aq;have Yt:=rr hm;refine AF 3 G<|Ae<|An G G<|B0 (LB) (Ar G) G (Ad 0 G Aa) G<|U 3 G<|U 4 G<|Ac<|Am<|Ae<|U 3 G<|cD (i:=18) G (fun ER=>?_) (fun ER=>?_)
 ·
  refine U 2 G<|Bl G G G<|ka G G G G<|Bl G G G<|F0 Tryz.underlying3 Tryz.underlying136 G (SI (by omega) (by omega)) G<|U 2 G<|Ac<|B9 G (fun F3=>?_) (fun F3=>?_)
  ·
   refine FA 1 G<|A5<|Am<|AF 2 G<|Fa G (fun JR=>?_) (fun JR=>?_)
   · exact AF 4 G<|BA<|IB () G G G G (by have q:=S7 (most:=most) Fx;(repeat (first|rw[if_pos (by omega)]at q|rw[if_neg (by omega)]at q));first|exact congrArg WI q.symm|(exfalso;omega)) G Aa
   · exact AZ<|Ae<|An G G<|F0 Tryz.underlying136 Tryz.underlying3 G (bq (by omega)) G<|U 4 G<|Ac<|rt<|IB () G G G G (by have q:=S7 (most:=most) Fx;(repeat (first|rw[if_pos (by omega)]at q|rw[if_neg (by omega)]at q));first|exact congrArg WI q.symm|(exfalso;omega)) G Aa
  ·
   refine AZ<|Am<|AF 2 G<|Fa G (fun JR=>?_) (fun JR=>?_)
   · exact AF 4 G<|BA<|IB () G G G G (by have q:=S7 (most:=most) Fx;(repeat (first|rw[if_pos (by omega)]at q|rw[if_neg (by omega)]at q));first|exact congrArg WI q.symm|(exfalso;omega)) G Aa
   · exact AZ<|Ae<|An G G<|F0 Tryz.underlying136 Tryz.underlying3 G (bq (by omega)) G<|U 4 G<|Ac<|rt<|IB () G G G G (by have q:=S7 (most:=most) Fx;(repeat (first|rw[if_pos (by omega)]at q|rw[if_neg (by omega)]at q));first|exact congrArg WI q.symm|(exfalso;omega)) G Aa
 ·
  refine G2 G G G G G<|G2 G G G G G<|G2 G G G G G<|G2 G G G G G<|G2 G G G G G<|U 1 G<|Ac<|LW G<|AZ<|Am<|AF 2 G<|Fa G (fun JR=>?_) (fun JR=>?_)
  · exact AF 4 G<|BA<|IB () G G G G (by have q:=S7 (most:=most) Fx;(repeat (first|rw[if_pos (by omega)]at q|rw[if_neg (by omega)]at q));first|exact congrArg WI q.symm|(exfalso;omega)) G Aa
  · exact AZ<|Ae<|An G G<|F0 Tryz.underlying136 Tryz.underlying3 G (bq (by omega)) G<|U 4 G<|Ac<|rt<|IB () G G G G (by have q:=S7 (most:=most) Fx;(repeat (first|rw[if_pos (by omega)]at q|rw[if_neg (by omega)]at q));first|exact congrArg WI q.symm|(exfalso;omega)) G Aa
theorem AeC(b:Nat)(Bk:Value)(J:List UInt8):Aw AG 317 [Bk,.pointer (some ⟨b,0,none⟩)] [AO b 136 [.int .u64 0]] [⟨Bk,J⟩] (fun(_:Unit) v=>v=Pb (HH 0 0 J).2.1 (HH 0 0 J).2.2) (fun _ _=>[AO b 136 [.int .u64 ((HH 0 0 J).1:Int)]]) (fun _ _=>[]):=by
 exact Aw.proof Tryz.func317 G 13 G G fun X w=>AF 2 G<|Ae<|An G G<|B0 (rL _ _) (Ar G) G (Ad 0 G Aa) G<|U 3 G<|U 1 G<|Fi 0 G G G (A2 G) G (Da G)<|U 2 G<|Ac<|AF 4 G<|rt<|Fl () G G G G G Aa
theorem ym(a b:Nat)(Bk:Value)(J:List UInt8)(most:Int)(hm:A' most):Aw AG 307 [Bk,.pointer (some ⟨a,0,none⟩),.pointer (some ⟨b,0,none⟩)] [AO b 3 [.int .i64 0],AO a 3 [.int .i64 most]] [⟨Bk,J⟩] (fun(_:Unit) v=>v=Pb (L9 J most).2.1 (L9 J most).2.2) (fun _ _=>[AO b 3 [.int .i64 ((L9 J most).1:Int)],AO a 3 [.int .i64 most]]) (fun _ _=>[]):=by
 exact Aw.proof Tryz.func307 G 15 G G fun X w=>AF 2 G<|Ae<|AX 2 [1] G G<|B0 (n8 _ _ _ hm) (Ar G) G (Ad 0 G Aa) G<|U 2 G<|U 2 G<|Fi 0 G G G (A2 G) G (Da G)<|U 2 G<|Ac<|AF 4 G<|rt<|Fl () G G G G G Aa
theorem dN(Bk:Value)(J:List UInt8)(hlen:J.length<=140737488355328):Aw AG 77 [Bk] [] [⟨Bk,J⟩] (fun(_:Unit) _=>True) (fun _ _=>[]) (fun _ v=>[⟨v,J⟩]):=by
 refine Aw.proof Tryz.func77 G 8 G G fun X w=>AF 1 G<|Am<|Ae<|An G G<|RT 0 Tryz.underlying29 G G G G fun PM J'=>Ac<|BN G (fun BB=>?_) (fun BB=>?_)
 ·
  have Ab:J=[]:=J' BB;subst Ab;exact DJ (α:=UInt8)<|AF 1 G<|BA<|Bq () G G trivial G (Ad 0 G Aa)
 · exact AZ<|Ae<|NB QP G fun E'=>Nm (α:=UInt8) [] [] G G (fun _ _ _=>trivial) G<|An G G<|ap 0 0 G G G G QP (by simpa using hlen) (by simpa using hlen) G fun EZ=>U 1 G<|Ac<|rt<|K5<|Bq () G G trivial G (Ad 0 G Aa)
theorem Akb(a b:Nat)(Bk:Value)(J:List UInt8)(most:Int)(hm:A' most)(pS:most<=1000000):Aw AG 309 [Bk,.pointer (some ⟨a,0,none⟩),.pointer (some ⟨b,0,none⟩)] [Pk b 29 ([]:List UInt8),AO a 3 [.int .i64 most]] [⟨Bk,J⟩] (fun(_:Unit) v=>v=Pb (N3 J most).2.1 (N3 J most).2.2) (fun _ _=>[Pk b 29 (N3 J most).1,AO a 3 [.int .i64 most]]) (fun _ _=>[]):=by
 refine Aw.proof Tryz.func309 G 38 G G fun X w=>?_;have Aq:=aa J most;have LB:=n8 Bk J most hm;rcases Fx:L9 J most with⟨v,n,e⟩;rw[Fx]at LB Aq;have LB:Cv AG 308 [Bk,.int .i64 most] [⟨Bk,J⟩] (.tuple #[.int .i64 (v:Int),.int .i64 (n:Int),.int .i64 (e:Int)]):=LB;simp only at Aq;have Yt:=rr hm;have LY:=l7 Fx;refine AF 2 G<|Ae<|AX 2 [1] G G<|B0 (LB) (Ar G) G (Ad 0 G Aa) G<|U 3 G<|U 4 G<|Ac<|Am<|AF 2 G<|Fa G (fun DA=>?_) (fun DA=>?_)
 ·
  refine AF 3 G<|BA ?_;rw[show N3 J most=([],0,e)from by rw[LY,if_pos (by omega)]];exact Fl () G G G G G Aa
 ·
  refine AZ<|Am<|Ae<|An G G<|C2 0 G G Tryz.underlying29 G fun U_=>An G G<|TU G G BV G<|U 2 G<|Ac<|B9 G (fun F3=>?_) (fun F3=>?_)
  ·
   refine AF 2 G<|BA ?_;rw[show N3 J most=([],0,20)from by rw[LY,if_neg (by omega),if_pos (by omega)]];exact Fl () G G G G G Aa
  ·
   refine AZ<|Ae<|U 4 G<|C5 G G BV G<|U 2 G<|C5 G G BV G<|lP 0 G G TZ G G G (by omega) (by omega) (by omega) (by omega) G fun ue=>Dm (dN _ _ (by first|assumption|(simp only[List.length_drop,List.length_take];omega))) (Ar G) G (Ad 0 G Aa) G fun Apn Xm FN=>rS 0 G fun u=>J2 0 1 G G G G (A2 G) (Da G)<|Ac<|Ae<|U 2 G<|C5 G G BV G<|U 2 G<|Ac<|rt ?_
   rw[show N3 J most=((J.drop n).take v,n+v,0)from by rw[LY,if_neg (by omega),if_neg (by omega)]];refine wQ ⟨Xm,(J.drop n).take v⟩ (fun S w h=>?_) (x3 0 0 G G (Fl () G G G G G Aa));have q:=h ⟨Xm,_⟩ (List.mem_of_getElem? (i:=1) rfl);rw[List.drop_take,show((n:Int)+(v:Int)).toNat-(n:Int).toNat=v from by omega]at q;exact q
theorem Akh(p f:Nat)(bv:Value)(J:List UInt8)(s:Bb)(D0:Array Value)(q EJ:C4)(n e:Nat)(CM:GU AG f)(Bw:s.fault=0)(AH:s.pos<=J.length)(Ao:n<=(J.drop s.pos).length)
  (E5:∀Bk,Aw AG f (Bk::D0.toList) [q] [⟨Bk,J.drop s.pos⟩] (fun(_:Unit) v=>v=Pb n e) (fun _ _=>[EJ]) (fun _ _=>[])):
  Aw AG 305 [.pointer (some ⟨p,0,none⟩),.func (.func f) #[] D0] [q,CG p bv s] [⟨bv,J⟩] (fun(_:Unit) v=>v=.bool (decide (e=0))) (fun _ _=>[EJ,CG p bv (s.step n e)]) (fun _ _=>[]):=by
 refine Aw.proof Tryz.func305 G 54 G G fun X w=>?_;rw[<-List.take_length (l:=J)]at E5;have jg:∀Bk,Aw AG f (Bk::D0.toList) [q] [⟨Bk,(J.take J.length).drop s.pos⟩] (fun(_:Unit) v=>v=Pb n e) (fun _ _=>[EJ]) (fun _ _=>[]):=fun Bk=>by have:=E5 Bk;simpa using this
 rw[List.length_drop]at Ao;refine HP (q:=J.length<=9223372036854775807) (fun S w h=>L1 (h _ (List.mem_cons_self ..))) fun hlen=>AF 1 G<|Am<|Ae<|An G G<|M3 Tryz.underlying278 G G G<|U 2 G<|AX 5 [1] G G<|Ac<|Fa G (fun Ft=>?_) (fun Ft=>?_)
 · exact absurd (by omega) Ft --#done
 ·
  refine AZ<|Am<|Vh (L:=[q,CG p bv s,CL X w]) [(4,.NQ 1),(8,.NQ 1),(12,.NQ 1),(17,.NQ 1)] [(13,⟨some (.int .i64 (J.length:Int)),fun _=>[],false⟩),(18,⟨some (.int .i64 (J.length:Int)),fun _=>[],false⟩),(19,⟨none,fun u=>[⟨u,(J.take J.length).drop s.pos⟩],false⟩),(20,⟨some (Pb n e),fun _=>[],true⟩)] [] [] [(20,fun L _=>NZ 2 (EJ) L)] (fun _=>G) (fun _=>by kernel_rfl) ?_ fun V _=>?_
  ·
   refine⟨fun V Az _=>(by(repeat (refine dt ?_ ?_;exact C2 0 G G Tryz.underlying29 G fun qW=>GH G G G G));trivial),fun V Az _=>(by(repeat (refine dt ?_ ?_;exact C2 0 G G Tryz.underlying29 G fun Adi=>GH G G G G));trivial),fun V Az _=>GK (lP 0 G G TZ G G G (by omega) (by omega) (by omega) (by omega) G fun SC=>nl (Ig G G G trivial (Ad 0 G Aa) (Bg.tail Br))),?_⟩
   refine⟨fun V Az _=>GK ?_,?_⟩
   ·
    refine hD (L0:=[q]) (Lr:=[CG p bv s,CL X w]) (jg _) CM G (by rfl) (by rfl) (by rfl) (Ad 0 G Aa) (by rfl) fun y v h=>?_;obtain rfl:v=Pb n e:=h;exact nl (Ig G G G G Aa (Bg.tail Br))
   trivial
  ·
   refine Vu [1] G<|A5<|Am<|AF 2 G<|Fa G (fun My=>?_) (fun My=>?_)
   ·
    refine Ae<|U 4 G<|Fi 1 G G G (A2 G) G (Da G)<|Ac<|AF 1 G<|BA ?_;have hs:s.step n e=⟨s.pos,e⟩:=(by unfold Bb.step;rw[if_neg (by omega),if_pos (by omega)]);rw[hs];exact Bq () G G (by rw[decide_eq_false (by omega)]) G Aa
   ·
    refine AZ<|Ae<|AX 5 [1] G G<|C5 G G BV G<|U 2 G<|Fi 1 G G G (A2 G) G (Da G)<|Ac<|AF 1 G<|rt ?_;obtain rfl:e=0:=(by omega);have hs:s.step n 0=⟨s.pos+n,s.fault⟩:=(by unfold Bb.step;rw[if_neg (by omega),if_neg (by omega)]);rw[hs];exact Bq () G G G G Aa
theorem Akj(p f:Nat)(bv:Value)(J:List UInt8)(s:Bb)(D0:Array Value)(Ey Ez TM TN:C4)(n e:Nat)(CM:GU AG f)(Bw:s.fault=0)(AH:s.pos<=J.length)(Ao:n<=(J.drop s.pos).length)
  (E5:∀Bk,Aw AG f (Bk::D0.toList) [Ey,Ez] [⟨Bk,J.drop s.pos⟩] (fun(_:Unit) v=>v=Pb n e) (fun _ _=>[TM,TN]) (fun _ _=>[])):
  Aw AG 305 [.pointer (some ⟨p,0,none⟩),.func (.func f) #[] D0] [Ey,Ez,CG p bv s] [⟨bv,J⟩] (fun(_:Unit) v=>v=.bool (decide (e=0))) (fun _ _=>[TM,TN,CG p bv (s.step n e)]) (fun _ _=>[]):=by
 refine Aw.proof Tryz.func305 G 54 G G fun X w=>?_;rw[<-List.take_length (l:=J)]at E5;have jg:∀Bk,Aw AG f (Bk::D0.toList) [Ey,Ez] [⟨Bk,(J.take J.length).drop s.pos⟩] (fun(_:Unit) v=>v=Pb n e) (fun _ _=>[TM,TN]) (fun _ _=>[]):=fun Bk=>by have:=E5 Bk;simpa using this
 rw[List.length_drop]at Ao;refine HP (q:=J.length<=9223372036854775807) (fun S w h=>L1 (h _ (List.mem_cons_self ..))) fun hlen=>AF 1 G<|Am<|Ae<|An G G<|M3 Tryz.underlying278 G G G<|U 2 G<|AX 5 [2] G G<|Ac<|Fa G (fun Ft=>?_) (fun Ft=>?_)
 · exact absurd (by omega) Ft --#done
 ·
  refine AZ<|Am<|Vh (L:=[Ey,Ez,CG p bv s,CL X w]) [(4,.NQ 2),(8,.NQ 2),(12,.NQ 2),(17,.NQ 2)] [(13,⟨some (.int .i64 (J.length:Int)),fun _=>[],false⟩),(18,⟨some (.int .i64 (J.length:Int)),fun _=>[],false⟩),(19,⟨none,fun u=>[⟨u,(J.take J.length).drop s.pos⟩],false⟩),(20,⟨some (Pb n e),fun _=>[],true⟩)] [] [] [(20,fun L _=>NZ 2 (TN) (NZ 3 (TM) L))] (fun _=>G) (fun _=>by kernel_rfl) ?_ fun V _=>?_
  ·
   refine⟨fun V Az _=>(by(repeat (refine dt ?_ ?_;exact C2 0 G G Tryz.underlying29 G fun qW=>GH G G G G));trivial),fun V Az _=>(by(repeat (refine dt ?_ ?_;exact C2 0 G G Tryz.underlying29 G fun Adi=>GH G G G G));trivial),fun V Az _=>GK (lP 0 G G TZ G G G (by omega) (by omega) (by omega) (by omega) G fun SC=>nl (Ig G G G trivial (Ad 0 G Aa) (Bg.tail Br))),?_⟩
   refine⟨fun V Az _=>GK ?_,?_⟩
   ·
    refine hD (L0:=[Ey,Ez]) (Lr:=[CG p bv s,CL X w]) (jg _) CM G (by rfl) (by rfl) (by rfl) (Ad 0 G Aa) (by rfl) fun y v h=>?_;obtain rfl:v=Pb n e:=h;exact nl (Ig G G G G Aa (Bg.tail Br))
   trivial
  ·
   refine Vu [1] G<|A5<|Am<|AF 2 G<|Fa G (fun My=>?_) (fun My=>?_)
   ·
    refine Ae<|U 4 G<|Fi 2 G G G (A2 G) G (Da G)<|Ac<|AF 1 G<|BA ?_;have hs:s.step n e=⟨s.pos,e⟩:=(by unfold Bb.step;rw[if_neg (by omega),if_pos (by omega)]);rw[hs];exact Bq () G G (by rw[decide_eq_false (by omega)]) G Aa
   ·
    refine AZ<|Ae<|AX 5 [2] G G<|C5 G G BV G<|U 2 G<|Fi 2 G G G (A2 G) G (Da G)<|Ac<|AF 1 G<|rt ?_;obtain rfl:e=0:=(by omega);have hs:s.step n 0=⟨s.pos+n,s.fault⟩:=(by unfold Bb.step;rw[if_neg (by omega),if_neg (by omega)]);rw[hs];exact Bq () G G G G Aa
theorem Akg(p f:Nat)(bv:Value)(J:List UInt8)(s:Bb)(D0:Array Value)(q:C4)(_ _:Nat)(Bw:s.fault≠0):
  Aw AG 305 [.pointer (some ⟨p,0,none⟩),.func (.func f) #[] D0] [q,CG p bv s] [⟨bv,J⟩] (fun(_:Unit) v=>v=.bool false) (fun _ _=>[q,CG p bv s]) (fun _ _=>[]):=by
 refine Aw.proof Tryz.func305 G 54 G G fun X w=>AF 1 G<|Am<|Ae<|An G G<|M3 Tryz.underlying278 G G G<|U 2 G<|AX 5 [1] G G<|Ac<|Fa G (fun Ft=>?_) (fun Ft=>?_)
 · exact AF 1 G<|BA<|Bq () G G G G Aa
 · exact absurd (by omega) Bw --#done
theorem tU(p f:Nat)(bv:Value)(J:List UInt8)(s:Bb)(D0:Array Value)(q EJ:C4)(n e:Nat)(CM:GU AG f)(AH:s.pos<=J.length)(Ao:n<=(J.drop s.pos).length)
  (E5:s.fault=0->∀Bk,Aw AG f (Bk::D0.toList) [q] [⟨Bk,J.drop s.pos⟩] (fun(_:Unit) v=>v=Pb n e) (fun _ _=>[EJ]) (fun _ _=>[]))
  (jf:s.fault≠0->[EJ]=[q]):
  Aw AG 305 [.pointer (some ⟨p,0,none⟩),.func (.func f) #[] D0] [q,CG p bv s] [⟨bv,J⟩] (fun(_:Unit) v=>v=.bool (decide (s.fault=0/\e=0))) (fun _ _=>[EJ,CG p bv (s.step n e)]) (fun _ _=>[]):=by
 by_cases Bw:s.fault=0
 ·
  have h:=Akh p f bv J s D0 q EJ n e CM Bw AH Ao (E5 Bw);simpa only[Bw,true_and]using h
 ·
  have h:=Akg p f bv J s D0 q n e Bw;have hs:s.step n e=s:=(by unfold Bb.step;rw[if_pos Bw]);have Aq:=jf Bw;simp only[List.cons.injEq,and_true]at Aq;rw[hs,decide_eq_false (fun hh=>Bw hh.1)];first|(obtain⟨B4,DC⟩:=Aq;rw[B4,DC];exact h)|(rw[Aq];exact h)
theorem Aki(p f:Nat)(bv:Value)(J:List UInt8)(s:Bb)(D0:Array Value)(Ey Ez:C4)(_ _:Nat)(Bw:s.fault≠0):
  Aw AG 305 [.pointer (some ⟨p,0,none⟩),.func (.func f) #[] D0] [Ey,Ez,CG p bv s] [⟨bv,J⟩] (fun(_:Unit) v=>v=.bool false) (fun _ _=>[Ey,Ez,CG p bv s]) (fun _ _=>[]):=by
 refine Aw.proof Tryz.func305 G 54 G G fun X w=>AF 1 G<|Am<|Ae<|An G G<|M3 Tryz.underlying278 G G G<|U 2 G<|AX 5 [2] G G<|Ac<|Fa G (fun Ft=>?_) (fun Ft=>?_)
 · exact AF 1 G<|BA<|Bq () G G G G Aa
 · exact absurd (by omega) Bw --#done
theorem tV(p f:Nat)(bv:Value)(J:List UInt8)(s:Bb)(D0:Array Value)(Ey Ez TM TN:C4)(n e:Nat)(CM:GU AG f)(AH:s.pos<=J.length)(Ao:n<=(J.drop s.pos).length)
  (E5:s.fault=0->∀Bk,Aw AG f (Bk::D0.toList) [Ey,Ez] [⟨Bk,J.drop s.pos⟩] (fun(_:Unit) v=>v=Pb n e) (fun _ _=>[TM,TN]) (fun _ _=>[]))
  (jf:s.fault≠0->[TM,TN]=[Ey,Ez]):
  Aw AG 305 [.pointer (some ⟨p,0,none⟩),.func (.func f) #[] D0] [Ey,Ez,CG p bv s] [⟨bv,J⟩] (fun(_:Unit) v=>v=.bool (decide (s.fault=0/\e=0))) (fun _ _=>[TM,TN,CG p bv (s.step n e)]) (fun _ _=>[]):=by
 by_cases Bw:s.fault=0
 ·
  have h:=Akj p f bv J s D0 Ey Ez TM TN n e CM Bw AH Ao (E5 Bw);simpa only[Bw,true_and]using h
 ·
  have h:=Aki p f bv J s D0 Ey Ez n e Bw;have hs:s.step n e=s:=(by unfold Bb.step;rw[if_pos Bw]);have Aq:=jf Bw;simp only[List.cons.injEq,and_true]at Aq;rw[hs,decide_eq_false (fun hh=>Bw hh.1)];first|(obtain⟨B4,DC⟩:=Aq;rw[B4,DC];exact h)|(rw[Aq];exact h)
theorem AeD(p:Nat)(bv:Value)(J:List UInt8)(s:Bb)(AH:s.pos<=J.length):Aw AG 304 [.pointer (some ⟨p,0,none⟩)] [CG p bv s] [⟨bv,J⟩] (fun(_:Unit) v=>v=.int .u64 ((rdNum J s).1:Int)) (fun _ _=>[CG p bv (rdNum J s).2]) (fun _ _=>[]):=by
 refine Aw.proof Tryz.func304 G 9 G G fun X w=>?_;have LB:=fun b Bk=>AeC b Bk (J.drop s.pos);have Aq:=YV (J.drop s.pos) 0 0 (by decide) (by decide);rcases Fx:HH 0 0 (J.drop s.pos)with⟨x,n,e⟩;rw[Fx]at Aq;simp only[Fx]at LB;simp only at Aq;have Bh:rdNum J s=(s.val 0 x e,s.step n e):=by simp only[rdNum,Lj,Fx]
 rw[Bh];refine AF 1 G<|Ae<|CT AlW G fun DQ=>Fi 0 G G G (A2 G) G (Da G)<|Ac<|Am<|Ae<|An G G<|Nd (xs:=[.tmp 3]) G G<|XY (L0:=[AO DQ 136 [.int .u64 0],CG p bv s]) (Lr:=[CL X w]) (tU p 317 bv J s #[.pointer (some ⟨DQ,0,none⟩)] _ (AO DQ 136 [.int .u64 ((s.val 0 x e:Nat):Int)]) n e (Ar G) AH (by omega) (fun h Bk=>?_) (fun h=>?_)) (Ar G) G (by rfl) (Ad 0 G Aa) (by rfl) fun y v h=>?_
 ·
  have q:=LB DQ Bk;have B4:s.val 0 x e=x:=(by unfold Bb.val;rw[if_neg (by omega)];split<;>omega);rw[B4];exact q
 ·
  have B4:s.val 0 x e=0:=(by unfold Bb.val;rw[if_pos h]);rw[B4];rfl
 obtain rfl:v=.bool (decide (s.fault=0/\e=0)):=h;refine IH G G<|Ac<|Fa G (fun GY=>?_) (fun GY=>?_)
 ·
  refine AF 1 G<|BA ?_;have B4:s.val 0 x e=0:=(by unfold Bb.val;split;rfl;split;rfl;omega);exact AQ<|Bq () G G (by rw[B4];rfl) G Aa
 · exact AZ<|I5 2 [0] G G<|rt<|AQ<|Bq () G G G G Aa
theorem X0(p:Nat)(bv:Value)(J:List UInt8)(s:Bb)(most:Int)(hm:A' most)(AH:s.pos<=J.length):Aw AG 285 [.pointer (some ⟨p,0,none⟩),.int .i64 most] [CG p bv s] [⟨bv,J⟩] (fun(_:Unit) v=>v=.int .i64 ((DT J most s).1:Int)) (fun _ _=>[CG p bv (DT J most s).2]) (fun _ _=>[]):=by
 refine Aw.proof Tryz.func285 G 11 G G fun X w=>?_;have LB:=fun a b Bk=>ym a b Bk (J.drop s.pos) most hm;have Aq:=aa (J.drop s.pos) most;rcases Fx:L9 (J.drop s.pos) most with⟨x,n,e⟩;rw[Fx]at Aq;simp only[Fx]at LB;simp only at Aq;have Bh:DT J most s=(s.val 0 x e,s.step n e):=by simp only[DT,Lj,Fx]
 rw[Bh];refine Ae<|CV G G G fun DQ=>U 1 G<|Ac<|Ae<|CT df G fun E'=>Fi 0 G G G (A2 G) G (Da G)<|Ac<|Am<|Ae<|An G G<|Nd (xs:=[.tmp 3,.tmp 5]) G G<|XY (L0:=[AO E' 3 [.int .i64 0],AO DQ 3 [.int .i64 most],CG p bv s]) (Lr:=[CL X w]) (tV p 307 bv J s #[.pointer (some ⟨DQ,0,none⟩),.pointer (some ⟨E',0,none⟩)] _ _ (AO E' 3 [.int .i64 ((s.val 0 x e:Nat):Int)]) (AO DQ 3 [.int .i64 most]) n e (Ar G) AH (by omega) (fun h Bk=>?_) (fun h=>?_)) (Ar G) G (by rfl) (Ad 0 G Aa) (by rfl) fun y v h=>?_
 ·
  have q:=LB DQ E' Bk;have B4:s.val 0 x e=x:=(by unfold Bb.val;rw[if_neg (by omega)];split;exact(by simp[Aq.2.2, *]);rfl);rw[B4];exact q
 ·
  have B4:s.val 0 x e=0:=(by unfold Bb.val;rw[if_pos h]);rw[B4];try rfl
 obtain rfl:v=.bool (decide (s.fault=0/\e=0)):=h;refine IH G G<|Ac<|Fa G (fun EO=>?_) (fun EO=>?_)
 ·
  refine AF 1 G<|BA ?_;have B4:s.val 0 x e=0:=(by unfold Bb.val;split;rfl;split;rfl;omega);refine AQ (AQ ?_);exact Bq () G G (by rw[B4];rfl) G Aa
 ·
  refine AZ<|I5 2 [0] G G<|rt<|AQ (AQ ?_);exact Bq () G G G G Aa
theorem Ake(p:Nat)(bv:Value)(J:List UInt8)(s:Bb)(most:Int)(hm:A' most)(pS:most<=1000000)(AH:s.pos<=J.length):Aw AG 290 [.pointer (some ⟨p,0,none⟩),.int .i64 most] [CG p bv s] [⟨bv,J⟩] (fun(_:Unit) _=>True) (fun _ _=>[CG p bv (Gm J most s).2]) (fun _ v=>[⟨v,(Gm J most s).1⟩]):=by
 refine Aw.proof Tryz.func290 G 10 G G fun X w=>?_;have LB:=fun a b Bk=>Akb a b Bk (J.drop s.pos) most hm pS;have Aq:=l6 (J.drop s.pos) most;rcases Fx:N3 (J.drop s.pos) most with⟨x,n,e⟩;rw[Fx]at Aq;simp only[Fx]at LB;simp only at Aq;have Bh:Gm J most s=(s.val [] x e,s.step n e):=by simp only[Gm,Lj,Fx]
 rw[Bh];have Aq:True/\n<=(J.drop s.pos).length/\(e≠0->x=[]/\n=0):=⟨trivial,Aq.1,Aq.2.1⟩;refine Ae<|CV G G G fun DQ=>U 1 G<|Ac<|Ae<|CT dg G fun E'=>Ac<|Ae<|An G G<|oA (α:=UInt8)<|x2 (α:=List UInt8) 0 0 G G<|Nd (xs:=[.tmp 3,.tmp 5]) G G<|XY (L0:=[Pk E' 29 ([]:List UInt8),AO DQ 3 [.int .i64 most],CG p bv s]) (Lr:=[CL X w]) (tV p 309 bv J s #[.pointer (some ⟨DQ,0,none⟩),.pointer (some ⟨E',0,none⟩)] _ _ (Pk E' 29 (s.val [] x e:List UInt8)) (AO DQ 3 [.int .i64 most]) n e (Ar G) AH (by omega) (fun h Bk=>?_) (fun h=>?_)) (Ar G) G (by rfl) (Ad 1 G Aa) (by rfl) fun y v h=>?_
 ·
  have q:=LB DQ E' Bk;have B4:s.val [] x e=x:=(by unfold Bb.val;rw[if_neg (by omega)];split;exact(by simp[Aq.2.2, *]);rfl);rw[B4];exact q
 ·
  have B4:s.val [] x e=[]:=(by unfold Bb.val;rw[if_pos h]);rw[B4];try rfl
 obtain rfl:v=.bool (decide (s.fault=0/\e=0)):=h;refine Ac<|Ae<|rS 0 G fun uc=>AX 2 [0] G G<|Ac<|rt<|AQ (AQ ?_);exact Bq () G G trivial G (Ad 0 G Aa)
theorem AcM(p:Nat)(bv:Value)(J:List UInt8)(s DR:Bb)(x:Int)(AH:s.pos<=J.length)(Ab:D6 J s=(x,DR)):Aw AG 282 [.pointer (some ⟨p,0,none⟩)] [CG p bv s] [⟨bv,J⟩] (fun(_:Unit) v=>v=.int .i64 x) (fun _ _=>[CG p bv DR]) (fun _ _=>[]):=by
 refine Aw.proof Tryz.func282 G 16 G G fun X w=>?_;obtain⟨rfl,rfl⟩:x=Ul (rdNum J s).1/\DR=(rdNum J s).2:=by simp only[D6,Prod.mk.injEq]at Ab;exact⟨Ab.1.symm,Ab.2.symm⟩
 have AN:=sM J s;refine AF 1 G<|Ae<|An G G<|Ch 0 (AeD _ _ _ _ AH) (Ar G) G G (Ad 0 G Aa) G fun Ls Mp C'=>?_;have C':Mp=.int .u64 ((rdNum J s).1:Int):=C';subst C';refine U 1 G<|Ac<|Am<|Ae<|An G G<|hA G G (and_1 AN) G<|U 1 G<|Ac<|B9 G (fun D2=>?_) (fun D2=>?_)
 · exact Ae<|An G G<|Vl G G (by omega) (th _) G<|F0 Tryz.underlying136 Tryz.underlying3 G (bq (by omega)) G<|n_ G (n' BV) G<|U 1 G<|Ac<|BA<|Bq () G G (by unfold Ul;rw[if_pos (by omega)]) G Aa
 · exact AZ<|Ae<|An G G<|Vl G G (by omega) (th _) G<|F0 Tryz.underlying136 Tryz.underlying3 G (bq (by omega)) G<|U 1 G<|Ac<|rt<|Bq () G G (by unfold Ul;rw[if_neg (by omega)]) G Aa
theorem zE(p:Nat)(bv:Value)(_:List UInt8)(s:Bb):Aw AG 303 [.pointer (some ⟨p,0,none⟩)] [CG p bv s] [] (fun(_:Unit) v=>v=.tuple #[.int .i64 (s.fault:Int),.int .i64 ((if s.fault=0 then 0 else s.pos:Nat):Int)]) (fun _ _=>[CG p bv s]) (fun _ _=>[]):=by
 refine Aw.proof Tryz.func303 G 19 G G fun X w=>AF 2 G<|Am<|Ae<|An G G<|M3 Tryz.underlying278 G G G<|Ac<|LW G<|AZ<|Am<|I5 5 [0] G G<|B9 G (fun Dq=>?_) (fun Dq=>?_)
 ·
  refine AF 2 G<|BA ?_;have e:s.fault=0:=(by omega);rw[if_pos e];exact Fl () G G G (by rw[e];rfl) G Aa
 ·
  refine AZ<|Am<|Gx mixed (by kernel_rfl)<|AX 10 [0,0] G G<|Gj<|A5<|rt ?_;rw[if_neg (by omega)];exact Fl () G G G G G Aa
theorem Aes(Bk:Value)(J:List UInt8)(hlen:J.length<=140737488355328):Aw AG 221 [Bk] [] [⟨Bk,J⟩] (fun(y:Nat×Value) v=>v=.pointer (some ⟨y.1,0,none⟩)) (fun y _=>[CG y.1 y.2 ⟨0,0⟩]) (fun y _=>[⟨y.2,J⟩]):=by
 refine Aw.proof Tryz.func221 G 7 G G fun X w=>AF 1 G<|Ae<|An G G<|Dm (dN _ _ (by first|assumption|(simp only[List.length_drop,List.length_take];omega))) (Ar G) G (Ad 0 G Aa) G fun IN v4 BB=>w9 0 G ?_
 rintro⟨A,Dc,rfl⟩;exact Db (ps:=[(0,.tmp 4)]) (cs:=[.slice A J.length Dc,.int .i64 0,.int .i64 0]) (by rfl) (by kernel_rfl) G<|CV G G G fun Hg=>U 1 G<|Ac<|rt<|Bq (Hg,.slice A J.length Dc) G G G G (Ad 0 G Aa)
theorem zQ(b:Nat)(Bk:Value)(J:List UInt8):Aw AG 306 [Bk,.pointer (some ⟨b,0,none⟩)] [AO b 4 [.bool false]] [⟨Bk,J⟩] (fun(_:Unit) v=>v=Pb (NG J).2.1 (NG J).2.2) (fun _ _=>[AO b 4 [.bool (NG J).1]]) (fun _ _=>[]):=by
 refine Aw.proof Tryz.func306 G 16 G G fun X w=>AF 2 G<|Am<|Ae<|An G G<|C2 0 G G Tryz.underlying29 G fun qY=>U 1 G<|Ac<|B9 G (fun GY=>?_) (fun GY=>?_)
 ·
  have Ab:J=[]:=List.eq_nil_of_length_eq_zero (by omega);subst Ab;exact AF 2 G<|BA<|Fl () G G G G G Aa
 ·
  obtain⟨c,r,rfl⟩:∃c r,J=c::r:=by
   cases J with
   |nil=>exact absurd rfl GY
   |cons c r=>exact⟨c,r,rfl⟩
  refine AZ<|Am<|Ae<|An G G<|Qh 0 G G G TZ (by omega) (show(c::r)[0]? =some c from G) G fun Nr=>CQ 0 G G (A2 G) G fun cW=>U 1 G<|Ac<|B9 G (fun Ct=>?_) (fun Ct=>?_)
  ·
   have JU:NG (c::r)=(false,0,21):=(by simp only[NG];rw[if_pos (by omega)]);rw[JU];exact AF 2 G<|BA<|Fl () G G G G G Aa
  ·
   have JU:NG (c::r)=(decide ((c.toNat:Int)=1),1,0):=by
    simp only[NG];rw[if_neg (by omega)];congr 1;rw[Bool.eq_iff_iff];simp only[decide_eq_true_eq];rw[<-UInt8.toNat_inj];show c.toNat=1↔_;omega
   rw[JU];exact AZ<|Ae<|An G G<|Qh 1 G G G TZ (by omega) (show(c::r)[0]? =some c from G) G fun RA=>CQ 0 G G (A2 G) G fun SE=>U 1 G<|Fi 0 G G G (A2 G) G (Da G)<|Ac<|AF 2 G<|rt<|Fl () G G G G G Aa
theorem zS(p:Nat)(bv:Value)(J:List UInt8)(s:Bb)(AH:s.pos<=J.length):Aw AG 283 [.pointer (some ⟨p,0,none⟩)] [CG p bv s] [⟨bv,J⟩] (fun(_:Unit) v=>v=.bool (Kw J s).1) (fun _ _=>[CG p bv (Kw J s).2]) (fun _ _=>[]):=by
 refine Aw.proof Tryz.func283 G 8 G G fun X w=>?_;have LB:=fun b Bk=>zQ b Bk (J.drop s.pos);have Aq:=oY (J.drop s.pos);rcases Fx:NG (J.drop s.pos)with⟨x,n,e⟩;rw[Fx]at Aq;simp only[Fx]at LB;simp only at Aq;have Bh:Kw J s=(s.val false x e,s.step n e):=by simp only[Kw,Lj,Fx]
 rw[Bh];have Aq:True/\n<=(J.drop s.pos).length/\(e≠0->x=false/\n=0):=⟨trivial,Aq⟩;refine AF 1 G<|Ae<|CT AlX G fun DQ=>Fi 0 G G G (A2 G) G (Da G)<|Ac<|Ae<|An G G<|Nd (xs:=[.tmp 3]) G G<|XY (L0:=[AO DQ 4 [.bool false],CG p bv s]) (Lr:=[CL X w]) (tU p 306 bv J s #[.pointer (some ⟨DQ,0,none⟩)] _ (AO DQ 4 [.bool (s.val false x e:Bool)]) n e (Ar G) AH (by omega) (fun h Bk=>?_) (fun h=>?_)) (Ar G) G (by rfl) (Ad 0 G Aa) (by rfl) fun y v h=>?_
 ·
  have q:=LB DQ Bk;have B4:s.val false x e=x:=(by unfold Bb.val;rw[if_neg (by omega)];split;exact(by simp[Aq.2.2, *]);rfl);rw[B4];exact q
 ·
  have B4:s.val false x e=false:=(by unfold Bb.val;rw[if_pos h]);rw[B4];try rfl
 obtain rfl:v=.bool (decide (s.fault=0/\e=0)):=h;exact Ac<|I5 2 [0] G G<|rt<|AQ<|Bq () G G G G Aa
theorem y3(p:Nat)(bv:Value)(J:List UInt8)(s:Bb):Aw AG 222 [.pointer (some ⟨p,0,none⟩)] [CG p bv s] [⟨bv,J⟩] (fun(_:Unit) v=>v=.int .i64 (Q0 J s)) (fun _ _=>[CG p bv s]) (fun _ _=>[]):=by
 refine Aw.proof Tryz.func222 G 26 G G fun X w=>AF 1 G<|Am<|Ae<|An G G<|M3 Tryz.underlying278 G G G<|Ac<|LW G<|AZ<|Am<|Am<|Gx mixed (by kernel_rfl)<|AX 6 [0] G G<|cD (i:=10) G (fun Dq=>?_) (fun Dq=>?_)
 ·
  refine AX 7 [0] G G<|AX 1 [0] G G<|Bl G G G<|C2 0 G G Tryz.underlying29 G fun U9=>U 2 G<|Gj<|A5<|B9 G (fun E1=>?_) (fun E1=>?_)
  · exact AF 1 G<|BA<|Bq () G G (by unfold Q0;first|rw[if_pos (by omega)]|rw[if_neg (by omega)]) G Aa
  · exact AZ<|I5 5 [0] G G<|rt<|Bq () G G (by unfold Q0;first|rw[if_pos (by omega)]|rw[if_neg (by omega)]) G Aa
 · exact G2 G G G G G<|G2 G G G G G<|G2 G G G G G<|G2 G G G G G<|G2 G G G G G<|G2 G G G G G<|G2 G G G G G<|G2 G G G G G<|G2 G G G G G<|G2 G G G G G<|U 1 G<|Gj<|A5<|LW G<|AZ<|I5 5 [0] G G<|rt<|Bq () G G (by unfold Q0;first|rw[if_pos (by omega)]|rw[if_neg (by omega)]) G Aa
end Go.Proofs.YtalfaopffbkdnaaGreat.MW
namespace Go.Proofs.YtalfaopffbkdnaaGreat.XM
section
variable(By bv Bk:Value) (p:Nat) (J:List UInt8) (B3 s:Bb) (b T:Nat) (cells:List Value) (offs:List Nat) (o:Nat)
theorem Oz:Aw AG 279 [By] [CG p bv s] [⟨By,(⟨⟨p⟩⟩:Cq Gb)⟩] (fun(_:Unit) v=>v=.bool (Ml s)) (fun _ _=>[CG p bv s]) (fun _ _=>[]):=by
 refine Aw.proof Tryz.func279 G 31 G G fun X w=>AF 1 G<|Am<|Ae<|An G G<|Co 0 G G G<|CJ 0 Ku G G (BR G) G fun EZ=>CQ 0 G G (A2 G) G fun gE=>M3 Tryz.underlying278 G G G<|Ac<|LW G<|AZ<|Ae<|An G G<|Co 1 G G G<|CJ 1 Ku G G (BR G) G fun T6=>CQ 0 G G (A2 G) G fun cX=>Ch 0 (MW.zE p bv [] s) (Ar G) G G Aa G fun _ KC Fe=>?_;subst Fe;refine U 5 G<|Ac<|Ae<|U 3 G ?_;refine DE 24 6 [] G G (fun F3 VE=>by
  have Af4:=F3;simp only[Bool.not_eq_false',decide_eq_true_eq]at Af4;exact U 1 G<|Bl G G G<|Co 2 G G G<|Bl G G G<|CJ 2 sn G G (BR G) G fun N4=>Bl G G G<|CQ 0 G G (A2 G) G fun Uc=>U 2 G<|VE G (Bg.tail Br)) ?_
 exact U 1 G<|Ac<|rt<|Bq () G G G G Aa
theorem qs(AH:B3.pos<=J.length)(Cu:gQ cells offs)(Ao:offs.Nodup):Aw AG 223 [By,Bk] [AO b T cells,CG p bv B3] [⟨By,(⟨⟨p⟩⟩:Cq Gb)⟩,⟨bv,J⟩,⟨Bk,NW b offs⟩] (fun(_:Unit) _=>True) (fun _ _=>[AO b T (CO J offs (cells,B3)).1,CG p bv (CO J offs (cells,B3)).2]) (fun _ _=>[]):=by
 refine Aw.proof Tryz.func223 G 35 G G fun X w=>Ae<|An G G<|C2 2 G G Tryz.underlying259 G fun MD=>An G G<|Ac<|B5<|Hx (σ:=Nat×List Value×Bb) [(0,_),(6,_),(7,_)] _ (fun i C=>(8,.int .i64 (i.1:Int))::C) (fun i=>[AO b T i.2.1,CG p bv i.2.2,CL X w]) (fun _ Dw=>Dw) (fun i=>i.1<=offs.length/\i.2.2.pos<=J.length/\gQ i.2.1 (offs.drop i.1)/\(offs.drop i.1).Nodup/\CO J (offs.drop i.1) i.2=CO J offs (cells,B3)) (fun i=>offs.length-i.1) (0,cells,B3) (Bs G) (Ad 0 G (Ad 1 G (Ad 2 G Aa))) ⟨Nat.zero_le _,AH,Cu,Ao,G⟩ (Bs G) G (Ad 0 G (Ad 1 G (Ad 2 G Aa))) ?_;rintro⟨i,c,s⟩ ⟨Ag,hs,Bm,AJ,he⟩;simp only at Ag hs Bm AJ he;refine AF 1 G<|Am<|B9 G (fun EO=>?_) (fun EO=>?_)
 ·
  have Jf:i<offs.length:=(by rw[Y4]at EO;omega);rw[drop_cons Jf]at Bm AJ he;have A7:=Rj (Bm _ (List.mem_cons_self ..));refine AZ<|Am<|B5<|Ae<|Qh 2 G G G lQ (by omega) (sr Jf) G fun v10=>CQ 0 G G (A2 G) G fun SD=>U 1 G<|Ac<|B5<|Ae<|An G G<|Ch 1 (Oz By bv p s) (Ar G) G G (Ad 1 G Aa) G fun _ SB E1=>?_;have E1:SB=.bool (Ml s):=E1;subst E1;refine U 1 G<|Ac<|BN G (fun Fe=>?_) (fun Fe=>?_)
  ·
   refine EG<|CU<|CU<|A5<|rg<|C5 G G BV G<|An G G<|nl ?_;exact Dy ((i+1,c,s):Nat×List Value×Bb) ⟨by omega,hs,fun x Ab=>Bm x (List.mem_cons_of_mem _ Ab),(List.nodup_cons.1 AJ).2,(AcN ((N2 s).1 Fe) (Bm _ (List.mem_cons_self ..))).symm.trans he⟩ (by show _-_<_-_;omega) (Bs G) G (BE [1,2,3] G)
  ·
   have BI:=(Xf s).1 (by simpa using Fe);refine Ae<|An G G<|Co 1 G G G<|CJ 1 Ku G G (BR G) G fun T7=>CQ 0 G G (A2 G) G fun mv=>M3 Tryz.underlying278 G G G<|U 1 G<|Ac<|LW G<|rg<|U 2 G<|Co 2 G G G<|CJ 2 Ku G G (BR G) G fun Xk=>CQ 0 G G (A2 G) G fun PV=>Ch 1 (MW.AcM p bv J s (D6 J s).2 (D6 J s).1 hs G) (Ar G) G G (Ad 4 G Aa) G fun _ T6 DA=>?_;have DA:T6=.int .i64 (D6 J s).1:=DA;subst DA;refine Va G G<|Fi 0 G G G (A2 G) G A7<|nl<|CU<|CU<|A5<|rg<|C5 G G BV G<|An G G<|nl ?_;exact Dy ((i+1,c.set (offs.getD i 0) (.int .i64 (D6 J s).1),(D6 J s).2):Nat×List Value×Bb) ⟨by omega,Hb hs,vu (α:=Nat) AJ (fun x Ab=>Bm x (List.mem_cons_of_mem _ Ab)),(List.nodup_cons.1 AJ).2,he⟩ (by show _-_<_-_;omega) (Bs G) G (BE [3,4,5] G)
 ·
  have Jf:i=offs.length:=(by rw[Y4]at EO;omega);subst Jf;rw[List.drop_length]at he;have he:(c,s)=CO J offs (cells,B3):=he;rw[<-he];exact ex<|Ck<|Ck<|D7<|Dz () G trivial G Aa
theorem zo(AH:s.pos<=J.length)(Cu:cells[o]? =some (.int .i64 0)):Aw AG 288 [By,.pointer (some ⟨b,o,none⟩)] [AO b T cells,CG p bv s] [⟨By,(⟨⟨p⟩⟩:Cq Gb)⟩,⟨bv,J⟩] (fun(_:Unit) _=>True) (fun _ _=>[AO b T (cells.set o (.int .i64 (D6 J s).1)),CG p bv (D6 J s).2]) (fun _ _=>[]):=by
 refine Aw.proof Tryz.func288 G 14 G G fun X w=>?_;have A7:=Rj Cu;exact Ae<|U 2 G<|ME 0 G G (A2 G) Cu G<|CT df G fun En=>Fi 0 G G G (A2 G) G (by decide)<|Ac<|Ae<|An G G<|BH (xs:=[.tmp 4]) (us:=[.pointer (some ⟨En,0,none⟩)]) (E:=171) (bytes:=8) (n:=1) G (by exact HB) G G G G G G fun H7=>Q5 (NW En [0]) ([0].map fun o=>[.pointer (some ⟨En,o,none⟩)]) G (fun S w h=>Y5 S w _) (Nat.le_of_ble_eq_true G)<|D9 2 G<|D9 1 G<|Hs 2 (qs By bv _ p J s En 3 [.int .i64 0] [0] AH (by intro o A7;simp only[List.mem_cons,List.not_mem_nil,or_false]at A7;subst A7;rfl) (by decide)) (Ar G) G G (BE [1,2,0] G) G fun _ v10 Dq=>Ac<|rg<|An G G<|ME 0 G G (A2 G) (show _=some (.int .i64 (D6 J s).1)from G) G<|Va G G<|Fi 2 G G G (A2 G) G A7<|nl<|AQ<|Au 1 G<|Dz () G trivial G Aa
theorem zR(AH:s.pos<=J.length)(Cu:cells[o]? =some (.bool false)):Aw AG 224 [By,.pointer (some ⟨b,o,none⟩)] [AO b T cells,CG p bv s] [⟨By,(⟨⟨p⟩⟩:Cq Gb)⟩,⟨bv,J⟩] (fun(_:Unit) _=>True) (fun _ _=>[AO b T (cells.set o (.bool (Kw J s).1)),CG p bv (Kw J s).2]) (fun _ _=>[]):=by
 refine Aw.proof Tryz.func224 G 37 G G fun X w=>?_;have A7:=Rj Cu;refine B5<|Ae<|An G G<|Ch 1 (Oz By bv p s) (Ar G) G G (Ad 0 G Aa) G fun _ RA Dp=>?_;have Dp:RA=.bool (Ml s):=Dp;subst Dp;refine U 1 G<|Ac<|BN G (fun Ct=>?_) (fun Ct=>?_)
 ·
  have BI:=(N2 s).1 Ct;exact EG<|CU<|Dz () G trivial (by rw[Ah6 BI,Ah5 BI,TW Cu];rfl) Aa
 ·
  refine Ae<|An G G<|Co 0 G G G<|CJ 0 Ku G G (BR G) G fun T6=>CQ 0 G G (A2 G) G fun cX=>M3 Tryz.underlying278 G G G<|An G G<|G2 G G G G G<|G2 G G G G G<|G2 G G G G G<|U 2 G<|Ac<|LW G<|Ae<|An G G<|Co 1 G G G<|CJ 1 Ku G G (BR G) G fun L5=>CQ 0 G G (A2 G) G fun AkS=>M3 Tryz.underlying278 G G G<|U 1 G<|Ac<|LW G<|rg<|U 2 G<|Co 2 G G G<|CJ 2 Ku G G (BR G) G fun EZ=>CQ 0 G G (A2 G) G fun gE=>Ch 1 (MW.zS p bv J s AH) (Ar G) G G (Ad 4 G Aa) G fun _ Nr EO=>?_;have EO:Nr=.bool (Kw J s).1:=EO;subst EO;exact Va G G<|Fi 0 G G G (A2 G) G A7<|nl<|CU<|Dz () G trivial G Aa
theorem nM(u:Value)(AH:s.pos<=J.length)(hu:cells[o]? =some u):Aw AG 237 [By,.pointer (some ⟨b,o,none⟩)] [AO b T cells,CG p bv s] [⟨By,(⟨⟨p⟩⟩:Cq Gb)⟩,⟨bv,J⟩,⟨u,([]:List UInt8)⟩] (fun(_:Value) _=>True) (fun y _=>[AO b T (cells.set o y),CG p bv (Gm J 65535 s).2]) (fun y _=>[⟨y,(Gm J 65535 s).1⟩]):=by
 refine Aw.proof Tryz.func237 G 35 G G fun X w=>?_;have A7:=Rj hu;refine B5<|Ae<|An G G<|Ch 1 (Oz By bv p s) (Ar G) G G (Ad 0 G Aa) G fun _ gz EM=>?_;have EM:gz=.bool (Ml s):=EM;subst EM;refine U 1 G<|Ac<|BN G (fun Dq=>?_) (fun Dq=>?_)
 ·
  have BI:=(N2 s).1 Dq;exact EG<|CU<|Dz u G trivial (by rw[Aif BI,TW hu];rfl) (by rw[Aig BI];exact(Bg.cons 2 rfl Bg.nil))
 ·
  refine Ae<|An G G<|Co 0 G G G<|CJ 0 Ku G G (BR G) G fun Mn=>CQ 0 G G (A2 G) G fun mr=>rG Tryz.underlying278 G G G<|U 1 G<|Ac<|Mv G<|rg<|U 2 G<|Co 1 G G G<|CJ 1 Ku G G (BR G) G fun RB=>CQ 0 G G (A2 G) G fun cY=>Ch 1 (MW.Ake p bv J s 65535 BV (by omega) AH) (Ar G) G G (Ad 3 G Aa) G fun _ Xl _=>?_;exact Va G G<|J2 0 0 G G G G (A2 G) A7<|nl<|CU<|Dz Xl G trivial G (Ad 0 G Aa)
theorem Akd(AH:B3.pos<=J.length)(Cu:gR cells offs)(Ao:offs.Nodup):Aw AG 225 [By,Bk] [AO b T cells,CG p bv B3] [⟨By,(⟨⟨p⟩⟩:Cq Gb)⟩,⟨bv,J⟩,⟨Bk,NW b offs⟩] (fun(_:Unit) _=>True) (fun _ _=>[AO b T (Ea J offs (cells,B3)).1,CG p bv (Ea J offs (cells,B3)).2]) (fun _ _=>[]):=by
 refine Aw.proof Tryz.func225 G 44 G G fun X w=>Ae<|An G G<|C2 2 G G Tryz.underlying339 G fun Adl=>An G G<|Ac<|B5<|Hx (σ:=Nat×List Value×Bb) [(0,_),(7,_),(8,_)] _ (fun i C=>(9,.int .i64 (i.1:Int))::C) (fun i=>[AO b T i.2.1,CG p bv i.2.2,CL X w]) (fun _ Dw=>Dw) (fun i=>i.1<=offs.length/\i.2.2.pos<=J.length/\gR i.2.1 (offs.drop i.1)/\(offs.drop i.1).Nodup/\Ea J (offs.drop i.1) i.2=Ea J offs (cells,B3)) (fun i=>offs.length-i.1) (0,cells,B3) (Bs G) (Ad 0 G (Ad 1 G (Ad 2 G Aa))) ⟨Nat.zero_le _,AH,Cu,Ao,G⟩ (Bs G) G (Ad 0 G (Ad 1 G (Ad 2 G Aa))) ?_;rintro⟨i,c,s⟩ ⟨Ag,hs,Bm,AJ,he⟩;simp only at Ag hs Bm AJ he;refine AF 1 G<|Am<|B9 G (fun Dq=>?_) (fun Dq=>?_)
 ·
  have Jf:i<offs.length:=(by rw[Y4]at Dq;omega);rw[drop_cons Jf]at Bm AJ he;have A7:=Rj (Bm _ (List.mem_cons_self ..));refine AZ<|Am<|B5<|Ae<|Qh 2 G G G lR (by omega) (sr Jf) G fun v11=>CQ 0 G G (A2 G) G fun Xr=>U 1 G<|Ac<|Am<|Ae<|An G G<|Co 1 G G G<|CJ 1 Ku G G (BR G) G fun Xk=>CQ 0 G G (A2 G) G fun PV=>M3 Tryz.underlying278 G G G<|An G G<|G2 G G G G G<|G2 G G G G G<|G2 G G G G G<|G2 G G G G G<|G2 G G G G G<|U 1 G<|Ac<|LW G<|AZ<|Ae<|U 2 G<|ME 0 G G (A2 G) (Bm _ (List.mem_cons_self ..)) G<|oa Tryz.underlying9 Tryz.underlying29 Tryz.underlying5 G (by decide) G fun L5=>CT dg G fun Hg=>J2 0 0 G G G G (A2 G) (Da G)<|Ac<|Ae<|An G G<|D9 2 G<|D9 1 G<|Hs 2 (nM By bv p J s Hg 29 [L5] 0 L5 hs G) (Ar G) G G (BE [3,4,0] G) G fun y ue L'=>?_;refine Ac<|Ae<|An G G<|Co 4 G G G<|CJ 4 Ku G G (BR G) G fun SC=>CQ 0 G G (A2 G) G fun AkU=>rG Tryz.underlying278 G G G<|Ac<|Mv G<|rg<|An G G<|ME 0 G G (A2 G) (show _=some y from G) G<|xU 1 Tryz.underlying29 Tryz.underlying5 Tryz.underlying9 G G G<|Va G G<|Fi 2 G G G (A2 G) G A7<|nl<|CU<|A5<|rg<|C5 G G BV G<|An G G<|nl<|AQ<|Au 1 G ?_;exact Dy ((i+1,c.set (offs.getD i 0) (.string ⟨(Gm J 65535 s).1.toArray⟩),(Gm J 65535 s).2):Nat×List Value×Bb) ⟨by omega,Vf hs,vu (α:=Nat) AJ (fun x Ab=>Bm x (List.mem_cons_of_mem _ Ab)),(List.nodup_cons.1 AJ).2,he⟩ (by show _-_<_-_;omega) (Bs G) G (BE [5,6,7] G)
 ·
  have Jf:i=offs.length:=(by rw[Y4]at Dq;omega);subst Jf;rw[List.drop_length]at he;have he:(c,s)=Ea J offs (cells,B3):=he;rw[<-he];exact ex<|Ck<|Ck<|D7<|Dz () G trivial G Aa
end
end Go.Proofs.YtalfaopffbkdnaaGreat.XM
