/- Part 12 of shardLine_holds. -/
import Derived.Test.YtalfaopffbkdnaaGreatSjm11

set_option maxRecDepth 20000
set_option maxHeartbeats 1000000
open Go.A_ Go.Proofs Go.Proofs.YtalfaopffbkdnaaGreat
namespace Go.Apw
theorem tx(s:Bv)(El EV D_ EA Em Eh:Value)(J8:s.wf):Cv AG 25 [.agg (BY s El EV D_ EA Em Eh).toArray] [⟨El,s.Aj⟩,⟨EV,s.Bz⟩,⟨D_,s.AA⟩,⟨EA,s.Bj⟩,⟨Em,s.CX⟩,⟨Eh,s.Cf⟩] (.bool (LN s)):=by
 refine Aw.proof Tryz.func25 G 133 G G fun X w=>Ae<|CV G G G fun CY=>U 1 G<|Ac<|Am<|Ae<|AX 2 [0] G G<|B0 (Zh _ J8.1) (Ar G) G Aa G<|U 2 G ?_;refine DE 11 14 [1] G G (fun Ct ZI=>by
  exact AX 7 [0,0,0] G G<|AX 3 [0,0] G G<|Bl G G G<|BH (xs:=[.tmp 13,.tmp 15,.tmp 17,.tmp 19,.tmp 21]) (us:=[.int .i64 s.DX,.int .i64 s.Dn,.int .i64 s.Jc,.int .i64 s.JL,.int .i64 s.GW]) (E:=3) (bytes:=8) (n:=5) G (by exact RL) G G G G G G fun Amb=>Q5 (α:=Int) [s.DX,s.Dn,s.Jc,s.JL,s.GW] [[.int .i64 s.DX],[.int .i64 s.Dn],[.int .i64 s.Jc],[.int .i64 s.JL],[.int .i64 s.GW]] G (fun S w h=>⟨⟨G,J8.2.1⟩,⟨G,J8.2.2.2.2.2.1⟩,⟨G,J8.2.2.2.2.2.2.2.2.2.2.2.2.2.2.1⟩,⟨G,J8.2.2.2.2.2.2.2.2.2.2.2.2.2.2.2.1⟩,⟨G,J8.2.2.2.2.2.2.2.2.2.2.2.2.2.2.2.2⟩,trivial⟩) (Nat.le_of_ble_eq_true G)<|Bl G G G<|B0 (yn _ _) (Ar G) G (Ad 0 G Aa) G<|U 2 G<|ZI G (Bg.tail Br)) ?_
 refine An G G<|DE 26 4 [1] G G (fun JR VE=>Bl G G G<|BJ 0 (BY s El EV D_ EA Em Eh) G G (At G) G G<|Bl G G G<|B0 (AfW _ _ _ _ _ _ _ J8) (Ar G) G (BE [0,1,2,3,4,5] G) G<|U 2 G<|VE G Br)<|An G G<|DE 31 4 [1] G G (fun ES g1=>Bl G G G<|BJ 0 (BY s El EV D_ EA Em Eh) G G (At G) G G<|Bl G G G<|B0 (Ai6 _ _ _ _ _ _ _ J8) (Ar G) G (BE [0,1,2,3,4,5] G) G<|U 2 G<|g1 G Br)<|Ac<|BN G (fun Lz=>?_) (fun Lz=>?_)
 ·
  have S8:(Zj s)=true:=Lz;exact AF 1 G<|BA<|AQ<|Bq () G G (by rw[LN,if_pos S8]) G Aa
 ·
  have S8:(Zj s)=false:=Lz;refine AZ<|Am<|Ae<|AX 2 [0] G G<|B0 (Xd _ _) (Ar G) G (Ad 1 G Aa) G<|U 2 G ?_;refine DE 40 5 [1] G G (fun K7 ZN=>by
   have Af7:=K7;simp only[Bool.not_eq_false',decide_eq_true_eq]at Af7;exact AX 2 [0] G G<|Bl G G G<|B0 (dS _ _) (Ar G) G (Ad 3 G Aa) G<|U 2 G<|ZN G Br) ?_
  refine An G G<|DE 46 5 [1] G G (fun US ZO=>AX 2 [0] G G<|Bl G G G<|B0 (X2 _ _) (Ar G) G (Ad 4 G Aa) G<|U 2 G<|ZO G Br)<|An G G<|DE 52 5 [1] G G (fun iK g5=>AX 2 [0] G G<|Bl G G G<|C2 2 G G Tryz.underlying24 G fun AnW=>U 2 G<|g5 G Br)<|Ac<|BN G (fun ev=>?_) (fun ev=>?_)
  ·
   have X6:(Zk s)=true:=ev;exact AF 1 G<|BA<|AQ<|Bq () G G (by rw[LN,if_neg (by rw[S8];decide),if_pos X6]) G Aa
  ·
   have X6:(Zk s)=false:=ev;refine AZ<|Am<|Ae<|AX 2 [0] G G<|C2 2 G G Tryz.underlying24 G fun Adk=>An G G<|Ac<|B5<|Ji (σ:=Nat) [(1,_),(59,_),(60,_)] _ (fun i C=>(61,.int .i64 (i:Int))::C) (fun i=>i<=s.AA.length/\(∀j,j<i->Mr s (s.AA.getD j default)=true)) (fun i=>s.AA.length-i) 0 (Bs G) (Ad 0 G (Ad 1 G (Ad 2 G (Ad 3 G (Ad 4 G (Ad 5 G Aa)))))) ⟨Nat.zero_le _,fun j Ay=>absurd Ay (Nat.not_lt_zero j)⟩ (Bs G) ?_;rintro i ⟨Ag,C0⟩;refine AF 1 G<|Am<|B9 G (fun Th=>?_) (fun Th=>?_)
   ·
    refine AZ<|Am<|B5<|Ae<|Fo 2 G G G N0 G fun AoO=>Gi 0 G G (At G) G fun Aor uz=>CT SM G fun En=>BZ 0 (us:=(Hh ((s.AA.getD i default)))) G G G (At G) G G<|Ac<|Ae<|BJ 1 (BY s El EV D_ EA Em Eh) G G (At G) G G<|BJ 0 (Hh ((s.AA.getD i default))) G G (At G) G G<|B0 (Ak8 _ _ _ _ _ _ _ _ J8 uz) (Ar G) G (BE [2,3,4,5,6,7] G) G<|IH G G<|Ac<|BN G (fun R5=>?_) (fun R5=>?_)
    · exact AF 1 G<|rt<|C9<|Cd<|Cd<|C9<|Cd<|AQ<|AQ<|Bq () G G (by rw[LN,if_neg (by rw[S8];decide),if_neg (by rw[X6];decide),if_neg (by rw[gm,Ur i (by omega) (by simpa using R5)];decide)]) G Aa
    ·
     refine EG<|CU<|A5<|rg<|C5 G G BV G<|An G G<|nl<|AQ ?_;exact Dy (i+1) ⟨(by omega),(Ki C0 (by simpa using R5))⟩ (by omega) (Bs G) G (BE [2,3,4,5,6,7] G)
   ·
    have h0:gm s=true:=Us (fun j Ay=>C0 j (by omega));refine ex<|Ck<|Ck<|D7<|A5<|Am<|Ae<|U 1 G<|BJ 0 (ED s.Bt) G G (At G) G G<|Db (ps:=[]) (cs:=(ED (Gs))) (by rfl) (by kernel_rfl) G<|Qo RV (s.Bt) (Gs) G G G<|An G G ?_;refine D4 74 29 [1] G G (fun ew vI=>by
     have Aga:=ew;simp only[Bool.not_eq_true',decide_eq_false_iff_not]at Aga;refine U 1 G<|Bl G G G<|BJ 0 (ED s.Bt) G G (At G) G G<|Bl G G G<|B0 (fC _ J8.2.2.2.2.2.2.2.2.2.2.2.1) (Ar G) G Aa G<|U 2 G ?_;refine DE 79 7 [1,74] G G (fun AmX g_=>by
      exact AX 7 [0,0] G G<|g_ G Br) ?_
     refine U 1 G ?_;refine DE 87 7 [1,74] G G (fun AmY g'=>by
      exact AX 7 [0,0] G G<|g' G Br) ?_
     refine U 1 G ?_;refine DE 95 7 [1,74] G G (fun Yg vH=>by
      exact Bl G G G<|BJ 0 (BY s El EV D_ EA Em Eh) G G (At G) G G<|AX 3 [0] G G<|Bl G G G<|B0 (kJ _ _ _ _ _ _ _ _ J8) (Ar G) G (BE [0,1,2,3,4,5] G) G<|U 2 G<|vH G Br) ?_
     exact U 1 G<|vI G Br) ?_
    refine Ac<|BN G (fun iA=>?_) (fun iA=>?_)
    ·
     have dY:(Xe s)=true:=iA;exact AF 1 G<|BA<|AQ<|Bq () G G (by rw[LN,if_neg (by rw[S8];decide),if_neg (by rw[X6];decide),if_pos h0,dY];first|(rw[dZ];try rfl)|(try rfl)) G Aa
    ·
     have dY:(Xe s)=false:=iA;refine AZ<|Am<|Ae<|U 1 G<|BJ 0 (ED s.CW) G G (At G) G G<|Db (ps:=[]) (cs:=(ED (Gs))) (by rfl) (by kernel_rfl) G<|RU RV (s.CW) (Gs) G G G<|Ac<|B9 G (fun iC=>?_) (fun iC=>?_)
     ·
      have dZ:(decide (s.CW=⟨0,0,0,ByteArray.empty,ByteArray.empty,0,0⟩))=true:=(decide_eq_true iC);exact Ae<|AX 2 [0] G G<|C2 5 G G Tryz.underlying29 G fun Adf=>U 2 G<|Ac<|BA<|AQ<|Bq () G G (by rw[LN,if_neg (by rw[S8];decide),if_neg (by rw[X6];decide),if_pos h0,dY];first|(rw[dZ];try rfl)|(try rfl)) G Aa
     ·
      have dZ:(decide (s.CW=⟨0,0,0,ByteArray.empty,ByteArray.empty,0,0⟩))=false:=(decide_eq_false iC);refine AZ<|Ae<|AX 2 [0] G G<|Dm (ln _ _) (Ar G) G (Ad 5 G Aa) G fun AlF AkB Wf=>?_;obtain⟨uZ,u0,u1,u2,u3,u4⟩:=AlF;replace Wf:AkB=.tuple #[.agg (BY (Er _).1 uZ u0 u1 u2 u3 u4).toArray,.int .i64 (Er _).2]:=Wf;subst Wf;refine U 3 G<|CT LQ G fun E'=>Cp 0 G fun Ae5=>?_;refine Cp 1 G fun Ae6=>?_;refine Cp 2 G fun Ae7=>?_;refine Cp 3 G fun Ae8=>?_;refine Cp 4 G fun Ae9=>?_;refine Cp 5 G fun Ae_=>?_;exact BZ 0 (us:=(BY ((Er s.Cf).1) uZ u0 u1 u2 u3 u4)) G G G (At G) (by simp only[List.all_cons,List.all_nil,Bool.and_true,Ae5,Ae6,Ae7,Ae8,Ae9,Ae_];rfl) G<|U 1 G<|Ac<|Ae<|U 1 G<|BJ 1 (ED s.CW) G G (At G) G G<|B0 (fC _ J8.2.2.2.2.2.2.2.2.2.2.2.2.1) (Ar G) G Aa G<|An G G<|Fu 121 7 [1,1] [6] G G G<|An G G<|Fu 129 3 [] [] G G G<|U 1 G<|Ac<|rt<|AQ<|AQ<|Bq () G G (by rw[LN,if_neg (by rw[S8];decide),if_neg (by rw[X6];decide),if_pos h0,dY];first|(rw[dZ];try rfl)|(try rfl)) G Aa
theorem AjA(s:Bv)(El EV D_ EA Em Eh:Value)(J8:s.wf):Cv AG 10 [.agg (BY s El EV D_ EA Em Eh).toArray] [⟨El,s.Aj⟩,⟨EV,s.Bz⟩,⟨D_,s.AA⟩,⟨EA,s.Bj⟩,⟨Em,s.CX⟩,⟨Eh,s.Cf⟩] (.int .i64 (IA (LN s))):=by
 refine Aw.proof Tryz.func10 G 6 G G fun X w=>Ae<|CV G G G fun CY=>U 1 G<|Ac<|Am<|Ae<|BJ 0 (BY s El EV D_ EA Em Eh) G G (At G) G G<|B0 (tx _ _ _ _ _ _ _ J8) (Ar G) G (BE [0,1,2,3,4,5] G) G<|IH G G<|Ac<|BN G (fun C'=>?_) (fun C'=>?_)
 · exact AF 1 G<|BA<|AQ<|Bq () G G (by rw[IA,if_neg (by have q:=C';rw[Bool.not_eq_true']at q;rw[q];decide)]) G Aa
 · exact AZ<|AF 1 G<|rt<|AQ<|Bq () G G (by rw[IA,if_pos (by have q:=C';rw[Bool.not_eq_false']at q;exact q)]) G Aa
theorem AHJ:Oc AG 138 2:=⟨⟨_,Tryz.underlying138,rfl⟩,by kernel_rfl⟩
theorem AuZ:E3 AG 138 [.int .i64 0,.int .u64 0]:=E3.mk (by kernel_rfl)
theorem AvV(S:Int)(n:Int)(BO:mW S)(MB:A' n):Cv AG 132 [.agg (AuI (wide S)).toArray,.int .i64 n] [] (.agg (AuI (wide (S+n))).toArray):=by
 refine Aw.proof Tryz.func132 G 28 G G fun X w=>?_;obtain⟨Yk,Yl⟩:=id MB;obtain⟨AmZ,Awo⟩:=id BO;refine Ae<|CV G G G fun Dh=>CT AuZ G fun En=>Ac<|Ae<|AX 3 [1] G G<|F0 Tryz.underlying3 Tryz.underlying136 G (OE _) G ?_;have AyR:=fun w=>m_ (P:=Tryz.prog) (S % 18446744073709551616) (n % 18446744073709551616) 0 (by omega) (by omega) (by omega) (by omega) w;refine hL oN AyR G G<|U 5 G<|Ac<|Ae<|AX 3 [1] G G<|F0 Tryz.underlying136 Tryz.underlying2 G (Uf BV) G<|C5 G G (show A' (S / 18446744073709551616+((S % 18446744073709551616+n % 18446744073709551616+0) / 18446744073709551616))from BV) G<|U 1 G<|Ac<|Am<|AF 2 G<|B9 G (fun JQ=>?_) (fun JQ=>?_)
 · exact rg<|An G G<|TU G G (show A' (S / 18446744073709551616+((S % 18446744073709551616+n % 18446744073709551616+0) / 18446744073709551616)-1)from BV) G<|U 1 G<|Ac<|Ae<|U 2 G<|Db (ps:=[(0,.tmp 25),(1,.tmp 26)]) (cs:=(AuI ((⟨(S / 18446744073709551616+((S % 18446744073709551616+n % 18446744073709551616+0) / 18446744073709551616)-1),((S % 18446744073709551616+n % 18446744073709551616+0) % 18446744073709551616)⟩:wm)))) (by rfl) (by kernel_rfl) G<|BZ 0 (us:=(AuI ((⟨(S / 18446744073709551616+((S % 18446744073709551616+n % 18446744073709551616+0) / 18446744073709551616)-1),((S % 18446744073709551616+n % 18446744073709551616+0) % 18446744073709551616)⟩:wm)))) G G G (At G) G G<|Ac<|rt<|D8 () [_,_] (Qv 0 G G G (At G)) (by exact AwG (AAn JQ MB)) G Aa
 · exact AZ<|Ae<|U 2 G<|Db (ps:=[(0,.tmp 25),(1,.tmp 26)]) (cs:=(AuI ((⟨(S / 18446744073709551616+((S % 18446744073709551616+n % 18446744073709551616+0) / 18446744073709551616)),((S % 18446744073709551616+n % 18446744073709551616+0) % 18446744073709551616)⟩:wm)))) (by rfl) (by kernel_rfl) G<|BZ 0 (us:=(AuI ((⟨(S / 18446744073709551616+((S % 18446744073709551616+n % 18446744073709551616+0) / 18446744073709551616)),((S % 18446744073709551616+n % 18446744073709551616+0) % 18446744073709551616)⟩:wm)))) G G G (At G) G G<|Ac<|rt<|D8 () [_,_] (Qv 0 G G G (At G)) (by exact AwG (AAo JQ MB)) G Aa
theorem Awr(S:Int)(n:Int)(BO:gV S)(MB:A' n):Cv AG 58 [.agg (AuI (wide S)).toArray,.int .i64 n] [] (.agg (AuI (wide (S-n))).toArray):=by
 refine Aw.proof Tryz.func58 G 10 G G fun X w=>?_;obtain⟨Yk,Yl⟩:=id MB;obtain⟨AmZ,Awo⟩:=id BO;exact Ae<|CV G G G fun Dh=>CT AuZ G fun En=>Ac<|Ae<|BJ 1 (AuI ((wide S))) G G (At G) G G<|An G G<|n_ G (Ayb MB) G<|B0 (AvV S (-n-1) BO.w BV) (Ar G) G Aa G<|B0 (AvV (S+(-n-1)) 1 (by unfold mW;omega) BV) (Ar G) G Aa G<|BZ 0 (us:=(AuI ((wide (S+(-n-1)+1))))) G G G (At G) G G<|Ac<|rt<|D8 () [_,_] (Qv 0 G G G (At G)) (by exact AwG (congrArg wide (by omega))) G Aa
theorem AAp(S:Int)(BO:mW S):Cv AG 133 [.agg (AuI (wide S)).toArray] [] (.tuple #[.int .i64 (IntKind.i64.wrap (S % 18446744073709551616)),.bool (J3 S)]):=by
 refine Aw.proof Tryz.func133 G 25 G G fun X w=>?_;obtain⟨AmZ,Awo⟩:=id BO;refine Ae<|CV G G G fun CY=>U 2 G<|Ac<|Am<|Gx mixed (by kernel_rfl)<|AX 2 [0] G G<|F0 Tryz.underlying136 Tryz.underlying3 G G G<|AX 2 [0] G G<|U 2 G<|Fu 10 4 [0] [1,6] G G G<|An G G ?_;refine DE 15 9 [6] G G (fun Ft gY=>by
  exact AX 4 [0] G G<|Fu 19 4 [0] [6,15] G G G<|U 1 G<|gY G Br) ?_
 exact U 2 G<|Gj<|A5<|rt<|AQ<|Fl () G G G (by exact congrArg (fun b=>Value.tuple #[.int .i64 (IntKind.i64.wrap (S % 18446744073709551616)),.bool b]) (M9 BO)) G Aa
theorem Axt(CP:Value)(l:List Int)(AN:l.length<=1000):Cv AG 57 [CP] [⟨CP,l⟩] (.agg (AuI (wide l.sum)).toArray):=by
 refine Aw.proof Tryz.func57 G 19 G G fun X w=>HP (q:=nb l) (fun S w h=>AcO (h _ (List.mem_cons_self ..))) fun Cl=>?_;have Ew:=Az_ Cl AN;refine Ae<|CT AuZ G fun Dh=>Ac<|Ae<|Db (ps:=[]) (cs:=AuI (wide 0)) (by rfl) (by kernel_rfl) G<|CT AuZ G fun DQ=>BZ 0 (us:=(AuI ((wide 0)))) G G G (At G) G G<|Ac<|Am<|AF 1 G<|B5<|Hx (σ:=Nat) [(0,_),(2,_),(3,_)] _ (fun i C=>(4,.int .i64 (i:Int))::C) (fun i=>[AO DQ 138 (AuI (wide (l.take i).sum)),AO Dh 138 Au9,CL X w]) (fun _ Dw=>Dw) (fun i=>i<=l.length) (fun i=>l.length-i) 0 (Bs G) (Ad 0 G Aa) (Nat.zero_le _) (Bs G) G (Ad 0 G Aa) ?_;intro i Ag;refine Am<|Ae<|U 2 G<|C2 0 G G Tryz.underlying60 G fun Adl=>U 1 G<|Ac<|B9 G (fun EO=>?_) (fun EO=>?_)
 ·
  have Aq:=Ew i Ag;have Ab:=Aau Cl (i:=i) (by omega);refine AZ<|Am<|B5<|Ow 6 mixed (by kernel_rfl)<|BJ 0 (AuI ((wide (l.take i).sum))) G G (At G) G G<|U 2 G<|Fo 0 G G G tp G fun Xk=>CQ 0 G G (A2 G) G fun PV=>HD (AvV (l.take i).sum (l.getD i default) (by unfold mW;omega) Ab) (Ar G) G Aa G<|Oq<|BZ 0 (us:=(AuI ((wide ((l.take i).sum+l.getD i default))))) G G G (At G) G G<|nl<|CU<|A5<|rg<|An G G<|C5 G G BV G<|U 1 G<|nl ?_;exact Dy (i+1) (by omega) (by omega) (Bs G) (by rw[AjZ (l:=l) (i:=i) (by omega)];rfl) (Ad 1 G Aa)
 · exact ex<|Ck<|Ck<|D7<|A5<|Ae<|BJ 0 (AuI ((wide (l.take i).sum))) G G (At G) G G<|BZ 1 (us:=(AuI ((wide (l.take i).sum)))) G G G (At G) G G<|Ac<|rt<|D8 () [_,_] (Qv 1 G G G (At G)) (by have e:i=l.length:=(by omega);rw[e,List.take_length]) G Aa
theorem AIn:QD AG 33 4 4:=QD.mk Tryz.underlying33 rfl (by kernel_rfl) rfl
theorem AIo:QD AG 33 5 5:=QD.mk Tryz.underlying33 rfl (by kernel_rfl) rfl
theorem AGR(o:FL)(Tl:o.wf):Cv AG 131 [.agg (MZ o).toArray] [] (.bool (AG6 o)):=by
 refine Aw.proof Tryz.func131 G 50 G G fun X w=>Ae<|CV G G G fun CY=>U 1 G<|Ac<|Am<|Ae<|AX 4 [0] G G<|ET 6 4 [0] [1] G G G<|An G G<|DE 11 5 [1] G G (fun Ct ZG=>AX 2 [0] G G<|Bl G G G<|B0 (Avz _) (Ar G) G Aa G<|U 2 G<|ZG G Br)<|Ac<|BN G (fun CR=>?_) (fun CR=>?_)
 ·
  have V4:(AHG o)=true:=CR;exact AF 1 G<|BA<|AQ<|Bq () G G (by rw[AG6,V4];try rfl) G Aa
 ·
  have V4:(AHG o)=false:=CR;refine AZ<|Am<|Ae<|AX 4 [0] G G<|ET 20 4 [0] [1] G G G<|An G G<|ET 25 4 [0] [1] G G G<|An G G<|Fu 30 4 [0] [1] G G G<|Ac<|BN G (fun FN=>?_) (fun FN=>?_)
  ·
   have an:(AHH o)=true:=FN;exact AF 1 G<|BA<|AQ<|Bq () G G (by rw[AG6,V4,an];try rfl) G Aa
  ·
   have an:(AHH o)=false:=FN;refine AZ<|Ae<|AX 4 [0] G G ?_;refine DE 38 11 [] G G (fun NK AxK=>by
    have Aoc:=NK;simp only[Bool.not_eq_true',Bool.not_eq_false',decide_eq_true_eq,decide_eq_false_iff_not]at Aoc;exact AX 2 [0] G G<|Bl G G G<|B0 (Avz _) (Ar G) G Aa G<|U 1 G<|Fu 42 6 [0,0] [38] G G G<|U 1 G<|AxK G Br) ?_
   exact U 1 G<|Ac<|rt<|AQ<|Bq () G G (by rw[AG6,V4,an];try rfl) G Aa
theorem Axs(v:Value)(n:Int):Cv AG 57 [v] [⟨v,[n]⟩] (.agg (AuI (wide n)).toArray):=by
 have:=Axt v [n] (by simp)
 rwa [show[n].sum=n by simp]at this
theorem AAr(v:Value)(m n:Int):Cv AG 57 [v] [⟨v,[m,n]⟩] (.agg (AuI (wide (m+n))).toArray):=by
 have:=Axt v [m,n] (by simp)
 rwa [show[m,n].sum=m+n by simp]at this
theorem AJW(o:FL)(Tl:o.wf):Cv AG 56 [.agg (MZ o).toArray] [] (.tuple #[.agg (MZ (AGH o)).toArray,.bool (AG6 (AGJ o))]):=by
 refine Aw.proof Tryz.func56 G 41 G G fun X w=>?_;obtain⟨AbZ,Wx,AKF,AKG,AKH,AKI⟩:=id Tl;refine Ae<|CV G G G fun CY=>CT vt G fun Dh=>U 1 G<|Ac<|Ae<|AX 4 [1,1] G G<|Db (ps:=[(0,.tmp 6),(1,.tmp 8)]) (cs:=(MZ ((⟨o.Ca,o.Al,ByteArray.empty,0,0,0⟩:FL)))) (by rfl) (by kernel_rfl) G<|CT vt G fun En=>BZ 0 (us:=(MZ ((⟨o.Ca,o.Al,ByteArray.empty,0,0,0⟩:FL)))) G G G (At G) G G<|Ac<|Am<|I5 2 [2] G G<|B5<|Am<|AF 2 G<|B9 G (fun EM=>?_) (fun EM=>?_)
 ·
  refine AZ<|B9 G (fun EM=>?_) (fun EM=>?_)
  · exact rg<|AX 3 [2] G G<|Fi 0 G G G (A2 G) G (Da G)<|nl<|CU<|A5<|Am<|AAq [(1,_),(2,_),(4,_)] _ (Bs G) Br<|AzQ [(0,.NQ 0),(1,.NQ 2),(2,.F0 [] ⟨_,_,_,_,AGR _ Tl,(Ar G)⟩),(3,.st 1)] G (by kernel_rfl)<|A5<|rt<|D8 () [_,_,_] (Fp 1 G G G G (At G)) (by first|(exfalso;omega)|(unfold AGH AGJ;(repeat' split)<;>first|rfl|(exfalso;omega))) G Aa
  ·
   refine AF 2 G<|B9 G (fun ER=>?_) (fun ER=>?_)
   · exact AzQ [(1,.NQ 2),(3,.NQ 2),(5,.st 0),(7,.st 0)] G (by kernel_rfl)<|CU<|A5<|Am<|AzQ [(0,.NQ 0),(1,.NQ 2),(2,.F0 [] ⟨_,_,_,_,AGR _ Tl,(Ar G)⟩),(3,.st 1)] G (by kernel_rfl)<|A5<|rt<|D8 () [_,_,_] (Fp 1 G G G G (At G)) (by first|(exfalso;omega)|(unfold AGH AGJ;(repeat' split)<;>first|rfl|(exfalso;omega))) G Aa
   ·
    refine AF 2 G<|B9 G (fun JR=>?_) (fun JR=>?_)
    · exact AzQ [(1,.NQ 2),(3,.NQ 2),(5,.st 0),(7,.st 0)] G (by kernel_rfl)<|CU<|A5<|Am<|AzQ [(0,.NQ 0),(1,.NQ 2),(2,.F0 [] ⟨_,_,_,_,AGR _ Tl,(Ar G)⟩),(3,.st 1)] G (by kernel_rfl)<|A5<|rt<|D8 () [_,_,_] (Fp 1 G G G G (At G)) (by first|(exfalso;omega)|(unfold AGH AGJ;(repeat' split)<;>first|rfl|(exfalso;omega))) G Aa
    ·
     refine Am<|AF 2 G<|B9 G (fun FN=>?_) (fun FN=>?_)
     ·
      refine AZ<|B9 G (fun FN=>?_) (fun FN=>?_)
      · exact rg<|U 1 G<|Fi 2 G G G (A2 G) G (Da G)<|nl<|CU<|A5<|Am<|AAq [(1,_),(2,_),(4,_)] _ (Bs G) Br<|AzQ [(0,.NQ 0),(1,.NQ 2),(2,.F0 [] ⟨_,_,_,_,AGR ((⟨4,o.Al,o.EL,o.B2,o.A6,o.Bc⟩:FL)) (⟨(show A' 4 from⟨by decide,by decide⟩),(by first|assumption|decide|omega),(by first|assumption|decide|omega),Tl.2.2.2.1,Tl.2.2.2.2.1,Tl.2.2.2.2.2⟩),(Ar G)⟩),(3,.st 1)] G (by kernel_rfl)<|A5<|rt<|D8 () [_,_,_] (Fp 1 G G G G (At G)) (by first|(exfalso;omega)|(unfold AGH AGJ;(repeat' split)<;>first|rfl|(exfalso;omega))) G Aa
      · exact EG<|CU<|A5<|Am<|AAq [(1,_),(2,_),(4,_)] _ (Bs G) Br<|AzQ [(0,.NQ 0),(1,.NQ 2),(2,.F0 [] ⟨_,_,_,_,AGR _ Tl,(Ar G)⟩),(3,.st 1)] G (by kernel_rfl)<|A5<|rt<|D8 () [_,_,_] (Fp 1 G G G G (At G)) (by first|(exfalso;omega)|(unfold AGH AGJ;(repeat' split)<;>first|rfl|(exfalso;omega))) G Aa
     ·
      refine FA 2 G<|A5<|B9 G (fun FN=>?_) (fun FN=>?_)
      · exact rg<|U 1 G<|Fi 2 G G G (A2 G) G (Da G)<|nl<|CU<|A5<|Am<|AAq [(1,_),(2,_),(4,_)] _ (Bs G) Br<|AzQ [(0,.NQ 0),(1,.NQ 2),(2,.F0 [] ⟨_,_,_,_,AGR ((⟨4,o.Al,o.EL,o.B2,o.A6,o.Bc⟩:FL)) (⟨(show A' 4 from⟨by decide,by decide⟩),(by first|assumption|decide|omega),(by first|assumption|decide|omega),Tl.2.2.2.1,Tl.2.2.2.2.1,Tl.2.2.2.2.2⟩),(Ar G)⟩),(3,.st 1)] G (by kernel_rfl)<|A5<|rt<|D8 () [_,_,_] (Fp 1 G G G G (At G)) (by first|(exfalso;omega)|(unfold AGH AGJ;(repeat' split)<;>first|rfl|(exfalso;omega))) G Aa
      · exact EG<|CU<|A5<|Am<|AAq [(1,_),(2,_),(4,_)] _ (Bs G) Br<|AzQ [(0,.NQ 0),(1,.NQ 2),(2,.F0 [] ⟨_,_,_,_,AGR _ Tl,(Ar G)⟩),(3,.st 1)] G (by kernel_rfl)<|A5<|rt<|D8 () [_,_,_] (Fp 1 G G G G (At G)) (by first|(exfalso;omega)|(unfold AGH AGJ;(repeat' split)<;>first|rfl|(exfalso;omega))) G Aa
 ·
  refine FA 2 G<|A5<|B9 G (fun EM=>?_) (fun EM=>?_)
  · exact rg<|AX 3 [2] G G<|Fi 0 G G G (A2 G) G (Da G)<|nl<|CU<|A5<|Am<|AAq [(1,_),(2,_),(4,_)] _ (Bs G) Br<|AzQ [(0,.NQ 0),(1,.NQ 2),(2,.F0 [] ⟨_,_,_,_,AGR _ Tl,(Ar G)⟩),(3,.st 1)] G (by kernel_rfl)<|A5<|rt<|D8 () [_,_,_] (Fp 1 G G G G (At G)) (by first|(exfalso;omega)|(unfold AGH AGJ;(repeat' split)<;>first|rfl|(exfalso;omega))) G Aa
  ·
   refine AF 2 G<|B9 G (fun ER=>?_) (fun ER=>?_)
   · exact AzQ [(1,.NQ 2),(3,.NQ 2),(5,.st 0),(7,.st 0)] G (by kernel_rfl)<|CU<|A5<|Am<|AzQ [(0,.NQ 0),(1,.NQ 2),(2,.F0 [] ⟨_,_,_,_,AGR _ Tl,(Ar G)⟩),(3,.st 1)] G (by kernel_rfl)<|A5<|rt<|D8 () [_,_,_] (Fp 1 G G G G (At G)) (by first|(exfalso;omega)|(unfold AGH AGJ;(repeat' split)<;>first|rfl|(exfalso;omega))) G Aa
   ·
    refine AF 2 G<|B9 G (fun JR=>?_) (fun JR=>?_)
    · exact AzQ [(1,.NQ 2),(3,.NQ 2),(5,.st 0),(7,.st 0)] G (by kernel_rfl)<|CU<|A5<|Am<|AzQ [(0,.NQ 0),(1,.NQ 2),(2,.F0 [] ⟨_,_,_,_,AGR _ Tl,(Ar G)⟩),(3,.st 1)] G (by kernel_rfl)<|A5<|rt<|D8 () [_,_,_] (Fp 1 G G G G (At G)) (by first|(exfalso;omega)|(unfold AGH AGJ;(repeat' split)<;>first|rfl|(exfalso;omega))) G Aa
    ·
     refine Am<|AF 2 G<|B9 G (fun FN=>?_) (fun FN=>?_)
     ·
      refine AZ<|B9 G (fun FN=>?_) (fun FN=>?_)
      · exact rg<|U 1 G<|Fi 2 G G G (A2 G) G (Da G)<|nl<|CU<|A5<|Am<|AAq [(1,_),(2,_),(4,_)] _ (Bs G) Br<|AzQ [(0,.NQ 0),(1,.NQ 2),(2,.F0 [] ⟨_,_,_,_,AGR ((⟨4,o.Al,o.EL,o.B2,o.A6,o.Bc⟩:FL)) (⟨(show A' 4 from⟨by decide,by decide⟩),(by first|assumption|decide|omega),(by first|assumption|decide|omega),Tl.2.2.2.1,Tl.2.2.2.2.1,Tl.2.2.2.2.2⟩),(Ar G)⟩),(3,.st 1)] G (by kernel_rfl)<|A5<|rt<|D8 () [_,_,_] (Fp 1 G G G G (At G)) (by first|(exfalso;omega)|(unfold AGH AGJ;(repeat' split)<;>first|rfl|(exfalso;omega))) G Aa
      · exact EG<|CU<|A5<|Am<|AAq [(1,_),(2,_),(4,_)] _ (Bs G) Br<|AzQ [(0,.NQ 0),(1,.NQ 2),(2,.F0 [] ⟨_,_,_,_,AGR _ Tl,(Ar G)⟩),(3,.st 1)] G (by kernel_rfl)<|A5<|rt<|D8 () [_,_,_] (Fp 1 G G G G (At G)) (by first|(exfalso;omega)|(unfold AGH AGJ;(repeat' split)<;>first|rfl|(exfalso;omega))) G Aa
     ·
      refine FA 2 G<|A5<|B9 G (fun FN=>?_) (fun FN=>?_)
      · exact rg<|U 1 G<|Fi 2 G G G (A2 G) G (Da G)<|nl<|CU<|A5<|Am<|AAq [(1,_),(2,_),(4,_)] _ (Bs G) Br<|AzQ [(0,.NQ 0),(1,.NQ 2),(2,.F0 [] ⟨_,_,_,_,AGR ((⟨4,o.Al,o.EL,o.B2,o.A6,o.Bc⟩:FL)) (⟨(show A' 4 from⟨by decide,by decide⟩),(by first|assumption|decide|omega),(by first|assumption|decide|omega),Tl.2.2.2.1,Tl.2.2.2.2.1,Tl.2.2.2.2.2⟩),(Ar G)⟩),(3,.st 1)] G (by kernel_rfl)<|A5<|rt<|D8 () [_,_,_] (Fp 1 G G G G (At G)) (by first|(exfalso;omega)|(unfold AGH AGJ;(repeat' split)<;>first|rfl|(exfalso;omega))) G Aa
      · exact EG<|CU<|A5<|Am<|AAq [(1,_),(2,_),(4,_)] _ (Bs G) Br<|AzQ [(0,.NQ 0),(1,.NQ 2),(2,.F0 [] ⟨_,_,_,_,AGR _ Tl,(Ar G)⟩),(3,.st 1)] G (by kernel_rfl)<|A5<|rt<|D8 () [_,_,_] (Fp 1 G G G G (At G)) (by first|(exfalso;omega)|(unfold AGH AGJ;(repeat' split)<;>first|rfl|(exfalso;omega))) G Aa
theorem AjF(n:Int)(MB:A' n):Cv AG 24 [.int .i64 n] [] (.tuple #[.agg (BY (F8 n) AI AI AI AI AI AI).toArray,.int .i64 (if Ih n=true then 0 else 1)]):=by
 refine Aw.proof Tryz.func24 G 16 G G fun X w=>?_;obtain⟨Yk,Yl⟩:=id MB;refine Ae<|CT LQ G fun Dh=>U 1 G<|Ac<|Am<|Ae<|An G G<|B0 (Zh _ MB) (Ar G) G Aa G<|IH G G<|Ac<|BN G (fun GY=>?_) (fun GY=>?_)
 ·
  have q:Ih n=false:=(by simpa using GY);exact Ae<|Db (ps:=[]) (cs:=(BY Np AI AI AI AI AI AI)) (by rfl) (by kernel_rfl) G<|BZ 0 (us:=(BY Np AI AI AI AI AI AI)) G G G (At G) G G<|U 1 G<|Ac<|BA<|D8 () [_] (Fp 0 G G G G (At G)) (by rw[F8,q];rfl) G Aa
 ·
  have q:Ih n=true:=(by simpa using GY);refine AZ<|Ae<|An G G<|Db (ps:=[(0,.tmp 9)]) (cs:=(BY ((⟨n,0,false,ByteArray.empty,ByteArray.empty,0,[],[],[],[],[],Gs,Gs,[],0,0,0⟩:Bv)) AI AI AI AI AI AI)) (by rfl) (by kernel_rfl) G<|CT LQ G fun En=>BZ 0 (us:=(BY ((⟨n,0,false,ByteArray.empty,ByteArray.empty,0,[],[],[],[],[],Gs,Gs,[],0,0,0⟩:Bv)) AI AI AI AI AI AI)) G G G (At G) G G<|Ac<|Am<|Ae<|An G G<|U 1 G<|Ac<|B9 G (fun EM=>?_) (fun EM=>?_)
  · exact Ae<|U 1 G<|Fi 0 G G G (A2 G) G (Da G)<|Ac<|rg<|U 1 G<|Fi 0 G G G (A2 G) G (Da G)<|Ac<|Ae<|BJ 0 (BY ((⟨n,0,true,ByteArray.empty,ByteArray.empty,1,([]),([]),([]),([]),([]),Gs,Gs,([]),0,0,0⟩:Bv)) AI AI AI AI AI AI) G G (At G) G G<|BZ 1 (us:=(BY ((⟨n,0,true,ByteArray.empty,ByteArray.empty,1,([]),([]),([]),([]),([]),Gs,Gs,([]),0,0,0⟩:Bv)) AI AI AI AI AI AI)) G G G (At G) G G<|U 1 G<|Ac<|rt<|D8 () [_,_] (Fp 1 G G G G (At G)) (by rw[F8,q,if_pos rfl,if_pos rfl,if_pos rfl];simp[EM]) G Aa
  · exact AZ<|Ae<|BJ 0 (BY ((⟨n,0,false,ByteArray.empty,ByteArray.empty,0,[],[],[],[],[],Gs,Gs,[],0,0,0⟩:Bv)) AI AI AI AI AI AI) G G (At G) G G<|BZ 1 (us:=(BY ((⟨n,0,false,ByteArray.empty,ByteArray.empty,0,[],[],[],[],[],Gs,Gs,[],0,0,0⟩:Bv)) AI AI AI AI AI AI)) G G G (At G) G G<|U 1 G<|Ac<|rt<|D8 () [_,_] (Fp 1 G G G G (At G)) (by rw[F8,q];simp[EM]) G Aa
theorem QN:EH AG 23 54 7 56:=EH.mk Tryz.underlying23 (by kernel_rfl) (by decide)
theorem OI:EH AG 22 73 10 104:=EH.mk Tryz.underlying22 (by kernel_rfl) (by decide)
theorem Mt:EH AG 24 50 11 104:=EH.mk Tryz.underlying24 (by kernel_rfl) (by decide)
theorem QQ:EH AG 25 52 8 80:=EH.mk Tryz.underlying25 (by kernel_rfl) (by decide)
theorem RM:EH AG 26 125 2 16:=EH.mk Tryz.underlying26 (by kernel_rfl) (by decide)
theorem S1:EH AG 69 83 4 32:=EH.mk Tryz.underlying69 (by kernel_rfl) (by decide)
theorem AG4:EH AG 86 85 4 40:=EH.mk Tryz.underlying86 (by kernel_rfl) (by decide)
theorem AGB:Oc AG 85 4:=⟨⟨_,Tryz.underlying85,rfl⟩,by kernel_rfl⟩
theorem AG9:H5 AG 86 85 4:=⟨Tryz.underlying86,by kernel_rfl⟩
theorem AIg:Po AG 85 AGv:=by
 refine⟨by kernel_rfl,fun a b w=>?_⟩;rw[run_equalIn_struct w 9999 85 _ _ (by simp only[Program.fieldsOf,Tryz.underlying85]) (by kernel_rfl)];simp only[Program.fieldsOf,Tryz.underlying85];refine Eq.trans (EI G Tryz.underlying9 G G G (UF Tryz.underlying9 _ _) (fun w=>h7 (m:=2) (zs1:= #[.int .i64 a.Cs.A6,.int .i64 a.Cs.Bc]) (zs2:= #[.int .i64 b.Cs.A6,.int .i64 b.Cs.Bc]) (r:=decide (a.Cs.A6=b.Cs.A6)&&(decide (a.Cs.Bc=b.Cs.Bc)&&true)) G Tryz.underlying68 G (by kernel_rfl) (by simp) (by simp) (fun w=>?_) (fun w=>EI G Tryz.underlying3 G G G (Fk Tryz.underlying3 _ _) (fun w=>OO w)))) ?_
 ·
  rw[run_equalIn_struct w 9998 68 _ _ (by simp only[Program.fieldsOf,Tryz.underlying68]) (by kernel_rfl)];simp only[Program.fieldsOf,Tryz.underlying68];exact EI G Tryz.underlying3 G G G (Fk Tryz.underlying3 _ _) (fun w=>EI G Tryz.underlying3 G G G (Fk Tryz.underlying3 _ _) (fun w=>OO w))
 congr 1;obtain⟨He,⟨DP,EK⟩,FR⟩:=a;obtain⟨Pt,⟨CY,Dh⟩,DQ⟩:=b;simp[AGn.mk.injEq,GC.mk.injEq,Bool.and_assoc]
theorem ei(CP:Value)(l:List Bx)(c q:Int)(BK:A' c)(Ed:A' q):Cv AG 179 [CP,.int .i64 c,.int .i64 q] [⟨CP,l⟩] (.tuple #[.agg (H8 (findD l c q)).toArray,.bool (Tz l c q)]):=by
 refine Aw.proof Tryz.func179 G 25 G G fun X w=>?_;obtain⟨K9,K_⟩:=id BK;obtain⟨LD,LF⟩:=id Ed;refine Ae<|CT SO G fun Hg=>U 1 G<|Ac<|Ae<|U 3 G<|B0 (fA _ _ _ _ BK Ed) (Ar G) G (Ad 0 G Aa) G<|U 1 G<|Ac<|Am<|Ae<|U 3 G ?_;refine DE 15 4 [0,6,8] G G (fun Ft ZH=>by
  have An_:=of_decide_eq_false Ft;exact U 1 G<|Bl G G G<|B0 (dS _ _) (Ar G) G (Ad 0 G Aa) G<|U 2 G<|ZH G Br) ?_
 refine Ac<|BN G (fun Fe=>?_) (fun Fe=>?_)
 · exact Ae<|Db (ps:=[]) (cs:=(H8 ((⟨0,0,ByteArray.empty,ByteArray.empty,0,0,0,0⟩:Bx)))) (by rfl) (by kernel_rfl) G<|BZ 0 (us:=(H8 ((⟨0,0,ByteArray.empty,ByteArray.empty,0,0,0,0⟩:Bx)))) G G G (At G) G G<|U 1 G<|Ac<|BA<|D8 () [_] (Fp 0 G G G G (At G)) (by rw[findD,Tz,if_pos Fe,if_pos Fe];rfl) G Aa
 ·
  obtain⟨k,AE,Lb⟩:=Ahq Fe;exact AZ<|Ae<|An G G<|An (v:=.int .i64 ((k:Nat):Int)) (congrArg (fun x=>some (Value.int .i64 x)) (by rw[AE];rfl)) G<|Fo 0 G G G Ox G fun Pe=>Gi 0 G G (At G) G fun MJ PW=>BZ 0 (us:=(H8 ((l.getD k default)))) G G G (At G) G G<|U 1 G<|Ac<|rt<|D8 () [_] (Fp 0 G G G G (At G)) (by rw[findD,Tz,if_neg (by rw[Fe];decide),if_neg (by rw[Fe];decide),AE];try rfl) G Aa
theorem QP:EH AG 29 5 1 1:=EH.mk Tryz.underlying29 (by kernel_rfl) (by decide)
theorem not_true{b:Bool}(h:(!b)=true):b=false:=by simpa using h
def ApM(S:Bv)(key:ByteArray):Option Nat:=Gd S.Aj.length (fun j=>decide ((S.Aj.getD j default).Al=key))
def ApH(S:Bv)(key:ByteArray):AD:=match ApM S key with
 |some j=>S.Aj.getD j default
 |none=>Sq key
def ApE(S:Bv)(key:ByteArray):Bool:=(ApM S key).isSome
def X'(l:List Df)(c:Int):Option Nat:=Gd l.length (fun j=>decide ((l.getD j default).Ap>=c))
def V6(l:List Df)(c:Int):Nat:=(X' l c).getD l.length
def U8(l:List Df)(c:Int):Bool:=match X' l c with
 |some j=>decide ((l.getD j default).Ap=c)
 |none=>false
theorem AcS{l:List Df}{c:Int}(h:U8 l c=true):V6 l c<l.length:=by
 unfold U8 at h;cases e:X' l c with
 |none=>rw[e]at h;cases h
 |some j=>
  rw[V6,e];exact List.mem_range.1 (List.mem_of_find?_eq_some e)
def kP(l:List Df)(c q:Int):Bool:=U8 l c&&decide ((l.getD (V6 l c) default).As>=q)&&decide (IA (HE l)=0)
def Ap3(S:Bv):Prop:=∀j,(S.Aj.getD j default).A0.length<=100000
def vv:BD:=⟨0,0,0,0⟩
def a'(a:AD)(n:Int):Option Nat:=Gd a.A0.length (fun j=>decide ((a.A0.getD j default).Bn=n))
def V8(a:AD)(n:Int):BD:=if E4 a=true then(match a' a n with
 |some j=>a.A0.getD j default
 |none=>vv)else vv
def WK(a:AD)(n:Int):Bool:=E4 a&&(a' a n).isSome
end Go.Apw
namespace Go.A_
open Go.RowKit
def wu(m:Nat)(Q:AuE)(c:Cj)(ops:Array Oper)(l:List Oper)(env:Env)(L:Own)(D:List Atom):Prop:=
 ∀a w,Fr c.n a env->CI c.BW c.M w L->BP D w L->wpListIn Fence.wide m c.P ops Q l a w
instance AnG (m:Nat) (Q:AuE):Ip (wu m Q) where
 read:=by
  intro c ops env L D rest o dst σ CK AJ env' Dd Ek k a w f st AR;obtain⟨s,u,Bh,Jq,KI⟩:=Ek a w f st AR;refine AdI CK ⟨fun _ _=>trivial,?_⟩;have hs:Oper.semAt Fence.wide.round a.eval o=execOp a.eval o:=rfl;rw[hs,Bh w (C8.refl _ _)];simp only[Oper.uponIn,AJ];exact k s _ _ Jq st KI
 gI:=by
  intro c ops env L D rest dst op t p af g hw k a w f st AR;have:=k a w f st AR;unfold wpListIn at this ⊢;rw[if_pos (hw a w f st AR)];rw[if_pos (show Region.wanted ⟨dst,op,t,p,af,none⟩ (yielded ops a.tmps)=true from rfl)]at this;exact this
 c4:=by
  intro c ops env env' L D rest o hw k a w f st AR;obtain⟨Af,h2⟩:=hw a w f st AR;unfold wpListIn;rw[Af];simp only[Bool.false_eq_true,if_false];exact⟨fun _ _=>trivial,k _ _ h2 st AR⟩
 mono:=by
  intro c ops env env' L D Dd l h k a w f st AR;obtain⟨Af,h2⟩:=h a w f st AR;exact k a w Af st h2
 fact:=by
  intro c ops env L D l q h k a w f st AR;exact k (h a w f st AR) a w f st AR
section
section
variable{c:Cj} {ops:Array Oper} {AP:Cj->Array Oper->List Oper->Env->Own->List Atom->Prop} [Dr:Ip AP] {env:Env} {L:Own} {D:List Atom} {rest:List Oper} {d:Nat} {t:TypeId} {p:String} {af:Array Edge} {T:TypeId}
include Dr
theorem dC{ps:List (Nat×Operand)}{us:List Value}{cs:List Value}(Ab:Gq env (ps.map (·.2))=some us)(Aq:c.P.built T ((ps.map (·.1)).zip us)=some cs.toArray)(Ao:Nat.blt d c.n=true)(k:AP c ops rest ((d,.agg cs.toArray)::env) L D):
 AP c ops (⟨some d,.build T ps.toArray,t,p,af,none⟩::rest) env L D:=
 pu rfl rfl Ao (fun a w f=>by
  have e:=f.Gq Ab;subst e;have h2:(ps.toArray.map fun(i,x)=>(i,a.eval x)).toList=(ps.map (·.1)).zip ((ps.map (·.2)).map a.eval):=by
   simp only[List.map_toArray];clear Ab Aq;induction ps with
   |nil=>rfl
   |cons q r Cg=>simp only[List.map_cons,List.zip_cons_cons,Cg]
  have:=run_build (P:=c.P) w T (ps.toArray.map fun(i,x)=>(i,a.eval x)) cs.toArray (by rw[h2];exact Aq);simp only[execOp,Sem.run_bind,this,Result.andThen_ok,Sem.run_pure]) k
end
end
end Go.A_
namespace Go.Apw
end Go.Apw
namespace Go.A_
open Go.RowKit
end Go.A_
namespace Go.Apw
theorem jS(k:ByteArray):isNil k=decide ((k.size:Int)<1):=by
 unfold isNil;refine decide_eq_decide.2 ⟨fun h=>by rw[h];decide,fun h=>?_⟩;have Bw:k.size=0:=by omega
 rcases k with⟨a⟩;have:a.size=0:=Bw;rw[Array.size_eq_zero_iff]at this;rw[this];rfl
theorem l2:∀{l:List Int},(∀x∈l,0<=x)->0<=l.sum
 |[],_=>by simp
 |x::r,h=>by
  have Cg:=l2 (l:=r) fun y Bf=>h y (List.mem_cons_of_mem _ Bf);have:=h x (List.mem_cons_self ..);simp only[List.sum_cons];omega
theorem pY{l:List BD}(hh:LI l=true){x:BD}(Ab:x∈l):0<=x.DV/\0<=x.Fc:=by
 obtain⟨i,Ag,rfl⟩:=List.getElem_of_mem Ab;have:=Wy hh Ag;rw[G3 Ag]at this;exact⟨this.2.2.2.1,this.2.2.2.2⟩
theorem cR{a:AD}(hh:LI a.A0=true):a.BT<=I7 a:=by
 unfold I7;have:=l2 (l:=a.A0.map (·.DV)) fun x Ab=>by
  obtain⟨y,Bf,rfl⟩:=List.mem_map.1 Ab;exact(pY hh Bf).1
 omega
theorem ag{a:AD}(hh:LI a.A0=true):IU a<=a.BT:=by
 unfold IU;have:=l2 (l:=a.A0.map (·.Fc)) fun x Ab=>by
  obtain⟨y,Bf,rfl⟩:=List.mem_map.1 Ab;exact(pY hh Bf).2
 omega
theorem Vn{x:Int}(h:J3 x=true):Lo x=x/\No x=0:=by unfold Lo No;rw[if_pos h,if_pos h];exact⟨rfl,rfl⟩
theorem tL{x:Int}(h:J3 x=false):Lo x=0/\No x=10:=by unfold Lo No;rw[h];exact⟨rfl,rfl⟩
theorem rP(k:ByteArray):Ix k= !(isNil k||decide ((k.size:Int)>16)):=by
 rw[jS];unfold Ix;rw[Bool.eq_iff_iff];simp only[Bool.and_eq_true,decide_eq_true_eq,Bool.not_eq_true',Bool.or_eq_false_iff,decide_eq_false_iff_not];omega
theorem n0(Bk:Value)(l:List BL)(hlen:l.length<=100000):Aw AG 73 [Bk] [] [⟨Bk,l⟩] (fun(_:Unit) _=>True) (fun _ v=>[]) (fun _ v=>[⟨v,l⟩]):=by
 refine Aw.proof Tryz.func73 G 8 G G fun X w=>AF 1 G<|Am<|Ae<|An G G<|RT 0 Tryz.underlying23 G G G G fun PM J'=>Ac<|BN G (fun BB=>?_) (fun BB=>?_)
 ·
  have Ab:l=[]:=J' BB;subst Ab;exact DJ (α:=BL)<|AF 1 G<|BA<|Bq () G G trivial G (Ad 0 G Aa)
 · exact AZ<|Ae<|NB QN G fun E'=>Nm (α:=BL) [] [] G G (fun _ _ _=>trivial) G<|An G G<|ap 0 0 G G G G QN (by simp only[List.length_nil];omega) (by simp only[List.length_nil];omega) G fun EZ=>U 1 G<|Ac<|rt<|K5<|Bq () G G trivial G (Ad 0 G Aa)
theorem hI(Bk:Value)(l:List Bx)(hlen:l.length<=100000):Aw AG 75 [Bk] [] [⟨Bk,l⟩] (fun(_:Unit) _=>True) (fun _ v=>[]) (fun _ v=>[⟨v,l⟩]):=by
 refine Aw.proof Tryz.func75 G 8 G G fun X w=>AF 1 G<|Am<|Ae<|An G G<|RT 0 Tryz.underlying25 G G G G fun PM J'=>Ac<|BN G (fun BB=>?_) (fun BB=>?_)
 ·
  have Ab:l=[]:=J' BB;subst Ab;exact DJ (α:=Bx)<|AF 1 G<|BA<|Bq () G G trivial G (Ad 0 G Aa)
 · exact AZ<|Ae<|NB QQ G fun E'=>Nm (α:=Bx) [] [] G G (fun _ _ _=>trivial) G<|An G G<|ap 0 0 G G G G QQ (by simp only[List.length_nil];omega) (by simp only[List.length_nil];omega) G fun EZ=>U 1 G<|Ac<|rt<|K5<|Bq () G G trivial G (Ad 0 G Aa)
theorem hJ(Bk:Value)(l:List Df)(hlen:l.length<=100000):Aw AG 76 [Bk] [] [⟨Bk,l⟩] (fun(_:Unit) _=>True) (fun _ v=>[]) (fun _ v=>[⟨v,l⟩]):=by
 refine Aw.proof Tryz.func76 G 8 G G fun X w=>AF 1 G<|Am<|Ae<|An G G<|RT 0 Tryz.underlying26 G G G G fun PM J'=>Ac<|BN G (fun BB=>?_) (fun BB=>?_)
 ·
  have Ab:l=[]:=J' BB;subst Ab;exact DJ (α:=Df)<|AF 1 G<|BA<|Bq () G G trivial G (Ad 0 G Aa)
 · exact AZ<|Ae<|NB RM G fun E'=>Nm (α:=Df) [] [] G G (fun _ _ _=>trivial) G<|An G G<|ap 0 0 G G G G RM (by simp only[List.length_nil];omega) (by simp only[List.length_nil];omega) G fun EZ=>U 1 G<|Ac<|rt<|K5<|Bq () G G trivial G (Ad 0 G Aa)
theorem Aqr(Bk:Value)(l:List BD)(hlen:l.length<=100000):Aw AG 130 [Bk] [] [⟨Bk,l⟩] (fun(_:Unit) _=>True) (fun _ v=>[]) (fun _ v=>[⟨v,l⟩]):=by
 refine Aw.proof Tryz.func130 G 8 G G fun X w=>AF 1 G<|Am<|Ae<|An G G<|RT 0 Tryz.underlying69 G G G G fun PM J'=>Ac<|BN G (fun BB=>?_) (fun BB=>?_)
 ·
  have Ab:l=[]:=J' BB;subst Ab;exact DJ (α:=BD)<|AF 1 G<|BA<|Bq () G G trivial G (Ad 0 G Aa)
 · exact AZ<|Ae<|NB S1 G fun E'=>Nm (α:=BD) [] [] G G (fun _ _ _=>trivial) G<|An G G<|ap 0 0 G G G G S1 (by simp only[List.length_nil];omega) (by simp only[List.length_nil];omega) G fun EZ=>U 1 G<|Ac<|rt<|K5<|Bq () G G trivial G (Ad 0 G Aa)
theorem Ard(a:AD)(Cw:Value)(C6:a.wf)(Aq:a.A0.length<=100000):Aw AG 53 [.agg (A3 a Cw).toArray] [] [⟨Cw,a.A0⟩] (fun(y:Value) u=>u=.agg (A3 a y).toArray) (fun _ _=>[]) (fun y _=>[⟨y,a.A0⟩]):=by
 refine Aw.proof Tryz.func53 G 8 G G fun X w=>Ae<|CV G G G fun CY=>CT Hd G fun Dh=>Ac<|Ae<|AX 2 [1] G G<|Dm (Aqr _ _ Aq) (Ar G) G (Ad 0 G Aa) G fun _ Mp _=>U 1 G<|J2 1 0 G G G G (A2 G) (Da G)<|Ac<|Ae ?_;have Anj:=C6;refine BJ 1 (A3 ((⟨a.Al,(⟨a.Cs.A6,a.Cs.Bc⟩:GC),a.BT,a.Cn,a.A0,(⟨a.BG.Ap,a.BG.As,a.BG.DH,a.BG.B2⟩:F_)⟩:AD)) Mp) G G (At G) G G<|Cp 0 G fun WV=>?_;exact BZ 0 (us:=(A3 ((⟨a.Al,(⟨a.Cs.A6,a.Cs.Bc⟩:GC),a.BT,a.Cn,a.A0,(⟨a.BG.Ap,a.BG.As,a.BG.DH,a.BG.B2⟩:F_)⟩:AD)) Mp)) G G G (At G) (by simp only[List.all_cons,List.all_nil,Bool.and_true,WV];rfl) G<|Ac<|rt<|D8 Mp [_,_] (Qv 0 G G G (At G)) (by rfl) G (Ad 0 G Aa)
theorem Aep(k:ByteArray):Cv AG 54 [.string k] [] (.tuple #[.agg (A3 (Sq k) AI).toArray,.int .i64 (kd k)]):=by
 refine Aw.proof Tryz.func54 G 15 G G fun X w=>Ae<|CT Hd G fun Dh=>U 1 G<|Ac<|Am<|Ae<|An G G<|PI G Tryz.underlying9 G<|U 2 G ?_;refine DE 7 4 [0,2] G G (fun GY vK=>by
  have r8:=of_decide_eq_false GY;exact U 1 G<|Bl G G G<|PI G Tryz.underlying9 G<|U 2 G<|vK G Br) ?_
 refine Ac<|BN G (fun Ct=>?_) (fun Ct=>?_)
 · exact Ae<|Db (ps:=[]) (cs:=(A3 FX AI)) (by rfl) (by kernel_rfl) G<|BZ 0 (us:=(A3 FX AI)) G G G (At G) G G<|U 1 G<|Ac<|BA<|D8 () [_] (Fp 0 G G G G (At G)) (by have q:Ix k=false:=(by rw[rP];have q:=Ct;simp only[Bool.or_eq_true,decide_eq_true_eq]at q;rw[jS];simp;omega);rw[Sq,kd,q];rfl) G Aa
 · exact AZ<|Ae<|An G G<|Db (ps:=[(0,.tmp 13)]) (cs:=(A3 ((⟨k,cz,0,0,[],PF⟩:AD)) AI)) (by rfl) (by kernel_rfl) G<|BZ 0 (us:=(A3 ((⟨k,cz,0,0,[],PF⟩:AD)) AI)) G G G (At G) G G<|U 1 G<|Ac<|rt<|D8 () [_] (Fp 0 G G G G (At G)) (by have q:Ix k=true:=(by rw[rP];have q:=Ct;simp only[Bool.or_eq_false_iff,decide_eq_false_iff_not]at q;rw[jS];simp;omega);rw[Sq,kd,q];rfl) G Aa
theorem AqC(S:Bv)(El EV D_ EA Em Eh:Value)(key:ByteArray)(A:AD)(Cl:ApH S key=A)(JV:S.wf)(Aq:Ap3 S):Aw AG 18 [.agg (BY S El EV D_ EA Em Eh).toArray,.string key] [] [⟨El,S.Aj⟩,⟨EV,S.Bz⟩,⟨D_,S.AA⟩,⟨EA,S.Bj⟩,⟨Em,S.CX⟩,⟨Eh,S.Cf⟩] (fun(y:Value) u=>u=.tuple #[.agg (A3 A y).toArray,.bool (ApE S key)]/\A.wf) (fun _ _=>[]) (fun y _=>[⟨y,A.A0⟩]):=by
 refine Aw.proof Tryz.func18 G 30 G G fun X w=>Ae<|CV G G G fun Dh=>CT Hd G fun En=>U 1 G<|Ac<|Am<|Ae<|AX 2 [1] G G<|C2 0 G G Tryz.underlying22 G fun qR=>An G G<|Ac<|B5<|Ji (σ:=Nat) [(1,_),(4,_),(11,_),(12,_)] _ (fun i C=>(13,.int .i64 (i:Int))::C) (fun i=>i<=S.Aj.length/\(∀j,j<i->decide ((S.Aj.getD j default).Al=key)=false)) (fun i=>S.Aj.length-i) 0 (Bs G) (Ad 0 G (Ad 1 G (Ad 2 G (Ad 3 G (Ad 4 G (Ad 5 G Aa)))))) ⟨Nat.zero_le _,fun j Ay=>absurd Ay (Nat.not_lt_zero j)⟩ (Bs G) ?_;rintro i ⟨Ag,C0⟩;refine AF 1 G<|Am<|B9 G (fun Fm=>?_) (fun Fm=>?_)
 ·
  refine AZ<|Am<|B5<|Ae<|Fo 0 G G G Gt G fun Xk=>Gi 0 G G (At G) G fun Ii PV=>?_;refine CT Hd G fun Jo=>Cp 1 G fun WU=>?_;refine BZ 0 (us:=(A3 ((S.Aj.getD i default)) Ii)) G G G (At G) (by simp only[List.all_cons,List.all_nil,Bool.and_true,WU];rfl) G<|Ac<|I5 4 [0] G G<|B9 G (fun HQ=>?_) (fun HQ=>?_)
  ·
   have B4:ApM S key=some i:=Tc (by omega) C0 (decide_eq_true HQ);have DC:(S.Aj.getD i default)=A:=(by rw[<-Cl,ApH,B4]);subst DC;have Kk:ApE S key=true:=(by rw[ApE,B4];rfl);refine Ae<|BJ 0 (A3 ((S.Aj.getD i default)) Ii) G G (At G) G G<|Dm (Ard _ _ PV (Aq i)) (Ar G) G (Ad 1 G Aa) G fun u6 RB JQ=>?_;subst JQ;refine Cp 0 G fun Ae'=>?_;exact BZ 1 (us:=(A3 ((S.Aj.getD i default)) u6)) G G G (At G) (by simp only[List.all_cons,List.all_nil,Bool.and_true,Ae'];rfl) G<|U 1 G<|Ac<|rt<|C9<|Cd<|Cd<|C9<|Cd<|D8 u6 [_,_,_] (Fp 1 G G G G (At G)) (by rw[Kk];exact⟨rfl,PV⟩) G (Ad 0 G Aa)
  ·
   refine EG<|CU<|A5<|rg<|C5 G G BV G<|An G G<|nl<|AQ ?_;exact Dy (i+1) ⟨(by omega),(Ki C0 (decide_eq_false HQ))⟩ (by omega) (Bs G) G (BE [3,4,5,6,7,8] G)
 ·
  have B4:ApM S key=none:=Tb (fun k AE=>C0 k (by omega));have DC:Sq key=A:=(by rw[<-Cl,ApH,B4]);subst DC;have Kk:ApE S key=false:=(by rw[ApE,B4];rfl);exact DJ (α:=BD)<|ex<|Ck<|Ck<|D7<|A5<|Ae<|An G G<|B0 (Aep _) (Ar G) G Aa G<|U 3 G<|CT Hd G fun K0=>BZ 0 (us:=(A3 ((Sq key)) AI)) G G G (At G) G G<|U 1 G<|Ac<|Ae<|BJ 0 (A3 ((Sq key)) AI) G G (At G) G G<|BZ 1 (us:=(A3 ((Sq key)) AI)) G G G (At G) G G<|U 1 G<|Ac<|rt<|D8 AI [_,_,_] (Fp 1 G G G G (At G)) (by rw[Kk];exact⟨rfl,rI _⟩) G (Ad 0 G Aa)
theorem oE(CP:Value)(l:List Df)(c:Int)(BK:A' c):Cv AG 246 [CP,.int .i64 c] [⟨CP,l⟩] (.tuple #[.int .i64 (V6 l c:Int),.bool (U8 l c)]):=by
 refine Aw.proof Tryz.func246 G 27 G G fun X w=>?_;obtain⟨K9,K_⟩:=id BK;refine AF 2 G<|Am<|Ae<|An G G<|C2 0 G G Tryz.underlying26 G fun Sm=>An G G<|Ac<|B5<|Ji (σ:=Nat) [(0,_),(1,_),(8,_),(9,_)] _ (fun i C=>(10,.int .i64 (i:Int))::C) (fun i=>i<=l.length/\(∀j,j<i->decide ((l.getD j default).Ap>=c)=false)) (fun i=>l.length-i) 0 (Bs G) (Ad 0 G Aa) ⟨Nat.zero_le _,fun j Ay=>absurd Ay (Nat.not_lt_zero j)⟩ (Bs G) ?_;rintro i ⟨Ag,C0⟩;refine AF 1 G<|Am<|B9 G (fun Ct=>?_) (fun Ct=>?_)
 ·
  refine AZ<|Am<|B5<|Ae<|An G G<|Fo 0 G G G Ky G fun RA=>Gi 0 G G (At G) G fun MI SE=>CT de G fun Jo=>U 1 G<|BZ 0 (us:=(QT ((l.getD i default)))) G G G (At G) G G<|Ac<|I5 4 [0] G G<|B9 G (fun ER=>?_) (fun ER=>?_)
  · exact Am<|Gx mixed (by kernel_rfl)<|AX 7 [0] G G<|Gj<|A5<|rt<|C9<|Cd<|Cd<|C9<|Cd<|AQ<|Fl () G G G (by have B4:X' l c=some i:=Tc (by omega) C0 (decide_eq_true ER);rw[V6,U8,B4];rfl) G Aa
  ·
   refine EG<|CU<|A5<|rg<|C5 G G BV G<|An G G<|nl<|AQ ?_;exact Dy (i+1) ⟨(by omega),(Ki C0 (decide_eq_false ER))⟩ (by omega) (Bs G) G (Ad 2 G Aa)
 · exact ex<|Ck<|Ck<|D7<|A5<|Ae<|An G G<|C2 0 G G Tryz.underlying26 G fun Adh=>U 2 G<|Ac<|rt<|Fl () G G G (by have B4:X' l c=none:=Tb (fun k AE=>C0 k (by omega));rw[V6,U8,B4];rfl) G Aa
theorem sd(CP:Value)(l:List Df)(c:Int)(q:Int)(BK:A' c)(Ed:A' q):Cv AG 155 [CP,.int .i64 c,.int .i64 q] [⟨CP,l⟩] (.bool (kP l c q)):=by
 refine Aw.proof Tryz.func155 G 30 G G fun X w=>?_;obtain⟨K9,K_⟩:=id BK;obtain⟨LD,LF⟩:=id Ed;refine HP (q:=l.length<=9223372036854775807) (fun S w h=>L1 (h _ (List.mem_of_getElem? (i:=0) G))) fun hlen=>AF 1 G<|Ae<|U 2 G<|B0 (oE _ _ _ BK) (Ar G) G (Ad 0 G Aa) G<|U 3 G<|U 2 G<|Ac<|Ae<|U 2 G ?_;refine D4 16 8 [0] G G (fun CR gY=>by
  have C_:=AcS CR;exact U 2 G<|Bl G G G<|Fo 0 G G G Ky G fun KC=>Bl G G G<|CJ 0 r' G G (BR G) G fun v20=>Bl G G G<|CQ 0 G G (A2 G) G fun uv=>U 3 G<|gY G (Bg.tail (Bg.tail Br))) ?_
 exact An G G<|D4 25 4 [] G G (fun Gr vR=>U 1 G<|Bl G G G<|B0 (X2 _ _) (Ar G) G (Ad 0 G Aa) G<|U 2 G<|vR G Br)<|U 1 G<|Ac<|rt<|Bq () G G (by rfl) G Aa
theorem jR(CP:Value)(l:List BX)(f:Nat)(D0:Array Value)(A:List Atom)(p:BX->Bool)(CM:GU AG f)(E5:∀x:BX,x.wf->Cv AG f (.agg (Hh x).toArray::D0.toList) A (.bool (p x))):Cv AG 151 [CP,.func (.func f) #[] D0] (⟨CP,l⟩::A) (.int .i64 (HI (Gd l.length (fun j=>p (l.getD j default))))):=by
 refine Aw.proof Tryz.func151 G 19 G G fun X w=>AF 1 G<|Am<|Ae<|An G G<|C2 0 G G Tryz.underlying24 G fun MD=>An G G<|Ac<|B5<|Ji (σ:=Nat) [(0,_),(1,_),(7,_)] _ (fun i C=>(8,.int .i64 (i:Int))::C) (fun i=>i<=l.length/\(∀j,j<i->p (l.getD j default)=false)) (fun i=>l.length-i) 0 (Bs G) (Ad 0 G (Bg.tail Br)) ⟨Nat.zero_le _,fun j Ay=>absurd Ay (Nat.not_lt_zero j)⟩ (Bs G) ?_;rintro i ⟨Ag,C0⟩;refine AF 1 G<|Am<|B9 G (fun EO=>?_) (fun EO=>?_)
 ·
  refine AZ<|Am<|B5<|AF 2 G<|Ae<|U 2 G<|An G G<|Fo 0 G G G N0 G fun PS=>Gi 0 G G (At G) G fun KR N6=>QV (E5 _ N6) CM G G G (Bg.tail (Bg.tail (Bg.tail Br))) G fun Ui Mn V4=>?_;obtain rfl:Mn=.bool (p (l.getD i default)):=V4;refine Ac<|BN G (fun CR=>?_) (fun CR=>?_)
  · exact AF 2 G<|rt<|C9<|Cd<|Cd<|C9<|Cd<|Bq () G G (by rw[Tc (j:=i) (by omega) C0 CR];try rfl) G Aa
  ·
   refine EG<|CU<|A5<|rg<|C5 G G BV G<|An G G<|nl ?_;exact Dy (i+1) ⟨(by omega),(Ki C0 (CR))⟩ (by omega) (Bs G) G (Ad 2 G (Bg.tail (Bg.tail (Bg.tail Br))))
 · exact ex<|Ck<|Ck<|D7<|A5<|AF 1 G<|rt<|Bq () G G (by rw[Tb (fun k AE=>C0 k (by omega))];try rfl) G Aa
theorem n7(CP:Value)(l:List BX)(f:Nat)(D0:Array Value)(A:List Atom)(p:BX->Bool)(CM:GU AG f)(E5:∀x:BX,x.wf->Cv AG f (.agg (Hh x).toArray::D0.toList) A (.bool (p x))):Cv AG 158 [CP,.func (.func f) #[] D0] (⟨CP,l⟩::A) (.bool (decide (HI (Gd l.length (fun j=>p (l.getD j default)))>=0))):=by
 exact Aw.proof Tryz.func158 G 9 G G fun X w=>AF 1 G<|Ae<|U 2 G<|B0 (jR _ _ f D0 A p CM E5) (Ar G) G (Ad 0 G (Bg.tail Br)) G<|U 2 G<|Ac<|rt<|Bq () G G (by rfl) G Aa
theorem zK(a:AD)(Cw:Value)(n:Int)(C6:a.wf):Cv AG 240 [.agg (A3 a Cw).toArray,.int .i64 n] [⟨Cw,a.A0⟩] (.tuple #[.agg (JH (V8 a n)).toArray,.bool (WK a n)]):=by
 refine Aw.proof Tryz.func240 G 26 G G fun X w=>Ae<|CV G G G fun Dh=>CT Um G fun En=>U 1 G<|Ac<|Am<|Ae<|BJ 1 (A3 a Cw) G G (At G) G G<|B0 (Ps _ _ C6) (Ar G) G (Ad 0 G Aa) G<|IH G G<|Ac<|BN G (fun Dq=>?_) (fun Dq=>?_)
 ·
  have Ey:¬E4 a=true:=(by simpa using Dq);exact Ae<|Db (ps:=[]) (cs:=(JH ((⟨0,0,0,0⟩:BD)))) (by rfl) (by kernel_rfl) G<|BZ 0 (us:=(JH ((⟨0,0,0,0⟩:BD)))) G G G (At G) G G<|U 1 G<|Ac<|BA<|D8 () [_,_] (Fp 0 G G G G (At G)) (by rw[V8,WK,if_neg Ey,show E4 a=false by simpa using Ey];rfl) G Aa
 ·
  have Ey:E4 a=true:=(by simpa using Dq);refine AZ<|Am<|Ae<|AX 2 [1] G G<|C2 0 G G Tryz.underlying69 G fun qS=>An G G<|Ac<|B5<|Ji (σ:=Nat) [(1,_),(4,_),(13,_),(14,_)] _ (fun i C=>(15,.int .i64 (i:Int))::C) (fun i=>i<=a.A0.length/\(∀j,j<i->decide ((a.A0.getD j default).Bn=n)=false)) (fun i=>a.A0.length-i) 0 (Bs G) (Ad 0 G Aa) ⟨Nat.zero_le _,fun j Ay=>absurd Ay (Nat.not_lt_zero j)⟩ (Bs G) ?_;rintro i ⟨Ag,C0⟩;refine AF 1 G<|Am<|B9 G (fun CR=>?_) (fun CR=>?_)
  ·
   refine AZ<|Am<|B5<|Ae<|Fo 0 G G G I6 G fun T6=>Gi 0 G G (At G) G fun Nj cX=>CT Um G fun Jo=>BZ 0 (us:=(JH ((a.A0.getD i default)))) G G G (At G) G G<|Ac<|I5 4 [0] G G<|B9 G (fun JQ=>?_) (fun JQ=>?_)
   · exact Ae<|BJ 0 (JH ((a.A0.getD i default))) G G (At G) G G<|BZ 1 (us:=(JH ((a.A0.getD i default)))) G G G (At G) G G<|U 1 G<|Ac<|rt<|C9<|Cd<|Cd<|C9<|Cd<|D8 () [_,_,_] (Fp 1 G G G G (At G)) (by have B4:a' a n=some i:=Tc (by omega) C0 (decide_eq_true JQ);rw[V8,WK,if_pos Ey,Ey,B4];rfl) G Aa
   ·
    refine EG<|CU<|A5<|rg<|C5 G G BV G<|An G G<|nl<|AQ ?_;exact Dy (i+1) ⟨(by omega),(Ki C0 (decide_eq_false JQ))⟩ (by omega) (Bs G) G (Ad 2 G Aa)
  · exact ex<|Ck<|Ck<|D7<|A5<|Ae<|Db (ps:=[]) (cs:=(JH ((⟨0,0,0,0⟩:BD)))) (by rfl) (by kernel_rfl) G<|BZ 0 (us:=(JH ((⟨0,0,0,0⟩:BD)))) G G G (At G) G G<|U 1 G<|Ac<|rt<|D8 () [_,_] (Fp 0 G G G G (At G)) (by have B4:a' a n=none:=Tb (fun k AE=>C0 k (by omega));rw[V8,WK,if_pos Ey,Ey,B4];rfl) G Aa
theorem zu:Ext Tryz.prog 262 (Extern.SlicesOverlaps.overlaps #[69,69] #[4]):=⟨⟨_,Tryz.func262,by kernel_rfl,by kernel_rfl,by kernel_rfl,by kernel_rfl⟩⟩
theorem zv:Ext Tryz.prog 267 (Extern.SlicesOverlaps.overlaps #[22,22] #[4]):=⟨⟨_,Tryz.func267,by kernel_rfl,by kernel_rfl,by kernel_rfl,by kernel_rfl⟩⟩
theorem zw:Ext Tryz.prog 310 (Extern.SlicesOverlaps.overlaps #[23,23] #[4]):=⟨⟨_,Tryz.func310,by kernel_rfl,by kernel_rfl,by kernel_rfl,by kernel_rfl⟩⟩
theorem zx:Ext Tryz.prog 312 (Extern.SlicesOverlaps.overlaps #[26,26] #[4]):=⟨⟨_,Tryz.func312,by kernel_rfl,by kernel_rfl,by kernel_rfl,by kernel_rfl⟩⟩
theorem ZV:EH AG 39 46 7 56:=EH.mk Tryz.underlying39 (by kernel_rfl) (by decide)
theorem np:EH AG 94 164 2 24:=EH.mk Tryz.underlying94 (by kernel_rfl) (by decide)
theorem AlV:E3 AG 44 [.int .i64 0,.int .i64 0,.int .i64 0,.int .i64 0]:=E3.mk (by kernel_rfl)
theorem AjD:H5 AG 235 9 1:=⟨Tryz.underlying235,by kernel_rfl⟩
theorem nq:EH AG 235 9 1 16:=EH.mk Tryz.underlying235 (by kernel_rfl) (by decide)
theorem lQ:H5 AG 259 171 1:=⟨Tryz.underlying259,by kernel_rfl⟩
theorem lR:H5 AG 339 175 1:=⟨Tryz.underlying339,by kernel_rfl⟩
theorem dg:E3 AG 29 [.slice none 0 0]:=E3.mk (by kernel_rfl)
theorem HB:EH AG 259 171 1 8:=EH.mk Tryz.underlying259 (by kernel_rfl) (by decide)
theorem QO:EH AG 339 175 1 8:=EH.mk Tryz.underlying339 (by kernel_rfl) (by decide)
theorem df:E3 AG 3 [.int .i64 0]:=E3.mk (by kernel_rfl)
theorem AjC:H5 AG 94 164 2:=⟨Tryz.underlying94,by kernel_rfl⟩
theorem AlU:E3 AG 164 [.int .i64 0,.string ByteArray.empty]:=E3.mk (by kernel_rfl)
theorem tn:H5 AG 39 46 7:=⟨Tryz.underlying39,by kernel_rfl⟩
theorem AJ5:Oc AG 46 7:=⟨⟨_,Tryz.underlying46,rfl⟩,by kernel_rfl⟩
theorem AHw:E3 AG 85 [.string ByteArray.empty,.int .i64 0,.int .i64 0,.int .i64 0]:=E3.mk (by kernel_rfl)
theorem AG1:QD AG 85 0 0:=QD.mk Tryz.underlying85 rfl (by kernel_rfl) rfl
theorem AHn:QD AG 85 1 1:=QD.mk Tryz.underlying85 rfl (by kernel_rfl) rfl
theorem AHo:QD AG 85 2 3:=QD.mk Tryz.underlying85 rfl (by kernel_rfl) rfl
theorem AIN:H5 AG 79 33 6:=⟨Tryz.underlying79,by kernel_rfl⟩
theorem AH':EH AG 79 33 6 64:=EH.mk Tryz.underlying79 (by kernel_rfl) (by decide)
theorem DW:A' 0:=⟨by decide,by decide⟩
theorem ee{b:Bool}:IA b=0↔b=true:=by cases b<;>simp[IA]
theorem rising{n B:Nat}{f:Nat->Int}(h:∀j,j<n->f j>Nh f j/\f j<=(B:Int)):n<=B:=by
 have key:∀j,j<n->f j>=(j:Int)+1:=by
  intro j;induction j with
  |zero=>
   intro Ay;have:=(h 0 Ay).1;simp only[Nh]at this;omega
  |succ j Cg=>
   intro Ay;have Af:=(h (j+1) Ay).1;simp only[Nh]at Af;have:=Cg (by omega);omega
 cases n with
 |zero=>omega
 |succ n=>
  have Af:=key n (by omega);have h2:=(h n (by omega)).2;omega
theorem TE{l:List BL}(h:Fg l=true):l.length<=8:=by
 refine rising (f:=fun k=>(l.getD k default).Ap) fun j Ay=>?_;have:=(Nz.1 h) j Ay;simp only[fk,Bool.not_eq_true',Bool.or_eq_false_iff,decide_eq_false_iff_not]at this;omega
theorem ed{l:List Df}(h:HE l=true):l.length<=8:=by
 refine rising (f:=fun k=>(l.getD k default).Ap) fun j Ay=>?_;have:=(Nz.1 h) j Ay;simp only[Jj,Bool.not_eq_true',Bool.or_eq_false_iff,Bool.not_eq_false',Bool.and_eq_true,decide_eq_false_iff_not,decide_eq_true_eq]at this;omega
theorem V0{l:List Bx}(h:Is l=true):l.length<=4:=by
 unfold Is at h;split at h
 · cases h
 · rename_i Ao;simp only[decide_eq_true_eq]at Ao;omega
theorem S0{a:AD}(h:E4 a=true):a.A0.length<=5:=by
 unfold E4 at h;split at h
 · cases h
 · rename_i Ao;simp only[VO,Bool.or_eq_true,not_or,Bool.not_eq_true',Bool.not_eq_false]at Ao;exact PC Ao.2
theorem Aii{b:List UInt8}(h:(Er b).2=0):b.length<=65536:=by
 by_cases he:65536<b.length
 · exfalso;unfold Er NF at h;rw[if_pos he]at h;simp at h
 · omega
theorem UP{α:Type}[Inhabited α]{l:List α}{x:α}(h:x∈l):∃j,j<l.length/\l.getD j default=x:=by
 obtain⟨j,Ay,rfl⟩:=List.getElem_of_mem h;exact⟨j,Ay,by simp[List.getD,List.getElem?_eq_getElem Ay]⟩
end Go.Apw
