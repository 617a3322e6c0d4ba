/- Part 16 of shardWhole_holds. -/
import Derived.Test.YtklmcfecakaanaaGreatSq15

set_option maxRecDepth 20000
set_option maxHeartbeats 1000000
open Go.Proofs.Tryz renaming underlying246→AR2,underlying249→AR3,underlying36→ARL,underlying38→ARQ,underlying39→ARN,underlying40→ARR,underlying43→ARO,underlying9→ABO
open List renaming length_nil→ABo
open Go.A_ Go.Apw Go.Proofs Go.Proofs.YtklmcfecakaanaaGreat
namespace Go.Proofs.YtklmcfecakaanaaGreat.Ref
end Go.Proofs.YtklmcfecakaanaaGreat.Ref
namespace Go.Apw
end Go.Apw
namespace Go.Proofs.YtklmcfecakaanaaGreat.Ref
section
attribute [local irreducible] UO UM Iu UL Wc L_ HF GG Hk GX F2 FC D6 Gm Kw DT
end
section
attribute [local irreducible] FC D6 Gm Kw DT
end
section
attribute [local irreducible] FC D6 Gm Kw DT Q0 NF Lm
end
end Go.Proofs.YtklmcfecakaanaaGreat.Ref
namespace Go.Apw
theorem ln(PU:Value)(b:List UInt8):Aw AG 36 [PU] [] [⟨PU,b⟩] (fun(y:Value×Value×Value×Value×Value×Value) r=>r=.tuple #[.agg (BY (Er b).1 y.1 y.2.1 y.2.2.1 y.2.2.2.1 y.2.2.2.2.1 y.2.2.2.2.2).toArray,.int .i64 (Er b).2]) (fun _ _=>[]) (fun y _=>[⟨y.1,(Er b).1.Aj⟩,⟨y.2.1,(Er b).1.Bz⟩,⟨y.2.2.1,(Er b).1.AA⟩,⟨y.2.2.2.1,(Er b).1.Bj⟩,⟨y.2.2.2.2.1,(Er b).1.CX⟩,⟨y.2.2.2.2.2,(Er b).1.Cf⟩]):=XM.Ain PU b
theorem N0:H5 AG 38 108 11:=⟨ARQ,ARs⟩
theorem SM:E3 AG 108 [ALu,ALu,ALu,ALu,ALu,ALu,AL7,AL7,ALu,ALu,ALu]:=E3.mk ARs
theorem LQ:E3 AG 45 [ALu,ALu,.bool false,AL7,AL7,ALu,AI,AI,AI,AI,AI,ALu,ALu,ALu,AL7,AL7,ALu,ALu,ALu,ALu,ALu,AL7,AL7,ALu,ALu,AI,ALu,ALu,ALu]:=E3.mk ARs
theorem tx(s:Bv)(El EV D_ EA Em Eh:Value)(J8:s.wf):Cv AG 18 [.agg (BY s El EV D_ EA Em Eh).toArray] [⟨El,s.Aj⟩,⟨EV,s.Bz⟩,⟨D_,s.AA⟩,⟨EA,s.Bj⟩,⟨Em,s.CX⟩,⟨Eh,s.Cf⟩] (.bool (LN s)):=by
 refine Aw.proof Tryz.func18 G 133 G G fun X w=>Ae<|CV G G G fun CY=>U 1 G<|Ac<|Am<|Ae<|AX 2 [0] G G<|B0 (Zh _ J8.1) (Ar G) G Aa G<|U 2 G ?_;refine DE 11 14 [1] G G (fun Ct ZI=>by
  exact AX 7 [0,0,0] G G<|AX 3 [0,0] G G<|Bl G G G<|BH (xs:=[.tmp 13,.tmp 15,.tmp 17,.tmp 19,.tmp 21]) (us:=[.int .i64 s.DX,.int .i64 s.Dn,.int .i64 s.Jc,.int .i64 s.JL,.int .i64 s.GW]) (E:=3) (bytes:=8) (n:=5) G (by exact RL) G G G G G G fun Amb=>Q5 (α:=Int) [s.DX,s.Dn,s.Jc,s.JL,s.GW] [[.int .i64 s.DX],[.int .i64 s.Dn],[.int .i64 s.Jc],[.int .i64 s.JL],[.int .i64 s.GW]] G (fun S w h=>⟨⟨G,J8.2.1⟩,⟨G,J8.2.2.2.2.2.1⟩,⟨G,J8.2.2.2.2.2.2.2.2.2.2.2.2.2.2.1⟩,⟨G,J8.2.2.2.2.2.2.2.2.2.2.2.2.2.2.2.1⟩,⟨G,J8.2.2.2.2.2.2.2.2.2.2.2.2.2.2.2.2⟩,trivial⟩) (ABy G)<|Bl G G G<|B0 (yn _ _) (Ar G) G (Ad 0 G Aa) G<|U 2 G<|ZI G (Bg.tail Br)) ?_
 refine An G G<|DE 26 4 [1] G G (fun JR VE=>Bl G G G<|BJ 0 (BY s El EV D_ EA Em Eh) G G (At G) G G<|Bl G G G<|B0 (AfW _ _ _ _ _ _ _ J8) (Ar G) G (BE [0,1,2,3,4,5] G) G<|U 2 G<|VE G Br)<|An G G<|DE 31 4 [1] G G (fun ES g1=>Bl G G G<|BJ 0 (BY s El EV D_ EA Em Eh) G G (At G) G G<|Bl G G G<|B0 (Ai6 _ _ _ _ _ _ _ J8) (Ar G) G (BE [0,1,2,3,4,5] G) G<|U 2 G<|g1 G Br)<|Ac<|BN G (fun Lz=>?_) (fun Lz=>?_)
 ·
  have S8:(Zj s)=true:=Lz;exact AF 1 G<|BA<|AQ<|Bq () G G (by rw[LN,AA_ S8]) G Aa
 have S8:(Zj s)=false:=Lz;refine AZ<|Am<|Ae<|AX 2 [0] G G<|B0 (Xd _ _) (Ar G) G (Ad 1 G Aa) G<|U 2 G ?_;refine DE 40 5 [1] G G (fun K7 ZN=>by
  have Af7:=K7;simp only[ABI,ABa]at Af7;exact AX 2 [0] G G<|Bl G G G<|B0 (dS _ _) (Ar G) G (Ad 3 G Aa) G<|U 2 G<|ZN G Br) ?_
 refine An G G<|DE 46 5 [1] G G (fun US ZO=>AX 2 [0] G G<|Bl G G G<|B0 (X2 _ _) (Ar G) G (Ad 4 G Aa) G<|U 2 G<|ZO G Br)<|An G G<|DE 52 5 [1] G G (fun iK g5=>AX 2 [0] G G<|Bl G G G<|C2 2 G G ARQ G fun AnW=>U 2 G<|g5 G Br)<|Ac<|BN G (fun ev=>?_) (fun ev=>?_)
 ·
  have X6:(Zk s)=true:=ev;exact AF 1 G<|BA<|AQ<|Bq () G G (by rw[LN,AA9 (by rw[S8];decide),AA_ X6]) G Aa
 have X6:(Zk s)=false:=ev;refine AZ<|Am<|Ae<|AX 2 [0] G G<|C2 2 G G ARQ G fun Adk=>An G G<|Ac<|B5<|Ji (σ:=Nat) [(1,_),(59,_),(60,_)] _ (fun i C=>(61,.int .i64 (i:Int))::C) (fun i=>i<=s.AA.length/\(∀j,j<i->Mr s (s.AA.getD j default)=true)) (fun i=>s.AA.length-i) 0 (Bs G) (Ad 0 G (Ad 1 G (Ad 2 G (Ad 3 G (Ad 4 G (Ad 5 G Aa)))))) ⟨ABg _,fun j Ay=>absurd Ay (AB2 j)⟩ (Bs G) ?_;rintro i ⟨Ag,C0⟩;refine AF 1 G<|Am<|B9 G (fun Th=>?_) (fun Th=>?_)
 ·
  refine AZ<|Am<|B5<|Ae<|Fo 2 G G G N0 G fun AoO=>Gi 0 G G (At G) G fun Aor uz=>CT SM G fun En=>BZ 0 (us:=(Hh ((s.AA.getD i default)))) G G G (At G) G G<|Ac<|Ae<|BJ 1 (BY s El EV D_ EA Em Eh) G G (At G) G G<|BJ 0 (Hh ((s.AA.getD i default))) G G (At G) G G<|B0 (Ak8 _ _ _ _ _ _ _ _ J8 uz) (Ar G) G (BE [2,3,4,5,6,7] G) G<|IH G G<|Ac<|BN G (fun R5=>?_) (fun R5=>?_)
  · exact AF 1 G<|rt<|C9<|Cd<|Cd<|C9<|Cd<|AQ<|AQ<|Bq () G G (by rw[LN,AA9 (by rw[S8];decide),AA9 (by rw[X6];decide),AA9 (by rw[gm,Ur i AMT (by simpa using R5)];decide)]) G Aa
  refine EG<|CU<|A5<|rg<|C5 G G BV G<|An G G<|nl<|AQ ?_;exact Dy (i+1) ⟨AMT,(Ki C0 (by simpa using R5))⟩ AMT (Bs G) G (BE [2,3,4,5,6,7] G)
 have h0:gm s=true:=Us (fun j Ay=>C0 j AMT);refine ex<|Ck<|Ck<|D7<|A5<|Am<|Ae<|U 1 G<|BJ 0 (ED s.Bt) G G (At G) G G<|Db (ps:=[]) (cs:=(ED (Gs))) ARz ARs G<|Qo RV (s.Bt) (Gs) G G G<|An G G ?_;refine D4 74 29 [1] G G (fun ew vI=>by
  have Aga:=ew;simp only[ABe,ABl]at Aga;refine U 1 G<|Bl G G G<|BJ 0 (ED s.Bt) G G (At G) G G<|Bl G G G<|B0 (fC _ J8.2.2.2.2.2.2.2.2.2.2.2.1) (Ar G) G Aa G<|U 2 G ?_;refine DE 79 7 [1,74] G G (fun AmX g_=>by
   exact AX 7 [0,0] G G<|g_ G Br) ?_
  refine U 1 G ?_;refine DE 87 7 [1,74] G G (fun AmY ARK=>by
   exact AX 7 [0,0] G G<|ARK G Br) ?_
  refine U 1 G ?_;refine DE 95 7 [1,74] G G (fun Yg vH=>by
   exact Bl G G G<|BJ 0 (BY s El EV D_ EA Em Eh) G G (At G) G G<|AX 3 [0] G G<|Bl G G G<|B0 (kJ _ _ _ _ _ _ _ _ J8) (Ar G) G (BE [0,1,2,3,4,5] G) G<|U 2 G<|vH G Br) ?_
  exact U 1 G<|vI G Br) ?_
 refine Ac<|BN G (fun iA=>?_) (fun iA=>?_)
 ·
  have dY:(Xe s)=true:=iA;exact AF 1 G<|BA<|AQ<|Bq () G G (by rw[LN,AA9 (by rw[S8];decide),AA9 (by rw[X6];decide),AA_ h0,dY];first|(rw[dZ];try rfl)|(try rfl)) G Aa
 have dY:(Xe s)=false:=iA;refine AZ<|Am<|Ae<|U 1 G<|BJ 0 (ED s.CW) G G (At G) G G<|Db (ps:=[]) (cs:=(ED (Gs))) ARz ARs G<|RU RV (s.CW) (Gs) G G G<|Ac<|B9 G (fun iC=>?_) (fun iC=>?_)
 ·
  have dZ:(decide (s.CW=⟨0,0,0,ByteArray.empty,ByteArray.empty,0,0⟩))=true:=(ABG iC);exact Ae<|AX 2 [0] G G<|C2 5 G G ARO G fun Adf=>U 2 G<|Ac<|BA<|AQ<|Bq () G G (by rw[LN,AA9 (by rw[S8];decide),AA9 (by rw[X6];decide),AA_ h0,dY];first|(rw[dZ];try rfl)|(try rfl)) G Aa
 have dZ:(decide (s.CW=⟨0,0,0,ByteArray.empty,ByteArray.empty,0,0⟩))=false:=(ABM iC);refine AZ<|Ae<|AX 2 [0] G G<|Dm (ln _ _) (Ar G) G (Ad 5 G Aa) G fun AlF AkB Wf=>?_;obtain⟨uZ,u0,u1,u2,u3,u4⟩:=AlF;replace Wf:AkB=.tuple #[.agg (BY (Er _).1 uZ u0 u1 u2 u3 u4).toArray,.int .i64 (Er _).2]:=Wf;subst Wf;refine U 3 G<|CT LQ G fun E'=>Cp 0 G fun Ae5=>?_;refine Cp 1 G fun Ae6=>?_;refine Cp 2 G fun Ae7=>?_;refine Cp 3 G fun Ae8=>?_;refine Cp 4 G fun Ae9=>?_;refine Cp 5 G fun Ae_=>?_;exact BZ 0 (us:=(BY ((Er s.Cf).1) uZ u0 u1 u2 u3 u4)) G G G (At G) (by simp only[ABn,ABr,ABp,Ae5,Ae6,Ae7,Ae8,Ae9,Ae_];rfl) G<|U 1 G<|Ac<|Ae<|U 1 G<|BJ 1 (ED s.CW) G G (At G) G G<|B0 (fC _ J8.2.2.2.2.2.2.2.2.2.2.2.2.1) (Ar G) G Aa G<|An G G<|Fu 121 7 [1,1] [6] G G G<|An G G<|Fu 129 3 [] [] G G G<|U 1 G<|Ac<|rt<|AQ<|AQ<|Bq () G G (by rw[LN,AA9 (by rw[S8];decide),AA9 (by rw[X6];decide),AA_ h0,dY];first|(rw[dZ];try rfl)|(try rfl)) G Aa
theorem AjA(s:Bv)(El EV D_ EA Em Eh:Value)(J8:s.wf):Cv AG 9 [.agg (BY s El EV D_ EA Em Eh).toArray] [⟨El,s.Aj⟩,⟨EV,s.Bz⟩,⟨D_,s.AA⟩,⟨EA,s.Bj⟩,⟨Em,s.CX⟩,⟨Eh,s.Cf⟩] (.int .i64 (IA (LN s))):=by
 refine Aw.proof Tryz.func9 G 6 G G fun X w=>Ae<|CV G G G fun CY=>U 1 G<|Ac<|Am<|Ae<|BJ 0 (BY s El EV D_ EA Em Eh) G G (At G) G G<|B0 (tx _ _ _ _ _ _ _ J8) (Ar G) G (BE [0,1,2,3,4,5] G) G<|IH G G<|Ac<|BN G (fun C'=>?_) (fun C'=>?_)
 · exact AF 1 G<|BA<|AQ<|Bq () G G (by rw[IA,AA9 (by have q:=C';rw[ABe]at q;rw[q];decide)]) G Aa
 exact AZ<|AF 1 G<|rt<|AQ<|Bq () G G (by rw[IA,AA_ (by have q:=C';rw[ABI]at q;exact q)]) G Aa
theorem AuZ:E3 AG 30 [ALu,.int .u64 0]:=E3.mk ARs
theorem AvV(S:Int)(n:Int)(BO:mW S)(MB:A' n):Cv AG 12 [.agg (AuI (wide S)).toArray,.int .i64 n] [] (.agg (AuI (wide (S+n))).toArray):=by
 refine Aw.proof Tryz.func12 G 28 G G fun X w=>?_;obtain⟨Yk,Yl⟩:=id MB;obtain⟨AmZ,Awo⟩:=id BO;refine Ae<|CV G G G fun Dh=>CT AuZ G fun En=>Ac<|Ae<|AX 3 [1] G G<|F0 ABc AC4 G (OE _) G ?_;have AyR:=fun w=>m_ (P:=Tryz.prog) (S % 18446744073709551616) (n % 18446744073709551616) 0 AMT AMT AMT AMT w;refine hL oN AyR G G<|U 5 G<|Ac<|Ae<|AX 3 [1] G G<|F0 AC4 Tryz.underlying2 G (Uf BV) G<|C5 G G (show A' (S / 18446744073709551616+((S % 18446744073709551616+n % 18446744073709551616+0) / 18446744073709551616))from BV) G<|U 1 G<|Ac<|Am<|AF 2 G<|B9 G (fun JQ=>?_) (fun JQ=>?_)
 · exact rg<|An G G<|TU G G (show A' (S / 18446744073709551616+((S % 18446744073709551616+n % 18446744073709551616+0) / 18446744073709551616)-1)from BV) G<|U 1 G<|Ac<|Ae<|U 2 G<|Db (ps:=[(0,.tmp 25),(1,.tmp 26)]) (cs:=(AuI ((⟨(S / 18446744073709551616+((S % 18446744073709551616+n % 18446744073709551616+0) / 18446744073709551616)-1),((S % 18446744073709551616+n % 18446744073709551616+0) % 18446744073709551616)⟩:wm)))) ARz ARs G<|BZ 0 (us:=(AuI ((⟨(S / 18446744073709551616+((S % 18446744073709551616+n % 18446744073709551616+0) / 18446744073709551616)-1),((S % 18446744073709551616+n % 18446744073709551616+0) % 18446744073709551616)⟩:wm)))) G G G (At G) G G<|Ac<|rt<|D8 () [_,_] (Qv 0 G G G (At G)) (by exact AwG (AAn JQ MB)) G Aa
 exact AZ<|Ae<|U 2 G<|Db (ps:=[(0,.tmp 25),(1,.tmp 26)]) (cs:=(AuI ((⟨(S / 18446744073709551616+((S % 18446744073709551616+n % 18446744073709551616+0) / 18446744073709551616)),((S % 18446744073709551616+n % 18446744073709551616+0) % 18446744073709551616)⟩:wm)))) ARz ARs G<|BZ 0 (us:=(AuI ((⟨(S / 18446744073709551616+((S % 18446744073709551616+n % 18446744073709551616+0) / 18446744073709551616)),((S % 18446744073709551616+n % 18446744073709551616+0) % 18446744073709551616)⟩:wm)))) G G G (At G) G G<|Ac<|rt<|D8 () [_,_] (Qv 0 G G G (At G)) (by exact AwG (AAo JQ MB)) G Aa
theorem AAp(S:Int)(BO:mW S):Cv AG 13 [.agg (AuI (wide S)).toArray] [] (.tuple #[.int .i64 (IntKind.i64.wrap (S % 18446744073709551616)),.bool (J3 S)]):=by
 refine Aw.proof Tryz.func13 G 25 G G fun X w=>?_;obtain⟨AmZ,Awo⟩:=id BO;refine Ae<|CV G G G fun CY=>U 2 G<|Ac<|Am<|Gx mixed ARs<|AX 2 [0] G G<|F0 AC4 ABc G G G<|AX 2 [0] G G<|U 2 G<|Fu 10 4 [0] [1,6] G G G<|An G G ?_;refine DE 15 9 [6] G G (fun Ft gY=>by
  exact AX 4 [0] G G<|Fu 19 4 [0] [6,15] G G G<|U 1 G<|gY G Br) ?_
 exact U 2 G<|Gj<|A5<|rt<|AQ<|Fl () G G G (by exact ABE (fun b=>Value.tuple #[.int .i64 (IntKind.i64.wrap (S % 18446744073709551616)),.bool b]) (M9 BO)) G Aa
theorem Axt(CP:Value)(l:List Int)(AN:l.length<=1000):Cv AG 10 [CP] [⟨CP,l⟩] (.agg (AuI (wide l.sum)).toArray):=by
 refine Aw.proof Tryz.func10 G 19 G G fun X w=>HP (q:=nb l) (fun S w h=>AcO (h _ (ABx ..))) fun Cl=>?_;have Ew:=Az_ Cl AN;refine Ae<|CT AuZ G fun Dh=>Ac<|Ae<|Db (ps:=[]) (cs:=AuI (wide 0)) ARz ARs G<|CT AuZ G fun DQ=>BZ 0 (us:=(AuI ((wide 0)))) G G G (At G) G G<|Ac<|Am<|AF 1 G<|B5<|Hx (σ:=Nat) [(0,_),(2,_),(3,_)] _ (fun i C=>(4,.int .i64 (i:Int))::C) (fun i=>[AO DQ 30 (AuI (wide (l.take i).sum)),AO Dh 30 Au9,CL X w]) (fun _ Dw=>Dw) (fun i=>i<=l.length) (fun i=>l.length-i) 0 (Bs G) (Ad 0 G Aa) (ABg _) (Bs G) G (Ad 0 G Aa) ?_;intro i Ag;refine Am<|Ae<|U 2 G<|C2 0 G G Tryz.underlying22 G fun Adl=>U 1 G<|Ac<|B9 G (fun EO=>?_) (fun EO=>?_)
 ·
  have Aq:=Ew i Ag;have Ab:=Aau Cl (i:=i) AMT;refine AZ<|Am<|B5<|Ow 6 mixed ARs<|BJ 0 (AuI ((wide (l.take i).sum))) G G (At G) G G<|U 2 G<|Fo 0 G G G tp G fun Xk=>CQ 0 G G (A2 G) G fun PV=>HD (AvV (l.take i).sum (l.getD i default) (by unfold mW;omega) Ab) (Ar G) G Aa G<|Oq<|BZ 0 (us:=(AuI ((wide ((l.take i).sum+l.getD i default))))) G G G (At G) G G<|nl<|CU<|A5<|rg<|An G G<|C5 G G BV G<|U 1 G<|nl ?_;exact Dy (i+1) AMT AMT (Bs G) (by rw[AjZ (l:=l) (i:=i) AMT];rfl) (Ad 1 G Aa)
 exact ex<|Ck<|Ck<|D7<|A5<|Ae<|BJ 0 (AuI ((wide (l.take i).sum))) G G (At G) G G<|BZ 1 (us:=(AuI ((wide (l.take i).sum)))) G G G (At G) G G<|Ac<|rt<|D8 () [_,_] (Qv 1 G G G (At G)) (by have e:i=l.length:=AMT;rw[e,ACB]) G Aa
theorem Axs(v:Value)(n:Int):Cv AG 10 [v] [⟨v,[n]⟩] (.agg (AuI (wide n)).toArray):=by
 have:=Axt v [n] (by simp)
 rwa [show[n].sum=n by simp]at this
theorem AjF(n:Int)(MB:A' n):Cv AG 8 [.int .i64 n] [] (.tuple #[.agg (BY (F8 n) AI AI AI AI AI AI).toArray,.int .i64 (if Ih n=true then 0 else 1)]):=by
 refine Aw.proof Tryz.func8 G 16 G G fun X w=>?_;obtain⟨Yk,Yl⟩:=id MB;refine Ae<|CT LQ G fun Dh=>U 1 G<|Ac<|Am<|Ae<|An G G<|B0 (Zh _ MB) (Ar G) G Aa G<|IH G G<|Ac<|BN G (fun GY=>?_) (fun GY=>?_)
 ·
  have q:Ih n=false:=(by simpa using GY);exact Ae<|Db (ps:=[]) (cs:=(BY Np AI AI AI AI AI AI)) ARz ARs G<|BZ 0 (us:=(BY Np AI AI AI AI AI AI)) G G G (At G) G G<|U 1 G<|Ac<|BA<|D8 () [_] (Fp 0 G G G G (At G)) (by rw[F8,q];rfl) G Aa
 have q:Ih n=true:=(by simpa using GY);refine AZ<|Ae<|An G G<|Db (ps:=[(0,.tmp 9)]) (cs:=(BY ((⟨n,0,false,ByteArray.empty,ByteArray.empty,0,[],[],[],[],[],Gs,Gs,[],0,0,0⟩:Bv)) AI AI AI AI AI AI)) ARz ARs G<|CT LQ G fun En=>BZ 0 (us:=(BY ((⟨n,0,false,ByteArray.empty,ByteArray.empty,0,[],[],[],[],[],Gs,Gs,[],0,0,0⟩:Bv)) AI AI AI AI AI AI)) G G G (At G) G G<|Ac<|Am<|Ae<|An G G<|U 1 G<|Ac<|B9 G (fun EM=>?_) (fun EM=>?_)
 · exact Ae<|U 1 G<|Fi 0 G G G (A2 G) G (Da G)<|Ac<|rg<|U 1 G<|Fi 0 G G G (A2 G) G (Da G)<|Ac<|Ae<|BJ 0 (BY ((⟨n,0,true,ByteArray.empty,ByteArray.empty,1,([]),([]),([]),([]),([]),Gs,Gs,([]),0,0,0⟩:Bv)) AI AI AI AI AI AI) G G (At G) G G<|BZ 1 (us:=(BY ((⟨n,0,true,ByteArray.empty,ByteArray.empty,1,([]),([]),([]),([]),([]),Gs,Gs,([]),0,0,0⟩:Bv)) AI AI AI AI AI AI)) G G G (At G) G G<|U 1 G<|Ac<|rt<|D8 () [_,_] (Fp 1 G G G G (At G)) (by rw[F8,q,AA_ rfl,AA_ rfl,AA_ rfl];simp[EM]) G Aa
 exact AZ<|Ae<|BJ 0 (BY ((⟨n,0,false,ByteArray.empty,ByteArray.empty,0,[],[],[],[],[],Gs,Gs,[],0,0,0⟩:Bv)) AI AI AI AI AI AI) G G (At G) G G<|BZ 1 (us:=(BY ((⟨n,0,false,ByteArray.empty,ByteArray.empty,0,[],[],[],[],[],Gs,Gs,[],0,0,0⟩:Bv)) AI AI AI AI AI AI)) G G G (At G) G G<|U 1 G<|Ac<|rt<|D8 () [_,_] (Fp 1 G G G G (At G)) (by rw[F8,q];simp[EM]) G Aa
theorem QN:EH AG 37 130 7 56:=EH.mk ADL ARs ARp
theorem OI:EH AG 36 58 10 104:=EH.mk ARL ARs ARp
theorem Mt:EH AG 38 108 11 104:=EH.mk ARQ ARs ARp
theorem QQ:EH AG 39 67 8 80:=EH.mk ARN ARs ARp
theorem RM:EH AG 40 125 2 16:=EH.mk ARR ARs ARp
theorem S1:EH AG 56 123 4 32:=EH.mk ADN ARs ARp
theorem ei(CP:Value)(l:List Bx)(c q:Int)(BK:A' c)(Ed:A' q):Cv AG 146 [CP,.int .i64 c,.int .i64 q] [⟨CP,l⟩] (.tuple #[.agg (H8 (findD l c q)).toArray,.bool (Tz l c q)]):=by
 refine Aw.proof Tryz.func146 G 25 G G fun X w=>?_;obtain⟨K9,K_⟩:=id BK;obtain⟨LD,LF⟩:=id Ed;refine Ae<|CT SO G fun Hg=>U 1 G<|Ac<|Ae<|U 3 G<|B0 (fA _ _ _ _ BK Ed) (Ar G) G (Ad 0 G Aa) G<|U 1 G<|Ac<|Am<|Ae<|U 3 G ?_;refine DE 15 4 [0,6,8] G G (fun Ft ZH=>by
  have An_:=ACe Ft;exact U 1 G<|Bl G G G<|B0 (dS _ _) (Ar G) G (Ad 0 G Aa) G<|U 2 G<|ZH G Br) ?_
 refine Ac<|BN G (fun Fe=>?_) (fun Fe=>?_)
 · exact Ae<|Db (ps:=[]) (cs:=(H8 ((⟨0,0,ByteArray.empty,ByteArray.empty,0,0,0,0⟩:Bx)))) ARz ARs G<|BZ 0 (us:=(H8 ((⟨0,0,ByteArray.empty,ByteArray.empty,0,0,0,0⟩:Bx)))) G G G (At G) G G<|U 1 G<|Ac<|BA<|D8 () [_] (Fp 0 G G G G (At G)) (by rw[findD,Tz,AA_ Fe,AA_ Fe];rfl) G Aa
 obtain⟨k,AE,Lb⟩:=Ahq Fe;exact AZ<|Ae<|An G G<|An (v:=.int .i64 ((k:Nat):Int)) (ABE (fun x=>some (Value.int .i64 x)) (by rw[AE];rfl)) G<|Fo 0 G G G Ox G fun Pe=>Gi 0 G G (At G) G fun MJ PW=>BZ 0 (us:=(H8 ((l.getD k default)))) G G G (At G) G G<|U 1 G<|Ac<|rt<|D8 () [_] (Fp 0 G G G G (At G)) (by rw[findD,Tz,AA9 (by rw[Fe];decide),AA9 (by rw[Fe];decide),AE];try rfl) G Aa
theorem QP:EH AG 43 5 1 1:=EH.mk ARO ARs ARp
end Go.Apw
namespace Go.A_
open Go.RowKit
def wu(m:Nat)(Q:AuE)(c:Cj)(ops:Array Oper)(l:List Oper)(env:Env)(L:Own)(D:List Atom):Prop:=
 ∀a w,Fr c.n a env->CI c.BW c.M w L->BP D w L->wpListIn Fence.wide m c.P ops Q l a w
instance AnG (m:Nat) (Q:AuE):Ip (wu m Q) where
 read:=by
  intro c ops env L D rest o dst σ CK AJ env' Dd Ek k a w f st AR;obtain⟨s,u,Bh,Jq,KI⟩:=Ek a w f st AR;refine AdI CK ⟨fun _ _=>trivial,?_⟩;have hs:Oper.semAt Fence.wide.round a.eval o=execOp a.eval o:=rfl;rw[hs,Bh w (C8.refl _ _)];simp only[Oper.uponIn,AJ];exact k s _ _ Jq st KI
 gI:=by
  intro c ops env L D rest dst op t p af g hw k a w f st AR;have:=k a w f st AR;unfold wpListIn at this ⊢;rw[AA_ (hw a w f st AR)];rw[AA_ (show Region.wanted ⟨dst,op,t,p,af,none⟩ (yielded ops a.tmps)=true from rfl)]at this;exact this
 c4:=by
  intro c ops env env' L D rest o hw k a w f st AR;obtain⟨Af,h2⟩:=hw a w f st AR;unfold wpListIn;rw[Af];simp only[ADJ,if_false];exact⟨fun _ _=>trivial,k _ _ h2 st AR⟩
 mono:=by
  intro c ops env env' L D Dd l h k a w f st AR;obtain⟨Af,h2⟩:=h a w f st AR;exact k a w Af st h2
 fact:=by
  intro c ops env L D l q h k a w f st AR;exact k (h a w f st AR) a w f st AR
section
section
variable{c:Cj} {ops:Array Oper} {J:Cj->Array Oper->List Oper->Env->Own->List Atom->Prop} [Dr:Ip J] {env:Env} {L:Own} {D:List Atom} {rest:List Oper} {d:Nat} {t:TypeId} {p:String} {af:Array Edge} {T:TypeId}
include Dr
theorem dC{ps:List (Nat×Operand)}{us:List Value}{cs:List Value}(Ab:Gq env (ps.map (·.2))=some us)(Aq:c.P.built T ((ps.map (·.1)).zip us)=some cs.toArray)(Ao:Nat.blt d c.n=true)(k:J c ops rest ((d,.agg cs.toArray)::env) L D):
 J c ops (⟨some d,.build T ps.toArray,t,p,af,none⟩::rest) env L D:=
 pu rfl rfl Ao (fun a w f=>by
  have e:=f.Gq Ab;subst e;have h2:(ps.toArray.map fun(i,x)=>(i,a.eval x)).toList=(ps.map (·.1)).zip ((ps.map (·.2)).map a.eval):=by
   simp only[List.map_toArray];clear Ab Aq;induction ps with
   |nil=>rfl
   |cons q r Cg=>simp only[AB8,List.zip_cons_cons,Cg]
  have:=run_build (P:=c.P) w T (ps.toArray.map fun(i,x)=>(i,a.eval x)) cs.toArray (by rw[h2];exact Aq);simp only[execOp,Sem.run_bind,this,Result.andThen_ok,Sem.run_pure]) k
end
end
end Go.A_
namespace Go.Apw
end Go.Apw
namespace Go.A_
open Go.RowKit
end Go.A_
namespace Go.Apw
theorem n0(Bk:Value)(l:List BL)(hlen:l.length<=100000):Aw AG 61 [Bk] [] [⟨Bk,l⟩] (fun(_:Unit) _=>True) (fun _ v=>[]) (fun _ v=>[⟨v,l⟩]):=by
 refine Aw.proof Tryz.func61 G 8 G G fun X w=>AF 1 G<|Am<|Ae<|An G G<|RT 0 ADL G G G G fun PM ARA=>Ac<|BN G (fun BB=>?_) (fun BB=>?_)
 ·
  have Ab:l=[]:=ARA BB;subst Ab;exact DJ (α:=BL)<|AF 1 G<|BA<|Bq () G G trivial G (Ad 0 G Aa)
 exact AZ<|Ae<|NB QN G fun E'=>Nm (α:=BL) [] [] G G (fun _ _ _=>trivial) G<|An G G<|ap 0 0 G G G G QN (by simp only[ABo];omega) (by simp only[ABo];omega) G fun EZ=>U 1 G<|Ac<|rt<|K5<|Bq () G G trivial G (Ad 0 G Aa)
theorem hI(Bk:Value)(l:List Bx)(hlen:l.length<=100000):Aw AG 63 [Bk] [] [⟨Bk,l⟩] (fun(_:Unit) _=>True) (fun _ v=>[]) (fun _ v=>[⟨v,l⟩]):=by
 refine Aw.proof Tryz.func63 G 8 G G fun X w=>AF 1 G<|Am<|Ae<|An G G<|RT 0 ARN G G G G fun PM ARA=>Ac<|BN G (fun BB=>?_) (fun BB=>?_)
 ·
  have Ab:l=[]:=ARA BB;subst Ab;exact DJ (α:=Bx)<|AF 1 G<|BA<|Bq () G G trivial G (Ad 0 G Aa)
 exact AZ<|Ae<|NB QQ G fun E'=>Nm (α:=Bx) [] [] G G (fun _ _ _=>trivial) G<|An G G<|ap 0 0 G G G G QQ (by simp only[ABo];omega) (by simp only[ABo];omega) G fun EZ=>U 1 G<|Ac<|rt<|K5<|Bq () G G trivial G (Ad 0 G Aa)
theorem hJ(Bk:Value)(l:List Df)(hlen:l.length<=100000):Aw AG 64 [Bk] [] [⟨Bk,l⟩] (fun(_:Unit) _=>True) (fun _ v=>[]) (fun _ v=>[⟨v,l⟩]):=by
 refine Aw.proof Tryz.func64 G 8 G G fun X w=>AF 1 G<|Am<|Ae<|An G G<|RT 0 ARR G G G G fun PM ARA=>Ac<|BN G (fun BB=>?_) (fun BB=>?_)
 ·
  have Ab:l=[]:=ARA BB;subst Ab;exact DJ (α:=Df)<|AF 1 G<|BA<|Bq () G G trivial G (Ad 0 G Aa)
 exact AZ<|Ae<|NB RM G fun E'=>Nm (α:=Df) [] [] G G (fun _ _ _=>trivial) G<|An G G<|ap 0 0 G G G G RM (by simp only[ABo];omega) (by simp only[ABo];omega) G fun EZ=>U 1 G<|Ac<|rt<|K5<|Bq () G G trivial G (Ad 0 G Aa)
theorem Aqr(Bk:Value)(l:List BD)(hlen:l.length<=100000):Aw AG 42 [Bk] [] [⟨Bk,l⟩] (fun(_:Unit) _=>True) (fun _ v=>[]) (fun _ v=>[⟨v,l⟩]):=by
 refine Aw.proof Tryz.func42 G 8 G G fun X w=>AF 1 G<|Am<|Ae<|An G G<|RT 0 ADN G G G G fun PM ARA=>Ac<|BN G (fun BB=>?_) (fun BB=>?_)
 ·
  have Ab:l=[]:=ARA BB;subst Ab;exact DJ (α:=BD)<|AF 1 G<|BA<|Bq () G G trivial G (Ad 0 G Aa)
 exact AZ<|Ae<|NB S1 G fun E'=>Nm (α:=BD) [] [] G G (fun _ _ _=>trivial) G<|An G G<|ap 0 0 G G G G S1 (by simp only[ABo];omega) (by simp only[ABo];omega) G fun EZ=>U 1 G<|Ac<|rt<|K5<|Bq () G G trivial G (Ad 0 G Aa)
theorem Ard(a:AD)(Cw:Value)(C6:a.wf)(Aq:a.A0.length<=100000):Aw AG 23 [.agg (A3 a Cw).toArray] [] [⟨Cw,a.A0⟩] (fun(y:Value) u=>u=.agg (A3 a y).toArray) (fun _ _=>[]) (fun y _=>[⟨y,a.A0⟩]):=by
 refine Aw.proof Tryz.func23 G 8 G G fun X w=>Ae<|CV G G G fun CY=>CT Hd G fun Dh=>Ac<|Ae<|AX 2 [1] G G<|Dm (Aqr _ _ Aq) (Ar G) G (Ad 0 G Aa) G fun _ Mp _=>U 1 G<|J2 1 0 G G G G (A2 G) (Da G)<|Ac<|Ae ?_;have Anj:=C6;refine BJ 1 (A3 ((⟨a.Al,(⟨a.Cs.A6,a.Cs.Bc⟩:GC),a.BT,a.Cn,a.A0,(⟨a.BG.Ap,a.BG.As,a.BG.DH,a.BG.B2⟩:F_)⟩:AD)) Mp) G G (At G) G G<|Cp 0 G fun WV=>?_;exact BZ 0 (us:=(A3 ((⟨a.Al,(⟨a.Cs.A6,a.Cs.Bc⟩:GC),a.BT,a.Cn,a.A0,(⟨a.BG.Ap,a.BG.As,a.BG.DH,a.BG.B2⟩:F_)⟩:AD)) Mp)) G G G (At G) (by simp only[ABn,ABr,ABp,WV];rfl) G<|Ac<|rt<|D8 Mp [_,_] (Qv 0 G G G (At G)) ARz G (Ad 0 G Aa)
theorem Aep(k:ByteArray):Cv AG 24 [.string k] [] (.tuple #[.agg (A3 (Sq k) AI).toArray,.int .i64 (kd k)]):=by
 refine Aw.proof Tryz.func24 G 15 G G fun X w=>Ae<|CT Hd G fun Dh=>U 1 G<|Ac<|Am<|Ae<|An G G<|PI G ABO G<|U 2 G ?_;refine DE 7 4 [0,2] G G (fun GY vK=>by
  have r8:=ACe GY;exact U 1 G<|Bl G G G<|PI G ABO G<|U 2 G<|vK G Br) ?_
 refine Ac<|BN G (fun Ct=>?_) (fun Ct=>?_)
 · exact Ae<|Db (ps:=[]) (cs:=(A3 FX AI)) ARz ARs G<|BZ 0 (us:=(A3 FX AI)) G G G (At G) G G<|U 1 G<|Ac<|BA<|D8 () [_] (Fp 0 G G G G (At G)) (by have q:Ix k=false:=(by rw[rP];have q:=Ct;simp only[ABk,ABa]at q;rw[jS];simp;omega);rw[Sq,kd,q];rfl) G Aa
 exact AZ<|Ae<|An G G<|Db (ps:=[(0,.tmp 13)]) (cs:=(A3 ((⟨k,cz,0,0,[],PF⟩:AD)) AI)) ARz ARs G<|BZ 0 (us:=(A3 ((⟨k,cz,0,0,[],PF⟩:AD)) AI)) G G G (At G) G G<|U 1 G<|Ac<|rt<|D8 () [_] (Fp 0 G G G G (At G)) (by have q:Ix k=true:=(by rw[rP];have q:=Ct;simp only[ABD,ABl]at q;rw[jS];simp;omega);rw[Sq,kd,q];rfl) G Aa
theorem AqC(S:Bv)(El EV D_ EA Em Eh:Value)(key:ByteArray)(A:AD)(Cl:ApH S key=A)(_:S.wf)(Aq:Ap3 S):Aw AG 15 [.agg (BY S El EV D_ EA Em Eh).toArray,.string key] [] [⟨El,S.Aj⟩,⟨EV,S.Bz⟩,⟨D_,S.AA⟩,⟨EA,S.Bj⟩,⟨Em,S.CX⟩,⟨Eh,S.Cf⟩] (fun(y:Value) u=>u=.tuple #[.agg (A3 A y).toArray,.bool (ApE S key)]/\A.wf) (fun _ _=>[]) (fun y _=>[⟨y,A.A0⟩]):=by
 refine Aw.proof Tryz.func15 G 30 G G fun X w=>Ae<|CV G G G fun Dh=>CT Hd G fun En=>U 1 G<|Ac<|Am<|Ae<|AX 2 [1] G G<|C2 0 G G ARL G fun qR=>An G G<|Ac<|B5<|Ji (σ:=Nat) [(1,_),(4,_),(11,_),(12,_)] _ (fun i C=>(13,.int .i64 (i:Int))::C) (fun i=>i<=S.Aj.length/\(∀j,j<i->decide ((S.Aj.getD j default).Al=key)=false)) (fun i=>S.Aj.length-i) 0 (Bs G) (Ad 0 G (Ad 1 G (Ad 2 G (Ad 3 G (Ad 4 G (Ad 5 G Aa)))))) ⟨ABg _,fun j Ay=>absurd Ay (AB2 j)⟩ (Bs G) ?_;rintro i ⟨Ag,C0⟩;refine AF 1 G<|Am<|B9 G (fun Fm=>?_) (fun Fm=>?_)
 ·
  refine AZ<|Am<|B5<|Ae<|Fo 0 G G G Gt G fun Xk=>Gi 0 G G (At G) G fun Ii PV=>?_;refine CT Hd G fun Jo=>Cp 1 G fun WU=>?_;refine BZ 0 (us:=(A3 ((S.Aj.getD i default)) Ii)) G G G (At G) (by simp only[ABn,ABr,ABp,WU];rfl) G<|Ac<|I5 4 [0] G G<|B9 G (fun HQ=>?_) (fun HQ=>?_)
  ·
   have B4:ApM S key=some i:=Tc AMT C0 (ABG HQ);have DC:(S.Aj.getD i default)=A:=(by rw[<-Cl,ApH,B4]);subst DC;have Kk:ApE S key=true:=(by rw[ApE,B4];rfl);refine Ae<|BJ 0 (A3 ((S.Aj.getD i default)) Ii) G G (At G) G G<|Dm (Ard _ _ PV (Aq i)) (Ar G) G (Ad 1 G Aa) G fun u6 RB JQ=>?_;subst JQ;refine Cp 0 G fun Ae'=>?_;exact BZ 1 (us:=(A3 ((S.Aj.getD i default)) u6)) G G G (At G) (by simp only[ABn,ABr,ABp,Ae'];rfl) G<|U 1 G<|Ac<|rt<|C9<|Cd<|Cd<|C9<|Cd<|D8 u6 [_,_,_] (Fp 1 G G G G (At G)) (by rw[Kk];exact⟨rfl,PV⟩) G (Ad 0 G Aa)
  refine EG<|CU<|A5<|rg<|C5 G G BV G<|An G G<|nl<|AQ ?_;exact Dy (i+1) ⟨AMT,(Ki C0 (ABM HQ))⟩ AMT (Bs G) G (BE [3,4,5,6,7,8] G)
 have B4:ApM S key=none:=Tb (fun k AE=>C0 k AMT);have DC:Sq key=A:=by rw[<-Cl,ApH,B4]
 subst DC;have Kk:ApE S key=false:=by rw[ApE,B4];rfl
 exact DJ (α:=BD)<|ex<|Ck<|Ck<|D7<|A5<|Ae<|An G G<|B0 (Aep _) (Ar G) G Aa G<|U 3 G<|CT Hd G fun K0=>BZ 0 (us:=(A3 ((Sq key)) AI)) G G G (At G) G G<|U 1 G<|Ac<|Ae<|BJ 0 (A3 ((Sq key)) AI) G G (At G) G G<|BZ 1 (us:=(A3 ((Sq key)) AI)) G G G (At G) G G<|U 1 G<|Ac<|rt<|D8 AI [_,_,_] (Fp 1 G G G G (At G)) (by rw[Kk];exact⟨rfl,rI _⟩) G (Ad 0 G Aa)
theorem oE(CP:Value)(l:List Df)(c:Int)(BK:A' c):Cv AG 191 [CP,.int .i64 c] [⟨CP,l⟩] (.tuple #[.int .i64 (V6 l c:Int),.bool (U8 l c)]):=by
 refine Aw.proof Tryz.func191 G 27 G G fun X w=>?_;obtain⟨K9,K_⟩:=id BK;refine AF 2 G<|Am<|Ae<|An G G<|C2 0 G G ARR G fun Sm=>An G G<|Ac<|B5<|Ji (σ:=Nat) [(0,_),(1,_),(8,_),(9,_)] _ (fun i C=>(10,.int .i64 (i:Int))::C) (fun i=>i<=l.length/\(∀j,j<i->decide ((l.getD j default).Ap>=c)=false)) (fun i=>l.length-i) 0 (Bs G) (Ad 0 G Aa) ⟨ABg _,fun j Ay=>absurd Ay (AB2 j)⟩ (Bs G) ?_;rintro i ⟨Ag,C0⟩;refine AF 1 G<|Am<|B9 G (fun Ct=>?_) (fun Ct=>?_)
 ·
  refine AZ<|Am<|B5<|Ae<|An G G<|Fo 0 G G G Ky G fun RA=>Gi 0 G G (At G) G fun MI SE=>CT de G fun Jo=>U 1 G<|BZ 0 (us:=(QT ((l.getD i default)))) G G G (At G) G G<|Ac<|I5 4 [0] G G<|B9 G (fun ER=>?_) (fun ER=>?_)
  · exact Am<|Gx mixed ARs<|AX 7 [0] G G<|Gj<|A5<|rt<|C9<|Cd<|Cd<|C9<|Cd<|AQ<|Fl () G G G (by have B4:X' l c=some i:=Tc AMT C0 (ABG ER);rw[V6,U8,B4];rfl) G Aa
  refine EG<|CU<|A5<|rg<|C5 G G BV G<|An G G<|nl<|AQ ?_;exact Dy (i+1) ⟨AMT,(Ki C0 (ABM ER))⟩ AMT (Bs G) G (Ad 2 G Aa)
 exact ex<|Ck<|Ck<|D7<|A5<|Ae<|An G G<|C2 0 G G ARR G fun Adh=>U 2 G<|Ac<|rt<|Fl () G G G (by have B4:X' l c=none:=Tb (fun k AE=>C0 k AMT);rw[V6,U8,B4];rfl) G Aa
theorem sd(CP:Value)(l:List Df)(c:Int)(q:Int)(BK:A' c)(Ed:A' q):Cv AG 122 [CP,.int .i64 c,.int .i64 q] [⟨CP,l⟩] (.bool (kP l c q)):=by
 refine Aw.proof Tryz.func122 G 30 G G fun X w=>?_;obtain⟨K9,K_⟩:=id BK;obtain⟨LD,LF⟩:=id Ed;refine HP (q:=l.length<=9223372036854775807) (fun S w h=>L1 (h _ (AA' (i:=0) G))) fun hlen=>AF 1 G<|Ae<|U 2 G<|B0 (oE _ _ _ BK) (Ar G) G (Ad 0 G Aa) G<|U 3 G<|U 2 G<|Ac<|Ae<|U 2 G ?_;refine D4 16 8 [0] G G (fun CR gY=>by
  have C_:=AcS CR;exact U 2 G<|Bl G G G<|Fo 0 G G G Ky G fun KC=>Bl G G G<|CJ 0 r' G G (BR G) G fun v20=>Bl G G G<|CQ 0 G G (A2 G) G fun uv=>U 3 G<|gY G (Bg.tail (Bg.tail Br))) ?_
 exact An G G<|D4 25 4 [] G G (fun Gr vR=>U 1 G<|Bl G G G<|B0 (X2 _ _) (Ar G) G (Ad 0 G Aa) G<|U 2 G<|vR G Br)<|U 1 G<|Ac<|rt<|Bq () G G ARz G Aa
theorem jR(CP:Value)(l:List BX)(f:Nat)(D0:Array Value)(A:List Atom)(p:BX->Bool)(CM:GU AG f)(E5:∀x:BX,x.wf->Cv AG f (.agg (Hh x).toArray::D0.toList) A (.bool (p x))):Cv AG 118 [CP,.func (.func f) #[] D0] (⟨CP,l⟩::A) (.int .i64 (HI (Gd l.length (fun j=>p (l.getD j default))))):=by
 refine Aw.proof Tryz.func118 G 19 G G fun X w=>AF 1 G<|Am<|Ae<|An G G<|C2 0 G G ARQ G fun MD=>An G G<|Ac<|B5<|Ji (σ:=Nat) [(0,_),(1,_),(7,_)] _ (fun i C=>(8,.int .i64 (i:Int))::C) (fun i=>i<=l.length/\(∀j,j<i->p (l.getD j default)=false)) (fun i=>l.length-i) 0 (Bs G) (Ad 0 G (Bg.tail Br)) ⟨ABg _,fun j Ay=>absurd Ay (AB2 j)⟩ (Bs G) ?_;rintro i ⟨Ag,C0⟩;refine AF 1 G<|Am<|B9 G (fun EO=>?_) (fun EO=>?_)
 ·
  refine AZ<|Am<|B5<|AF 2 G<|Ae<|U 2 G<|An G G<|Fo 0 G G G N0 G fun PS=>Gi 0 G G (At G) G fun KR N6=>QV (E5 _ N6) CM G G G (Bg.tail (Bg.tail (Bg.tail Br))) G fun Ui Mn V4=>?_;obtain rfl:Mn=.bool (p (l.getD i default)):=V4;refine Ac<|BN G (fun CR=>?_) (fun CR=>?_)
  · exact AF 2 G<|rt<|C9<|Cd<|Cd<|C9<|Cd<|Bq () G G (by rw[Tc (j:=i) AMT C0 CR];try rfl) G Aa
  refine EG<|CU<|A5<|rg<|C5 G G BV G<|An G G<|nl ?_;exact Dy (i+1) ⟨AMT,(Ki C0 (CR))⟩ AMT (Bs G) G (Ad 2 G (Bg.tail (Bg.tail (Bg.tail Br))))
 exact ex<|Ck<|Ck<|D7<|A5<|AF 1 G<|rt<|Bq () G G (by rw[Tb (fun k AE=>C0 k AMT)];try rfl) G Aa
theorem n7(CP:Value)(l:List BX)(f:Nat)(D0:Array Value)(A:List Atom)(p:BX->Bool)(CM:GU AG f)(E5:∀x:BX,x.wf->Cv AG f (.agg (Hh x).toArray::D0.toList) A (.bool (p x))):Cv AG 125 [CP,.func (.func f) #[] D0] (⟨CP,l⟩::A) (.bool (decide (HI (Gd l.length (fun j=>p (l.getD j default)))>=0))):=by
 exact Aw.proof Tryz.func125 G 9 G G fun X w=>AF 1 G<|Ae<|U 2 G<|B0 (jR _ _ f D0 A p CM E5) (Ar G) G (Ad 0 G (Bg.tail Br)) G<|U 2 G<|Ac<|rt<|Bq () G G ARz G Aa
theorem zK(a:AD)(Cw:Value)(n:Int)(C6:a.wf):Cv AG 185 [.agg (A3 a Cw).toArray,.int .i64 n] [⟨Cw,a.A0⟩] (.tuple #[.agg (JH (V8 a n)).toArray,.bool (WK a n)]):=by
 refine Aw.proof Tryz.func185 G 26 G G fun X w=>Ae<|CV G G G fun Dh=>CT Um G fun En=>U 1 G<|Ac<|Am<|Ae<|BJ 1 (A3 a Cw) G G (At G) G G<|B0 (Ps _ _ C6) (Ar G) G (Ad 0 G Aa) G<|IH G G<|Ac<|BN G (fun Dq=>?_) (fun Dq=>?_)
 ·
  have q1:¬E4 a=true:=(by simpa using Dq);exact Ae<|Db (ps:=[]) (cs:=(JH ((⟨0,0,0,0⟩:BD)))) ARz ARs G<|BZ 0 (us:=(JH ((⟨0,0,0,0⟩:BD)))) G G G (At G) G G<|U 1 G<|Ac<|BA<|D8 () [_,_] (Fp 0 G G G G (At G)) (by rw[V8,WK,AA9 q1,show E4 a=false by simpa using q1];rfl) G Aa
 have q1:E4 a=true:=by simpa using Dq
 refine AZ<|Am<|Ae<|AX 2 [1] G G<|C2 0 G G ADN G fun qS=>An G G<|Ac<|B5<|Ji (σ:=Nat) [(1,_),(4,_),(13,_),(14,_)] _ (fun i C=>(15,.int .i64 (i:Int))::C) (fun i=>i<=a.A0.length/\(∀j,j<i->decide ((a.A0.getD j default).Bn=n)=false)) (fun i=>a.A0.length-i) 0 (Bs G) (Ad 0 G Aa) ⟨ABg _,fun j Ay=>absurd Ay (AB2 j)⟩ (Bs G) ?_;rintro i ⟨Ag,C0⟩;refine AF 1 G<|Am<|B9 G (fun CR=>?_) (fun CR=>?_)
 ·
  refine AZ<|Am<|B5<|Ae<|Fo 0 G G G I6 G fun T6=>Gi 0 G G (At G) G fun Nj cX=>CT Um G fun Jo=>BZ 0 (us:=(JH ((a.A0.getD i default)))) G G G (At G) G G<|Ac<|I5 4 [0] G G<|B9 G (fun JQ=>?_) (fun JQ=>?_)
  · exact Ae<|BJ 0 (JH ((a.A0.getD i default))) G G (At G) G G<|BZ 1 (us:=(JH ((a.A0.getD i default)))) G G G (At G) G G<|U 1 G<|Ac<|rt<|C9<|Cd<|Cd<|C9<|Cd<|D8 () [_,_,_] (Fp 1 G G G G (At G)) (by have B4:a' a n=some i:=Tc AMT C0 (ABG JQ);rw[V8,WK,AA_ q1,q1,B4];rfl) G Aa
  refine EG<|CU<|A5<|rg<|C5 G G BV G<|An G G<|nl<|AQ ?_;exact Dy (i+1) ⟨AMT,(Ki C0 (ABM JQ))⟩ AMT (Bs G) G (Ad 2 G Aa)
 exact ex<|Ck<|Ck<|D7<|A5<|Ae<|Db (ps:=[]) (cs:=(JH ((⟨0,0,0,0⟩:BD)))) ARz ARs G<|BZ 0 (us:=(JH ((⟨0,0,0,0⟩:BD)))) G G G (At G) G G<|U 1 G<|Ac<|rt<|D8 () [_,_] (Fp 0 G G G G (At G)) (by have B4:a' a n=none:=Tb (fun k AE=>C0 k AMT);rw[V8,WK,AA_ q1,q1,B4];rfl) G Aa
theorem zu:Ext Tryz.prog 202 (Extern.SlicesOverlaps.overlaps #[56,56] #[4]):=⟨⟨_,Tryz.func202,ARs,ARs,ARs,ARs⟩⟩
theorem zv:Ext Tryz.prog 207 (Extern.SlicesOverlaps.overlaps #[36,36] #[4]):=⟨⟨_,Tryz.func207,ARs,ARs,ARs,ARs⟩⟩
theorem zw:Ext Tryz.prog 229 (Extern.SlicesOverlaps.overlaps #[37,37] #[4]):=⟨⟨_,Tryz.func229,ARs,ARs,ARs,ARs⟩⟩
theorem zx:Ext Tryz.prog 231 (Extern.SlicesOverlaps.overlaps #[40,40] #[4]):=⟨⟨_,Tryz.func231,ARs,ARs,ARs,ARs⟩⟩
theorem ZV:EH AG 91 97 7 56:=EH.mk Tryz.underlying91 ARs ARp
theorem np:EH AG 116 156 2 24:=EH.mk Tryz.underlying116 ARs ARp
theorem AlV:E3 AG 95 [ALu,ALu,ALu,ALu]:=E3.mk ARs
theorem AjD:H5 AG 73 9 1:=⟨Tryz.underlying73,ARs⟩
theorem nq:EH AG 73 9 1 16:=EH.mk Tryz.underlying73 ARs ARp
theorem lQ:H5 AG 246 167 1:=⟨AR2,ARs⟩
theorem lR:H5 AG 249 171 1:=⟨AR3,ARs⟩
theorem dg:E3 AG 43 [AI]:=E3.mk ARs
theorem HB:EH AG 246 167 1 8:=EH.mk AR2 ARs ARp
theorem QO:EH AG 249 171 1 8:=EH.mk AR3 ARs ARp
theorem df:E3 AG 3 [ALu]:=E3.mk ARs
section
@[reducible] def DG(p:Nat)(nd:List Nat)(w:Cc):C4:=RW (σ:=Value) nd (fun k=>[AO p 164 [.pointer none,k,.bool w.E6,ALu],@row UInt8 Rv 5 k w.out]) (fun _=>[]) (fun _=>w.out.length<=65536)
instance {α:Type} [Inhabited α]:Inhabited (Cq α):=⟨⟨default⟩⟩
section
variable{c:Cj} {ops:Array Oper} {Q:AuE} {env:Env} {L:Go.A_.Own} {D:List Atom} {p:Nat} {nd:List Nat}
theorem L2{w:Cc}{x:Code}(k:∀k,w.out.length<=65536->CF c x Q env (AO p 164 [.pointer none,k,.bool w.E6,ALu]::@row UInt8 Rv 5 k w.out::L) (D)):CF c x Q env (DG p nd w::L) (D):=
 rN 0 rfl fun y h=>k y h
theorem Mh(w:Cc)(k:Value){L0:Go.A_.Own}{x:Code}(Dv:L0=AO p 164 [.pointer none,k,.bool w.E6,ALu]::@row UInt8 Rv 5 k w.out::L)(AU:w.out.length<=65536)(NP:∀nd,CF c x Q env (DG p nd w::L) (D)):CF c x Q env (L0) (D):=
 nO (LL:=fun k:Value=>[AO p 164 [.pointer none,k,.bool w.E6,ALu],@row UInt8 Rv 5 k w.out]) (DD:=fun _=>[]) (I:=fun _=>w.out.length<=65536) [] L k Dv AU Bg.nil (NP _)
theorem Ng(w:Cc)(k:Value){L0:Go.A_.Own}{e:Exit}(Dv:L0=AO p 164 [.pointer none,k,.bool w.E6,ALu]::@row UInt8 Rv 5 k w.out::L)(AU:w.out.length<=65536)(NP:∀nd,Eg c Q e env (DG p nd w::L) (D)):Eg c Q e env (L0) (D):=
 nP (LL:=fun k:Value=>[AO p 164 [.pointer none,k,.bool w.E6,ALu],@row UInt8 Rv 5 k w.out]) (DD:=fun _=>[]) (I:=fun _=>w.out.length<=65536) [] L k Dv AU Bg.nil (NP _)
end
theorem AkZ{b:List UInt8}{w:Cc}(h:w.out.length<=65536):(H4 b w).out.length<=65536:=by
 unfold H4;split
 · exact h
 rename_i q;simp only[ABk,ABa,ABN]at q;rw[List.length_append];omega
theorem uQ{b:List UInt8}{n:Nat}(h:n<=65536):decide ((b.length:Int)>65536-(n:Int))=decide (b.length>65536-n):=by
 rw[decide_eq_decide];omega
def B_(l:List (Cq Int))(w:Cc):Cc:=l.foldl (fun w v=>E2 v.x w) w
def E0:List (Cq ByteArray)->Cc->Cc
 |[],w=>w
 |s::r,w=>if s.x.size>65535 then{w with E6:=true}else E0 r (KT s.x.data.toList w)
end
end Go.Apw
namespace Go.A_
open Go.RowKit
section
section
variable{c:Cj} {ops:Array Oper} {J:Cj->Array Oper->List Oper->Env->Own->List Atom->Prop} [Dr:Ip J] {env:Env} {L:Own} {D:List Atom} {rest:List Oper} {d:Nat} {t:TypeId} {p:String} {af:Array Edge} {x y:Operand} {m n:Int}
include Dr
theorem rz{q:IntKind}{ats:Array TypeId}(Ab:AL env x=some (.int q m))(Bf:AL env y=some (.int q n)){r:Int}(Bh:min m n=r)(Ao:Nat.blt d c.n=true)(k:J c ops rest ((d,.int q r)::env) L D):
 J c ops (⟨some d,.call {callee:=.builtin .min,args:= #[x,y],argTypes:=ats},t,p,af,none⟩::rest) env L D:=
 pu rfl rfl Ao (fun a w f=>by
  subst Bh;have e:min m n=if n<m then n else m:=AMT;simp[execOp,resolve,invoke,builtin,f.AL Ab,f.AL Bf,Builtin.min_,Builtin.min2,e]) k
variable{Ec FK:TypeId} {q:IntKind} {r:Int}
theorem AhV(Ab:AL env x=some (.int q m))(Bf:AL env y=some (.int q n))(Bw:n≠0)(Bh:q.wrap (m.tdiv n)=r)(Ao:Nat.blt d c.n=true)(k:J c ops rest ((d,.int q r)::env) L D):J c ops (⟨some d,.binOp .quo Ec x y FK,t,p,af,none⟩::rest) env L D:=by subst Bh;exact AhW Ab Bf Bw Ao k
theorem k'(Ab:AL env x=some (.int q m))(Bf:AL env y=some (.int q n))(Bw:n≠0)(Bh:m.tmod n=r)(Ao:Nat.blt d c.n=true)(k:J c ops rest ((d,.int q r)::env) L D):J c ops (⟨some d,.binOp .rem Ec x y FK,t,p,af,none⟩::rest) env L D:=by subst Bh;exact Aik Ab Bf Bw Ao k
theorem xc(Ab:AL env x=some (.int q m))(Bf:AL env y=some (.int q n))(Bh:q.wrap (m+n)=r)(Ao:Nat.blt d c.n=true)(k:J c ops rest ((d,.int q r)::env) L D):J c ops (⟨some d,.binOp .add Ec x y FK,t,p,af,none⟩::rest) env L D:=by subst Bh;exact Jm Ab Bf Ao k
theorem tM(Ab:AL env x=some (.int q m))(Bf:AL env y=some (.int q n))(Bh:q.wrap (m-n)=r)(Ao:Nat.blt d c.n=true)(k:J c ops rest ((d,.int q r)::env) L D):J c ops (⟨some d,.binOp .sub Ec x y FK,t,p,af,none⟩::rest) env L D:=by subst Bh;exact Ajg Ab Bf Ao k
theorem Aev(Ab:AL env x=some (.int q m))(Bh:q.wrap (0-m)=r)(Ao:Nat.blt d c.n=true)(k:J c ops rest ((d,.int q r)::env) L D):J c ops (⟨some d,.unOp .neg Ec x,t,p,af,none⟩::rest) env L D:=by subst Bh;exact Aew Ab Ao k
theorem GZ{α:Type}{r:Be α}(i:Nat){l:List Oper}{e:TypeId}{v:Value}{xs:List α}(Ag:L[i]? =some (@row α r e v xs))(k:v.oneCell'=true->J c ops l env L D):J c ops l env L D:=
 Dr.fact (fun a w f st AR=>by
  obtain⟨Cy,G8,_⟩:=st.own _ (AA' Ag);rcases G8.2 with⟨rfl,_⟩|⟨g,cap,cur,rfl,_⟩<;>rfl) k
end
end
end Go.A_
namespace Go.Apw
theorem BS{b:Bool}:¬IA b=0↔b=false:=by cases b<;>simp[IA]
theorem Aex(n:Int):IntKind.u64.wrap (0-n % 18446744073709551616)=(-n) % 18446744073709551616:=by rw[OE];omega
theorem oV(n:Int)(Bw:0<=n):Cv AG 159 [.int .u64 n] [] (.int .i64 (H' n)):=by
 exact Aw.proof Tryz.func159 G 6 G G fun X w=>AF 1 G<|Ae<|An G G<|rz G G G G<|F0 AC4 ABc G (Uf BV) G<|U 1 G<|Ac<|rt<|Bq () G G ARz G Aa
theorem mD{v:Int}(Bw:0<=v)(Af:v<18446744073709551616):IntKind.u64.wrap v=v:=by rw[OE];omega
theorem AhX{n p:Int}(Bw:0<=n)(Af:n<18446744073709551616)(AH:1<=p):IntKind.u64.wrap (n.tdiv p)=n / p:=by
 rw[OE,Int.tdiv_eq_ediv_of_nonneg Bw];exact Int.emod_eq_of_lt (Int.ediv_nonneg Bw AMT) (Int.lt_of_le_of_lt (Int.ediv_le_self _ Bw) Af)
theorem Ail{n p:Int}(Bw:0<=n):n.tmod p=n % p:=Int.tmod_eq_emod_of_nonneg Bw
theorem Ajz{n p:Int}(Bw:0<=n)(Af:n<18446744073709551616)(AH:1<=p)(Bh:0<n % p):IntKind.u64.wrap (n / p+1)=n / p+1:=by
 rw[OE];have AJ:=Int.mul_ediv_add_emod n p;have h2:=Int.ediv_nonneg Bw (show 0<=p by omega);have Bo:n / p<=p*(n / p):=by
  have:=Int.mul_le_mul_of_nonneg_right AH h2;omega
 exact Int.emod_eq_of_lt AMT AMT
theorem te(n p i:Int)(Bw:0<=n)(Af:n<18446744073709551616)(Tm:A' p)(Aa8:A' i):Cv AG 160 [.int .u64 n,.int .i64 p,.int .i64 i] [] (.int .u64 (JA n p i)):=by
 refine Aw.proof Tryz.func160 G 35 G G fun X w=>?_;obtain⟨Am',Ana⟩:=id Tm;obtain⟨Am3,Am4⟩:=id Aa8;refine AF 1 G<|Am<|Ae<|U 3 G<|ET 11 3 [] [0,1,2] G G G<|An G G<|ET 15 4 [] [0,1,2] G G G<|Ac<|BN G (fun Fe=>?_) (fun Fe=>?_)
 · exact AF 1 G<|BA<|Bq () G G (by rw[JA,AA_ Fe]) G Aa
 have Qs:1<=p/\0<=i/\i<p:=by
  have q:=Fe;simp only[ABD,ABl]at q;omega
 obtain⟨Rn,WY,r3⟩:=Qs;refine AZ<|Am<|Gx mixed ARs<|U 2 G<|F0 ABc AC4 G (mD (v:=p) AMT AMT) G<|AhV G G AMT (AhX Bw Af Rn) G<|U 2 G<|F0 ABc AC4 G (mD (v:=p) AMT AMT) G<|k' G G AMT (Ail Bw) G<|U 2 G<|Gj<|A5<|Am<|Ae<|An G G<|F0 ABc AC4 G (mD (v:=i) AMT AMT) G<|U 2 G<|Ac<|B9 G (fun ES=>?_) (fun ES=>?_)
 · exact rg<|An G G<|xc G G (Ajz Bw Af Rn AMT) G<|U 1 G<|Ac<|AF 2 G<|rt<|Bq () G G (by rw[JA,AA9 (by rw[Fe];decide),AA_ ES]) G Aa
 exact AZ<|AF 2 G<|rt<|Bq () G G (by rw[JA,AA9 (by rw[Fe];decide),AA9 ES]) G Aa
theorem sR(a:AD)(Cw:Value)(C6:a.wf):Cv AG 154 [.agg (A3 a Cw).toArray] [⟨Cw,a.A0⟩] (.tuple #[.int .u64 (K4 a),.int .u64 (Jx a)]):=by
 refine Aw.proof Tryz.func154 G 34 G G fun X w=>Ae<|CV G G G fun CY=>U 2 G<|Ac<|Am<|Ae<|BJ 0 (A3 a Cw) G G (At G) G G<|B0 (Ps _ _ C6) (Ar G) G (Ad 0 G Aa) G<|U 2 G<|DE 10 3 [1] G G (fun Dq ZE=>Bl G G G<|BJ 0 (A3 a Cw) G G (At G) G G<|Bl G G G<|B0 (YP _ _ C6) (Ar G) G (Ad 0 G Aa) G<|U 1 G<|ZE G Br)<|Ac<|BN G (fun Dp=>?_) (fun Dp=>?_)
 · exact AF 2 G<|BA<|AQ<|Fl () G G G (by rw[K4,Jx,AA_ Dp,AA_ Dp]) G Aa
 have HJ:E4 a=true/\G_ a=false:=by simpa[ABD]using Dp
 have hh:LI a.A0=true:=((P3 C6.2.1).1 HJ.1).hold;exact AZ<|Ae<|BJ 0 (A3 a Cw) G G (At G) G G<|B0 (q6 _ _ C6 (by assumption)) (Ar G) G (Ad 0 G Aa) G<|U 7 G<|Ac<|Am<|Gx mixed ARs<|An G G<|F0 ABc AC4 G (OE _) G<|AX 3 [0] G G<|F0 ABc AC4 G (OE _) G<|tM G G (OE _) G<|AX 3 [0] G G<|F0 ABc AC4 G (OE _) G<|An G G<|F0 ABc AC4 G (OE _) G<|tM G G (OE _) G<|U 2 G<|Gj<|A5<|rt<|AQ<|Fl () G G G (by rw[K4,Jx,AA9 (by rw[Dp];decide),AA9 (by rw[Dp];decide)]) G Aa
theorem ma(a:AD)(Cw:Value)(C6:a.wf):Cv AG 140 [.agg (A3 a Cw).toArray] [⟨Cw,a.A0⟩] (.tuple #[.int .i64 (Io a).1,.bool (Io a).2]):=by
 refine Aw.proof Tryz.func140 G 19 G G fun X w=>Ae<|CV G G G fun CY=>U 2 G<|Ac<|Am<|Ae<|BJ 0 (A3 a Cw) G G (At G) G G<|B0 (Ps _ _ C6) (Ar G) G (Ad 0 G Aa) G<|U 2 G<|DE 7 3 [1] G G (fun GY ZC=>Bl G G G<|BJ 0 (A3 a Cw) G G (At G) G G<|Bl G G G<|B0 (YP _ _ C6) (Ar G) G (Ad 0 G Aa) G<|U 1 G<|ZC G Br)<|An G G<|DE 11 5 [1] G G (fun Ct ZG=>AX 2 [0] G G<|Bl G G G<|C2 0 G G ADN G fun qS=>U 2 G<|ZG G Br)<|Ac<|BN G (fun CR=>?_) (fun CR=>?_)
 · exact AF 2 G<|BA<|AQ<|Fl () G G G (by rw[Io,AA_ CR]) G Aa
 exact AZ<|I5 4 [0] G G<|rt<|AQ<|Fl () G G G (by rw[Io,AA9 (by rw[CR];decide)]) G Aa
theorem rA(v n:Int)(ja:A' v)(MB:A' n)(Bw:0<=v)(Af:0<=n):Cv AG 158 [.int .i64 v,.int .i64 n] [] (.int .i64 (Iw v n)):=by
 refine Aw.proof Tryz.func158 G 11 G G fun X w=>?_;obtain⟨Abf,Abg⟩:=id ja;obtain⟨Yk,Yl⟩:=id MB;exact AF 1 G<|Ae<|U 3 G<|TU G G BV G<|rz G G G G<|C5 G G BV G<|U 1 G<|Ac<|rt<|Bq () G G ARz G Aa
theorem qQ(a:AD)(Cw:Value)(C6:a.wf):Cv AG 199 [.agg (A3 a Cw).toArray] [⟨Cw,a.A0⟩] (.int .i64 (LJ a)):=by
 refine Aw.proof Tryz.func199 G 15 G G fun X w=>Ae<|CV G G G fun CY=>U 1 G<|Ac<|Am<|Ae<|BJ 0 (A3 a Cw) G G (At G) G G<|B0 (Ps _ _ C6) (Ar G) G (Ad 0 G Aa) G<|IH G G<|Ac<|BN G (fun GY=>?_) (fun GY=>?_)
 ·
  have Y8:E4 a=false:=(by simpa using GY);exact AF 1 G<|BA<|AQ<|Bq () G G (by rw[LJ,AA_ Y8]) G Aa
 have Y8:¬E4 a=false:=by simpa using GY
 refine AZ<|Am<|Ae<|BJ 0 (A3 a Cw) G G (At G) G G<|B0 (ma _ _ C6) (Ar G) G (Ad 0 G Aa) G<|U 5 G<|Ac<|AF 2 G<|BN G (fun Fm=>?_) (fun Fm=>?_)
 ·
  have MI:(Io a).2=false:=(by simpa using Fm);exact AF 1 G<|BA<|AQ<|Bq () G G (by rw[LJ,AA9 Y8,AA_ MI]) G Aa
 have MI:¬(Io a).2=false:=by simpa using Fm
 exact AZ<|AF 1 G<|rt<|AQ<|Bq () G G (by rw[LJ,AA9 Y8,AA9 MI]) G Aa
theorem nZ(Bk:Value)(l:List BD)(hlen:l.length<=100000):Aw AG 42 [Bk] [] [⟨Bk,l⟩] (fun(_:Unit) _=>True) (fun _ v=>[@row BD Mj 123 v l]) (fun _ _=>[]):=by
 refine Aw.proof Tryz.func42 G 8 G G fun X w=>AF 1 G<|Am<|Ae<|An G G<|RT 0 ADN G G G G fun PM ARA=>Ac<|BN G (fun BB=>?_) (fun BB=>?_)
 ·
  have Ab:l=[]:=ARA BB;subst Ab;exact Lk BD 123<|AF 1 G<|BA<|Bq () G G trivial G Aa
 exact AZ<|Ae<|NB S1 G fun E'=>Nm (α:=BD) [] [] G G (fun _ _ _=>trivial) G<|An G G<|ap 0 0 G G G G S1 (by simp only[ABo];omega) (by simp only[ABo];omega) G fun EZ=>U 1 G<|Ac<|rt<|Bq () G G trivial G Aa
theorem Uy(a:AD)(Cw:Value)(_:a.wf)(Aq:a.A0.length<=100000):Aw AG 153 [.agg (A3 a Cw).toArray] [] [⟨Cw,a.A0⟩] (fun(y:Value) u=>u=.agg (A3 a y).toArray) (fun y _=>[@row BD Mj 123 y a.A0]) (fun _ _=>[]):=by
 refine Aw.proof Tryz.func153 G 8 G G fun X w=>Ae<|CV G G G fun CY=>CT Hd G fun Dh=>Ac<|Ae<|AX 2 [1] G G<|Dm (nZ _ _ Aq) (Ar G) G (Ad 0 G Aa) G fun _ Mp _=>U 1 G<|IL 2 0 G G G G (A2 G) (Da G)<|Ac<|Ae<|BJ 2 (A3 ((⟨a.Al,(⟨a.Cs.A6,a.Cs.Bc⟩:GC),a.BT,a.Cn,a.A0,(⟨a.BG.Ap,a.BG.As,a.BG.DH,a.BG.B2⟩:F_)⟩:AD)) Mp) G G (At G) G G<|GZ 0 G fun WV=>?_;exact BZ 1 (us:=(A3 ((⟨a.Al,(⟨a.Cs.A6,a.Cs.Bc⟩:GC),a.BT,a.Cn,a.A0,(⟨a.BG.Ap,a.BG.As,a.BG.DH,a.BG.B2⟩:F_)⟩:AD)) Mp)) G G G (At G) (by simp only[ABn,ABr,ABp,WV];rfl) G<|Ac<|rt<|Au 2 G<|Au 2 G<|D8 Mp [_,_] (Qv 0 G G G (At G)) ARz G Aa
end Go.Apw
