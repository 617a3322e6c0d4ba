/- Part 12 of shardWhole_holds. -/
import Derived.Test.YtklmcfecakaanaaGreatSq11

set_option maxRecDepth 20000
set_option maxHeartbeats 1000000
open Go.Proofs.Tryz renaming underlying39→ARN
open Go.A_ Go.Proofs Go.Proofs.YtklmcfecakaanaaGreat
namespace Go.Apw
theorem Ay3(d:Bx)(Tj:d.wf):Cv AG 37 [.agg (H8 d).toArray] [] (.bool (Ave d)):=by
 refine Aw.proof Tryz.func37 G 76 G G fun X w=>Ae<|CV G G G fun CY=>U 1 G<|Ac<|Am<|Ae<|AX 2 [0] G G<|B0 (AwZ _ Tj.1) (Ar G) G Aa G<|U 2 G<|DE 8 5 [1] G G (fun D2 ZE=>AX 2 [0] G G<|Bl G G G<|B0 (AwD _ Tj.2.1) (Ar G) G Aa G<|U 2 G<|ZE G Br)<|An G G<|DE 14 5 [1] G G (fun Fm ZH=>AX 2 [0] G G<|Bl G G G<|B0 (Avz _) (Ar G) G Aa G<|U 2 G<|ZH G Br)<|An G G<|DE 20 5 [1] G G (fun HQ ZI=>AX 2 [0] G G<|Bl G G G<|B0 (Avz _) (Ar G) G Aa G<|U 2 G<|ZI G Br)<|An G G<|ET 26 6 [0,0] [1] G G G<|An G G<|ET 33 4 [0] [1] G G G<|An G G<|ET 38 4 [0] [1] G G G<|An G G ?_;refine ET 43 4 [0] [1] G G G<|An G G<|ET 48 4 [0] [1] G G G<|An G G<|ET 53 4 [0] [1] G G G<|Ac<|BN G (fun ev=>?_) (fun ev=>?_)
 ·
  have X6:(Avm d)=true:=ev;exact AF 1 G<|BA<|AQ<|Bq () G G (by rw[Ave,X6];try rfl) G Aa
 have X6:(Avm d)=false:=ev;refine AZ<|Ae<|AX 4 [0,0] G G<|B0 (Ayr _ _ Tj.2.2.2.2.2.1 Tj.2.2.2.2.2.2.1) (Ar G) G Aa G<|U 1 G<|Ac<|Ae<|AX 5 [0] G G ?_;refine DE 67 8 [] G G (fun JT v'=>by
  have AAX:=ACe JT;exact U 3 G<|Fu 70 4 [0] [67] G G G<|U 1 G<|v' G Br) ?_
 exact U 1 G<|Ac<|rt<|AQ<|Bq () G G (by rw[Ave,X6];try rfl) G Aa
theorem Azz(CP:Value)(l:List Bx)(c:Int)(q:Int)(BK:A' c)(Ed:A' q):Cv AG 19 [CP,.int .i64 c,.int .i64 q] [⟨CP,l⟩] (.int .i64 (HI (Kt l c q))):=by
 refine Aw.proof Tryz.func19 G 31 G G fun X w=>?_;obtain⟨K9,K_⟩:=id BK;obtain⟨LD,LF⟩:=id Ed;refine AF 1 G<|Am<|AF 1 G<|B5<|Ji (σ:=Nat) [(0,_),(1,_),(2,_)] _ (fun i C=>(7,.int .i64 (i:Int))::C) (fun i=>i<=l.length/\(∀j,j<i->(decide ((l.getD j default).Ap=c)&&decide ((l.getD j default).As=q))=false)) (fun i=>l.length-i) 0 (Bs G) (Ad 0 G Aa) ⟨ABg _,fun j Ay=>absurd Ay (AB2 j)⟩ (Bs G) ?_;rintro i ⟨Ag,C0⟩;refine Am<|Ae<|U 2 G<|C2 0 G G ARN G fun Ade=>U 1 G<|Ac<|B9 G (fun Ct=>?_) (fun Ct=>?_)
 ·
  refine AZ<|Am<|B5<|Ae<|U 2 G<|Fo 0 G G G Ox G fun Mn=>CJ 0 Agl G G (BR G) G fun T6=>CQ 0 G G (A2 G) G fun cX=>U 3 G ?_;refine D4 21 8 [0,1,2,7] G G (fun E1 vR=>by
   have An':=ABA E1;exact U 2 G<|Bl G G G<|Fo 2 G G G Ox G fun Xl=>Bl G G G<|CJ 0 Agm G G (BR G) G fun T7=>Bl G G G<|CQ 0 G G (A2 G) G fun mv=>U 3 G<|vR G (Bg.tail (Bg.tail Br))) ?_
  refine Ac<|BN G (fun G5=>?_) (fun G5=>?_)
  · exact AF 2 G<|rt<|C9<|Cd<|Cd<|C9<|Cd<|Bq () G G (by rw[Kt,Tc (j:=i) AMT C0 G5,HI]) G Aa
  refine EG<|CU<|A5<|rg<|An G G<|C5 G G BV G<|U 1 G<|nl ?_;exact Dy (i+1) ⟨AMT,(Ki C0 (G5))⟩ AMT (Bs G) G (Ad 2 G Aa)
 exact ex<|Ck<|Ck<|D7<|A5<|AF 1 G<|rt<|Bq () G G (by rw[Kt,Tb (fun k AE=>C0 k AMT),HI]) G Aa
theorem AzT(CP:Value)(l:List Bx):Cv AG 20 [CP] [⟨CP,l⟩] (.bool (Avi l)):=by
 refine Aw.proof Tryz.func20 G 35 G G fun X w=>AF 1 G<|Am<|AF 1 G<|B5<|Ji (σ:=Nat) [(0,_)] _ (fun i C=>(3,.int .i64 (i:Int))::C) (fun i=>i<=l.length/\(∀j,j<i->(!(!Ave (l.getD j default)|| !decide (HI (Kt l (l.getD j default).Ap (l.getD j default).As)=(j:Int))))=true)) (fun i=>l.length-i) 0 ⟨G,trivial⟩ (Ad 0 G Aa) ⟨ABg _,fun j Ay=>absurd Ay (AB2 j)⟩ (Bs G) ?_;rintro i ⟨Ag,C0⟩;refine Am<|Ae<|U 2 G<|C2 0 G G ARN G fun qY=>U 1 G<|Ac<|B9 G (fun GY=>?_) (fun GY=>?_)
 ·
  refine AZ<|Am<|B5<|Am<|Gx mixed ARs<|U 2 G<|Fo 0 G G G Ox G fun gz=>Gi 0 G G (At G) G fun HJ AkQ=>HD (Ay3 _ AkQ) (Ar G) G Aa G<|U 2 G ?_;refine DE 16 15 [0,3] G G (fun CR VF=>by
   have Af2:=CR;try simp only[ABI]at Af2
   exact U 3 G<|Bl G G G<|Fo 2 G G G Ox G fun v20=>Bl G G G<|CJ 0 Agl G G (BR G) G fun SB=>Bl G G G<|CQ 0 G G (A2 G) G fun mu=>U 2 G<|Bl G G G<|Fo 4 G G G Ox G fun T7=>Bl G G G<|CJ 0 Agm G G (BR G) G fun Pf=>Bl G G G<|CQ 0 G G (A2 G) G fun PX=>Bl G G G<|HD (Azz _ _ _ _ mu PX) (Ar G) G (Ad 6 G Aa) G<|U 3 G<|VF G (Bg.tail (Bg.tail (Bg.tail (Bg.tail Br))))) ?_
  refine Gj<|A5<|BN G (fun ES=>?_) (fun ES=>?_)
  · exact AF 1 G<|rt<|C9<|Cd<|Cd<|C9<|Cd<|Bq () G G (by rw[Avi,AvL,Ur i AMT (YU ES)];try rfl) G Aa
  refine EG<|CU<|A5<|rg<|An G G<|C5 G G BV G<|U 1 G<|nl ?_;exact Dy (i+1) ⟨AMT,(Ki C0 (YT ES))⟩ AMT (Bs G) G (Ad 2 G Aa)
 exact ex<|Ck<|Ck<|D7<|A5<|Ae<|An G G<|C2 0 G G ARN G fun AAO=>U 2 G<|Ac<|rt<|Bq () G G (by rw[Avi,AvL,Us (fun j Ay=>C0 j AMT)];try rfl) G Aa
theorem Ayn(CP:Value)(l:List Df):Cv AG 26 [CP] [⟨CP,l⟩] (.bool (Avx l)):=by
 refine Aw.proof Tryz.func26 G 40 G G fun X w=>AF 1 G<|AF 1 G<|Am<|AF 1 G<|B5<|Ji (σ:=Nat) [(0,_)] _ (fun i C=>(4,.int .i64 (i:Int))::(3,.int .i64 (Nh (fun k=>(l.getD k default).Ap) i))::C) (fun i=>i<=l.length/\(∀j,j<i->(!(decide ((l.getD j default).Ap<=Nh (fun k=>(l.getD k default).Ap) j)||decide ((l.getD j default).Ap>8)|| !Au5 (l.getD j default).As))=true)) (fun i=>l.length-i) 0 ⟨G,trivial⟩ (Ad 0 G Aa) ⟨ABg _,fun j Ay=>absurd Ay (AB2 j)⟩ (Bs G) ?_;rintro i ⟨Ag,C0⟩;refine Am<|Ae<|U 2 G<|C2 0 G G Tryz.underlying40 G fun MD=>U 1 G<|Ac<|B9 G (fun D2=>?_) (fun D2=>?_)
 ·
  refine AZ<|Am<|B5<|Am<|Ae<|U 2 G<|Fo 0 G G G Ky G fun RA=>CJ 0 Ags G G (BR G) G fun PS=>CQ 0 G G (A2 G) G fun N6=>U 3 G ?_;refine DE 18 7 [0,4] G G (fun ER ZI=>by
   have AAU:=ACe ER;exact U 2 G<|Bl G G G<|Fo 2 G G G Ky G fun SB=>Bl G G G<|CJ 0 Ags G G (BR G) G fun RB=>Bl G G G<|CQ 0 G G (A2 G) G fun cY=>U 2 G<|ZI G (Bg.tail (Bg.tail Br))) ?_
  refine An G G ?_;refine DE 26 8 [0,4] G G (fun JR ZJ=>by
   have Axd:=JR;try simp only[ABD,ABl]at Axd
   exact U 2 G<|Bl G G G<|Fo 2 G G G Ky G fun MR=>Bl G G G<|CJ 0 r' G G (BR G) G fun v30=>Bl G G G<|CQ 0 G G (A2 G) G fun cZ=>Bl G G G<|B0 (AwD _ cZ) (Ar G) G Aa G<|U 2 G<|ZJ G (Bg.tail (Bg.tail Br))) ?_
  refine Ac<|BN G (fun FN=>?_) (fun FN=>?_)
  · exact AF 1 G<|BA<|C9<|Cd<|Cd<|C9<|Cd<|Bq () G G (by rw[Avx,Ur i AMT (YU FN)];try rfl) G Aa
  refine AZ<|rg<|U 2 G<|Fo 2 G G G Ky G fun gA=>CJ 0 Ags G G (BR G) G fun PT=>CQ 0 G G (A2 G) G fun uy=>U 1 G<|nl<|CU<|A5<|rg<|An G G<|C5 G G BV G<|U 1 G<|nl ?_;exact Dy (i+1) ⟨AMT,(Ki C0 (YT FN))⟩ AMT (Bs G) G (Ad 4 G Aa)
 exact ex<|Ck<|Ck<|D7<|A5<|AF 1 G<|rt<|Bq () G G (by rw[Avx,Us (fun j Ay=>C0 j AMT)];try rfl) G Aa
theorem tK(CP:Value)(l:List Int):Cv AG 209 [CP] [⟨CP,l⟩] (SA l.sum):=by
 refine Aw.proof Tryz.func209 G 41 G G fun X w=>HP (q:=nb l) (fun S w h=>AcO (h _ (ABx ..))) fun Cl=>HP (q:=l.length<=9223372036854775807) (fun S w h=>L1 (h _ (AA' (i:=0) G))) fun hlen=>AF 2 G<|AF 2 G<|Am<|Ae<|An G G<|C2 0 G G Tryz.underlying22 G fun e'=>An G G<|Ac<|B5<|Ji (σ:=Nat×Int×Int) [(10,_),(11,_)] _ (fun s C=>(12,.int .i64 (s.1:Int))::(4,.int .u64 s.2.1)::(5,.int .u64 s.2.2)::C) (fun s=>s.1<=l.length/\s.2.1=(l.take s.1).sum / 18446744073709551616 % 18446744073709551616/\s.2.2=(l.take s.1).sum % 18446744073709551616/\ -((s.1:Int)*9223372036854775808)<=(l.take s.1).sum/\(l.take s.1).sum<=(s.1:Int)*9223372036854775808) (fun s=>l.length-s.1) (0,0,0) (Bs G) (Ad 0 G Aa) ⟨ABg _,by simp,by simp,by simp,by simp⟩ (Bs G) ?_;rintro⟨i,Ag,BQ⟩ ⟨Hj,G1,Jt,NI,ij⟩;simp only at Hj G1 Jt NI ij;refine AF 1 G<|Am<|B9 G (fun Dp=>?_) (fun Dp=>?_)
 ·
  have Ab:=Aau Cl (i:=i) AMT;refine AZ<|Am<|B5<|Ae<|Fo 0 G G G tp G fun PS=>CQ 0 G G (A2 G) G fun N6=>U 1 G<|Ac<|AF 1 G<|Ae<|U 2 G<|F0 ABc AC4 G (OE _) G ?_;have Acu:=fun w=>m_ (P:=Tryz.prog) BQ (l.getD i default % 18446744073709551616) 0 AMT AMT AMT AMT w;refine hL oN Acu G G<|U 5 G<|Ac<|rg<|U 2 G<|Vl G G AMT (ti Ab) G<|F0 ABc AC4 G (OE _) G<|An G G ?_;have Acv:=fun w=>m_ (P:=Tryz.prog) Ag (Vk (l.getD i default) % 18446744073709551616) ((BQ+l.getD i default % 18446744073709551616+0) / 18446744073709551616) AMT AMT AMT AMT w;refine hL oN Acv G G<|U 4 G<|nl<|CU<|A5<|rg<|C5 G G BV G<|An G G<|nl ?_;have Gg:=AjY G1 Jt Ab;have hs:=AjZ (l:=l) (i:=i) AMT;obtain⟨Acs,e1⟩:=Ab;exact Dy (i+1,(Ag+Vk (l.getD i default) % 18446744073709551616+(BQ+l.getD i default % 18446744073709551616+0) / 18446744073709551616) % 18446744073709551616,(BQ+l.getD i default % 18446744073709551616+0) % 18446744073709551616) ⟨by show i+1<=l.length;omega,by show _=(l.take (i+1)).sum / 18446744073709551616 % 18446744073709551616;rw[hs];exact Gg.1,by show _=(l.take (i+1)).sum % 18446744073709551616;rw[hs];exact Gg.2,by show-(((i+1:Nat):Int)*9223372036854775808)<=(l.take (i+1)).sum;rw[hs];omega,by show(l.take (i+1)).sum<=((i+1:Nat):Int)*9223372036854775808;rw[hs];omega⟩ (by show l.length-(i+1)<l.length-i;omega) (Bs G) G (Ad 1 G Aa)
 have e:i=l.length:=AMT;subst e;rw[ACB]at G1 Jt NI ij;have La:=AjX G1 Jt AMT;refine ex<|Ck<|Ck<|D7<|A5<|Ae<|An G G<|F0 AC4 ABc G G G<|U 1 G<|Ac<|Am<|Ae<|U 2 G<|Vl G G AMT (ti (Alo BQ)) G<|F0 ABc AC4 G (OE _) G<|U 1 G<|Ac<|Fa G (fun P7=>?_) (fun P7=>?_)
 · exact AF 2 G<|BA<|Fl () G G G (by show _=SA l.sum;rw[SA,Lo,No,AA9 (fun B'=>P7 (La.1.2 B')),AA9 (fun B'=>P7 (La.1.2 B'))]) G Aa
 exact AZ<|AF 3 G<|rt<|Fl () G G G (by show _=SA l.sum;rw[SA,Lo,No,AA_ (La.1.1 P7),AA_ (La.1.1 P7),La.2 (La.1.1 P7)]) G Aa
end Go.Apw
