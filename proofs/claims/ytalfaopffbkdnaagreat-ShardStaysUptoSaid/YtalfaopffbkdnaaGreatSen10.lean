/- Part 10 of shardStays_holds. -/
import Derived.Test.YtalfaopffbkdnaaGreatSen9

set_option maxRecDepth 20000
set_option maxHeartbeats 1000000
namespace Go
theorem ABp:∀(b:Bool),(b&&true)=b:=@Bool.and_true
theorem ABr:∀{α:Type _} {f:α→Bool},List.all [] f=true:=@List.all_nil
end Go
open Go.Proofs.Tryz renaming func305→AGs,underlying259→ADj,underlying278→AB1,underlying339→ADK,underlying5→AC'
open List renaming length_cons→ABv,length_nil→ABo
open List.cons renaming injEq→ACj
open Go.A_ Go.Proofs Go.Proofs.YtalfaopffbkdnaaGreat Go.Apw
namespace Go.Apw
theorem oq(d:Bx)(Tj:d.wf):Cv AG 136 [.agg (H8 d).toArray] [] (.bool (M1 d)):=by
 refine Aw.proof Tryz.func136 G 82 G G fun X w=>Ae<|CV G G G fun CY=>U 1 G<|Ac<|Am<|Ae<|AX 4 [0,0] G G<|B0 (hS _ _ Tj.1 Tj.2.1) (Ar G) G Aa G<|U 2 G<|ET 10 4 [0] [1] G G G<|An G G<|ET 15 6 [0,0] [1] G G G<|An G G<|ET 22 4 [0] [1] G G G<|An G G<|ET 27 4 [0] [1] G G G<|An G G<|ET 32 4 [0] [1] G G G<|An G G<|ET 37 4 [0] [1] G G G<|Ac<|BN G (fun My=>?_) (fun My=>?_)
 ·
  have d':(V2 d)=true:=My;exact AF 1 G<|BA<|AQ<|Bq () G G (by rw[M1,d'];try rfl) G Aa
 ·
  have d':(V2 d)=false:=My;refine AZ<|Am<|Ae<|AX 2 [0] G G<|PI G ABO G<|U 2 G ?_;refine DE 46 5 [1] G G (fun US ZO=>by
   have Aod:=ACe US;exact AX 2 [0] G G<|Bl G G G<|PI G ABO G<|U 2 G<|ZO G Br) ?_
  refine An G G<|DE 52 5 [1] G G (fun iK g5=>AX 2 [0] G G<|Bl G G G<|PI G ABO G<|U 2 G<|g5 G Br)<|An G G<|DE 58 5 [1] G G (fun R4 v3=>AX 2 [0] G G<|Bl G G G<|PI G ABO G<|U 2 G<|v3 G Br)<|Ac<|BN G (fun Of=>?_) (fun Of=>?_)
  ·
   have hX:(ae d)=true:=Of;exact AF 1 G<|BA<|AQ<|Bq () G G (by rw[M1,d',hX];try rfl) G Aa
  ·
   have hX:(ae d)=false:=Of;refine AZ<|Ae<|AX 4 [0,0] G G<|B0 (h' _ _ Tj.2.2.2.2.2.1 Tj.2.2.2.2.2.2.1) (Ar G) G Aa G<|U 1 G<|Ac<|Ae<|AX 5 [0] G G ?_;refine DE 73 8 [] G G (fun AaM g9=>by
    have Aoj:=ACe AaM;exact U 3 G<|Fu 76 4 [0] [73] G G G<|U 1 G<|g9 G Br) ?_
   exact U 1 G<|Ac<|rt<|AQ<|Bq () G G (by rw[M1,d',hX];try rfl) G Aa
theorem AfW(s:Bv)(El EV D_ EA Em Eh:Value)(_:s.wf):Cv AG 64 [.agg (BY s El EV D_ EA Em Eh).toArray] [⟨El,s.Aj⟩,⟨EV,s.Bz⟩,⟨D_,s.AA⟩,⟨EA,s.Bj⟩,⟨Em,s.CX⟩,⟨Eh,s.Cf⟩] (.bool (YZ s)):=by
 refine Aw.proof Tryz.func64 G 42 G G fun X w=>Ae<|CV G G G fun CY=>U 1 G<|Ac<|Am<|I5 3 [0] G G<|BN G (fun C'=>?_) (fun C'=>?_)
 ·
  have QY:(!s.Du)=true:=C';exact Ae<|AX 4 [0] G G<|Fu 9 4 [0] [1] G G G<|An G G<|D4 14 5 [1] G G (fun Fm ZH=>AX 2 [0] G G<|Bl G G G<|C2 0 G G ABH G fun Adg=>U 2 G<|ZH G Br)<|An G G<|D4 20 5 [1] G G (fun HQ ZI=>AX 2 [0] G G<|Bl G G G<|C2 2 G G AB4 G fun qV=>U 2 G<|ZI G Br)<|An G G<|D4 26 5 [] G G (fun JR VF=>U 1 G<|Bl G G G<|BJ 0 (ED s.Bt) G G (At G) G G<|Bl G G G<|Db (ps:=[]) (cs:=(ED (Gs))) AGq AGo G<|Bl G G G<|RU RV (s.Bt) (Gs) G G G<|U 1 G<|VF G Br)<|U 1 G<|Ac<|BA<|AQ<|Bq () G G (by rw[YZ,QY];try rfl) G Aa
 ·
  have QY:(!s.Du)=false:=C';refine AZ<|Ae<|AX 4 [0] G G ?_;refine D4 35 6 [] G G (fun Lz vU=>by
   have r4:=ABA Lz;exact AX 4 [0,0] G G<|Bl G G G<|B0 (tu _ _) (Ar G) G Aa G<|U 1 G<|vU G Br) ?_
  exact U 1 G<|Ac<|rt<|AQ<|Bq () G G (by rw[YZ,QY];try rfl) G Aa
theorem Ak8(s:Bv)(El EV D_ EA Em Eh:Value)(wt:BX)(J8:s.wf)(jb:wt.wf):Cv AG 68 [.agg (BY s El EV D_ EA Em Eh).toArray,.agg (Hh wt).toArray] [⟨El,s.Aj⟩,⟨EV,s.Bz⟩,⟨D_,s.AA⟩,⟨EA,s.Bj⟩,⟨Em,s.CX⟩,⟨Eh,s.Cf⟩] (.bool (Mr s wt)):=by
 refine Aw.proof Tryz.func68 G 100 G G fun X w=>Ae<|CV G G G fun Dh=>CV G G G fun DQ=>U 1 G<|Ac<|Am<|Ae<|AX 3 [0] G G<|AX 1 [0] G G<|B0 (gr _ _ jb.2.1 jb.2.2.1) (Ar G) G Aa G<|U 2 G<|DE 12 6 [2,3] G G (fun EM N'=>AX 3 [0] G G<|Bl G G G<|B0 (gi _) (Ar G) G Aa G<|U 2 G<|N' G Br)<|An G G<|DE 19 7 [2,3] G G (fun Fe gZ=>Bl G G G<|BJ 1 (BY s El EV D_ EA Em Eh) G G (At G) G G<|AX 3 [0] G G<|Bl G G G<|B0 (kJ _ _ _ _ _ _ _ _ J8) (Ar G) G (BE [0,1,2,3,4,5] G) G<|U 2 G<|gZ G Br)<|An G G<|DE 27 6 [3] G G (fun G4 g0=>Bl G G G<|BJ 1 (BY s El EV D_ EA Em Eh) G G (At G) G G<|AX 3 [0] G G<|Bl G G G<|B0 (Ajn _ _ _ _ _ _ _ _ J8) (Ar G) G (BE [0,1,2,3,4,5] G) G<|U 1 G<|g0 G Br)<|Ac<|BN G (fun L'=>?_) (fun L'=>?_)
 ·
  have al:(Zx s wt)=true:=L';exact AF 1 G<|BA<|AQ<|AQ<|Bq () G G (by rw[Mr,al];try rfl) G Aa
 ·
  have al:(Zx s wt)=false:=L';refine AZ<|Am<|I5 2 [0] G G<|B5<|AF 2 G<|B9 G (fun K6=>?_) (fun K6=>?_)
  ·
   have d_:(decide (wt.Ca=1))=true:=(ABG K6);refine I5 4 [0] G G<|Ae<|AX 4 [0] G G<|Fu 44 4 [0] [3,5] G G G<|An G G<|Fu 49 4 [0] [3,5] G G G<|An G G<|Fu 54 3 [] [3,5] G G G<|An G G<|Fu 58 3 [] [3,5] G G G<|An G G ?_;refine D4 62 9 [] G G (fun Th v8=>by
    exact U 3 G<|ET 65 5 [0] [62] G G G<|U 1 G<|v8 G Br) ?_
   exact U 1 G<|Ac<|rt<|C9<|Cd<|AQ<|AQ<|Bq () G G (by rw[Mr,al,d_];try rfl) G Aa
  ·
   have d_:(decide (wt.Ca=1))=false:=(ABM K6);refine AF 2 G<|B9 G (fun iM=>?_) (fun iM=>?_)
   ·
    have hZ:(decide (wt.Ca=2))=true:=(ABG iM);refine Ae<|AX 4 [0] G G ?_;refine D4 77 4 [3] G G (fun pd g9=>by
     have Aok:=ABA pd;exact AX 2 [0] G G<|Bl G G G<|B0 (Zh _ jb.2.2.2.2.1) (Ar G) G Aa G<|U 1 G<|g9 G Br) ?_
    refine An G G<|Fu 82 5 [0] [3] G G G<|An G G ?_;refine D4 88 11 [] G G (fun pe wh=>by
     exact U 1 G<|Bl G G G<|BJ 0 (MZ wt.AM) G G (At G) G G<|AX 5 [0] G G<|AX 1 [0] G G<|Bl G G G<|Db (ps:=[(1,.tmp 93),(3,.tmp 96)]) (cs:=(MZ ((⟨0,wt.AM.Al,ByteArray.empty,wt.AM.B2,0,0⟩:FL)))) AGq AGo G<|Bl G G G<|RU zl (wt.AM) ((⟨0,wt.AM.Al,ByteArray.empty,wt.AM.B2,0,0⟩:FL)) G G G<|U 1 G<|wh G Br) ?_
    exact U 1 G<|Ac<|rt<|C9<|Cd<|AQ<|AQ<|Bq () G G (by rw[Mr,al,d_,hZ];try rfl) G Aa
   ·
    have hZ:(decide (wt.Ca=2))=false:=(ABM iM);exact EG<|CU<|A5<|AF 1 G<|rt<|AQ<|AQ<|Bq () G G (by rw[Mr,al,d_,hZ];try rfl) G Aa
theorem Ab6(CP:Value)(l:List BD):Cv AG 260 [CP] [⟨CP,l⟩] (.bool (LI l)):=by
 refine Aw.proof Tryz.func260 G 39 G G fun X w=>AF 1 G<|AF 1 G<|Am<|Ae<|An G G<|C2 0 G G AB5 G fun MD=>An G G<|Ac<|B5<|Ji (σ:=Nat) [(6,_),(7,_)] _ (fun i C=>(8,.int .i64 (i:Int))::(3,.int .i64 (Nh (fun k=>(l.getD k default).Bn) i))::C) (fun i=>i<=l.length/\(∀j,j<i->(!eU (Nh (fun k=>(l.getD k default).Bn) j) (l.getD j default))=true)) (fun i=>l.length-i) 0 (Bs G) (Ad 0 G Aa) ⟨ABg _,fun j Ay=>absurd Ay (AB2 j)⟩ (Bs G) ?_;rintro i ⟨Ag,C0⟩;refine AF 1 G<|Am<|B9 G (fun EO=>?_) (fun EO=>?_)
 ·
  refine AZ<|Am<|B5<|Ae<|Fo 0 G G G I6 G fun v10=>Gi 0 G G (At G) G fun Qr SD=>CT Um G fun E'=>BZ 0 (us:=(JH ((l.getD i default)))) G G G (At G) G G<|Ac<|Am<|Ae<|AX 5 [0] G G<|ET 16 4 [0] [5,6,7,8] G G G<|An G G<|ET 21 4 [0] [5,6,7,8] G G G<|An G G<|ET 26 4 [0] [5,6,7,8] G G G<|An G G<|ET 31 4 [0] [5,6,7,8] G G G<|Ac<|BN G (fun Lz=>?_) (fun Lz=>?_)
  · exact AF 1 G<|BA<|C9<|Cd<|Cd<|C9<|Cd<|AQ<|Bq () G G (by rw[LI,Ur i AGn (YU Lz)];try rfl) G Aa
  ·
   refine AZ<|Kb 3 [0] G G<|CU<|A5<|rg<|C5 G G BV G<|An G G<|nl<|AQ ?_;exact Dy (i+1) ⟨AGn,(Ki C0 (YT Lz))⟩ AGn (Bs G) G (Ad 2 G Aa)
 · exact ex<|Ck<|Ck<|D7<|A5<|AF 1 G<|rt<|Bq () G G (by rw[LI,Us (fun j Ay=>C0 j AGn)];try rfl) G Aa
theorem AzR(CP:Value)(l:List BL):Cv AG 38 [CP] [⟨CP,l⟩] (.bool (AvA l)):=by
 refine Aw.proof Tryz.func38 G 52 G G fun X w=>AF 1 G<|AF 1 G<|Am<|AF 1 G<|B5<|Ji (σ:=Nat) [(0,_)] _ (fun i C=>(4,.int .i64 (i:Int))::(3,.int .i64 (Nh (fun k=>(l.getD k default).Ap) i))::C) (fun i=>i<=l.length/\(∀j,j<i->(!AvT (Nh (fun k=>(l.getD k default).Ap) j) (l.getD j default))=true)) (fun i=>l.length-i) 0 ⟨G,trivial⟩ (Ad 0 G Aa) ⟨ABg _,fun j Ay=>absurd Ay (AB2 j)⟩ (Bs G) ?_;rintro i ⟨Ag,C0⟩;refine Am<|Ae<|U 2 G<|C2 0 G G ACh G fun Adl=>U 1 G<|Ac<|B9 G (fun EO=>?_) (fun EO=>?_)
 ·
  refine AZ<|Am<|B5<|Ae<|U 2 G<|Fo 0 G G G J1 G fun PS=>Gi 0 G G (At G) G fun KR N6=>CT SN G fun E'=>BZ 0 (us:=(H9 ((l.getD i default)))) G G G (At G) G G<|Ac<|Am<|Ae<|AX 5 [0] G G<|ET 20 4 [0] [0,4,5] G G G<|An G G<|ET 25 4 [0] [0,4,5] G G G<|An G G<|ET 30 4 [0] [0,4,5] G G G<|An G G ?_;refine DE 35 14 [0,4,5] G G (fun Lz AxK=>by
   refine AX 3 [0] G G ?_;refine D4 38 10 [0,4,5,35] G G (fun NK VG=>by
    refine AX 4 [0] G G ?_;refine DE 42 5 [0,4,5,35,38] G G (fun Q9 AvY=>by
     have AAW:=ACe Q9;exact U 1 G<|Bl G G G<|BJ 0 (GM ((l.getD i default).Cm)) G G (At G) G G<|Bl G G G<|Db (ps:=[]) (cs:=(GM ((⟨0,0,0,0⟩:De)))) AGq AGo G<|Bl G G G<|Qo zf ((l.getD i default).Cm) ((⟨0,0,0,0⟩:De)) G G G<|U 1 G<|AvY G Br) ?_
    exact U 1 G<|VG G Br) ?_
   exact U 1 G<|AxK G Br) ?_
  refine Ac<|BN G (fun R3=>?_) (fun R3=>?_)
  · exact AF 1 G<|BA<|C9<|Cd<|Cd<|C9<|Cd<|AQ<|Bq () G G (by rw[AvA,Ur i AGn (YU R3)];try rfl) G Aa
  ·
   refine AZ<|Kb 3 [0] G G<|CU<|A5<|rg<|An G G<|C5 G G BV G<|U 1 G<|nl<|AQ ?_;exact Dy (i+1) ⟨AGn,(Ki C0 (YT R3))⟩ AGn (Bs G) G (Ad 2 G Aa)
 · exact ex<|Ck<|Ck<|D7<|A5<|AF 1 G<|rt<|Bq () G G (by rw[AvA,Us (fun j Ay=>C0 j AGn)];try rfl) G Aa
theorem Ay3(d:Bx)(Tj:d.wf):Cv AG 118 [.agg (H8 d).toArray] [] (.bool (Ave d)):=by
 refine Aw.proof Tryz.func118 G 76 G G fun X w=>Ae<|CV G G G fun CY=>U 1 G<|Ac<|Am<|Ae<|AX 2 [0] G G<|B0 (AwZ _ Tj.1) (Ar G) G Aa G<|U 2 G<|DE 8 5 [1] G G (fun D2 ZE=>AX 2 [0] G G<|Bl G G G<|B0 (AwD _ Tj.2.1) (Ar G) G Aa G<|U 2 G<|ZE G Br)<|An G G<|DE 14 5 [1] G G (fun Fm ZH=>AX 2 [0] G G<|Bl G G G<|B0 (Avz _) (Ar G) G Aa G<|U 2 G<|ZH G Br)<|An G G<|DE 20 5 [1] G G (fun HQ ZI=>AX 2 [0] G G<|Bl G G G<|B0 (Avz _) (Ar G) G Aa G<|U 2 G<|ZI G Br)<|An G G<|ET 26 6 [0,0] [1] G G G<|An G G<|ET 33 4 [0] [1] G G G<|An G G<|ET 38 4 [0] [1] G G G<|An G G ?_;refine ET 43 4 [0] [1] G G G<|An G G<|ET 48 4 [0] [1] G G G<|An G G<|ET 53 4 [0] [1] G G G<|Ac<|BN G (fun ev=>?_) (fun ev=>?_)
 ·
  have X6:(Avm d)=true:=ev;exact AF 1 G<|BA<|AQ<|Bq () G G (by rw[Ave,X6];try rfl) G Aa
 ·
  have X6:(Avm d)=false:=ev;refine AZ<|Ae<|AX 4 [0,0] G G<|B0 (Ayr _ _ Tj.2.2.2.2.2.1 Tj.2.2.2.2.2.2.1) (Ar G) G Aa G<|U 1 G<|Ac<|Ae<|AX 5 [0] G G ?_;refine DE 67 8 [] G G (fun JT v'=>by
   have AAX:=ACe JT;exact U 3 G<|Fu 70 4 [0] [67] G G G<|U 1 G<|v' G Br) ?_
  exact U 1 G<|Ac<|rt<|AQ<|Bq () G G (by rw[Ave,X6];try rfl) G Aa
theorem Azz(CP:Value)(l:List Bx)(c:Int)(q:Int)(BK:A' c)(Ed:A' q):Cv AG 119 [CP,.int .i64 c,.int .i64 q] [⟨CP,l⟩] (.int .i64 (HI (Kt l c q))):=by
 refine Aw.proof Tryz.func119 G 31 G G fun X w=>?_;obtain⟨K9,K_⟩:=id BK;obtain⟨LD,LF⟩:=id Ed;refine AF 1 G<|Am<|AF 1 G<|B5<|Ji (σ:=Nat) [(0,_),(1,_),(2,_)] _ (fun i C=>(7,.int .i64 (i:Int))::C) (fun i=>i<=l.length/\(∀j,j<i->(decide ((l.getD j default).Ap=c)&&decide ((l.getD j default).As=q))=false)) (fun i=>l.length-i) 0 (Bs G) (Ad 0 G Aa) ⟨ABg _,fun j Ay=>absurd Ay (AB2 j)⟩ (Bs G) ?_;rintro i ⟨Ag,C0⟩;refine Am<|Ae<|U 2 G<|C2 0 G G ACa G fun Ade=>U 1 G<|Ac<|B9 G (fun Ct=>?_) (fun Ct=>?_)
 ·
  refine AZ<|Am<|B5<|Ae<|U 2 G<|Fo 0 G G G Ox G fun Mn=>CJ 0 Agl G G (BR G) G fun T6=>CQ 0 G G (A2 G) G fun cX=>U 3 G ?_;refine D4 21 8 [0,1,2,7] G G (fun E1 vR=>by
   have An':=ABA E1;exact U 2 G<|Bl G G G<|Fo 2 G G G Ox G fun Xl=>Bl G G G<|CJ 0 Agm G G (BR G) G fun T7=>Bl G G G<|CQ 0 G G (A2 G) G fun mv=>U 3 G<|vR G (Bg.tail (Bg.tail Br))) ?_
  refine Ac<|BN G (fun G5=>?_) (fun G5=>?_)
  · exact AF 2 G<|rt<|C9<|Cd<|Cd<|C9<|Cd<|Bq () G G (by rw[Kt,Tc (j:=i) AGn C0 G5,HI]) G Aa
  ·
   refine EG<|CU<|A5<|rg<|An G G<|C5 G G BV G<|U 1 G<|nl ?_;exact Dy (i+1) ⟨AGn,(Ki C0 (G5))⟩ AGn (Bs G) G (Ad 2 G Aa)
 · exact ex<|Ck<|Ck<|D7<|A5<|AF 1 G<|rt<|Bq () G G (by rw[Kt,Tb (fun k AE=>C0 k AGn),HI]) G Aa
theorem AzT(CP:Value)(l:List Bx):Cv AG 39 [CP] [⟨CP,l⟩] (.bool (Avi l)):=by
 refine Aw.proof Tryz.func39 G 35 G G fun X w=>AF 1 G<|Am<|AF 1 G<|B5<|Ji (σ:=Nat) [(0,_)] _ (fun i C=>(3,.int .i64 (i:Int))::C) (fun i=>i<=l.length/\(∀j,j<i->(!(!Ave (l.getD j default)|| !decide (HI (Kt l (l.getD j default).Ap (l.getD j default).As)=(j:Int))))=true)) (fun i=>l.length-i) 0 ⟨G,trivial⟩ (Ad 0 G Aa) ⟨ABg _,fun j Ay=>absurd Ay (AB2 j)⟩ (Bs G) ?_;rintro i ⟨Ag,C0⟩;refine Am<|Ae<|U 2 G<|C2 0 G G ACa G fun qY=>U 1 G<|Ac<|B9 G (fun GY=>?_) (fun GY=>?_)
 ·
  refine AZ<|Am<|B5<|Am<|Gx mixed AGo<|U 2 G<|Fo 0 G G G Ox G fun gz=>Gi 0 G G (At G) G fun HJ AkQ=>HD (Ay3 _ AkQ) (Ar G) G Aa G<|U 2 G ?_;refine DE 16 15 [0,3] G G (fun CR VF=>by
   have Af2:=CR;try simp only[ABI]at Af2
   exact U 3 G<|Bl G G G<|Fo 2 G G G Ox G fun v20=>Bl G G G<|CJ 0 Agl G G (BR G) G fun SB=>Bl G G G<|CQ 0 G G (A2 G) G fun mu=>U 2 G<|Bl G G G<|Fo 4 G G G Ox G fun T7=>Bl G G G<|CJ 0 Agm G G (BR G) G fun Pf=>Bl G G G<|CQ 0 G G (A2 G) G fun PX=>Bl G G G<|HD (Azz _ _ _ _ mu PX) (Ar G) G (Ad 6 G Aa) G<|U 3 G<|VF G (Bg.tail (Bg.tail (Bg.tail (Bg.tail Br))))) ?_
  refine Gj<|A5<|BN G (fun ES=>?_) (fun ES=>?_)
  · exact AF 1 G<|rt<|C9<|Cd<|Cd<|C9<|Cd<|Bq () G G (by rw[Avi,AvL,Ur i AGn (YU ES)];try rfl) G Aa
  ·
   refine EG<|CU<|A5<|rg<|An G G<|C5 G G BV G<|U 1 G<|nl ?_;exact Dy (i+1) ⟨AGn,(Ki C0 (YT ES))⟩ AGn (Bs G) G (Ad 2 G Aa)
 · exact ex<|Ck<|Ck<|D7<|A5<|Ae<|An G G<|C2 0 G G ACa G fun AAO=>U 2 G<|Ac<|rt<|Bq () G G (by rw[Avi,AvL,Us (fun j Ay=>C0 j AGn)];try rfl) G Aa
theorem Ayn(CP:Value)(l:List Df):Cv AG 40 [CP] [⟨CP,l⟩] (.bool (Avx l)):=by
 refine Aw.proof Tryz.func40 G 40 G G fun X w=>AF 1 G<|AF 1 G<|Am<|AF 1 G<|B5<|Ji (σ:=Nat) [(0,_)] _ (fun i C=>(4,.int .i64 (i:Int))::(3,.int .i64 (Nh (fun k=>(l.getD k default).Ap) i))::C) (fun i=>i<=l.length/\(∀j,j<i->(!(decide ((l.getD j default).Ap<=Nh (fun k=>(l.getD k default).Ap) j)||decide ((l.getD j default).Ap>8)|| !Au5 (l.getD j default).As))=true)) (fun i=>l.length-i) 0 ⟨G,trivial⟩ (Ad 0 G Aa) ⟨ABg _,fun j Ay=>absurd Ay (AB2 j)⟩ (Bs G) ?_;rintro i ⟨Ag,C0⟩;refine Am<|Ae<|U 2 G<|C2 0 G G ACi G fun MD=>U 1 G<|Ac<|B9 G (fun D2=>?_) (fun D2=>?_)
 ·
  refine AZ<|Am<|B5<|Am<|Ae<|U 2 G<|Fo 0 G G G Ky G fun RA=>CJ 0 Ags G G (BR G) G fun PS=>CQ 0 G G (A2 G) G fun N6=>U 3 G ?_;refine DE 18 7 [0,4] G G (fun ER ZI=>by
   have AAU:=ACe ER;exact U 2 G<|Bl G G G<|Fo 2 G G G Ky G fun SB=>Bl G G G<|CJ 0 Ags G G (BR G) G fun RB=>Bl G G G<|CQ 0 G G (A2 G) G fun cY=>U 2 G<|ZI G (Bg.tail (Bg.tail Br))) ?_
  refine An G G ?_;refine DE 26 8 [0,4] G G (fun JR ZJ=>by
   have Axd:=JR;try simp only[ABD,ABl]at Axd
   exact U 2 G<|Bl G G G<|Fo 2 G G G Ky G fun MR=>Bl G G G<|CJ 0 r' G G (BR G) G fun v30=>Bl G G G<|CQ 0 G G (A2 G) G fun cZ=>Bl G G G<|B0 (AwD _ cZ) (Ar G) G Aa G<|U 2 G<|ZJ G (Bg.tail (Bg.tail Br))) ?_
  refine Ac<|BN G (fun FN=>?_) (fun FN=>?_)
  · exact AF 1 G<|BA<|C9<|Cd<|Cd<|C9<|Cd<|Bq () G G (by rw[Avx,Ur i AGn (YU FN)];try rfl) G Aa
  ·
   refine AZ<|rg<|U 2 G<|Fo 2 G G G Ky G fun gA=>CJ 0 Ags G G (BR G) G fun PT=>CQ 0 G G (A2 G) G fun uy=>U 1 G<|nl<|CU<|A5<|rg<|An G G<|C5 G G BV G<|U 1 G<|nl ?_;exact Dy (i+1) ⟨AGn,(Ki C0 (YT FN))⟩ AGn (Bs G) G (Ad 4 G Aa)
 · exact ex<|Ck<|Ck<|D7<|A5<|AF 1 G<|rt<|Bq () G G (by rw[Avx,Us (fun j Ay=>C0 j AGn)];try rfl) G Aa
theorem AAj(s:Bv)(El EV D_ EA Em Eh:Value)(wt:BX)(J8:s.wf)(jb:wt.wf):Cv AG 42 [.agg (BY s El EV D_ EA Em Eh).toArray,.agg (Hh wt).toArray] [⟨El,s.Aj⟩,⟨EV,s.Bz⟩,⟨D_,s.AA⟩,⟨EA,s.Bj⟩,⟨Em,s.CX⟩,⟨Eh,s.Cf⟩] (.bool (Au8 s wt)):=by
 refine Aw.proof Tryz.func42 G 105 G G fun X w=>Ae<|CV G G G fun Dh=>CV G G G fun DQ=>U 1 G<|Ac<|Am<|Ae<|AX 2 [0] G G<|B0 (AwZ _ jb.2.1) (Ar G) G Aa G<|U 2 G<|DE 10 5 [2,3] G G (fun Dq ZF=>AX 2 [0] G G<|Bl G G G<|B0 (AwD _ jb.2.2.1) (Ar G) G Aa G<|U 2 G<|ZF G Br)<|An G G<|DE 16 6 [2,3] G G (fun CR VD=>AX 3 [0] G G<|Bl G G G<|B0 (Avz _) (Ar G) G Aa G<|U 2 G<|VD G Br)<|An G G<|DE 23 7 [2,3] G G (fun Km VE=>Bl G G G<|BJ 1 (BY s El EV D_ EA Em Eh) G G (At G) G G<|AX 3 [0] G G<|Bl G G G<|B0 (Awu _ _ _ _ _ _ _ _ J8) (Ar G) G (BE [0,1,2,3,4,5] G) G<|U 2 G<|VE G Br)<|An G G<|DE 31 6 [3] G G (fun ES vS=>Bl G G G<|BJ 1 (BY s El EV D_ EA Em Eh) G G (At G) G G<|AX 3 [0] G G<|Bl G G G<|B0 (AzW _ _ _ _ _ _ _ _ J8) (Ar G) G (BE [0,1,2,3,4,5] G) G<|U 1 G<|vS G Br)<|Ac<|BN G (fun M5=>?_) (fun M5=>?_)
 ·
  have Avw:(AvI s wt)=true:=M5;exact AF 1 G<|BA<|AQ<|AQ<|Bq () G G (by rw[Au8,Avw];try rfl) G Aa
 ·
  have Avw:(AvI s wt)=false:=M5;refine AZ<|Am<|I5 2 [0] G G<|B5<|AF 2 G<|B9 G (fun K7=>?_) (fun K7=>?_)
  ·
   have yN:(decide (wt.Ca=1))=true:=(ABG K7);refine Ae<|U 1 G<|BJ 0 (MZ wt.AM) G G (At G) G G<|CT vt G fun E'=>BZ 0 (us:=(MZ wt.AM)) G G G (At G) G G<|Ac<|Ae<|AX 4 [1] G G<|Fu 47 4 [1] [3,5] G G G<|An G G<|Fu 52 4 [1] [5] G G G<|An G G<|Fu 57 4 [0] [5] G G G<|An G G<|Fu 62 4 [0] [5] G G G<|An G G ?_;refine D4 67 9 [] G G (fun JT g7=>by
    exact AX 4 [0] G G<|ET 71 4 [0] [67] G G G<|U 1 G<|g7 G Br) ?_
   exact U 1 G<|Ac<|rt<|C9<|Cd<|AQ<|AQ<|AQ<|Bq () G G (by rw[Au8,Avw,yN];try rfl) G Aa
  ·
   have yN:(decide (wt.Ca=1))=false:=(ABM K7);refine AF 2 G<|B9 G (fun pd=>?_) (fun pd=>?_)
   ·
    have Awe:(decide (wt.Ca=2))=true:=(ABG pd);refine Ae<|AX 4 [0] G G ?_;refine D4 82 4 [3] G G (fun AyQ g_=>by
     have AAZ:=ABA AyQ;exact AX 2 [0] G G<|Bl G G G<|B0 (AvP _ jb.2.2.2.2.1) (Ar G) G Aa G<|U 1 G<|g_ G Br) ?_
    refine An G G ?_;refine D4 87 11 [3] G G (fun AmY AvZ=>by
     exact U 1 G<|Bl G G G<|BJ 0 (MZ wt.AM) G G (At G) G G<|AX 5 [0] G G<|AX 1 [0] G G<|Bl G G G<|Db (ps:=[(1,.tmp 92),(3,.tmp 95)]) (cs:=(MZ ((⟨0,wt.AM.Al,ByteArray.empty,wt.AM.B2,0,0⟩:FL)))) AGq AGo G<|Bl G G G<|RU zl (wt.AM) ((⟨0,wt.AM.Al,ByteArray.empty,wt.AM.B2,0,0⟩:FL)) G G G<|U 1 G<|AvZ G Br) ?_
    exact An G G<|Fu 99 5 [0] [] G G G<|U 1 G<|Ac<|rt<|C9<|Cd<|AQ<|AQ<|Bq () G G (by rw[Au8,Avw,yN,Awe];try rfl) G Aa
   ·
    have Awe:(decide (wt.Ca=2))=false:=(ABM pd);exact EG<|CU<|A5<|AF 1 G<|rt<|AQ<|AQ<|Bq () G G (by rw[Au8,Avw,yN,Awe];try rfl) G Aa
theorem tK(CP:Value)(l:List Int):Cv AG 297 [CP] [⟨CP,l⟩] (SA l.sum):=by
 refine Aw.proof Tryz.func297 G 41 G G fun X w=>HP (q:=nb l) (fun S w h=>AcO (h _ (ABx ..))) fun Cl=>HP (q:=l.length<=9223372036854775807) (fun S w h=>L1 (h _ (AA' (i:=0) G))) fun hlen=>AF 2 G<|AF 2 G<|Am<|Ae<|An G G<|C2 0 G G Tryz.underlying60 G fun e'=>An G G<|Ac<|B5<|Ji (σ:=Nat×Int×Int) [(10,_),(11,_)] _ (fun s C=>(12,.int .i64 (s.1:Int))::(4,.int .u64 s.2.1)::(5,.int .u64 s.2.2)::C) (fun s=>s.1<=l.length/\s.2.1=(l.take s.1).sum / 18446744073709551616 % 18446744073709551616/\s.2.2=(l.take s.1).sum % 18446744073709551616/\ -((s.1:Int)*9223372036854775808)<=(l.take s.1).sum/\(l.take s.1).sum<=(s.1:Int)*9223372036854775808) (fun s=>l.length-s.1) (0,0,0) (Bs G) (Ad 0 G Aa) ⟨ABg _,by simp,by simp,by simp,by simp⟩ (Bs G) ?_;rintro⟨i,Ag,BQ⟩ ⟨Hj,G1,Jt,NI,ij⟩;simp only at Hj G1 Jt NI ij;refine AF 1 G<|Am<|B9 G (fun Dp=>?_) (fun Dp=>?_)
 ·
  have Ab:=Aau Cl (i:=i) AGn;refine AZ<|Am<|B5<|Ae<|Fo 0 G G G tp G fun PS=>CQ 0 G G (A2 G) G fun N6=>U 1 G<|Ac<|AF 1 G<|Ae<|U 2 G<|F0 ABc ABJ G (OE _) G ?_;have Acu:=fun w=>m_ (P:=Tryz.prog) BQ (l.getD i default % 18446744073709551616) 0 AGn AGn AGn AGn w;refine hL oN Acu G G<|U 5 G<|Ac<|rg<|U 2 G<|Vl G G AGn (ti Ab) G<|F0 ABc ABJ G (OE _) G<|An G G ?_;have Acv:=fun w=>m_ (P:=Tryz.prog) Ag (Vk (l.getD i default) % 18446744073709551616) ((BQ+l.getD i default % 18446744073709551616+0) / 18446744073709551616) AGn AGn AGn AGn w;refine hL oN Acv G G<|U 4 G<|nl<|CU<|A5<|rg<|C5 G G BV G<|An G G<|nl ?_;have Gg:=AjY G1 Jt Ab;have hs:=AjZ (l:=l) (i:=i) AGn;obtain⟨Acs,e1⟩:=Ab;exact Dy (i+1,(Ag+Vk (l.getD i default) % 18446744073709551616+(BQ+l.getD i default % 18446744073709551616+0) / 18446744073709551616) % 18446744073709551616,(BQ+l.getD i default % 18446744073709551616+0) % 18446744073709551616) ⟨by show i+1<=l.length;omega,by show _=(l.take (i+1)).sum / 18446744073709551616 % 18446744073709551616;rw[hs];exact Gg.1,by show _=(l.take (i+1)).sum % 18446744073709551616;rw[hs];exact Gg.2,by show-(((i+1:Nat):Int)*9223372036854775808)<=(l.take (i+1)).sum;rw[hs];omega,by show(l.take (i+1)).sum<=((i+1:Nat):Int)*9223372036854775808;rw[hs];omega⟩ (by show l.length-(i+1)<l.length-i;omega) (Bs G) G (Ad 1 G Aa)
 ·
  have e:i=l.length:=AGn;subst e;rw[ACB]at G1 Jt NI ij;have La:=AjX G1 Jt AGn;refine ex<|Ck<|Ck<|D7<|A5<|Ae<|An G G<|F0 ABJ ABc G G G<|U 1 G<|Ac<|Am<|Ae<|U 2 G<|Vl G G AGn (ti (Alo BQ)) G<|F0 ABc ABJ G (OE _) G<|U 1 G<|Ac<|Fa G (fun P7=>?_) (fun P7=>?_)
  · exact AF 2 G<|BA<|Fl () G G G (by show _=SA l.sum;rw[SA,Lo,No,AA9 (fun B'=>P7 (La.1.2 B')),AA9 (fun B'=>P7 (La.1.2 B'))]) G Aa
  · exact AZ<|AF 3 G<|rt<|Fl () G G G (by show _=SA l.sum;rw[SA,Lo,No,AA_ (La.1.1 P7),AA_ (La.1.1 P7),La.2 (La.1.1 P7)]) G Aa
theorem q6(a:AD)(Cw:Value)(C6:a.wf)(hh:LI a.A0=true):Cv AG 261 [.agg (A3 a Cw).toArray] [⟨Cw,a.A0⟩] (Adv a):=by
 refine Aw.proof Tryz.func261 G 54 G G fun X w=>HP (q:=∀x∈a.A0,x.wf) (fun S w h=>O7 (s:=MN) (h _ (AA' (i:=0) G))) fun F5=>?_;have Ys:=PC hh;refine Ae<|CV G G G fun CY=>U 3 G<|Ac<|Am ?_;refine lh ⟨fun Rt=>([[],[0],[1],[],[3],[4],[2],[5]]:List (List Nat)).getD Rt [],fun _ _=>True,fun _ _=>[],fun Rt=>([some (.pointer (some ⟨CY,3,none⟩)),some (.int .i64 a.BT),none,some (.pointer (some ⟨CY,3,none⟩)),some (.int .i64 a.BT),none,none,none]:List (Option Value)).getD Rt none,fun Aa4=>match Aa4 with
   |[]=>fun IM=>[AO CY 73 (A3 a Cw),CL X w]
   |[2]=>fun IM=>[row 3 (IM.getD 0 undef) [a.BT],AO CY 73 (A3 a Cw),CL X w]
   |[5]=>fun IM=>[row 3 (IM.getD 0 undef) [a.BT],AO CY 73 (A3 a Cw),CL X w]
   |[2,5]=>fun IM=>[row 3 (IM.getD 1 undef) [a.BT],row 3 (IM.getD 0 undef) [a.BT],AO CY 73 (A3 a Cw),CL X w]
   |[2,6]=>fun IM=>[row 3 (IM.getD 1 undef) [a.BT],AO CY 73 (A3 a Cw),CL X w]
   |[5,2]=>fun IM=>[row 3 (IM.getD 0 undef) [a.BT],row 3 (IM.getD 1 undef) [a.BT],AO CY 73 (A3 a Cw),CL X w]
   |[2,5,6]=>fun IM=>[row 3 (IM.getD 1 undef) [a.BT],row 3 (IM.getD 2 undef) [a.BT],AO CY 73 (A3 a Cw),CL X w]
   |[2,6,5]=>fun IM=>[row 3 (IM.getD 2 undef) [a.BT],row 3 (IM.getD 1 undef) [a.BT],AO CY 73 (A3 a Cw),CL X w]
   |[5,2,6]=>fun IM=>[row 3 (IM.getD 0 undef) [a.BT],row 3 (IM.getD 2 undef) [a.BT],AO CY 73 (A3 a Cw),CL X w]
   |[2,5,6,7]=>fun IM=>[row 3 (IM.getD 3 undef) [a.BT],row 3 (IM.getD 2 undef) [a.BT],AO CY 73 (A3 a Cw),CL X w]
   |[2,6,5,7]=>fun IM=>[row 3 (IM.getD 3 undef) [a.BT],row 3 (IM.getD 1 undef) [a.BT],AO CY 73 (A3 a Cw),CL X w]
   |[5,2,6,7]=>fun IM=>[row 3 (IM.getD 3 undef) [a.BT],row 3 (IM.getD 2 undef) [a.BT],AO CY 73 (A3 a Cw),CL X w]
   |_=>fun _=>[],[2,5,6,7],[[],[2],[5],[2,5],[2,6],[5,2],[2,5,6],[2,6,5],[5,2,6],[2,5,6,7],[2,6,5,7],[5,2,6,7]]⟩ (fun V=>[row 3 (V 7) [a.BT],row 3 (V 6) [a.BT],AO CY 73 (A3 a Cw),CL X w]) mixed rfl rfl (show E7 _ [[2,5,6,7],[2,6,5,7],[5,2,6,7]]from⟨fun _=>rfl,fun _=>rfl,fun _=>rfl,trivial⟩) ?_ ?_
 ·
  refine⟨fun V Az _=>wI (UG G (BR G) G<|GH G G G G) (UG G (BR G) G<|GH G G G G) (UG G (BR G) G<|GH G G G G) (UG G (BR G) G<|GH G G G G) (UG G (BR G) G<|GH G G G G),fun V Az _=>m6 (ME 0 G G (A2 G) G G<|GH G G G G) (ME 1 G G (A2 G) G G<|GH G G G G),fun V Az _=>m6 (BH (xs:=[.tmp 12]) (us:=[.int .i64 a.BT]) (E:=3) (bytes:=8) (n:=1) G (by exact RL) G G G G G G fun xj=>Nm (α:=Int) [a.BT] [[.int .i64 (a.BT)]] G G (fun S w h=>⟨⟨G,C6.2.2.1⟩,trivial⟩) G<|nl (Ig G G G trivial Aa Br)) (BH (xs:=[.tmp 12]) (us:=[.int .i64 a.BT]) (E:=3) (bytes:=8) (n:=1) G (by exact RL) G G G G G G fun xj=>Nm (α:=Int) [a.BT] [[.int .i64 (a.BT)]] G G (fun S w h=>⟨⟨G,C6.2.2.1⟩,trivial⟩) G<|D9 2 G<|D9 1 G<|D9 2 G<|nl (Ig G G G trivial Aa Br)),?_⟩;refine⟨fun V Az _=>(show E7 _ [[],[2],[5],[2,5],[2,6],[5,2],[2,5,6],[2,6,5],[5,2,6]]from⟨?_,?_,?_,?_,?_,?_,?_,?_,?_,trivial⟩),?_⟩
  · exact U 1 G<|GH G G G G
  · exact U 1 G<|GH G G G G
  · exact U 1 G<|GH G G G G
  · exact U 1 G<|GH G G G G
  · exact U 1 G<|GH G G G G
  · exact U 1 G<|GH G G G G
  · exact U 1 G<|GH G G G G
  · exact U 1 G<|GH G G G G
  · exact U 1 G<|GH G G G G
  exact⟨fun V Az _=>du (ME 0 G G (A2 G) G G<|GH G G G G) (ME 1 G G (A2 G) G G<|GH G G G G) (ME 1 G G (A2 G) G G<|GH G G G G),fun V Az _=>du (BH (xs:=[.tmp 15]) (us:=[.int .i64 a.BT]) (E:=3) (bytes:=8) (n:=1) G (by exact RL) G G G G G G fun nt=>Nm (α:=Int) [a.BT] [[.int .i64 (a.BT)]] G G (fun S w h=>⟨⟨G,C6.2.2.1⟩,trivial⟩) G<|nl (Ig G G G trivial Aa Br)) (BH (xs:=[.tmp 15]) (us:=[.int .i64 a.BT]) (E:=3) (bytes:=8) (n:=1) G (by exact RL) G G G G G G fun nt=>Nm (α:=Int) [a.BT] [[.int .i64 (a.BT)]] G G (fun S w h=>⟨⟨G,C6.2.2.1⟩,trivial⟩) G<|nl (Ig G G G trivial Aa Br)) (BH (xs:=[.tmp 15]) (us:=[.int .i64 a.BT]) (E:=3) (bytes:=8) (n:=1) G (by exact RL) G G G G G G fun nt=>Nm (α:=Int) [a.BT] [[.int .i64 (a.BT)]] G G (fun S w h=>⟨⟨G,C6.2.2.1⟩,trivial⟩) G<|nl (Ig G G G trivial Aa Br)),fun V Az _=>du (VQ G G<|nl (Ig G G G trivial Aa Br)) (VQ G G<|nl (Ig G G G trivial Aa Br)) (VQ G G<|nl (Ig G G G trivial Aa Br)),fun V Az _=>du (VQ G G<|nl (Ig G G G trivial Aa Br)) (VQ G G<|nl (Ig G G G trivial Aa Br)) (VQ G G<|nl (Ig G G G trivial Aa Br)),trivial⟩
 ·
  intro V _;refine Ali (L:=[row 3 (V 7) [a.BT],row 3 (V 6) [a.BT],AO CY 73 (A3 a Cw),CL X w]) [(1,_),(5,V 6),(6,V 7)] [_] (Bs G) (Ad 0 G Aa) ?_;generalize V 6=v6;generalize V 7=EZ;refine A5<|Am<|Ae<|AX 2 [2] G G<|C2 0 G G AB5 G fun U9=>An G G<|Ac<|B5<|Hx (σ:=Nat×Value×Value) [(18,_),(19,_)] _ (fun i C=>(20,.int .i64 (i.1:Int))::(5,i.2.1)::(6,i.2.2)::C) (fun i=>[row 3 i.2.2 (So (fun h=> -h.Fc) a.BT a.A0 i.1),row 3 i.2.1 (So (fun h=>h.DV) a.BT a.A0 i.1),AO CY 73 (A3 a Cw),CL X w]) (fun _ Dw=>Dw) (fun i=>i.1<=a.A0.length) (fun i=>a.A0.length-i.1) (0,v6,EZ) (Bs G) (Ad 0 G Aa) (ABg _) (Bs G) G (Ad 0 G Aa) ?_;rintro⟨i,Mp,v6⟩ Ag;simp only at Ag;refine AF 1 G<|Am<|B9 G (fun E1=>?_) (fun E1=>?_)
  ·
   have AJ:=Wy hh (i:=i) AGn;obtain⟨Ank,Anl⟩:=(F5 _ (Hl (l:=a.A0) (i:=i) AGn)).2.2.2;refine AZ<|Am<|B5<|Ae<|Fo 0 G G G I6 G fun RB=>Gi 0 G G (At G) G fun AhM cY=>CT Um G fun K0=>BZ 0 (us:=(JH ((a.A0.getD i default)))) G G G (At G) G G<|Ac<|Ae<|AX 3 [0] G G<|BH (xs:=[.tmp 26]) (us:=[.int .i64 ((a.A0.getD i default).DV)]) (E:=3) (bytes:=8) (n:=1) G (by exact RL) G G G G G G fun Amd=>Q5 (α:=Int) [(a.A0.getD i default).DV] [[.int .i64 ((a.A0.getD i default).DV)]] G (fun S w h=>⟨⟨G,(F5 _ (Hl (l:=a.A0) (i:=i) AGn)).2.2.1⟩,trivial⟩) (ABy G)<|ap 2 0 G G G G RL (by simp only[bC,ABv,ABo];omega) (by simp only[bC,ABv,ABo];omega) G fun Pg=>U 1 G<|Ac<|rg<|AX 3 [0] G G<|fl G BV G<|BH (xs:=[.tmp 32]) (us:=[.int .i64 ((-(a.A0.getD i default).Fc))]) (E:=3) (bytes:=8) (n:=1) G (by exact RL) G G G G G G fun nv=>Q5 (α:=Int) [-(a.A0.getD i default).Fc] [[.int .i64 (-(a.A0.getD i default).Fc)]] G (fun S w h=>⟨⟨G,BV⟩,trivial⟩) (ABy G)<|ap 1 0 G G G G RL (by simp only[bC,ABv,ABo];omega) (by simp only[bC,ABv,ABo];omega) G fun Xm=>U 1 G<|nl<|CU<|A5<|rg<|C5 G G BV G<|An G G<|nl<|AQ ?_;exact Dy ((i+1,Pg,Xm):Nat×Value×Value) (by show i+1<=_;omega) (by show _-_<_-_;omega) (Bs G) G (Ad 4 G Aa)
  · exact ex<|Ck<|Ck<|D7<|A5<|Ae<|An G G<|D9 1 G<|JO<|B0 (tK _ _) (Ar G) G (Ad 0 G Aa) G<|U 3 G<|U 2 G<|Ac<|Ae<|An G G<|JO<|B0 (tK _ _) (Ar G) G (Ad 0 G Aa) G<|U 5 G<|Ac<|Ae<|U 5 G<|Fu 50 3 [] [46,47] G G G<|U 3 G<|Ac<|rt<|AQ<|IB () G G G G (by have e:i=a.A0.length:=AGn;subst e;simp only[AdN a,AdM a];try rfl) G Aa
theorem wR(x:Int)(y:Int)(GP:A' x)(Ym:A' y):Cv AG 296 [.int .i64 x,.int .i64 y] [] (SA (x+y)):=by
 refine Aw.proof Tryz.func296 G 33 G G fun X w=>?_;obtain⟨Ane,Anf⟩:=id GP;obtain⟨Ang,Anh⟩:=id Ym;refine AF 2 G<|Ae<|U 2 G<|Jm G G G<|U 1 G<|Ac<|Am<|Ae<|U 3 G<|Fu 12 3 [] [0,1,6] G G G<|An G G<|Fu 16 3 [] [0,1,6] G G G<|An G G ?_;refine DE 20 11 [6] G G (fun HQ VF=>by
  exact U 3 G<|Fu 23 3 [] [6,20] G G G<|U 1 G<|Fu 27 3 [] [6,20] G G G<|U 1 G<|VF G Br) ?_
 refine Ac<|BN G (fun ES=>?_) (fun ES=>?_)
 · exact AF 2 G<|BA<|Fl () G G G (by show _=SA (x+y);have e:=(hg GP Ym).1.symm.trans ES;rw[ABe]at e;rw[SA,Lo,No,AA9 (by rw[e];decide),AA9 (by rw[e];decide)]) G Aa
 · exact AZ<|AF 3 G<|rt<|Fl () G G G (by show _=SA (x+y);have e:=(hg GP Ym).1.symm.trans ES;rw[ABI]at e;rw[SA,Lo,No,AA_ e,AA_ e,(hg GP Ym).2 e]) G Aa
theorem oX(a:AD)(Cw:Value)(k:F_)(C6:a.wf)(R8:k.wf):Cv AG 257 [.agg (A3 a Cw).toArray,.agg (Lx k).toArray] [⟨Cw,a.A0⟩] (.bool (UJ a k)):=by
 refine Aw.proof Tryz.func257 G 23 G G fun X w=>Ae<|CV G G G fun Dh=>CV G G G fun DQ=>U 1 G<|Ac<|Ae<|AX 4 [1,0] G G<|B0 (wR _ _ C6.2.2.1 R8.2.2.2) (Ar G) G Aa G<|U 5 G<|Ac<|Ae<|U 3 G ?_;refine D4 17 5 [] G G (fun DA VD=>by
  have r2:=ABA DA;exact U 1 G<|Bl G G G<|BJ 1 (Od a.Cs) G G (At G) G G<|U 1 G<|Bl G G G<|B0 (jd _ _ C6.2.1 (AjW (a.BT+k.B2))) (Ar G) G Aa G<|U 1 G<|VD G Br) ?_
 exact U 1 G<|Ac<|rt<|AQ<|AQ<|Bq () G G AGq G Aa
theorem Ps(a:AD)(Cw:Value)(C6:a.wf):Cv AG 186 [.agg (A3 a Cw).toArray] [⟨Cw,a.A0⟩] (.bool (E4 a)):=by
 refine Aw.proof Tryz.func186 G 80 G G fun X w=>Ae<|CV G G G fun CY=>U 1 G<|Ac<|Am<|Ae<|AX 2 [0] G G<|PI G ABO G<|U 1 G<|An G G ?_;refine DE 10 5 [1] G G (fun Dq ZF=>by
  have AfX:=ACe Dq;exact AX 2 [0] G G<|Bl G G G<|PI G ABO G<|U 2 G<|ZF G Br) ?_
 refine An G G<|DE 16 7 [1] G G (fun CR SU=>U 1 G<|Bl G G G<|BJ 0 (Od a.Cs) G G (At G) G G<|AX 2 [0] G G<|Bl G G G<|B0 (jd _ _ C6.2.1 C6.2.2.1) (Ar G) G Aa G<|U 2 G<|SU G Br)<|An G G<|ET 24 4 [0] [1] G G G<|An G G<|DE 29 5 [1] G G (fun G5 ZJ=>AX 2 [0] G G<|Bl G G G<|B0 (Ab6 _ _) (Ar G) G (Ad 0 G Aa) G<|U 2 G<|ZJ G Br)<|Ac<|BN G (fun FN=>?_) (fun FN=>?_)
 ·
  have an:(VO a)=true:=FN;exact AF 1 G<|BA<|AQ<|Bq () G G (by rw[E4,an];try rfl) G Aa
 ·
  have hh:LI a.A0=true:=(by have q:=FN;simp only[ABD,ABI]at q;exact q.2);have an:(VO a)=false:=FN;refine AZ<|Ae<|BJ 0 (A3 a Cw) G G (At G) G G<|B0 (q6 _ _ C6 (by assumption)) (Ar G) G (Ad 0 G Aa) G<|U 7 G<|Ac<|Am<|Ae<|U 3 G<|ET 43 6 [0] [1,4] G G G<|An G G<|ET 50 6 [0] [1] G G G<|Ac<|BN G (fun eu=>?_) (fun eu=>?_)
  ·
   have ea:(XQ a)=true:=eu;exact AF 1 G<|BA<|AQ<|Bq () G G (by rw[E4,an,ea];try rfl) G Aa
  ·
   have ea:(XQ a)=false:=eu;refine AZ<|Am<|I5 4 [0] G G<|B9 G (fun Tg=>?_) (fun Tg=>?_)
   ·
    have hW:(decide (a.BG.Ap=0))=true:=(ABG Tg);exact Ae<|U 1 G<|BJ 0 (Lx a.BG) G G (At G) G G<|Db (ps:=[]) (cs:=(Lx PF)) AGq AGo G<|RU oK (a.BG) PF G G G<|U 1 G<|Ac<|BA<|AQ<|Bq () G G (by rw[E4,an,ea,hW];try rfl) G Aa
   ·
    have hW:(decide (a.BG.Ap=0))=false:=(ABM Tg);exact AZ<|Ae<|U 1 G<|BJ 0 (Lx a.BG) G G (At G) G G<|B0 (qO _ C6.2.2.2.2.2) (Ar G) G Aa G<|An G G<|D4 68 5 [1] G G (fun R5 v9=>AX 2 [0] G G<|Bl G G G<|C2 0 G G AB5 G fun AnY=>U 2 G<|v9 G Br)<|An G G<|D4 74 5 [] G G (fun ew ZP=>Bl G G G<|BJ 0 (A3 a Cw) G G (At G) G G<|U 1 G<|Bl G G G<|BJ 0 (Lx a.BG) G G (At G) G G<|Bl G G G<|B0 (oX _ _ _ C6 C6.2.2.2.2.2) (Ar G) G (Ad 0 G Aa) G<|U 1 G<|ZP G Br)<|U 1 G<|Ac<|rt<|AQ<|Bq () G G (by rw[E4,an,ea,hW];try rfl) G Aa
theorem m8(a:AD)(Cw:Value)(C6:a.wf):Cv AG 135 [.agg (A3 a Cw).toArray] [⟨Cw,a.A0⟩] (.int .i64 (IA (E4 a))):=by
 refine Aw.proof Tryz.func135 G 6 G G fun X w=>Ae<|CV G G G fun CY=>U 1 G<|Ac<|Am<|Ae<|BJ 0 (A3 a Cw) G G (At G) G G<|B0 (Ps _ _ C6) (Ar G) G (Ad 0 G Aa) G<|IH G G<|Ac<|BN G (fun C'=>?_) (fun C'=>?_)
 · exact AF 1 G<|BA<|AQ<|Bq () G G (by rw[IA,AA9 (by have q:=C';rw[ABe]at q;rw[q];decide)]) G Aa
 · exact AZ<|AF 1 G<|rt<|AQ<|Bq () G G (by rw[IA,AA_ (by have q:=C';rw[ABI]at q;exact q)]) G Aa
theorem dz(a:AD)(Cw:Value)(C6:a.wf):Cv AG 102 [.agg (A3 a Cw).toArray] [⟨Cw,a.A0⟩] (.bool (FT a)):=by
 exact Aw.proof Tryz.func102 G 32 G G fun X w=>Ae<|CV G G G fun CY=>U 1 G<|Ac<|Ae<|BJ 0 (A3 a Cw) G G (At G) G G<|B0 (Ps _ _ C6) (Ar G) G (Ad 0 G Aa) G<|An G G<|D4 5 5 [1] G G (fun C' ZC=>U 1 G<|Bl G G G<|BJ 0 (Od a.Cs) G G (At G) G G<|Bl G G G<|Db (ps:=[]) (cs:=(Od cz)) AGq AGo G<|Bl G G G<|RU oL (a.Cs) cz G G G<|U 1 G<|ZC G Br)<|An G G<|Fu 11 4 [0] [1] G G G<|An G G<|D4 16 5 [1] G G (fun CR SS=>AX 2 [0] G G<|Bl G G G<|C2 0 G G AB5 G fun U9=>U 2 G<|SS G Br)<|An G G<|Fu 22 4 [0] [1] G G G<|An G G<|D4 27 4 [] G G (fun G4 VF=>Bl G G G<|BJ 0 (A3 a Cw) G G (At G) G G<|Bl G G G<|B0 (YP _ _ C6) (Ar G) G (Ad 0 G Aa) G<|U 2 G<|VF G Br)<|U 1 G<|Ac<|rt<|AQ<|Bq () G G AGq G Aa
theorem yd(x:ByteArray)(y:ByteArray):Cv AG 299 [.string x,.string y] [] (.int .i64 (RO x y)):=by
 exact Aw.proof Tryz.func299 G 8 G G fun X w=>AF 1 G<|Ae<|U 2 G<|hL zy (fun w=>yc (P:=Tryz.prog) x y w) G G<|U 1 G<|Ac<|rt<|Bq () G G AGq G Aa
theorem yf(x:ByteArray)(y:ByteArray):Cv AG 266 [.string x,.string y] [] (.int .i64 (RO x y)):=by
 exact Aw.proof Tryz.func266 G 8 G G fun X w=>AF 1 G<|Ae<|U 2 G<|B0 (yd _ _) (Ar G) G Aa G<|U 1 G<|Ac<|rt<|Bq () G G AGq G Aa
theorem Ai6(s:Bv)(El EV D_ EA Em Eh:Value)(J8:s.wf):Cv AG 65 [.agg (BY s El EV D_ EA Em Eh).toArray] [⟨El,s.Aj⟩,⟨EV,s.Bz⟩,⟨D_,s.AA⟩,⟨EA,s.Bj⟩,⟨Em,s.CX⟩,⟨Eh,s.Cf⟩] (.bool (VP s)):=by
 refine Aw.proof Tryz.func65 G 48 G G fun X w=>Ae<|CV G G G fun CY=>U 1 G<|Ac<|Am<|Ae<|AX 2 [0] G G<|C2 0 G G ABH G fun MD=>U 1 G<|Ac<|B9 G (fun D2=>?_) (fun D2=>?_)
 ·
  have X8:(decide ((s.Aj.length:Int)>12))=true:=(ABG D2);exact AF 1 G<|BA<|AQ<|Bq () G G (by rw[VP,AA_ X8]) G Aa
 ·
  have X8:(decide ((s.Aj.length:Int)>12))=false:=(ABM D2);refine AZ<|Am<|Ae<|AX 2 [0] G G<|C2 0 G G ABH G fun e'=>An G G<|Ac<|B5<|Ji (σ:=Nat) [(1,_),(10,_),(11,_)] _ (fun i C=>(12,.int .i64 (i:Int))::C) (fun i=>i<=s.Aj.length/\(∀j,j<i->(!dv s j)=true)) (fun i=>s.Aj.length-i) 0 (Bs G) (Ad 0 G (Ad 1 G (Ad 2 G (Ad 3 G (Ad 4 G (Ad 5 G Aa)))))) ⟨ABg _,fun j Ay=>absurd Ay (AB2 j)⟩ (Bs G) ?_;rintro i ⟨Ag,C0⟩;refine AF 1 G<|Am<|B9 G (fun Dp=>?_) (fun Dp=>?_)
  ·
   refine AZ<|Am<|B5<|Ae<|An G G<|Fo 0 G G G Gt G fun Xk=>Gi 0 G G (At G) G fun Ii PV=>?_;refine CT Hd G fun En=>U 1 G<|Cp 1 G fun WU=>?_;refine BZ 0 (us:=(A3 ((s.Aj.getD i default)) Ii)) G G G (At G) (by simp only[ABn,ABr,ABp,WU];rfl) G<|Ac<|Am<|Gx mixed AGo<|BJ 0 (A3 ((s.Aj.getD i default)) Ii) G G (At G) G G<|HD (m8 _ _ PV) (Ar G) G (Ad 1 G Aa) G<|U 2 G ?_;refine DE 20 3 [1,3,4,10,11,12] G G (fun HQ SU=>by
    have Af3:=HQ;simp only[ABI,ABa]at Af3;exact Bl G G G<|BJ 0 (A3 ((s.Aj.getD i default)) Ii) G G (At G) G G<|Bl G G G<|HD (dz _ _ PV) (Ar G) G (Ad 1 G Aa) G<|U 1 G<|SU G Br) ?_
   refine An G G<|DE 24 6 [1,3,4,10,11,12] G G (fun F3 VE=>Bl G G G<|BJ 1 (BY s El EV D_ EA Em Eh) G G (At G) G G<|AX 2 [0] G G<|Bl G G G<|HD (kJ _ _ _ _ _ _ _ _ J8) (Ar G) G (BE [3,4,5,6,7,8] G) G<|U 2 G<|VE G Br)<|An G G ?_;refine DE 31 15 [1,10,11,12] G G (fun ES vV=>by
    have Af5:=ES;try simp only[ABD,ABa,ABI]at Af5
    refine U 3 G ?_;refine D4 34 11 [1,10,11,12,31] G G (fun FN ZN=>by
     have Aob:=ABA FN;exact AX 5 [0,1] G G<|Bl G G G<|TU G G BV G<|Bl G G G<|Fo 3 G G G Gt G fun AkF=>Bl G G G<|CJ 0 kM G G (BR G) G fun ml=>Bl G G G<|CQ 0 G G (A2 G) G fun gD=>Bl G G G<|j2 G G G<|U 1 G<|ZN G (Bg.tail (Bg.tail Br))) ?_
    exact U 1 G<|vV G Br) ?_
   refine Gj<|A5<|BN G (fun US=>?_) (fun US=>?_)
   · exact AF 1 G<|rt<|C9<|Cd<|Cd<|C9<|Cd<|AQ<|AQ<|Bq () G G (by rw[VP,AA9 (by rw[X8];decide),Ur i AGn (YU US)]) G Aa
   ·
    refine EG<|CU<|A5<|rg<|C5 G G BV G<|An G G<|nl<|AQ ?_;exact Dy (i+1) ⟨AGn,(Ki C0 (YT US))⟩ AGn (Bs G) G (BE [3,4,5,6,7,8] G)
  · exact ex<|Ck<|Ck<|D7<|A5<|AF 1 G<|rt<|AQ<|Bq () G G (by rw[VP,AA9 (by rw[X8];decide),Us (fun j Ay=>C0 j AGn)]) G Aa
theorem AcG(CP:Value)(l:List Bx)(f:Nat)(D0:Array Value)(A:List Atom)(p:Bx->Bool)(CM:GU AG f)(E5:∀x:Bx,x.wf->Cv AG f (.agg (H8 x).toArray::D0.toList) A (.bool (p x))):Cv AG 219 [CP,.func (.func f) #[] D0] (⟨CP,l⟩::A) (.int .i64 (HI (Gd l.length (fun j=>p (l.getD j default))))):=by
 refine Aw.proof Tryz.func219 G 19 G G fun X w=>AF 1 G<|Am<|Ae<|An G G<|C2 0 G G ACa G fun MD=>An G G<|Ac<|B5<|Ji (σ:=Nat) [(0,_),(1,_),(7,_)] _ (fun i C=>(8,.int .i64 (i:Int))::C) (fun i=>i<=l.length/\(∀j,j<i->p (l.getD j default)=false)) (fun i=>l.length-i) 0 (Bs G) (Ad 0 G (Bg.tail Br)) ⟨ABg _,fun j Ay=>absurd Ay (AB2 j)⟩ (Bs G) ?_;rintro i ⟨Ag,C0⟩;refine AF 1 G<|Am<|B9 G (fun EO=>?_) (fun EO=>?_)
 ·
  refine AZ<|Am<|B5<|AF 2 G<|Ae<|U 2 G<|An G G<|Fo 0 G G G Ox G fun PS=>Gi 0 G G (At G) G fun KR N6=>QV (E5 _ N6) CM G G G (Bg.tail (Bg.tail (Bg.tail Br))) G fun Ui Mn V4=>?_;obtain rfl:Mn=.bool (p (l.getD i default)):=V4;refine Ac<|BN G (fun CR=>?_) (fun CR=>?_)
  · exact AF 2 G<|rt<|C9<|Cd<|Cd<|C9<|Cd<|Bq () G G (by rw[Tc (j:=i) AGn C0 CR];try rfl) G Aa
  ·
   refine EG<|CU<|A5<|rg<|C5 G G BV G<|An G G<|nl ?_;exact Dy (i+1) ⟨AGn,(Ki C0 (CR))⟩ AGn (Bs G) G (Ad 2 G (Bg.tail (Bg.tail (Bg.tail Br))))
 · exact ex<|Ck<|Ck<|D7<|A5<|AF 1 G<|rt<|Bq () G G (by rw[Tb (fun k AE=>C0 k AGn)];try rfl) G Aa
theorem Ahm(x:Bx)(v1 v2:Value)(c q:Int)(_:x.wf):Cv AG 220 [.agg (H8 x).toArray,v1,v2] [⟨v1,(⟨c⟩:Cq Int)⟩,⟨v2,(⟨q⟩:Cq Int)⟩] (.bool (decide (x.Ap=c)&&decide (x.As=q))):=by
 refine Aw.proof Tryz.func220 G 15 G G fun X w=>Ae<|CV G G G fun DQ=>U 1 G<|Ac<|Ae<|AX 2 [0] G G<|CQ 0 G G (A2 G) G fun OD=>U 2 G ?_;refine D4 9 5 [] G G (fun EO VC=>by
  have Y0:=ABA EO;exact AX 2 [0] G G<|Bl G G G<|CQ 1 G G (A2 G) G fun Xr=>U 2 G<|VC G Br) ?_
 exact U 1 G<|Ac<|rt<|AQ<|Bq () G G AGq G Aa
theorem fA(CP:Value)(l:List Bx)(c:Int)(q:Int)(BK:A' c)(Ed:A' q):Cv AG 137 [CP,.int .i64 c,.int .i64 q] [⟨CP,l⟩] (.int .i64 (HI (Kt l c q))):=by
 refine Aw.proof Tryz.func137 G 10 G G fun X w=>?_;obtain⟨K9,K_⟩:=id BK;obtain⟨LD,LF⟩:=id Ed;exact Ae<|CV G G G fun En=>CV G G G fun E'=>U 1 G<|Ac<|Ae<|M4 (α:=Int) q (fun S w h=>⟨G,Ed⟩)<|M4 (α:=Int) c (fun S w h=>⟨G,BK⟩)<|An G G<|Nd (xs:=[.tmp 4,.tmp 5]) G G<|B0 (AcG _ _ 220 #[.pointer (some ⟨En,0,none⟩),.pointer (some ⟨E',0,none⟩)] [⟨_,(⟨c⟩:Cq Int)⟩,⟨_,(⟨q⟩:Cq Int)⟩] (fun x=>decide (x.Ap=c)&&decide (x.As=q)) (Ar G) (fun x Ab=>Ahm x _ _ c q Ab)) (Ar G) G (BE [2,0,1] G) G<|U 1 G<|Ac<|rt<|Bq () G G AGq G Aa
theorem dS(CP:Value)(l:List Bx):Cv AG 66 [CP] [⟨CP,l⟩] (.int .i64 (IA (Is l))):=by
 refine Aw.proof Tryz.func66 G 29 G G fun X w=>AF 1 G<|Am<|Ae<|An G G<|C2 0 G G ACa G fun qY=>U 1 G<|Ac<|B9 G (fun GY=>?_) (fun GY=>?_)
 ·
  have X7:(decide ((l.length:Int)>4))=true:=(ABG GY);exact AF 1 G<|BA<|Bq () G G (by rw[Is,AA_ X7];try rfl) G Aa
 ·
  have X7:(decide ((l.length:Int)>4))=false:=(ABM GY);refine AZ<|Am<|Ae<|An G G<|C2 0 G G ACa G fun Sm=>An G G<|Ac<|B5<|Ji (σ:=Nat) [(0,_),(8,_),(9,_)] _ (fun i C=>(10,.int .i64 (i:Int))::C) (fun i=>i<=l.length/\(∀j,j<i->(!ab l j)=true)) (fun i=>l.length-i) 0 (Bs G) (Ad 0 G Aa) ⟨ABg _,fun j Ay=>absurd Ay (AB2 j)⟩ (Bs G) ?_;rintro i ⟨Ag,C0⟩;refine AF 1 G<|Am<|B9 G (fun Ct=>?_) (fun Ct=>?_)
  ·
   refine AZ<|Am<|B5<|Ae<|An G G<|Fo 0 G G G Ox G fun RA=>Gi 0 G G (At G) G fun MI SE=>CT SO G fun En=>U 1 G<|BZ 0 (us:=(H8 ((l.getD i default)))) G G G (At G) G G<|Ac<|Ae<|BJ 0 (H8 ((l.getD i default))) G G (At G) G G<|B0 (oq _ SE) (Ar G) G Aa G<|U 2 G ?_;refine DE 18 9 [0,8,9,10] G G (fun ER vP=>by
    exact AX 5 [0,0] G G<|Bl G G G<|B0 (fA _ _ _ _ SE.1 SE.2.1) (Ar G) G (Ad 2 G Aa) G<|U 1 G<|U 2 G<|vP G Br) ?_
   refine Ac<|BN G (fun G4=>?_) (fun G4=>?_)
   · exact AF 1 G<|rt<|C9<|Cd<|Cd<|C9<|Cd<|AQ<|Bq () G G (by rw[Is,AA9 (by rw[X7];decide),Ur i AGn (YU G4)];try rfl) G Aa
   ·
    refine EG<|CU<|A5<|rg<|C5 G G BV G<|An G G<|nl<|AQ ?_;exact Dy (i+1) ⟨AGn,(Ki C0 (YT G4))⟩ AGn (Bs G) G (Ad 2 G Aa)
  · exact ex<|Ck<|Ck<|D7<|A5<|AF 1 G<|rt<|Bq () G G (by rw[Is,AA9 (by rw[X7];decide),Us (fun j Ay=>C0 j AGn)];try rfl) G Aa
end Go.Apw
namespace Go.Proofs.YtalfaopffbkdnaaGreat.Uo
open Go.A_ Go.RowKit Go.Proofs Go.Proofs.YtalfaopffbkdnaaGreat
end Go.Proofs.YtalfaopffbkdnaaGreat.Uo
namespace Go.Apw
open Go.A_ Go.RowKit Go.Proofs.YtalfaopffbkdnaaGreat.Uo Go.Proofs Go.Proofs.YtalfaopffbkdnaaGreat
theorem gS:E3 AG 28 [.int .i64 0,.int .i64 0,.int .i64 0,.string ByteArray.empty,.string ByteArray.empty,.int .i64 0,.int .i64 0]:=E3.mk AGo
end Go.Apw
namespace Go.Proofs.YtalfaopffbkdnaaGreat.XM
theorem QN:EH AG 23 54 7 56:=EH.mk ACh AGo AGp
theorem HB:EH AG 259 171 1 8:=EH.mk ADj AGo AGp
theorem QO:EH AG 339 175 1 8:=EH.mk ADK AGo AGp
theorem OI:EH AG 22 73 10 104:=EH.mk ABH AGo AGp
theorem Mt:EH AG 24 50 11 104:=EH.mk AB4 AGo AGp
theorem QQ:EH AG 25 52 8 80:=EH.mk ACa AGo AGp
theorem RM:EH AG 26 125 2 16:=EH.mk ACi AGo AGp
theorem S1:EH AG 69 83 4 32:=EH.mk AB5 AGo AGp
theorem mixed:Tryz.prog.follows .mixedOrders=true:=AGo
theorem lQ:H5 AG 259 171 1:=⟨ADj,AGo⟩
theorem lR:H5 AG 339 175 1:=⟨ADK,AGo⟩
theorem SM:E3 AG 50 [.int .i64 0,.int .i64 0,.int .i64 0,.int .i64 0,.int .i64 0,.int .i64 0,.string ByteArray.empty,.string ByteArray.empty,.int .i64 0,.int .i64 0,.int .i64 0]:=E3.mk AGo
theorem SN:E3 AG 54 [.int .i64 0,.int .i64 0,.bool false,.int .i64 0,.int .i64 0,.int .i64 0,.int .i64 0]:=E3.mk AGo
theorem SO:E3 AG 52 [.int .i64 0,.int .i64 0,.string ByteArray.empty,.string ByteArray.empty,.int .i64 0,.int .i64 0,.int .i64 0,.int .i64 0]:=E3.mk AGo
theorem de:E3 AG 125 [.int .i64 0,.int .i64 0]:=E3.mk AGo
theorem Um:E3 AG 83 [.int .i64 0,.int .i64 0,.int .i64 0,.int .i64 0]:=E3.mk AGo
theorem df:E3 AG 3 [.int .i64 0]:=E3.mk AGo
theorem dg:E3 AG 29 [.slice none 0 0]:=E3.mk AGo
theorem LQ:E3 AG 31 [.int .i64 0,.int .i64 0,.bool false,.string ByteArray.empty,.string ByteArray.empty,.int .i64 0,.slice none 0 0,.slice none 0 0,.slice none 0 0,.slice none 0 0,.slice none 0 0,.int .i64 0,.int .i64 0,.int .i64 0,.string ByteArray.empty,.string ByteArray.empty,.int .i64 0,.int .i64 0,.int .i64 0,.int .i64 0,.int .i64 0,.string ByteArray.empty,.string ByteArray.empty,.int .i64 0,.int .i64 0,.slice none 0 0,.int .i64 0,.int .i64 0,.int .i64 0]:=E3.mk AGo
theorem Hd:E3 AG 73 [.string ByteArray.empty,.int .i64 0,.int .i64 0,.int .i64 0,.int .i64 0,.slice none 0 0,.int .i64 0,.int .i64 0,.int .i64 0,.int .i64 0]:=E3.mk AGo
end Go.Proofs.YtalfaopffbkdnaaGreat.XM
namespace Go.Proofs.YtalfaopffbkdnaaGreat.MW
theorem QP:EH AG 29 5 1 1:=EH.mk ABT AGo AGp
theorem mixed:Tryz.prog.follows .mixedOrders=true:=AGo
theorem TZ:H5 AG 29 5 1:=⟨ABT,AGo⟩
theorem AlW:E3 AG 136 [.int .u64 0]:=E3.mk AGo
theorem df:E3 AG 3 [.int .i64 0]:=E3.mk AGo
theorem dg:E3 AG 29 [.slice none 0 0]:=E3.mk AGo
theorem AlX:E3 AG 4 [.bool false]:=E3.mk AGo
theorem rL(Bk:Value)(J:List UInt8):Cv AG 318 [Bk] [⟨Bk,J⟩] (TF (HH 0 0 J)):=by
 refine Aw.proof Tryz.func318 G 41 G G fun X w=>AF 3 G<|AF 1 G<|Am<|Ae<|An G G<|C2 0 G G ABT G fun Sm=>An G G<|Ac<|B5<|j9 (σ:=Nat×Nat) (fun s=>[(0,Bk),(5,.int .u64 (s.2:Int)),(8,Bk),(9,.int .i64 (J.length:Int)),(10,.int .i64 (s.1:Int))]) (fun _=>[CL X w]) (fun _=>[⟨Bk,J⟩]) (fun s=>s.1<=9/\s.1<=J.length/\s.2<2^(7*s.1)/\HH 0 0 J=HH s.1 s.2 (J.drop s.1)) (fun s=>J.length-s.1) (0,0) ⟨AGp,ABg _,AGp,G⟩ (Bs G) G Br ?_;rintro⟨i,v⟩ ⟨Af,h2,Bo,BB⟩;simp only at Af h2 Bo BB;refine AF 1 G<|Am<|B9 G (fun Ct=>?_) (fun Ct=>?_)
 ·
  refine AZ<|Am<|B5<|Ae<|An G G ?_;obtain⟨c,Bm⟩:∃c,J[i]? =some c:=⟨_,Aav AGn⟩;have AJ:=yD Bm;have E5:=c.toNat_lt;refine Qh 0 G G G TZ AGn Bm G fun RA=>CQ 0 G G (A2 G) G fun SE=>U 2 G<|Ac<|Am<|Ae<|U 3 G<|cD (i:=17) G (fun DA=>?_) (fun DA=>?_)
  ·
   refine U 3 G<|Ac<|B9 G (fun HQ=>?_) (fun HQ=>?_)
   · exact AF 3 G<|BA<|C9<|Cd<|Cd<|C9<|Cd<|IB () G G G G (by have e:=BB;rw[AJ]at e;simp only[HH]at e;(repeat (first|rw[AA_ AGn]at e|rw[AA9 AGn]at e));first|exact ABE TF e.symm|(exfalso;omega)) G Aa
   ·
    refine AZ<|Ae<|U 2 G<|hA G G (nf c) G<|F0 AC' ABJ G (mB AGn) G<|An G G<|rD G G BV G<|gb G G AGn (lN _ (7*i) (gf Af AGn) AGn) G<|dF G G (rW Bo (gf Af AGn) AGn) G<|U 1 G<|Ac<|Am<|AF 2 G<|B9 G (fun OS=>?_) (fun OS=>?_)
    ·
     refine ex<|Ck<|D7<|A5<|rg<|C5 G G BV G<|An G G<|nl ?_;exact Dy (i+1,v+c.toNat % 128*2^(7*i)) ⟨by show i+1<=9;omega,by show i+1<=J.length;omega,gd Bo,by show HH 0 0 J=_;rw[BB,AJ];simp only[HH];rw[AA9 AGn,AA_ AGn]⟩ (by show J.length-(i+1)<J.length-i;omega) (Bs G) G (Ad 1 G Aa)
    ·
     refine AZ<|Am<|Ae<|U 3 G<|cD (i:=33) G (fun L'=>?_) (fun L'=>?_)
     ·
      refine U 3 G<|Ac<|B9 G (fun K6=>?_) (fun K6=>?_)
      · exact AF 3 G<|BA<|C9<|Cd<|Cd<|C9<|Cd<|IB () G G G G (by have e:=BB;rw[AJ]at e;simp only[HH]at e;(repeat (first|rw[AA_ AGn]at e|rw[AA9 AGn]at e));first|exact ABE TF e.symm|(exfalso;omega)) G Aa
      · exact AZ<|Ae<|U 2 G<|C5 G G BV G<|U 3 G<|Ac<|rt<|C9<|Cd<|Cd<|C9<|Cd<|IB () G G G G (by have e:=BB;rw[AJ]at e;simp only[HH]at e;(repeat (first|rw[AA_ AGn]at e|rw[AA9 AGn]at e));first|exact ABE TF e.symm|(exfalso;omega)) G Aa
     · exact G2 G G G G G<|G2 G G G G G<|U 1 G<|Ac<|LW G<|AZ<|Ae<|U 2 G<|C5 G G BV G<|U 1 G<|U 2 G<|Ac<|rt<|C9<|Cd<|Cd<|C9<|Cd<|IB () G G G G (by have e:=BB;rw[AJ]at e;simp only[HH]at e;(repeat (first|rw[AA_ AGn]at e|rw[AA9 AGn]at e));first|exact ABE TF e.symm|(exfalso;omega)) G Aa
  ·
   refine G2 G G G G G<|G2 G G G G G<|U 1 G<|Ac<|LW G<|AZ<|Ae<|U 2 G<|hA G G (nf c) G<|F0 AC' ABJ G (mB AGn) G<|An G G<|rD G G BV G<|gb G G AGn (lN _ (7*i) (gf Af AGn) AGn) G<|dF G G (rW Bo (gf Af AGn) AGn) G<|U 1 G<|Ac<|Am<|AF 2 G<|B9 G (fun OS=>?_) (fun OS=>?_)
   ·
    refine ex<|Ck<|D7<|A5<|rg<|C5 G G BV G<|An G G<|nl ?_;exact Dy (i+1,v+c.toNat % 128*2^(7*i)) ⟨by show i+1<=9;omega,by show i+1<=J.length;omega,gd Bo,by show HH 0 0 J=_;rw[BB,AJ];simp only[HH];rw[AA9 AGn,AA_ AGn]⟩ (by show J.length-(i+1)<J.length-i;omega) (Bs G) G (Ad 1 G Aa)
   ·
    refine AZ<|Am<|Ae<|U 3 G<|cD (i:=33) G (fun L'=>?_) (fun L'=>?_)
    ·
     refine U 3 G<|Ac<|B9 G (fun K6=>?_) (fun K6=>?_)
     · exact AF 3 G<|BA<|C9<|Cd<|Cd<|C9<|Cd<|IB () G G G G (by have e:=BB;rw[AJ]at e;simp only[HH]at e;(repeat (first|rw[AA_ AGn]at e|rw[AA9 AGn]at e));first|exact ABE TF e.symm|(exfalso;omega)) G Aa
     · exact AZ<|Ae<|U 2 G<|C5 G G BV G<|U 3 G<|Ac<|rt<|C9<|Cd<|Cd<|C9<|Cd<|IB () G G G G (by have e:=BB;rw[AJ]at e;simp only[HH]at e;(repeat (first|rw[AA_ AGn]at e|rw[AA9 AGn]at e));first|exact ABE TF e.symm|(exfalso;omega)) G Aa
    · exact G2 G G G G G<|G2 G G G G G<|U 1 G<|Ac<|LW G<|AZ<|Ae<|U 2 G<|C5 G G BV G<|U 1 G<|U 2 G<|Ac<|rt<|C9<|Cd<|Cd<|C9<|Cd<|IB () G G G G (by have e:=BB;rw[AJ]at e;simp only[HH]at e;(repeat (first|rw[AA_ AGn]at e|rw[AA9 AGn]at e));first|exact ABE TF e.symm|(exfalso;omega)) G Aa
 · exact ex<|Ck<|Ck<|D7<|A5<|AF 3 G<|rt<|IB () G G G G (by have e:=BB;rw[List.drop_eq_nil_of_le AGn]at e;exact ABE TF e.symm) G Aa
theorem n8(Bk:Value)(J:List UInt8)(most:Int)(hm:A' most):Cv AG 308 [Bk,.int .i64 most] [⟨Bk,J⟩] (WI (L9 J most)):=by
 refine Aw.proof Tryz.func308 G 31 G G fun X w=>?_;have Aq:=YV J 0 0 AGp AGp;have LB:=rL Bk J;rcases Fx:HH 0 0 J with⟨v,n,e⟩;rw[Fx]at LB Aq;have LB:Cv AG 318 [Bk] [⟨Bk,J⟩] (.tuple #[.int .u64 (v:Int),.int .i64 (n:Int),.int .i64 (e:Int)]):=LB;simp only at Aq;have Yt:=rr hm;refine AF 3 G<|Ae<|An G G<|B0 (LB) (Ar G) G (Ad 0 G Aa) G<|U 3 G<|U 4 G<|Ac<|Am<|Ae<|U 3 G<|cD (i:=18) G (fun ER=>?_) (fun ER=>?_)
 ·
  refine U 2 G<|Bl G G G<|ka G G G G<|Bl G G G<|F0 ABc ABJ G (SI AGn AGn) G<|U 2 G<|Ac<|B9 G (fun F3=>?_) (fun F3=>?_)
  ·
   refine FA 1 G<|A5<|Am<|AF 2 G<|Fa G (fun JR=>?_) (fun JR=>?_)
   · exact AF 4 G<|BA<|IB () G G G G (by have q:=S7 (most:=most) Fx;(repeat (first|rw[AA_ AGn]at q|rw[AA9 AGn]at q));first|exact ABE WI q.symm|(exfalso;omega)) G Aa
   · exact AZ<|Ae<|An G G<|F0 ABJ ABc G (bq AGn) G<|U 4 G<|Ac<|rt<|IB () G G G G (by have q:=S7 (most:=most) Fx;(repeat (first|rw[AA_ AGn]at q|rw[AA9 AGn]at q));first|exact ABE WI q.symm|(exfalso;omega)) G Aa
  ·
   refine AZ<|Am<|AF 2 G<|Fa G (fun JR=>?_) (fun JR=>?_)
   · exact AF 4 G<|BA<|IB () G G G G (by have q:=S7 (most:=most) Fx;(repeat (first|rw[AA_ AGn]at q|rw[AA9 AGn]at q));first|exact ABE WI q.symm|(exfalso;omega)) G Aa
   · exact AZ<|Ae<|An G G<|F0 ABJ ABc G (bq AGn) G<|U 4 G<|Ac<|rt<|IB () G G G G (by have q:=S7 (most:=most) Fx;(repeat (first|rw[AA_ AGn]at q|rw[AA9 AGn]at q));first|exact ABE WI q.symm|(exfalso;omega)) G Aa
 ·
  refine G2 G G G G G<|G2 G G G G G<|G2 G G G G G<|G2 G G G G G<|G2 G G G G G<|U 1 G<|Ac<|LW G<|AZ<|Am<|AF 2 G<|Fa G (fun JR=>?_) (fun JR=>?_)
  · exact AF 4 G<|BA<|IB () G G G G (by have q:=S7 (most:=most) Fx;(repeat (first|rw[AA_ AGn]at q|rw[AA9 AGn]at q));first|exact ABE WI q.symm|(exfalso;omega)) G Aa
  · exact AZ<|Ae<|An G G<|F0 ABJ ABc G (bq AGn) G<|U 4 G<|Ac<|rt<|IB () G G G G (by have q:=S7 (most:=most) Fx;(repeat (first|rw[AA_ AGn]at q|rw[AA9 AGn]at q));first|exact ABE WI q.symm|(exfalso;omega)) G Aa
theorem AeC(b:Nat)(Bk:Value)(J:List UInt8):Aw AG 317 [Bk,.pointer (some ⟨b,0,none⟩)] [AO b 136 [.int .u64 0]] [⟨Bk,J⟩] (fun(_:Unit) v=>v=Pb (HH 0 0 J).2.1 (HH 0 0 J).2.2) (fun _ _=>[AO b 136 [.int .u64 ((HH 0 0 J).1:Int)]]) (fun _ _=>[]):=by
 exact Aw.proof Tryz.func317 G 13 G G fun X w=>AF 2 G<|Ae<|An G G<|B0 (rL _ _) (Ar G) G (Ad 0 G Aa) G<|U 3 G<|U 1 G<|Fi 0 G G G (A2 G) G (Da G)<|U 2 G<|Ac<|AF 4 G<|rt<|Fl () G G G G G Aa
theorem ym(a b:Nat)(Bk:Value)(J:List UInt8)(most:Int)(hm:A' most):Aw AG 307 [Bk,.pointer (some ⟨a,0,none⟩),.pointer (some ⟨b,0,none⟩)] [AO b 3 [.int .i64 0],AO a 3 [.int .i64 most]] [⟨Bk,J⟩] (fun(_:Unit) v=>v=Pb (L9 J most).2.1 (L9 J most).2.2) (fun _ _=>[AO b 3 [.int .i64 ((L9 J most).1:Int)],AO a 3 [.int .i64 most]]) (fun _ _=>[]):=by
 exact Aw.proof Tryz.func307 G 15 G G fun X w=>AF 2 G<|Ae<|AX 2 [1] G G<|B0 (n8 _ _ _ hm) (Ar G) G (Ad 0 G Aa) G<|U 2 G<|U 2 G<|Fi 0 G G G (A2 G) G (Da G)<|U 2 G<|Ac<|AF 4 G<|rt<|Fl () G G G G G Aa
theorem dN(Bk:Value)(J:List UInt8)(hlen:J.length<=140737488355328):Aw AG 77 [Bk] [] [⟨Bk,J⟩] (fun(_:Unit) _=>True) (fun _ _=>[]) (fun _ v=>[⟨v,J⟩]):=by
 refine Aw.proof Tryz.func77 G 8 G G fun X w=>AF 1 G<|Am<|Ae<|An G G<|RT 0 ABT G G G G fun PM J'=>Ac<|BN G (fun BB=>?_) (fun BB=>?_)
 ·
  have Ab:J=[]:=J' BB;subst Ab;exact DJ (α:=UInt8)<|AF 1 G<|BA<|Bq () G G trivial G (Ad 0 G Aa)
 · exact AZ<|Ae<|NB QP G fun E'=>Nm (α:=UInt8) [] [] G G (fun _ _ _=>trivial) G<|An G G<|ap 0 0 G G G G QP (by simpa using hlen) (by simpa using hlen) G fun EZ=>U 1 G<|Ac<|rt<|K5<|Bq () G G trivial G (Ad 0 G Aa)
theorem Akb(a b:Nat)(Bk:Value)(J:List UInt8)(most:Int)(hm:A' most)(pS:most<=1000000):Aw AG 309 [Bk,.pointer (some ⟨a,0,none⟩),.pointer (some ⟨b,0,none⟩)] [Pk b 29 ([]:List UInt8),AO a 3 [.int .i64 most]] [⟨Bk,J⟩] (fun(_:Unit) v=>v=Pb (N3 J most).2.1 (N3 J most).2.2) (fun _ _=>[Pk b 29 (N3 J most).1,AO a 3 [.int .i64 most]]) (fun _ _=>[]):=by
 refine Aw.proof Tryz.func309 G 38 G G fun X w=>?_;have Aq:=aa J most;have LB:=n8 Bk J most hm;rcases Fx:L9 J most with⟨v,n,e⟩;rw[Fx]at LB Aq;have LB:Cv AG 308 [Bk,.int .i64 most] [⟨Bk,J⟩] (.tuple #[.int .i64 (v:Int),.int .i64 (n:Int),.int .i64 (e:Int)]):=LB;simp only at Aq;have Yt:=rr hm;have LY:=l7 Fx;refine AF 2 G<|Ae<|AX 2 [1] G G<|B0 (LB) (Ar G) G (Ad 0 G Aa) G<|U 3 G<|U 4 G<|Ac<|Am<|AF 2 G<|Fa G (fun DA=>?_) (fun DA=>?_)
 ·
  refine AF 3 G<|BA ?_;rw[show N3 J most=([],0,e)from by rw[LY,AA_ AGn]];exact Fl () G G G G G Aa
 ·
  refine AZ<|Am<|Ae<|An G G<|C2 0 G G ABT G fun U_=>An G G<|TU G G BV G<|U 2 G<|Ac<|B9 G (fun F3=>?_) (fun F3=>?_)
  ·
   refine AF 2 G<|BA ?_;rw[show N3 J most=([],0,20)from by rw[LY,AA9 AGn,AA_ AGn]];exact Fl () G G G G G Aa
  ·
   refine AZ<|Ae<|U 4 G<|C5 G G BV G<|U 2 G<|C5 G G BV G<|lP 0 G G TZ G G G AGn AGn AGn AGn G fun ue=>Dm (dN _ _ (by first|assumption|(simp only[ACt,ABz];omega))) (Ar G) G (Ad 0 G Aa) G fun Apn Xm FN=>rS 0 G fun u=>J2 0 1 G G G G (A2 G) (Da G)<|Ac<|Ae<|U 2 G<|C5 G G BV G<|U 2 G<|Ac<|rt ?_
   rw[show N3 J most=((J.drop n).take v,n+v,0)from by rw[LY,AA9 AGn,AA9 AGn]];refine wQ ⟨Xm,(J.drop n).take v⟩ (fun S w h=>?_) (x3 0 0 G G (Fl () G G G G G Aa));have q:=h ⟨Xm,_⟩ (AA' (i:=1) rfl);rw[List.drop_take,show((n:Int)+(v:Int)).toNat-(n:Int).toNat=v from by omega]at q;exact q
theorem Akh(p f:Nat)(bv:Value)(J:List UInt8)(s:Bb)(D0:Array Value)(q EJ:C4)(n e:Nat)(CM:GU AG f)(Bw:s.fault=0)(AH:s.pos<=J.length)(Ao:n<=(J.drop s.pos).length)
  (E5:∀Bk,Aw AG f (Bk::D0.toList) [q] [⟨Bk,J.drop s.pos⟩] (fun(_:Unit) v=>v=Pb n e) (fun _ _=>[EJ]) (fun _ _=>[])):
  Aw AG 305 [.pointer (some ⟨p,0,none⟩),.func (.func f) #[] D0] [q,CG p bv s] [⟨bv,J⟩] (fun(_:Unit) v=>v=.bool (decide (e=0))) (fun _ _=>[EJ,CG p bv (s.step n e)]) (fun _ _=>[]):=by
 refine Aw.proof AGs G 54 G G fun X w=>?_;rw[<-ACB (l:=J)]at E5;have jg:∀Bk,Aw AG f (Bk::D0.toList) [q] [⟨Bk,(J.take J.length).drop s.pos⟩] (fun(_:Unit) v=>v=Pb n e) (fun _ _=>[EJ]) (fun _ _=>[]):=fun Bk=>by have:=E5 Bk;simpa using this
 rw[ACt]at Ao;refine HP (q:=J.length<=9223372036854775807) (fun S w h=>L1 (h _ (ABx ..))) fun hlen=>AF 1 G<|Am<|Ae<|An G G<|M3 AB1 G G G<|U 2 G<|AX 5 [1] G G<|Ac<|Fa G (fun Ft=>?_) (fun Ft=>?_)
 · exact absurd AGn Ft --#done
 ·
  refine AZ<|Am<|Vh (L:=[q,CG p bv s,CL X w]) [(4,.NQ 1),(8,.NQ 1),(12,.NQ 1),(17,.NQ 1)] [(13,⟨some (.int .i64 (J.length:Int)),fun _=>[],false⟩),(18,⟨some (.int .i64 (J.length:Int)),fun _=>[],false⟩),(19,⟨none,fun u=>[⟨u,(J.take J.length).drop s.pos⟩],false⟩),(20,⟨some (Pb n e),fun _=>[],true⟩)] [] [] [(20,fun L _=>NZ 2 (EJ) L)] (fun _=>G) (fun _=>AGo) ?_ fun V _=>?_
  ·
   refine⟨fun V Az _=>(by(repeat (refine dt ?_ ?_;exact C2 0 G G ABT G fun qW=>GH G G G G));trivial),fun V Az _=>(by(repeat (refine dt ?_ ?_;exact C2 0 G G ABT G fun Adi=>GH G G G G));trivial),fun V Az _=>GK (lP 0 G G TZ G G G AGn AGn AGn AGn G fun SC=>nl (Ig G G G trivial (Ad 0 G Aa) (Bg.tail Br))),?_⟩
   refine⟨fun V Az _=>GK ?_,?_⟩
   ·
    refine hD (L0:=[q]) (Lr:=[CG p bv s,CL X w]) (jg _) CM G AGq AGq AGq (Ad 0 G Aa) AGq fun y v h=>?_;obtain rfl:v=Pb n e:=h;exact nl (Ig G G G G Aa (Bg.tail Br))
   trivial
  ·
   refine Vu [1] G<|A5<|Am<|AF 2 G<|Fa G (fun My=>?_) (fun My=>?_)
   ·
    refine Ae<|U 4 G<|Fi 1 G G G (A2 G) G (Da G)<|Ac<|AF 1 G<|BA ?_;have hs:s.step n e=⟨s.pos,e⟩:=(by unfold Bb.step;rw[if_neg AGn,if_pos AGn]);rw[hs];exact Bq () G G (by rw[ABM AGn]) G Aa
   ·
    refine AZ<|Ae<|AX 5 [1] G G<|C5 G G BV G<|U 2 G<|Fi 1 G G G (A2 G) G (Da G)<|Ac<|AF 1 G<|rt ?_;obtain rfl:e=0:=AGn;have hs:s.step n 0=⟨s.pos+n,s.fault⟩:=(by unfold Bb.step;rw[if_neg AGn,if_neg AGn]);rw[hs];exact Bq () G G G G Aa
theorem Akj(p f:Nat)(bv:Value)(J:List UInt8)(s:Bb)(D0:Array Value)(Ey Ez TM TN:C4)(n e:Nat)(CM:GU AG f)(Bw:s.fault=0)(AH:s.pos<=J.length)(Ao:n<=(J.drop s.pos).length)
  (E5:∀Bk,Aw AG f (Bk::D0.toList) [Ey,Ez] [⟨Bk,J.drop s.pos⟩] (fun(_:Unit) v=>v=Pb n e) (fun _ _=>[TM,TN]) (fun _ _=>[])):
  Aw AG 305 [.pointer (some ⟨p,0,none⟩),.func (.func f) #[] D0] [Ey,Ez,CG p bv s] [⟨bv,J⟩] (fun(_:Unit) v=>v=.bool (decide (e=0))) (fun _ _=>[TM,TN,CG p bv (s.step n e)]) (fun _ _=>[]):=by
 refine Aw.proof AGs G 54 G G fun X w=>?_;rw[<-ACB (l:=J)]at E5;have jg:∀Bk,Aw AG f (Bk::D0.toList) [Ey,Ez] [⟨Bk,(J.take J.length).drop s.pos⟩] (fun(_:Unit) v=>v=Pb n e) (fun _ _=>[TM,TN]) (fun _ _=>[]):=fun Bk=>by have:=E5 Bk;simpa using this
 rw[ACt]at Ao;refine HP (q:=J.length<=9223372036854775807) (fun S w h=>L1 (h _ (ABx ..))) fun hlen=>AF 1 G<|Am<|Ae<|An G G<|M3 AB1 G G G<|U 2 G<|AX 5 [2] G G<|Ac<|Fa G (fun Ft=>?_) (fun Ft=>?_)
 · exact absurd AGn Ft --#done
 ·
  refine AZ<|Am<|Vh (L:=[Ey,Ez,CG p bv s,CL X w]) [(4,.NQ 2),(8,.NQ 2),(12,.NQ 2),(17,.NQ 2)] [(13,⟨some (.int .i64 (J.length:Int)),fun _=>[],false⟩),(18,⟨some (.int .i64 (J.length:Int)),fun _=>[],false⟩),(19,⟨none,fun u=>[⟨u,(J.take J.length).drop s.pos⟩],false⟩),(20,⟨some (Pb n e),fun _=>[],true⟩)] [] [] [(20,fun L _=>NZ 2 (TN) (NZ 3 (TM) L))] (fun _=>G) (fun _=>AGo) ?_ fun V _=>?_
  ·
   refine⟨fun V Az _=>(by(repeat (refine dt ?_ ?_;exact C2 0 G G ABT G fun qW=>GH G G G G));trivial),fun V Az _=>(by(repeat (refine dt ?_ ?_;exact C2 0 G G ABT G fun Adi=>GH G G G G));trivial),fun V Az _=>GK (lP 0 G G TZ G G G AGn AGn AGn AGn G fun SC=>nl (Ig G G G trivial (Ad 0 G Aa) (Bg.tail Br))),?_⟩
   refine⟨fun V Az _=>GK ?_,?_⟩
   ·
    refine hD (L0:=[Ey,Ez]) (Lr:=[CG p bv s,CL X w]) (jg _) CM G AGq AGq AGq (Ad 0 G Aa) AGq fun y v h=>?_;obtain rfl:v=Pb n e:=h;exact nl (Ig G G G G Aa (Bg.tail Br))
   trivial
  ·
   refine Vu [1] G<|A5<|Am<|AF 2 G<|Fa G (fun My=>?_) (fun My=>?_)
   ·
    refine Ae<|U 4 G<|Fi 2 G G G (A2 G) G (Da G)<|Ac<|AF 1 G<|BA ?_;have hs:s.step n e=⟨s.pos,e⟩:=(by unfold Bb.step;rw[if_neg AGn,if_pos AGn]);rw[hs];exact Bq () G G (by rw[ABM AGn]) G Aa
   ·
    refine AZ<|Ae<|AX 5 [2] G G<|C5 G G BV G<|U 2 G<|Fi 2 G G G (A2 G) G (Da G)<|Ac<|AF 1 G<|rt ?_;obtain rfl:e=0:=AGn;have hs:s.step n 0=⟨s.pos+n,s.fault⟩:=(by unfold Bb.step;rw[if_neg AGn,if_neg AGn]);rw[hs];exact Bq () G G G G Aa
theorem Akg(p f:Nat)(bv:Value)(J:List UInt8)(s:Bb)(D0:Array Value)(q:C4)(_ _:Nat)(Bw:s.fault≠0):
  Aw AG 305 [.pointer (some ⟨p,0,none⟩),.func (.func f) #[] D0] [q,CG p bv s] [⟨bv,J⟩] (fun(_:Unit) v=>v=.bool false) (fun _ _=>[q,CG p bv s]) (fun _ _=>[]):=by
 refine Aw.proof AGs G 54 G G fun X w=>AF 1 G<|Am<|Ae<|An G G<|M3 AB1 G G G<|U 2 G<|AX 5 [1] G G<|Ac<|Fa G (fun Ft=>?_) (fun Ft=>?_)
 · exact AF 1 G<|BA<|Bq () G G G G Aa
 · exact absurd AGn Bw --#done
theorem tU(p f:Nat)(bv:Value)(J:List UInt8)(s:Bb)(D0:Array Value)(q EJ:C4)(n e:Nat)(CM:GU AG f)(AH:s.pos<=J.length)(Ao:n<=(J.drop s.pos).length)
  (E5:s.fault=0->∀Bk,Aw AG f (Bk::D0.toList) [q] [⟨Bk,J.drop s.pos⟩] (fun(_:Unit) v=>v=Pb n e) (fun _ _=>[EJ]) (fun _ _=>[]))
  (jf:s.fault≠0->[EJ]=[q]):
  Aw AG 305 [.pointer (some ⟨p,0,none⟩),.func (.func f) #[] D0] [q,CG p bv s] [⟨bv,J⟩] (fun(_:Unit) v=>v=.bool (decide (s.fault=0/\e=0))) (fun _ _=>[EJ,CG p bv (s.step n e)]) (fun _ _=>[]):=by
 by_cases Bw:s.fault=0
 ·
  have h:=Akh p f bv J s D0 q EJ n e CM Bw AH Ao (E5 Bw);simpa only[Bw,true_and]using h
 ·
  have h:=Akg p f bv J s D0 q n e Bw;have hs:s.step n e=s:=(by unfold Bb.step;rw[if_pos Bw]);have Aq:=jf Bw;simp only[ACj,ACs]at Aq;rw[hs,ABM (fun hh=>Bw hh.1)];first|(obtain⟨B4,DC⟩:=Aq;rw[B4,DC];exact h)|(rw[Aq];exact h)
theorem Aki(p f:Nat)(bv:Value)(J:List UInt8)(s:Bb)(D0:Array Value)(Ey Ez:C4)(_ _:Nat)(Bw:s.fault≠0):
  Aw AG 305 [.pointer (some ⟨p,0,none⟩),.func (.func f) #[] D0] [Ey,Ez,CG p bv s] [⟨bv,J⟩] (fun(_:Unit) v=>v=.bool false) (fun _ _=>[Ey,Ez,CG p bv s]) (fun _ _=>[]):=by
 refine Aw.proof AGs G 54 G G fun X w=>AF 1 G<|Am<|Ae<|An G G<|M3 AB1 G G G<|U 2 G<|AX 5 [2] G G<|Ac<|Fa G (fun Ft=>?_) (fun Ft=>?_)
 · exact AF 1 G<|BA<|Bq () G G G G Aa
 · exact absurd AGn Bw --#done
theorem tV(p f:Nat)(bv:Value)(J:List UInt8)(s:Bb)(D0:Array Value)(Ey Ez TM TN:C4)(n e:Nat)(CM:GU AG f)(AH:s.pos<=J.length)(Ao:n<=(J.drop s.pos).length)
  (E5:s.fault=0->∀Bk,Aw AG f (Bk::D0.toList) [Ey,Ez] [⟨Bk,J.drop s.pos⟩] (fun(_:Unit) v=>v=Pb n e) (fun _ _=>[TM,TN]) (fun _ _=>[]))
  (jf:s.fault≠0->[TM,TN]=[Ey,Ez]):
  Aw AG 305 [.pointer (some ⟨p,0,none⟩),.func (.func f) #[] D0] [Ey,Ez,CG p bv s] [⟨bv,J⟩] (fun(_:Unit) v=>v=.bool (decide (s.fault=0/\e=0))) (fun _ _=>[TM,TN,CG p bv (s.step n e)]) (fun _ _=>[]):=by
 by_cases Bw:s.fault=0
 ·
  have h:=Akj p f bv J s D0 Ey Ez TM TN n e CM Bw AH Ao (E5 Bw);simpa only[Bw,true_and]using h
 ·
  have h:=Aki p f bv J s D0 Ey Ez n e Bw;have hs:s.step n e=s:=(by unfold Bb.step;rw[if_pos Bw]);have Aq:=jf Bw;simp only[ACj,ACs]at Aq;rw[hs,ABM (fun hh=>Bw hh.1)];first|(obtain⟨B4,DC⟩:=Aq;rw[B4,DC];exact h)|(rw[Aq];exact h)
theorem AeD(p:Nat)(bv:Value)(J:List UInt8)(s:Bb)(AH:s.pos<=J.length):Aw AG 304 [.pointer (some ⟨p,0,none⟩)] [CG p bv s] [⟨bv,J⟩] (fun(_:Unit) v=>v=.int .u64 ((rdNum J s).1:Int)) (fun _ _=>[CG p bv (rdNum J s).2]) (fun _ _=>[]):=by
 refine Aw.proof Tryz.func304 G 9 G G fun X w=>?_;have LB:=fun b Bk=>AeC b Bk (J.drop s.pos);have Aq:=YV (J.drop s.pos) 0 0 AGp AGp;rcases Fx:HH 0 0 (J.drop s.pos)with⟨x,n,e⟩;rw[Fx]at Aq;simp only[Fx]at LB;simp only at Aq;have Bh:rdNum J s=(s.val 0 x e,s.step n e):=by simp only[rdNum,Lj,Fx]
 rw[Bh];refine AF 1 G<|Ae<|CT AlW G fun DQ=>Fi 0 G G G (A2 G) G (Da G)<|Ac<|Am<|Ae<|An G G<|Nd (xs:=[.tmp 3]) G G<|XY (L0:=[AO DQ 136 [.int .u64 0],CG p bv s]) (Lr:=[CL X w]) (tU p 317 bv J s #[.pointer (some ⟨DQ,0,none⟩)] _ (AO DQ 136 [.int .u64 ((s.val 0 x e:Nat):Int)]) n e (Ar G) AH AGn (fun h Bk=>?_) (fun h=>?_)) (Ar G) G AGq (Ad 0 G Aa) AGq fun y v h=>?_
 ·
  have q:=LB DQ Bk;have B4:s.val 0 x e=x:=(by unfold Bb.val;rw[if_neg AGn];split<;>omega);rw[B4];exact q
 ·
  have B4:s.val 0 x e=0:=(by unfold Bb.val;rw[if_pos h]);rw[B4];rfl
 obtain rfl:v=.bool (decide (s.fault=0/\e=0)):=h;refine IH G G<|Ac<|Fa G (fun GY=>?_) (fun GY=>?_)
 ·
  refine AF 1 G<|BA ?_;have B4:s.val 0 x e=0:=(by unfold Bb.val;split;rfl;split;rfl;omega);exact AQ<|Bq () G G (by rw[B4];rfl) G Aa
 · exact AZ<|I5 2 [0] G G<|rt<|AQ<|Bq () G G G G Aa
theorem X0(p:Nat)(bv:Value)(J:List UInt8)(s:Bb)(most:Int)(hm:A' most)(AH:s.pos<=J.length):Aw AG 285 [.pointer (some ⟨p,0,none⟩),.int .i64 most] [CG p bv s] [⟨bv,J⟩] (fun(_:Unit) v=>v=.int .i64 ((DT J most s).1:Int)) (fun _ _=>[CG p bv (DT J most s).2]) (fun _ _=>[]):=by
 refine Aw.proof Tryz.func285 G 11 G G fun X w=>?_;have LB:=fun a b Bk=>ym a b Bk (J.drop s.pos) most hm;have Aq:=aa (J.drop s.pos) most;rcases Fx:L9 (J.drop s.pos) most with⟨x,n,e⟩;rw[Fx]at Aq;simp only[Fx]at LB;simp only at Aq;have Bh:DT J most s=(s.val 0 x e,s.step n e):=by simp only[DT,Lj,Fx]
 rw[Bh];refine Ae<|CV G G G fun DQ=>U 1 G<|Ac<|Ae<|CT df G fun E'=>Fi 0 G G G (A2 G) G (Da G)<|Ac<|Am<|Ae<|An G G<|Nd (xs:=[.tmp 3,.tmp 5]) G G<|XY (L0:=[AO E' 3 [.int .i64 0],AO DQ 3 [.int .i64 most],CG p bv s]) (Lr:=[CL X w]) (tV p 307 bv J s #[.pointer (some ⟨DQ,0,none⟩),.pointer (some ⟨E',0,none⟩)] _ _ (AO E' 3 [.int .i64 ((s.val 0 x e:Nat):Int)]) (AO DQ 3 [.int .i64 most]) n e (Ar G) AH AGn (fun h Bk=>?_) (fun h=>?_)) (Ar G) G AGq (Ad 0 G Aa) AGq fun y v h=>?_
 ·
  have q:=LB DQ E' Bk;have B4:s.val 0 x e=x:=(by unfold Bb.val;rw[if_neg AGn];split;exact(by simp[Aq.2.2, *]);rfl);rw[B4];exact q
 ·
  have B4:s.val 0 x e=0:=(by unfold Bb.val;rw[if_pos h]);rw[B4];try rfl
 obtain rfl:v=.bool (decide (s.fault=0/\e=0)):=h;refine IH G G<|Ac<|Fa G (fun EO=>?_) (fun EO=>?_)
 ·
  refine AF 1 G<|BA ?_;have B4:s.val 0 x e=0:=(by unfold Bb.val;split;rfl;split;rfl;omega);refine AQ (AQ ?_);exact Bq () G G (by rw[B4];rfl) G Aa
 ·
  refine AZ<|I5 2 [0] G G<|rt<|AQ (AQ ?_);exact Bq () G G G G Aa
theorem Ake(p:Nat)(bv:Value)(J:List UInt8)(s:Bb)(most:Int)(hm:A' most)(pS:most<=1000000)(AH:s.pos<=J.length):Aw AG 290 [.pointer (some ⟨p,0,none⟩),.int .i64 most] [CG p bv s] [⟨bv,J⟩] (fun(_:Unit) _=>True) (fun _ _=>[CG p bv (Gm J most s).2]) (fun _ v=>[⟨v,(Gm J most s).1⟩]):=by
 refine Aw.proof Tryz.func290 G 10 G G fun X w=>?_;have LB:=fun a b Bk=>Akb a b Bk (J.drop s.pos) most hm pS;have Aq:=l6 (J.drop s.pos) most;rcases Fx:N3 (J.drop s.pos) most with⟨x,n,e⟩;rw[Fx]at Aq;simp only[Fx]at LB;simp only at Aq;have Bh:Gm J most s=(s.val [] x e,s.step n e):=by simp only[Gm,Lj,Fx]
 rw[Bh];have Aq:True/\n<=(J.drop s.pos).length/\(e≠0->x=[]/\n=0):=⟨trivial,Aq.1,Aq.2.1⟩;refine Ae<|CV G G G fun DQ=>U 1 G<|Ac<|Ae<|CT dg G fun E'=>Ac<|Ae<|An G G<|oA (α:=UInt8)<|x2 (α:=List UInt8) 0 0 G G<|Nd (xs:=[.tmp 3,.tmp 5]) G G<|XY (L0:=[Pk E' 29 ([]:List UInt8),AO DQ 3 [.int .i64 most],CG p bv s]) (Lr:=[CL X w]) (tV p 309 bv J s #[.pointer (some ⟨DQ,0,none⟩),.pointer (some ⟨E',0,none⟩)] _ _ (Pk E' 29 (s.val [] x e:List UInt8)) (AO DQ 3 [.int .i64 most]) n e (Ar G) AH AGn (fun h Bk=>?_) (fun h=>?_)) (Ar G) G AGq (Ad 1 G Aa) AGq fun y v h=>?_
 ·
  have q:=LB DQ E' Bk;have B4:s.val [] x e=x:=(by unfold Bb.val;rw[if_neg AGn];split;exact(by simp[Aq.2.2, *]);rfl);rw[B4];exact q
 ·
  have B4:s.val [] x e=[]:=(by unfold Bb.val;rw[if_pos h]);rw[B4];try rfl
 obtain rfl:v=.bool (decide (s.fault=0/\e=0)):=h;refine Ac<|Ae<|rS 0 G fun uc=>AX 2 [0] G G<|Ac<|rt<|AQ (AQ ?_);exact Bq () G G trivial G (Ad 0 G Aa)
end Go.Proofs.YtalfaopffbkdnaaGreat.MW
