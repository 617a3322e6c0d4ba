/- Part 14 of shardWhole_holds. -/
import Derived.Test.YtklmcfecakaanaaGreatSq13

set_option maxRecDepth 20000
set_option maxHeartbeats 1000000
namespace Go
theorem ABr:∀{α:Type _} {f:α→Bool},List.all [] f=true:=@List.all_nil
end Go
open Go.Proofs.Tryz renaming func213→AR8,underlying161→ARM,underlying246→AR2,underlying249→AR3,underlying36→ARL,underlying39→ARN,underlying43→ARO,underlying5→AC',underlying9→ABO
open List renaming length_drop→ACt,nodup_cons→ADq,set_cons_succ→ABu,set_cons_zero→ABt
open List.cons renaming injEq→ACj
open Go.A_ Go.Proofs Go.Proofs.YtklmcfecakaanaaGreat Go.Apw
namespace Go.Apw
theorem wR(x:Int)(y:Int)(GP:A' x)(Ym:A' y):Cv AG 210 [.int .i64 x,.int .i64 y] [] (SA (x+y)):=by
 refine Aw.proof Tryz.func210 G 33 G G fun X w=>?_;obtain⟨Ane,Anf⟩:=id GP;obtain⟨Ang,Anh⟩:=id Ym;refine AF 2 G<|Ae<|U 2 G<|Jm G G G<|U 1 G<|Ac<|Am<|Ae<|U 3 G<|Fu 12 3 [] [0,1,6] G G G<|An G G<|Fu 16 3 [] [0,1,6] G G G<|An G G ?_;refine DE 20 11 [6] G G (fun HQ VF=>by
  exact U 3 G<|Fu 23 3 [] [6,20] G G G<|U 1 G<|Fu 27 3 [] [6,20] G G G<|U 1 G<|VF G Br) ?_
 refine Ac<|BN G (fun ES=>?_) (fun ES=>?_)
 · exact AF 2 G<|BA<|Fl () G G G (by show _=SA (x+y);have e:=(hg GP Ym).1.symm.trans ES;rw[ABe]at e;rw[SA,Lo,No,AA9 (by rw[e];decide),AA9 (by rw[e];decide)]) G Aa
 exact AZ<|AF 3 G<|rt<|Fl () G G G (by show _=SA (x+y);have e:=(hg GP Ym).1.symm.trans ES;rw[ABI]at e;rw[SA,Lo,No,AA_ e,AA_ e,(hg GP Ym).2 e]) G Aa
theorem oX(a:AD)(Cw:Value)(k:F_)(C6:a.wf)(R8:k.wf):Cv AG 168 [.agg (A3 a Cw).toArray,.agg (Lx k).toArray] [⟨Cw,a.A0⟩] (.bool (UJ a k)):=by
 refine Aw.proof Tryz.func168 G 23 G G fun X w=>Ae<|CV G G G fun Dh=>CV G G G fun DQ=>U 1 G<|Ac<|Ae<|AX 4 [1,0] G G<|B0 (wR _ _ C6.2.2.1 R8.2.2.2) (Ar G) G Aa G<|U 5 G<|Ac<|Ae<|U 3 G ?_;refine D4 17 5 [] G G (fun DA VD=>by
  have r2:=ABA DA;exact U 1 G<|Bl G G G<|BJ 1 (Od a.Cs) G G (At G) G G<|U 1 G<|Bl G G G<|B0 (jd _ _ C6.2.1 (AjW (a.BT+k.B2))) (Ar G) G Aa G<|U 1 G<|VD G Br) ?_
 exact U 1 G<|Ac<|rt<|AQ<|AQ<|Bq () G G ARz G Aa
theorem Ps(a:AD)(Cw:Value)(C6:a.wf):Cv AG 89 [.agg (A3 a Cw).toArray] [⟨Cw,a.A0⟩] (.bool (E4 a)):=by
 refine Aw.proof Tryz.func89 G 80 G G fun X w=>Ae<|CV G G G fun CY=>U 1 G<|Ac<|Am<|Ae<|AX 2 [0] G G<|PI G ABO G<|U 1 G<|An G G ?_;refine DE 10 5 [1] G G (fun Dq ZF=>by
  have AfX:=ACe Dq;exact AX 2 [0] G G<|Bl G G G<|PI G ABO G<|U 2 G<|ZF G Br) ?_
 refine An G G<|DE 16 7 [1] G G (fun CR SU=>U 1 G<|Bl G G G<|BJ 0 (Od a.Cs) G G (At G) G G<|AX 2 [0] G G<|Bl G G G<|B0 (jd _ _ C6.2.1 C6.2.2.1) (Ar G) G Aa G<|U 2 G<|SU G Br)<|An G G<|ET 24 4 [0] [1] G G G<|An G G<|DE 29 5 [1] G G (fun G5 ZJ=>AX 2 [0] G G<|Bl G G G<|B0 (Ab6 _ _) (Ar G) G (Ad 0 G Aa) G<|U 2 G<|ZJ G Br)<|Ac<|BN G (fun FN=>?_) (fun FN=>?_)
 ·
  have an:(VO a)=true:=FN;exact AF 1 G<|BA<|AQ<|Bq () G G (by rw[E4,an];try rfl) G Aa
 have hh:LI a.A0=true:=by have q:=FN;simp only[ABD,ABI]at q;exact q.2
 have an:(VO a)=false:=FN;refine AZ<|Ae<|BJ 0 (A3 a Cw) G G (At G) G G<|B0 (q6 _ _ C6 (by assumption)) (Ar G) G (Ad 0 G Aa) G<|U 7 G<|Ac<|Am<|Ae<|U 3 G<|ET 43 6 [0] [1,4] G G G<|An G G<|ET 50 6 [0] [1] G G G<|Ac<|BN G (fun eu=>?_) (fun eu=>?_)
 ·
  have ea:(XQ a)=true:=eu;exact AF 1 G<|BA<|AQ<|Bq () G G (by rw[E4,an,ea];try rfl) G Aa
 have ea:(XQ a)=false:=eu;refine AZ<|Am<|I5 4 [0] G G<|B9 G (fun Tg=>?_) (fun Tg=>?_)
 ·
  have hW:(decide (a.BG.Ap=0))=true:=(ABG Tg);exact Ae<|U 1 G<|BJ 0 (Lx a.BG) G G (At G) G G<|Db (ps:=[]) (cs:=(Lx PF)) ARz ARs G<|RU oK (a.BG) PF G G G<|U 1 G<|Ac<|BA<|AQ<|Bq () G G (by rw[E4,an,ea,hW];try rfl) G Aa
 have hW:(decide (a.BG.Ap=0))=false:=(ABM Tg);exact AZ<|Ae<|U 1 G<|BJ 0 (Lx a.BG) G G (At G) G G<|B0 (qO _ C6.2.2.2.2.2) (Ar G) G Aa G<|An G G<|D4 68 5 [1] G G (fun R5 v9=>AX 2 [0] G G<|Bl G G G<|C2 0 G G ADN G fun AnY=>U 2 G<|v9 G Br)<|An G G<|D4 74 5 [] G G (fun ew ZP=>Bl G G G<|BJ 0 (A3 a Cw) G G (At G) G G<|U 1 G<|Bl G G G<|BJ 0 (Lx a.BG) G G (At G) G G<|Bl G G G<|B0 (oX _ _ _ C6 C6.2.2.2.2.2) (Ar G) G (Ad 0 G Aa) G<|U 1 G<|ZP G Br)<|U 1 G<|Ac<|rt<|AQ<|Bq () G G (by rw[E4,an,ea,hW];try rfl) G Aa
theorem m8(a:AD)(Cw:Value)(C6:a.wf):Cv AG 45 [.agg (A3 a Cw).toArray] [⟨Cw,a.A0⟩] (.int .i64 (IA (E4 a))):=by
 refine Aw.proof Tryz.func45 G 6 G G fun X w=>Ae<|CV G G G fun CY=>U 1 G<|Ac<|Am<|Ae<|BJ 0 (A3 a Cw) G G (At G) G G<|B0 (Ps _ _ C6) (Ar G) G (Ad 0 G Aa) G<|IH G G<|Ac<|BN G (fun C'=>?_) (fun C'=>?_)
 · exact AF 1 G<|BA<|AQ<|Bq () G G (by rw[IA,AA9 (by have q:=C';rw[ABe]at q;rw[q];decide)]) G Aa
 exact AZ<|AF 1 G<|rt<|AQ<|Bq () G G (by rw[IA,AA_ (by have q:=C';rw[ABI]at q;exact q)]) G Aa
theorem dz(a:AD)(Cw:Value)(C6:a.wf):Cv AG 46 [.agg (A3 a Cw).toArray] [⟨Cw,a.A0⟩] (.bool (FT a)):=by
 exact Aw.proof Tryz.func46 G 32 G G fun X w=>Ae<|CV G G G fun CY=>U 1 G<|Ac<|Ae<|BJ 0 (A3 a Cw) G G (At G) G G<|B0 (Ps _ _ C6) (Ar G) G (Ad 0 G Aa) G<|An G G<|D4 5 5 [1] G G (fun C' ZC=>U 1 G<|Bl G G G<|BJ 0 (Od a.Cs) G G (At G) G G<|Bl G G G<|Db (ps:=[]) (cs:=(Od cz)) ARz ARs G<|Bl G G G<|RU oL (a.Cs) cz G G G<|U 1 G<|ZC G Br)<|An G G<|Fu 11 4 [0] [1] G G G<|An G G<|D4 16 5 [1] G G (fun CR SS=>AX 2 [0] G G<|Bl G G G<|C2 0 G G ADN G fun U9=>U 2 G<|SS G Br)<|An G G<|Fu 22 4 [0] [1] G G G<|An G G<|D4 27 4 [] G G (fun G4 VF=>Bl G G G<|BJ 0 (A3 a Cw) G G (At G) G G<|Bl G G G<|B0 (YP _ _ C6) (Ar G) G (Ad 0 G Aa) G<|U 2 G<|VF G Br)<|U 1 G<|Ac<|rt<|AQ<|Bq () G G ARz G Aa
theorem yd(x:ByteArray)(y:ByteArray):Cv AG 225 [.string x,.string y] [] (.int .i64 (RO x y)):=by
 exact Aw.proof Tryz.func225 G 8 G G fun X w=>AF 1 G<|Ae<|U 2 G<|hL zy (fun w=>yc (P:=Tryz.prog) x y w) G G<|U 1 G<|Ac<|rt<|Bq () G G ARz G Aa
theorem yf(x:ByteArray)(y:ByteArray):Cv AG 206 [.string x,.string y] [] (.int .i64 (RO x y)):=by
 exact Aw.proof Tryz.func206 G 8 G G fun X w=>AF 1 G<|Ae<|U 2 G<|B0 (yd _ _) (Ar G) G Aa G<|U 1 G<|Ac<|rt<|Bq () G G ARz G Aa
theorem Ai6(s:Bv)(El EV D_ EA Em Eh:Value)(J8:s.wf):Cv AG 29 [.agg (BY s El EV D_ EA Em Eh).toArray] [⟨El,s.Aj⟩,⟨EV,s.Bz⟩,⟨D_,s.AA⟩,⟨EA,s.Bj⟩,⟨Em,s.CX⟩,⟨Eh,s.Cf⟩] (.bool (VP s)):=by
 refine Aw.proof Tryz.func29 G 48 G G fun X w=>Ae<|CV G G G fun CY=>U 1 G<|Ac<|Am<|Ae<|AX 2 [0] G G<|C2 0 G G ARL G fun MD=>U 1 G<|Ac<|B9 G (fun D2=>?_) (fun D2=>?_)
 ·
  have X8:(decide ((s.Aj.length:Int)>12))=true:=(ABG D2);exact AF 1 G<|BA<|AQ<|Bq () G G (by rw[VP,AA_ X8]) G Aa
 have X8:(decide ((s.Aj.length:Int)>12))=false:=(ABM D2);refine AZ<|Am<|Ae<|AX 2 [0] G G<|C2 0 G G ARL G fun e'=>An G G<|Ac<|B5<|Ji (σ:=Nat) [(1,_),(10,_),(11,_)] _ (fun i C=>(12,.int .i64 (i:Int))::C) (fun i=>i<=s.Aj.length/\(∀j,j<i->(!dv s j)=true)) (fun i=>s.Aj.length-i) 0 (Bs G) (Ad 0 G (Ad 1 G (Ad 2 G (Ad 3 G (Ad 4 G (Ad 5 G Aa)))))) ⟨ABg _,fun j Ay=>absurd Ay (AB2 j)⟩ (Bs G) ?_;rintro i ⟨Ag,C0⟩;refine AF 1 G<|Am<|B9 G (fun Dp=>?_) (fun Dp=>?_)
 ·
  refine AZ<|Am<|B5<|Ae<|An G G<|Fo 0 G G G Gt G fun Xk=>Gi 0 G G (At G) G fun Ii PV=>?_;refine CT Hd G fun En=>U 1 G<|Cp 1 G fun WU=>?_;refine BZ 0 (us:=(A3 ((s.Aj.getD i default)) Ii)) G G G (At G) (by simp only[ABn,ABr,ABp,WU];rfl) G<|Ac<|Am<|Gx mixed ARs<|BJ 0 (A3 ((s.Aj.getD i default)) Ii) G G (At G) G G<|HD (m8 _ _ PV) (Ar G) G (Ad 1 G Aa) G<|U 2 G ?_;refine DE 20 3 [1,3,4,10,11,12] G G (fun HQ SU=>by
   have Af3:=HQ;simp only[ABI,ABa]at Af3;exact Bl G G G<|BJ 0 (A3 ((s.Aj.getD i default)) Ii) G G (At G) G G<|Bl G G G<|HD (dz _ _ PV) (Ar G) G (Ad 1 G Aa) G<|U 1 G<|SU G Br) ?_
  refine An G G<|DE 24 6 [1,3,4,10,11,12] G G (fun F3 VE=>Bl G G G<|BJ 1 (BY s El EV D_ EA Em Eh) G G (At G) G G<|AX 2 [0] G G<|Bl G G G<|HD (kJ _ _ _ _ _ _ _ _ J8) (Ar G) G (BE [3,4,5,6,7,8] G) G<|U 2 G<|VE G Br)<|An G G ?_;refine DE 31 15 [1,10,11,12] G G (fun ES vV=>by
   have Af5:=ES;try simp only[ABD,ABa,ABI]at Af5
   refine U 3 G ?_;refine D4 34 11 [1,10,11,12,31] G G (fun FN ZN=>by
    have Aob:=ABA FN;exact AX 5 [0,1] G G<|Bl G G G<|TU G G BV G<|Bl G G G<|Fo 3 G G G Gt G fun AkF=>Bl G G G<|CJ 0 kM G G (BR G) G fun ml=>Bl G G G<|CQ 0 G G (A2 G) G fun gD=>Bl G G G<|j2 G G G<|U 1 G<|ZN G (Bg.tail (Bg.tail Br))) ?_
   exact U 1 G<|vV G Br) ?_
  refine Gj<|A5<|BN G (fun US=>?_) (fun US=>?_)
  · exact AF 1 G<|rt<|C9<|Cd<|Cd<|C9<|Cd<|AQ<|AQ<|Bq () G G (by rw[VP,AA9 (by rw[X8];decide),Ur i AMT (YU US)]) G Aa
  refine EG<|CU<|A5<|rg<|C5 G G BV G<|An G G<|nl<|AQ ?_;exact Dy (i+1) ⟨AMT,(Ki C0 (YT US))⟩ AMT (Bs G) G (BE [3,4,5,6,7,8] G)
 exact ex<|Ck<|Ck<|D7<|A5<|AF 1 G<|rt<|AQ<|Bq () G G (by rw[VP,AA9 (by rw[X8];decide),Us (fun j Ay=>C0 j AMT)]) G Aa
theorem AcG(CP:Value)(l:List Bx)(f:Nat)(D0:Array Value)(A:List Atom)(p:Bx->Bool)(CM:GU AG f)(E5:∀x:Bx,x.wf->Cv AG f (.agg (H8 x).toArray::D0.toList) A (.bool (p x))):Cv AG 92 [CP,.func (.func f) #[] D0] (⟨CP,l⟩::A) (.int .i64 (HI (Gd l.length (fun j=>p (l.getD j default))))):=by
 refine Aw.proof Tryz.func92 G 19 G G fun X w=>AF 1 G<|Am<|Ae<|An G G<|C2 0 G G ARN G fun MD=>An G G<|Ac<|B5<|Ji (σ:=Nat) [(0,_),(1,_),(7,_)] _ (fun i C=>(8,.int .i64 (i:Int))::C) (fun i=>i<=l.length/\(∀j,j<i->p (l.getD j default)=false)) (fun i=>l.length-i) 0 (Bs G) (Ad 0 G (Bg.tail Br)) ⟨ABg _,fun j Ay=>absurd Ay (AB2 j)⟩ (Bs G) ?_;rintro i ⟨Ag,C0⟩;refine AF 1 G<|Am<|B9 G (fun EO=>?_) (fun EO=>?_)
 ·
  refine AZ<|Am<|B5<|AF 2 G<|Ae<|U 2 G<|An G G<|Fo 0 G G G Ox G fun PS=>Gi 0 G G (At G) G fun KR N6=>QV (E5 _ N6) CM G G G (Bg.tail (Bg.tail (Bg.tail Br))) G fun Ui Mn V4=>?_;obtain rfl:Mn=.bool (p (l.getD i default)):=V4;refine Ac<|BN G (fun CR=>?_) (fun CR=>?_)
  · exact AF 2 G<|rt<|C9<|Cd<|Cd<|C9<|Cd<|Bq () G G (by rw[Tc (j:=i) AMT C0 CR];try rfl) G Aa
  refine EG<|CU<|A5<|rg<|C5 G G BV G<|An G G<|nl ?_;exact Dy (i+1) ⟨AMT,(Ki C0 (CR))⟩ AMT (Bs G) G (Ad 2 G (Bg.tail (Bg.tail (Bg.tail Br))))
 exact ex<|Ck<|Ck<|D7<|A5<|AF 1 G<|rt<|Bq () G G (by rw[Tb (fun k AE=>C0 k AMT)];try rfl) G Aa
theorem Ahm(x:Bx)(v1 v2:Value)(c q:Int)(_:x.wf):Cv AG 93 [.agg (H8 x).toArray,v1,v2] [⟨v1,(⟨c⟩:Cq Int)⟩,⟨v2,(⟨q⟩:Cq Int)⟩] (.bool (decide (x.Ap=c)&&decide (x.As=q))):=by
 refine Aw.proof Tryz.func93 G 15 G G fun X w=>Ae<|CV G G G fun DQ=>U 1 G<|Ac<|Ae<|AX 2 [0] G G<|CQ 0 G G (A2 G) G fun OD=>U 2 G ?_;refine D4 9 5 [] G G (fun EO VC=>by
  have Y0:=ABA EO;exact AX 2 [0] G G<|Bl G G G<|CQ 1 G G (A2 G) G fun Xr=>U 2 G<|VC G Br) ?_
 exact U 1 G<|Ac<|rt<|AQ<|Bq () G G ARz G Aa
theorem fA(CP:Value)(l:List Bx)(c:Int)(q:Int)(BK:A' c)(Ed:A' q):Cv AG 48 [CP,.int .i64 c,.int .i64 q] [⟨CP,l⟩] (.int .i64 (HI (Kt l c q))):=by
 refine Aw.proof Tryz.func48 G 10 G G fun X w=>?_;obtain⟨K9,K_⟩:=id BK;obtain⟨LD,LF⟩:=id Ed;exact Ae<|CV G G G fun En=>CV G G G fun E'=>U 1 G<|Ac<|Ae<|M4 (α:=Int) q (fun S w h=>⟨G,Ed⟩)<|M4 (α:=Int) c (fun S w h=>⟨G,BK⟩)<|An G G<|Nd (xs:=[.tmp 4,.tmp 5]) G G<|B0 (AcG _ _ 93 #[ALM En 0,ALM E' 0] [⟨_,(⟨c⟩:Cq Int)⟩,⟨_,(⟨q⟩:Cq Int)⟩] (fun x=>decide (x.Ap=c)&&decide (x.As=q)) (Ar G) (fun x Ab=>Ahm x _ _ c q Ab)) (Ar G) G (BE [2,0,1] G) G<|U 1 G<|Ac<|rt<|Bq () G G ARz G Aa
theorem dS(CP:Value)(l:List Bx):Cv AG 31 [CP] [⟨CP,l⟩] (.int .i64 (IA (Is l))):=by
 refine Aw.proof Tryz.func31 G 29 G G fun X w=>AF 1 G<|Am<|Ae<|An G G<|C2 0 G G ARN G fun qY=>U 1 G<|Ac<|B9 G (fun GY=>?_) (fun GY=>?_)
 ·
  have X7:(decide ((l.length:Int)>4))=true:=(ABG GY);exact AF 1 G<|BA<|Bq () G G (by rw[Is,AA_ X7];try rfl) G Aa
 have X7:(decide ((l.length:Int)>4))=false:=(ABM GY);refine AZ<|Am<|Ae<|An G G<|C2 0 G G ARN G fun Sm=>An G G<|Ac<|B5<|Ji (σ:=Nat) [(0,_),(8,_),(9,_)] _ (fun i C=>(10,.int .i64 (i:Int))::C) (fun i=>i<=l.length/\(∀j,j<i->(!ab l j)=true)) (fun i=>l.length-i) 0 (Bs G) (Ad 0 G Aa) ⟨ABg _,fun j Ay=>absurd Ay (AB2 j)⟩ (Bs G) ?_;rintro i ⟨Ag,C0⟩;refine AF 1 G<|Am<|B9 G (fun Ct=>?_) (fun Ct=>?_)
 ·
  refine AZ<|Am<|B5<|Ae<|An G G<|Fo 0 G G G Ox G fun RA=>Gi 0 G G (At G) G fun MI SE=>CT SO G fun En=>U 1 G<|BZ 0 (us:=(H8 ((l.getD i default)))) G G G (At G) G G<|Ac<|Ae<|BJ 0 (H8 ((l.getD i default))) G G (At G) G G<|B0 (oq _ SE) (Ar G) G Aa G<|U 2 G ?_;refine DE 18 9 [0,8,9,10] G G (fun ER vP=>by
   exact AX 5 [0,0] G G<|Bl G G G<|B0 (fA _ _ _ _ SE.1 SE.2.1) (Ar G) G (Ad 2 G Aa) G<|U 1 G<|U 2 G<|vP G Br) ?_
  refine Ac<|BN G (fun G4=>?_) (fun G4=>?_)
  · exact AF 1 G<|rt<|C9<|Cd<|Cd<|C9<|Cd<|AQ<|Bq () G G (by rw[Is,AA9 (by rw[X7];decide),Ur i AMT (YU G4)];try rfl) G Aa
  refine EG<|CU<|A5<|rg<|C5 G G BV G<|An G G<|nl<|AQ ?_;exact Dy (i+1) ⟨AMT,(Ki C0 (YT G4))⟩ AMT (Bs G) G (Ad 2 G Aa)
 exact ex<|Ck<|Ck<|D7<|A5<|AF 1 G<|rt<|Bq () G G (by rw[Is,AA9 (by rw[X7];decide),Us (fun j Ay=>C0 j AMT)];try rfl) G Aa
end Go.Apw
namespace Go.Proofs.YtklmcfecakaanaaGreat.Uo
open Go.A_ Go.RowKit Go.Proofs Go.Proofs.YtklmcfecakaanaaGreat
end Go.Proofs.YtklmcfecakaanaaGreat.Uo
namespace Go.Apw
open Go.A_ Go.RowKit Go.Proofs.YtklmcfecakaanaaGreat.Uo Go.Proofs Go.Proofs.YtklmcfecakaanaaGreat
theorem gS:E3 AG 42 [ALu,ALu,ALu,AL7,AL7,ALu,ALu]:=E3.mk ARs
end Go.Apw
namespace Go.Proofs.YtklmcfecakaanaaGreat.XM
theorem QN:EH AG 37 130 7 56:=EH.mk ADL ARs ARp
theorem HB:EH AG 246 167 1 8:=EH.mk AR2 ARs ARp
theorem QO:EH AG 249 171 1 8:=EH.mk AR3 ARs ARp
theorem OI:EH AG 36 58 10 104:=EH.mk ARL ARs ARp
theorem Mt:EH AG 38 108 11 104:=EH.mk Tryz.underlying38 ARs ARp
theorem QQ:EH AG 39 67 8 80:=EH.mk ARN ARs ARp
theorem RM:EH AG 40 125 2 16:=EH.mk Tryz.underlying40 ARs ARp
theorem S1:EH AG 56 123 4 32:=EH.mk ADN ARs ARp
theorem lQ:H5 AG 246 167 1:=⟨AR2,ARs⟩
theorem lR:H5 AG 249 171 1:=⟨AR3,ARs⟩
theorem SM:E3 AG 108 [ALu,ALu,ALu,ALu,ALu,ALu,AL7,AL7,ALu,ALu,ALu]:=E3.mk ARs
theorem SN:E3 AG 130 [ALu,ALu,.bool false,ALu,ALu,ALu,ALu]:=E3.mk ARs
theorem SO:E3 AG 67 [ALu,ALu,AL7,AL7,ALu,ALu,ALu,ALu]:=E3.mk ARs
theorem de:E3 AG 125 [ALu,ALu]:=E3.mk ARs
theorem Um:E3 AG 123 [ALu,ALu,ALu,ALu]:=E3.mk ARs
theorem df:E3 AG 3 [ALu]:=E3.mk ARs
theorem dg:E3 AG 43 [AI]:=E3.mk ARs
theorem LQ:E3 AG 45 [ALu,ALu,.bool false,AL7,AL7,ALu,AI,AI,AI,AI,AI,ALu,ALu,ALu,AL7,AL7,ALu,ALu,ALu,ALu,ALu,AL7,AL7,ALu,ALu,AI,ALu,ALu,ALu]:=E3.mk ARs
theorem Hd:E3 AG 58 [AL7,ALu,ALu,ALu,ALu,AI,ALu,ALu,ALu,ALu]:=E3.mk ARs
end Go.Proofs.YtklmcfecakaanaaGreat.XM
namespace Go.Proofs.YtklmcfecakaanaaGreat.MW
theorem QP:EH AG 43 5 1 1:=EH.mk ARO ARs ARp
theorem mixed:Tryz.prog.follows .mixedOrders=true:=ARs
theorem TZ:H5 AG 43 5 1:=⟨ARO,ARs⟩
theorem AlW:E3 AG 28 [.int .u64 0]:=E3.mk ARs
theorem df:E3 AG 3 [ALu]:=E3.mk ARs
theorem dg:E3 AG 43 [AI]:=E3.mk ARs
theorem AlX:E3 AG 4 [.bool false]:=E3.mk ARs
theorem rL(Bk:Value)(nd:List UInt8):Cv AG 228 [Bk] [⟨Bk,nd⟩] (TF (HH 0 0 nd)):=by
 refine Aw.proof Tryz.func228 G 41 G G fun X w=>AF 3 G<|AF 1 G<|Am<|Ae<|An G G<|C2 0 G G ARO G fun Sm=>An G G<|Ac<|B5<|j9 (σ:=Nat×Nat) (fun s=>[(0,Bk),(5,.int .u64 (s.2:Int)),(8,Bk),(9,.int .i64 (nd.length:Int)),(10,.int .i64 (s.1:Int))]) (fun _=>[CL X w]) (fun _=>[⟨Bk,nd⟩]) (fun s=>s.1<=9/\s.1<=nd.length/\s.2<2^(7*s.1)/\HH 0 0 nd=HH s.1 s.2 (nd.drop s.1)) (fun s=>nd.length-s.1) (0,0) ⟨ARp,ABg _,ARp,G⟩ (Bs G) G Br ?_;rintro⟨i,v⟩ ⟨Af,h2,Bo,BB⟩;simp only at Af h2 Bo BB;refine AF 1 G<|Am<|B9 G (fun Ct=>?_) (fun Ct=>?_)
 ·
  refine AZ<|Am<|B5<|Ae<|An G G ?_;obtain⟨c,Bm⟩:∃c,nd[i]? =some c:=⟨_,Aav AMT⟩;have AJ:=yD Bm;have E5:=c.toNat_lt;refine Qh 0 G G G TZ AMT Bm G fun RA=>CQ 0 G G (A2 G) G fun SE=>U 2 G<|Ac<|Am<|Ae<|U 3 G<|cD (i:=17) G (fun DA=>?_) (fun DA=>?_)
  ·
   refine U 3 G<|Ac<|B9 G (fun HQ=>?_) (fun HQ=>?_)
   · exact AF 3 G<|BA<|C9<|Cd<|Cd<|C9<|Cd<|IB () G G G G (by have e:=BB;rw[AJ]at e;simp only[HH]at e;(repeat (first|rw[AA_ AMT]at e|rw[AA9 AMT]at e));first|exact ABE TF e.symm|(exfalso;omega)) G Aa
   refine AZ<|Ae<|U 2 G<|hA G G (nf c) G<|F0 AC' AC4 G (mB AMT) G<|An G G<|rD G G BV G<|gb G G AMT (lN _ (7*i) (gf Af AMT) AMT) G<|dF G G (rW Bo (gf Af AMT) AMT) G<|U 1 G<|Ac<|Am<|AF 2 G<|B9 G (fun OS=>?_) (fun OS=>?_)
   ·
    refine ex<|Ck<|D7<|A5<|rg<|C5 G G BV G<|An G G<|nl ?_;exact Dy (i+1,v+c.toNat % 128*2^(7*i)) ⟨by show i+1<=9;omega,by show i+1<=nd.length;omega,gd Bo,by show HH 0 0 nd=_;rw[BB,AJ];simp only[HH];rw[AA9 AMT,AA_ AMT]⟩ (by show nd.length-(i+1)<nd.length-i;omega) (Bs G) G (Ad 1 G Aa)
   refine AZ<|Am<|Ae<|U 3 G<|cD (i:=33) G (fun ARB=>?_) (fun ARB=>?_)
   ·
    refine U 3 G<|Ac<|B9 G (fun K6=>?_) (fun K6=>?_)
    · exact AF 3 G<|BA<|C9<|Cd<|Cd<|C9<|Cd<|IB () G G G G (by have e:=BB;rw[AJ]at e;simp only[HH]at e;(repeat (first|rw[AA_ AMT]at e|rw[AA9 AMT]at e));first|exact ABE TF e.symm|(exfalso;omega)) G Aa
    exact AZ<|Ae<|U 2 G<|C5 G G BV G<|U 3 G<|Ac<|rt<|C9<|Cd<|Cd<|C9<|Cd<|IB () G G G G (by have e:=BB;rw[AJ]at e;simp only[HH]at e;(repeat (first|rw[AA_ AMT]at e|rw[AA9 AMT]at e));first|exact ABE TF e.symm|(exfalso;omega)) G Aa
   exact G2 G G G G G<|G2 G G G G G<|U 1 G<|Ac<|LW G<|AZ<|Ae<|U 2 G<|C5 G G BV G<|U 1 G<|U 2 G<|Ac<|rt<|C9<|Cd<|Cd<|C9<|Cd<|IB () G G G G (by have e:=BB;rw[AJ]at e;simp only[HH]at e;(repeat (first|rw[AA_ AMT]at e|rw[AA9 AMT]at e));first|exact ABE TF e.symm|(exfalso;omega)) G Aa
  refine G2 G G G G G<|G2 G G G G G<|U 1 G<|Ac<|LW G<|AZ<|Ae<|U 2 G<|hA G G (nf c) G<|F0 AC' AC4 G (mB AMT) G<|An G G<|rD G G BV G<|gb G G AMT (lN _ (7*i) (gf Af AMT) AMT) G<|dF G G (rW Bo (gf Af AMT) AMT) G<|U 1 G<|Ac<|Am<|AF 2 G<|B9 G (fun OS=>?_) (fun OS=>?_)
  ·
   refine ex<|Ck<|D7<|A5<|rg<|C5 G G BV G<|An G G<|nl ?_;exact Dy (i+1,v+c.toNat % 128*2^(7*i)) ⟨by show i+1<=9;omega,by show i+1<=nd.length;omega,gd Bo,by show HH 0 0 nd=_;rw[BB,AJ];simp only[HH];rw[AA9 AMT,AA_ AMT]⟩ (by show nd.length-(i+1)<nd.length-i;omega) (Bs G) G (Ad 1 G Aa)
  refine AZ<|Am<|Ae<|U 3 G<|cD (i:=33) G (fun ARB=>?_) (fun ARB=>?_)
  ·
   refine U 3 G<|Ac<|B9 G (fun K6=>?_) (fun K6=>?_)
   · exact AF 3 G<|BA<|C9<|Cd<|Cd<|C9<|Cd<|IB () G G G G (by have e:=BB;rw[AJ]at e;simp only[HH]at e;(repeat (first|rw[AA_ AMT]at e|rw[AA9 AMT]at e));first|exact ABE TF e.symm|(exfalso;omega)) G Aa
   exact AZ<|Ae<|U 2 G<|C5 G G BV G<|U 3 G<|Ac<|rt<|C9<|Cd<|Cd<|C9<|Cd<|IB () G G G G (by have e:=BB;rw[AJ]at e;simp only[HH]at e;(repeat (first|rw[AA_ AMT]at e|rw[AA9 AMT]at e));first|exact ABE TF e.symm|(exfalso;omega)) G Aa
  exact G2 G G G G G<|G2 G G G G G<|U 1 G<|Ac<|LW G<|AZ<|Ae<|U 2 G<|C5 G G BV G<|U 1 G<|U 2 G<|Ac<|rt<|C9<|Cd<|Cd<|C9<|Cd<|IB () G G G G (by have e:=BB;rw[AJ]at e;simp only[HH]at e;(repeat (first|rw[AA_ AMT]at e|rw[AA9 AMT]at e));first|exact ABE TF e.symm|(exfalso;omega)) G Aa
 exact ex<|Ck<|Ck<|D7<|A5<|AF 3 G<|rt<|IB () G G G G (by have e:=BB;rw[List.drop_eq_nil_of_le AMT]at e;exact ABE TF e.symm) G Aa
theorem n8(Bk:Value)(nd:List UInt8)(most:Int)(hm:A' most):Cv AG 216 [Bk,.int .i64 most] [⟨Bk,nd⟩] (WI (L9 nd most)):=by
 refine Aw.proof Tryz.func216 G 31 G G fun X w=>?_;have Aq:=YV nd 0 0 ARp ARp;have LB:=rL Bk nd;rcases Fx:HH 0 0 nd with⟨v,n,e⟩;rw[Fx]at LB Aq;have LB:Cv AG 228 [Bk] [⟨Bk,nd⟩] (.tuple #[.int .u64 (v:Int),.int .i64 (n:Int),.int .i64 (e:Int)]):=LB;simp only at Aq;have Yt:=rr hm;refine AF 3 G<|Ae<|An G G<|B0 (LB) (Ar G) G (Ad 0 G Aa) G<|U 3 G<|U 4 G<|Ac<|Am<|Ae<|U 3 G<|cD (i:=18) G (fun ER=>?_) (fun ER=>?_)
 ·
  refine U 2 G<|Bl G G G<|ka G G G G<|Bl G G G<|F0 ABc AC4 G (SI AMT AMT) G<|U 2 G<|Ac<|B9 G (fun F3=>?_) (fun F3=>?_)
  ·
   refine FA 1 G<|A5<|Am<|AF 2 G<|Fa G (fun JR=>?_) (fun JR=>?_)
   · exact AF 4 G<|BA<|IB () G G G G (by have q:=S7 (most:=most) Fx;(repeat (first|rw[AA_ AMT]at q|rw[AA9 AMT]at q));first|exact ABE WI q.symm|(exfalso;omega)) G Aa
   exact AZ<|Ae<|An G G<|F0 AC4 ABc G (bq AMT) G<|U 4 G<|Ac<|rt<|IB () G G G G (by have q:=S7 (most:=most) Fx;(repeat (first|rw[AA_ AMT]at q|rw[AA9 AMT]at q));first|exact ABE WI q.symm|(exfalso;omega)) G Aa
  refine AZ<|Am<|AF 2 G<|Fa G (fun JR=>?_) (fun JR=>?_)
  · exact AF 4 G<|BA<|IB () G G G G (by have q:=S7 (most:=most) Fx;(repeat (first|rw[AA_ AMT]at q|rw[AA9 AMT]at q));first|exact ABE WI q.symm|(exfalso;omega)) G Aa
  exact AZ<|Ae<|An G G<|F0 AC4 ABc G (bq AMT) G<|U 4 G<|Ac<|rt<|IB () G G G G (by have q:=S7 (most:=most) Fx;(repeat (first|rw[AA_ AMT]at q|rw[AA9 AMT]at q));first|exact ABE WI q.symm|(exfalso;omega)) G Aa
 refine G2 G G G G G<|G2 G G G G G<|G2 G G G G G<|G2 G G G G G<|G2 G G G G G<|U 1 G<|Ac<|LW G<|AZ<|Am<|AF 2 G<|Fa G (fun JR=>?_) (fun JR=>?_)
 · exact AF 4 G<|BA<|IB () G G G G (by have q:=S7 (most:=most) Fx;(repeat (first|rw[AA_ AMT]at q|rw[AA9 AMT]at q));first|exact ABE WI q.symm|(exfalso;omega)) G Aa
 exact AZ<|Ae<|An G G<|F0 AC4 ABc G (bq AMT) G<|U 4 G<|Ac<|rt<|IB () G G G G (by have q:=S7 (most:=most) Fx;(repeat (first|rw[AA_ AMT]at q|rw[AA9 AMT]at q));first|exact ABE WI q.symm|(exfalso;omega)) G Aa
theorem AeC(b:Nat)(Bk:Value)(nd:List UInt8):Aw AG 227 [Bk,ALM b 0] [AO b 28 [.int .u64 0]] [⟨Bk,nd⟩] (fun(_:Unit) v=>v=Pb (HH 0 0 nd).2.1 (HH 0 0 nd).2.2) (fun _ _=>[AO b 28 [.int .u64 ((HH 0 0 nd).1:Int)]]) (fun _ _=>[]):=by
 exact Aw.proof Tryz.func227 G 13 G G fun X w=>AF 2 G<|Ae<|An G G<|B0 (rL _ _) (Ar G) G (Ad 0 G Aa) G<|U 3 G<|U 1 G<|Fi 0 G G G (A2 G) G (Da G)<|U 2 G<|Ac<|AF 4 G<|rt<|Fl () G G G G G Aa
theorem ym(a b:Nat)(Bk:Value)(nd:List UInt8)(most:Int)(hm:A' most):Aw AG 215 [Bk,ALM a 0,ALM b 0] [AO b 3 [ALu],AO a 3 [.int .i64 most]] [⟨Bk,nd⟩] (fun(_:Unit) v=>v=Pb (L9 nd most).2.1 (L9 nd most).2.2) (fun _ _=>[AO b 3 [.int .i64 ((L9 nd most).1:Int)],AO a 3 [.int .i64 most]]) (fun _ _=>[]):=by
 exact Aw.proof Tryz.func215 G 15 G G fun X w=>AF 2 G<|Ae<|AX 2 [1] G G<|B0 (n8 _ _ _ hm) (Ar G) G (Ad 0 G Aa) G<|U 2 G<|U 2 G<|Fi 0 G G G (A2 G) G (Da G)<|U 2 G<|Ac<|AF 4 G<|rt<|Fl () G G G G G Aa
theorem dN(Bk:Value)(nd:List UInt8)(hlen:nd.length<=140737488355328):Aw AG 65 [Bk] [] [⟨Bk,nd⟩] (fun(_:Unit) _=>True) (fun _ _=>[]) (fun _ v=>[⟨v,nd⟩]):=by
 refine Aw.proof Tryz.func65 G 8 G G fun X w=>AF 1 G<|Am<|Ae<|An G G<|RT 0 ARO G G G G fun PM ARA=>Ac<|BN G (fun BB=>?_) (fun BB=>?_)
 ·
  have Ab:nd=[]:=ARA BB;subst Ab;exact DJ (α:=UInt8)<|AF 1 G<|BA<|Bq () G G trivial G (Ad 0 G Aa)
 exact AZ<|Ae<|NB QP G fun E'=>Nm (α:=UInt8) [] [] G G (fun _ _ _=>trivial) G<|An G G<|ap 0 0 G G G G QP (by simpa using hlen) (by simpa using hlen) G fun EZ=>U 1 G<|Ac<|rt<|K5<|Bq () G G trivial G (Ad 0 G Aa)
theorem Akb(a b:Nat)(Bk:Value)(nd:List UInt8)(most:Int)(hm:A' most)(pS:most<=1000000):Aw AG 217 [Bk,ALM a 0,ALM b 0] [Pk b 43 ([]:List UInt8),AO a 3 [.int .i64 most]] [⟨Bk,nd⟩] (fun(_:Unit) v=>v=Pb (N3 nd most).2.1 (N3 nd most).2.2) (fun _ _=>[Pk b 43 (N3 nd most).1,AO a 3 [.int .i64 most]]) (fun _ _=>[]):=by
 refine Aw.proof Tryz.func217 G 38 G G fun X w=>?_;have Aq:=aa nd most;have LB:=n8 Bk nd most hm;rcases Fx:L9 nd most with⟨v,n,e⟩;rw[Fx]at LB Aq;have LB:Cv AG 216 [Bk,.int .i64 most] [⟨Bk,nd⟩] (.tuple #[.int .i64 (v:Int),.int .i64 (n:Int),.int .i64 (e:Int)]):=LB;simp only at Aq;have Yt:=rr hm;have LY:=l7 Fx;refine AF 2 G<|Ae<|AX 2 [1] G G<|B0 (LB) (Ar G) G (Ad 0 G Aa) G<|U 3 G<|U 4 G<|Ac<|Am<|AF 2 G<|Fa G (fun DA=>?_) (fun DA=>?_)
 ·
  refine AF 3 G<|BA ?_;rw[show N3 nd most=([],0,e)from by rw[LY,AA_ AMT]];exact Fl () G G G G G Aa
 refine AZ<|Am<|Ae<|An G G<|C2 0 G G ARO G fun U_=>An G G<|TU G G BV G<|U 2 G<|Ac<|B9 G (fun F3=>?_) (fun F3=>?_)
 ·
  refine AF 2 G<|BA ?_;rw[show N3 nd most=([],0,20)from by rw[LY,AA9 AMT,AA_ AMT]];exact Fl () G G G G G Aa
 refine AZ<|Ae<|U 4 G<|C5 G G BV G<|U 2 G<|C5 G G BV G<|lP 0 G G TZ G G G AMT AMT AMT AMT G fun ue=>Dm (dN _ _ (by first|assumption|(simp only[ACt,ABz];omega))) (Ar G) G (Ad 0 G Aa) G fun Apn Xm FN=>rS 0 G fun u=>J2 0 1 G G G G (A2 G) (Da G)<|Ac<|Ae<|U 2 G<|C5 G G BV G<|U 2 G<|Ac<|rt ?_
 rw[show N3 nd most=((nd.drop n).take v,n+v,0)from by rw[LY,AA9 AMT,AA9 AMT]];refine wQ ⟨Xm,(nd.drop n).take v⟩ (fun S w h=>?_) (x3 0 0 G G (Fl () G G G G G Aa));have q:=h ⟨Xm,_⟩ (AA' (i:=1) rfl);rw[List.drop_take,show((n:Int)+(v:Int)).toNat-(n:Int).toNat=v from by omega]at q;exact q
theorem Akh(p f:Nat)(bv:Value)(nd:List UInt8)(s:Bb)(D0:Array Value)(q EJ:C4)(n e:Nat)(CM:GU AG f)(Bw:s.fault=0)(AH:s.pos<=nd.length)(Ao:n<=(nd.drop s.pos).length)
  (E5:∀Bk,Aw AG f (Bk::D0.toList) [q] [⟨Bk,nd.drop s.pos⟩] (fun(_:Unit) v=>v=Pb n e) (fun _ _=>[EJ]) (fun _ _=>[])):
  Aw AG 213 [ALM p 0,.func (.func f) #[] D0] [q,CG p bv s] [⟨bv,nd⟩] (fun(_:Unit) v=>v=.bool (decide (e=0))) (fun _ _=>[EJ,CG p bv (s.step n e)]) (fun _ _=>[]):=by
 refine Aw.proof AR8 G 54 G G fun X w=>?_;rw[<-ACB (l:=nd)]at E5;have jg:∀Bk,Aw AG f (Bk::D0.toList) [q] [⟨Bk,(nd.take nd.length).drop s.pos⟩] (fun(_:Unit) v=>v=Pb n e) (fun _ _=>[EJ]) (fun _ _=>[]):=fun Bk=>by have:=E5 Bk;simpa using this
 rw[ACt]at Ao;refine HP (q:=nd.length<=9223372036854775807) (fun S w h=>L1 (h _ (ABx ..))) fun hlen=>AF 1 G<|Am<|Ae<|An G G<|M3 ARM G G G<|U 2 G<|AX 5 [1] G G<|Ac<|Fa G (fun Ft=>?_) (fun Ft=>?_)
 · exact absurd AMT Ft --#done
 refine AZ<|Am<|AuG [] [(0,[(20,.f0 (EJ))])] [(4,DF [1] bv),(8,DF [1] (.int .i64 ((s.pos:Int)))),(12,DF [1] bv),(13,DF [] (.int .i64 ((nd.length:Int)))),(17,DF [1] bv),(18,DF [] (.int .i64 ((nd.length:Int)))),(19,Ff [] (fun A4=>some ((A4 0))) fun A4=>[⟨(A4 0),((nd.take nd.length).drop s.pos)⟩]),(20,DF [0] (.tuple #[.int .i64 ((n:Int)),.int .i64 ((e:Int))]))] [] [0,5,6] (fun _=>G) (fun _=>G) (fun Ai AV Az=>⟨fun _=>AX 1 [0] G G<|BU [] [] 0 G G,fun _=>AX 1 [0] G G<|BU [] [] 0 G G,fun _=>AX 1 [0] G G<|BU [] [] 0 G G,fun _=>C2 0 G G ARO G fun qW=>BU [] [] 0 G G,fun _=>AX 1 [0] G G<|BU [] [] 0 G G,fun _=>C2 0 G G ARO G fun Adi=>BU [] [] 0 G G,fun _=>lP 0 G G TZ G G G AMT AMT AMT AMT G fun SC=>BU [SC] [0] 1 G G,fun _=>?_,trivial⟩) fun Ai _=>?_
 ·
  refine hD (L0:=[q]) (jg _) CM G ARz ARz ARz (Ad 0 G Aa) ARz fun y v h=>?_;obtain rfl:v=Pb n e:=h;exact BU [] [] 1 G G
 generalize Ai 19 0=SC;refine A5<|Am<|AF 2 G<|Fa G (fun My=>?_) (fun My=>?_)
 ·
  refine Ae<|U 4 G<|Fi 1 G G G (A2 G) G (Da G)<|Ac<|AF 1 G<|BA ?_;have hs:s.step n e=⟨s.pos,e⟩:=(by unfold Bb.step;rw[if_neg AMT,if_pos AMT]);rw[hs];exact Bq () G G (by rw[ABM AMT]) G Aa
 refine AZ<|Ae<|AX 5 [1] G G<|C5 G G BV G<|U 2 G<|Fi 1 G G G (A2 G) G (Da G)<|Ac<|AF 1 G<|rt ?_;obtain rfl:e=0:=AMT;have hs:s.step n 0=⟨s.pos+n,s.fault⟩:=by unfold Bb.step;rw[if_neg AMT,if_neg AMT]
 rw[hs];exact Bq () G G G G Aa
theorem Akj(p f:Nat)(bv:Value)(nd:List UInt8)(s:Bb)(D0:Array Value)(q1 q2 TM TN:C4)(n e:Nat)(CM:GU AG f)(Bw:s.fault=0)(AH:s.pos<=nd.length)(Ao:n<=(nd.drop s.pos).length)
  (E5:∀Bk,Aw AG f (Bk::D0.toList) [q1,q2] [⟨Bk,nd.drop s.pos⟩] (fun(_:Unit) v=>v=Pb n e) (fun _ _=>[TM,TN]) (fun _ _=>[])):
  Aw AG 213 [ALM p 0,.func (.func f) #[] D0] [q1,q2,CG p bv s] [⟨bv,nd⟩] (fun(_:Unit) v=>v=.bool (decide (e=0))) (fun _ _=>[TM,TN,CG p bv (s.step n e)]) (fun _ _=>[]):=by
 refine Aw.proof AR8 G 54 G G fun X w=>?_;rw[<-ACB (l:=nd)]at E5;have jg:∀Bk,Aw AG f (Bk::D0.toList) [q1,q2] [⟨Bk,(nd.take nd.length).drop s.pos⟩] (fun(_:Unit) v=>v=Pb n e) (fun _ _=>[TM,TN]) (fun _ _=>[]):=fun Bk=>by have:=E5 Bk;simpa using this
 rw[ACt]at Ao;refine HP (q:=nd.length<=9223372036854775807) (fun S w h=>L1 (h _ (ABx ..))) fun hlen=>AF 1 G<|Am<|Ae<|An G G<|M3 ARM G G G<|U 2 G<|AX 5 [2] G G<|Ac<|Fa G (fun Ft=>?_) (fun Ft=>?_)
 · exact absurd AMT Ft --#done
 refine AZ<|Am<|AuG [] [(0,[(20,.f0 (TM))]),(1,[(20,.f0 (TN))])] [(4,DF [2] bv),(8,DF [2] (.int .i64 ((s.pos:Int)))),(12,DF [2] bv),(13,DF [] (.int .i64 ((nd.length:Int)))),(17,DF [2] bv),(18,DF [] (.int .i64 ((nd.length:Int)))),(19,Ff [] (fun A4=>some ((A4 0))) fun A4=>[⟨(A4 0),((nd.take nd.length).drop s.pos)⟩]),(20,DF [0,1] (.tuple #[.int .i64 ((n:Int)),.int .i64 ((e:Int))]))] [] [0,5,6] (fun _=>G) (fun _=>G) (fun Ai AV Az=>⟨fun _=>AX 1 [0] G G<|BU [] [] 0 G G,fun _=>AX 1 [0] G G<|BU [] [] 0 G G,fun _=>AX 1 [0] G G<|BU [] [] 0 G G,fun _=>C2 0 G G ARO G fun qW=>BU [] [] 0 G G,fun _=>AX 1 [0] G G<|BU [] [] 0 G G,fun _=>C2 0 G G ARO G fun Adi=>BU [] [] 0 G G,fun _=>lP 0 G G TZ G G G AMT AMT AMT AMT G fun SC=>BU [SC] [0] 1 G G,fun _=>?_,trivial⟩) fun Ai _=>?_
 ·
  refine hD (L0:=[q1,q2]) (jg _) CM G ARz ARz ARz (Ad 0 G Aa) ARz fun y v h=>?_;obtain rfl:v=Pb n e:=h;exact BU [] [] 1 G G
 generalize Ai 19 0=SC;refine A5<|Am<|AF 2 G<|Fa G (fun My=>?_) (fun My=>?_)
 ·
  refine Ae<|U 4 G<|Fi 2 G G G (A2 G) G (Da G)<|Ac<|AF 1 G<|BA ?_;have hs:s.step n e=⟨s.pos,e⟩:=(by unfold Bb.step;rw[if_neg AMT,if_pos AMT]);rw[hs];exact Bq () G G (by rw[ABM AMT]) G Aa
 refine AZ<|Ae<|AX 5 [2] G G<|C5 G G BV G<|U 2 G<|Fi 2 G G G (A2 G) G (Da G)<|Ac<|AF 1 G<|rt ?_;obtain rfl:e=0:=AMT;have hs:s.step n 0=⟨s.pos+n,s.fault⟩:=by unfold Bb.step;rw[if_neg AMT,if_neg AMT]
 rw[hs];exact Bq () G G G G Aa
theorem Akg(p f:Nat)(bv:Value)(nd:List UInt8)(s:Bb)(D0:Array Value)(q:C4)(_ _:Nat)(Bw:s.fault≠0):
  Aw AG 213 [ALM p 0,.func (.func f) #[] D0] [q,CG p bv s] [⟨bv,nd⟩] (fun(_:Unit) v=>v=.bool false) (fun _ _=>[q,CG p bv s]) (fun _ _=>[]):=by
 refine Aw.proof AR8 G 54 G G fun X w=>AF 1 G<|Am<|Ae<|An G G<|M3 ARM G G G<|U 2 G<|AX 5 [1] G G<|Ac<|Fa G (fun Ft=>?_) (fun Ft=>?_)
 · exact AF 1 G<|BA<|Bq () G G G G Aa
 exact absurd AMT Bw --#done
theorem tU(p f:Nat)(bv:Value)(nd:List UInt8)(s:Bb)(D0:Array Value)(q EJ:C4)(n e:Nat)(CM:GU AG f)(AH:s.pos<=nd.length)(Ao:n<=(nd.drop s.pos).length)
  (E5:s.fault=0->∀Bk,Aw AG f (Bk::D0.toList) [q] [⟨Bk,nd.drop s.pos⟩] (fun(_:Unit) v=>v=Pb n e) (fun _ _=>[EJ]) (fun _ _=>[]))
  (jf:s.fault≠0->[EJ]=[q]):
  Aw AG 213 [ALM p 0,.func (.func f) #[] D0] [q,CG p bv s] [⟨bv,nd⟩] (fun(_:Unit) v=>v=.bool (decide (s.fault=0/\e=0))) (fun _ _=>[EJ,CG p bv (s.step n e)]) (fun _ _=>[]):=by
 by_cases Bw:s.fault=0
 ·
  have h:=Akh p f bv nd s D0 q EJ n e CM Bw AH Ao (E5 Bw);simpa only[Bw,true_and]using h
 have h:=Akg p f bv nd s D0 q n e Bw;have hs:s.step n e=s:=by unfold Bb.step;rw[if_pos Bw]
 have Aq:=jf Bw;simp only[ACj,and_true]at Aq;rw[hs,ABM (fun hh=>Bw hh.1)];first|(obtain⟨B4,DC⟩:=Aq;rw[B4,DC];exact h)|(rw[Aq];exact h)
theorem Aki(p f:Nat)(bv:Value)(nd:List UInt8)(s:Bb)(D0:Array Value)(q1 q2:C4)(_ _:Nat)(Bw:s.fault≠0):
  Aw AG 213 [ALM p 0,.func (.func f) #[] D0] [q1,q2,CG p bv s] [⟨bv,nd⟩] (fun(_:Unit) v=>v=.bool false) (fun _ _=>[q1,q2,CG p bv s]) (fun _ _=>[]):=by
 refine Aw.proof AR8 G 54 G G fun X w=>AF 1 G<|Am<|Ae<|An G G<|M3 ARM G G G<|U 2 G<|AX 5 [2] G G<|Ac<|Fa G (fun Ft=>?_) (fun Ft=>?_)
 · exact AF 1 G<|BA<|Bq () G G G G Aa
 exact absurd AMT Bw --#done
theorem tV(p f:Nat)(bv:Value)(nd:List UInt8)(s:Bb)(D0:Array Value)(q1 q2 TM TN:C4)(n e:Nat)(CM:GU AG f)(AH:s.pos<=nd.length)(Ao:n<=(nd.drop s.pos).length)
  (E5:s.fault=0->∀Bk,Aw AG f (Bk::D0.toList) [q1,q2] [⟨Bk,nd.drop s.pos⟩] (fun(_:Unit) v=>v=Pb n e) (fun _ _=>[TM,TN]) (fun _ _=>[]))
  (jf:s.fault≠0->[TM,TN]=[q1,q2]):
  Aw AG 213 [ALM p 0,.func (.func f) #[] D0] [q1,q2,CG p bv s] [⟨bv,nd⟩] (fun(_:Unit) v=>v=.bool (decide (s.fault=0/\e=0))) (fun _ _=>[TM,TN,CG p bv (s.step n e)]) (fun _ _=>[]):=by
 by_cases Bw:s.fault=0
 ·
  have h:=Akj p f bv nd s D0 q1 q2 TM TN n e CM Bw AH Ao (E5 Bw);simpa only[Bw,true_and]using h
 have h:=Aki p f bv nd s D0 q1 q2 n e Bw;have hs:s.step n e=s:=by unfold Bb.step;rw[if_pos Bw]
 have Aq:=jf Bw;simp only[ACj,and_true]at Aq;rw[hs,ABM (fun hh=>Bw hh.1)];first|(obtain⟨B4,DC⟩:=Aq;rw[B4,DC];exact h)|(rw[Aq];exact h)
theorem AeD(p:Nat)(bv:Value)(nd:List UInt8)(s:Bb)(AH:s.pos<=nd.length):Aw AG 212 [ALM p 0] [CG p bv s] [⟨bv,nd⟩] (fun(_:Unit) v=>v=.int .u64 ((rdNum nd s).1:Int)) (fun _ _=>[CG p bv (rdNum nd s).2]) (fun _ _=>[]):=by
 refine Aw.proof Tryz.func212 G 9 G G fun X w=>?_;have LB:=fun b Bk=>AeC b Bk (nd.drop s.pos);have Aq:=YV (nd.drop s.pos) 0 0 ARp ARp;rcases Fx:HH 0 0 (nd.drop s.pos)with⟨x,n,e⟩;rw[Fx]at Aq;simp only[Fx]at LB;simp only at Aq;have Bh:rdNum nd s=(s.val 0 x e,s.step n e):=by simp only[rdNum,Lj,Fx]
 rw[Bh];refine AF 1 G<|Ae<|CT AlW G fun DQ=>Fi 0 G G G (A2 G) G (Da G)<|Ac<|Am<|Ae<|An G G<|Nd (xs:=[.tmp 3]) G G<|XY (L0:=[AO DQ 28 [.int .u64 0],CG p bv s]) (Lr:=[CL X w]) (tU p 227 bv nd s #[ALM DQ 0] _ (AO DQ 28 [.int .u64 ((s.val 0 x e:Nat):Int)]) n e (Ar G) AH AMT (fun h Bk=>?_) (fun h=>?_)) (Ar G) G ARz (Ad 0 G Aa) ARz fun y v h=>?_
 ·
  have q:=LB DQ Bk;have B4:s.val 0 x e=x:=(by unfold Bb.val;rw[if_neg AMT];split<;>omega);rw[B4];exact q
 ·
  have B4:s.val 0 x e=0:=(by unfold Bb.val;rw[if_pos h]);rw[B4];rfl
 obtain rfl:v=.bool (decide (s.fault=0/\e=0)):=h;refine IH G G<|Ac<|Fa G (fun GY=>?_) (fun GY=>?_)
 ·
  refine AF 1 G<|BA ?_;have B4:s.val 0 x e=0:=(by unfold Bb.val;split;rfl;split;rfl;omega);exact AQ<|Bq () G G (by rw[B4];rfl) G Aa
 exact AZ<|I5 2 [0] G G<|rt<|AQ<|Bq () G G G G Aa
theorem X0(p:Nat)(bv:Value)(nd:List UInt8)(s:Bb)(most:Int)(hm:A' most)(AH:s.pos<=nd.length):Aw AG 175 [ALM p 0,.int .i64 most] [CG p bv s] [⟨bv,nd⟩] (fun(_:Unit) v=>v=.int .i64 ((DT nd most s).1:Int)) (fun _ _=>[CG p bv (DT nd most s).2]) (fun _ _=>[]):=by
 refine Aw.proof Tryz.func175 G 11 G G fun X w=>?_;have LB:=fun a b Bk=>ym a b Bk (nd.drop s.pos) most hm;have Aq:=aa (nd.drop s.pos) most;rcases Fx:L9 (nd.drop s.pos) most with⟨x,n,e⟩;rw[Fx]at Aq;simp only[Fx]at LB;simp only at Aq;have Bh:DT nd most s=(s.val 0 x e,s.step n e):=by simp only[DT,Lj,Fx]
 rw[Bh];refine Ae<|CV G G G fun DQ=>U 1 G<|Ac<|Ae<|CT df G fun E'=>Fi 0 G G G (A2 G) G (Da G)<|Ac<|Am<|Ae<|An G G<|Nd (xs:=[.tmp 3,.tmp 5]) G G<|XY (L0:=[AO E' 3 [ALu],AO DQ 3 [.int .i64 most],CG p bv s]) (Lr:=[CL X w]) (tV p 215 bv nd s #[ALM DQ 0,ALM E' 0] _ _ (AO E' 3 [.int .i64 ((s.val 0 x e:Nat):Int)]) (AO DQ 3 [.int .i64 most]) n e (Ar G) AH AMT (fun h Bk=>?_) (fun h=>?_)) (Ar G) G ARz (Ad 0 G Aa) ARz fun y v h=>?_
 ·
  have q:=LB DQ E' Bk;have B4:s.val 0 x e=x:=(by unfold Bb.val;rw[if_neg AMT];split;exact(by simp[Aq.2.2, *]);rfl);rw[B4];exact q
 ·
  have B4:s.val 0 x e=0:=(by unfold Bb.val;rw[if_pos h]);rw[B4];try rfl
 obtain rfl:v=.bool (decide (s.fault=0/\e=0)):=h;refine IH G G<|Ac<|Fa G (fun EO=>?_) (fun EO=>?_)
 ·
  refine AF 1 G<|BA ?_;have B4:s.val 0 x e=0:=(by unfold Bb.val;split;rfl;split;rfl;omega);refine AQ (AQ ?_);exact Bq () G G (by rw[B4];rfl) G Aa
 refine AZ<|I5 2 [0] G G<|rt<|AQ (AQ ?_);exact Bq () G G G G Aa
theorem Ake(p:Nat)(bv:Value)(nd:List UInt8)(s:Bb)(most:Int)(hm:A' most)(pS:most<=1000000)(AH:s.pos<=nd.length):Aw AG 180 [ALM p 0,.int .i64 most] [CG p bv s] [⟨bv,nd⟩] (fun(_:Unit) _=>True) (fun _ _=>[CG p bv (Gm nd most s).2]) (fun _ v=>[⟨v,(Gm nd most s).1⟩]):=by
 refine Aw.proof Tryz.func180 G 10 G G fun X w=>?_;have LB:=fun a b Bk=>Akb a b Bk (nd.drop s.pos) most hm pS;have Aq:=l6 (nd.drop s.pos) most;rcases Fx:N3 (nd.drop s.pos) most with⟨x,n,e⟩;rw[Fx]at Aq;simp only[Fx]at LB;simp only at Aq;have Bh:Gm nd most s=(s.val [] x e,s.step n e):=by simp only[Gm,Lj,Fx]
 rw[Bh];have Aq:True/\n<=(nd.drop s.pos).length/\(e≠0->x=[]/\n=0):=⟨trivial,Aq.1,Aq.2.1⟩;refine Ae<|CV G G G fun DQ=>U 1 G<|Ac<|Ae<|CT dg G fun E'=>Ac<|Ae<|An G G<|oA (α:=UInt8)<|x2 (α:=List UInt8) 0 0 G G<|Nd (xs:=[.tmp 3,.tmp 5]) G G<|XY (L0:=[Pk E' 43 ([]:List UInt8),AO DQ 3 [.int .i64 most],CG p bv s]) (Lr:=[CL X w]) (tV p 217 bv nd s #[ALM DQ 0,ALM E' 0] _ _ (Pk E' 43 (s.val [] x e:List UInt8)) (AO DQ 3 [.int .i64 most]) n e (Ar G) AH AMT (fun h Bk=>?_) (fun h=>?_)) (Ar G) G ARz (Ad 1 G Aa) ARz fun y v h=>?_
 ·
  have q:=LB DQ E' Bk;have B4:s.val [] x e=x:=(by unfold Bb.val;rw[if_neg AMT];split;exact(by simp[Aq.2.2, *]);rfl);rw[B4];exact q
 ·
  have B4:s.val [] x e=[]:=(by unfold Bb.val;rw[if_pos h]);rw[B4];try rfl
 obtain rfl:v=.bool (decide (s.fault=0/\e=0)):=h;refine Ac<|Ae<|rS 0 G fun uc=>AX 2 [0] G G<|Ac<|rt<|AQ (AQ ?_);exact Bq () G G trivial G (Ad 0 G Aa)
theorem AcM(p:Nat)(bv:Value)(nd:List UInt8)(s DR:Bb)(x:Int)(AH:s.pos<=nd.length)(Ab:D6 nd s=(x,DR)):Aw AG 172 [ALM p 0] [CG p bv s] [⟨bv,nd⟩] (fun(_:Unit) v=>v=.int .i64 x) (fun _ _=>[CG p bv DR]) (fun _ _=>[]):=by
 refine Aw.proof Tryz.func172 G 16 G G fun X w=>?_;obtain⟨rfl,rfl⟩:x=Ul (rdNum nd s).1/\DR=(rdNum nd s).2:=by simp only[D6,Prod.mk.injEq]at Ab;exact⟨Ab.1.symm,Ab.2.symm⟩
 have AN:=sM nd s;refine AF 1 G<|Ae<|An G G<|Ch 0 (AeD _ _ _ _ AH) (Ar G) G G (Ad 0 G Aa) G fun Ls Mp C'=>?_;have C':Mp=.int .u64 ((rdNum nd s).1:Int):=C';subst C';refine U 1 G<|Ac<|Am<|Ae<|An G G<|hA G G (and_1 AN) G<|U 1 G<|Ac<|B9 G (fun D2=>?_) (fun D2=>?_)
 · exact Ae<|An G G<|Vl G G AMT (th _) G<|F0 AC4 ABc G (bq AMT) G<|n_ G (n' BV) G<|U 1 G<|Ac<|BA<|Bq () G G (by unfold Ul;rw[if_pos AMT]) G Aa
 exact AZ<|Ae<|An G G<|Vl G G AMT (th _) G<|F0 AC4 ABc G (bq AMT) G<|U 1 G<|Ac<|rt<|Bq () G G (by unfold Ul;rw[if_neg AMT]) G Aa
theorem zE(p:Nat)(bv:Value)(_:List UInt8)(s:Bb):Aw AG 211 [ALM p 0] [CG p bv s] [] (fun(_:Unit) v=>v=.tuple #[.int .i64 (s.fault:Int),.int .i64 ((if s.fault=0 then 0 else s.pos:Nat):Int)]) (fun _ _=>[CG p bv s]) (fun _ _=>[]):=by
 refine Aw.proof Tryz.func211 G 19 G G fun X w=>AF 2 G<|Am<|Ae<|An G G<|M3 ARM G G G<|Ac<|LW G<|AZ<|Am<|I5 5 [0] G G<|B9 G (fun Dq=>?_) (fun Dq=>?_)
 ·
  refine AF 2 G<|BA ?_;have e:s.fault=0:=AMT;rw[AA_ e];exact Fl () G G G (by rw[e];rfl) G Aa
 refine AZ<|Am<|Gx mixed ARs<|AX 10 [0,0] G G<|Gj<|A5<|rt ?_;rw[AA9 AMT];exact Fl () G G G G G Aa
theorem Aes(Bk:Value)(nd:List UInt8)(hlen:nd.length<=140737488355328):Aw AG 94 [Bk] [] [⟨Bk,nd⟩] (fun(y:Nat×Value) v=>v=ALM y.1 0) (fun y _=>[CG y.1 y.2 ⟨0,0⟩]) (fun y _=>[⟨y.2,nd⟩]):=by
 refine Aw.proof Tryz.func94 G 7 G G fun X w=>AF 1 G<|Ae<|An G G<|Dm (dN _ _ (by first|assumption|(simp only[ACt,ABz];omega))) (Ar G) G (Ad 0 G Aa) G fun IN v4 BB=>w9 0 G ?_
 rintro⟨A,Dc,rfl⟩;exact Db (ps:=[(0,.tmp 4)]) (cs:=[.slice A nd.length Dc,ALu,ALu]) ARz ARs G<|CV G G G fun Hg=>U 1 G<|Ac<|rt<|Bq (Hg,.slice A nd.length Dc) G G G G (Ad 0 G Aa)
theorem zQ(b:Nat)(Bk:Value)(nd:List UInt8):Aw AG 214 [Bk,ALM b 0] [AO b 4 [.bool false]] [⟨Bk,nd⟩] (fun(_:Unit) v=>v=Pb (NG nd).2.1 (NG nd).2.2) (fun _ _=>[AO b 4 [.bool (NG nd).1]]) (fun _ _=>[]):=by
 refine Aw.proof Tryz.func214 G 16 G G fun X w=>AF 2 G<|Am<|Ae<|An G G<|C2 0 G G ARO G fun qY=>U 1 G<|Ac<|B9 G (fun GY=>?_) (fun GY=>?_)
 ·
  have Ab:nd=[]:=ADo AMT;subst Ab;exact AF 2 G<|BA<|Fl () G G G G G Aa
 obtain⟨c,r,rfl⟩:∃c r,nd=c::r:=by
  cases nd with
  |nil=>exact absurd rfl GY
  |cons c r=>exact⟨c,r,rfl⟩
 refine AZ<|Am<|Ae<|An G G<|Qh 0 G G G TZ AMT (show(c::r)[0]? =some c from G) G fun Nr=>CQ 0 G G (A2 G) G fun cW=>U 1 G<|Ac<|B9 G (fun Ct=>?_) (fun Ct=>?_)
 ·
  have JU:NG (c::r)=(false,0,21):=(by simp only[NG];rw[AA_ AMT]);rw[JU];exact AF 2 G<|BA<|Fl () G G G G G Aa
 have JU:NG (c::r)=(decide ((c.toNat:Int)=1),1,0):=by
  simp only[NG];rw[AA9 AMT];congr 1;rw[ACy];simp only[ABa];rw[<-UInt8.toNat_inj];show c.toNat=1↔_;omega
 rw[JU];exact AZ<|Ae<|An G G<|Qh 1 G G G TZ AMT (show(c::r)[0]? =some c from G) G fun RA=>CQ 0 G G (A2 G) G fun SE=>U 1 G<|Fi 0 G G G (A2 G) G (Da G)<|Ac<|AF 2 G<|rt<|Fl () G G G G G Aa
theorem zS(p:Nat)(bv:Value)(nd:List UInt8)(s:Bb)(AH:s.pos<=nd.length):Aw AG 173 [ALM p 0] [CG p bv s] [⟨bv,nd⟩] (fun(_:Unit) v=>v=.bool (Kw nd s).1) (fun _ _=>[CG p bv (Kw nd s).2]) (fun _ _=>[]):=by
 refine Aw.proof Tryz.func173 G 8 G G fun X w=>?_;have LB:=fun b Bk=>zQ b Bk (nd.drop s.pos);have Aq:=oY (nd.drop s.pos);rcases Fx:NG (nd.drop s.pos)with⟨x,n,e⟩;rw[Fx]at Aq;simp only[Fx]at LB;simp only at Aq;have Bh:Kw nd s=(s.val false x e,s.step n e):=by simp only[Kw,Lj,Fx]
 rw[Bh];have Aq:True/\n<=(nd.drop s.pos).length/\(e≠0->x=false/\n=0):=⟨trivial,Aq⟩;refine AF 1 G<|Ae<|CT AlX G fun DQ=>Fi 0 G G G (A2 G) G (Da G)<|Ac<|Ae<|An G G<|Nd (xs:=[.tmp 3]) G G<|XY (L0:=[AO DQ 4 [.bool false],CG p bv s]) (Lr:=[CL X w]) (tU p 214 bv nd s #[ALM DQ 0] _ (AO DQ 4 [.bool (s.val false x e:Bool)]) n e (Ar G) AH AMT (fun h Bk=>?_) (fun h=>?_)) (Ar G) G ARz (Ad 0 G Aa) ARz fun y v h=>?_
 ·
  have q:=LB DQ Bk;have B4:s.val false x e=x:=(by unfold Bb.val;rw[if_neg AMT];split;exact(by simp[Aq.2.2, *]);rfl);rw[B4];exact q
 ·
  have B4:s.val false x e=false:=(by unfold Bb.val;rw[if_pos h]);rw[B4];try rfl
 obtain rfl:v=.bool (decide (s.fault=0/\e=0)):=h;exact Ac<|I5 2 [0] G G<|rt<|AQ<|Bq () G G G G Aa
theorem y3(p:Nat)(bv:Value)(nd:List UInt8)(s:Bb):Aw AG 95 [ALM p 0] [CG p bv s] [⟨bv,nd⟩] (fun(_:Unit) v=>v=.int .i64 (Q0 nd s)) (fun _ _=>[CG p bv s]) (fun _ _=>[]):=by
 refine Aw.proof Tryz.func95 G 26 G G fun X w=>AF 1 G<|Am<|Ae<|An G G<|M3 ARM G G G<|Ac<|LW G<|AZ<|Am<|Am<|Gx mixed ARs<|AX 6 [0] G G<|cD (i:=10) G (fun Dq=>?_) (fun Dq=>?_)
 ·
  refine AX 7 [0] G G<|AX 1 [0] G G<|Bl G G G<|C2 0 G G ARO G fun U9=>U 2 G<|Gj<|A5<|B9 G (fun E1=>?_) (fun E1=>?_)
  · exact AF 1 G<|BA<|Bq () G G (by unfold Q0;first|rw[if_pos AMT]|rw[if_neg AMT]) G Aa
  exact AZ<|I5 5 [0] G G<|rt<|Bq () G G (by unfold Q0;first|rw[if_pos AMT]|rw[if_neg AMT]) G Aa
 exact G2 G G G G G<|G2 G G G G G<|G2 G G G G G<|G2 G G G G G<|G2 G G G G G<|G2 G G G G G<|G2 G G G G G<|G2 G G G G G<|G2 G G G G G<|G2 G G G G G<|U 1 G<|Gj<|A5<|LW G<|AZ<|I5 5 [0] G G<|rt<|Bq () G G (by unfold Q0;first|rw[if_pos AMT]|rw[if_neg AMT]) G Aa
end Go.Proofs.YtklmcfecakaanaaGreat.MW
namespace Go.Proofs.YtklmcfecakaanaaGreat.XM
section
variable(By bv Bk:Value) (p:Nat) (nd:List UInt8) (B3 s:Bb) (b T:Nat) (cells:List Value) (offs:List Nat) (o:Nat)
theorem Oz:Aw AG 169 [By] [CG p bv s] [⟨By,(⟨⟨p⟩⟩:Cq Gb)⟩] (fun(_:Unit) v=>v=.bool (Ml s)) (fun _ _=>[CG p bv s]) (fun _ _=>[]):=by
 refine Aw.proof Tryz.func169 G 31 G G fun X w=>AF 1 G<|Am<|Ae<|An G G<|Co 0 G G G<|CJ 0 Ku G G (BR G) G fun EZ=>CQ 0 G G (A2 G) G fun gE=>M3 ARM G G G<|Ac<|LW G<|AZ<|Ae<|An G G<|Co 1 G G G<|CJ 1 Ku G G (BR G) G fun T6=>CQ 0 G G (A2 G) G fun cX=>Ch 0 (MW.zE p bv [] s) (Ar G) G G Aa G fun _ KC Fe=>?_;subst Fe;refine U 5 G<|Ac<|Ae<|U 3 G ?_;refine DE 24 6 [] G G (fun F3 VE=>by
  have Af4:=F3;simp only[ABI,ABa]at Af4;exact U 1 G<|Bl G G G<|Co 2 G G G<|Bl G G G<|CJ 2 sn G G (BR G) G fun N4=>Bl G G G<|CQ 0 G G (A2 G) G fun Uc=>U 2 G<|VE G (Bg.tail Br)) ?_
 exact U 1 G<|Ac<|rt<|Bq () G G G G Aa
theorem qs(AH:B3.pos<=nd.length)(Cu:gQ cells offs)(Ao:offs.Nodup):Aw AG 96 [By,Bk] [AO b T cells,CG p bv B3] [⟨By,(⟨⟨p⟩⟩:Cq Gb)⟩,⟨bv,nd⟩,⟨Bk,NW b offs⟩] (fun(_:Unit) _=>True) (fun _ _=>[AO b T (CO nd offs (cells,B3)).1,CG p bv (CO nd offs (cells,B3)).2]) (fun _ _=>[]):=by
 refine Aw.proof Tryz.func96 G 35 G G fun X w=>Ae<|An G G<|C2 2 G G AR2 G fun MD=>An G G<|Ac<|B5<|Hx (σ:=Nat×List Value×Bb) [(0,_),(6,_),(7,_)] _ (fun i C=>(8,.int .i64 (i.1:Int))::C) (fun i=>[AO b T i.2.1,CG p bv i.2.2,CL X w]) (fun _ Dw=>Dw) (fun i=>i.1<=offs.length/\i.2.2.pos<=nd.length/\gQ i.2.1 (offs.drop i.1)/\(offs.drop i.1).Nodup/\CO nd (offs.drop i.1) i.2=CO nd offs (cells,B3)) (fun i=>offs.length-i.1) (0,cells,B3) (Bs G) (Ad 0 G (Ad 1 G (Ad 2 G Aa))) ⟨ABg _,AH,Cu,Ao,G⟩ (Bs G) G (Ad 0 G (Ad 1 G (Ad 2 G Aa))) ?_;rintro⟨i,c,s⟩ ⟨Ag,hs,Bm,AJ,he⟩;simp only at Ag hs Bm AJ he;refine AF 1 G<|Am<|B9 G (fun EO=>?_) (fun EO=>?_)
 ·
  have Jf:i<offs.length:=(by rw[Y4]at EO;omega);rw[drop_cons Jf]at Bm AJ he;have A7:=Rj (Bm _ (ABx ..));refine AZ<|Am<|B5<|Ae<|Qh 2 G G G lQ AMT (sr Jf) G fun v10=>CQ 0 G G (A2 G) G fun SD=>U 1 G<|Ac<|B5<|Ae<|An G G<|Ch 1 (Oz By bv p s) (Ar G) G G (Ad 1 G Aa) G fun _ SB E1=>?_;have E1:SB=.bool (Ml s):=E1;subst E1;refine U 1 G<|Ac<|BN G (fun Fe=>?_) (fun Fe=>?_)
  ·
   refine EG<|CU<|CU<|A5<|rg<|C5 G G BV G<|An G G<|nl ?_;exact Dy ((i+1,c,s):Nat×List Value×Bb) ⟨AMT,hs,fun x Ab=>Bm x (ABR _ Ab),(ADq.1 AJ).2,(AcN ((N2 s).1 Fe) (Bm _ (ABx ..))).symm.trans he⟩ (by show _-_<_-_;omega) (Bs G) G (BE [1,2,3] G)
  have BI:=(Xf s).1 (by simpa using Fe);refine Ae<|An G G<|Co 1 G G G<|CJ 1 Ku G G (BR G) G fun T7=>CQ 0 G G (A2 G) G fun mv=>M3 ARM G G G<|U 1 G<|Ac<|LW G<|rg<|U 2 G<|Co 2 G G G<|CJ 2 Ku G G (BR G) G fun Xk=>CQ 0 G G (A2 G) G fun PV=>Ch 1 (MW.AcM p bv nd s (D6 nd s).2 (D6 nd s).1 hs G) (Ar G) G G (Ad 4 G Aa) G fun _ T6 DA=>?_;have DA:T6=.int .i64 (D6 nd s).1:=DA;subst DA;refine Va G G<|Fi 0 G G G (A2 G) G A7<|nl<|CU<|CU<|A5<|rg<|C5 G G BV G<|An G G<|nl ?_;exact Dy ((i+1,c.set (offs.getD i 0) (.int .i64 (D6 nd s).1),(D6 nd s).2):Nat×List Value×Bb) ⟨AMT,Hb hs,vu (α:=Nat) AJ (fun x Ab=>Bm x (ABR _ Ab)),(ADq.1 AJ).2,he⟩ (by show _-_<_-_;omega) (Bs G) G (BE [3,4,5] G)
 have Jf:i=offs.length:=by rw[Y4]at EO;omega
 subst Jf;rw[List.drop_length]at he;have he:(c,s)=CO nd offs (cells,B3):=he;rw[<-he];exact ex<|Ck<|Ck<|D7<|Dz () G trivial G Aa
theorem zo(AH:s.pos<=nd.length)(Cu:cells[o]? =some (.int .i64 0)):Aw AG 178 [By,ALM b o] [AO b T cells,CG p bv s] [⟨By,(⟨⟨p⟩⟩:Cq Gb)⟩,⟨bv,nd⟩] (fun(_:Unit) _=>True) (fun _ _=>[AO b T (cells.set o (.int .i64 (D6 nd s).1)),CG p bv (D6 nd s).2]) (fun _ _=>[]):=by
 refine Aw.proof Tryz.func178 G 14 G G fun X w=>?_;have A7:=Rj Cu;exact Ae<|U 2 G<|ME 0 G G (A2 G) Cu G<|CT df G fun En=>Fi 0 G G G (A2 G) G ARp<|Ac<|Ae<|An G G<|BH (xs:=[.tmp 4]) (us:=[ALM En 0]) (E:=167) (bytes:=8) (n:=1) G (by exact HB) G G G G G G fun H7=>Q5 (NW En [0]) ([0].map fun o=>[ALM En o]) G (fun S w h=>Y5 S w _) (ABy G)<|D9 2 G<|D9 1 G<|Hs 2 (qs By bv _ p nd s En 3 [ALu] [0] AH (by intro o A7;simp only[ABf,ABh,ABi]at A7;subst A7;rfl) ARp) (Ar G) G G (BE [1,2,0] G) G fun _ v10 Dq=>Ac<|rg<|An G G<|ME 0 G G (A2 G) (show _=some (.int .i64 (D6 nd s).1)from G) G<|Va G G<|Fi 2 G G G (A2 G) G A7<|nl<|AQ<|Au 1 G<|Dz () G trivial G Aa
theorem zR(AH:s.pos<=nd.length)(Cu:cells[o]? =some (.bool false)):Aw AG 97 [By,ALM b o] [AO b T cells,CG p bv s] [⟨By,(⟨⟨p⟩⟩:Cq Gb)⟩,⟨bv,nd⟩] (fun(_:Unit) _=>True) (fun _ _=>[AO b T (cells.set o (.bool (Kw nd s).1)),CG p bv (Kw nd s).2]) (fun _ _=>[]):=by
 refine Aw.proof Tryz.func97 G 37 G G fun X w=>?_;have A7:=Rj Cu;refine B5<|Ae<|An G G<|Ch 1 (Oz By bv p s) (Ar G) G G (Ad 0 G Aa) G fun _ RA Dp=>?_;have Dp:RA=.bool (Ml s):=Dp;subst Dp;refine U 1 G<|Ac<|BN G (fun Ct=>?_) (fun Ct=>?_)
 ·
  have BI:=(N2 s).1 Ct;exact EG<|CU<|Dz () G trivial (by rw[Ah6 BI,Ah5 BI,TW Cu];rfl) Aa
 refine Ae<|An G G<|Co 0 G G G<|CJ 0 Ku G G (BR G) G fun T6=>CQ 0 G G (A2 G) G fun cX=>M3 ARM G G G<|An G G<|G2 G G G G G<|G2 G G G G G<|G2 G G G G G<|U 2 G<|Ac<|LW G<|Ae<|An G G<|Co 1 G G G<|CJ 1 Ku G G (BR G) G fun L5=>CQ 0 G G (A2 G) G fun AkS=>M3 ARM G G G<|U 1 G<|Ac<|LW G<|rg<|U 2 G<|Co 2 G G G<|CJ 2 Ku G G (BR G) G fun EZ=>CQ 0 G G (A2 G) G fun gE=>Ch 1 (MW.zS p bv nd s AH) (Ar G) G G (Ad 4 G Aa) G fun _ Nr EO=>?_;have EO:Nr=.bool (Kw nd s).1:=EO;subst EO;exact Va G G<|Fi 0 G G G (A2 G) G A7<|nl<|CU<|Dz () G trivial G Aa
theorem nM(u:Value)(AH:s.pos<=nd.length)(hu:cells[o]? =some u):Aw AG 110 [By,ALM b o] [AO b T cells,CG p bv s] [⟨By,(⟨⟨p⟩⟩:Cq Gb)⟩,⟨bv,nd⟩,⟨u,([]:List UInt8)⟩] (fun(_:Value) _=>True) (fun y _=>[AO b T (cells.set o y),CG p bv (Gm nd 65535 s).2]) (fun y _=>[⟨y,(Gm nd 65535 s).1⟩]):=by
 refine Aw.proof Tryz.func110 G 35 G G fun X w=>?_;have A7:=Rj hu;refine B5<|Ae<|An G G<|Ch 1 (Oz By bv p s) (Ar G) G G (Ad 0 G Aa) G fun _ gz EM=>?_;have EM:gz=.bool (Ml s):=EM;subst EM;refine U 1 G<|Ac<|BN G (fun Dq=>?_) (fun Dq=>?_)
 ·
  have BI:=(N2 s).1 Dq;exact EG<|CU<|Dz u G trivial (by rw[Aif BI,TW hu];rfl) (by rw[Aig BI];exact(Bg.cons 2 rfl Bg.nil))
 refine Ae<|An G G<|Co 0 G G G<|CJ 0 Ku G G (BR G) G fun Mn=>CQ 0 G G (A2 G) G fun mr=>rG ARM G G G<|U 1 G<|Ac<|Mv G<|rg<|U 2 G<|Co 1 G G G<|CJ 1 Ku G G (BR G) G fun RB=>CQ 0 G G (A2 G) G fun cY=>Ch 1 (MW.Ake p bv nd s 65535 BV AMT AH) (Ar G) G G (Ad 3 G Aa) G fun _ Xl _=>?_;exact Va G G<|J2 0 0 G G G G (A2 G) A7<|nl<|CU<|Dz Xl G trivial G (Ad 0 G Aa)
theorem Akd(AH:B3.pos<=nd.length)(Cu:gR cells offs)(Ao:offs.Nodup):Aw AG 98 [By,Bk] [AO b T cells,CG p bv B3] [⟨By,(⟨⟨p⟩⟩:Cq Gb)⟩,⟨bv,nd⟩,⟨Bk,NW b offs⟩] (fun(_:Unit) _=>True) (fun _ _=>[AO b T (Ea nd offs (cells,B3)).1,CG p bv (Ea nd offs (cells,B3)).2]) (fun _ _=>[]):=by
 refine Aw.proof Tryz.func98 G 44 G G fun X w=>Ae<|An G G<|C2 2 G G AR3 G fun Adl=>An G G<|Ac<|B5<|Hx (σ:=Nat×List Value×Bb) [(0,_),(7,_),(8,_)] _ (fun i C=>(9,.int .i64 (i.1:Int))::C) (fun i=>[AO b T i.2.1,CG p bv i.2.2,CL X w]) (fun _ Dw=>Dw) (fun i=>i.1<=offs.length/\i.2.2.pos<=nd.length/\gR i.2.1 (offs.drop i.1)/\(offs.drop i.1).Nodup/\Ea nd (offs.drop i.1) i.2=Ea nd offs (cells,B3)) (fun i=>offs.length-i.1) (0,cells,B3) (Bs G) (Ad 0 G (Ad 1 G (Ad 2 G Aa))) ⟨ABg _,AH,Cu,Ao,G⟩ (Bs G) G (Ad 0 G (Ad 1 G (Ad 2 G Aa))) ?_;rintro⟨i,c,s⟩ ⟨Ag,hs,Bm,AJ,he⟩;simp only at Ag hs Bm AJ he;refine AF 1 G<|Am<|B9 G (fun Dq=>?_) (fun Dq=>?_)
 ·
  have Jf:i<offs.length:=(by rw[Y4]at Dq;omega);rw[drop_cons Jf]at Bm AJ he;have A7:=Rj (Bm _ (ABx ..));refine AZ<|Am<|B5<|Ae<|Qh 2 G G G lR AMT (sr Jf) G fun v11=>CQ 0 G G (A2 G) G fun Xr=>U 1 G<|Ac<|Am<|Ae<|An G G<|Co 1 G G G<|CJ 1 Ku G G (BR G) G fun Xk=>CQ 0 G G (A2 G) G fun PV=>M3 ARM G G G<|An G G<|G2 G G G G G<|G2 G G G G G<|G2 G G G G G<|G2 G G G G G<|G2 G G G G G<|U 1 G<|Ac<|LW G<|AZ<|Ae<|U 2 G<|ME 0 G G (A2 G) (Bm _ (ABx ..)) G<|oa ABO ARO AC' G ARp G fun L5=>CT dg G fun Hg=>J2 0 0 G G G G (A2 G) (Da G)<|Ac<|Ae<|An G G<|D9 2 G<|D9 1 G<|Hs 2 (nM By bv p nd s Hg 43 [L5] 0 L5 hs G) (Ar G) G G (BE [3,4,0] G) G fun y ue ARB=>?_;refine Ac<|Ae<|An G G<|Co 4 G G G<|CJ 4 Ku G G (BR G) G fun SC=>CQ 0 G G (A2 G) G fun AkU=>rG ARM G G G<|Ac<|Mv G<|rg<|An G G<|ME 0 G G (A2 G) (show _=some y from G) G<|xU 1 ARO AC' ABO G G G<|Va G G<|Fi 2 G G G (A2 G) G A7<|nl<|CU<|A5<|rg<|C5 G G BV G<|An G G<|nl<|AQ<|Au 1 G ?_;exact Dy ((i+1,c.set (offs.getD i 0) (.string ⟨(Gm nd 65535 s).1.toArray⟩),(Gm nd 65535 s).2):Nat×List Value×Bb) ⟨AMT,Vf hs,vu (α:=Nat) AJ (fun x Ab=>Bm x (ABR _ Ab)),(ADq.1 AJ).2,he⟩ (by show _-_<_-_;omega) (Bs G) G (BE [5,6,7] G)
 have Jf:i=offs.length:=by rw[Y4]at Dq;omega
 subst Jf;rw[List.drop_length]at he;have he:(c,s)=Ea nd offs (cells,B3):=he;rw[<-he];exact ex<|Ck<|Ck<|D7<|Dz () G trivial G Aa
end
end Go.Proofs.YtklmcfecakaanaaGreat.XM
namespace Go.Apw
theorem z9(nd:List UInt8)(s:Bb):(CO nd [0,1,2,3] (([ALu,ALu,ALu,ALu]:List Value),s))=(JH (Iu nd s).1,(Iu nd s).2):=by
 simp only[CO,Iu,Di,ABt,ABu]
theorem z7(nd:List UInt8)(s:Bb):(CO nd [0,1] (([ALu,ALu]:List Value),s))=(QT (HF nd s).1,(HF nd s).2):=by
 simp only[CO,HF,Di,ABt,ABu]
theorem z5(nd:List UInt8)(s:Bb):(CO nd [4,5,6,7] (Ea nd [2,3] (CO nd [0,1] (([ALu,ALu,AL7,AL7,ALu,ALu,ALu,ALu]:List Value),s))))=(H8 (Hk nd s).1,(Hk nd s).2):=by
 simp only[CO,Ea,Hk,Di,ABt,ABu]
theorem Aab(nd:List UInt8)(s:Bb):(CO nd [4,5,6] (CO nd [3] (E9 nd 2 (CO nd [0,1] (([ALu,ALu,.bool false,ALu,ALu,ALu,ALu]:List Value),s)))))=(H9 (GG nd s).1,(GG nd s).2):=by
 simp only[CO,E9,GG,UL,Di,ABt,ABu]
theorem Aaq(nd:List UInt8)(s:Bb):(Hy nd 5 (CO nd [0,1,2,3,4] (([ALu,ALu,ALu,ALu,ALu,ALu,AL7,AL7,ALu,ALu,ALu]:List Value),s)))=(Hh (GX nd s).1,(GX nd s).2):=by
 simp only[CO,Ea,Hy,GX,Wc,Di,ABt,ABu,Nat.reduceAdd]
theorem z1(nd:List UInt8)(s:Bb)(XC:Value):(CO nd [6,7,8,9] (C7 5 XC (CS nd (Iu nd)) (CO nd [1,2,3,4] (Ea nd [0] (([AL7,ALu,ALu,ALu,ALu,AI,ALu,ALu,ALu,ALu]:List Value),s)))))=(A3 (F2 nd s).1 XC,(F2 nd s).2):=by
 simp only[CO,Ea,C7,F2,UO,UM,Di,ABt,ABu]
theorem z2(nd:List UInt8)(s:Bb)(_:Value):(CS nd (Iu nd) (CO nd [1,2,3,4] (Ea nd [0] (([AL7,ALu,ALu,ALu,ALu,AI,ALu,ALu,ALu,ALu]:List Value),s))).2).1=(F2 nd s).1.A0:=by
 simp only[CO,Ea,C7,F2,UO,UM,Di,ABt,ABu]
theorem Aai(nd:List UInt8)(s:Bb)(I' Ja Kf HS KF Ns:Value):(CO nd [26,27,28] (C7 25 Ns (Gm nd 65535) (Ga nd 18 (Ga nd 11 (C7 10 KF (CS nd (HF nd)) (C7 9 HS (CS nd (Hk nd)) (C7 8 Kf (CS nd (GX nd)) (C7 7 Ja (CS nd (GG nd)) (C7 6 I' (CS nd (F2 nd)) (CO nd [5] (Ea nd [3,4] (E9 nd 2 (CO nd [0,1] (([ALu,ALu,.bool false,AL7,AL7,ALu,AI,AI,AI,AI,AI,ALu,ALu,ALu,AL7,AL7,ALu,ALu,ALu,ALu,ALu,AL7,AL7,ALu,ALu,AI,ALu,ALu,ALu]:List Value),s))))))))))))))=(BY (FC nd s).1 I' Ja Kf HS KF Ns,(FC nd s).2):=by
 simp only[CO,Ea,E9,C7,Ga,FC,L_,L_,Di,ABt,ABu,Nat.reduceAdd]
theorem Aaj(nd:List UInt8)(s:Bb)(_ _ _ _ _ _:Value):(CS nd (F2 nd) (CO nd [5] (Ea nd [3,4] (E9 nd 2 (CO nd [0,1] (([ALu,ALu,.bool false,AL7,AL7,ALu,AI,AI,AI,AI,AI,ALu,ALu,ALu,AL7,AL7,ALu,ALu,ALu,ALu,ALu,AL7,AL7,ALu,ALu,AI,ALu,ALu,ALu]:List Value),s))))).2).1=(FC nd s).1.Aj:=by
 simp only[CO,Ea,E9,C7,Ga,FC,L_,L_,Di,ABt,ABu,Nat.reduceAdd]
theorem Aak(nd:List UInt8)(s:Bb)(I' _ _ _ _ _:Value):(CS nd (GG nd) (C7 6 I' (CS nd (F2 nd)) (CO nd [5] (Ea nd [3,4] (E9 nd 2 (CO nd [0,1] (([ALu,ALu,.bool false,AL7,AL7,ALu,AI,AI,AI,AI,AI,ALu,ALu,ALu,AL7,AL7,ALu,ALu,ALu,ALu,ALu,AL7,AL7,ALu,ALu,AI,ALu,ALu,ALu]:List Value),s)))))).2).1=(FC nd s).1.Bz:=by
 simp only[CO,Ea,E9,C7,Ga,FC,L_,L_,Di,ABt,ABu,Nat.reduceAdd]
theorem Aal(nd:List UInt8)(s:Bb)(I' Ja _ _ _ _:Value):(CS nd (GX nd) (C7 7 Ja (CS nd (GG nd)) (C7 6 I' (CS nd (F2 nd)) (CO nd [5] (Ea nd [3,4] (E9 nd 2 (CO nd [0,1] (([ALu,ALu,.bool false,AL7,AL7,ALu,AI,AI,AI,AI,AI,ALu,ALu,ALu,AL7,AL7,ALu,ALu,ALu,ALu,ALu,AL7,AL7,ALu,ALu,AI,ALu,ALu,ALu]:List Value),s))))))).2).1=(FC nd s).1.AA:=by
 simp only[CO,Ea,E9,C7,Ga,FC,L_,L_,Di,ABt,ABu,Nat.reduceAdd]
theorem Aam(nd:List UInt8)(s:Bb)(I' Ja Kf _ _ _:Value):(CS nd (Hk nd) (C7 8 Kf (CS nd (GX nd)) (C7 7 Ja (CS nd (GG nd)) (C7 6 I' (CS nd (F2 nd)) (CO nd [5] (Ea nd [3,4] (E9 nd 2 (CO nd [0,1] (([ALu,ALu,.bool false,AL7,AL7,ALu,AI,AI,AI,AI,AI,ALu,ALu,ALu,AL7,AL7,ALu,ALu,ALu,ALu,ALu,AL7,AL7,ALu,ALu,AI,ALu,ALu,ALu]:List Value),s)))))))).2).1=(FC nd s).1.Bj:=by
 simp only[CO,Ea,E9,C7,Ga,FC,L_,L_,Di,ABt,ABu,Nat.reduceAdd]
theorem Aan(nd:List UInt8)(s:Bb)(I' Ja Kf HS _ _:Value):(CS nd (HF nd) (C7 9 HS (CS nd (Hk nd)) (C7 8 Kf (CS nd (GX nd)) (C7 7 Ja (CS nd (GG nd)) (C7 6 I' (CS nd (F2 nd)) (CO nd [5] (Ea nd [3,4] (E9 nd 2 (CO nd [0,1] (([ALu,ALu,.bool false,AL7,AL7,ALu,AI,AI,AI,AI,AI,ALu,ALu,ALu,AL7,AL7,ALu,ALu,ALu,ALu,ALu,AL7,AL7,ALu,ALu,AI,ALu,ALu,ALu]:List Value),s))))))))).2).1=(FC nd s).1.CX:=by
 simp only[CO,Ea,E9,C7,Ga,FC,L_,L_,Di,ABt,ABu,Nat.reduceAdd]
theorem Aao(nd:List UInt8)(s:Bb)(I' Ja Kf HS KF _:Value):(Gm nd 65535 (Ga nd 18 (Ga nd 11 (C7 10 KF (CS nd (HF nd)) (C7 9 HS (CS nd (Hk nd)) (C7 8 Kf (CS nd (GX nd)) (C7 7 Ja (CS nd (GG nd)) (C7 6 I' (CS nd (F2 nd)) (CO nd [5] (Ea nd [3,4] (E9 nd 2 (CO nd [0,1] (([ALu,ALu,.bool false,AL7,AL7,ALu,AI,AI,AI,AI,AI,ALu,ALu,ALu,AL7,AL7,ALu,ALu,ALu,ALu,ALu,AL7,AL7,ALu,ALu,AI,ALu,ALu,ALu]:List Value),s)))))))))))).2).1=(FC nd s).1.Cf:=by
 simp only[CO,Ea,E9,C7,Ga,FC,L_,L_,Di,ABt,ABu,Nat.reduceAdd]
end Go.Apw
