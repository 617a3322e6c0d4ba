/- Part 9 of shardGiven_holds. -/
import Derived.Test.YtalfaopffbkdnabGreatStm8

set_option maxRecDepth 20000
set_option maxHeartbeats 1000000
namespace Go
theorem ABp:∀(b:Bool),(b&&true)=b:=@Bool.and_true
theorem ABr:∀{α:Type _} {f:α→Bool},List.all [] f=true:=@List.all_nil
end Go
open Go.Proofs.Tryz renaming func206→AJP,underlying171→AJz,underlying185→AJA,underlying250→AJJ,underlying253→AJK,underlying27→AJC,underlying31→ACb,underlying33→ACR,underlying39→AJB,underlying4→ADM,underlying43→AJF,underlying5→AC',underlying9→ABO
open List renaming length_drop→ACt,nodup_cons→ADq,set_cons_succ→ABu,set_cons_zero→ABt
open List.cons renaming injEq→ACj
open Go.A_ Go.Proofs Go.Proofs.YtalfaopffbkdnabGreat Go.Apw
namespace Go.Apw
theorem wR(x:Int)(y:Int)(GP:A' x)(Ym:A' y):Cv AG 199 [.int .i64 x,.int .i64 y] [] (SA (x+y)):=by
 refine Aw.proof Tryz.func199 G 33 G G fun X w=>?_;obtain⟨Ane,Anf⟩:=id GP;obtain⟨Ang,Anh⟩:=id Ym;refine AF 2 G<|Ae<|U 2 G<|Jm G G G<|U 1 G<|Ac<|Am<|Ae<|U 3 G<|Fu 12 3 [] [0,1,6] G G G<|An G G<|Fu 16 3 [] [0,1,6] G G G<|An G G ?_;refine DE 20 11 [6] G G (fun HQ VF=>by
  exact U 3 G<|Fu 23 3 [] [6,20] G G G<|U 1 G<|Fu 27 3 [] [6,20] G G G<|U 1 G<|VF G Br) ?_
 refine Ac<|BN G (fun ES=>?_) (fun ES=>?_)
 · exact AF 2 G<|BA<|Fl () G G G (by show _=SA (x+y);have e:=(hg GP Ym).1.symm.trans ES;rw[ABe]at e;rw[SA,Lo,No,AA9 (by rw[e];decide),AA9 (by rw[e];decide)]) G Aa
 · exact AZ<|AF 3 G<|rt<|Fl () G G G (by show _=SA (x+y);have e:=(hg GP Ym).1.symm.trans ES;rw[ABI]at e;rw[SA,Lo,No,AA_ e,AA_ e,(hg GP Ym).2 e]) G Aa
theorem oX(a:AD)(Cw:Value)(k:F_)(C6:a.wf)(R8:k.wf):Cv AG 168 [.agg (A3 a Cw).toArray,.agg (Lx k).toArray] [⟨Cw,a.A0⟩] (.bool (UJ a k)):=by
 refine Aw.proof Tryz.func168 G 23 G G fun X w=>Ae<|CV G G G fun Dh=>CV G G G fun DQ=>U 1 G<|Ac<|Ae<|AX 4 [1,0] G G<|B0 (wR _ _ C6.2.2.1 R8.2.2.2) (Ar G) G Aa G<|U 5 G<|Ac<|Ae<|U 3 G ?_;refine D4 17 5 [] G G (fun DA VD=>by
  have r2:=ABA DA;exact U 1 G<|Bl G G G<|BJ 1 (Od a.Cs) G G (At G) G G<|U 1 G<|Bl G G G<|B0 (jd _ _ C6.2.1 (AjW (a.BT+k.B2))) (Ar G) G Aa G<|U 1 G<|VD G Br) ?_
 exact U 1 G<|Ac<|rt<|AQ<|AQ<|Bq () G G AJy G Aa
theorem Ps(a:AD)(Cw:Value)(C6:a.wf):Cv AG 115 [.agg (A3 a Cw).toArray] [⟨Cw,a.A0⟩] (.bool (E4 a)):=by
 refine Aw.proof Tryz.func115 G 80 G G fun X w=>Ae<|CV G G G fun CY=>U 1 G<|Ac<|Am<|Ae<|AX 2 [0] G G<|PI G ABO G<|U 1 G<|An G G ?_;refine DE 10 5 [1] G G (fun Dq ZF=>by
  have AfX:=ACe Dq;exact AX 2 [0] G G<|Bl G G G<|PI G ABO G<|U 2 G<|ZF G Br) ?_
 refine An G G<|DE 16 7 [1] G G (fun CR SU=>U 1 G<|Bl G G G<|BJ 0 (Od a.Cs) G G (At G) G G<|AX 2 [0] G G<|Bl G G G<|B0 (jd _ _ C6.2.1 C6.2.2.1) (Ar G) G Aa G<|U 2 G<|SU G Br)<|An G G<|ET 24 4 [0] [1] G G G<|An G G<|DE 29 5 [1] G G (fun G5 ZJ=>AX 2 [0] G G<|Bl G G G<|B0 (Ab6 _ _) (Ar G) G (Ad 0 G Aa) G<|U 2 G<|ZJ G Br)<|Ac<|BN G (fun FN=>?_) (fun FN=>?_)
 ·
  have an:(VO a)=true:=FN;exact AF 1 G<|BA<|AQ<|Bq () G G (by rw[E4,an];try rfl) G Aa
 ·
  have hh:LI a.A0=true:=(by have q:=FN;simp only[ABD,ABI]at q;exact q.2);have an:(VO a)=false:=FN;refine AZ<|Ae<|BJ 0 (A3 a Cw) G G (At G) G G<|B0 (q6 _ _ C6 (by assumption)) (Ar G) G (Ad 0 G Aa) G<|U 7 G<|Ac<|Am<|Ae<|U 3 G<|ET 43 6 [0] [1,4] G G G<|An G G<|ET 50 6 [0] [1] G G G<|Ac<|BN G (fun eu=>?_) (fun eu=>?_)
  ·
   have ea:(XQ a)=true:=eu;exact AF 1 G<|BA<|AQ<|Bq () G G (by rw[E4,an,ea];try rfl) G Aa
  ·
   have ea:(XQ a)=false:=eu;refine AZ<|Am<|I5 4 [0] G G<|B9 G (fun Tg=>?_) (fun Tg=>?_)
   ·
    have hW:(decide (a.BG.Ap=0))=true:=(ABG Tg);exact Ae<|U 1 G<|BJ 0 (Lx a.BG) G G (At G) G G<|Db (ps:=[]) (cs:=(Lx PF)) AJy AJw G<|RU oK (a.BG) PF G G G<|U 1 G<|Ac<|BA<|AQ<|Bq () G G (by rw[E4,an,ea,hW];try rfl) G Aa
   ·
    have hW:(decide (a.BG.Ap=0))=false:=(ABM Tg);exact AZ<|Ae<|U 1 G<|BJ 0 (Lx a.BG) G G (At G) G G<|B0 (qO _ C6.2.2.2.2.2) (Ar G) G Aa G<|An G G<|D4 68 5 [1] G G (fun R5 v9=>AX 2 [0] G G<|Bl G G G<|C2 0 G G AJB G fun AnY=>U 2 G<|v9 G Br)<|An G G<|D4 74 5 [] G G (fun ew ZP=>Bl G G G<|BJ 0 (A3 a Cw) G G (At G) G G<|U 1 G<|Bl G G G<|BJ 0 (Lx a.BG) G G (At G) G G<|Bl G G G<|B0 (oX _ _ _ C6 C6.2.2.2.2.2) (Ar G) G (Ad 0 G Aa) G<|U 1 G<|ZP G Br)<|U 1 G<|Ac<|rt<|AQ<|Bq () G G (by rw[E4,an,ea,hW];try rfl) G Aa
theorem m8(a:AD)(Cw:Value)(C6:a.wf):Cv AG 63 [.agg (A3 a Cw).toArray] [⟨Cw,a.A0⟩] (.int .i64 (IA (E4 a))):=by
 refine Aw.proof Tryz.func63 G 6 G G fun X w=>Ae<|CV G G G fun CY=>U 1 G<|Ac<|Am<|Ae<|BJ 0 (A3 a Cw) G G (At G) G G<|B0 (Ps _ _ C6) (Ar G) G (Ad 0 G Aa) G<|IH G G<|Ac<|BN G (fun C'=>?_) (fun C'=>?_)
 · exact AF 1 G<|BA<|AQ<|Bq () G G (by rw[IA,AA9 (by have q:=C';rw[ABe]at q;rw[q];decide)]) G Aa
 · exact AZ<|AF 1 G<|rt<|AQ<|Bq () G G (by rw[IA,AA_ (by have q:=C';rw[ABI]at q;exact q)]) G Aa
theorem dz(a:AD)(Cw:Value)(C6:a.wf):Cv AG 61 [.agg (A3 a Cw).toArray] [⟨Cw,a.A0⟩] (.bool (FT a)):=by
 exact Aw.proof Tryz.func61 G 32 G G fun X w=>Ae<|CV G G G fun CY=>U 1 G<|Ac<|Ae<|BJ 0 (A3 a Cw) G G (At G) G G<|B0 (Ps _ _ C6) (Ar G) G (Ad 0 G Aa) G<|An G G<|D4 5 5 [1] G G (fun C' ZC=>U 1 G<|Bl G G G<|BJ 0 (Od a.Cs) G G (At G) G G<|Bl G G G<|Db (ps:=[]) (cs:=(Od cz)) AJy AJw G<|Bl G G G<|RU oL (a.Cs) cz G G G<|U 1 G<|ZC G Br)<|An G G<|Fu 11 4 [0] [1] G G G<|An G G<|D4 16 5 [1] G G (fun CR SS=>AX 2 [0] G G<|Bl G G G<|C2 0 G G AJB G fun U9=>U 2 G<|SS G Br)<|An G G<|Fu 22 4 [0] [1] G G G<|An G G<|D4 27 4 [] G G (fun G4 VF=>Bl G G G<|BJ 0 (A3 a Cw) G G (At G) G G<|Bl G G G<|B0 (YP _ _ C6) (Ar G) G (Ad 0 G Aa) G<|U 2 G<|VF G Br)<|U 1 G<|Ac<|rt<|AQ<|Bq () G G AJy G Aa
theorem yd(x:ByteArray)(y:ByteArray):Cv AG 202 [.string x,.string y] [] (.int .i64 (RO x y)):=by
 exact Aw.proof Tryz.func202 G 8 G G fun X w=>AF 1 G<|Ae<|U 2 G<|hL zy (fun w=>yc (P:=Tryz.prog) x y w) G G<|U 1 G<|Ac<|rt<|Bq () G G AJy G Aa
theorem yf(x:ByteArray)(y:ByteArray):Cv AG 177 [.string x,.string y] [] (.int .i64 (RO x y)):=by
 exact Aw.proof Tryz.func177 G 8 G G fun X w=>AF 1 G<|Ae<|U 2 G<|B0 (yd _ _) (Ar G) G Aa G<|U 1 G<|Ac<|rt<|Bq () G G AJy G Aa
theorem Ai6(s:Bv)(El EV D_ EA Em Eh:Value)(J8:s.wf):Cv AG 23 [.agg (BY s El EV D_ EA Em Eh).toArray] [⟨El,s.Aj⟩,⟨EV,s.Bz⟩,⟨D_,s.AA⟩,⟨EA,s.Bj⟩,⟨Em,s.CX⟩,⟨Eh,s.Cf⟩] (.bool (VP s)):=by
 refine Aw.proof Tryz.func23 G 48 G G fun X w=>Ae<|CV G G G fun CY=>U 1 G<|Ac<|Am<|Ae<|AX 2 [0] G G<|C2 0 G G AB4 G fun MD=>U 1 G<|Ac<|B9 G (fun D2=>?_) (fun D2=>?_)
 ·
  have X8:(decide ((s.Aj.length:Int)>12))=true:=(ABG D2);exact AF 1 G<|BA<|AQ<|Bq () G G (by rw[VP,AA_ X8]) G Aa
 ·
  have X8:(decide ((s.Aj.length:Int)>12))=false:=(ABM D2);refine AZ<|Am<|Ae<|AX 2 [0] G G<|C2 0 G G AB4 G fun e'=>An G G<|Ac<|B5<|Ji (σ:=Nat) [(1,_),(10,_),(11,_)] _ (fun i C=>(12,.int .i64 (i:Int))::C) (fun i=>i<=s.Aj.length/\(∀j,j<i->(!dv s j)=true)) (fun i=>s.Aj.length-i) 0 (Bs G) (Ad 0 G (Ad 1 G (Ad 2 G (Ad 3 G (Ad 4 G (Ad 5 G Aa)))))) ⟨ABg _,fun j Ay=>absurd Ay (AB2 j)⟩ (Bs G) ?_;rintro i ⟨Ag,C0⟩;refine AF 1 G<|Am<|B9 G (fun Dp=>?_) (fun Dp=>?_)
  ·
   refine AZ<|Am<|B5<|Ae<|An G G<|Fo 0 G G G Gt G fun Xk=>Gi 0 G G (At G) G fun Ii PV=>?_;refine CT Hd G fun En=>U 1 G<|Cp 1 G fun WU=>?_;refine BZ 0 (us:=(A3 ((s.Aj.getD i default)) Ii)) G G G (At G) (by simp only[ABn,ABr,ABp,WU];rfl) G<|Ac<|Am<|Gx mixed AJw<|BJ 0 (A3 ((s.Aj.getD i default)) Ii) G G (At G) G G<|HD (m8 _ _ PV) (Ar G) G (Ad 1 G Aa) G<|U 2 G ?_;refine DE 20 3 [1,3,4,10,11,12] G G (fun HQ SU=>by
    have Af3:=HQ;simp only[ABI,ABa]at Af3;exact Bl G G G<|BJ 0 (A3 ((s.Aj.getD i default)) Ii) G G (At G) G G<|Bl G G G<|HD (dz _ _ PV) (Ar G) G (Ad 1 G Aa) G<|U 1 G<|SU G Br) ?_
   refine An G G<|DE 24 6 [1,3,4,10,11,12] G G (fun F3 VE=>Bl G G G<|BJ 1 (BY s El EV D_ EA Em Eh) G G (At G) G G<|AX 2 [0] G G<|Bl G G G<|HD (kJ _ _ _ _ _ _ _ _ J8) (Ar G) G (BE [3,4,5,6,7,8] G) G<|U 2 G<|VE G Br)<|An G G ?_;refine DE 31 15 [1,10,11,12] G G (fun ES vV=>by
    have Af5:=ES;try simp only[ABD,ABa,ABI]at Af5
    refine U 3 G ?_;refine D4 34 11 [1,10,11,12,31] G G (fun FN ZN=>by
     have Aob:=ABA FN;exact AX 5 [0,1] G G<|Bl G G G<|TU G G BV G<|Bl G G G<|Fo 3 G G G Gt G fun AkF=>Bl G G G<|CJ 0 kM G G (BR G) G fun ml=>Bl G G G<|CQ 0 G G (A2 G) G fun gD=>Bl G G G<|j2 G G G<|U 1 G<|ZN G (Bg.tail (Bg.tail Br))) ?_
    exact U 1 G<|vV G Br) ?_
   refine Gj<|A5<|BN G (fun US=>?_) (fun US=>?_)
   · exact AF 1 G<|rt<|C9<|Cd<|Cd<|C9<|Cd<|AQ<|AQ<|Bq () G G (by rw[VP,AA9 (by rw[X8];decide),Ur i AJv (YU US)]) G Aa
   ·
    refine EG<|CU<|A5<|rg<|C5 G G BV G<|An G G<|nl<|AQ ?_;exact Dy (i+1) ⟨AJv,(Ki C0 (YT US))⟩ AJv (Bs G) G (BE [3,4,5,6,7,8] G)
  · exact ex<|Ck<|Ck<|D7<|A5<|AF 1 G<|rt<|AQ<|Bq () G G (by rw[VP,AA9 (by rw[X8];decide),Us (fun j Ay=>C0 j AJv)]) G Aa
theorem AcG(CP:Value)(l:List Bx)(f:Nat)(D0:Array Value)(A:List Atom)(p:Bx->Bool)(CM:GU AG f)(E5:∀x:Bx,x.wf->Cv AG f (.agg (H8 x).toArray::D0.toList) A (.bool (p x))):Cv AG 129 [CP,.func (.func f) #[] D0] (⟨CP,l⟩::A) (.int .i64 (HI (Gd l.length (fun j=>p (l.getD j default))))):=by
 refine Aw.proof Tryz.func129 G 19 G G fun X w=>AF 1 G<|Am<|Ae<|An G G<|C2 0 G G AJC G fun MD=>An G G<|Ac<|B5<|Ji (σ:=Nat) [(0,_),(1,_),(7,_)] _ (fun i C=>(8,.int .i64 (i:Int))::C) (fun i=>i<=l.length/\(∀j,j<i->p (l.getD j default)=false)) (fun i=>l.length-i) 0 (Bs G) (Ad 0 G (Bg.tail Br)) ⟨ABg _,fun j Ay=>absurd Ay (AB2 j)⟩ (Bs G) ?_;rintro i ⟨Ag,C0⟩;refine AF 1 G<|Am<|B9 G (fun EO=>?_) (fun EO=>?_)
 ·
  refine AZ<|Am<|B5<|AF 2 G<|Ae<|U 2 G<|An G G<|Fo 0 G G G Ox G fun PS=>Gi 0 G G (At G) G fun KR N6=>QV (E5 _ N6) CM G G G (Bg.tail (Bg.tail (Bg.tail Br))) G fun Ui Mn V4=>?_;obtain rfl:Mn=.bool (p (l.getD i default)):=V4;refine Ac<|BN G (fun CR=>?_) (fun CR=>?_)
  · exact AF 2 G<|rt<|C9<|Cd<|Cd<|C9<|Cd<|Bq () G G (by rw[Tc (j:=i) AJv C0 CR];try rfl) G Aa
  ·
   refine EG<|CU<|A5<|rg<|C5 G G BV G<|An G G<|nl ?_;exact Dy (i+1) ⟨AJv,(Ki C0 (CR))⟩ AJv (Bs G) G (Ad 2 G (Bg.tail (Bg.tail (Bg.tail Br))))
 · exact ex<|Ck<|Ck<|D7<|A5<|AF 1 G<|rt<|Bq () G G (by rw[Tb (fun k AE=>C0 k AJv)];try rfl) G Aa
theorem Ahm(x:Bx)(v1 v2:Value)(c q:Int)(_:x.wf):Cv AG 130 [.agg (H8 x).toArray,v1,v2] [⟨v1,(⟨c⟩:Cq Int)⟩,⟨v2,(⟨q⟩:Cq Int)⟩] (.bool (decide (x.Ap=c)&&decide (x.As=q))):=by
 refine Aw.proof Tryz.func130 G 15 G G fun X w=>Ae<|CV G G G fun DQ=>U 1 G<|Ac<|Ae<|AX 2 [0] G G<|CQ 0 G G (A2 G) G fun OD=>U 2 G ?_;refine D4 9 5 [] G G (fun EO VC=>by
  have Y0:=ABA EO;exact AX 2 [0] G G<|Bl G G G<|CQ 1 G G (A2 G) G fun Xr=>U 2 G<|VC G Br) ?_
 exact U 1 G<|Ac<|rt<|AQ<|Bq () G G AJy G Aa
theorem fA(CP:Value)(l:List Bx)(c:Int)(q:Int)(BK:A' c)(Ed:A' q):Cv AG 65 [CP,.int .i64 c,.int .i64 q] [⟨CP,l⟩] (.int .i64 (HI (Kt l c q))):=by
 refine Aw.proof Tryz.func65 G 10 G G fun X w=>?_;obtain⟨K9,K_⟩:=id BK;obtain⟨LD,LF⟩:=id Ed;exact Ae<|CV G G G fun En=>CV G G G fun E'=>U 1 G<|Ac<|Ae<|M4 (α:=Int) q (fun S w h=>⟨G,Ed⟩)<|M4 (α:=Int) c (fun S w h=>⟨G,BK⟩)<|An G G<|Nd (xs:=[.tmp 4,.tmp 5]) G G<|B0 (AcG _ _ 130 #[.pointer (some ⟨En,0,none⟩),.pointer (some ⟨E',0,none⟩)] [⟨_,(⟨c⟩:Cq Int)⟩,⟨_,(⟨q⟩:Cq Int)⟩] (fun x=>decide (x.Ap=c)&&decide (x.As=q)) (Ar G) (fun x Ab=>Ahm x _ _ c q Ab)) (Ar G) G (BE [2,0,1] G) G<|U 1 G<|Ac<|rt<|Bq () G G AJy G Aa
theorem dS(CP:Value)(l:List Bx):Cv AG 25 [CP] [⟨CP,l⟩] (.int .i64 (IA (Is l))):=by
 refine Aw.proof Tryz.func25 G 29 G G fun X w=>AF 1 G<|Am<|Ae<|An G G<|C2 0 G G AJC G fun qY=>U 1 G<|Ac<|B9 G (fun GY=>?_) (fun GY=>?_)
 ·
  have X7:(decide ((l.length:Int)>4))=true:=(ABG GY);exact AF 1 G<|BA<|Bq () G G (by rw[Is,AA_ X7];try rfl) G Aa
 ·
  have X7:(decide ((l.length:Int)>4))=false:=(ABM GY);refine AZ<|Am<|Ae<|An G G<|C2 0 G G AJC G fun Sm=>An G G<|Ac<|B5<|Ji (σ:=Nat) [(0,_),(8,_),(9,_)] _ (fun i C=>(10,.int .i64 (i:Int))::C) (fun i=>i<=l.length/\(∀j,j<i->(!ab l j)=true)) (fun i=>l.length-i) 0 (Bs G) (Ad 0 G Aa) ⟨ABg _,fun j Ay=>absurd Ay (AB2 j)⟩ (Bs G) ?_;rintro i ⟨Ag,C0⟩;refine AF 1 G<|Am<|B9 G (fun Ct=>?_) (fun Ct=>?_)
  ·
   refine AZ<|Am<|B5<|Ae<|An G G<|Fo 0 G G G Ox G fun RA=>Gi 0 G G (At G) G fun MI SE=>CT SO G fun En=>U 1 G<|BZ 0 (us:=(H8 ((l.getD i default)))) G G G (At G) G G<|Ac<|Ae<|BJ 0 (H8 ((l.getD i default))) G G (At G) G G<|B0 (oq _ SE) (Ar G) G Aa G<|U 2 G ?_;refine DE 18 9 [0,8,9,10] G G (fun ER vP=>by
    exact AX 5 [0,0] G G<|Bl G G G<|B0 (fA _ _ _ _ SE.1 SE.2.1) (Ar G) G (Ad 2 G Aa) G<|U 1 G<|U 2 G<|vP G Br) ?_
   refine Ac<|BN G (fun G4=>?_) (fun G4=>?_)
   · exact AF 1 G<|rt<|C9<|Cd<|Cd<|C9<|Cd<|AQ<|Bq () G G (by rw[Is,AA9 (by rw[X7];decide),Ur i AJv (YU G4)];try rfl) G Aa
   ·
    refine EG<|CU<|A5<|rg<|C5 G G BV G<|An G G<|nl<|AQ ?_;exact Dy (i+1) ⟨AJv,(Ki C0 (YT G4))⟩ AJv (Bs G) G (Ad 2 G Aa)
  · exact ex<|Ck<|Ck<|D7<|A5<|AF 1 G<|rt<|Bq () G G (by rw[Is,AA9 (by rw[X7];decide),Us (fun j Ay=>C0 j AJv)];try rfl) G Aa
end Go.Apw
namespace Go.Proofs.YtalfaopffbkdnabGreat.Uo
open Go.A_ Go.RowKit Go.Proofs Go.Proofs.YtalfaopffbkdnabGreat
end Go.Proofs.YtalfaopffbkdnabGreat.Uo
namespace Go.Apw
open Go.A_ Go.RowKit Go.Proofs.YtalfaopffbkdnabGreat.Uo Go.Proofs Go.Proofs.YtalfaopffbkdnabGreat
theorem gS:E3 AG 30 [.int .i64 0,.int .i64 0,.int .i64 0,.string ByteArray.empty,.string ByteArray.empty,.int .i64 0,.int .i64 0]:=E3.mk AJw
end Go.Apw
namespace Go.Proofs.YtalfaopffbkdnabGreat.XM
theorem QN:EH AG 25 94 7 56:=EH.mk ACa AJw AJx
theorem HB:EH AG 250 191 1 8:=EH.mk AJJ AJw AJx
theorem QO:EH AG 253 195 1 8:=EH.mk AJK AJw AJx
theorem OI:EH AG 24 43 10 104:=EH.mk AB4 AJw AJx
theorem Mt:EH AG 26 86 11 104:=EH.mk ACi AJw AJx
theorem QQ:EH AG 27 98 8 80:=EH.mk AJC AJw AJx
theorem RM:EH AG 28 101 2 16:=EH.mk AC4 AJw AJx
theorem S1:EH AG 39 63 4 32:=EH.mk AJB AJw AJx
theorem AHP:QD AG 63 0 0:=QD.mk Tryz.underlying63 rfl AJw rfl
theorem AHd:QD AG 47 0 0:=QD.mk Tryz.underlying47 rfl AJw rfl
theorem AHr:QD AG 33 1 1:=QD.mk ACR rfl AJw rfl
theorem AHs:QD AG 33 8 8:=QD.mk ACR rfl AJw rfl
theorem AHt:QD AG 43 3 4:=QD.mk AJF rfl AJw rfl
theorem mixed:Tryz.prog.follows .mixedOrders=true:=AJw
theorem AGG:Nv AG 3:=⟨⟨_,ABc,rfl⟩,AJw⟩
theorem AGK:Nv AG 4:=⟨⟨_,ADM,rfl⟩,AJw⟩
theorem AHE:Nv AG 26:=⟨⟨_,ACi,rfl⟩,AJw⟩
theorem AGy:Oc AG 33 29:=⟨⟨_,ACR,rfl⟩,AJw⟩
theorem AHo:Oc AG 43 10:=⟨⟨_,AJF,rfl⟩,AJw⟩
theorem lQ:H5 AG 250 191 1:=⟨AJJ,AJw⟩
theorem lR:H5 AG 253 195 1:=⟨AJK,AJw⟩
theorem SM:E3 AG 86 [.int .i64 0,.int .i64 0,.int .i64 0,.int .i64 0,.int .i64 0,.int .i64 0,.string ByteArray.empty,.string ByteArray.empty,.int .i64 0,.int .i64 0,.int .i64 0]:=E3.mk AJw
theorem SN:E3 AG 94 [.int .i64 0,.int .i64 0,.bool false,.int .i64 0,.int .i64 0,.int .i64 0,.int .i64 0]:=E3.mk AJw
theorem SO:E3 AG 98 [.int .i64 0,.int .i64 0,.string ByteArray.empty,.string ByteArray.empty,.int .i64 0,.int .i64 0,.int .i64 0,.int .i64 0]:=E3.mk AJw
theorem de:E3 AG 101 [.int .i64 0,.int .i64 0]:=E3.mk AJw
theorem Um:E3 AG 63 [.int .i64 0,.int .i64 0,.int .i64 0,.int .i64 0]:=E3.mk AJw
theorem df:E3 AG 3 [.int .i64 0]:=E3.mk AJw
theorem dg:E3 AG 31 [.slice none 0 0]:=E3.mk AJw
theorem LQ:E3 AG 33 [.int .i64 0,.int .i64 0,.bool false,.string ByteArray.empty,.string ByteArray.empty,.int .i64 0,.slice none 0 0,.slice none 0 0,.slice none 0 0,.slice none 0 0,.slice none 0 0,.int .i64 0,.int .i64 0,.int .i64 0,.string ByteArray.empty,.string ByteArray.empty,.int .i64 0,.int .i64 0,.int .i64 0,.int .i64 0,.int .i64 0,.string ByteArray.empty,.string ByteArray.empty,.int .i64 0,.int .i64 0,.slice none 0 0,.int .i64 0,.int .i64 0,.int .i64 0]:=E3.mk AJw
theorem Hd:E3 AG 43 [.string ByteArray.empty,.int .i64 0,.int .i64 0,.int .i64 0,.int .i64 0,.slice none 0 0,.int .i64 0,.int .i64 0,.int .i64 0,.int .i64 0]:=E3.mk AJw
end Go.Proofs.YtalfaopffbkdnabGreat.XM
namespace Go.Proofs.YtalfaopffbkdnabGreat.MW
theorem QP:EH AG 31 5 1 1:=EH.mk ACb AJw AJx
theorem mixed:Tryz.prog.follows .mixedOrders=true:=AJw
theorem AGG:Nv AG 3:=⟨⟨_,ABc,rfl⟩,AJw⟩
theorem AGK:Nv AG 4:=⟨⟨_,ADM,rfl⟩,AJw⟩
theorem TZ:H5 AG 31 5 1:=⟨ACb,AJw⟩
theorem AlW:E3 AG 171 [.int .u64 0]:=E3.mk AJw
theorem df:E3 AG 3 [.int .i64 0]:=E3.mk AJw
theorem dg:E3 AG 31 [.slice none 0 0]:=E3.mk AJw
theorem AlX:E3 AG 4 [.bool false]:=E3.mk AJw
theorem rL(Bk:Value)(J:List UInt8):Cv AG 220 [Bk] [⟨Bk,J⟩] (TF (HH 0 0 J)):=by
 refine Aw.proof Tryz.func220 G 41 G G fun X w=>AF 3 G<|AF 1 G<|Am<|Ae<|An G G<|C2 0 G G ACb G fun Sm=>An G G<|Ac<|B5<|j9 (σ:=Nat×Nat) (fun s=>[(0,Bk),(5,.int .u64 (s.2:Int)),(8,Bk),(9,.int .i64 (J.length:Int)),(10,.int .i64 (s.1:Int))]) (fun _=>[CL X w]) (fun _=>[⟨Bk,J⟩]) (fun s=>s.1<=9/\s.1<=J.length/\s.2<2^(7*s.1)/\HH 0 0 J=HH s.1 s.2 (J.drop s.1)) (fun s=>J.length-s.1) (0,0) ⟨AJx,ABg _,AJx,G⟩ (Bs G) G Br ?_;rintro⟨i,v⟩ ⟨Af,h2,Bo,BB⟩;simp only at Af h2 Bo BB;refine AF 1 G<|Am<|B9 G (fun Ct=>?_) (fun Ct=>?_)
 ·
  refine AZ<|Am<|B5<|Ae<|An G G ?_;obtain⟨c,Bm⟩:∃c,J[i]? =some c:=⟨_,Aav AJv⟩;have AJ:=yD Bm;have E5:=c.toNat_lt;refine Qh 0 G G G TZ AJv Bm G fun RA=>CQ 0 G G (A2 G) G fun SE=>U 2 G<|Ac<|Am<|Ae<|U 3 G<|cD (i:=17) G (fun DA=>?_) (fun DA=>?_)
  ·
   refine U 3 G<|Ac<|B9 G (fun HQ=>?_) (fun HQ=>?_)
   · exact AF 3 G<|BA<|C9<|Cd<|Cd<|C9<|Cd<|IB () G G G G (by have e:=BB;rw[AJ]at e;simp only[HH]at e;(repeat (first|rw[AA_ AJv]at e|rw[AA9 AJv]at e));first|exact ABE TF e.symm|(exfalso;omega)) G Aa
   ·
    refine AZ<|Ae<|U 2 G<|hA G G (nf c) G<|F0 AC' AJz G (mB AJv) G<|An G G<|rD G G BV G<|gb G G AJv (lN _ (7*i) (gf Af AJv) AJv) G<|dF G G (rW Bo (gf Af AJv) AJv) G<|U 1 G<|Ac<|Am<|AF 2 G<|B9 G (fun OS=>?_) (fun OS=>?_)
    ·
     refine ex<|Ck<|D7<|A5<|rg<|C5 G G BV G<|An G G<|nl ?_;exact Dy (i+1,v+c.toNat % 128*2^(7*i)) ⟨by show i+1<=9;omega,by show i+1<=J.length;omega,gd Bo,by show HH 0 0 J=_;rw[BB,AJ];simp only[HH];rw[AA9 AJv,AA_ AJv]⟩ (by show J.length-(i+1)<J.length-i;omega) (Bs G) G (Ad 1 G Aa)
    ·
     refine AZ<|Am<|Ae<|U 3 G<|cD (i:=33) G (fun L'=>?_) (fun L'=>?_)
     ·
      refine U 3 G<|Ac<|B9 G (fun K6=>?_) (fun K6=>?_)
      · exact AF 3 G<|BA<|C9<|Cd<|Cd<|C9<|Cd<|IB () G G G G (by have e:=BB;rw[AJ]at e;simp only[HH]at e;(repeat (first|rw[AA_ AJv]at e|rw[AA9 AJv]at e));first|exact ABE TF e.symm|(exfalso;omega)) G Aa
      · exact AZ<|Ae<|U 2 G<|C5 G G BV G<|U 3 G<|Ac<|rt<|C9<|Cd<|Cd<|C9<|Cd<|IB () G G G G (by have e:=BB;rw[AJ]at e;simp only[HH]at e;(repeat (first|rw[AA_ AJv]at e|rw[AA9 AJv]at e));first|exact ABE TF e.symm|(exfalso;omega)) G Aa
     · exact G2 G G G G G<|G2 G G G G G<|U 1 G<|Ac<|LW G<|AZ<|Ae<|U 2 G<|C5 G G BV G<|U 1 G<|U 2 G<|Ac<|rt<|C9<|Cd<|Cd<|C9<|Cd<|IB () G G G G (by have e:=BB;rw[AJ]at e;simp only[HH]at e;(repeat (first|rw[AA_ AJv]at e|rw[AA9 AJv]at e));first|exact ABE TF e.symm|(exfalso;omega)) G Aa
  ·
   refine G2 G G G G G<|G2 G G G G G<|U 1 G<|Ac<|LW G<|AZ<|Ae<|U 2 G<|hA G G (nf c) G<|F0 AC' AJz G (mB AJv) G<|An G G<|rD G G BV G<|gb G G AJv (lN _ (7*i) (gf Af AJv) AJv) G<|dF G G (rW Bo (gf Af AJv) AJv) G<|U 1 G<|Ac<|Am<|AF 2 G<|B9 G (fun OS=>?_) (fun OS=>?_)
   ·
    refine ex<|Ck<|D7<|A5<|rg<|C5 G G BV G<|An G G<|nl ?_;exact Dy (i+1,v+c.toNat % 128*2^(7*i)) ⟨by show i+1<=9;omega,by show i+1<=J.length;omega,gd Bo,by show HH 0 0 J=_;rw[BB,AJ];simp only[HH];rw[AA9 AJv,AA_ AJv]⟩ (by show J.length-(i+1)<J.length-i;omega) (Bs G) G (Ad 1 G Aa)
   ·
    refine AZ<|Am<|Ae<|U 3 G<|cD (i:=33) G (fun L'=>?_) (fun L'=>?_)
    ·
     refine U 3 G<|Ac<|B9 G (fun K6=>?_) (fun K6=>?_)
     · exact AF 3 G<|BA<|C9<|Cd<|Cd<|C9<|Cd<|IB () G G G G (by have e:=BB;rw[AJ]at e;simp only[HH]at e;(repeat (first|rw[AA_ AJv]at e|rw[AA9 AJv]at e));first|exact ABE TF e.symm|(exfalso;omega)) G Aa
     · exact AZ<|Ae<|U 2 G<|C5 G G BV G<|U 3 G<|Ac<|rt<|C9<|Cd<|Cd<|C9<|Cd<|IB () G G G G (by have e:=BB;rw[AJ]at e;simp only[HH]at e;(repeat (first|rw[AA_ AJv]at e|rw[AA9 AJv]at e));first|exact ABE TF e.symm|(exfalso;omega)) G Aa
    · exact G2 G G G G G<|G2 G G G G G<|U 1 G<|Ac<|LW G<|AZ<|Ae<|U 2 G<|C5 G G BV G<|U 1 G<|U 2 G<|Ac<|rt<|C9<|Cd<|Cd<|C9<|Cd<|IB () G G G G (by have e:=BB;rw[AJ]at e;simp only[HH]at e;(repeat (first|rw[AA_ AJv]at e|rw[AA9 AJv]at e));first|exact ABE TF e.symm|(exfalso;omega)) G Aa
 · exact ex<|Ck<|Ck<|D7<|A5<|AF 3 G<|rt<|IB () G G G G (by have e:=BB;rw[List.drop_eq_nil_of_le AJv]at e;exact ABE TF e.symm) G Aa
theorem n8(Bk:Value)(J:List UInt8)(most:Int)(hm:A' most):Cv AG 209 [Bk,.int .i64 most] [⟨Bk,J⟩] (WI (L9 J most)):=by
 refine Aw.proof Tryz.func209 G 31 G G fun X w=>?_;have Aq:=YV J 0 0 AJx AJx;have LB:=rL Bk J;rcases Fx:HH 0 0 J with⟨v,n,e⟩;rw[Fx]at LB Aq;have LB:Cv AG 220 [Bk] [⟨Bk,J⟩] (.tuple #[.int .u64 (v:Int),.int .i64 (n:Int),.int .i64 (e:Int)]):=LB;simp only at Aq;have Yt:=rr hm;refine AF 3 G<|Ae<|An G G<|B0 (LB) (Ar G) G (Ad 0 G Aa) G<|U 3 G<|U 4 G<|Ac<|Am<|Ae<|U 3 G<|cD (i:=18) G (fun ER=>?_) (fun ER=>?_)
 ·
  refine U 2 G<|Bl G G G<|ka G G G G<|Bl G G G<|F0 ABc AJz G (SI AJv AJv) G<|U 2 G<|Ac<|B9 G (fun F3=>?_) (fun F3=>?_)
  ·
   refine FA 1 G<|A5<|Am<|AF 2 G<|Fa G (fun JR=>?_) (fun JR=>?_)
   · exact AF 4 G<|BA<|IB () G G G G (by have q:=S7 (most:=most) Fx;(repeat (first|rw[AA_ AJv]at q|rw[AA9 AJv]at q));first|exact ABE WI q.symm|(exfalso;omega)) G Aa
   · exact AZ<|Ae<|An G G<|F0 AJz ABc G (bq AJv) G<|U 4 G<|Ac<|rt<|IB () G G G G (by have q:=S7 (most:=most) Fx;(repeat (first|rw[AA_ AJv]at q|rw[AA9 AJv]at q));first|exact ABE WI q.symm|(exfalso;omega)) G Aa
  ·
   refine AZ<|Am<|AF 2 G<|Fa G (fun JR=>?_) (fun JR=>?_)
   · exact AF 4 G<|BA<|IB () G G G G (by have q:=S7 (most:=most) Fx;(repeat (first|rw[AA_ AJv]at q|rw[AA9 AJv]at q));first|exact ABE WI q.symm|(exfalso;omega)) G Aa
   · exact AZ<|Ae<|An G G<|F0 AJz ABc G (bq AJv) G<|U 4 G<|Ac<|rt<|IB () G G G G (by have q:=S7 (most:=most) Fx;(repeat (first|rw[AA_ AJv]at q|rw[AA9 AJv]at q));first|exact ABE WI q.symm|(exfalso;omega)) G Aa
 ·
  refine G2 G G G G G<|G2 G G G G G<|G2 G G G G G<|G2 G G G G G<|G2 G G G G G<|U 1 G<|Ac<|LW G<|AZ<|Am<|AF 2 G<|Fa G (fun JR=>?_) (fun JR=>?_)
  · exact AF 4 G<|BA<|IB () G G G G (by have q:=S7 (most:=most) Fx;(repeat (first|rw[AA_ AJv]at q|rw[AA9 AJv]at q));first|exact ABE WI q.symm|(exfalso;omega)) G Aa
  · exact AZ<|Ae<|An G G<|F0 AJz ABc G (bq AJv) G<|U 4 G<|Ac<|rt<|IB () G G G G (by have q:=S7 (most:=most) Fx;(repeat (first|rw[AA_ AJv]at q|rw[AA9 AJv]at q));first|exact ABE WI q.symm|(exfalso;omega)) G Aa
theorem AeC(b:Nat)(Bk:Value)(J:List UInt8):Aw AG 219 [Bk,.pointer (some ⟨b,0,none⟩)] [AO b 171 [.int .u64 0]] [⟨Bk,J⟩] (fun(_:Unit) v=>v=Pb (HH 0 0 J).2.1 (HH 0 0 J).2.2) (fun _ _=>[AO b 171 [.int .u64 ((HH 0 0 J).1:Int)]]) (fun _ _=>[]):=by
 exact Aw.proof Tryz.func219 G 13 G G fun X w=>AF 2 G<|Ae<|An G G<|B0 (rL _ _) (Ar G) G (Ad 0 G Aa) G<|U 3 G<|U 1 G<|Fi 0 G G G (A2 G) G (Da G)<|U 2 G<|Ac<|AF 4 G<|rt<|Fl () G G G G G Aa
theorem ym(a b:Nat)(Bk:Value)(J:List UInt8)(most:Int)(hm:A' most):Aw AG 208 [Bk,.pointer (some ⟨a,0,none⟩),.pointer (some ⟨b,0,none⟩)] [AO b 3 [.int .i64 0],AO a 3 [.int .i64 most]] [⟨Bk,J⟩] (fun(_:Unit) v=>v=Pb (L9 J most).2.1 (L9 J most).2.2) (fun _ _=>[AO b 3 [.int .i64 ((L9 J most).1:Int)],AO a 3 [.int .i64 most]]) (fun _ _=>[]):=by
 exact Aw.proof Tryz.func208 G 15 G G fun X w=>AF 2 G<|Ae<|AX 2 [1] G G<|B0 (n8 _ _ _ hm) (Ar G) G (Ad 0 G Aa) G<|U 2 G<|U 2 G<|Fi 0 G G G (A2 G) G (Da G)<|U 2 G<|Ac<|AF 4 G<|rt<|Fl () G G G G G Aa
theorem dN(Bk:Value)(J:List UInt8)(hlen:J.length<=140737488355328):Aw AG 36 [Bk] [] [⟨Bk,J⟩] (fun(_:Unit) _=>True) (fun _ _=>[]) (fun _ v=>[⟨v,J⟩]):=by
 refine Aw.proof Tryz.func36 G 8 G G fun X w=>AF 1 G<|Am<|Ae<|An G G<|RT 0 ACb G G G G fun PM J'=>Ac<|BN G (fun BB=>?_) (fun BB=>?_)
 ·
  have Ab:J=[]:=J' BB;subst Ab;exact DJ (α:=UInt8)<|AF 1 G<|BA<|Bq () G G trivial G (Ad 0 G Aa)
 · exact AZ<|Ae<|NB QP G fun E'=>Nm (α:=UInt8) [] [] G G (fun _ _ _=>trivial) G<|An G G<|ap 0 0 G G G G QP (by simpa using hlen) (by simpa using hlen) G fun EZ=>U 1 G<|Ac<|rt<|K5<|Bq () G G trivial G (Ad 0 G Aa)
theorem Akb(a b:Nat)(Bk:Value)(J:List UInt8)(most:Int)(hm:A' most)(pS:most<=1000000):Aw AG 210 [Bk,.pointer (some ⟨a,0,none⟩),.pointer (some ⟨b,0,none⟩)] [Pk b 31 ([]:List UInt8),AO a 3 [.int .i64 most]] [⟨Bk,J⟩] (fun(_:Unit) v=>v=Pb (N3 J most).2.1 (N3 J most).2.2) (fun _ _=>[Pk b 31 (N3 J most).1,AO a 3 [.int .i64 most]]) (fun _ _=>[]):=by
 refine Aw.proof Tryz.func210 G 38 G G fun X w=>?_;have Aq:=aa J most;have LB:=n8 Bk J most hm;rcases Fx:L9 J most with⟨v,n,e⟩;rw[Fx]at LB Aq;have LB:Cv AG 209 [Bk,.int .i64 most] [⟨Bk,J⟩] (.tuple #[.int .i64 (v:Int),.int .i64 (n:Int),.int .i64 (e:Int)]):=LB;simp only at Aq;have Yt:=rr hm;have LY:=l7 Fx;refine AF 2 G<|Ae<|AX 2 [1] G G<|B0 (LB) (Ar G) G (Ad 0 G Aa) G<|U 3 G<|U 4 G<|Ac<|Am<|AF 2 G<|Fa G (fun DA=>?_) (fun DA=>?_)
 ·
  refine AF 3 G<|BA ?_;rw[show N3 J most=([],0,e)from by rw[LY,AA_ AJv]];exact Fl () G G G G G Aa
 ·
  refine AZ<|Am<|Ae<|An G G<|C2 0 G G ACb G fun U_=>An G G<|TU G G BV G<|U 2 G<|Ac<|B9 G (fun F3=>?_) (fun F3=>?_)
  ·
   refine AF 2 G<|BA ?_;rw[show N3 J most=([],0,20)from by rw[LY,AA9 AJv,AA_ AJv]];exact Fl () G G G G G Aa
  ·
   refine AZ<|Ae<|U 4 G<|C5 G G BV G<|U 2 G<|C5 G G BV G<|lP 0 G G TZ G G G AJv AJv AJv AJv G fun ue=>Dm (dN _ _ (by first|assumption|(simp only[ACt,ABz];omega))) (Ar G) G (Ad 0 G Aa) G fun Apn Xm FN=>rS 0 G fun u=>J2 0 1 G G G G (A2 G) (Da G)<|Ac<|Ae<|U 2 G<|C5 G G BV G<|U 2 G<|Ac<|rt ?_
   rw[show N3 J most=((J.drop n).take v,n+v,0)from by rw[LY,AA9 AJv,AA9 AJv]];refine wQ ⟨Xm,(J.drop n).take v⟩ (fun S w h=>?_) (x3 0 0 G G (Fl () G G G G G Aa));have q:=h ⟨Xm,_⟩ (AA' (i:=1) rfl);rw[List.drop_take,show((n:Int)+(v:Int)).toNat-(n:Int).toNat=v from by omega]at q;exact q
theorem Akh(p f:Nat)(bv:Value)(J:List UInt8)(s:Bb)(D0:Array Value)(q EJ:C4)(n e:Nat)(CM:GU AG f)(Bw:s.fault=0)(AH:s.pos<=J.length)(Ao:n<=(J.drop s.pos).length)
  (E5:∀Bk,Aw AG f (Bk::D0.toList) [q] [⟨Bk,J.drop s.pos⟩] (fun(_:Unit) v=>v=Pb n e) (fun _ _=>[EJ]) (fun _ _=>[])):
  Aw AG 206 [.pointer (some ⟨p,0,none⟩),.func (.func f) #[] D0] [q,CG p bv s] [⟨bv,J⟩] (fun(_:Unit) v=>v=.bool (decide (e=0))) (fun _ _=>[EJ,CG p bv (s.step n e)]) (fun _ _=>[]):=by
 refine Aw.proof AJP G 54 G G fun X w=>?_;rw[<-ACB (l:=J)]at E5;have jg:∀Bk,Aw AG f (Bk::D0.toList) [q] [⟨Bk,(J.take J.length).drop s.pos⟩] (fun(_:Unit) v=>v=Pb n e) (fun _ _=>[EJ]) (fun _ _=>[]):=fun Bk=>by have:=E5 Bk;simpa using this
 rw[ACt]at Ao;refine HP (q:=J.length<=9223372036854775807) (fun S w h=>L1 (h _ (ABx ..))) fun hlen=>AF 1 G<|Am<|Ae<|An G G<|M3 AJA G G G<|U 2 G<|AX 5 [1] G G<|Ac<|Fa G (fun Ft=>?_) (fun Ft=>?_)
 · exact absurd AJv Ft --#done
 ·
  refine AZ<|Am<|Vh (L:=[q,CG p bv s,CL X w]) [(4,.NQ 1),(8,.NQ 1),(12,.NQ 1),(17,.NQ 1)] [(13,⟨some (.int .i64 (J.length:Int)),fun _=>[],false⟩),(18,⟨some (.int .i64 (J.length:Int)),fun _=>[],false⟩),(19,⟨none,fun u=>[⟨u,(J.take J.length).drop s.pos⟩],false⟩),(20,⟨some (Pb n e),fun _=>[],true⟩)] [] [] [(20,fun L _=>NZ 2 (EJ) L)] (fun _=>G) (fun _=>AJw) ?_ fun V _=>?_
  ·
   refine⟨fun V Az _=>(by(repeat (refine dt ?_ ?_;exact C2 0 G G ACb G fun qW=>GH G G G G));trivial),fun V Az _=>(by(repeat (refine dt ?_ ?_;exact C2 0 G G ACb G fun Adi=>GH G G G G));trivial),fun V Az _=>GK (lP 0 G G TZ G G G AJv AJv AJv AJv G fun SC=>nl (Ig G G G trivial (Ad 0 G Aa) (Bg.tail Br))),?_⟩
   refine⟨fun V Az _=>GK ?_,?_⟩
   ·
    refine hD (L0:=[q]) (Lr:=[CG p bv s,CL X w]) (jg _) CM G AJy AJy AJy (Ad 0 G Aa) AJy fun y v h=>?_;obtain rfl:v=Pb n e:=h;exact nl (Ig G G G G Aa (Bg.tail Br))
   trivial
  ·
   refine Vu [1] G<|A5<|Am<|AF 2 G<|Fa G (fun My=>?_) (fun My=>?_)
   ·
    refine Ae<|U 4 G<|Fi 1 G G G (A2 G) G (Da G)<|Ac<|AF 1 G<|BA ?_;have hs:s.step n e=⟨s.pos,e⟩:=(by unfold Bb.step;rw[if_neg AJv,if_pos AJv]);rw[hs];exact Bq () G G (by rw[ABM AJv]) G Aa
   ·
    refine AZ<|Ae<|AX 5 [1] G G<|C5 G G BV G<|U 2 G<|Fi 1 G G G (A2 G) G (Da G)<|Ac<|AF 1 G<|rt ?_;obtain rfl:e=0:=AJv;have hs:s.step n 0=⟨s.pos+n,s.fault⟩:=(by unfold Bb.step;rw[if_neg AJv,if_neg AJv]);rw[hs];exact Bq () G G G G Aa
theorem Akj(p f:Nat)(bv:Value)(J:List UInt8)(s:Bb)(D0:Array Value)(Ey Ez TM TN:C4)(n e:Nat)(CM:GU AG f)(Bw:s.fault=0)(AH:s.pos<=J.length)(Ao:n<=(J.drop s.pos).length)
  (E5:∀Bk,Aw AG f (Bk::D0.toList) [Ey,Ez] [⟨Bk,J.drop s.pos⟩] (fun(_:Unit) v=>v=Pb n e) (fun _ _=>[TM,TN]) (fun _ _=>[])):
  Aw AG 206 [.pointer (some ⟨p,0,none⟩),.func (.func f) #[] D0] [Ey,Ez,CG p bv s] [⟨bv,J⟩] (fun(_:Unit) v=>v=.bool (decide (e=0))) (fun _ _=>[TM,TN,CG p bv (s.step n e)]) (fun _ _=>[]):=by
 refine Aw.proof AJP G 54 G G fun X w=>?_;rw[<-ACB (l:=J)]at E5;have jg:∀Bk,Aw AG f (Bk::D0.toList) [Ey,Ez] [⟨Bk,(J.take J.length).drop s.pos⟩] (fun(_:Unit) v=>v=Pb n e) (fun _ _=>[TM,TN]) (fun _ _=>[]):=fun Bk=>by have:=E5 Bk;simpa using this
 rw[ACt]at Ao;refine HP (q:=J.length<=9223372036854775807) (fun S w h=>L1 (h _ (ABx ..))) fun hlen=>AF 1 G<|Am<|Ae<|An G G<|M3 AJA G G G<|U 2 G<|AX 5 [2] G G<|Ac<|Fa G (fun Ft=>?_) (fun Ft=>?_)
 · exact absurd AJv Ft --#done
 ·
  refine AZ<|Am<|Vh (L:=[Ey,Ez,CG p bv s,CL X w]) [(4,.NQ 2),(8,.NQ 2),(12,.NQ 2),(17,.NQ 2)] [(13,⟨some (.int .i64 (J.length:Int)),fun _=>[],false⟩),(18,⟨some (.int .i64 (J.length:Int)),fun _=>[],false⟩),(19,⟨none,fun u=>[⟨u,(J.take J.length).drop s.pos⟩],false⟩),(20,⟨some (Pb n e),fun _=>[],true⟩)] [] [] [(20,fun L _=>NZ 2 (TN) (NZ 3 (TM) L))] (fun _=>G) (fun _=>AJw) ?_ fun V _=>?_
  ·
   refine⟨fun V Az _=>(by(repeat (refine dt ?_ ?_;exact C2 0 G G ACb G fun qW=>GH G G G G));trivial),fun V Az _=>(by(repeat (refine dt ?_ ?_;exact C2 0 G G ACb G fun Adi=>GH G G G G));trivial),fun V Az _=>GK (lP 0 G G TZ G G G AJv AJv AJv AJv G fun SC=>nl (Ig G G G trivial (Ad 0 G Aa) (Bg.tail Br))),?_⟩
   refine⟨fun V Az _=>GK ?_,?_⟩
   ·
    refine hD (L0:=[Ey,Ez]) (Lr:=[CG p bv s,CL X w]) (jg _) CM G AJy AJy AJy (Ad 0 G Aa) AJy fun y v h=>?_;obtain rfl:v=Pb n e:=h;exact nl (Ig G G G G Aa (Bg.tail Br))
   trivial
  ·
   refine Vu [1] G<|A5<|Am<|AF 2 G<|Fa G (fun My=>?_) (fun My=>?_)
   ·
    refine Ae<|U 4 G<|Fi 2 G G G (A2 G) G (Da G)<|Ac<|AF 1 G<|BA ?_;have hs:s.step n e=⟨s.pos,e⟩:=(by unfold Bb.step;rw[if_neg AJv,if_pos AJv]);rw[hs];exact Bq () G G (by rw[ABM AJv]) G Aa
   ·
    refine AZ<|Ae<|AX 5 [2] G G<|C5 G G BV G<|U 2 G<|Fi 2 G G G (A2 G) G (Da G)<|Ac<|AF 1 G<|rt ?_;obtain rfl:e=0:=AJv;have hs:s.step n 0=⟨s.pos+n,s.fault⟩:=(by unfold Bb.step;rw[if_neg AJv,if_neg AJv]);rw[hs];exact Bq () G G G G Aa
theorem Akg(p f:Nat)(bv:Value)(J:List UInt8)(s:Bb)(D0:Array Value)(q:C4)(_ _:Nat)(Bw:s.fault≠0):
  Aw AG 206 [.pointer (some ⟨p,0,none⟩),.func (.func f) #[] D0] [q,CG p bv s] [⟨bv,J⟩] (fun(_:Unit) v=>v=.bool false) (fun _ _=>[q,CG p bv s]) (fun _ _=>[]):=by
 refine Aw.proof AJP G 54 G G fun X w=>AF 1 G<|Am<|Ae<|An G G<|M3 AJA G G G<|U 2 G<|AX 5 [1] G G<|Ac<|Fa G (fun Ft=>?_) (fun Ft=>?_)
 · exact AF 1 G<|BA<|Bq () G G G G Aa
 · exact absurd AJv Bw --#done
theorem tU(p f:Nat)(bv:Value)(J:List UInt8)(s:Bb)(D0:Array Value)(q EJ:C4)(n e:Nat)(CM:GU AG f)(AH:s.pos<=J.length)(Ao:n<=(J.drop s.pos).length)
  (E5:s.fault=0->∀Bk,Aw AG f (Bk::D0.toList) [q] [⟨Bk,J.drop s.pos⟩] (fun(_:Unit) v=>v=Pb n e) (fun _ _=>[EJ]) (fun _ _=>[]))
  (jf:s.fault≠0->[EJ]=[q]):
  Aw AG 206 [.pointer (some ⟨p,0,none⟩),.func (.func f) #[] D0] [q,CG p bv s] [⟨bv,J⟩] (fun(_:Unit) v=>v=.bool (decide (s.fault=0/\e=0))) (fun _ _=>[EJ,CG p bv (s.step n e)]) (fun _ _=>[]):=by
 by_cases Bw:s.fault=0
 ·
  have h:=Akh p f bv J s D0 q EJ n e CM Bw AH Ao (E5 Bw);simpa only[Bw,true_and]using h
 ·
  have h:=Akg p f bv J s D0 q n e Bw;have hs:s.step n e=s:=(by unfold Bb.step;rw[if_pos Bw]);have Aq:=jf Bw;simp only[ACj,ACs]at Aq;rw[hs,ABM (fun hh=>Bw hh.1)];first|(obtain⟨B4,DC⟩:=Aq;rw[B4,DC];exact h)|(rw[Aq];exact h)
theorem Aki(p f:Nat)(bv:Value)(J:List UInt8)(s:Bb)(D0:Array Value)(Ey Ez:C4)(_ _:Nat)(Bw:s.fault≠0):
  Aw AG 206 [.pointer (some ⟨p,0,none⟩),.func (.func f) #[] D0] [Ey,Ez,CG p bv s] [⟨bv,J⟩] (fun(_:Unit) v=>v=.bool false) (fun _ _=>[Ey,Ez,CG p bv s]) (fun _ _=>[]):=by
 refine Aw.proof AJP G 54 G G fun X w=>AF 1 G<|Am<|Ae<|An G G<|M3 AJA G G G<|U 2 G<|AX 5 [2] G G<|Ac<|Fa G (fun Ft=>?_) (fun Ft=>?_)
 · exact AF 1 G<|BA<|Bq () G G G G Aa
 · exact absurd AJv Bw --#done
theorem tV(p f:Nat)(bv:Value)(J:List UInt8)(s:Bb)(D0:Array Value)(Ey Ez TM TN:C4)(n e:Nat)(CM:GU AG f)(AH:s.pos<=J.length)(Ao:n<=(J.drop s.pos).length)
  (E5:s.fault=0->∀Bk,Aw AG f (Bk::D0.toList) [Ey,Ez] [⟨Bk,J.drop s.pos⟩] (fun(_:Unit) v=>v=Pb n e) (fun _ _=>[TM,TN]) (fun _ _=>[]))
  (jf:s.fault≠0->[TM,TN]=[Ey,Ez]):
  Aw AG 206 [.pointer (some ⟨p,0,none⟩),.func (.func f) #[] D0] [Ey,Ez,CG p bv s] [⟨bv,J⟩] (fun(_:Unit) v=>v=.bool (decide (s.fault=0/\e=0))) (fun _ _=>[TM,TN,CG p bv (s.step n e)]) (fun _ _=>[]):=by
 by_cases Bw:s.fault=0
 ·
  have h:=Akj p f bv J s D0 Ey Ez TM TN n e CM Bw AH Ao (E5 Bw);simpa only[Bw,true_and]using h
 ·
  have h:=Aki p f bv J s D0 Ey Ez n e Bw;have hs:s.step n e=s:=(by unfold Bb.step;rw[if_pos Bw]);have Aq:=jf Bw;simp only[ACj,ACs]at Aq;rw[hs,ABM (fun hh=>Bw hh.1)];first|(obtain⟨B4,DC⟩:=Aq;rw[B4,DC];exact h)|(rw[Aq];exact h)
theorem AeD(p:Nat)(bv:Value)(J:List UInt8)(s:Bb)(AH:s.pos<=J.length):Aw AG 205 [.pointer (some ⟨p,0,none⟩)] [CG p bv s] [⟨bv,J⟩] (fun(_:Unit) v=>v=.int .u64 ((rdNum J s).1:Int)) (fun _ _=>[CG p bv (rdNum J s).2]) (fun _ _=>[]):=by
 refine Aw.proof Tryz.func205 G 9 G G fun X w=>?_;have LB:=fun b Bk=>AeC b Bk (J.drop s.pos);have Aq:=YV (J.drop s.pos) 0 0 AJx AJx;rcases Fx:HH 0 0 (J.drop s.pos)with⟨x,n,e⟩;rw[Fx]at Aq;simp only[Fx]at LB;simp only at Aq;have Bh:rdNum J s=(s.val 0 x e,s.step n e):=by simp only[rdNum,Lj,Fx]
 rw[Bh];refine AF 1 G<|Ae<|CT AlW G fun DQ=>Fi 0 G G G (A2 G) G (Da G)<|Ac<|Am<|Ae<|An G G<|Nd (xs:=[.tmp 3]) G G<|XY (L0:=[AO DQ 171 [.int .u64 0],CG p bv s]) (Lr:=[CL X w]) (tU p 219 bv J s #[.pointer (some ⟨DQ,0,none⟩)] _ (AO DQ 171 [.int .u64 ((s.val 0 x e:Nat):Int)]) n e (Ar G) AH AJv (fun h Bk=>?_) (fun h=>?_)) (Ar G) G AJy (Ad 0 G Aa) AJy fun y v h=>?_
 ·
  have q:=LB DQ Bk;have B4:s.val 0 x e=x:=(by unfold Bb.val;rw[if_neg AJv];split<;>omega);rw[B4];exact q
 ·
  have B4:s.val 0 x e=0:=(by unfold Bb.val;rw[if_pos h]);rw[B4];rfl
 obtain rfl:v=.bool (decide (s.fault=0/\e=0)):=h;refine IH G G<|Ac<|Fa G (fun GY=>?_) (fun GY=>?_)
 ·
  refine AF 1 G<|BA ?_;have B4:s.val 0 x e=0:=(by unfold Bb.val;split;rfl;split;rfl;omega);exact AQ<|Bq () G G (by rw[B4];rfl) G Aa
 · exact AZ<|I5 2 [0] G G<|rt<|AQ<|Bq () G G G G Aa
theorem X0(p:Nat)(bv:Value)(J:List UInt8)(s:Bb)(most:Int)(hm:A' most)(AH:s.pos<=J.length):Aw AG 186 [.pointer (some ⟨p,0,none⟩),.int .i64 most] [CG p bv s] [⟨bv,J⟩] (fun(_:Unit) v=>v=.int .i64 ((DT J most s).1:Int)) (fun _ _=>[CG p bv (DT J most s).2]) (fun _ _=>[]):=by
 refine Aw.proof Tryz.func186 G 11 G G fun X w=>?_;have LB:=fun a b Bk=>ym a b Bk (J.drop s.pos) most hm;have Aq:=aa (J.drop s.pos) most;rcases Fx:L9 (J.drop s.pos) most with⟨x,n,e⟩;rw[Fx]at Aq;simp only[Fx]at LB;simp only at Aq;have Bh:DT J most s=(s.val 0 x e,s.step n e):=by simp only[DT,Lj,Fx]
 rw[Bh];refine Ae<|CV G G G fun DQ=>U 1 G<|Ac<|Ae<|CT df G fun E'=>Fi 0 G G G (A2 G) G (Da G)<|Ac<|Am<|Ae<|An G G<|Nd (xs:=[.tmp 3,.tmp 5]) G G<|XY (L0:=[AO E' 3 [.int .i64 0],AO DQ 3 [.int .i64 most],CG p bv s]) (Lr:=[CL X w]) (tV p 208 bv J s #[.pointer (some ⟨DQ,0,none⟩),.pointer (some ⟨E',0,none⟩)] _ _ (AO E' 3 [.int .i64 ((s.val 0 x e:Nat):Int)]) (AO DQ 3 [.int .i64 most]) n e (Ar G) AH AJv (fun h Bk=>?_) (fun h=>?_)) (Ar G) G AJy (Ad 0 G Aa) AJy fun y v h=>?_
 ·
  have q:=LB DQ E' Bk;have B4:s.val 0 x e=x:=(by unfold Bb.val;rw[if_neg AJv];split;exact(by simp[Aq.2.2, *]);rfl);rw[B4];exact q
 ·
  have B4:s.val 0 x e=0:=(by unfold Bb.val;rw[if_pos h]);rw[B4];try rfl
 obtain rfl:v=.bool (decide (s.fault=0/\e=0)):=h;refine IH G G<|Ac<|Fa G (fun EO=>?_) (fun EO=>?_)
 ·
  refine AF 1 G<|BA ?_;have B4:s.val 0 x e=0:=(by unfold Bb.val;split;rfl;split;rfl;omega);refine AQ (AQ ?_);exact Bq () G G (by rw[B4];rfl) G Aa
 ·
  refine AZ<|I5 2 [0] G G<|rt<|AQ (AQ ?_);exact Bq () G G G G Aa
theorem Ake(p:Nat)(bv:Value)(J:List UInt8)(s:Bb)(most:Int)(hm:A' most)(pS:most<=1000000)(AH:s.pos<=J.length):Aw AG 191 [.pointer (some ⟨p,0,none⟩),.int .i64 most] [CG p bv s] [⟨bv,J⟩] (fun(_:Unit) _=>True) (fun _ _=>[CG p bv (Gm J most s).2]) (fun _ v=>[⟨v,(Gm J most s).1⟩]):=by
 refine Aw.proof Tryz.func191 G 10 G G fun X w=>?_;have LB:=fun a b Bk=>Akb a b Bk (J.drop s.pos) most hm pS;have Aq:=l6 (J.drop s.pos) most;rcases Fx:N3 (J.drop s.pos) most with⟨x,n,e⟩;rw[Fx]at Aq;simp only[Fx]at LB;simp only at Aq;have Bh:Gm J most s=(s.val [] x e,s.step n e):=by simp only[Gm,Lj,Fx]
 rw[Bh];have Aq:True/\n<=(J.drop s.pos).length/\(e≠0->x=[]/\n=0):=⟨trivial,Aq.1,Aq.2.1⟩;refine Ae<|CV G G G fun DQ=>U 1 G<|Ac<|Ae<|CT dg G fun E'=>Ac<|Ae<|An G G<|oA (α:=UInt8)<|x2 (α:=List UInt8) 0 0 G G<|Nd (xs:=[.tmp 3,.tmp 5]) G G<|XY (L0:=[Pk E' 31 ([]:List UInt8),AO DQ 3 [.int .i64 most],CG p bv s]) (Lr:=[CL X w]) (tV p 210 bv J s #[.pointer (some ⟨DQ,0,none⟩),.pointer (some ⟨E',0,none⟩)] _ _ (Pk E' 31 (s.val [] x e:List UInt8)) (AO DQ 3 [.int .i64 most]) n e (Ar G) AH AJv (fun h Bk=>?_) (fun h=>?_)) (Ar G) G AJy (Ad 1 G Aa) AJy fun y v h=>?_
 ·
  have q:=LB DQ E' Bk;have B4:s.val [] x e=x:=(by unfold Bb.val;rw[if_neg AJv];split;exact(by simp[Aq.2.2, *]);rfl);rw[B4];exact q
 ·
  have B4:s.val [] x e=[]:=(by unfold Bb.val;rw[if_pos h]);rw[B4];try rfl
 obtain rfl:v=.bool (decide (s.fault=0/\e=0)):=h;refine Ac<|Ae<|rS 0 G fun uc=>AX 2 [0] G G<|Ac<|rt<|AQ (AQ ?_);exact Bq () G G trivial G (Ad 0 G Aa)
theorem AcM(p:Nat)(bv:Value)(J:List UInt8)(s DR:Bb)(x:Int)(AH:s.pos<=J.length)(Ab:D6 J s=(x,DR)):Aw AG 183 [.pointer (some ⟨p,0,none⟩)] [CG p bv s] [⟨bv,J⟩] (fun(_:Unit) v=>v=.int .i64 x) (fun _ _=>[CG p bv DR]) (fun _ _=>[]):=by
 refine Aw.proof Tryz.func183 G 16 G G fun X w=>?_;obtain⟨rfl,rfl⟩:x=Ul (rdNum J s).1/\DR=(rdNum J s).2:=by simp only[D6,Prod.mk.injEq]at Ab;exact⟨Ab.1.symm,Ab.2.symm⟩
 have AN:=sM J s;refine AF 1 G<|Ae<|An G G<|Ch 0 (AeD _ _ _ _ AH) (Ar G) G G (Ad 0 G Aa) G fun Ls Mp C'=>?_;have C':Mp=.int .u64 ((rdNum J s).1:Int):=C';subst C';refine U 1 G<|Ac<|Am<|Ae<|An G G<|hA G G (and_1 AN) G<|U 1 G<|Ac<|B9 G (fun D2=>?_) (fun D2=>?_)
 · exact Ae<|An G G<|Vl G G AJv (th _) G<|F0 AJz ABc G (bq AJv) G<|n_ G (n' BV) G<|U 1 G<|Ac<|BA<|Bq () G G (by unfold Ul;rw[if_pos AJv]) G Aa
 · exact AZ<|Ae<|An G G<|Vl G G AJv (th _) G<|F0 AJz ABc G (bq AJv) G<|U 1 G<|Ac<|rt<|Bq () G G (by unfold Ul;rw[if_neg AJv]) G Aa
theorem zE(p:Nat)(bv:Value)(_:List UInt8)(s:Bb):Aw AG 204 [.pointer (some ⟨p,0,none⟩)] [CG p bv s] [] (fun(_:Unit) v=>v=.tuple #[.int .i64 (s.fault:Int),.int .i64 ((if s.fault=0 then 0 else s.pos:Nat):Int)]) (fun _ _=>[CG p bv s]) (fun _ _=>[]):=by
 refine Aw.proof Tryz.func204 G 19 G G fun X w=>AF 2 G<|Am<|Ae<|An G G<|M3 AJA G G G<|Ac<|LW G<|AZ<|Am<|I5 5 [0] G G<|B9 G (fun Dq=>?_) (fun Dq=>?_)
 ·
  refine AF 2 G<|BA ?_;have e:s.fault=0:=AJv;rw[AA_ e];exact Fl () G G G (by rw[e];rfl) G Aa
 ·
  refine AZ<|Am<|Gx mixed AJw<|AX 10 [0,0] G G<|Gj<|A5<|rt ?_;rw[AA9 AJv];exact Fl () G G G G G Aa
theorem Aes(Bk:Value)(J:List UInt8)(hlen:J.length<=140737488355328):Aw AG 131 [Bk] [] [⟨Bk,J⟩] (fun(y:Nat×Value) v=>v=.pointer (some ⟨y.1,0,none⟩)) (fun y _=>[CG y.1 y.2 ⟨0,0⟩]) (fun y _=>[⟨y.2,J⟩]):=by
 refine Aw.proof Tryz.func131 G 7 G G fun X w=>AF 1 G<|Ae<|An G G<|Dm (dN _ _ (by first|assumption|(simp only[ACt,ABz];omega))) (Ar G) G (Ad 0 G Aa) G fun IN v4 BB=>w9 0 G ?_
 rintro⟨A,Dc,rfl⟩;exact Db (ps:=[(0,.tmp 4)]) (cs:=[.slice A J.length Dc,.int .i64 0,.int .i64 0]) AJy AJw G<|CV G G G fun Hg=>U 1 G<|Ac<|rt<|Bq (Hg,.slice A J.length Dc) G G G G (Ad 0 G Aa)
theorem zQ(b:Nat)(Bk:Value)(J:List UInt8):Aw AG 207 [Bk,.pointer (some ⟨b,0,none⟩)] [AO b 4 [.bool false]] [⟨Bk,J⟩] (fun(_:Unit) v=>v=Pb (NG J).2.1 (NG J).2.2) (fun _ _=>[AO b 4 [.bool (NG J).1]]) (fun _ _=>[]):=by
 refine Aw.proof Tryz.func207 G 16 G G fun X w=>AF 2 G<|Am<|Ae<|An G G<|C2 0 G G ACb G fun qY=>U 1 G<|Ac<|B9 G (fun GY=>?_) (fun GY=>?_)
 ·
  have Ab:J=[]:=ADo AJv;subst Ab;exact AF 2 G<|BA<|Fl () G G G G G Aa
 ·
  obtain⟨c,r,rfl⟩:∃c r,J=c::r:=by
   cases J with
   |nil=>exact absurd rfl GY
   |cons c r=>exact⟨c,r,rfl⟩
  refine AZ<|Am<|Ae<|An G G<|Qh 0 G G G TZ AJv (show(c::r)[0]? =some c from G) G fun Nr=>CQ 0 G G (A2 G) G fun cW=>U 1 G<|Ac<|B9 G (fun Ct=>?_) (fun Ct=>?_)
  ·
   have JU:NG (c::r)=(false,0,21):=(by simp only[NG];rw[AA_ AJv]);rw[JU];exact AF 2 G<|BA<|Fl () G G G G G Aa
  ·
   have JU:NG (c::r)=(decide ((c.toNat:Int)=1),1,0):=by
    simp only[NG];rw[AA9 AJv];congr 1;rw[ACy];simp only[ABa];rw[<-UInt8.toNat_inj];show c.toNat=1↔_;omega
   rw[JU];exact AZ<|Ae<|An G G<|Qh 1 G G G TZ AJv (show(c::r)[0]? =some c from G) G fun RA=>CQ 0 G G (A2 G) G fun SE=>U 1 G<|Fi 0 G G G (A2 G) G (Da G)<|Ac<|AF 2 G<|rt<|Fl () G G G G G Aa
theorem zS(p:Nat)(bv:Value)(J:List UInt8)(s:Bb)(AH:s.pos<=J.length):Aw AG 184 [.pointer (some ⟨p,0,none⟩)] [CG p bv s] [⟨bv,J⟩] (fun(_:Unit) v=>v=.bool (Kw J s).1) (fun _ _=>[CG p bv (Kw J s).2]) (fun _ _=>[]):=by
 refine Aw.proof Tryz.func184 G 8 G G fun X w=>?_;have LB:=fun b Bk=>zQ b Bk (J.drop s.pos);have Aq:=oY (J.drop s.pos);rcases Fx:NG (J.drop s.pos)with⟨x,n,e⟩;rw[Fx]at Aq;simp only[Fx]at LB;simp only at Aq;have Bh:Kw J s=(s.val false x e,s.step n e):=by simp only[Kw,Lj,Fx]
 rw[Bh];have Aq:True/\n<=(J.drop s.pos).length/\(e≠0->x=false/\n=0):=⟨trivial,Aq⟩;refine AF 1 G<|Ae<|CT AlX G fun DQ=>Fi 0 G G G (A2 G) G (Da G)<|Ac<|Ae<|An G G<|Nd (xs:=[.tmp 3]) G G<|XY (L0:=[AO DQ 4 [.bool false],CG p bv s]) (Lr:=[CL X w]) (tU p 207 bv J s #[.pointer (some ⟨DQ,0,none⟩)] _ (AO DQ 4 [.bool (s.val false x e:Bool)]) n e (Ar G) AH AJv (fun h Bk=>?_) (fun h=>?_)) (Ar G) G AJy (Ad 0 G Aa) AJy fun y v h=>?_
 ·
  have q:=LB DQ Bk;have B4:s.val false x e=x:=(by unfold Bb.val;rw[if_neg AJv];split;exact(by simp[Aq.2.2, *]);rfl);rw[B4];exact q
 ·
  have B4:s.val false x e=false:=(by unfold Bb.val;rw[if_pos h]);rw[B4];try rfl
 obtain rfl:v=.bool (decide (s.fault=0/\e=0)):=h;exact Ac<|I5 2 [0] G G<|rt<|AQ<|Bq () G G G G Aa
theorem y3(p:Nat)(bv:Value)(J:List UInt8)(s:Bb):Aw AG 132 [.pointer (some ⟨p,0,none⟩)] [CG p bv s] [⟨bv,J⟩] (fun(_:Unit) v=>v=.int .i64 (Q0 J s)) (fun _ _=>[CG p bv s]) (fun _ _=>[]):=by
 refine Aw.proof Tryz.func132 G 26 G G fun X w=>AF 1 G<|Am<|Ae<|An G G<|M3 AJA G G G<|Ac<|LW G<|AZ<|Am<|Am<|Gx mixed AJw<|AX 6 [0] G G<|cD (i:=10) G (fun Dq=>?_) (fun Dq=>?_)
 ·
  refine AX 7 [0] G G<|AX 1 [0] G G<|Bl G G G<|C2 0 G G ACb G fun U9=>U 2 G<|Gj<|A5<|B9 G (fun E1=>?_) (fun E1=>?_)
  · exact AF 1 G<|BA<|Bq () G G (by unfold Q0;first|rw[if_pos AJv]|rw[if_neg AJv]) G Aa
  · exact AZ<|I5 5 [0] G G<|rt<|Bq () G G (by unfold Q0;first|rw[if_pos AJv]|rw[if_neg AJv]) G Aa
 · exact G2 G G G G G<|G2 G G G G G<|G2 G G G G G<|G2 G G G G G<|G2 G G G G G<|G2 G G G G G<|G2 G G G G G<|G2 G G G G G<|G2 G G G G G<|G2 G G G G G<|U 1 G<|Gj<|A5<|LW G<|AZ<|I5 5 [0] G G<|rt<|Bq () G G (by unfold Q0;first|rw[if_pos AJv]|rw[if_neg AJv]) G Aa
end Go.Proofs.YtalfaopffbkdnabGreat.MW
namespace Go.Proofs.YtalfaopffbkdnabGreat.XM
section
variable(By bv Bk:Value) (p:Nat) (J:List UInt8) (B3 s:Bb) (b T:Nat) (cells:List Value) (offs:List Nat) (o:Nat)
theorem Oz:Aw AG 180 [By] [CG p bv s] [⟨By,(⟨⟨p⟩⟩:Cq Gb)⟩] (fun(_:Unit) v=>v=.bool (Ml s)) (fun _ _=>[CG p bv s]) (fun _ _=>[]):=by
 refine Aw.proof Tryz.func180 G 31 G G fun X w=>AF 1 G<|Am<|Ae<|An G G<|Co 0 G G G<|CJ 0 Ku G G (BR G) G fun EZ=>CQ 0 G G (A2 G) G fun gE=>M3 AJA G G G<|Ac<|LW G<|AZ<|Ae<|An G G<|Co 1 G G G<|CJ 1 Ku G G (BR G) G fun T6=>CQ 0 G G (A2 G) G fun cX=>Ch 0 (MW.zE p bv [] s) (Ar G) G G Aa G fun _ KC Fe=>?_;subst Fe;refine U 5 G<|Ac<|Ae<|U 3 G ?_;refine DE 24 6 [] G G (fun F3 VE=>by
  have Af4:=F3;simp only[ABI,ABa]at Af4;exact U 1 G<|Bl G G G<|Co 2 G G G<|Bl G G G<|CJ 2 sn G G (BR G) G fun N4=>Bl G G G<|CQ 0 G G (A2 G) G fun Uc=>U 2 G<|VE G (Bg.tail Br)) ?_
 exact U 1 G<|Ac<|rt<|Bq () G G G G Aa
theorem qs(AH:B3.pos<=J.length)(Cu:gQ cells offs)(Ao:offs.Nodup):Aw AG 133 [By,Bk] [AO b T cells,CG p bv B3] [⟨By,(⟨⟨p⟩⟩:Cq Gb)⟩,⟨bv,J⟩,⟨Bk,NW b offs⟩] (fun(_:Unit) _=>True) (fun _ _=>[AO b T (CO J offs (cells,B3)).1,CG p bv (CO J offs (cells,B3)).2]) (fun _ _=>[]):=by
 refine Aw.proof Tryz.func133 G 35 G G fun X w=>Ae<|An G G<|C2 2 G G AJJ G fun MD=>An G G<|Ac<|B5<|Hx (σ:=Nat×List Value×Bb) [(0,_),(6,_),(7,_)] _ (fun i C=>(8,.int .i64 (i.1:Int))::C) (fun i=>[AO b T i.2.1,CG p bv i.2.2,CL X w]) (fun _ Dw=>Dw) (fun i=>i.1<=offs.length/\i.2.2.pos<=J.length/\gQ i.2.1 (offs.drop i.1)/\(offs.drop i.1).Nodup/\CO J (offs.drop i.1) i.2=CO J offs (cells,B3)) (fun i=>offs.length-i.1) (0,cells,B3) (Bs G) (Ad 0 G (Ad 1 G (Ad 2 G Aa))) ⟨ABg _,AH,Cu,Ao,G⟩ (Bs G) G (Ad 0 G (Ad 1 G (Ad 2 G Aa))) ?_;rintro⟨i,c,s⟩ ⟨Ag,hs,Bm,AJ,he⟩;simp only at Ag hs Bm AJ he;refine AF 1 G<|Am<|B9 G (fun EO=>?_) (fun EO=>?_)
 ·
  have Jf:i<offs.length:=(by rw[Y4]at EO;omega);rw[drop_cons Jf]at Bm AJ he;have A7:=Rj (Bm _ (ABx ..));refine AZ<|Am<|B5<|Ae<|Qh 2 G G G lQ AJv (sr Jf) G fun v10=>CQ 0 G G (A2 G) G fun SD=>U 1 G<|Ac<|B5<|Ae<|An G G<|Ch 1 (Oz By bv p s) (Ar G) G G (Ad 1 G Aa) G fun _ SB E1=>?_;have E1:SB=.bool (Ml s):=E1;subst E1;refine U 1 G<|Ac<|BN G (fun Fe=>?_) (fun Fe=>?_)
  ·
   refine EG<|CU<|CU<|A5<|rg<|C5 G G BV G<|An G G<|nl ?_;exact Dy ((i+1,c,s):Nat×List Value×Bb) ⟨AJv,hs,fun x Ab=>Bm x (ABR _ Ab),(ADq.1 AJ).2,(AcN ((N2 s).1 Fe) (Bm _ (ABx ..))).symm.trans he⟩ (by show _-_<_-_;omega) (Bs G) G (BE [1,2,3] G)
  ·
   have BI:=(Xf s).1 (by simpa using Fe);refine Ae<|An G G<|Co 1 G G G<|CJ 1 Ku G G (BR G) G fun T7=>CQ 0 G G (A2 G) G fun mv=>M3 AJA G G G<|U 1 G<|Ac<|LW G<|rg<|U 2 G<|Co 2 G G G<|CJ 2 Ku G G (BR G) G fun Xk=>CQ 0 G G (A2 G) G fun PV=>Ch 1 (MW.AcM p bv J s (D6 J s).2 (D6 J s).1 hs G) (Ar G) G G (Ad 4 G Aa) G fun _ T6 DA=>?_;have DA:T6=.int .i64 (D6 J s).1:=DA;subst DA;refine Va G G<|Fi 0 G G G (A2 G) G A7<|nl<|CU<|CU<|A5<|rg<|C5 G G BV G<|An G G<|nl ?_;exact Dy ((i+1,c.set (offs.getD i 0) (.int .i64 (D6 J s).1),(D6 J s).2):Nat×List Value×Bb) ⟨AJv,Hb hs,vu (α:=Nat) AJ (fun x Ab=>Bm x (ABR _ Ab)),(ADq.1 AJ).2,he⟩ (by show _-_<_-_;omega) (Bs G) G (BE [3,4,5] G)
 ·
  have Jf:i=offs.length:=(by rw[Y4]at EO;omega);subst Jf;rw[List.drop_length]at he;have he:(c,s)=CO J offs (cells,B3):=he;rw[<-he];exact ex<|Ck<|Ck<|D7<|Dz () G trivial G Aa
theorem zo(AH:s.pos<=J.length)(Cu:cells[o]? =some (.int .i64 0)):Aw AG 189 [By,.pointer (some ⟨b,o,none⟩)] [AO b T cells,CG p bv s] [⟨By,(⟨⟨p⟩⟩:Cq Gb)⟩,⟨bv,J⟩] (fun(_:Unit) _=>True) (fun _ _=>[AO b T (cells.set o (.int .i64 (D6 J s).1)),CG p bv (D6 J s).2]) (fun _ _=>[]):=by
 refine Aw.proof Tryz.func189 G 14 G G fun X w=>?_;have A7:=Rj Cu;exact Ae<|U 2 G<|ME 0 G G (A2 G) Cu G<|CT df G fun En=>Fi 0 G G G (A2 G) G AJx<|Ac<|Ae<|An G G<|BH (xs:=[.tmp 4]) (us:=[.pointer (some ⟨En,0,none⟩)]) (E:=191) (bytes:=8) (n:=1) G (by exact HB) G G G G G G fun H7=>Q5 (NW En [0]) ([0].map fun o=>[.pointer (some ⟨En,o,none⟩)]) G (fun S w h=>Y5 S w _) (ABy G)<|D9 2 G<|D9 1 G<|Hs 2 (qs By bv _ p J s En 3 [.int .i64 0] [0] AH (by intro o A7;simp only[ABf,ABh,ABi]at A7;subst A7;rfl) AJx) (Ar G) G G (BE [1,2,0] G) G fun _ v10 Dq=>Ac<|rg<|An G G<|ME 0 G G (A2 G) (show _=some (.int .i64 (D6 J s).1)from G) G<|Va G G<|Fi 2 G G G (A2 G) G A7<|nl<|AQ<|Au 1 G<|Dz () G trivial G Aa
theorem zR(AH:s.pos<=J.length)(Cu:cells[o]? =some (.bool false)):Aw AG 134 [By,.pointer (some ⟨b,o,none⟩)] [AO b T cells,CG p bv s] [⟨By,(⟨⟨p⟩⟩:Cq Gb)⟩,⟨bv,J⟩] (fun(_:Unit) _=>True) (fun _ _=>[AO b T (cells.set o (.bool (Kw J s).1)),CG p bv (Kw J s).2]) (fun _ _=>[]):=by
 refine Aw.proof Tryz.func134 G 37 G G fun X w=>?_;have A7:=Rj Cu;refine B5<|Ae<|An G G<|Ch 1 (Oz By bv p s) (Ar G) G G (Ad 0 G Aa) G fun _ RA Dp=>?_;have Dp:RA=.bool (Ml s):=Dp;subst Dp;refine U 1 G<|Ac<|BN G (fun Ct=>?_) (fun Ct=>?_)
 ·
  have BI:=(N2 s).1 Ct;exact EG<|CU<|Dz () G trivial (by rw[Ah6 BI,Ah5 BI,TW Cu];rfl) Aa
 ·
  refine Ae<|An G G<|Co 0 G G G<|CJ 0 Ku G G (BR G) G fun T6=>CQ 0 G G (A2 G) G fun cX=>M3 AJA G G G<|An G G<|G2 G G G G G<|G2 G G G G G<|G2 G G G G G<|U 2 G<|Ac<|LW G<|Ae<|An G G<|Co 1 G G G<|CJ 1 Ku G G (BR G) G fun L5=>CQ 0 G G (A2 G) G fun AkS=>M3 AJA G G G<|U 1 G<|Ac<|LW G<|rg<|U 2 G<|Co 2 G G G<|CJ 2 Ku G G (BR G) G fun EZ=>CQ 0 G G (A2 G) G fun gE=>Ch 1 (MW.zS p bv J s AH) (Ar G) G G (Ad 4 G Aa) G fun _ Nr EO=>?_;have EO:Nr=.bool (Kw J s).1:=EO;subst EO;exact Va G G<|Fi 0 G G G (A2 G) G A7<|nl<|CU<|Dz () G trivial G Aa
theorem nM(u:Value)(AH:s.pos<=J.length)(hu:cells[o]? =some u):Aw AG 147 [By,.pointer (some ⟨b,o,none⟩)] [AO b T cells,CG p bv s] [⟨By,(⟨⟨p⟩⟩:Cq Gb)⟩,⟨bv,J⟩,⟨u,([]:List UInt8)⟩] (fun(_:Value) _=>True) (fun y _=>[AO b T (cells.set o y),CG p bv (Gm J 65535 s).2]) (fun y _=>[⟨y,(Gm J 65535 s).1⟩]):=by
 refine Aw.proof Tryz.func147 G 35 G G fun X w=>?_;have A7:=Rj hu;refine B5<|Ae<|An G G<|Ch 1 (Oz By bv p s) (Ar G) G G (Ad 0 G Aa) G fun _ gz EM=>?_;have EM:gz=.bool (Ml s):=EM;subst EM;refine U 1 G<|Ac<|BN G (fun Dq=>?_) (fun Dq=>?_)
 ·
  have BI:=(N2 s).1 Dq;exact EG<|CU<|Dz u G trivial (by rw[Aif BI,TW hu];rfl) (by rw[Aig BI];exact(Bg.cons 2 rfl Bg.nil))
 ·
  refine Ae<|An G G<|Co 0 G G G<|CJ 0 Ku G G (BR G) G fun Mn=>CQ 0 G G (A2 G) G fun mr=>rG AJA G G G<|U 1 G<|Ac<|Mv G<|rg<|U 2 G<|Co 1 G G G<|CJ 1 Ku G G (BR G) G fun RB=>CQ 0 G G (A2 G) G fun cY=>Ch 1 (MW.Ake p bv J s 65535 BV AJv AH) (Ar G) G G (Ad 3 G Aa) G fun _ Xl _=>?_;exact Va G G<|J2 0 0 G G G G (A2 G) A7<|nl<|CU<|Dz Xl G trivial G (Ad 0 G Aa)
theorem Akd(AH:B3.pos<=J.length)(Cu:gR cells offs)(Ao:offs.Nodup):Aw AG 135 [By,Bk] [AO b T cells,CG p bv B3] [⟨By,(⟨⟨p⟩⟩:Cq Gb)⟩,⟨bv,J⟩,⟨Bk,NW b offs⟩] (fun(_:Unit) _=>True) (fun _ _=>[AO b T (Ea J offs (cells,B3)).1,CG p bv (Ea J offs (cells,B3)).2]) (fun _ _=>[]):=by
 refine Aw.proof Tryz.func135 G 44 G G fun X w=>Ae<|An G G<|C2 2 G G AJK G fun Adl=>An G G<|Ac<|B5<|Hx (σ:=Nat×List Value×Bb) [(0,_),(7,_),(8,_)] _ (fun i C=>(9,.int .i64 (i.1:Int))::C) (fun i=>[AO b T i.2.1,CG p bv i.2.2,CL X w]) (fun _ Dw=>Dw) (fun i=>i.1<=offs.length/\i.2.2.pos<=J.length/\gR i.2.1 (offs.drop i.1)/\(offs.drop i.1).Nodup/\Ea J (offs.drop i.1) i.2=Ea J offs (cells,B3)) (fun i=>offs.length-i.1) (0,cells,B3) (Bs G) (Ad 0 G (Ad 1 G (Ad 2 G Aa))) ⟨ABg _,AH,Cu,Ao,G⟩ (Bs G) G (Ad 0 G (Ad 1 G (Ad 2 G Aa))) ?_;rintro⟨i,c,s⟩ ⟨Ag,hs,Bm,AJ,he⟩;simp only at Ag hs Bm AJ he;refine AF 1 G<|Am<|B9 G (fun Dq=>?_) (fun Dq=>?_)
 ·
  have Jf:i<offs.length:=(by rw[Y4]at Dq;omega);rw[drop_cons Jf]at Bm AJ he;have A7:=Rj (Bm _ (ABx ..));refine AZ<|Am<|B5<|Ae<|Qh 2 G G G lR AJv (sr Jf) G fun v11=>CQ 0 G G (A2 G) G fun Xr=>U 1 G<|Ac<|Am<|Ae<|An G G<|Co 1 G G G<|CJ 1 Ku G G (BR G) G fun Xk=>CQ 0 G G (A2 G) G fun PV=>M3 AJA G G G<|An G G<|G2 G G G G G<|G2 G G G G G<|G2 G G G G G<|G2 G G G G G<|G2 G G G G G<|U 1 G<|Ac<|LW G<|AZ<|Ae<|U 2 G<|ME 0 G G (A2 G) (Bm _ (ABx ..)) G<|oa ABO ACb AC' G AJx G fun L5=>CT dg G fun Hg=>J2 0 0 G G G G (A2 G) (Da G)<|Ac<|Ae<|An G G<|D9 2 G<|D9 1 G<|Hs 2 (nM By bv p J s Hg 31 [L5] 0 L5 hs G) (Ar G) G G (BE [3,4,0] G) G fun y ue L'=>?_;refine Ac<|Ae<|An G G<|Co 4 G G G<|CJ 4 Ku G G (BR G) G fun SC=>CQ 0 G G (A2 G) G fun AkU=>rG AJA G G G<|Ac<|Mv G<|rg<|An G G<|ME 0 G G (A2 G) (show _=some y from G) G<|xU 1 ACb AC' ABO G G G<|Va G G<|Fi 2 G G G (A2 G) G A7<|nl<|CU<|A5<|rg<|C5 G G BV G<|An G G<|nl<|AQ<|Au 1 G ?_;exact Dy ((i+1,c.set (offs.getD i 0) (.string ⟨(Gm J 65535 s).1.toArray⟩),(Gm J 65535 s).2):Nat×List Value×Bb) ⟨AJv,Vf hs,vu (α:=Nat) AJ (fun x Ab=>Bm x (ABR _ Ab)),(ADq.1 AJ).2,he⟩ (by show _-_<_-_;omega) (Bs G) G (BE [5,6,7] G)
 ·
  have Jf:i=offs.length:=(by rw[Y4]at Dq;omega);subst Jf;rw[List.drop_length]at he;have he:(c,s)=Ea J offs (cells,B3):=he;rw[<-he];exact ex<|Ck<|Ck<|D7<|Dz () G trivial G Aa
end
end Go.Proofs.YtalfaopffbkdnabGreat.XM
namespace Go.Apw
theorem z9(J:List UInt8)(s:Bb):(CO J [0,1,2,3] (([.int .i64 0,.int .i64 0,.int .i64 0,.int .i64 0]:List Value),s))=(JH (Iu J s).1,(Iu J s).2):=by
 simp only[CO,Iu,Di,ABt,ABu]
theorem z7(J:List UInt8)(s:Bb):(CO J [0,1] (([.int .i64 0,.int .i64 0]:List Value),s))=(QT (HF J s).1,(HF J s).2):=by
 simp only[CO,HF,Di,ABt,ABu]
theorem z5(J:List UInt8)(s:Bb):(CO J [4,5,6,7] (Ea J [2,3] (CO J [0,1] (([.int .i64 0,.int .i64 0,.string ByteArray.empty,.string ByteArray.empty,.int .i64 0,.int .i64 0,.int .i64 0,.int .i64 0]:List Value),s))))=(H8 (Hk J s).1,(Hk J s).2):=by
 simp only[CO,Ea,Hk,Di,ABt,ABu]
theorem Aab(J:List UInt8)(s:Bb):(CO J [4,5,6] (CO J [3] (E9 J 2 (CO J [0,1] (([.int .i64 0,.int .i64 0,.bool false,.int .i64 0,.int .i64 0,.int .i64 0,.int .i64 0]:List Value),s)))))=(H9 (GG J s).1,(GG J s).2):=by
 simp only[CO,E9,GG,UL,Di,ABt,ABu]
theorem Aaq(J:List UInt8)(s:Bb):(Hy J 5 (CO J [0,1,2,3,4] (([.int .i64 0,.int .i64 0,.int .i64 0,.int .i64 0,.int .i64 0,.int .i64 0,.string ByteArray.empty,.string ByteArray.empty,.int .i64 0,.int .i64 0,.int .i64 0]:List Value),s)))=(Hh (GX J s).1,(GX J s).2):=by
 simp only[CO,Ea,Hy,GX,Wc,Di,ABt,ABu,Nat.reduceAdd]
theorem z1(J:List UInt8)(s:Bb)(XC:Value):(CO J [6,7,8,9] (C7 5 XC (CS J (Iu J)) (CO J [1,2,3,4] (Ea J [0] (([.string ByteArray.empty,.int .i64 0,.int .i64 0,.int .i64 0,.int .i64 0,.slice none 0 0,.int .i64 0,.int .i64 0,.int .i64 0,.int .i64 0]:List Value),s)))))=(A3 (F2 J s).1 XC,(F2 J s).2):=by
 simp only[CO,Ea,C7,F2,UO,UM,Di,ABt,ABu]
theorem z2(J:List UInt8)(s:Bb)(_:Value):(CS J (Iu J) (CO J [1,2,3,4] (Ea J [0] (([.string ByteArray.empty,.int .i64 0,.int .i64 0,.int .i64 0,.int .i64 0,.slice none 0 0,.int .i64 0,.int .i64 0,.int .i64 0,.int .i64 0]:List Value),s))).2).1=(F2 J s).1.A0:=by
 simp only[CO,Ea,C7,F2,UO,UM,Di,ABt,ABu]
theorem Aai(J:List UInt8)(s:Bb)(I' Ja Kf HS KF Ns:Value):(CO J [26,27,28] (C7 25 Ns (Gm J 65535) (Ga J 18 (Ga J 11 (C7 10 KF (CS J (HF J)) (C7 9 HS (CS J (Hk J)) (C7 8 Kf (CS J (GX J)) (C7 7 Ja (CS J (GG J)) (C7 6 I' (CS J (F2 J)) (CO J [5] (Ea J [3,4] (E9 J 2 (CO J [0,1] (([.int .i64 0,.int .i64 0,.bool false,.string ByteArray.empty,.string ByteArray.empty,.int .i64 0,.slice none 0 0,.slice none 0 0,.slice none 0 0,.slice none 0 0,.slice none 0 0,.int .i64 0,.int .i64 0,.int .i64 0,.string ByteArray.empty,.string ByteArray.empty,.int .i64 0,.int .i64 0,.int .i64 0,.int .i64 0,.int .i64 0,.string ByteArray.empty,.string ByteArray.empty,.int .i64 0,.int .i64 0,.slice none 0 0,.int .i64 0,.int .i64 0,.int .i64 0]:List Value),s))))))))))))))=(BY (FC J s).1 I' Ja Kf HS KF Ns,(FC J s).2):=by
 simp only[CO,Ea,E9,C7,Ga,FC,L_,L_,Di,ABt,ABu,Nat.reduceAdd]
theorem Aaj(J:List UInt8)(s:Bb)(_ _ _ _ _ _:Value):(CS J (F2 J) (CO J [5] (Ea J [3,4] (E9 J 2 (CO J [0,1] (([.int .i64 0,.int .i64 0,.bool false,.string ByteArray.empty,.string ByteArray.empty,.int .i64 0,.slice none 0 0,.slice none 0 0,.slice none 0 0,.slice none 0 0,.slice none 0 0,.int .i64 0,.int .i64 0,.int .i64 0,.string ByteArray.empty,.string ByteArray.empty,.int .i64 0,.int .i64 0,.int .i64 0,.int .i64 0,.int .i64 0,.string ByteArray.empty,.string ByteArray.empty,.int .i64 0,.int .i64 0,.slice none 0 0,.int .i64 0,.int .i64 0,.int .i64 0]:List Value),s))))).2).1=(FC J s).1.Aj:=by
 simp only[CO,Ea,E9,C7,Ga,FC,L_,L_,Di,ABt,ABu,Nat.reduceAdd]
theorem Aak(J:List UInt8)(s:Bb)(I' _ _ _ _ _:Value):(CS J (GG J) (C7 6 I' (CS J (F2 J)) (CO J [5] (Ea J [3,4] (E9 J 2 (CO J [0,1] (([.int .i64 0,.int .i64 0,.bool false,.string ByteArray.empty,.string ByteArray.empty,.int .i64 0,.slice none 0 0,.slice none 0 0,.slice none 0 0,.slice none 0 0,.slice none 0 0,.int .i64 0,.int .i64 0,.int .i64 0,.string ByteArray.empty,.string ByteArray.empty,.int .i64 0,.int .i64 0,.int .i64 0,.int .i64 0,.int .i64 0,.string ByteArray.empty,.string ByteArray.empty,.int .i64 0,.int .i64 0,.slice none 0 0,.int .i64 0,.int .i64 0,.int .i64 0]:List Value),s)))))).2).1=(FC J s).1.Bz:=by
 simp only[CO,Ea,E9,C7,Ga,FC,L_,L_,Di,ABt,ABu,Nat.reduceAdd]
theorem Aal(J:List UInt8)(s:Bb)(I' Ja _ _ _ _:Value):(CS J (GX J) (C7 7 Ja (CS J (GG J)) (C7 6 I' (CS J (F2 J)) (CO J [5] (Ea J [3,4] (E9 J 2 (CO J [0,1] (([.int .i64 0,.int .i64 0,.bool false,.string ByteArray.empty,.string ByteArray.empty,.int .i64 0,.slice none 0 0,.slice none 0 0,.slice none 0 0,.slice none 0 0,.slice none 0 0,.int .i64 0,.int .i64 0,.int .i64 0,.string ByteArray.empty,.string ByteArray.empty,.int .i64 0,.int .i64 0,.int .i64 0,.int .i64 0,.int .i64 0,.string ByteArray.empty,.string ByteArray.empty,.int .i64 0,.int .i64 0,.slice none 0 0,.int .i64 0,.int .i64 0,.int .i64 0]:List Value),s))))))).2).1=(FC J s).1.AA:=by
 simp only[CO,Ea,E9,C7,Ga,FC,L_,L_,Di,ABt,ABu,Nat.reduceAdd]
theorem Aam(J:List UInt8)(s:Bb)(I' Ja Kf _ _ _:Value):(CS J (Hk J) (C7 8 Kf (CS J (GX J)) (C7 7 Ja (CS J (GG J)) (C7 6 I' (CS J (F2 J)) (CO J [5] (Ea J [3,4] (E9 J 2 (CO J [0,1] (([.int .i64 0,.int .i64 0,.bool false,.string ByteArray.empty,.string ByteArray.empty,.int .i64 0,.slice none 0 0,.slice none 0 0,.slice none 0 0,.slice none 0 0,.slice none 0 0,.int .i64 0,.int .i64 0,.int .i64 0,.string ByteArray.empty,.string ByteArray.empty,.int .i64 0,.int .i64 0,.int .i64 0,.int .i64 0,.int .i64 0,.string ByteArray.empty,.string ByteArray.empty,.int .i64 0,.int .i64 0,.slice none 0 0,.int .i64 0,.int .i64 0,.int .i64 0]:List Value),s)))))))).2).1=(FC J s).1.Bj:=by
 simp only[CO,Ea,E9,C7,Ga,FC,L_,L_,Di,ABt,ABu,Nat.reduceAdd]
theorem Aan(J:List UInt8)(s:Bb)(I' Ja Kf HS _ _:Value):(CS J (HF J) (C7 9 HS (CS J (Hk J)) (C7 8 Kf (CS J (GX J)) (C7 7 Ja (CS J (GG J)) (C7 6 I' (CS J (F2 J)) (CO J [5] (Ea J [3,4] (E9 J 2 (CO J [0,1] (([.int .i64 0,.int .i64 0,.bool false,.string ByteArray.empty,.string ByteArray.empty,.int .i64 0,.slice none 0 0,.slice none 0 0,.slice none 0 0,.slice none 0 0,.slice none 0 0,.int .i64 0,.int .i64 0,.int .i64 0,.string ByteArray.empty,.string ByteArray.empty,.int .i64 0,.int .i64 0,.int .i64 0,.int .i64 0,.int .i64 0,.string ByteArray.empty,.string ByteArray.empty,.int .i64 0,.int .i64 0,.slice none 0 0,.int .i64 0,.int .i64 0,.int .i64 0]:List Value),s))))))))).2).1=(FC J s).1.CX:=by
 simp only[CO,Ea,E9,C7,Ga,FC,L_,L_,Di,ABt,ABu,Nat.reduceAdd]
theorem Aao(J:List UInt8)(s:Bb)(I' Ja Kf HS KF _:Value):(Gm J 65535 (Ga J 18 (Ga J 11 (C7 10 KF (CS J (HF J)) (C7 9 HS (CS J (Hk J)) (C7 8 Kf (CS J (GX J)) (C7 7 Ja (CS J (GG J)) (C7 6 I' (CS J (F2 J)) (CO J [5] (Ea J [3,4] (E9 J 2 (CO J [0,1] (([.int .i64 0,.int .i64 0,.bool false,.string ByteArray.empty,.string ByteArray.empty,.int .i64 0,.slice none 0 0,.slice none 0 0,.slice none 0 0,.slice none 0 0,.slice none 0 0,.int .i64 0,.int .i64 0,.int .i64 0,.string ByteArray.empty,.string ByteArray.empty,.int .i64 0,.int .i64 0,.int .i64 0,.int .i64 0,.int .i64 0,.string ByteArray.empty,.string ByteArray.empty,.int .i64 0,.int .i64 0,.slice none 0 0,.int .i64 0,.int .i64 0,.int .i64 0]:List Value),s)))))))))))).2).1=(FC J s).1.Cf:=by
 simp only[CO,Ea,E9,C7,Ga,FC,L_,L_,Di,ABt,ABu,Nat.reduceAdd]
end Go.Apw
