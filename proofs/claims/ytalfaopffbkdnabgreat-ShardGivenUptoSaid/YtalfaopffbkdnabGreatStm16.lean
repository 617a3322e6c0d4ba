/- Part 16 of shardGiven_holds. -/
import Derived.Test.YtalfaopffbkdnabGreatStm15

set_option maxRecDepth 20000
set_option maxHeartbeats 1000000
open List renaming length_nil→ABo
open Go.A_ Go.Proofs Go.Proofs.YtalfaopffbkdnabGreat
namespace Go.Apw
variable(CP:Value) (l:List BL) (c q:Int)
theorem YD{β GA:Type}[Inhabited β][DecidableEq GA]{key:β->GA}{lt:GA->GA->Bool}{t:GA}{l:List β}(h:¬G9 key lt t l=false):Cz key lt t l<l.length:=by
 unfold G9 at h;simp only[ACu,ABl,ABN,ACD]at h;exact h.1
theorem AlP:(⟨0,0,0,0⟩:De).wf:=⟨⟨AJx,AJx⟩,⟨AJx,AJx⟩,⟨AJx,AJx⟩,⟨AJx,AJx⟩⟩
theorem oy:(⟨80,0,0,0⟩:De).wf:=⟨⟨AJx,AJx⟩,⟨AJx,AJx⟩,⟨AJx,AJx⟩,⟨AJx,AJx⟩⟩
theorem NH{α β:Type}[Inhabited β]{f:α->β->α}{b:List β}{i:Nat}(h:i<b.length){a:α}:(b.take (i+1)).foldl f a=f ((b.take i).foldl f a) (b.getD i default):=by
 rw[gl h,List.foldl_append];rfl
theorem Ac2(o:List BL)(m:BL):(Ld o m).length<=o.length+1:=by
 unfold Ld;split
 · exact cb (key:=fun x:BL=>x.Ap) (lt:=Go.Apw.AGl) m o
 ·
  omega
theorem jT(b:List BL):∀(i:Nat) (l:List BL),((b.take i).foldl Ld l).length<=l.length+i
 |0,l=>by simp
 |i+1,l=>by
  by_cases h:i<b.length
  ·
   rw[NH h];have Cg:=jT b i l;have:=Ac2 ((b.take i).foldl Ld l) (b.getD i default);omega
  ·
   have Cg:=jT b i l;rw[List.take_of_length_le AJv]at Cg ⊢;omega
theorem qB{a b:Bool}(h:(!decide (IA a=0)|| !decide (IA b=0))=true):(a&&b)=false:=by
 rw[aA,aA]at h;revert h;cases a<;>cases b<;>decide
theorem qC{a b:Bool}(h:(!decide (IA a=0)|| !decide (IA b=0))=false):¬(a&&b)=false:=by
 rw[aA,aA]at h;revert h;cases a<;>cases b<;>decide
theorem kC{l:List BL}{c q:Int}(h:KQ l c q=0):Fg l=true:=by
 unfold KQ at h;split at h
 · exact absurd h AJx
 ·
  rename_i q;simpa using q
theorem ej(t:Int)(Z:BL×Bool)(AW:FU l t=Z):Cv AG 75 [CP,.int .i64 t] [⟨CP,l⟩] (.tuple #[.agg (H9 Z.1).toArray,.bool Z.2]):=by
 refine Aw.proof Tryz.func75 G 25 G G fun X w=>Ae<|CT SN G fun En=>U 1 G<|Ac<|Am<|Ae<|An G G<|B0 (Xd _ _) (Ar G) G (Ad 0 G Aa) G<|U 1 G<|Ac<|Fa G (fun Dq=>?_) (fun Dq=>?_)
 ·
  have Ni:Fg l=false:=(by first|exact Dq|exact BS.1 Dq|exact(fun q=>BS.2 q Dq)|exact(fun q=>ABd (Dq.symm.trans q))|simpa using Dq)
  have AB:((gT,false):BL×Bool)=Z:=(by rw[<-AW,FU,AA_ Ni]);subst AB;exact Ae<|Db (ps:=[]) (cs:=(H9 ((⟨0,0,false,(⟨0,0,0,0⟩:De)⟩:BL)))) AJy AJw G<|BZ 0 (us:=(H9 ((⟨0,0,false,(⟨0,0,0,0⟩:De)⟩:BL)))) G G G (At G) G G<|U 1 G<|Ac<|BA<|D8 () [_] (Fp 0 G G G G (At G)) AJy G Aa
 ·
  have Ni:¬(Fg l=false):=(by first|exact Dq|exact BS.1 Dq|exact(fun q=>BS.2 q Dq)|exact(fun q=>ABd (Dq.symm.trans q))|simpa using Dq)
  have hlen:l.length<=100000:=ABB (TE (by simpa using Ni)) AJx;refine AZ<|Ae<|U 2 G<|B0 (lV _ _ t hlen) (Ar G) G (Ad 0 G Aa) G<|U 5 G<|Ac<|Am<|AF 2 G<|BN G (fun Fe=>?_) (fun Fe=>?_)
  ·
   have Qs:(G9 (fun x:BL=>x.Ap) Go.Apw.AGl t l)=false:=(by first|exact Fe|exact BS.1 Fe|exact(fun q=>BS.2 q Fe)|exact(fun q=>ABd (Fe.symm.trans q))|simpa using Fe)
   have AB:((gT,false):BL×Bool)=Z:=(by rw[<-AW,FU,AA9 Ni,AA_ Qs]);subst AB;exact Ae<|Db (ps:=[]) (cs:=(H9 ((⟨0,0,false,(⟨0,0,0,0⟩:De)⟩:BL)))) AJy AJw G<|BZ 0 (us:=(H9 ((⟨0,0,false,(⟨0,0,0,0⟩:De)⟩:BL)))) G G G (At G) G G<|U 1 G<|Ac<|BA<|D8 () [_] (Fp 0 G G G G (At G)) AJy G Aa
  ·
   have Qs:¬((G9 (fun x:BL=>x.Ap) Go.Apw.AGl t l)=false):=(by first|exact Fe|exact BS.1 Fe|exact(fun q=>BS.2 q Fe)|exact(fun q=>ABd (Fe.symm.trans q))|simpa using Fe)
   have AB:((l.getD (Cz (fun x:BL=>x.Ap) Go.Apw.AGl t l) default,true):BL×Bool)=Z:=(by rw[<-AW,FU,AA9 Ni,AA9 Qs]);subst AB;have C_:=YD Qs;exact AZ<|Ae<|U 2 G<|Fo 0 G G G J1 G fun Pe=>Gi 0 G G (At G) G fun MJ PW=>BZ 0 (us:=(H9 ((l.getD (((Cz (fun x:BL=>x.Ap) Go.Apw.AGl t l):Int)).toNat default)))) G G G (At G) G G<|U 1 G<|Ac<|rt<|D8 () [_] (Fp 0 G G G G (At G)) AJy G Aa
theorem dM(Bk:Value)(l:List BL)(hlen:l.length<=100000):Aw AG 32 [Bk] [] [⟨Bk,l⟩] (fun(_:Unit) _=>True) (fun _ v=>[@row BL W8 94 v l]) (fun _ _=>[]):=by
 refine Aw.proof Tryz.func32 G 8 G G fun X w=>AF 1 G<|Am<|Ae<|An G G<|RT 0 ACa G G G G fun PM J'=>Ac<|BN G (fun BB=>?_) (fun BB=>?_)
 ·
  have Ab:l=[]:=J' BB;subst Ab;exact Lk BL 94<|AF 1 G<|BA<|Bq () G G trivial G Aa
 · exact AZ<|Ae<|NB QN G fun E'=>Nm (α:=BL) [] [] G G (fun _ _ _=>trivial) G<|An G G<|ap 0 0 G G G G QN (by simp only[ABo];omega) (by simp only[ABo];omega) G fun EZ=>U 1 G<|Ac<|rt<|Bq () G G trivial G Aa
theorem gK(m:BL)(UX:m.wf)(hlen:l.length<=99999):Aw AG 148 [CP,.agg (H9 m).toArray] [] [⟨CP,l⟩] (fun(_:Unit) _=>True) (fun _ _=>[]) (fun _ v=>[⟨v,LP l m⟩]):=by
 refine Aw.proof Tryz.func148 G 28 G G fun X w=>Ae<|CV G G G fun DQ=>U 1 G<|Ac<|Ae<|An G G<|Dm (dM _ _ AJv) (Ar G) G (Ad 0 G Aa) G fun _ Nr _=>U 1 G<|Ac<|Ae<|AX 3 [1] G G<|P6 [⟨Nr,l⟩] (lV Nr l m.Ap AJv) (Ar G) G (DU.row 0 G DU.nil) (Ad 0 G Aa) G<|U 5 G<|Ac<|Am<|Ae<|An G G<|Ac<|BN G (fun DA=>?_) (fun DA=>?_)
 ·
  have C_:(Cz (fun x:BL=>x.Ap) Go.Apw.AGl m.Ap l)<l.length:=YD (by rw[DA];decide);have Ab:LP l m=l.set (Cz (fun x:BL=>x.Ap) Go.Apw.AGl m.Ap l) m:=(by rw[LP,FQ,AA_ DA]);exact Ae<|U 2 G<|BJ 1 (H9 m) G G (At G) G G<|IF 0 ((Cz (fun x:BL=>x.Ap) Go.Apw.AGl m.Ap l)) G G G J1 AJv AJv G<|Qz (s:=cy) 0 ((Cz (fun x:BL=>x.Ap) Go.Apw.AGl m.Ap l)) (ov:=m) () G G G AJv (At G) Aa UX<|Ac<|Am<|RY<|FA 2 G<|A5<|BA<|AQ<|Bq () G G trivial G (by rw[Ab];exact(Bg.cons 0 rfl Bg.nil))
 ·
  have Ab:LP l m=FO (Cz (fun x:BL=>x.Ap) Go.Apw.AGl m.Ap l) m l:=(by rw[LP,FQ,AA9 (by rw[DA];decide)]);exact AZ<|Ae<|U 2 G<|BJ 1 (H9 m) G G (At G) G G<|Lw G QN G G G G fun dB=>D9 1 G<|Hs 2 (qq Nr l (Cz (fun x:BL=>x.Ap) Go.Apw.AGl m.Ap l) dB m (St _ _) UX AJv) (Ar G) G G Aa G fun _ N4 _=>U 1 G<|Ac<|rt<|K5<|AQ<|Bq () G G trivial G (by rw[Ab];exact(Bg.cons 0 rfl Bg.nil))
theorem xv(Z:List BL×Bool×Int)(AW:IS l c q=Z)(BK:A' c)(Ed:A' q):Aw AG 74 [CP,.int .i64 c,.int .i64 q] [] [⟨CP,l⟩] (fun(y:Value) u=>u=.tuple #[y,.bool Z.2.1,.int .i64 Z.2.2]) (fun _ _=>[]) (fun y _=>[⟨y,Z.1⟩]):=by
 refine Aw.proof Tryz.func74 G 57 G G fun X w=>?_;obtain⟨K9,K_⟩:=id BK;obtain⟨LD,LF⟩:=id Ed;refine DJ (α:=BL) ?_;refine AF 3 G<|Am<|Ae<|An G G<|B0 (Xd _ _) (Ar G) G (Ad 1 G Aa) G<|U 1 G<|Ac<|Fa G (fun Dp=>?_) (fun Dp=>?_)
 ·
  have HJ:Fg l=false:=(by first|exact Dp|exact BS.1 Dp|exact(fun q=>BS.2 q Dp)|exact(fun q=>ABd (Dp.symm.trans q))|simpa using Dp)
  have AB:(([],false,21):List BL×Bool×Int)=Z:=(by rw[<-AW,IS,AA_ HJ]);subst AB;exact AF 3 G<|BA<|IB AI G G G G G G (Ad 0 G Aa)
 ·
  have HJ:¬(Fg l=false):=(by first|exact Dp|exact BS.1 Dp|exact(fun q=>BS.2 q Dp)|exact(fun q=>ABd (Dp.symm.trans q))|simpa using Dp)
  have OY:Fg l=true:=(by simpa using HJ);refine AZ<|Am<|Ae<|U 3 G<|ET 16 3 [] [0,1,2] G G G<|An G G<|ET 20 3 [] [0,1,2] G G G<|An G G<|ET 24 3 [] [0,1,2] G G G<|Ac<|BN G (fun G4=>?_) (fun G4=>?_)
  ·
   have NX:(decide (c<1)||decide (c>8)||decide (q<1)||decide (q>EW))=true:=(by first|exact G4|exact BS.1 G4|exact(fun q=>BS.2 q G4)|exact(fun q=>ABd (G4.symm.trans q))|simpa using G4)
   have AB:(([],false,1):List BL×Bool×Int)=Z:=(by rw[<-AW,IS,AA9 HJ,AA_ NX]);subst AB;exact AF 3 G<|BA<|IB AI G G G G G G (Ad 0 G Aa)
  ·
   have NX:¬((decide (c<1)||decide (c>8)||decide (q<1)||decide (q>EW))=true):=(by first|exact G4|exact BS.1 G4|exact(fun q=>BS.2 q G4)|exact(fun q=>ABd (G4.symm.trans q))|simpa using G4)
   refine AZ<|Ae<|U 2 G<|B0 (ej _ _ c (FU l c) G) (Ar G) G (Ad 1 G Aa) G<|U 3 G<|CT SN G fun H7=>BZ 0 (us:=(H9 ((FU l c).1))) G G G (At G) G G<|U 1 G<|Ac<|Am<|B5<|Ae<|U 2 G<|Fu 36 5 [0] [0,1,2,9,10] G G G<|U 1 G<|Ac<|BN G (fun FN=>?_) (fun FN=>?_)
   ·
    have Qu:((FU l c).2&&decide ((FU l c).1.As>q))=true:=(by first|exact FN|exact BS.1 FN|exact(fun q=>BS.2 q FN)|exact(fun q=>ABd (FN.symm.trans q))|simpa using FN)
    have AB:(([],false,80):List BL×Bool×Int)=Z:=(by rw[<-AW,IS,AA9 HJ,AA9 NX,AA_ Qu]);subst AB;exact AF 3 G<|rt<|C9<|Cd<|AQ<|IB AI G G G G G G (Ad 0 G Aa)
   ·
    have Qu:¬(((FU l c).2&&decide ((FU l c).1.As>q))=true):=(by first|exact FN|exact BS.1 FN|exact(fun q=>BS.2 q FN)|exact(fun q=>ABd (FN.symm.trans q))|simpa using FN)
    refine Ae<|U 2 G<|Fu 44 5 [0] [0,1,2] G G G<|U 1 G<|Ac<|BN G (fun Q9=>?_) (fun Q9=>?_)
    ·
     have kY:((FU l c).2&&decide ((FU l c).1.As=q))=true:=(by first|exact Q9|exact BS.1 Q9|exact(fun q=>BS.2 q Q9)|exact(fun q=>ABd (Q9.symm.trans q))|simpa using Q9)
     have AB:((l,false,0):List BL×Bool×Int)=Z:=(by rw[<-AW,IS,AA9 HJ,AA9 NX,AA9 Qu,AA_ kY]);subst AB;exact Ae<|An G G<|Dm (n0 _ _ (ABB (TE OY) AJx)) (Ar G) G (Ad 1 G Aa) G fun _ Xn _=>U 3 G<|Ac<|rt<|C9<|Cd<|AQ<|IB Xn G G G G G G (Ad 0 G Aa)
    ·
     have kY:¬(((FU l c).2&&decide ((FU l c).1.As=q))=true):=(by first|exact Q9|exact BS.1 Q9|exact(fun q=>BS.2 q Q9)|exact(fun q=>ABd (Q9.symm.trans q))|simpa using Q9)
     have AB:((LP l {Ap:=c,As:=q,HV:=true,Cm:=⟨0,0,0,0⟩},true,0):List BL×Bool×Int)=Z:=(by rw[<-AW,IS,AA9 HJ,AA9 NX,AA9 Qu,AA9 kY]);subst AB;exact EG<|CU<|A5<|Ae<|U 3 G<|Db (ps:=[(0,.tmp 53),(1,.tmp 54),(2,.const (.bool true))]) (cs:=(H9 ((⟨c,q,true,(⟨0,0,0,0⟩:De)⟩:BL)))) AJy AJw G<|Dm (gK _ _ {Ap:=c,As:=q,HV:=true,Cm:=⟨0,0,0,0⟩} ⟨BK,Ed,trivial,AlP⟩ (ABB (TE OY) AJx)) (Ar G) G (Ad 1 G Aa) G fun _ AkJ _=>U 3 G<|Ac<|rt<|AQ<|IB AkJ G G G G G G (Ad 0 G Aa)
theorem kB:Cv AG 163 [CP,.int .i64 c,.int .i64 q] [⟨CP,l⟩] (.int .i64 (KQ l c q)):=by
 refine Aw.proof Tryz.func163 G 31 G G fun X w=>AF 1 G<|Am<|Ae<|An G G<|B0 (Xd _ _) (Ar G) G (Ad 0 G Aa) G<|U 1 G<|Ac<|Fa G (fun Ct=>?_) (fun Ct=>?_)
 ·
  have Qr:=BS.1 Ct;exact AF 1 G<|BA<|Bq () G G (by rw[KQ,AA_ Qr]) G Aa
 ·
  have Qr:¬Fg l=false:=fun q=>BS.2 q Ct;refine AZ<|Ae<|U 2 G<|B0 (ej _ _ c (FU l c) G) (Ar G) G (Ad 0 G Aa) G<|U 3 G<|CT SN G fun Jo=>BZ 0 (us:=(H9 ((FU l c).1))) G G G (At G) G G<|U 1 G<|Ac<|Am<|Ae<|U 3 G<|ET 20 5 [0] [7] G G G<|An G G<|ET 26 4 [0] [] G G G<|Ac<|BN G (fun OS=>?_) (fun OS=>?_)
  · exact AF 1 G<|BA<|AQ<|Bq () G G (by rw[KQ,AA9 Qr,AA_ OS]) G Aa
  · exact AZ<|AF 1 G<|rt<|AQ<|Bq () G G (by rw[KQ,AA9 Qr,AA9 (by rw[OS];decide)]) G Aa
theorem yX(a:De)(Z:List BL×Int)(AW:Oe l c q a=Z)(BK:A' c)(Ed:A' q)(C6:a.wf):Aw AG 154 [CP,.int .i64 c,.int .i64 q,.agg (GM a).toArray] [] [⟨CP,l⟩] (fun(y:Value) u=>u=.tuple #[y,.int .i64 Z.2]) (fun _ _=>[]) (fun y _=>[⟨y,Z.1⟩]):=by
 refine Aw.proof Tryz.func154 G 24 G G fun X w=>?_;obtain⟨K9,K_⟩:=id BK;obtain⟨LD,LF⟩:=id Ed;refine DJ (α:=BL) ?_;refine Ae<|CV G G G fun Jo=>U 2 G<|Ac<|Am<|Ae<|U 3 G<|B0 (kB _ _ c q) (Ar G) G (Ad 1 G Aa) G<|U 1 G<|Ac<|AF 2 G<|Fa G (fun CR=>?_) (fun CR=>?_)
 ·
  have Ii:¬KQ l c q=0:=(by first|exact CR|exact BS.1 CR|exact(fun q=>BS.2 q CR)|exact(fun q=>ABd (CR.symm.trans q))|simpa using CR)
  have AB:(([],KQ l c q):List BL×Int)=Z:=(by rw[<-AW,Oe,AA_ Ii]);subst AB;exact AF 3 G<|BA<|AQ<|Fl AI G G G G G (Ad 0 G Aa)
 ·
  have Ii:¬(¬KQ l c q=0):=(by first|exact CR|exact BS.1 CR|exact(fun q=>BS.2 q CR)|exact(fun q=>ABd (CR.symm.trans q))|simpa using CR)
  have AB:((LP l {Ap:=c,As:=q,HV:=false,Cm:=a},0):List BL×Int)=Z:=(by rw[<-AW,Oe,AA9 Ii]);subst AB;have OY:Fg l=true:=kC (by simpa using Ii);exact AZ<|Ae<|U 3 G<|BJ 0 (GM a) G G (At G) G G<|Db (ps:=[(0,.tmp 19),(1,.tmp 20),(3,.tmp 21)]) (cs:=(H9 ((⟨c,q,false,a⟩:BL)))) AJy AJw G<|Dm (gK _ _ {Ap:=c,As:=q,HV:=false,Cm:=a} ⟨BK,Ed,trivial,C6⟩ (ABB (TE OY) AJx)) (Ar G) G (Ad 1 G Aa) G fun _ Pe _=>U 2 G<|Ac<|rt<|AQ<|Fl Pe G G G G G (Ad 0 G Aa)
theorem Ad0(Z:List BL×Int)(AW:G' l c q=Z)(BK:A' c)(Ed:A' q)(Tu:A' (q-1)):Aw AG 95 [CP,.int .i64 c,.int .i64 q] [] [⟨CP,l⟩] (fun(y:Value) u=>u=.tuple #[y,.int .i64 Z.2]) (fun _ _=>[]) (fun y _=>[⟨y,Z.1⟩]):=by
 refine Aw.proof Tryz.func95 G 23 G G fun X w=>?_;obtain⟨K9,K_⟩:=id BK;obtain⟨LD,LF⟩:=id Ed;refine DJ (α:=BL) ?_;refine AF 2 G<|Am<|Ae<|U 3 G<|B0 (kB _ _ c q) (Ar G) G (Ad 1 G Aa) G<|U 1 G<|Ac<|AF 2 G<|Fa G (fun Fm=>?_) (fun Fm=>?_)
 ·
  have MI:¬KQ l c q=0:=(by first|exact Fm|exact BS.1 Fm|exact(fun q=>BS.2 q Fm)|exact(fun q=>ABd (Fm.symm.trans q))|simpa using Fm)
  have AB:(([],KQ l c q):List BL×Int)=Z:=(by rw[<-AW,G',AA_ MI]);subst AB;exact AF 3 G<|BA<|Fl AI G G G G G (Ad 0 G Aa)
 ·
  have MI:¬(¬KQ l c q=0):=(by first|exact Fm|exact BS.1 Fm|exact(fun q=>BS.2 q Fm)|exact(fun q=>ABd (Fm.symm.trans q))|simpa using Fm)
  have AB:((LP l {Ap:=c,As:=q-1,HV:=false,Cm:=⟨80,0,0,0⟩},0):List BL×Int)=Z:=(by rw[<-AW,G',AA9 MI]);subst AB;have OY:Fg l=true:=kC (by simpa using MI);exact AZ<|Ae<|U 3 G<|TU G G Tu G<|Db (ps:=[(0,.const (.int .i64 80))]) (cs:=(GM ((⟨80,0,0,0⟩:De)))) AJy AJw G<|Db (ps:=[(0,.tmp 17),(1,.tmp 19),(3,.tmp 20)]) (cs:=(H9 ((⟨c,(q-1),false,(⟨80,0,0,0⟩:De)⟩:BL)))) AJy AJw G<|Dm (gK _ _ {Ap:=c,As:=q-1,HV:=false,Cm:=⟨80,0,0,0⟩} ⟨BK,Tu,trivial,oy⟩ (ABB (TE OY) AJx)) (Ar G) G (Ad 1 G Aa) G fun _ RB _=>U 2 G<|Ac<|rt<|Fl RB G G G G G (Ad 0 G Aa)
theorem Ac4(PU:Value)(b:List BL)(Z:List BL×Int)(AW:M_ l b=Z):Aw AG 99 [CP,PU] [] [⟨CP,l⟩,⟨PU,b⟩] (fun(y:Value) u=>u=.tuple #[y,.int .i64 Z.2]) (fun _ _=>[]) (fun y _=>[⟨y,Z.1⟩]):=by
 refine Aw.proof Tryz.func99 G 64 G G fun X w=>DJ (α:=BL) ?_;refine AF 2 G<|Am<|Ae<|An G G<|B0 (Xd _ _) (Ar G) G (Ad 1 G Aa) G<|U 2 G ?_;refine DE 14 4 [0,1] G G (fun Fm N'=>by
  have Af1:=Fm;simp only[ABI,ABa]at Af1;exact U 1 G<|Bl G G G<|B0 (Xd _ _) (Ar G) G (Ad 2 G Aa) G<|U 2 G<|N' G Br) ?_
 refine Ac<|BN G (fun ER=>?_) (fun ER=>?_)
 ·
  have Nj:(Fg l&&Fg b)=false:=(by first|exact qB ER|exact ER|exact BS.1 ER|exact(fun q=>BS.2 q ER)|exact(fun q=>ABd (ER.symm.trans q))|simpa using ER)
  have AB:(([],21):List BL×Int)=Z:=(by rw[<-AW,M_,AA_ Nj]);subst AB;exact AF 2 G<|BA<|Fl AI G G G G G (Ad 0 G Aa)
 ·
  have Nj:¬((Fg l&&Fg b)=false):=(by first|exact qC ER|exact ER|exact BS.1 ER|exact(fun q=>BS.2 q ER)|exact(fun q=>ABd (ER.symm.trans q))|simpa using ER)
  have OY:Fg l=true/\Fg b=true:=(by simpa using Nj);have AbS:=TE OY.1;have Abv:=TE OY.2;refine AZ<|Ae<|An G G<|Dm (n0 _ _ AJv) (Ar G) G (Ad 1 G Aa) G fun _ v20 _=>U 1 G<|Ac<|Am<|Ae<|An G G<|C2 3 G G ACa G fun AnQ=>An G G<|Ac<|B5<|Hx (σ:=Nat×Value) [(21,_),(22,_)] _ (fun s C=>(23,.int .i64 (s.1:Int))::(6,s.2)::C) (fun s=>[CL X w]) (fun s Dw=>(⟨s.2,(b.take s.1).foldl Ld l⟩:Atom)::Dw) (fun s=>s.1<=b.length) (fun s=>b.length-s.1) (0,v20) (Bs G) (Ad 2 G (Ad 3 G (Ad 1 G Aa))) (ABg _) (Bs G) G (Ad 0 G (Ad 2 G (Ad 3 G (Ad 1 G Aa)))) ?_;rintro⟨i,ov⟩ Ag;simp only at Ag;refine AF 1 G<|Am<|B9 G (fun F3=>?_) (fun F3=>?_)
  ·
   refine AZ<|Am<|B5<|Ae<|Fo 2 G G G J1 G fun T7=>Gi 0 G G (At G) G fun Rq mv=>CT SN G fun K0=>BZ 0 (us:=(H9 ((b.getD i default)))) G G G (At G) G G<|Ac<|Ae<|AX 3 [0] G G<|B0 (ej _ _ (b.getD i default).Ap (FU ((b.take i).foldl Ld l) (b.getD i default).Ap) G) (Ar G) G (Ad 2 G Aa) G<|U 3 G<|CT SN G fun H7=>BZ 0 (us:=(H9 ((FU ((b.take i).foldl Ld l) (b.getD i default).Ap).1))) G G G (At G) G G<|U 1 G<|Ac<|Ae<|U 3 G<|ET 36 6 [1,0] [6,8,9,21,22,23] G G G<|An G G ?_;refine DE 43 15 [6,8,21,22,23] G G (fun KL VH=>by
    exact AX 6 [1,0] G G<|Fu 49 3 [0] [6,8,21,22,23,43] G G G<|U 1 G<|Fu 53 4 [1] [6,8,21,22,23,43] G G G<|U 1 G<|VH G Br) ?_
   refine Ac<|BN G (fun R4=>?_) (fun R4=>?_)
   ·
    refine rg<|An G G<|BJ 1 (H9 ((b.getD i default))) G G (At G) G G<|Dm (gK _ _ (b.getD i default) mv (ABB (jT b i l) AJv)) (Ar G) G (Ad 2 G Aa) G fun _ ui _=>U 1 G<|nl<|CU<|A5<|rg<|C5 G G BV G<|An G G<|nl<|AQ<|AQ ?_;have a2:(b.take (i+1)).foldl Ld l=LP ((b.take i).foldl Ld l) (b.getD i default):=(by rw[NH AJv,Ld,AA_ R4]);exact Dy ((i+1,ui):Nat×Value) (by show i+1<=_;omega) (by show b.length-(i+1)<b.length-i;omega) (Bs G) G (by show Bg ((⟨ui,(b.take (i+1)).foldl Ld l⟩:Atom)::_) _;rw[a2];exact(Bg.cons 0 rfl (Bg.cons 4 rfl (Bg.cons 5 rfl (Bg.cons 6 rfl Bg.nil)))))
   ·
    refine EG<|CU<|A5<|rg<|C5 G G BV G<|An G G<|nl<|AQ<|AQ ?_;have a2:(b.take (i+1)).foldl Ld l=((b.take i).foldl Ld l):=(by rw[NH AJv,Ld,AA9 (by rw[R4];decide)]);exact Dy ((i+1,ov):Nat×Value) (by show i+1<=_;omega) (by show b.length-(i+1)<b.length-i;omega) (Bs G) G (by show Bg ((⟨ov,(b.take (i+1)).foldl Ld l⟩:Atom)::_) _;rw[a2];exact(Bg.cons 2 rfl (Bg.cons 3 rfl (Bg.cons 4 rfl (Bg.cons 5 rfl Bg.nil)))))
  ·
   obtain rfl:i=b.length:=AJv;rw[ACB];have AB:((b.foldl Ld l,0):List BL×Int)=Z:=(by rw[<-AW,M_,AA9 Nj]);subst AB;exact ex<|Ck<|Ck<|D7<|A5<|AF 3 G<|rt<|Fl ov G G G G G (Ad 0 G Aa)
end Go.Apw
