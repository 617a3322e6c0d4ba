/- Part 26 of shardWhole_holds. -/
import Derived.Test.YtklmcfecakaanaaGreatSq25

set_option maxRecDepth 20000
set_option maxHeartbeats 1000000
open Go.Proofs.Tryz renaming underlying35→ACE,underlying47→ARW
open List renaming getElem?_append_left→ADP,length_map→ADi,take_succ_eq_append_getElem→ASh
open Go.A_ Go.Proofs.YtklmcfecakaanaaGreat Go.Proofs
namespace Go.Apw
theorem AG'.more{S F:Bv}{q:Int}{o:Bool}{n m:Nat}(h:AG' S F q o n)(Ao:n<=m):AG' S F q o m:=⟨h.Bh,h.Ag,h.BI,h.AIK,h.AJB,h.ON,⟨h.ix.1,by have:=h.ix.2;omega⟩,h.AJx,⟨h.AHs.1,by have:=h.AHs.2;omega⟩,h.op,h.rd,h.AKC⟩
theorem AGv.more{p:AGl}{n m:Nat}(h:AGv p n)(Ao:n<=m):AGv p m:=⟨⟨h.a.AGo.more Ao,h.a.g,h.a.BQ,h.a.Ag,h.a.ks,h.a.GV⟩,⟨h.b.AGo.more Ao,h.b.g,h.b.BQ,h.b.Ag,h.b.ks,h.b.GV⟩,h.CT⟩
def Good(p r:AGl)(n:Nat):Prop:=AGv r (n+1)/\tZ r.a r.b=tZ p.a p.b
theorem AJz{S F:Bv}{q:Int}{o:Bool}{n:Nat}{x:Dg}(h:AG' S F q o n)(k:AGp F S)(Ab:AHe S F x)(Ao:(n:Int)+1<=EW)(A7:o=true):AHC q ((BW S).cmd x):=by
 have Qj:=AIL h.BI k;obtain⟨d,d1,d2,d3⟩:=h.op A7;exact(AIP (t:=x.As) (fun _=>ADn _) Ab (h.AJa Ao) Qj.Af Qj.h2).op q (.inl ⟨d,d1,d2,d3⟩)
theorem AIF{p:AGl}{n:Nat}{x:Dg}(h:AGv p n)(Ab:AHe p.a p.b x)(Ao:(n:Int)+1<=EW)(Tu:x.Ca=1->x.As<=p.q1)(BI:AHJ p.a p.b x\/AGN p.a p.b p.q1 x):Good p (p.AGw 0 x) n:=by
 obtain⟨a,b,_⟩:=AJW (q:=p.q1) (o:=p.o1) h Ab Ao (ADn _) Tu (by have:=h.a.AGo.AHs.2;omega) (fun z=>AJz h.a.AGo h.b.AGo.BI Ab Ao z) BI;exact⟨a,b⟩
theorem AIH{p:AGl}{n:Nat}{x:Dg}(h:AGv p n)(Ab:AHe p.b p.a x)(Ao:(n:Int)+1<=EW)(Tu:x.Ca=1->x.As<=p.q2)(BI:AHJ p.b p.a x\/AGN p.b p.a p.q2 x):Good p (p.AGw 1 x) n:=by
 obtain⟨a,b,_⟩:=AJX (q:=p.q2) (o:=p.o2) h Ab Ao (ADn _) Tu (by have:=h.b.AGo.AHs.2;omega) (fun z=>AJz h.b.AGo h.a.AGo.BI Ab Ao z) BI;exact⟨a,b⟩
theorem AI3(s i:Int):(AGC s i).size=1:=rfl
theorem AL0(s i:Int):Ix (AGC s i)=true:=rfl
theorem AOl(s i j:Int)(hs:s=0\/s=1):¬AGC (1-s) j=AGC s i:=by
 intro e;have e:(AGC (1-s) j).data[0]! =(AGC s i).data[0]! :=by rw[e]
 rcases hs with rfl|rfl
 · revert e;show ¬(if(1:Int)-0=0 then(if j=0 then(97:UInt8)else if j=1 then 98 else 99)else(if j=0 then(109:UInt8)else if j=1 then 110 else 111))=(if(0:Int)=0 then(if i=0 then 97 else if i=1 then 98 else 99)else(if i=0 then 109 else if i=1 then 110 else 111));rw[AA9 ARp,AA_ rfl];repeat' split
   all_goals decide
 revert e;show ¬(if(1:Int)-1=0 then(if j=0 then(97:UInt8)else if j=1 then 98 else 99)else(if j=0 then(109:UInt8)else if j=1 then 110 else 111))=(if(1:Int)=0 then(if i=0 then 97 else if i=1 then 98 else 99)else(if i=0 then 109 else if i=1 then 110 else 111));rw[AA_ (show(1:Int)-1=0 by decide),AA9 (show ¬(1:Int)=0 by decide)];repeat' split
 all_goals decide
section
variable{S F:Bv} {s q q2:Int} {o o2:Bool} {n:Nat}
theorem AOK{p:AGl}{m:AGA}(h:One S F s q o n)(hs:s=0\/s=1)(he:(p.st s).Dn=1)(B':p.Am s=q)(Ao:(n:Int)+1<=EW)(hm:A' m.B2):(p.AG9 s m).wf:=by
 have z:A' 0:=DW;have Anp:EW=4611686018427387904:=rfl;have Af:=h.AGo.AHs;refine⟨⟨by show _<=(1:Int);decide,by show(1:Int)<=_;decide⟩,⟨by show _<=1+s;omega,by show 1+s<=_;omega⟩,⟨by show _<=p.Am s+1;omega,by show p.Am s+1<=_;omega⟩,⟨by show _<=(p.st s).Dn;omega,by show(p.st s).Dn<=_;omega⟩,⟨by show _<=(1:Int);decide,by show(1:Int)<=_;decide⟩,z,by show ByteArray.empty.size<=_;decide,z,z,z,trivial,⟨⟨by show _<=(6:Int);decide,by show(6:Int)<=_;decide⟩,by show(AGC _ _).size<=_;rw[AI3];decide,by show(AGC _ _).size<=_;rw[AI3];decide,hm,z,z⟩,⟨z,z,z,by show ByteArray.empty.size<=_;decide,by show ByteArray.empty.size<=_;decide,z,z⟩,trivial⟩
theorem AID(x:Int):0<=KP x 3/\KP x 3<3:=j_ x ARp
theorem AKz{p:AGl}{m:AGA}(h:One S F s q o n)(k:One F S (1-s) q2 o2 n)(hs:s=0\/s=1)(he:(p.st s).Dn=1)(B':p.Am s=q)(Ao:(n:Int)+1<=EW)(hm:A' m.B2):AHe S F (p.AG9 s m):=by
 obtain⟨DP,EK⟩:=AID m.Hi;obtain⟨CY,Dh⟩:=AID m.IX;have HW:1-s=0\/1-s=1:=AMT;refine⟨AOK h hs he B' Ao hm,fun _=>⟨?_,rfl,?_,?_,?_⟩,fun e=>absurd (show(1:Int)=4 from e) ARp,fun e=>absurd (show(1:Int)=5 from e) ARp,fun e=>absurd (show(1:Int)=6 from e) ARp,fun e=>absurd (show(1:Int)=7 from e) ARp,.inl rfl⟩
 · show 1+s=_;rw[h.g];omega
 · show _∈_;rw[h.ks];exact AJv s _ hs DP EK
 · exact(AKA h hs).2 _ (AJv (1-s) _ HW CY Dh)
 show _∈_;rw[k.ks];exact AJv (1-s) _ HW CY Dh
theorem AIZ{x:Dg}(h:x.Ca=1\/x.Ca=3\/x.Ca=4):AHJ S F x:=⟨fun e=>AMT,fun e=>AMT,fun e=>AMT⟩
theorem AMb{p:AGl}{m:AGA}(h:One S F s q o n)(k:One F S (1-s) q2 o2 n)(hs:s=0\/s=1)(he:(p.st s).Dn=1)(B':p.Am s=q)(Ao:(n:Int)+1<=EW)(hm:A' m.B2)(Af:1<=m.B2):AHC (q+1) ((BW S).cmd (p.AG9 s m)):=by
 have Anp:EW=4611686018427387904:=rfl;have AI2:=h.AGo.AHs;have Qj:=AIL h.AGo.BI k.AGo.BI;have hw:=h.AGo.AJa Ao;obtain⟨a,b,c,d,e⟩:=(AKz (p:=p) (m:=m) h k hs he B' Ao hm).A1 rfl;rw[(ARq (w:=BW S) (c:=p.AG9 s m)).1 rfl,<-B'];have A7:=AKA h hs;refine(AMc (t:=(p.AG9 s m).As) hw Qj.Af Qj.h2 a b (AKh c) d e (ADn _) hm.2).2 ?_ (A7.1 _ (AJv s _ hs (AID _).1 (AID _).2)) (Akv _ h.AGo.AIK) (he.trans h.AGo.ON.symm) fun y Bf AJR=>?_
 · have Ua:Jj (1+s) (p.Am s+1)=true:=by
    simp only[Jj,ABb,ABa];omega
   have A1:¬AGC (1-s) (KP m.IX 3)=AGC s (KP m.Hi 3):=AOl s _ _ hs;show NA (p.AG9 s m) 3=true;unfold NA;rw[AA9 (by
    show ¬((!Jj (1+s) (p.Am s+1))||decide ((1:Int)<1)||decide ((1:Int)>3)||decide ((6:Int)<1)||decide ((6:Int)>6)|| !Ix (AGC s (KP m.Hi 3)))=true;rw[Ua,AL0];decide),AA9 (by show ¬(decide ((6:Int)=1)||decide ((6:Int)=2))=true;decide),AA_ (show(p.AG9 s m).AM.Ca=6 from rfl)]
   show(decide (m.B2>=1)&&Ix (AGC (1-s) (KP m.IX 3))&& !decide (AGC (1-s) (KP m.IX 3)=AGC s (KP m.Hi 3)))=true;rw[AL0,ABM A1,ABG (show m.B2>=1 from Af)];rfl
 have:=h.AGo.AJx y Bf (by rw[AJR];exact a);show _<p.Am s+1;omega
theorem AIS{d:Bx}(h:One S F s q o n)(AJ:d∈S.Bj):d.Ap=s+1/\Jj d.Ap d.As=true/\1<=d.B2/\d.C3=d.C3:=by
 have hm:=(UB.1 h.AGo.ws.VZ).2.1 d AJ;obtain⟨Kq,_,_⟩:=dV.1 hm;simp only[V2,ABD,ABl,ABI]at Kq;exact⟨(h.AGo.BI.hH d AJ).trans h.g,Kq.1.1.1.1.1.1,AMT,rfl⟩
theorem AI7{x:Dg}{d:Bx}(hw:Jj d.Ap d.As=true)(Af:x.Ap=d.Ap/\x.As=d.As)(AE:A' x.Ca)(he:A' x.Dn)(hh:A' x.DH)(Ao:A' x.It)(hs:x.Al.size<=16)(Bh:x.Bn=0/\x.G0=0/\x.Cn=0/\x.AM=mV/\x.Dj=FP):x.wf:=by
 have z:A' 0:=DW;have Anp:EW=4611686018427387904:=rfl;obtain⟨a,b⟩:=Af;obtain⟨NY,MK,Aww,Awx,AzE⟩:=Bh;simp only[Jj,ABb,ABa]at hw;refine⟨AE,⟨AMT,AMT⟩,⟨AMT,AMT⟩,he,by rw[NY];exact z,hh,AMT,by rw[MK];exact z,by rw[Aww];exact z,Ao,trivial,by rw[Awx];exact⟨z,ARp,ARp,z,z,z⟩,by rw[AzE];exact⟨z,z,z,ARp,ARp,z,z⟩,trivial⟩
theorem AIw{x:Int}(h:x=0\/x=1\/x=2\/x=3\/x=4\/x=5\/x=6\/x=7):A' x:=by
 rcases h with rfl|rfl|rfl|rfl|rfl|rfl|rfl|rfl<;>exact⟨ARp,ARp⟩
theorem other_key{d:Bx}(h:One S F s q o n)(k:One F S (1-s) q2 o2 n)(AJ:d∈S.Bj):d.EL∈AHb (1-s)/\(∃a∈F.Aj,a.Al=d.EL)/\d.EL.size<=16:=by
 have Af:=h.AGo.BI.AGR d AJ;refine⟨k.ks▸Af,AB6.1 Af,?_⟩;have hm:=(UB.1 h.AGo.ws.VZ).2.1 d AJ;obtain⟨_,YQ,_⟩:=dV.1 hm;simp only[ae,ABD,ABl]at YQ;omega
theorem AMg{p:AGl}{d:Bx}(h:One S F s q o n)(k:One F S (1-s) q2 o2 n)(hs:s=0\/s=1)(he:(p.st (1-s)).Dn=1)(AJ:d∈S.Bj)(Fx:d.B2<=9223372036854775807):AHe F S (p.Li s d):=by
 obtain⟨d1,d2,d3,_⟩:=AIS h AJ;obtain⟨o1,o2,IJ⟩:=other_key h k AJ;refine⟨AI7 d2 ⟨rfl,rfl⟩ (AIw (x:=4) AMT) (by show A' (p.st (1-s)).Dn;rw[he];exact⟨ARp,ARp⟩) (AIw (x:=s+1) AMT) ⟨by show _<=d.B2;omega,Fx⟩ IJ ⟨rfl,rfl,rfl,rfl,rfl⟩,fun e=>absurd (show(4:Int)=1 from e) ARp,fun _=>⟨h.AGo.BI.hH d AJ,h.g.symm,?_,.inl ⟨d,AJ,rfl,rfl,rfl⟩⟩,fun e=>absurd (show(4:Int)=5 from e) ARp,fun e=>absurd (show(4:Int)=6 from e) ARp,fun e=>absurd (show(4:Int)=7 from e) ARp,.inr (.inr (.inl rfl))⟩;exact h.AGo.BI.AGR d AJ
theorem AMI{p:AGl}{d:Bx}(h:One S F s q o n)(k:One F S (1-s) q2 o2 n)(JU:p.st (1-s)=F)(AJ:d∈S.Bj):AHe S F (AGl.AIu d (p.AHh s d))/\AHJ S F (AGl.AIu d (p.AHh s d)):=by
 obtain⟨d1,d2,d3,_⟩:=AIS h AJ;refine⟨⟨AI7 d2 ⟨rfl,rfl⟩ (AIw (x:=5) AMT) DW DW DW (by show ByteArray.empty.size<=16;decide) ⟨rfl,rfl,rfl,rfl,rfl⟩,fun e=>absurd (show(5:Int)=1 from e) ARp,fun e=>absurd (show(5:Int)=4 from e) ARp,fun _ x Ab i _ _ y=>?_,fun e=>absurd (show(5:Int)=6 from e) ARp,fun e=>absurd (show(5:Int)=7 from e) ARp,.inr (.inr (.inr (.inl rfl)))⟩,⟨fun _=>⟨h.AGo.BI.hH d AJ,d,AJ,rfl,rfl⟩,fun e=>absurd (show(5:Int)=6 from e) ARp,fun e=>absurd (show(5:Int)=7 from e) ARp⟩⟩;obtain rfl:x=d:=AG4 h.AGo.BI.AGs Ab AJ i;have y:p.AHh s x=true:=y;unfold AGl.AHh at y;rw[JU,ABb,ABa,ABa]at y;obtain⟨_,f2,f3⟩:=AIW (other_key h k AJ).2.1;exact⟨_,f2,f3,y.1,y.2⟩
theorem AJ0{d:Bx}(h:One S F s q o n)(k:One F S (1-s) q2 o2 n)(hs:s=0\/s=1)(AJ:d∈S.Bj)(BI:¬d.C3=0):AHe F S (AGl.AHR d)/\AHJ F S (AGl.AHR d):=by
 obtain⟨d1,d2,d3,_⟩:=AIS h AJ;obtain⟨o1,o2,IJ⟩:=other_key h k AJ;exact⟨⟨AI7 d2 ⟨rfl,rfl⟩ (AIw (x:=6) AMT) DW DW DW IJ ⟨rfl,rfl,rfl,rfl,rfl⟩,fun e=>absurd (show(6:Int)=1 from e) ARp,fun e=>absurd (show(6:Int)=4 from e) ARp,fun e=>absurd (show(6:Int)=5 from e) ARp,fun _=>⟨h.AGo.BI.hH d AJ,fun _ _ _ _=>⟨d,AJ,rfl,BI,rfl⟩⟩,fun e=>absurd (show(6:Int)=7 from e) ARp,.inr (.inr (.inr (.inr (.inl rfl))))⟩,⟨fun e=>absurd (show(6:Int)=5 from e) ARp,fun _=>⟨⟨d,AJ,rfl,rfl⟩,(AKA k AMT).1 _ o1,d2⟩,fun e=>absurd (show(6:Int)=7 from e) ARp⟩⟩
theorem ALO{p:AGl}{d:Bx}(h:One S F s q o n)(k:One F S (1-s) q2 o2 n)(JU:p.st (1-s)=F)(AJ:d∈S.Bj)(BI:¬d.C3=0)(AH:p.AHQ s d=true)(AN:p.AHh s d=false):AHe S F (AGl.AIk d)/\AHJ S F (AGl.AIk d):=by
 obtain⟨d1,d2,d3,_⟩:=AIS h AJ;unfold AGl.AHQ at AH;unfold AGl.AHh at AN;rw[JU]at AH AN;refine⟨⟨AI7 d2 ⟨rfl,rfl⟩ (AIw (x:=7) AMT) DW DW DW (by show ByteArray.empty.size<=16;decide) ⟨rfl,rfl,rfl,rfl,rfl⟩,fun e=>absurd (show(7:Int)=1 from e) ARp,fun e=>absurd (show(7:Int)=4 from e) ARp,fun e=>absurd (show(7:Int)=5 from e) ARp,fun e=>absurd (show(7:Int)=6 from e) ARp,fun _ x Ab i _=>?_,.inr (.inr (.inr (.inr (.inr rfl))))⟩,⟨fun e=>absurd (show(7:Int)=5 from e) ARp,fun e=>absurd (show(7:Int)=6 from e) ARp,fun _=>⟨h.AGo.BI.hH d AJ,d,AJ,⟨rfl,rfl⟩,BI⟩⟩⟩;obtain rfl:x=d:=AG4 h.AGo.BI.AGs Ab AJ i;refine⟨AH,fun a AK ⟨N8,OF⟩=>?_⟩;obtain⟨_,f2,f3⟩:=AIW (other_key h k AJ).2.1;have GD:¬x.Ap=0:=by rw[h.AGo.BI.hH x AJ];exact h.AGo.BI.aE
 obtain⟨_,_,e,Fb,B4,DC,_⟩:=k.AGo.BI.RX a AK (by rw[N8];exact GD) (fun z=>h.AGo.BI.ne ((h.AGo.BI.hH x AJ).symm.trans (N8.symm.trans z)));obtain rfl:e=x:=AG4 h.AGo.BI.AGs Fb AJ ⟨(h.AGo.BI.hH e Fb).trans (h.AGo.BI.hH x AJ).symm,B4.trans OF⟩;have:a=(BF F.Aj e.EL).1:=AIe k.AGo.BI AK f2 (DC.symm.trans f3.symm);rw[<-this,ABG N8,ABG OF]at AN;cases AN
theorem AJ6{d:Bx}(h:One S F s q o n)(AJ:d∈S.Bj):AHe S F (AGl.AHN d)/\AHJ S F (AGl.AHN d):=by
 obtain⟨d1,d2,d3,_⟩:=AIS h AJ;exact⟨⟨AI7 d2 ⟨rfl,rfl⟩ (AIw (x:=3) AMT) DW DW DW (by show ByteArray.empty.size<=16;decide) ⟨rfl,rfl,rfl,rfl,rfl⟩,fun e=>absurd (show(3:Int)=1 from e) ARp,fun e=>absurd (show(3:Int)=4 from e) ARp,fun e=>absurd (show(3:Int)=5 from e) ARp,fun e=>absurd (show(3:Int)=6 from e) ARp,fun e=>absurd (show(3:Int)=7 from e) ARp,.inr (.inl rfl)⟩,AIZ (.inr (.inl rfl))⟩
end
theorem AJM(p:AGl):p.st 0=p.a:=AA_ rfl
theorem AJN(p:AGl):p.st 1=p.b:=AA9 ARp
theorem Good.stay{p:AGl}{n:Nat}(h:AGv p n):Good p p n:=⟨h.more (Nat.le_succ n),rfl⟩
theorem AM0{p:AGl}{n:Nat}{s:Int}{m:AGA}(h:AGv p n)(hs:s=0\/s=1)(Ao:(n:Int)+1<=EW)(hm:A' m.B2):Good p (p.ask s m) n:=by
 unfold AGl.ask;split
 · exact .stay h
 rcases hs with rfl|rfl
 · have ok:=AKz (p:=p) (m:=m) h.a h.b (.inl rfl) (by rw[AJM];exact h.a.AGo.ON) rfl Ao hm;obtain⟨a,b,_⟩:=AJW (q:=p.q1+1) (o:=decide (1<=m.B2)) h ok Ao AMT (fun _=>ADn _) (by have:=h.a.AGo.AHs.2;omega) (fun z=>AMb h.a h.b (.inl rfl) (by rw[AJM];exact h.a.AGo.ON) rfl Ao hm (ABA z)) (.inl (AIZ (.inl rfl)));simp only[if_true];exact⟨a,b⟩
 have ok:=AKz (p:=p) (m:=m) h.b h.a (.inr rfl) (by rw[AJN];exact h.b.AGo.ON) rfl Ao hm;obtain⟨a,b,_⟩:=AJX (q:=p.q2+1) (o:=decide (1<=m.B2)) h ok Ao AMT (fun _=>ADn _) (by have:=h.b.AGo.AHs.2;omega) (fun z=>AMb h.b h.a (.inr rfl) (by rw[AJN];exact h.b.AGo.ON) rfl Ao hm (ABA z)) (.inl (AIZ (.inl rfl)));simp only[show ¬(1:Int)=0 by decide,if_false];exact⟨a,b⟩
theorem AHF{x:Dg}{q:Int}{a:Int}(h:x.Ca=a)(AK:¬a=1):x.Ca=1->x.As<=q:=fun e=>absurd (h.symm.trans e) AK
theorem ANm{p:AGl}{n:Nat}{s k:Int}{d:Bx}(h:AGv p n)(hs:s=0\/s=1)(Ao:(n:Int)+1<=EW)(AJ:d∈(p.st s).Bj):Good p (p.AHg s k d) n:=by
 unfold AGl.AHg;rcases hs with rfl|rfl
 · rw[AJM]at AJ;have CY:p.st (1-0)=p.b:=AJN p;split
   · have ok:=AMg (p:=p) h.a h.b (.inl rfl) (by rw[CY];exact h.b.AGo.ON) AJ (h.a.GV d AJ);exact AIH h ok Ao (AHF (a:=4) rfl ARp) (.inl (AIZ (.inr (.inr rfl))))
   split
   · obtain⟨a,b⟩:=AMI h.a h.b CY AJ;exact AIF h a Ao (AHF (a:=5) rfl ARp) (.inl b)
   split
   · rename_i z;obtain⟨a,b⟩:=AJ0 h.a h.b (.inl rfl) AJ z.2;exact AIH h a Ao (AHF (a:=6) rfl ARp) (.inl b)
   split
   · rename_i z;obtain⟨a,b⟩:=ALO h.a h.b CY AJ z.2.1 z.2.2.1 z.2.2.2;exact AIF h a Ao (AHF (a:=7) rfl ARp) (.inl b)
   split
   · obtain⟨a,b⟩:=AJ6 h.a AJ;exact AIF h a Ao (AHF (a:=3) rfl ARp) (.inl b)
   exact .stay h
 rw[AJN]at AJ;have CY:p.st (1-1)=p.a:=AJM p;split
 · have ok:=AMg (p:=p) h.b h.a (.inr rfl) (by rw[CY];exact h.a.AGo.ON) AJ (h.b.GV d AJ);exact AIF h ok Ao (AHF (a:=4) rfl ARp) (.inl (AIZ (.inr (.inr rfl))))
 split
 · obtain⟨a,b⟩:=AMI h.b h.a CY AJ;exact AIH h a Ao (AHF (a:=5) rfl ARp) (.inl b)
 split
 · rename_i z;obtain⟨a,b⟩:=AJ0 h.b h.a (.inr rfl) AJ z.2;exact AIF h a Ao (AHF (a:=6) rfl ARp) (.inl b)
 split
 · rename_i z;obtain⟨a,b⟩:=ALO h.b h.a CY AJ z.2.1 z.2.2.1 z.2.2.2;exact AIH h a Ao (AHF (a:=7) rfl ARp) (.inl b)
 split
 · obtain⟨a,b⟩:=AJ6 h.b AJ;exact AIH h a Ao (AHF (a:=3) rfl ARp) (.inl b)
 exact .stay h
theorem AKt(x:Int):KP x 2=0\/KP x 2=1:=by
 obtain⟨a,b⟩:=j_ x (k:=2) ARp;omega
theorem AMe{α:Type}[Inhabited α]{l:List α}(h:¬l=[])(x:Int):l.getD (Asd x l.length) default∈l:=
 Hl (AtH x (List.length_pos_iff.2 h)).2
theorem AKw{p:AGl}{n:Nat}{m:AGA}(h:AGv p n)(Ao:(n:Int)+1<=EW)(hm:A' m.B2):Good p (p.move m) n:=by
 unfold AGl.move;split
 · exact AM0 h (AKt _) Ao hm
 split
 · split
   · exact .stay h
   rename_i z;have Ab:=AMe z m.B2;generalize p.all.getD (Asd m.B2 p.all.length) default=x at Ab;rcases h.CT x Ab with⟨a,b⟩|⟨a,b⟩
   · rw[a];exact AIF h (b.ok h.b.AGo.BI) Ao (fun e=>(b.A1 e).2.2.2.2.2) (.inr b)
   rw[a];exact AIH h (b.ok h.a.AGo.BI) Ao (fun e=>(b.A1 e).2.2.2.2.2) (.inr b)
 split
 · exact .stay h
 rename_i z;exact ANm h (AKt _) Ao (AMe z m.B2)
def AKR(F:Bv)(d:Bx):Prop:=¬d.C3=0/\fx F.CX d.Ap d.As=true/\∀a∈F.Aj,¬(a.BG.Ap=d.Ap/\a.BG.As=d.As)
def AGQ(S F:Bv)(J:List (Int×Int)):Prop:=∀e∈S.Bj,AGY e∈J->AKR F e
theorem AOg{S T F:Bv}(h:AGp S F)(s:AHw S T F)(Ag:ids T=ids S):∀e∈T.Bj,∃d∈S.Bj,AHf d e:=fun e he=>by
 rcases s.dl e he with q|q
 · exact q
 exfalso;have:AGY e∈ids S:=by rw[<-Ag];exact AB6.2 ⟨e,he,rfl⟩
 obtain⟨d,AJ,B4⟩:=AB6.1 this;obtain⟨m,NS,Kq,YQ⟩:=h.AGO d AJ;have:=q.1 m NS Kq;have DC:d.As=e.As:=ABE Prod.snd B4;omega
theorem AGQ.own{S T F:Bv}{J:List (Int×Int)}(h:AGQ S F J)(H:AGp S F)(s:AHw S T F)(Ag:ids T=ids S):AGQ T F J:=fun e he Ay=>by
 obtain⟨d,AJ,t⟩:=AOg H s Ag e he;have i1:AGY e=AGY d:=Prod.ext t.1 t.2.1;obtain⟨a,b,c⟩:=h d AJ (by rw[<-i1];exact Ay);exact⟨by rw[t.2.2.2.2.2.2 a];exact a,by rw[t.1,t.2.1];exact b,by rw[t.1,t.2.1];exact c⟩
theorem AGQ.AI4{S F Wb:Bv}{J:List (Int×Int)}(h:AGQ S F J)(H:AGp S F)(s:AHw F Wb S):AGQ S Wb J:=fun e he Ay=>by
 obtain⟨a,b,c⟩:=h e he Ay;refine⟨a,s.AGS _ _ b,fun y Bf ⟨N8,OF⟩=>?_⟩;obtain⟨x,Ab,SJ,Ug⟩:=s.C1 _ _ (by rw[H.hH e he];exact H.aE) b y Bf N8 OF;exact c x Ab ⟨SJ,Ug⟩
structure AMS (p:AGl) (s:Int) (x:Dg) (r:AGl) (n:Nat):Prop where
 both:AGv r (n+1)
 t:tZ r.a r.b=tZ p.a p.b
 o:r.st (1-s)=p.st (1-s)
 Qj:AGI (p.st s) (r.st s) (p.st (1-s))
 Asf:AGI ((BW (p.st s)).cmd x).S (r.st s) (p.st (1-s))
 AIK:AGN (r.st s) (p.st (1-s)) (p.Am s) x
 e:r.st s=(Gc (p.st s) x ((p.st s).DX+1) 3).1
theorem AGv.one{p:AGl}{n:Nat}{s:Int}(h:AGv p n)(hs:s=0\/s=1):One (p.st s) (p.st (1-s)) s (p.Am s) (p.op s) n:=by
 rcases hs with rfl|rfl
 · exact h.a
 exact h.b
theorem ALe{p:AGl}{n:Nat}{s:Int}{x:Dg}(h:AGv p n)(hs:s=0\/s=1)(Ab:AHe (p.st s) (p.st (1-s)) x)(Ao:(n:Int)+1<=EW)(Tu:x.Ca=1->x.As<=p.Am s)(BI:AHJ (p.st s) (p.st (1-s)) x):AMS p s x (p.AGw s x) n:=by
 rcases hs with rfl|rfl
 · obtain⟨a,b,_,c,d,e⟩:=AJW (q:=p.q1) (o:=p.o1) h Ab Ao (ADn _) Tu (by have:=h.a.AGo.AHs.2;omega) (fun z=>AJz h.a.AGo h.b.AGo.BI Ab Ao z) (.inl BI);exact⟨a,b,rfl,c,d,e,rfl⟩
 obtain⟨a,b,_,c,d,e⟩:=AJX (q:=p.q2) (o:=p.o2) h Ab Ao (ADn _) Tu (by have:=h.b.AGo.AHs.2;omega) (fun z=>AJz h.b.AGo h.a.AGo.BI Ab Ao z) (.inl BI);exact⟨a,b,rfl,c,d,e,rfl⟩
theorem AOU{i n:Nat}(h:i<n)(Ao:n<=4):Asd (i:Int) n=i:=by
 have:KP (i:Int) n=i:=by
  unfold KP;have e:IntKind.u64.wrap (i:Int)=i:=by
   rw[show IntKind.u64.wrap (i:Int)=(i:Int) % 18446744073709551616 from rfl];omega
  rw[e,Int.tmod_eq_emod_of_nonneg AMT];exact Int.emod_eq_of_lt AMT AMT
 unfold Asd;rw[this];exact ACS i
theorem AOq{s:Int}(hs:s=0\/s=1):KP s 2=s:=by rcases hs with rfl|rfl<;>rfl
theorem AL8{p:AGl}{n:Nat}{s k:Int}{i:Nat}(h:AGv p n)(hs:s=0\/s=1)(AE:k=6\/k=4)(Ag:i<(p.st s).Bj.length):p.move ⟨k,s,0,0,(i:Int)⟩=p.AHg s k ((p.st s).Bj.getD i default):=by
 have BB:=(UB.1 (h.one hs).AGo.ws.VZ).1;unfold AGl.move;simp only;rw[AOq hs,AOU Ag BB,AA9 AMT,AA9 AMT,AA9 (by intro e;rw[e]at Ag;exact absurd Ag (AB2 _))]
theorem AN1{F:Bv}{w:Ah}{c:Dg}(hw:Ce w.S)(h:AGp w.S F):∀d∈(w.UQ c).S.Bj,YB c.Ap c.As d->¬d.C3=0:=by
 have AGs:=AIT hw.VZ;unfold Ah.UQ;simp only;split
 · rename_i i e;exfalso;have he:=(ADz.1 e).1;simp only[ABb,ABa]at he;have:=(h.AGK _ (Hl (Q4 e))).1;omega
 intro d AJ i;have hs:∃x∈w.S.Bj,YB c.Ap c.As x:=by
  have:=AKl w c.Ap c.As;have Af:AGY d∈ids w.S:=(by rw[<-this];exact AB6.2 ⟨d,AJ,rfl⟩);obtain⟨x,Ab,e⟩:=AB6.1 Af;exact⟨x,Ab,(ABE Prod.fst e).trans i.1,(ABE Prod.snd e).trans i.2⟩
 obtain⟨x,Ab,ix⟩:=hs;obtain⟨j,e,Ay,AG5⟩:=AJ5 hw.VZ Ab;rw[ix.1,ix.2]at e;have ANH:NJ w.S.Bj c.Ap c.As=if x.C3=0 then(w.S.Bj.set j {x with C3:=2},true,0)else(w.S.Bj,false,0):=by
  unfold NJ;rw[e,AA9 (not_not_intro rfl)];simp only[ACS];rw[AG5]
 unfold Ah.OR at AJ;simp only at AJ;rw[ANH]at AJ;by_cases f:x.C3=0
 · rw[AA_ f,AA_ ARz,AJi]at AJ;have AJ:d∈w.S.Bj.set j {x with C3:=2}:=AJ;rcases(AHA AGs Ay (show fX {x with C3:=2} (w.S.Bj.getD j default)by rw[AG5];exact⟨rfl,rfl⟩)).1 AJ with rfl|⟨_,n⟩
   · show ¬(2:Int)=0;decide
   exact absurd ⟨i.1.trans ix.1.symm,i.2.trans ix.2.symm⟩ n
 rw[AA9 f,AA9 (by simp)]at AJ;rw[AG4 AGs AJ Ab ⟨i.1.trans ix.1.symm,i.2.trans ix.2.symm⟩];exact f
theorem AKm{S T:Bv}(h:ids T=ids S):T.Bj.length=S.Bj.length:=by
 have:=ABE List.length h;unfold ids at this
 rwa [ADi,ADi]at this
theorem ALU{S T:Bv}(h:ids T=ids S){i:Nat}(Ag:i<S.Bj.length):AGY (T.Bj.getD i default)=AGY (S.Bj.getD i default):=by
 have AN:=AKm h;have e:(ids T)[i]? =(ids S)[i]? :=by rw[h]
 unfold ids at e;rw[List.getElem?_map,List.getElem?_map,ABs AMT,ABs Ag]at e;rw[G3 AMT,G3 Ag];exact Option.some.inj e
theorem AOJ{p:AGl}{n:Nat}{s:Int}{i:Nat}{J:List (Int×Int)}{J':List (Int×Int)}(h:AGv p n)(hs:s=0\/s=1)(Ao:(n:Int)+2<=EW)(Ag:i<(p.st s).Bj.length)(Wl:AGQ (p.st s) (p.st (1-s)) J)(AI0:AGQ (p.st (1-s)) (p.st s) J'):
 ∃r,(p.move ⟨6,s,0,0,(i:Int)⟩).move ⟨4,s,0,0,(i:Int)⟩=r/\AGv (p.move ⟨6,s,0,0,(i:Int)⟩) (n+1)/\AGv r (n+2)/\tZ r.a r.b=tZ p.a p.b/\ids (r.st s)=ids (p.st s)/\ids (r.st (1-s))=ids (p.st (1-s))/\AGQ (r.st s) (r.st (1-s)) (AGY ((p.st s).Bj.getD i default)::J)/\AGQ (r.st (1-s)) (r.st s) J'/\
  i<((p.move ⟨6,s,0,0,(i:Int)⟩).st s).Bj.length:=by
 have o:=h.one hs;have HW:1-s=0\/1-s=1:=AMT;have Lg:=h.one HW;have Im:(1:Int)-(1-s)=s:=AMT;rw[Im]at Lg;have AGx:=Hl (l:=(p.st s).Bj) Ag
 -- given up
 have Kq:p.move ⟨6,s,0,0,(i:Int)⟩=p.AGw s (AGl.AHN ((p.st s).Bj.getD i default)):=by
  rw[AL8 h hs (.inl rfl) Ag];unfold AGl.AHg;rw[AA9 AMT,AA9 AMT,AA9 AMT,AA9 AMT,AA_ rfl]
 rw[Kq];obtain⟨Hj,G1⟩:=AJ6 o AGx;have CY:=ALe h hs Hj AMT (AHF (a:=3) rfl ARp) G1;generalize B':p.AGw s (AGl.AHN ((p.st s).Bj.getD i default))=q at CY;have AJu:ids (q.st s)=ids (p.st s):=by
  rw[CY.e];exact ALV Hj (.inl rfl) o.AGo.Ag o.AGo.Bh o.AGo.BI Lg.AGo.BI (by have:=o.AGo.ix;omega)
 have Tp:i<(q.st s).Bj.length:=by rw[AKm AJu];exact Ag
 have Rc:=ALU AJu Ag;generalize AJ:(p.st s).Bj.getD i default=d at*;generalize he:(q.st s).Bj.getD i default=e at Rc;have AKi:e∈(q.st s).Bj:=by rw[<-he];exact Hl Tp
 have S_:¬e.C3=0:=by
  have Qj:=AIL o.AGo.BI Lg.AGo.BI;have ALP:=AN1 (F:=p.st (1-s)) (w:=BW (p.st s)) (c:=AGl.AHN d) (o.AGo.AJa AMT) Qj.Af;rw[<-(ARq (w:=BW (p.st s)) (c:=AGl.AHN d)).2.1 rfl]at ALP;have i1:e.Ap=d.Ap:=ABE Prod.fst Rc;have i2:e.As=d.As:=ABE Prod.snd Rc;rcases CY.Asf.s.dl e AKi with⟨x,Ab,t⟩|z
  · have:=ALP x Ab ⟨t.1.symm.trans i1,t.2.1.symm.trans i2⟩;rw[t.2.2.2.2.2.2 this];exact this
  exfalso;obtain⟨m,NS,Kq,YQ⟩:=o.AGo.BI.AGO d AGx;have DP:=AIP (t:=0) (fun y=>absurd (show(3:Int)=1 from y) ARp) Hj (o.AGo.AJa AMT) Qj.Af Qj.h2;obtain⟨y,KX,J5,Kd⟩:=DP.Qj.s.AIE m NS;have:=z.1 y KX (by rw[J5,Kq,DP.Qj.s.g];rfl);omega
 -- its fate is brought
 have AJA:=CY.both.one hs;have AIp:=CY.both.one HW;rw[Im]at AIp;have YQ:q.move ⟨4,s,0,0,(i:Int)⟩=q.AGw (1-s) (AGl.AHR e):=by
  rw[AL8 CY.both hs (.inr rfl) Tp,he];unfold AGl.AHg;rw[AA9 AMT,AA9 AMT,AA_ ⟨rfl,S_⟩]
 rw[YQ];obtain⟨B4,DC⟩:=AJ0 AJA AIp hs AKi S_;have Dh:=ALe (s:=1-s) CY.both HW (by rw[Im];exact B4) AMT (AHF (a:=6) rfl ARp) (by rw[Im];exact DC);have AKk:ids ((q.AGw (1-s) (AGl.AHR e)).st (1-s))=ids (q.st (1-s)):=by
  rw[Dh.e];exact ALV B4 (.inr rfl) AIp.AGo.Ag AIp.AGo.Bh AIp.AGo.BI AJA.AGo.BI (by have:=AIp.AGo.ix;omega)
 generalize q.AGw (1-s) (AGl.AHR e)=r at Dh AKk;obtain⟨dG,hB,xR,xS,xT,AHE,AHY⟩:=Dh;rw[Im]at xR xS xT AHE;have AJj:=AHE.Bp rfl;have f1:AGQ (q.st s) (p.st (1-s)) J:=Wl.own o.AGo.BI CY.Qj.s AJu;have f2:AGQ (p.st (1-s)) (q.st s) J':=AI0.AI4 Lg.AGo.BI CY.Qj.s;rw[<-CY.o]at f1 f2;have f3:AGQ (q.st s) (r.st (1-s)) J:=f1.AI4 AJA.AGo.BI xS.s;have f4:AGQ (r.st (1-s)) (q.st s) J':=f2.own AIp.AGo.BI xS.s AKk;refine⟨r,rfl,CY.both,dG,hB.trans CY.t,by rw[xR];exact AJu,AKk.trans (by rw[CY.o]),?_,by rw[xR];exact f4,Tp⟩;rw[xR];intro y Bf Ay;rcases ABf.1 Ay with Ay|Ay
 · have:y=e:=AG4 AJA.AGo.BI.AGs Bf AKi ⟨(ABE Prod.fst (Ay.trans Rc.symm):_),(ABE Prod.snd (Ay.trans Rc.symm):_)⟩;rw[this];exact⟨S_,AJj.2.1,AJj.2.2⟩
 exact f3 y Bf Ay
-- the end
def AGl.GV(s:Int):Nat->AGl->AGl
 |0,p=>p
 |i+1,p=>AGl.GV s i ((p.move ⟨6,s,0,0,(i:Int)⟩).move ⟨4,s,0,0,(i:Int)⟩)
theorem ALo{s:Int}(hs:s=0\/s=1)(i:Nat):∀{p:AGl} {n:Nat} {J J':List (Int×Int)},AGv p n->i<=(p.st s).Bj.length->(n:Int)+2*i<=EW->AGQ (p.st s) (p.st (1-s)) J->AGQ (p.st (1-s)) (p.st s) J'->(∀j,i<=j->j<(p.st s).Bj.length->AGY ((p.st s).Bj.getD j default)∈J)->
 AGv (AGl.GV s i p) (n+2*i)/\tZ (AGl.GV s i p).a (AGl.GV s i p).b=tZ p.a p.b/\ids ((AGl.GV s i p).st s)=ids (p.st s)/\ids ((AGl.GV s i p).st (1-s))=ids (p.st (1-s))/\AGQ ((AGl.GV s i p).st s) ((AGl.GV s i p).st (1-s)) (ids (p.st s))/\AGQ ((AGl.GV s i p).st (1-s)) ((AGl.GV s i p).st s) J':=by
 induction i with
 |zero=>
  intro p n J J' h _ _ Wl AI0 Ag;refine⟨h,rfl,rfl,rfl,fun e he _=>?_,AI0⟩;obtain⟨j,Ay,rfl⟩:=UP he;exact Wl _ he (Ag j (ABg _) Ay)
 |succ i Cg=>
  intro p n J J' h AN Ao Wl AI0 Ag;obtain⟨r,e,_,b,t,i1,i2,f1,f2,_⟩:=AOJ h hs AMT (show i<(p.st s).Bj.length by omega) Wl AI0;have AQm:=AKm i1;obtain⟨DP,EK,FR,Iz,Lv,KY⟩:=Cg (p:=r) (n:=n+2) b AMT AMT f1 f2 (fun j Af h2=>by
   rw[ALU i1 AMT];by_cases q:j=i
   · rw[q];exact ABx ..
   exact ABR _ (Ag j AMT AMT))
  rw[AGl.GV,e];refine⟨by rw[show n+2*(i+1)=n+2+2*i by omega];exact DP,EK.trans t,FR.trans i1,Iz.trans i2,by rw[<-i1];exact Lv,KY⟩
def AGl.AHi(p:AGl):AGl:=AGl.GV 1 (AGl.GV 0 p.a.Bj.length p).b.Bj.length (AGl.GV 0 p.a.Bj.length p)
theorem AJg{p:AGl}{n:Nat}(h:AGv p n):p.a.Bj.length<=4/\p.b.Bj.length<=4:=⟨(UB.1 h.a.AGo.ws.VZ).1,(UB.1 h.b.AGo.ws.VZ).1⟩
theorem AKD{p:AGl}{n:Nat}(h:AGv p n)(Ao:(n:Int)+16<=EW):AGv p.AHi (n+16)/\tZ p.AHi.a p.AHi.b=tZ p.a p.b/\AGQ p.AHi.a p.AHi.b (ids p.AHi.a)/\AGQ p.AHi.b p.AHi.a (ids p.AHi.b):=by
 obtain⟨Om,Sl⟩:=AJg h;obtain⟨DP,EK,FR,Iz,Lv,_⟩:=ALo (.inl rfl) p.a.Bj.length (J:=[]) (J':=[]) h (ABW _) AMT (fun _ _ q=>absurd q ABh) (fun _ _ q=>absurd q ABh) (fun j Af h2=>absurd Af (by show ¬p.a.Bj.length<=j;have h2:j<p.a.Bj.length:=h2;omega));unfold AGl.AHi;generalize AGl.GV 0 p.a.Bj.length p=r at DP EK FR Iz Lv;obtain⟨Kq,YQ⟩:=AJg DP;have Lv:AGQ r.a r.b (ids p.a):=Lv;obtain⟨CY,Dh,DQ,En,E',Hg⟩:=ALo (.inr rfl) r.b.Bj.length (J:=[]) (J':=ids p.a) DP (ABW _) AMT (fun _ _ q=>absurd q ABh) Lv (fun j Af h2=>absurd Af (by show ¬r.b.Bj.length<=j;have h2:j<r.b.Bj.length:=h2;omega));have FR:ids r.a=ids p.a:=FR;have DQ:ids (AGl.GV 1 r.b.Bj.length r).b=ids r.b:=DQ;have En:ids (AGl.GV 1 r.b.Bj.length r).a=ids r.a:=En;refine⟨CY.more AMT,Dh.trans EK,?_,?_⟩
 · rw[En,FR];exact Hg
 rw[DQ];exact E'
def AGl.fin(p:AGl):AGl:=p.AHi.AHi.AHi
theorem AMv{S F:Bv}{s q:Int}{o:Bool}{n:Nat}(h:One S F s q o n)(k:AGp F S)(BO:AGQ S F (ids S))(JU:AGQ F S (ids F)):(∀a∈S.Aj,a.BG.Ap=0/\a.Cn=0)/\S.AA=[]/\o=false:=by
 have H:=h.AGo.BI;have all:∀e∈S.Bj,AKR F e:=fun e he=>BO e he (AB6.2 ⟨e,he,rfl⟩);have C1:∀a∈S.Aj,a.BG.Ap=0:=fun a AK=>by
  by_cases z:a.BG.Ap=0
  · exact z
  exfalso;by_cases c:a.BG.Ap=S.CZ
  · obtain⟨_,d,AJ,_,_,_,_,f⟩:=H.AN a AK c;exact(all d AJ).1 f
  obtain⟨_,hB,d,AJ,d1,_⟩:=H.RX a AK z c;exact(JU d AJ (AB6.2 ⟨d,AJ,rfl⟩)).2.2 a AK ⟨hB.trans (k.hH d AJ).symm,d1.symm⟩
 have hw:S.AA=[]:=by
  by_cases z:S.AA=[]
  · exact z
  exfalso;have AN:0<S.AA.length:=List.length_pos_iff.2 z;have Bh:=AEe.1 h.AGo.rd 0 AN;obtain⟨_,b⟩:=H.AGK _ (Hl AN);obtain⟨_,f2,_⟩:=AIW b;have t:(Io (BF S.Aj (S.AA.getD 0 default).AM.Al).1).2=true:=by
   obtain⟨o1,o2⟩:=h.AGo.ws.AHp _ f2;refine t_.2 ⟨o1.acc o2,?_,(H.ac _ f2).1⟩;rw[G_,ABG (C1 _ f2)];rfl
  rw[t,ABp]at Bh;rw[Nz.2 fun j Ay=>absurd Ay (AB2 j)]at Bh;cases Bh
 refine⟨fun a AK=>⟨C1 a AK,?_⟩,hw,?_⟩
 · by_cases z:a.Cn=0
   · exact z
   exact absurd hw (h.AGo.AKC a AK z)
 cases e:o with
 |false=>rfl
 |true=>
  obtain⟨d,AJ,_,f⟩:=h.AGo.op e;exact absurd f (all d AJ).1
theorem ALt{p:AGl}{n:Nat}(h:AGv p n)(Ao:(n:Int)+48<=EW):AGv p.fin (n+48)/\tZ p.fin.a p.fin.b=tZ p.a p.b/\((∀a∈p.fin.a.Aj,a.BG.Ap=0/\a.Cn=0)/\p.fin.a.AA=[]/\p.fin.o1=false)/\(∀a∈p.fin.b.Aj,a.BG.Ap=0/\a.Cn=0)/\p.fin.b.AA=[]/\p.fin.o2=false:=by
 obtain⟨DP,EK,_⟩:=AKD h AMT;obtain⟨CY,Dh,_⟩:=AKD DP AMT;obtain⟨dG,hB,xR,xS⟩:=AKD CY AMT;exact⟨dG.more AMT,hB.trans (Dh.trans EK),AMv dG.a dG.b.AGo.BI xR xS,AMv dG.b dG.a.AGo.BI xS xR⟩
-- the begin
def AHq(s i n:Int):AD:=⟨AGC s i,⟨0,20⟩,n,0,[],XG⟩
def AGX(l:List Int)(i:Nat):Int:=if i<l.length then KP (l.getD i 0) 21 else 5
def AHX(s:Int)(x y z:Int):List AD:=[AHq s 0 x,AHq s 1 y,AHq s 2 z]
def ALa(x y z:Int):Bv:={F8 1 with Bc:=⟨#[109]⟩,Aj:=AHX 0 x y z}
def ALb(x y z:Int):Bv:={F8 2 with Du:=true,A6:=⟨#[109]⟩,Dn:=1,Aj:=AHX 1 x y z}
theorem AMX{s i n:Int}(Bw:0<=n)(Af:n<=20):Fw (AHq s i n)/\D3 (AHq s i n)/\FT (AHq s i n)=false:=by
 have z:A' 0:=DW;refine⟨⟨rfl,Bw,Af,ADn _,rfl,?_,?_,fun _=>rfl,fun q=>absurd rfl q⟩,⟨⟨by show(AGC s i).size<=_;rw[AI3];decide,⟨z,⟨by show _<=(20:Int);decide,by show(20:Int)<=_;decide⟩⟩,⟨by show _<=n;omega,by show n<=_;omega⟩,z,trivial,z,z,z,z⟩,fun x Ab=>absurd Ab ABh⟩,?_⟩
 · show I7 (AHq s i n)<=20;have:I7 (AHq s i n)=n:=(by unfold I7 AHq;simp);omega
 · show 0<=IU (AHq s i n);have:IU (AHq s i n)=n:=(by unfold IU AHq;simp);omega
 cases e:FT (AHq s i n)with
 |false=>rfl
 |true=>
  have:=(fB.1 e).2.1;cases this
theorem AJw{s x y z:Int}{a:AD}(h:a∈AHX s x y z):∃i n,a=AHq s i n/\(i=0\/i=1\/i=2)/\(n=x\/n=y\/n=z):=by
 simp only[AHX,ABf,ABh,ABi]at h;rcases h with rfl|rfl|rfl
 · exact⟨_,_,rfl,.inl rfl,.inl rfl⟩
 · exact⟨_,_,rfl,.inr (.inl rfl),.inr (.inl rfl)⟩
 exact⟨_,_,rfl,.inr (.inr rfl),.inr (.inr rfl)⟩
section
variable{s x y z:Int} (Ab:0<=x/\x<=20) (Bf:0<=y/\y<=20) (Cu:0<=z/\z<=20)
include Ab Bf Cu
theorem AJV{a:AD}(h:a∈AHX s x y z):Fw a/\D3 a/\FT a=false:=by
 obtain⟨i,n,rfl,_,Ao⟩:=AJw h;exact AMX AMT AMT
omit Ab Bf Cu in
theorem AK5(hs:s=0\/s=1):H6 (·.Al) Ds (AHX s x y z):=by
 have e:Ds (AGC s 0) (AGC s 1)=true/\Ds (AGC s 0) (AGC s 2)=true/\Ds (AGC s 1) (AGC s 2)=true:=by
  rcases hs with rfl|rfl
  · exact⟨ARs,ARs,ARs⟩
  exact⟨ARs,ARs,ARs⟩
 refine List.Pairwise.cons (fun a AK=>?_) (List.Pairwise.cons (fun a AK=>?_) (List.pairwise_singleton _ _))
 · simp only[ABf,ABh,ABi]at AK;rcases AK with rfl|rfl
   · exact e.1
   exact e.2.1
 rw[ADe.1 AK];exact e.2.2
theorem AM4:Ce (ALa x y z):=by
 have q:L7 0:=⟨ARp,ARp⟩;refine{RZ:=rfl,ix:=q,ON:=⟨by show(0:Int)<=1;decide,by show(1:Int)<=EW;decide⟩,hf:=q,TO:=q,un:=q,own:=⟨fun e=>?_,fun _=>⟨by show(1:Int)<=1;decide,ARs⟩⟩,len:=?_,acc:=fun a AK=>?_,Ll:=AK5 (.inl rfl),marks:=rfl,Me:=fun a AK=>absurd AK ABh,VZ:=rfl,ends:=rfl,wl:=ABg _,wt:=fun a AK=>absurd AK ABh,ww:=fun a AK=>absurd AK ABh,Hc:=.inl rfl,out:=.inl ⟨rfl,rfl⟩}
 · exact absurd (show true=false from e) ARp
 · show(3:Nat)<=12;decide
 obtain⟨o,w,_⟩:=AJV Ab Bf Cu AK;refine⟨o,w,?_⟩;obtain⟨i,n,rfl,Ag,_⟩:=AJw AK;rcases Ag with rfl|rfl|rfl<;>kernel_rfl
theorem AM5:Ce (ALb x y z):=by
 have q:L7 0:=⟨ARp,ARp⟩;refine{RZ:=rfl,ix:=q,ON:=⟨by show(0:Int)<=1;decide,by show(1:Int)<=EW;decide⟩,hf:=q,TO:=q,un:=q,own:=⟨fun e=>?_,fun _=>⟨by show(1:Int)<=1;decide,ARs⟩⟩,len:=?_,acc:=fun a AK=>?_,Ll:=AK5 (.inr rfl),marks:=rfl,Me:=fun a AK=>absurd AK ABh,VZ:=rfl,ends:=rfl,wl:=ABg _,wt:=fun a AK=>absurd AK ABh,ww:=fun a AK=>absurd AK ABh,Hc:=.inl rfl,out:=.inl ⟨rfl,rfl⟩}
 · exact absurd (show true=false from e) ARp
 · show(3:Nat)<=12;decide
 obtain⟨o,w,_⟩:=AJV Ab Bf Cu AK;refine⟨o,w,?_⟩;obtain⟨i,n,rfl,Ag,_⟩:=AJw AK;rcases Ag with rfl|rfl|rfl<;>kernel_rfl
end
theorem ALc{S F:Bv}{s x y z:Int}(hs:s=0\/s=1)(Ab:0<=x/\x<=20)(Bf:0<=y/\y<=20)(Cu:0<=z/\z<=20)(hw:Ce S)(AK:S.Aj=AHX s x y z)(CK:S.CZ=s+1)(JU:F.CZ=2-s)(he:S.Bz=[]/\S.AA=[]/\S.Bj=[]/\S.DX=0/\S.Bt=FP/\S.Du=true/\S.Dn=1)
 (Anw:S.A6=if s=0 then ByteArray.empty else⟨#[109]⟩)(AH9:S.Bc=if s=0 then⟨#[109]⟩else ByteArray.empty):One S F s 0 false 0:=by
 obtain⟨B4,DC,Kk,QX,QY,hV,X7⟩:=he;have no:∀{α:Type} {P:α->Prop} {l:List α},l=[]->∀e∈l,P e:=fun h e he=>by rw[h]at he;exact absurd he ABh
 have ac:∀a∈S.Aj,a.BG=XG/\a.Cn=0/\a.A0=[]/\a.Cs=⟨0,20⟩:=fun a h=>by
  rw[AK]at h;obtain⟨i,n,rfl,_⟩:=AJw h;exact⟨rfl,rfl,rfl,rfl⟩
 refine⟨⟨(Zc hw.ints.ac hw.ints.PZ hw.ints.O8).2 ⟨hw,fun a h=>(AJV Ab Bf Cu (AK▸h)).2.2⟩,hw.ints,⟨AMT,AMT,hw.Ll,fun a h=>(ac a h).2.2,by rw[Kk];exact List.Pairwise.nil,no Kk,no Kk,fun a h c=>?_,fun a h c=>absurd (ABE F_.Ap (ac a h).1) c,no DC,no DC,no DC,no Kk,no Kk,no Kk⟩,QY,hV,X7,⟨AMT,AMT⟩,no B4,⟨ADn _,ADn _⟩,fun q=>absurd q ABd,?_,fun a h c=>absurd (ac a h).2.1 c⟩,CK,Anw,AH9,?_,no Kk⟩
 · exfalso;rw[(ac a h).1]at c;have c:(0:Int)=S.CZ:=c;omega
 · unfold KS;rw[DC];rfl
 rw[AK];rfl
def AHy(l:List Int):AGl:={a:=ALa (AGX l 0) (AGX l 1) (AGX l 2),b:=ALb (AGX l 3) (AGX l 4) (AGX l 5),all:=[],q1:=0,q2:=0,o1:=false,o2:=false}
theorem AHx(l:List Int)(i:Nat):0<=AGX l i/\AGX l i<=20:=by
 unfold AGX;split
 · have:=j_ (l.getD i 0) (k:=21) ARp;omega
 omega
theorem AM6(l:List Int):AGv (AHy l) 0:=by
 refine⟨ALc (.inl rfl) (AHx l 0) (AHx l 1) (AHx l 2) (AM4 (AHx l 0) (AHx l 1) (AHx l 2)) rfl rfl rfl ⟨rfl,rfl,rfl,rfl,rfl,rfl,rfl⟩ rfl rfl,ALc (.inr rfl) (AHx l 3) (AHx l 4) (AHx l 5) (AM5 (AHx l 3) (AHx l 4) (AHx l 5)) rfl rfl rfl ⟨rfl,rfl,rfl,rfl,rfl,rfl,rfl⟩ rfl rfl,fun x Ab=>absurd Ab ABh⟩
def AHD(p:AGl)(a:AD):Int:=if ¬a.BG.Ap=0/\(findD (p.st (a.BG.DH-1)).Bj a.BG.Ap a.BG.As).C3=1 then a.BG.B2 else 0
theorem AKM{p:AGl}{n:Nat}{s:Int}(h:AGv p n)(hs:s=0\/s=1){a:AD}(AK:a∈(p.st s).Aj):AGz p.a p.b a=a.BT+AHD p a/\0<=a.BT+AHD p a/\a.BT+AHD p a<=20/\0<=a.BT/\a.BT<=20/\a.Cs=⟨0,20⟩/\(¬a.BG.Ap=0->a.BG.DH=1\/a.BG.DH=2)/\ -20<=AHD p a/\AHD p a<=20:=by
 have o:=h.one hs;have hw:=o.AGo.ws;obtain⟨A1,AY⟩:=hw.AHp a AK;have WE:=(o.AGo.BI.ac a AK).2;have Anw:=A1.BQ;have AH9:=A1.Ag;rw[WE]at Anw AH9;have Anw:0<=a.BT:=Anw;have AH9:a.BT<=20:=AH9;have o7:=h.a.g;have HO:=h.b.g;unfold AGz AHD;by_cases c:a.BG.Ap=0
 · rw[show G_ a=false by rw[G_,ABG c];rfl,Bool.false_and,AA9 ARp,AA9 (fun z=>z.1 c)];exact⟨rfl,AMT,AMT,Anw,AH9,WE,fun z=>absurd c z,AMT,AMT⟩
 obtain⟨_,_,f1,f2⟩:=A1.Om c;rw[WE]at f1 f2;have f1:0<=a.BT+a.BG.B2:=f1;have f2:a.BT+a.BG.B2<=20:=f2;have hh:a.BG.DH=1\/a.BG.DH=2:=by
  have gs:=o.g;have AQl:(p.st (1-s)).CZ=2-s:=by
   rcases hs with rfl|rfl
   · exact HO
   exact o7
  by_cases z:a.BG.Ap=(p.st s).CZ
  · have:=(o.AGo.BI.AN a AK z).1;omega
  have:=(o.AGo.BI.RX a AK c z).1;omega
 have e:AGB (AGH p.a p.b a.BG.DH) a.BG.Ap a.BG.As=decide ((findD (p.st (a.BG.DH-1)).Bj a.BG.Ap a.BG.As).C3=1):=by
  rcases hh with z|z
  · rw[z,show AGH p.a p.b 1=p.a.Bj by unfold AGH;rw[if_pos AMT],ALj h.a.AGo.ws.VZ];rfl
  rw[z,show AGH p.a p.b 2=p.b.Bj by unfold AGH;rw[if_neg AMT,if_pos AMT],ALj h.b.AGo.ws.VZ];rfl
 rw[show G_ a=true by rw[G_,ABM c];rfl,Bool.true_and,e];by_cases f:(findD (p.st (a.BG.DH-1)).Bj a.BG.Ap a.BG.As).C3=1
 · rw[AA_ (ABG f),AA_ ⟨c,f⟩];exact⟨rfl,AMT,AMT,Anw,AH9,WE,fun _=>hh,AMT,AMT⟩
 rw[AA9 (by rw[ABM f];decide),AA9 (fun z=>f z.2)];exact⟨rfl,AMT,AMT,Anw,AH9,WE,fun _=>hh,AMT,AMT⟩
def AGZ(p:AGl)(s:Int)(i:Nat):Int:=(((p.st s).Aj.take i).map fun a=>a.BT+AHD p a).sum
theorem AMB{p:AGl}{s:Int}{i:Nat}(Ag:i<(p.st s).Aj.length):AGZ p s (i+1)=AGZ p s i+(((p.st s).Aj.getD i default).BT+AHD p ((p.st s).Aj.getD i default)):=by
 unfold AGZ;rw[ASh Ag,List.map_append,List.sum_append,G3 Ag];simp
theorem AKF{p:AGl}{n:Nat}{s:Int}(h:AGv p n)(hs:s=0\/s=1):∀i,i<=(p.st s).Aj.length->0<=AGZ p s i/\AGZ p s i<=20*i
 |0,_=>⟨ADn _,ADn _⟩
 |i+1,Ag=>by
  obtain⟨a,b⟩:=AKF h hs i AMT;obtain⟨_,c,d,_⟩:=AKM h hs (Hl (show i<(p.st s).Aj.length by omega));rw[AMB AMT];omega
theorem AJe{p:AGl}{n:Nat}{s:Int}(h:AGv p n)(hs:s=0\/s=1):(p.st s).Aj.length=3:=by
 have:=ABE List.length (h.one hs).ks
 rwa [ADi]at this
theorem APw{p:AGl}{n:Nat}(h:AGv p n):AGZ p 0 3+AGZ p 1 3=tZ p.a p.b:=by
 have e:∀s:Int,s=0\/s=1->AGZ p s 3=((p.st s).Aj.map (AGz p.a p.b)).sum:=fun s hs=>by
  unfold AGZ;rw[List.take_of_length_le (by rw[AJe h hs];exact ABW _)];exact AHm fun a AK=>((AKM h hs AK).1).symm
 rw[e 0 (.inl rfl),e 1 (.inr rfl)];rfl
def AGu(E:List FE)(c q:Int)(i:Nat):Bool:=AGV (E.take i) c q
theorem AJP(E:List FE)(c q:Int):AGu E c q E.length=AGV E c q:=by rw[AGu,ACB]
theorem AMD{E:List FE}{c q:Int}{i:Nat}(h:i<E.length):AGu E c q (i+1)=(AGu E c q i||(decide ((E.getD i default).Ca=1)&&decide ((E.getD i default).Ap=c)&&decide ((E.getD i default).As=q))):=by
 rw[AGu,AGu,AGV,AGV,ASh h,List.any_append,List.any_cons,List.any_nil,Bool.or_false,G3 h]
theorem AHH{E:List FE}{c q:Int}{i:Nat}(h:i<E.length)(Ao:¬((E.getD i default).Ca=1/\(E.getD i default).Ap=c/\(E.getD i default).As=q)):AGu E c q (i+1)=AGu E c q i:=by
 rw[AMD h];have:(decide ((E.getD i default).Ca=1)&&decide ((E.getD i default).Ap=c)&&decide ((E.getD i default).As=q))=false:=by
  rw[Bool.eq_false_iff];intro z;simp only[ABb,ABa]at z;exact Ao ⟨z.1.1,z.1.2,z.2⟩
 rw[this,Bool.or_false]
theorem AMC{E:List FE}{c q:Int}{i:Nat}(h:i<E.length)(Af:(E.getD i default).Ca=1)(h2:(E.getD i default).Ap=c)(Bo:(E.getD i default).As=q):AGu E c q (i+1)=true:=by
 rw[AMD h,ABG Af,ABG h2,ABG Bo];simp
def AHd(p:AGl):Nat->Int
 |0=>0
 |j+1=>AHd p j+AGZ p (j:Int) 3
theorem AMt{p:AGl}{n:Nat}(h:AGv p n):∀j:Nat,j<=2->0<=AHd p j/\AHd p j<=60*j
 |0,_=>⟨ADn _,ADn _⟩
 |j+1,Ay=>by
  obtain⟨a,b⟩:=AMt h j AMT;have hs:(j:Int)=0\/(j:Int)=1:=AMT;obtain⟨c,d⟩:=AKF h hs 3 (by rw[AJe h hs];exact ABW _);rw[AHd];omega
theorem AO8{p:AGl}{n:Nat}(h:AGv p n):AHd p 2=tZ p.a p.b:=by
 rw[<-APw h];show 0+AGZ p 0 3+AGZ p 1 3=_;omega
theorem AMO{v:Int}(Bw:0<=v)(Af:v<=20):IntKind.i64.wrap (v % 18446744073709551616)=v/\J3 v=true:=by
 refine⟨?_,?_⟩
 · rw[mC];omega
 simp only[J3,ABb,ABa];omega
theorem APu{S F:Bv}{s q:Int}{o:Bool}{n:Nat}(h:One S F s q o n)(c:Dg)(Ao:(n:Int)+1<=EW):(Gc S c (S.DX+1) 3).2.2=0/\VB S/\A' (S.DX+1)/\0<=S.DX:=by
 have Af:=h.AGo.ix;have Anp:EW=4611686018427387904:=rfl;exact⟨w7 h.AGo.Bh ARp ARp AMT AMT,h.AGo.Ag,⟨AMT,AMT⟩,Af.1⟩
theorem AM_(p:AGl)(c:Dg):p.AGw 0 c={a:=(Gc p.a c (p.a.DX+1) 3).1,b:=p.b,all:=if p.all.length<500 then p.all++[⟨0,c⟩]else p.all,q1:=p.q1,q2:=p.q2,o1:=p.o1&& !AGV (Gc p.a c (p.a.DX+1) 3).2.1 1 p.q1,o2:=p.o2&& !AGV (Gc p.a c (p.a.DX+1) 3).2.1 2 p.q2}:=rfl
theorem AM'(p:AGl)(c:Dg):p.AGw 1 c={a:=p.a,b:=(Gc p.b c (p.b.DX+1) 3).1,all:=if p.all.length<500 then p.all++[⟨1,c⟩]else p.all,q1:=p.q1,q2:=p.q2,o1:=p.o1&& !AGV (Gc p.b c (p.b.DX+1) 3).2.1 1 p.q1,o2:=p.o2&& !AGV (Gc p.b c (p.b.DX+1) 3).2.1 2 p.q2}:=rfl
def AGl.AHP(l:List AGA):Nat->AGl->AGl
 |0,p=>p
 |i+1,p=>(AGl.AHP l i p).move (l.getD i default)
theorem AKx{l:List AGA}(AN:∀m∈l,A' m.B2){p:AGl}(h:AGv p 0):∀i,i<=l.length->i<=300->AGv (AGl.AHP l i p) i/\tZ (AGl.AHP l i p).a (AGl.AHP l i p).b=tZ p.a p.b
 |0,_,_=>⟨h,rfl⟩
 |i+1,Ag,Bo=>by
  have Anp:EW=4611686018427387904:=rfl;obtain⟨a,b⟩:=AKx AN h i AMT AMT;obtain⟨c,d⟩:=AKw a AMT (AN _ (Hl (show i<l.length by omega)));exact⟨c,d.trans b⟩
end Go.Apw
namespace Go.A_
section
variable{c:Cj} {ops:Array Oper} {J:Cj->Array Oper->List Oper->Env->Own->List Atom->Prop} [Dr:Ip J] {env:Env} {L:Own} {D:List Atom} {rest:List Oper} {d:Nat} {t:TypeId} {p:String} {af:Array Edge} {x y z:Operand} {T:TypeId} {b o:Nat}
include Dr
theorem AGD{m:Int}{n k:Nat}{E:TypeId}{size:Nat}(Ab:AL env x=some (.pointer (some ⟨b,o,none⟩)))(Bf:AL env y=some (.int .i64 m))(Av:AIv c.P T E n size)(hm:m=(k:Int))(Af:k<n)(Ao:Nat.blt d c.n=true)
 (h:J c ops rest ((d,.pointer (some ⟨b,o+k*size,none⟩))::env) L D):J c ops (⟨some d,.indexAddr T x y,t,p,af,none⟩::rest) env L D:=
 AKo Ab Bf Av AMT AMT Ao (by rw[show m.toNat=k by omega];exact h)
end
end Go.A_
namespace Go.Apw
@[reducible] def AH4(x:AGA):List Value:=[.int .i64 x.Ca,.int .i64 x.AGF,.int .i64 x.Hi,.int .i64 x.IX,.int .i64 x.B2]
def AGA.wf(x:AGA):Prop:=A' x.Ca/\A' x.AGF/\A' x.Hi/\A' x.IX/\A' x.B2
@[reducible] def AMq:Shape AGA where
 H:=Unit
 size:=5
 cells x h:=AH4 x
 sub x h:=[]
 wf:=AGA.wf
 len _ _:=rfl
 one:=by
  intro S w x h Av u hu;simp only[AH4,ABf,ABh,ABi]at hu;rcases hu with rfl|rfl|rfl|rfl|rfl<;>first|rfl
@[reducible] instance AMj:Be AGA:=Be.D5 AMq
@[reducible] def AIi(x:AGL)(AS:Value):List Value:=[.int .i64 x.AGF,.int .i64 x.AGy.Ca,.int .i64 x.AGy.Ap,.int .i64 x.AGy.As,.int .i64 x.AGy.Dn,.int .i64 x.AGy.Bn,.int .i64 x.AGy.DH,.string x.AGy.Al,.int .i64 x.AGy.G0,.int .i64 x.AGy.Cn,.int .i64 x.AGy.It,.bool x.AGy.Jr,.int .i64 x.AGy.AM.Ca,.string x.AGy.AM.Al,.string x.AGy.AM.EL,.int .i64 x.AGy.AM.B2,.int .i64 x.AGy.AM.A6,.int .i64 x.AGy.AM.Bc,.int .i64 x.AGy.Dj.Ev,.int .i64 x.AGy.Dj.Hi,.int .i64 x.AGy.Dj.IX,.string x.AGy.Dj.A6,.string x.AGy.Dj.Bc,.int .i64 x.AGy.Dj.Ap,.int .i64 x.AGy.Dj.As,AS]
def AGL.wf(x:AGL):Prop:=A' x.AGF/\x.AGy.wf
@[reducible] def AMz:Shape AGL where
 H:=Value
 size:=26
 cells x h:=AIi x h
 sub x h:=[⟨h,x.AGy.Cf⟩]
 wf:=AGL.wf
 len _ _:=rfl
 one:=by
  intro S w x h Av u hu;have JZ:=Fh (Av _ (ABx ..));simp only[AIi,ABf,ABh,ABi]at hu;rcases hu with rfl|rfl|rfl|rfl|rfl|rfl|rfl|rfl|rfl|rfl|rfl|rfl|rfl|rfl|rfl|rfl|rfl|rfl|rfl|rfl|rfl|rfl|rfl|rfl|rfl|rfl<;>first|rfl|exact JZ
@[reducible] instance AH3:Be AGL:=Be.D5 AMz
variable(A:Bv) (p:AGl) (KX J5 Kd Ke IN Ls:Value) (B:Bv) (RF N8 OF P1 P2 SK:Value) (Z:Bv) (gx Zp mg Aqc Aqd AoB rv:Value) (q1 q2:Int) (o1 o2:Bool)
theorem AMx(cs:List Value)(o:Nat)(us:List Value)(h:o+us.length<=cs.length):MO cs o us=cs.take o++(us++cs.drop (o+us.length)):=by
 refine List.ext_getElem? fun j=>?_;rw[T0 us cs o j h];by_cases Af:o<=j
 ·
  by_cases h2:j<o+us.length
  ·
   rw[AA_ ⟨Af,h2⟩,ADE (by rw[ABz];omega),ADP (by rw[ABz];omega),ABz,show j-min o cs.length=j-o by omega]
  rw[AA9 (fun z=>h2 z.2),ADE (by rw[ABz];omega),ADE (by rw[ABz];omega),ADh,ABz,show o+us.length+(j-min o cs.length-us.length)=j by omega]
 rw[AA9 (fun z=>Af z.1),ADP (by rw[ABz];omega),ACl,AA_ AMT]
def AGr(A:Bv)(KX J5 Kd Ke IN Ls:Value)(B:Bv)(RF N8 OF P1 P2 SK:Value)(rv:Value)(q1 q2:Int)(o1 o2:Bool):List Value:=.int .i64 A.CZ::.int .i64 A.DX::.bool A.Du::.string A.A6::.string A.Bc::.int .i64 A.Dn::KX::J5::Kd::Ke::IN::.int .i64 A.Bt.Ev::.int .i64 A.Bt.Hi::.int .i64 A.Bt.IX::.string A.Bt.A6::.string A.Bt.Bc::.int .i64 A.Bt.Ap::.int .i64 A.Bt.As::.int .i64 A.CW.Ev::.int .i64 A.CW.Hi::.int .i64 A.CW.IX::.string A.CW.A6::.string A.CW.Bc::.int .i64 A.CW.Ap::.int .i64 A.CW.As::Ls::.int .i64 A.Jc::.int .i64 A.JL::.int .i64 A.GW::.int .i64 B.CZ::.int .i64 B.DX::.bool B.Du::.string B.A6::.string B.Bc::.int .i64 B.Dn::RF::N8::OF::P1::P2::.int .i64 B.Bt.Ev::.int .i64 B.Bt.Hi::.int .i64 B.Bt.IX::.string B.Bt.A6::.string B.Bt.Bc::.int .i64 B.Bt.Ap::.int .i64 B.Bt.As::.int .i64 B.CW.Ev::.int .i64 B.CW.Hi::.int .i64 B.CW.IX::.string B.CW.A6::.string B.CW.Bc::.int .i64 B.CW.Ap::.int .i64 B.CW.As::SK::.int .i64 B.Jc::.int .i64 B.JL::.int .i64 B.GW::rv::.int .i64 0::.int .i64 q1::.int .i64 q2::.bool false::.bool o1::.bool o2::[]
@[reducible] def AJF(b:Nat)(p:AGl)(KX J5 Kd Ke IN Ls RF N8 OF P1 P2 SK rv:Value):Go.A_.Own:=[AO b 51 (AGr p.a KX J5 Kd Ke IN Ls p.b RF N8 OF P1 P2 SK rv p.q1 p.q2 p.o1 p.o2),@row AGL AH3 81 rv p.all]
@[reducible] def AH1(p:AGl)(KX J5 Kd Ke IN Ls RF N8 OF P1 P2 SK _:Value):List Atom:=[⟨KX,p.a.Aj⟩,⟨J5,p.a.Bz⟩,⟨Kd,p.a.AA⟩,⟨Ke,p.a.Bj⟩,⟨IN,p.a.CX⟩,⟨Ls,p.a.Cf⟩,⟨RF,p.b.Aj⟩,⟨N8,p.b.Bz⟩,⟨OF,p.b.AA⟩,⟨P1,p.b.Bj⟩,⟨P2,p.b.CX⟩,⟨SK,p.b.Cf⟩]
@[reducible] def AG_(b:Nat)(nd:List Nat)(p:AGl):C4:=RW (σ:=Value×Value×Value×Value×Value×Value×Value×Value×Value×Value×Value×Value×Value) nd (fun h=>AJF b p h.1 h.2.1 h.2.2.1 h.2.2.2.1 h.2.2.2.2.1 h.2.2.2.2.2.1 h.2.2.2.2.2.2.1 h.2.2.2.2.2.2.2.1 h.2.2.2.2.2.2.2.2.1 h.2.2.2.2.2.2.2.2.2.1 h.2.2.2.2.2.2.2.2.2.2.1 h.2.2.2.2.2.2.2.2.2.2.2.1 h.2.2.2.2.2.2.2.2.2.2.2.2) (fun h=>AH1 p h.1 h.2.1 h.2.2.1 h.2.2.2.1 h.2.2.2.2.1 h.2.2.2.2.2.1 h.2.2.2.2.2.2.1 h.2.2.2.2.2.2.2.1 h.2.2.2.2.2.2.2.2.1 h.2.2.2.2.2.2.2.2.2.1 h.2.2.2.2.2.2.2.2.2.2.1 h.2.2.2.2.2.2.2.2.2.2.2.1 h.2.2.2.2.2.2.2.2.2.2.2.2) (fun _=>p.a.wf/\p.b.wf)
section
variable{c:Cj} {ops:Array Oper} {Q:AuE} {env:Env} {L:Go.A_.Own} {D:List Atom} {b:Nat} {nd:List Nat}
theorem AIr{L0:Go.A_.Own}{l:List Oper}(Dv:L0=AO b 51 (AGr p.a KX J5 Kd Ke IN Ls p.b RF N8 OF P1 P2 SK rv p.q1 p.q2 p.o1 p.o2)::@row AGL AH3 81 rv p.all::L)(AU:p.a.wf/\p.b.wf)(DK:Bg (AH1 p KX J5 Kd Ke IN Ls RF N8 OF P1 P2 SK rv) D)(k:∀nd,Cb Q c ops l env (AG_ b nd p::L) (D)):Cb Q c ops l env (L0) (D):=
 xV (LL:=fun h:Value×Value×Value×Value×Value×Value×Value×Value×Value×Value×Value×Value×Value=>AJF b p h.1 h.2.1 h.2.2.1 h.2.2.2.1 h.2.2.2.2.1 h.2.2.2.2.2.1 h.2.2.2.2.2.2.1 h.2.2.2.2.2.2.2.1 h.2.2.2.2.2.2.2.2.1 h.2.2.2.2.2.2.2.2.2.1 h.2.2.2.2.2.2.2.2.2.2.1 h.2.2.2.2.2.2.2.2.2.2.2.1 h.2.2.2.2.2.2.2.2.2.2.2.2) (DD:=fun h=>AH1 p h.1 h.2.1 h.2.2.1 h.2.2.2.1 h.2.2.2.2.1 h.2.2.2.2.2.1 h.2.2.2.2.2.2.1 h.2.2.2.2.2.2.2.1 h.2.2.2.2.2.2.2.2.1 h.2.2.2.2.2.2.2.2.2.1 h.2.2.2.2.2.2.2.2.2.2.1 h.2.2.2.2.2.2.2.2.2.2.2.1 h.2.2.2.2.2.2.2.2.2.2.2.2) (I:=fun _=>p.a.wf/\p.b.wf) [] L (KX,J5,Kd,Ke,IN,Ls,RF,N8,OF,P1,P2,SK,rv) Dv AU DK (k _)
theorem AIJ{p:AGl}{x:Code}(k:∀KX J5 Kd Ke IN Ls RF N8 OF P1 P2 SK rv,p.a.wf/\p.b.wf->CF c x Q env (AO b 51 (AGr p.a KX J5 Kd Ke IN Ls p.b RF N8 OF P1 P2 SK rv p.q1 p.q2 p.o1 p.o2)::@row AGL AH3 81 rv p.all::L) (⟨KX,p.a.Aj⟩::⟨J5,p.a.Bz⟩::⟨Kd,p.a.AA⟩::⟨Ke,p.a.Bj⟩::⟨IN,p.a.CX⟩::⟨Ls,p.a.Cf⟩::⟨RF,p.b.Aj⟩::⟨N8,p.b.Bz⟩::⟨OF,p.b.AA⟩::⟨P1,p.b.Bj⟩::⟨P2,p.b.CX⟩::⟨SK,p.b.Cf⟩::D)):CF c x Q env (AG_ b nd p::L) (D):=
 rN 0 rfl fun⟨KX,J5,Kd,Ke,IN,Ls,RF,N8,OF,P1,P2,SK,rv⟩ h=>k KX J5 Kd Ke IN Ls RF N8 OF P1 P2 SK rv h
theorem AMi{L0:Go.A_.Own}{x:Code}(Dv:L0=AO b 51 (AGr p.a KX J5 Kd Ke IN Ls p.b RF N8 OF P1 P2 SK rv p.q1 p.q2 p.o1 p.o2)::@row AGL AH3 81 rv p.all::L)(AU:p.a.wf/\p.b.wf)(DK:Bg (AH1 p KX J5 Kd Ke IN Ls RF N8 OF P1 P2 SK rv) D)(k:∀nd,CF c x Q env (AG_ b nd p::L) (D)):CF c x Q env (L0) (D):=
 nO (LL:=fun h:Value×Value×Value×Value×Value×Value×Value×Value×Value×Value×Value×Value×Value=>AJF b p h.1 h.2.1 h.2.2.1 h.2.2.2.1 h.2.2.2.2.1 h.2.2.2.2.2.1 h.2.2.2.2.2.2.1 h.2.2.2.2.2.2.2.1 h.2.2.2.2.2.2.2.2.1 h.2.2.2.2.2.2.2.2.2.1 h.2.2.2.2.2.2.2.2.2.2.1 h.2.2.2.2.2.2.2.2.2.2.2.1 h.2.2.2.2.2.2.2.2.2.2.2.2) (DD:=fun h=>AH1 p h.1 h.2.1 h.2.2.1 h.2.2.2.1 h.2.2.2.2.1 h.2.2.2.2.2.1 h.2.2.2.2.2.2.1 h.2.2.2.2.2.2.2.1 h.2.2.2.2.2.2.2.2.1 h.2.2.2.2.2.2.2.2.2.1 h.2.2.2.2.2.2.2.2.2.2.1 h.2.2.2.2.2.2.2.2.2.2.2.1 h.2.2.2.2.2.2.2.2.2.2.2.2) (I:=fun _=>p.a.wf/\p.b.wf) [] L (KX,J5,Kd,Ke,IN,Ls,RF,N8,OF,P1,P2,SK,rv) Dv AU DK (k _)
theorem AIa{L0:Go.A_.Own}{e:Exit}(Dv:L0=AO b 51 (AGr p.a KX J5 Kd Ke IN Ls p.b RF N8 OF P1 P2 SK rv p.q1 p.q2 p.o1 p.o2)::@row AGL AH3 81 rv p.all::L)(AU:p.a.wf/\p.b.wf)(DK:Bg (AH1 p KX J5 Kd Ke IN Ls RF N8 OF P1 P2 SK rv) D)(k:∀nd,Eg c Q e env (AG_ b nd p::L) (D)):Eg c Q e env (L0) (D):=
 nP (LL:=fun h:Value×Value×Value×Value×Value×Value×Value×Value×Value×Value×Value×Value×Value=>AJF b p h.1 h.2.1 h.2.2.1 h.2.2.2.1 h.2.2.2.2.1 h.2.2.2.2.2.1 h.2.2.2.2.2.2.1 h.2.2.2.2.2.2.2.1 h.2.2.2.2.2.2.2.2.1 h.2.2.2.2.2.2.2.2.2.1 h.2.2.2.2.2.2.2.2.2.2.1 h.2.2.2.2.2.2.2.2.2.2.2.1 h.2.2.2.2.2.2.2.2.2.2.2.2) (DD:=fun h=>AH1 p h.1 h.2.1 h.2.2.1 h.2.2.2.1 h.2.2.2.2.1 h.2.2.2.2.2.1 h.2.2.2.2.2.2.1 h.2.2.2.2.2.2.2.1 h.2.2.2.2.2.2.2.2.1 h.2.2.2.2.2.2.2.2.2.1 h.2.2.2.2.2.2.2.2.2.2.1 h.2.2.2.2.2.2.2.2.2.2.2.1 h.2.2.2.2.2.2.2.2.2.2.2.2) (I:=fun _=>p.a.wf/\p.b.wf) [] L (KX,J5,Kd,Ke,IN,Ls,RF,N8,OF,P1,P2,SK,rv) Dv AU DK (k _)
theorem APj:MO (AGr A KX J5 Kd Ke IN Ls B RF N8 OF P1 P2 SK rv q1 q2 o1 o2) 0 (BY Z gx Zp mg Aqc Aqd AoB)=AGr Z gx Zp mg Aqc Aqd AoB B RF N8 OF P1 P2 SK rv q1 q2 o1 o2:=by
 rw[AMx _ _ _ (by show 0+29<=65;decide)];rfl
theorem APk:MO (AGr A KX J5 Kd Ke IN Ls B RF N8 OF P1 P2 SK rv q1 q2 o1 o2) 29 (BY Z gx Zp mg Aqc Aqd AoB)=AGr A KX J5 Kd Ke IN Ls Z gx Zp mg Aqc Aqd AoB rv q1 q2 o1 o2:=by
 rw[AMx _ _ _ (by show 29+29<=65;decide)];rfl
end
open Go.A_ Go.ChangeShapes Go.WideShapes Go.ChangeAt Go.RowKit Go.Proofs Go.Proofs.YtklmcfecakaanaaGreat
theorem Mw:Tryz.prog.cellsOf 3=1:=ARs
theorem MH:MU AG 3 E_:=AfN ABc
theorem Atw:MU AG 22 (@FI Int E_):=rV Tryz.underlying22 Mw ARp MH
theorem ALh:Tryz.prog.cellsOf 35=5:=ARs
theorem AOM:MU AG 35 AMj:=by
 intro H enc w fuel cs x h;have AN:=l0 ACE h;rw[ALh]at AN;obtain⟨Pl,Fb,BW⟩:=Js ACE h 0 0 1 rfl Mw MH;obtain⟨SJ,B4,Ua⟩:=Js ACE h 1 1 1 rfl Mw MH;obtain⟨Ug,DC,Ub⟩:=Js ACE h 2 2 1 rfl Mw MH;obtain⟨XA,Kk,Xs⟩:=Js ACE h 3 3 1 rfl Mw MH;obtain⟨c9,QX,RD⟩:=Js ACE h 4 4 1 rfl Mw MH;have Bw:cs=cs.drop 0:=rfl;rw[Jp cs 0 1 1 rfl,Fb,Jp cs 1 1 2 rfl,B4,Jp cs 2 1 3 rfl,DC,Jp cs 3 1 4 rfl,Kk,Jp cs 4 1 5 rfl,QX,List.drop_eq_nil_of_le (ACo AN)]at Bw;exact⟨⟨Pl,SJ,Ug,XA,c9⟩,(),Bw,by simp,BW,Ua,Ub,Xs,RD⟩
theorem AOL:MU AG 23 (@FI AGA AMj):=rV Tryz.underlying23 ALh ARp AOM
theorem AGW:AIv Tryz.prog 46 45 2 29:=⟨Tryz.underlying46,ARs⟩
theorem AK8:EH AG 47 81 26 264:=EH.mk ARW ARs ARp
theorem AIO:AIv Tryz.prog 48 3 3 1:=⟨Tryz.underlying48,ARs⟩
theorem AIf:AIv Tryz.prog 49 4 3 1:=⟨Tryz.underlying49,ARs⟩
theorem AQh:E3 AG 74 [AI,AI]:=E3.mk ARs
theorem AK':AIv Tryz.prog 74 73 2 1:=⟨Tryz.underlying74,ARs⟩
theorem APe:H5 AG 47 81 26:=⟨ARW,ARs⟩
theorem AQi:E3 AG 81 [ALu,ALu,ALu,ALu,ALu,ALu,ALu,AL7,ALu,ALu,ALu,.bool false,ALu,AL7,AL7,ALu,ALu,ALu,ALu,ALu,ALu,AL7,AL7,ALu,ALu,AI]:=E3.mk ARs
theorem APd:H5 AG 23 35 5:=⟨Tryz.underlying23,ARs⟩
def Hc{α:Type}(k:Nat)(x y:α):α:=if k=0 then x else y
theorem AHt{k:Nat}(h:k<2):k=0\/k=1:=AMT
theorem AKE{p:AGl}{k:Nat}(AK:p.a.wf)(Aq:p.b.wf):(p.st (k:Int)).wf:=by
 unfold AGl.st;split
 · exact AK
 exact Aq
@[reducible] def AMw(k:Nat)(p:AGl)(KX J5 Kd Ke IN Ls RF N8 OF P1 P2 SK:Value):List Atom:=[⟨Hc k KX RF,(p.st (k:Int)).Aj⟩,⟨Hc k J5 N8,(p.st (k:Int)).Bz⟩,⟨Hc k Kd OF,(p.st (k:Int)).AA⟩,⟨Hc k Ke P1,(p.st (k:Int)).Bj⟩,⟨Hc k IN P2,(p.st (k:Int)).CX⟩,⟨Hc k Ls SK,(p.st (k:Int)).Cf⟩]
theorem ALl{p:AGl}{k:Nat}(AE:k<2){KX J5 Kd Ke IN Ls RF N8 OF P1 P2 SK rv:Value}{q1 q2:Int}{o1 o2:Bool}:((AGr p.a KX J5 Kd Ke IN Ls p.b RF N8 OF P1 P2 SK rv q1 q2 o1 o2).drop (0+k*29)).take 29=BY (p.st (k:Int)) (Hc k KX RF) (Hc k J5 N8) (Hc k Kd OF) (Hc k Ke P1) (Hc k IN P2) (Hc k Ls SK):=by
 rcases AHt AE with rfl|rfl<;>rfl
theorem ANf{p:AGl}{k:Nat}(AE:k<2){KX J5 Kd Ke IN Ls RF N8 OF P1 P2 SK rv:Value}{q1 q2:Int}{o1 o2:Bool}(j:Nat){v:Value}(h:(BY (p.st (k:Int)) (Hc k KX RF) (Hc k J5 N8) (Hc k Kd OF) (Hc k Ke P1) (Hc k IN P2) (Hc k Ls SK))[j]? =some v):(AGr p.a KX J5 Kd Ke IN Ls p.b RF N8 OF P1 P2 SK rv q1 q2 o1 o2)[0+k*29+j]? =some v:=by
 have Ay:j<29:=by
  by_cases q:j<29
  · exact q
  rw[ACd (by show 29<=j;omega)]at h;cases h
 rw[<-ALl AE (rv:=rv) (q1:=q1) (q2:=q2) (o1:=o1) (o2:=o2),ACl,AA_ Ay,ADh]at h;exact h
section
variable{c:Cj} {ops:Array Oper} {Q:AuE} {env:Env} {L:Go.A_.Own} {D:List Atom} {b:Nat} {nd:List Nat} {p:AGl} {k:Nat} {KX J5 Kd Ke IN Ls RF N8 OF P1 P2 SK rv:Value} {q1 q2:Int} {o1 o2:Bool}
theorem AOm(AE:k<2)(DK:Bg (AH1 p KX J5 Kd Ke IN Ls RF N8 OF P1 P2 SK rv) D):Bg (AMw k p KX J5 Kd Ke IN Ls RF N8 OF P1 P2 SK++D) D:=fun u hu=>by
 rcases ABm.1 hu with h|h
 ·
  refine DK u ?_;rcases AHt AE with rfl|rfl
  · exact ABm.2 (.inl h:u∈([_,_,_,_,_,_]:List Atom)\/u∈([_,_,_,_,_,_]:List Atom))
  exact ABm.2 (.inr h:u∈([_,_,_,_,_,_]:List Atom)\/u∈([_,_,_,_,_,_]:List Atom))
 exact h
theorem AIt{x:Code}(AE:k<2)(DK:Bg (AH1 p KX J5 Kd Ke IN Ls RF N8 OF P1 P2 SK rv) D)(h:CF c x Q env L (AMw k p KX J5 Kd Ke IN Ls RF N8 OF P1 P2 SK++D)):CF c x Q env L D:=fun a w f s d=>h a w f s (d.sub (AOm AE DK))
theorem lT(AE:k<2){A B Z:Bv}{gx Zp mg Aqc Aqd AoB:Value}:MO (AGr A KX J5 Kd Ke IN Ls B RF N8 OF P1 P2 SK rv q1 q2 o1 o2) (0+k*29) (BY Z gx Zp mg Aqc Aqd AoB)=AGr (Hc k Z A) (Hc k gx KX) (Hc k Zp J5) (Hc k mg Kd) (Hc k Aqc Ke) (Hc k Aqd IN) (Hc k AoB Ls) (Hc k B Z) (Hc k RF gx) (Hc k N8 Zp) (Hc k OF mg) (Hc k P1 Aqc) (Hc k P2 Aqd) (Hc k SK AoB) rv q1 q2 o1 o2:=by
 rcases AHt AE with rfl|rfl
 · exact APj ..
 exact APk ..
theorem AjK{t:TypeId}{q:String}{af:Array Edge}{x y:Operand}{E:TypeId}{l:List Oper}(i:Nat)(AE:k<2){A B Z:Bv}{gx Zp mg Aqc Aqd AoB:Value}(Ab:AL env x=some (.pointer (some ⟨b,0+k*29,none⟩)))(Bf:AL env y=some (.agg (BY Z gx Zp mg Aqc Aqd AoB).toArray))(Ag:L[i]? =some (AO b 51 (AGr A KX J5 Kd Ke IN Ls B RF N8 OF P1 P2 SK rv q1 q2 o1 o2)))(Av:Oc c.P E 29)
  (hu:gx.oneCell'=true/\Zp.oneCell'=true/\mg.oneCell'=true/\Aqc.oneCell'=true/\Aqd.oneCell'=true/\AoB.oneCell'=true)(h:Cb Q c ops l env (L.set i (AO b 51 (AGr (Hc k Z A) (Hc k gx KX) (Hc k Zp J5) (Hc k mg Kd) (Hc k Aqc Ke) (Hc k Aqd IN) (Hc k AoB Ls) (Hc k B Z) (Hc k RF gx) (Hc k N8 Zp) (Hc k OF mg) (Hc k P1 Aqc) (Hc k P2 Aqd) (Hc k SK AoB) rv q1 q2 o1 o2))) D):Cb Q c ops (⟨none,.store E x y,t,q,af,none⟩::l) env L D:=
 stM i (us:=BY Z gx Zp mg Aqc Aqd AoB) Ab Bf Ag Av (by obtain⟨JZ,o1,o2,IJ,J0,Ks⟩:=hu;simp only[ABn,ABr,ABp,JZ,o1,o2,IJ,J0,Ks];rfl) (by show 0+k*29+29<=65;omega) (by rw[lT AE];exact h)
end
section
variable{c:Cj} {ops:Array Oper} {J:Cj->Array Oper->List Oper->Env->Go.A_.Own->List Atom->Prop} [Dr:Ip J] {env:Env} {L:Go.A_.Own} {D:List Atom} {rest:List Oper} {d:Nat} {v:Value} {t:TypeId} {q:String} {af:Array Edge} {x:Operand} {b:Nat} {p:AGl} {k:Nat} {KX J5 Kd Ke IN Ls RF N8 OF P1 P2 SK rv:Value} {q1 q2:Int} {o1 o2:Bool} {E:TypeId}
include Dr
theorem AHo(i j:Nat)(AE:k<2)(Ab:AL env x=some (.pointer (some ⟨b,0+k*29+j,none⟩)))(Ag:L[i]? =some (AO b 51 (AGr p.a KX J5 Kd Ke IN Ls p.b RF N8 OF P1 P2 SK rv q1 q2 o1 o2)))(Av:Nv c.P E)(BC:(BY (p.st (k:Int)) (Hc k KX RF) (Hc k J5 N8) (Hc k Kd OF) (Hc k Ke P1) (Hc k IN P2) (Hc k Ls SK))[j]? =some v)(Ao:Nat.blt d c.n=true)(h:J c ops rest ((d,v)::env) L D):J c ops (⟨some d,.load E x,t,q,af,none⟩::rest) env L D:=
 ME i Ab Ag Av (ANf AE j BC) Ao h
theorem AL1(i:Nat)(AE:k<2)(Ab:AL env x=some (.pointer (some ⟨b,0+k*29,none⟩)))(Ag:L[i]? =some (AO b 51 (AGr p.a KX J5 Kd Ke IN Ls p.b RF N8 OF P1 P2 SK rv q1 q2 o1 o2)))(Av:Oc c.P E 29)(Ao:Nat.blt d c.n=true)(h:J c ops rest ((d,.agg (BY (p.st (k:Int)) (Hc k KX RF) (Hc k J5 N8) (Hc k Kd OF) (Hc k Ke P1) (Hc k IN P2) (Hc k Ls SK)).toArray)::env) L D):J c ops (⟨some d,.load E x,t,q,af,none⟩::rest) env L D:=
 BJ i (BY (p.st (k:Int)) (Hc k KX RF) (Hc k J5 N8) (Hc k Kd OF) (Hc k Ke P1) (Hc k IN P2) (Hc k Ls SK)) Ab Ag Av (ALl AE) Ao h
end
def AJy(l:List Df)(c:Int):Option Nat:=Gd l.length (fun j=>decide ((l.getD j default).Ap=c))
def AIn(l:List Df)(c:Int):Int:=match AJy l c with
 |some j=>(l.getD j default).As
 |none=>0
def AJC(l:List Df)(c q:Int):Bool:=Avx l&&decide (AIn l c>0)&&decide (AIn l c>=q)
theorem ANI{l:List Df}(h:Avx l=true){j:Nat}(Ay:j<l.length):Au5 (l.getD j default).As=true/\∀k,k<j->(l.getD k default).Ap<(l.getD j default).Ap:=by
 have C0:=Nz.1 h;have Af:=C0 j Ay;simp only[ABe,ABD,ABI,ABl]at Af;refine⟨Af.2,?_⟩;have step:∀m,m+1<l.length->(l.getD m default).Ap<(l.getD (m+1) default).Ap:=fun m hm=>by
  have h2:=C0 (m+1) hm;simp only[ABe,ABD,ABI,ABl]at h2;have:=h2.1.1;simp only[Nh]at this;omega
 intro k AE;have:∀d,k+d+1<=j->(l.getD k default).Ap<(l.getD (k+d+1) default).Ap:=fun d=>by
  induction d with
  |zero=>exact fun AJ=>step k AMT
  |succ d Cg=>
   intro AJ;have Af:=Cg AMT;have h2:=step (k+d+1) AMT;rw[show k+(d+1)+1=k+d+1+1 by omega];omega
 have:=this (j-k-1) AMT
 rwa [show k+(j-k-1)+1=j by omega]at this
theorem AOQ{l:List Df}(h:Avx l=true)(c q:Int):kP l c q=AJC l c q:=by
 unfold kP AJC;rw[Ayo,h];cases e:AJy l c with
 |none=>
  have Ge:U8 l c=false:=by
   unfold U8;cases DC:X' l c with
   |none=>rfl
   |some j=>
    have:=AEe.1 e j (ABw.1 (List.mem_of_find?_eq_some DC));simpa using this
  simp[Ge,AIn,e]
 |some j=>
  have Ay:=Q4 e;have Bm:=(ADz.1 e).1;simp only[ABa]at Bm;obtain⟨hs,C_⟩:=ANI h Ay;have DC:X' l c=some j:=Tc Ay (fun k AE=>ABM (by have:=C_ k AE;omega)) (ABG AMT);have Ge:U8 l c=true:=by
   unfold U8;rw[DC];exact ABG Bm
  have WA:(l.getD j default).As>0:=by
   simp only[Au5,ABb,ABa]at hs;omega
  rw[Ge,V6,DC,AIn,e];show(true&&decide ((l.getD j default).As>=q)&&decide (IA true=0))=(true&&decide ((l.getD j default).As>0)&&decide ((l.getD j default).As>=q));rw[ABG WA,ABG ANK];cases decide ((l.getD j default).As>=q)<;>rfl
end Go.Apw
