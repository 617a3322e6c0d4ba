/- Part 9 of shardWhole_holds. -/
import Derived.Test.YtklmcfecakaanaaGreatSq8

set_option maxRecDepth 20000
set_option maxHeartbeats 1000000
namespace Go
theorem ABd:false≠true:=@Bool.false_ne_true
end Go
open Int renaming add_zero→AR1
open List renaming map_congr_left→ART,map_map→ARS,mem_append_left→AC9,mem_append_right→ACV,mem_filter→ABZ,pairwise_iff_getElem→ACW,set_set→ABL
open Go.A_
namespace Go.Apw
theorem AIQ{S T F:Bv}(CK:T.CZ=S.CZ){c q:Int}(Bm:AGB T.Bj c q=AGB S.Bj c q)(x:Int):AGB (AGH T F x) c q=AGB (AGH S F x) c q:=by
 unfold AGH;simp only[CK];split
 · exact Bm
 rfl
theorem ANj{S T F:Bv}(CK:T.CZ=S.CZ){x c q:Int}(h:¬x=S.CZ):AGB (AGH T F x) c q=AGB (AGH S F x) c q:=by
 unfold AGH;rw[CK,AA9 h,AA9 h]
theorem AIR{l:List Bx}(h:l.Pairwise (fun a b=>¬fX a b)){d:Bx}(AJ:d∈l)(BI:¬d.C3=1):AGB l d.Ap d.As=false:=by
 rw[Bool.eq_false_iff];intro q;obtain⟨e,he,hs,f⟩:=AHZ.1 q;rw[AG4 h he AJ hs]at f;exact BI f
theorem ALk{l:List Bx}{d:Bx}(AJ:d∈l)(BI:d.C3=1):AGB l d.Ap d.As=true:=AHZ.2 ⟨d,AJ,⟨rfl,rfl⟩,BI⟩
theorem AJZ{l:List Bx}(h:l.Pairwise (fun a b=>¬fX a b)){i:Nat}(Ag:i<l.length){e:Bx}(hs:fX e (l.getD i default)){c q:Int}(Ao:YB c q e->¬e.C3=1/\¬(l.getD i default).C3=1):AGB (l.set i e) c q=AGB l c q:=by
 rw[ACy,AHZ,AHZ];constructor
 · rintro⟨d,AJ,a,b⟩;rcases(AHA h Ag hs).1 AJ with rfl|⟨AJ,_⟩
   · exact absurd b (Ao a).1
   exact⟨d,AJ,a,b⟩
 rintro⟨d,AJ,a,b⟩;refine⟨d,(AHA h Ag hs).2 (.inr ⟨AJ,fun q=>?_⟩),a,b⟩;have:d=l.getD i default:=AG4 h AJ (Hl Ag) ⟨q.1.trans hs.1,q.2.trans hs.2⟩;exact(Ao ⟨q.1.symm.trans a.1,q.2.symm.trans a.2⟩).2 (this▸b)
theorem APr{S T F:Bv}(h:AGp S F)(k:AGp F S){d:Bx}{x:BX}(LY:T.CZ=S.CZ/\T.Bj=S.Bj++[d]/\T.AA=S.AA++[x]/\T.Aj=S.Aj/\T.CX=S.CX)
 (hm:∀m∈S.Bz,∃n∈T.Bz,n.Ap=m.Ap/\m.As<=n.As)(Ao:∀m∈S.Bz,m.Ap=S.CZ->m.As<d.As)(eO:∃n∈T.Bz,n.Ap=S.CZ/\d.As<=n.As)
 (d0:d.Ap=S.CZ/\d.DN=0/\d.DO=0/\d.C3=0)(Pl:x.Ca=2/\x.Ap=S.CZ/\x.DH=S.CZ/\x.As=d.As/\x.AM.Al=d.Al/\x.AM.B2= -d.B2)(Ab:∃a∈S.Aj,a.Al=d.Al)(A7:d.EL∈F.Aj.map (·.Al))(Fx:d.B2<=9223372036854775807):AGI S T F:=by
 obtain⟨CK,AJ,hw,AK,he⟩:=LY;obtain⟨d1,d2,d3,d4⟩:=d0;obtain⟨SJ,Ug,XA,c9,c_,mE⟩:=Pl;have AGt:∀{e},e∈T.Bj↔e∈S.Bj\/e=d:=fun{e}=>by rw[AJ,ABm,ADe]
 have AIm:∀{e},e∈T.AA↔e∈S.AA\/e=x:=fun{e}=>by rw[hw,ABm,ADe]
 have eB:∀c q,AGB T.Bj c q=AGB S.Bj c q:=fun c q=>by
  rw[ACy,AHZ,AHZ];constructor
  · rintro⟨e,Af,h2,Bo⟩;rcases AGt.1 Af with Af|rfl
    · exact⟨e,Af,h2,Bo⟩
    omega
  rintro⟨e,Af,h2,Bo⟩;exact⟨e,AGt.2 (.inl Af),h2,Bo⟩
 have LC:∀y,AGz T F y=AGz S F y:=fun y=>AIc CK rfl rfl fun _=>AIQ CK (eB _ _) _;refine⟨⟨by rw[CK];exact h.ne,by rw[CK];exact h.aE,by rw[AK];exact h.AG1,by rw[AK];exact h.ac,?_,fun e q=>?_,fun e q=>?_,fun a q c=>?_,fun a q c hB=>?_,fun y q=>?_,fun y q c=>?_,fun y q c=>?_,fun e q f=>?_,fun e q f f2=>?_,fun e q=>(AGt.1 q).elim (h.AGR e) fun z=>by rw[z];exact A7⟩,⟨by rw[CK];exact k.ne,k.aE,k.AG1,k.ac,k.AGs,k.hH,k.AGO,k.AN,fun a q c hB=>?_,k.AGK,k.hw,fun y q c=>?_,fun e q f=>?_,k.AG3,by rw[AK];exact k.AGR⟩,?_,⟨CK,fun c q f=>by rw[he];exact f,hm,fun e q=>?_,fun e q=>.inl ⟨e,AGt.2 (.inl q),.refl e⟩,fun c q _ _ a q2 f f2=>⟨a,by rw[<-AK];exact q2,f,f2⟩,by rw[AK]⟩⟩
 · rw[AJ];refine List.pairwise_append.2 ⟨h.AGs,List.pairwise_singleton _ _,fun e q b r s=>?_⟩;rw[ADe.1 r]at s;obtain⟨m,NS,Kq,YQ⟩:=h.AGO e q;have:=Ao m NS Kq;have:=s.2;omega
 · rw[CK];rcases AGt.1 q with q|rfl
   · exact h.hH e q
   exact d1
 · rw[CK];rcases AGt.1 q with q|rfl
   · obtain⟨m,NS,Kq,YQ⟩:=h.AGO e q;obtain⟨n,Sp,HG,MF⟩:=hm m NS;exact⟨n,Sp,HG.trans Kq,AMT⟩
   exact eO
 · rw[CK]at c ⊢;rw[AK]at q;obtain⟨DP,e,B4,DC⟩:=h.AN a q c;exact⟨DP,e,AGt.2 (.inl B4),DC⟩
 · rw[CK]at hB;rw[AK]at q;exact h.RX a q c hB
 · rw[AK];rcases AIm.1 q with q|rfl
   · exact h.AGK y q
   rw[c_];exact⟨SJ,Ab⟩
 · rw[CK]at c ⊢;rcases AIm.1 q with q|rfl
   · obtain⟨DP,e,B4,DC⟩:=h.hw y q c;exact⟨DP,e,AGt.2 (.inl B4),DC⟩
   exact⟨XA,d,AGt.2 (.inr rfl),c9.symm,c_.symm,AMT,d4⟩
 · rw[CK]at c;rw[he];rcases AIm.1 q with q|rfl
   · exact h.AG7 y q c
   exact absurd Ug c
 · rcases AGt.1 q with q|rfl
   · exact h.AGU e q f
   omega
 · rcases AGt.1 q with q|rfl
   · obtain⟨b,Aq,r⟩:=h.AG3 e q f f2;exact⟨b,by rw[AK];exact Aq,r⟩
   omega
 · rw[CK];obtain⟨DP,EK,e,B4,DC⟩:=k.RX a q c hB;exact⟨DP,EK,e,AGt.2 (.inl B4),DC⟩
 · rw[CK];obtain⟨DP,EK,FR⟩:=k.AG7 y q c;exact⟨DP,EK,FR.imp (fun⟨e,B4,DC⟩=>⟨e,AGt.2 (.inl B4),DC⟩) id⟩
 · rw[he];rcases k.AGU e q f with⟨b,Aq,r⟩|r
   · exact .inl ⟨b,by rw[AK];exact Aq,r⟩
   exact .inr r
 · unfold tZ;rw[AK,AHm fun y _=>LC y,AHm fun y _=>LC y]
 rcases AGt.1 q with q|rfl
 · exact .inl ⟨e,q,.refl e⟩
 exact .inr ⟨Ao,Fx⟩
theorem APs{S F:Bv}(h:AGp S F)(k:AGp F S){x:BX}(Pl:x.Ca=2/\x.Ap=F.CZ/\x.DH=F.CZ)(Ab:∃a∈S.Aj,a.Al=x.AM.Al)
 (AJ:(∃d∈F.Bj,d.As=x.As/\d.EL=x.AM.Al/\d.B2=x.AM.B2)\/fx S.CX x.Ap x.As=true):AGI S {S with AA:=S.AA++[x]} F:=by
 have AIm:∀{e},e∈S.AA++[x]↔e∈S.AA\/e=x:=fun{e}=>by rw[ABm,ADe]
 refine⟨⟨h.ne,h.aE,h.AG1,h.ac,h.AGs,h.hH,h.AGO,h.AN,h.RX,fun y q=>?_,fun y q c=>?_,fun y q c=>?_,h.AGU,h.AG3,h.AGR⟩,⟨k.ne,k.aE,k.AG1,k.ac,k.AGs,k.hH,k.AGO,k.AN,k.RX,k.AGK,k.hw,k.AG7,k.AGU,k.AG3,k.AGR⟩,rfl,⟨rfl,fun _ _ h=>h,fun m hm=>⟨m,hm,rfl,ADn _⟩,fun e he=>.inl ⟨e,he,.refl e⟩,fun d AJ=>.inl ⟨d,AJ,.refl d⟩,fun _ _ _ _ a AK x y=>⟨a,AK,x,y⟩,rfl⟩⟩
 · rcases AIm.1 q with q|rfl
   · exact h.AGK y q
   exact⟨Pl.1,Ab⟩
 · rcases AIm.1 q with q|rfl
   · exact h.hw y q c
   exact absurd (Pl.2.1.symm.trans c) (fun z=>h.ne z.symm)
 rcases AIm.1 q with q|rfl
 · exact h.AG7 y q c
 exact⟨Pl.2.2,Pl.2.1,AJ⟩
theorem APt{S T F:Bv}(h:AGp S F)(k:AGp F S){i:Nat}(Ag:i<S.Bj.length){e:Bx}(hs:AHf (S.Bj.getD i default) e)(hm:e.DN=(S.Bj.getD i default).DN)(BI:(S.Bj.getD i default).C3=0)(Ano:e.C3=0)(Av:e.DO=1->AHv F e.EL e.Ap e.As)
 (LY:T={S with Bj:=S.Bj.set i e}):AGI S T F:=by
 subst LY;generalize AJ:S.Bj.getD i default=d at hs hm BI;have AGx:d∈S.Bj:=by rw[<-AJ];exact Hl Ag
 obtain⟨s1,s2,IK,Jy,Rw,Rx,cv⟩:=hs;have AG2:fX e (S.Bj.getD i default):=by rw[AJ];exact⟨s1,s2⟩
 have AGt:∀{x},x∈S.Bj.set i e↔x=e\/x∈S.Bj/\¬fX x e:=fun{x}=>AHA h.AGs Ag AG2;have up:∀x∈S.Bj,∃y∈S.Bj.set i e,AHf x y/\y.DN=x.DN/\(x.C3=0->y.C3=0):=fun x Ab=>by
  by_cases q:fX x e
  · obtain rfl:x=d:=AG4 h.AGs Ab AGx ⟨q.1.trans s1,q.2.trans s2⟩;exact⟨e,AGt.2 (.inl rfl),⟨s1,s2,IK,Jy,Rw,Rx,cv⟩,hm,fun _=>Ano⟩
  exact⟨x,AGt.2 (.inr ⟨Ab,q⟩),.refl x,rfl,id⟩
 have eB:∀c q,AGB (S.Bj.set i e) c q=AGB S.Bj c q:=fun c q=>AJZ h.AGs Ag AG2 fun _=>⟨AMT,by rw[AJ];omega⟩;have LC:∀y,AGz {S with Bj:=S.Bj.set i e} F y=AGz S F y:=fun y=>AIc (S:=S) (T:={S with Bj:=S.Bj.set i e}) rfl rfl rfl fun _=>AIQ (S:=S) (T:={S with Bj:=S.Bj.set i e}) rfl (eB _ _) _;refine⟨⟨h.ne,h.aE,h.AG1,h.ac,AI6 h.AGs Ag AG2,fun x q=>?_,fun x q=>?_,fun a q c=>?_,h.RX,h.AGK,fun x q c=>?_,h.AG7,fun x q f=>?_,fun x q f f2=>?_,fun x q=>(AGt.1 q).elim (fun z=>by rw[z,Jy];exact h.AGR d AGx) fun z=>h.AGR x z.1⟩,⟨k.ne,k.aE,k.AG1,k.ac,k.AGs,k.hH,k.AGO,k.AN,fun a q c hB=>?_,k.AGK,k.hw,fun x q c=>?_,k.AGU,k.AG3,k.AGR⟩,?_,⟨rfl,fun _ _ h=>h,fun m hm=>⟨m,hm,rfl,ADn _⟩,fun x q=>?_,fun x q=>?_,fun _ _ _ _ a AK x y=>⟨a,AK,x,y⟩,rfl⟩⟩
 · rcases AGt.1 q with rfl|⟨q,_⟩
   · rw[s1];exact h.hH d AGx
   exact h.hH x q
 · rcases AGt.1 q with rfl|⟨q,_⟩
   · rw[s2];exact h.AGO d AGx
   exact h.AGO x q
 · obtain⟨DP,x,Pl,SJ,Ug,XA,c9,c_⟩:=h.AN a q c;obtain⟨y,Bf,t,J5,Kd⟩:=up x Pl;exact⟨DP,y,Bf,t.2.1.trans SJ,t.2.2.1.trans Ug,t.2.2.2.2.1.trans XA,J5.trans c9,Kd c_⟩
 · obtain⟨DP,z,Pl,SJ,Ug,XA,c9⟩:=h.hw x q c;obtain⟨y,Bf,t,J5,Kd⟩:=up z Pl;exact⟨DP,y,Bf,t.2.1.trans SJ,t.2.2.1.trans Ug,t.2.2.2.2.1.trans XA,Kd c9⟩
 · rcases AGt.1 q with rfl|⟨q,_⟩
   · rcases f with f|f
     · exact .inl (Av f.2)
     omega
   exact h.AGU x q f
 · rcases AGt.1 q with rfl|⟨q,_⟩
   · obtain⟨b,Aq,r⟩:=h.AG3 d AGx BI (hm.symm.trans f2);rw[s1,s2,IK];exact⟨b,Aq,r⟩
   exact h.AG3 x q f f2
 · obtain⟨DP,EK,x,Pl,SJ,Ug,XA⟩:=k.RX a q c hB;obtain⟨y,Bf,t,_⟩:=up x Pl;exact⟨DP,EK,y,Bf,t.2.1.trans SJ,t.2.2.2.1.trans Ug,t.2.2.2.2.1.trans XA⟩
 · obtain⟨DP,EK,FR⟩:=k.AG7 x q c;refine⟨DP,EK,FR.imp (fun⟨z,RF,N8,OF,P1⟩=>?_) id⟩;obtain⟨y,Bf,t,_⟩:=up z RF;exact⟨y,Bf,t.2.1.trans N8,t.2.2.2.1.trans OF,t.2.2.2.2.1.trans P1⟩
 · unfold tZ;rw[AHm fun y _=>LC y,AHm (l:=F.Aj) fun y _=>LC y]
 · rcases AGt.1 q with rfl|⟨q,_⟩
   · exact .inl ⟨d,AGx,s1,s2,IK,Jy,Rw,Rx,cv⟩
   exact .inl ⟨x,q,.refl x⟩
 obtain⟨y,Bf,t,_⟩:=up x q;exact .inl ⟨y,Bf,t⟩
theorem AHz{a:AD}{c q:Int}(GD:¬c=0):Hn a c q=true↔a.BG.Ap=c/\a.BG.As=q:=by
 simp only[Hn,ABb,ABe,ABl,ABa];constructor
 · exact fun h=>⟨h.1.2,h.2⟩
 rintro⟨rfl,rfl⟩;exact⟨⟨GD,rfl⟩,rfl⟩
def AGM(a:AD)(b:Bool):AD:={a with BT:=if b=true then a.BT+a.BG.B2 else a.BT,BG:=XG}
theorem AKL{S F:Bv}(a:AD)(b:Bool):AGz S F (AGM a b)=if b=true then a.BT+a.BG.B2 else a.BT:=by
 show(AGM a b).BT+(if(G_ (AGM a b)&&_)=true then _ else(0:Int))=_;rw[show G_ (AGM a b)=false from rfl,Bool.false_and,AA9 ARp,AR1];rfl
theorem step_end{S T F:Bv}(h:AGp S F)(k:AGp F S){i:Nat}(Ag:i<S.Bj.length){d e:Bx}(AJ:S.Bj.getD i default=d)(hs:AHf d e)(BI:d.C3=0)(Ano:¬e.C3=0)(Af:e.C3=1->d.DN=1/\d.DO=1)
 (LY:T.CZ=S.CZ/\T.Bj=S.Bj.set i e/\T.Aj=S.Aj.map fun a=>if Hn a d.Ap d.As=true then AGM a (decide (e.C3=1))else a)(hm:∀m∈S.Bz,∃n∈T.Bz,n.Ap=m.Ap/\m.As<=n.As)
 (he:∀c q,fx S.CX c q=true->fx T.CX c q=true)(hw:∀x∈T.AA,x∈S.AA/\(x.Ap=S.CZ->¬x.As=d.As)):AGI S T F:=by
 obtain⟨CK,DK,AK⟩:=LY;have AGx:d∈S.Bj:=by rw[<-AJ];exact Hl Ag
 obtain⟨s1,s2,IK,Jy,Rw,Rx,cv⟩:=hs;have AG2:fX e (S.Bj.getD i default):=by rw[AJ];exact⟨s1,s2⟩
 have AGE:=h.hH d AGx;have GD:¬d.Ap=0:=by rw[AGE];exact h.aE
 have AGt:∀{x},x∈T.Bj↔x=e\/x∈S.Bj/\¬fX x e:=fun{x}=>by rw[DK];exact AHA h.AGs Ag AG2
 have up:∀x∈S.Bj,∃y∈T.Bj,AHf x y:=fun x Ab=>by
  by_cases q:fX x e
  · obtain rfl:x=d:=AG4 h.AGs Ab AGx ⟨q.1.trans s1,q.2.trans s2⟩;exact⟨e,AGt.2 (.inl rfl),s1,s2,IK,Jy,Rw,Rx,cv⟩
  exact⟨x,AGt.2 (.inr ⟨Ab,q⟩),.refl x⟩
 have other:∀x∈S.Bj,¬x.As=d.As->x∈T.Bj:=fun x Ab q=>AGt.2 (.inr ⟨Ab,fun z=>q (z.2.trans s2)⟩);have AHS:∀{a},a∈T.Aj↔∃b∈S.Aj,(if Hn b d.Ap d.As=true then AGM b (decide (e.C3=1))else b)=a:=fun{a}=>by rw[AK,AB6]
 have C1:∀a∈T.Aj,¬a.BG.Ap=0->a∈S.Aj/\¬(a.BG.Ap=d.Ap/\a.BG.As=d.As):=fun a q c=>by
  obtain⟨b,Aq,rfl⟩:=AHS.1 q;split at c
  · exact absurd rfl c
  rename_i r;rw[AA9 r];rw[AHz GD]at r;exact⟨Aq,r⟩
 have DY:∀{key c q},¬(c=d.Ap/\q=d.As)->AHv S key c q->AHv T key c q:=fun{key c q} n ⟨b,Aq,x,y,z⟩=>⟨b,AHS.2 ⟨b,Aq,AA9 (by rw[AHz GD,y,z];exact n)⟩,x,y,z⟩;have Je:∀a∈T.Aj,∃b∈S.Aj,a.Al=b.Al/\a.A0=b.A0/\a.Cs=b.Cs:=fun a q=>by
  obtain⟨b,Aq,rfl⟩:=AHS.1 q;refine⟨b,Aq,?_⟩;split<;>exact⟨rfl,rfl,rfl⟩
 have eB:∀c q,¬(c=d.Ap/\q=d.As)->AGB T.Bj c q=AGB S.Bj c q:=fun c q n=>by
  rw[DK];exact AJZ h.AGs Ag AG2 fun z=>absurd ⟨z.1.symm.trans s1,z.2.symm.trans s2⟩ n
 have AN4:AGB S.Bj d.Ap d.As=false:=AIR h.AGs AGx AMT;have AN5:AGB T.Bj d.Ap d.As=decide (e.C3=1):=by
  rw[<-s1,<-s2];cases q:decide (e.C3=1)with
  |true=>exact ALk (AGt.2 (.inl rfl)) (ABA q)
  |false=>exact AIR (by rw[DK];exact AI6 h.AGs Ag AG2) (AGt.2 (.inl rfl)) (ACe q)
 have AIl:∀b,(if Hn b d.Ap d.As=true then AGM b (decide (e.C3=1))else b).Al=b.Al:=fun b=>by split<;>rfl
 have AHr:T.Aj.map (·.Al)=S.Aj.map (·.Al):=by
  rw[AK,ARS];exact ART fun a _=>AIl a
 refine⟨⟨by rw[CK];exact h.ne,by rw[CK];exact h.aE,?_,fun a q=>?_,by rw[DK];exact AI6 h.AGs Ag AG2,fun x q=>?_,fun x q=>?_,fun a q c=>?_,fun a q c hB=>?_,fun x q=>?_,fun x q c=>?_,fun x q c=>?_,fun x q f=>?_,fun x q f f2=>?_,fun x q=>(AGt.1 q).elim (fun z=>by rw[z,Jy];exact h.AGR d AGx) fun z=>h.AGR x z.1⟩,⟨by rw[CK];exact k.ne,k.aE,k.AG1,k.ac,k.AGs,k.hH,k.AGO,k.AN,fun a q c hB=>?_,k.AGK,k.hw,fun x q c=>?_,fun x q f=>?_,k.AG3,by rw[AHr];exact k.AGR⟩,?_,⟨CK,he,hm,fun x q=>?_,fun x q=>.inl (up x q),fun c q dG _ a r x y=>?_,AHr⟩⟩
 · rw[AK];exact tA (fun a _=>AIl a) h.AG1
 · obtain⟨b,Aq,_,y,z⟩:=Je a q;rw[y,z];exact h.ac b Aq
 · rw[CK];rcases AGt.1 q with rfl|⟨q,_⟩
   · rw[s1];exact AGE
   exact h.hH x q
 · rw[CK];have:∃m∈S.Bz,m.Ap=S.CZ/\x.As<=m.As:=by
    rcases AGt.1 q with rfl|⟨q,_⟩
    · rw[s2];exact h.AGO d AGx
    exact h.AGO x q
   obtain⟨m,NS,Kq,YQ⟩:=this;obtain⟨n,Sp,HG,MF⟩:=hm m NS;exact⟨n,Sp,HG.trans Kq,AMT⟩
 · rw[CK]at c ⊢;obtain⟨q1,q2⟩:=C1 a q (by rw[c];exact h.aE);obtain⟨DP,x,Pl,SJ,Ug⟩:=h.AN a q1 c;exact⟨DP,x,other x Pl (fun z=>q2 ⟨c.trans AGE.symm,SJ.symm.trans z⟩),SJ,Ug⟩
 · rw[CK]at hB;exact h.RX a (C1 a q c).1 c hB
 · obtain⟨SJ,b,Aq,Ug⟩:=h.AGK x (hw x q).1;exact⟨SJ,_,AHS.2 ⟨b,Aq,rfl⟩,(AIl b).trans Ug⟩
 · rw[CK]at c ⊢;obtain⟨DP,z,Pl,SJ,Ug⟩:=h.hw x (hw x q).1 c;exact⟨DP,z,other z Pl (fun y=>(hw x q).2 c (SJ.symm.trans y)),SJ,Ug⟩
 · rw[CK]at c;obtain⟨DP,EK,FR⟩:=h.AG7 x (hw x q).1 c;exact⟨DP,EK,FR.imp id (he _ _)⟩
 · rcases AGt.1 q with rfl|⟨q,_⟩
   · rcases f with f|f
     · exact absurd f.1 Ano
     rw[Jy,s1,s2];rcases h.AGU d AGx (.inl ⟨BI,(Af f).2⟩)with r|r
     · exact .inl r
     omega
   exact h.AGU x q f
 · rcases AGt.1 q with rfl|⟨q,r⟩
   · exact absurd f Ano
   exact DY (fun z=>r ⟨z.1.trans s1.symm,z.2.trans s2.symm⟩) (h.AG3 x q f f2)
 · rw[CK];obtain⟨DP,EK,x,Pl,SJ,Ug,XA⟩:=k.RX a q c hB;obtain⟨y,Bf,t⟩:=up x Pl;exact⟨DP,EK,y,Bf,t.2.1.trans SJ,t.2.2.2.1.trans Ug,t.2.2.2.2.1.trans XA⟩
 · rw[CK];obtain⟨DP,EK,FR⟩:=k.AG7 x q c;refine⟨DP,EK,FR.imp (fun⟨z,RF,N8,OF,P1⟩=>?_) id⟩;obtain⟨y,Bf,t⟩:=up z RF;exact⟨y,Bf,t.2.1.trans N8,t.2.2.2.1.trans OF,t.2.2.2.2.1.trans P1⟩
 · exact(k.AGU x q f).imp (DY fun z=>k.ne ((k.hH x q).symm.trans (z.1.trans AGE))) (And.imp id (he _ _))
 · have one:∀b∈S.Aj,Hn b d.Ap d.As=true->b.BG.DH=S.CZ/\b.Al=d.Al/\d.B2= -b.BG.B2:=fun b Aq r=>by
    obtain⟨NY,MK⟩:=(AHz GD).1 r;obtain⟨DP,x,Pl,SJ,Ug,XA,_⟩:=h.AN b Aq (NY.trans AGE);obtain rfl:x=d:=AG4 h.AGs Pl AGx ⟨(h.hH x Pl).trans AGE.symm,SJ.trans MK⟩;exact⟨DP,Ug.symm,XA⟩
   have two:∀b∈F.Aj,b.BG.Ap=d.Ap/\b.BG.As=d.As->b.BG.DH=S.CZ/\b.Al=d.EL/\d.B2=b.BG.B2:=fun b Aq ⟨NY,MK⟩=>by
    obtain⟨DP,_,x,Pl,SJ,Ug,XA⟩:=k.RX b Aq (by rw[NY];exact GD) (fun z=>h.ne (AGE.symm.trans (NY.symm.trans z)));obtain rfl:x=d:=AG4 h.AGs Pl AGx ⟨(h.hH x Pl).trans AGE.symm,SJ.trans MK⟩;exact⟨DP,Ug.symm,XA⟩
   have AJQ:∀b:AD,¬(b.BG.Ap=d.Ap/\b.BG.As=d.As)->AGz T F b=AGz S F b:=fun b n=>AIc CK rfl rfl fun _=>AIQ CK (eB _ _ n) _;have v1:∀b:AD,b.BG.Ap=d.Ap->b.BG.As=d.As->b.BG.DH=S.CZ->AGz S F b=b.BT/\AGz T F b=b.BT+if e.C3=1 then b.BG.B2 else 0:=fun b x y z=>by
    have Om:G_ b=true:=(by rw[G_,ABM (by rw[x];exact GD)];rfl);unfold AGz AGH;rw[x,y,z,CK,AA_ rfl,AA_ rfl,AN4,AN5,Om];simp
   have B4:∀b∈S.Aj,Hn b d.Ap d.As=true->AGz S F b=b.BT:=fun b Aq r=>(v1 b ((AHz GD).1 r).1 ((AHz GD).1 r).2 (one b Aq r).1).1;unfold tZ;rw[AK,ARS];by_cases f:e.C3=1
   · obtain⟨f1,f2⟩:=Af f;obtain⟨Pl,AJs,SJ,Ug⟩:=h.AG3 d AGx BI f1;have AKr:=(AHz (a:=Pl) GD).2 Ug;have APT:=(h.AGU d AGx (.inl ⟨BI,f2⟩)).resolve_right (fun z=>AMT);obtain⟨KX,AJt,J5,Kd⟩:=APT;rw[AKG (x:=Pl) (n:= -d.B2) (g:=AGz S F) ?_ (AMy h.AG1) AJs ?_,AKG (x:=KX) (n:=d.B2) (g:=AGz S F) ?_ (AMy k.AG1) AJt ?_]
     · omega
     · obtain⟨a,b⟩:=v1 KX Kd.1 Kd.2 (two KX AJt Kd).1;rw[a,b,AA_ f,(two KX AJt Kd).2.2]
     · intro y Bf n;exact AJQ y fun z=>n (AIe k Bf AJt ((two y Bf z).2.1.trans J5.symm))
     · show AGz T F (if Hn Pl d.Ap d.As=true then AGM Pl (decide (e.C3=1))else Pl)=_;rw[AA_ AKr,AKL,AA_ (ABG f),B4 Pl AJs AKr,(one Pl AJs AKr).2.2];omega
     intro y Bf n;have r:¬Hn y d.Ap d.As=true:=fun z=>n (AIe h Bf AJs ((one y Bf z).2.1.trans SJ.symm));show AGz T F (if Hn y d.Ap d.As=true then AGM y (decide (e.C3=1))else y)=_;rw[AA9 r];exact AJQ y (by rw[<-AHz GD];exact r)
   congr 1
   · refine AHm fun y Bf=>?_;show AGz T F (if Hn y d.Ap d.As=true then AGM y (decide (e.C3=1))else y)=_;split
     · rename_i r;rw[AKL,AA9 (by rw[ABM f];decide),B4 y Bf r]
     rename_i r;exact AJQ y (by rw[<-AHz GD];exact r)
   refine AHm fun y Bf=>?_;by_cases r:y.BG.Ap=d.Ap/\y.BG.As=d.As
   · obtain⟨a,b⟩:=v1 y r.1 r.2 (two y Bf r).1;rw[a,b,AA9 f,AR1]
   exact AJQ y r
 · rcases AGt.1 q with rfl|⟨q,_⟩
   · exact .inl ⟨d,AGx,s1,s2,IK,Jy,Rw,Rx,cv⟩
   exact .inl ⟨x,q,.refl x⟩
 exact⟨a,(C1 a r (by rw[x];exact dG)).1,x,y⟩
def AHc(l:List AD)(key:ByteArray)(x:F_):List AD:=l.map fun a=>if a.Al=key then{a with BG:=x}else a
theorem AIC(l:List AD)(key:ByteArray)(x:F_):(AHc l key x).map (·.Al)=l.map (·.Al):=by
 unfold AHc;rw[ARS];refine ART fun a _=>?_;show(if a.Al=key then{a with BG:=x}else a).Al=a.Al;split<;>rfl
theorem AHO{l:List AD}{key:ByteArray}{x:F_}{a:AD}:a∈AHc l key x↔(∃b∈l,b.Al=key/\a={b with BG:=x})\/a∈l/\¬a.Al=key:=by
 unfold AHc;rw[AB6];constructor
 · rintro⟨b,Aq,rfl⟩;by_cases e:b.Al=key
   · rw[AA_ e];exact .inl ⟨b,Aq,e,rfl⟩
   rw[AA9 e];exact .inr ⟨Aq,e⟩
 rintro(⟨b,Aq,e,rfl⟩|⟨Aq,e⟩)
 · exact⟨b,Aq,AA_ e⟩
 exact⟨a,Aq,AA9 e⟩
theorem AL5{l:List AD}{key:ByteArray}{x:F_}(h:H6 (·.Al) Ds l):H6 (·.Al) Ds (AHc l key x):=tA (fun a _=>by split<;>rfl) h
theorem AL6{S T F:Bv}{key:ByteArray}{x:F_}(h:AGp S F)(CK:T.CZ=S.CZ){He:AD}(Bw:He∈S.Aj)(AS:He.Al=key)(YK:He.BG.Ap=0)
 (Bm:∀c q y,AGB (AGH T F y) c q=AGB (AGH S F y) c q)(Ao:AGB (AGH S F x.DH) x.Ap x.As=false)(Cl:T.Aj=AHc S.Aj key x):tZ T F=tZ S F:=by
 have LC:∀y,AGz T F y=AGz S F y:=fun y=>AIc CK rfl rfl fun _=>Bm _ _ _;unfold tZ;rw[Cl,AHm (l:=F.Aj) fun y _=>LC y];congr 1;unfold AHc;rw[ARS];refine AHm fun y Bf=>?_;show AGz T F (if y.Al=key then{y with BG:=x}else y)=_;split
 · rename_i e;obtain rfl:y=He:=AIe h Bf Bw (e.trans AS.symm);rw[LC];unfold AGz;simp only;rw[Ao,Bool.and_false,show G_ y=false by rw[G_,ABG YK];rfl];rfl
 exact LC y
theorem APq{S T F:Bv}(h:AGp S F)(k:AGp F S){i:Nat}(Ag:i<S.Bj.length){d:Bx}(AJ:S.Bj.getD i default=d)(BI:d.C3=0){He:AD}(Bw:He∈S.Aj)(AS:He.Al=d.Al)(YK:He.BG.Ap=0)(AH_:¬fx S.CX d.Ap d.As=true)
 (LY:T={S with Bj:=S.Bj.set i {d with DN:=1},Aj:=AHc S.Aj d.Al ⟨d.Ap,d.As,S.CZ, -d.B2⟩}):AGI S T F:=by
 subst LY;have AGx:d∈S.Bj:=by rw[<-AJ];exact Hl Ag
 have AGE:=h.hH d AGx;have GD:¬d.Ap=0:=by rw[AGE];exact h.aE
 have AG2:fX {d with DN:=1} (S.Bj.getD i default):=by rw[AJ];exact⟨rfl,rfl⟩
 have AGt:∀{x},x∈S.Bj.set i {d with DN:=1}↔x={d with DN:=1}\/x∈S.Bj/\¬fX x d:=fun{x}=>AHA h.AGs Ag AG2;have up:∀x∈S.Bj,∃y∈S.Bj.set i {d with DN:=1},AHf x y/\(x.DN=1->y.DN=1)/\y.C3=x.C3:=fun x Ab=>by
  by_cases q:fX x d
  · obtain rfl:x=d:=AG4 h.AGs Ab AGx q;exact⟨_,AGt.2 (.inl rfl),⟨rfl,rfl,rfl,rfl,rfl,id,fun _=>rfl⟩,fun _=>rfl,rfl⟩
  exact⟨x,AGt.2 (.inr ⟨Ab,q⟩),.refl x,id,rfl⟩
 have DY:∀{key c q},¬c=0->AHv S key c q->∃a∈AHc S.Aj d.Al ⟨d.Ap,d.As,S.CZ, -d.B2⟩,a.Al=key/\a.BG.Ap=c/\a.BG.As=q:=fun{key c q} n ⟨b,Aq,x,y,z⟩=>by
  refine⟨b,AHO.2 (.inr ⟨Aq,fun e=>?_⟩),x,y,z⟩;obtain rfl:b=He:=AIe h Aq Bw (e.trans AS.symm);exact n (y.symm.trans YK)
 have eB:∀c q,AGB (S.Bj.set i {d with DN:=1}) c q=AGB S.Bj c q:=fun c q=>AJZ h.AGs Ag AG2 fun _=>⟨by show ¬d.C3=1;omega,by rw[AJ];omega⟩;refine⟨⟨h.ne,h.aE,AL5 h.AG1,fun a q=>?_,AI6 h.AGs Ag AG2,fun x q=>?_,fun x q=>?_,fun a q c=>?_,fun a q c hB=>?_,fun x q=>?_,fun x q c=>?_,h.AG7,fun x q f=>?_,fun x q f f2=>?_,fun x q=>(AGt.1 q).elim (fun z=>by rw[z];exact h.AGR d AGx) fun z=>h.AGR x z.1⟩,⟨k.ne,k.aE,k.AG1,k.ac,k.AGs,k.hH,k.AGO,k.AN,fun a q c hB=>?_,k.AGK,k.hw,fun x q c=>?_,fun x q f=>?_,k.AG3,fun x q=>by rw[AIC];exact k.AGR x q⟩,?_,⟨rfl,fun _ _ h=>h,fun m hm=>⟨m,hm,rfl,ADn _⟩,fun x q=>?_,fun x q=>?_,fun c q dG p a r x y=>?_,AIC _ _ _⟩⟩
 · rcases AHO.1 q with⟨b,Aq,_,rfl⟩|⟨q,_⟩
   · exact h.ac b Aq
   exact h.ac a q
 · rcases AGt.1 q with rfl|⟨q,_⟩
   · exact AGE
   exact h.hH x q
 · rcases AGt.1 q with rfl|⟨q,_⟩
   · exact h.AGO d AGx
   exact h.AGO x q
 · rcases AHO.1 q with⟨b,Aq,e,rfl⟩|⟨q,_⟩
   · exact⟨rfl,_,AGt.2 (.inl rfl),rfl,e.symm,(Int.neg_neg _).symm,rfl,BI⟩
   obtain⟨DP,x,Pl,SJ,Ug,XA,c9,c_⟩:=h.AN a q c;obtain⟨y,Bf,t,J5,Kd⟩:=up x Pl;exact⟨DP,y,Bf,t.2.1.trans SJ,t.2.2.1.trans Ug,t.2.2.2.2.1.trans XA,J5 c9,Kd.trans c_⟩
 · rcases AHO.1 q with⟨b,Aq,e,rfl⟩|⟨q,_⟩
   · exact absurd AGE hB
   exact h.RX a q c hB
 · obtain⟨SJ,b,Aq,Ug⟩:=h.AGK x q;have:b.Al∈(AHc S.Aj d.Al ⟨d.Ap,d.As,S.CZ, -d.B2⟩).map (·.Al):=(by rw[AIC];exact AB6.2 ⟨b,Aq,rfl⟩);obtain⟨KZ,EP,e⟩:=AB6.1 this;exact⟨SJ,KZ,EP,e.trans Ug⟩
 · obtain⟨DP,z,Pl,SJ,Ug,XA,c9⟩:=h.hw x q c;obtain⟨y,Bf,t,J5,Kd⟩:=up z Pl;exact⟨DP,y,Bf,t.2.1.trans SJ,t.2.2.1.trans Ug,t.2.2.2.2.1.trans XA,Kd.trans c9⟩
 · rcases AGt.1 q with rfl|⟨q,_⟩
   · exact h.AGU d AGx f
   exact h.AGU x q f
 · rcases AGt.1 q with rfl|⟨q,_⟩
   · exact⟨_,AHO.2 (.inl ⟨He,Bw,AS,rfl⟩),AS,rfl,rfl⟩
   exact DY (by rw[h.hH x q];exact h.aE) (h.AG3 x q f f2)
 · obtain⟨DP,EK,x,Pl,SJ,Ug,XA⟩:=k.RX a q c hB;obtain⟨y,Bf,t,_⟩:=up x Pl;exact⟨DP,EK,y,Bf,t.2.1.trans SJ,t.2.2.2.1.trans Ug,t.2.2.2.2.1.trans XA⟩
 · obtain⟨DP,EK,FR⟩:=k.AG7 x q c;refine⟨DP,EK,FR.imp (fun⟨z,RF,N8,OF,P1⟩=>?_) id⟩;obtain⟨y,Bf,t,_⟩:=up z RF;exact⟨y,Bf,t.2.1.trans N8,t.2.2.2.1.trans OF,t.2.2.2.2.1.trans P1⟩
 · exact(k.AGU x q f).imp (DY (by rw[k.hH x q];exact k.aE)) id
 · refine AL6 h rfl Bw AS YK (fun c q y=>AIQ (S:=S) (T:={S with Bj:=S.Bj.set i {d with DN:=1},Aj:=AHc S.Aj d.Al ⟨d.Ap,d.As,S.CZ, -d.B2⟩}) rfl (eB c q) y) ?_ rfl;show AGB (if S.CZ=S.CZ then S.Bj else _) d.Ap d.As=false;rw[AA_ rfl];exact AIR h.AGs AGx AMT
 · rcases AGt.1 q with rfl|⟨q,_⟩
   · exact .inl ⟨d,AGx,rfl,rfl,rfl,rfl,rfl,id,fun _=>rfl⟩
   exact .inl ⟨x,q,.refl x⟩
 · obtain⟨y,Bf,t,_⟩:=up x q;exact .inl ⟨y,Bf,t⟩
 rcases AHO.1 r with⟨b,Aq,e,rfl⟩|⟨r,_⟩
 · have x:d.Ap=c:=x;have y:d.As=q:=y;subst x;subst y;exact absurd p AH_
 exact⟨a,r,x,y⟩
theorem step_take{S T F:Bv}(h:AGp S F)(k:AGp F S){d:Bx}(AJ:d∈F.Bj){He:AD}(Bw:He∈S.Aj)(AS:He.Al=d.EL)(YK:He.BG.Ap=0)(AH_:¬fx S.CX d.Ap d.As=true)
 (LY:T={S with Aj:=AHc S.Aj d.EL ⟨d.Ap,d.As,F.CZ,d.B2⟩}):AGI S T F:=by
 subst LY;have AGE:=k.hH d AJ;have DY:∀{key c q},¬c=0->AHv S key c q->∃a∈AHc S.Aj d.EL ⟨d.Ap,d.As,F.CZ,d.B2⟩,a.Al=key/\a.BG.Ap=c/\a.BG.As=q:=fun{key c q} n ⟨b,Aq,x,y,z⟩=>by
  refine⟨b,AHO.2 (.inr ⟨Aq,fun e=>?_⟩),x,y,z⟩;obtain rfl:b=He:=AIe h Aq Bw (e.trans AS.symm);exact n (y.symm.trans YK)
 refine⟨⟨h.ne,h.aE,AL5 h.AG1,fun a q=>?_,h.AGs,h.hH,h.AGO,fun a q c=>?_,fun a q c hB=>?_,fun x q=>?_,h.hw,h.AG7,h.AGU,fun x q f f2=>?_,h.AGR⟩,⟨k.ne,k.aE,k.AG1,k.ac,k.AGs,k.hH,k.AGO,k.AN,k.RX,k.AGK,k.hw,k.AG7,fun x q f=>?_,k.AG3,fun x q=>by rw[AIC];exact k.AGR x q⟩,?_,⟨rfl,fun _ _ h=>h,fun m hm=>⟨m,hm,rfl,ADn _⟩,fun e he=>.inl ⟨e,he,.refl e⟩,fun d AJ=>.inl ⟨d,AJ,.refl d⟩,fun c q dG p a r x y=>?_,AIC _ _ _⟩⟩
 · rcases AHO.1 q with⟨b,Aq,_,rfl⟩|⟨q,_⟩
   · exact h.ac b Aq
   exact h.ac a q
 · rcases AHO.1 q with⟨b,Aq,_,rfl⟩|⟨q,_⟩
   · exact absurd (AGE.symm.trans c) fun z=>h.ne z.symm
   exact h.AN a q c
 · rcases AHO.1 q with⟨b,Aq,e,rfl⟩|⟨q,_⟩
   · exact⟨rfl,AGE,d,AJ,rfl,e.symm,rfl⟩
   exact h.RX a q c hB
 · obtain⟨SJ,b,Aq,Ug⟩:=h.AGK x q;have:b.Al∈(AHc S.Aj d.EL ⟨d.Ap,d.As,F.CZ,d.B2⟩).map (·.Al):=(by rw[AIC];exact AB6.2 ⟨b,Aq,rfl⟩);obtain⟨KZ,EP,e⟩:=AB6.1 this;exact⟨SJ,KZ,EP,e.trans Ug⟩
 · exact DY (by rw[h.hH x q];exact h.aE) (h.AG3 x q f f2)
 · exact(k.AGU x q f).imp (DY (by rw[k.hH x q];exact k.aE)) id
 · refine AL6 h rfl Bw AS YK (fun c q y=>rfl) ?_ rfl;show AGB (if F.CZ=S.CZ then _ else if F.CZ=F.CZ then F.Bj else _) d.Ap d.As=false;rw[AA9 k.ne,AA_ rfl];refine AIR k.AGs AJ fun f=>?_;rcases k.AGU d AJ (.inr f)with⟨b,Aq,x,y,_⟩|r
   · obtain rfl:b=He:=AIe h Aq Bw (x.trans AS.symm);exact absurd (y.symm.trans YK) (by rw[AGE];exact k.aE)
   exact AH_ r.2
 rcases AHO.1 r with⟨b,Aq,e,rfl⟩|⟨r,_⟩
 · have x:d.Ap=c:=x;have y:d.As=q:=y;subst x;subst y;exact absurd p AH_
 exact⟨a,r,x,y⟩
theorem APo{S T F:Bv}(h:AGp S F)(k:AGp F S){c q:Int}{key:ByteArray}{yes:Bool}(AJf:c=F.CZ)(AJ:∀a∈S.Aj,a.Al=key->Hn a c q=true->∃d∈F.Bj,d.As=q/\¬d.C3=0/\yes=decide (d.C3=1))
 (LY:T.CZ=S.CZ/\T.Bj=S.Bj/\T.Bz=S.Bz/\T.Aj=S.Aj.map fun a=>if a.Al=key/\Hn a c q=true then AGM a yes else a)
 (he:∀c q,fx S.CX c q=true->fx T.CX c q=true)(AH:fx T.CX c q=true)(hw:∀x∈T.AA,x∈S.AA):AGI S T F:=by
 obtain⟨CK,DK,UU,AK⟩:=LY;have GD:¬c=0:=by rw[AJf];exact k.aE
 have AHS:∀{a},a∈T.Aj↔∃b∈S.Aj,(if b.Al=key/\Hn b c q=true then AGM b yes else b)=a:=fun{a}=>by rw[AK,AB6]
 have AIl:∀b,(if b.Al=key/\Hn b c q=true then AGM b yes else b).Al=b.Al:=fun b=>by split<;>rfl
 have C1:∀a∈T.Aj,¬a.BG.Ap=0->a∈S.Aj:=fun a r n=>by
  obtain⟨b,Aq,rfl⟩:=AHS.1 r;split at n
  · exact absurd rfl n
  rename_i z;rw[AA9 z];exact Aq
 have Je:∀a∈T.Aj,∃b∈S.Aj,a.Al=b.Al/\a.A0=b.A0/\a.Cs=b.Cs:=fun a r=>by
  obtain⟨b,Aq,rfl⟩:=AHS.1 r;refine⟨b,Aq,?_⟩;split<;>exact⟨rfl,rfl,rfl⟩
 have DY:∀{AKp hB q2},¬(hB=c/\q2=q)->AHv S AKp hB q2->AHv T AKp hB q2:=fun{AKp hB q2} n ⟨b,Aq,x,y,z⟩=>⟨b,AHS.2 ⟨b,Aq,AA9 fun r=>n (by
  obtain⟨NY,MK⟩:=(AHz GD).1 r.2;exact⟨y.symm.trans NY,z.symm.trans MK⟩)⟩,x,y,z⟩
 have AN6:AGH T F=AGH S F:=by
  funext x;unfold AGH;rw[CK,DK]
 have AHr:T.Aj.map (·.Al)=S.Aj.map (·.Al):=by
  rw[AK,ARS];exact ART fun a _=>AIl a
 refine⟨⟨by rw[CK];exact h.ne,by rw[CK];exact h.aE,by rw[AK];exact tA (fun a _=>AIl a) h.AG1,fun a r=>?_,by rw[DK];exact h.AGs,by rw[DK,CK];exact h.hH,by rw[DK,CK,UU];exact h.AGO,fun a r n=>?_,fun a r n MF=>?_,fun x r=>?_,fun x r n=>?_,fun x r n=>?_,by rw[DK];exact h.AGU,fun x r f f2=>?_,by rw[DK];exact h.AGR⟩,⟨by rw[CK];exact k.ne,k.aE,k.AG1,k.ac,k.AGs,k.hH,k.AGO,k.AN,by rw[CK,DK];exact k.RX,k.AGK,k.hw,by rw[CK,DK];exact k.AG7,fun x r f=>?_,k.AG3,by rw[AHr];exact k.AGR⟩,?_,⟨CK,he,by rw[UU];exact fun m hm=>⟨m,hm,rfl,ADn _⟩,by rw[DK];exact fun e he=>.inl ⟨e,he,.refl e⟩,by rw[DK];exact fun d AJ=>.inl ⟨d,AJ,.refl d⟩,fun hB q2 xR _ a r x y=>⟨a,C1 a r (by rw[x];exact xR),x,y⟩,AHr⟩⟩
 · obtain⟨b,Aq,_,y,z⟩:=Je a r;rw[y,z];exact h.ac b Aq
 · rw[CK]at n ⊢;rw[DK];exact h.AN a (C1 a r (by rw[n];exact h.aE)) n
 · rw[CK]at MF;exact h.RX a (C1 a r n) n MF
 · obtain⟨SJ,b,Aq,Ug⟩:=h.AGK x (hw x r);exact⟨SJ,_,AHS.2 ⟨b,Aq,rfl⟩,(AIl b).trans Ug⟩
 · rw[CK]at n ⊢;rw[DK];exact h.hw x (hw x r) n
 · rw[CK]at n;obtain⟨DP,EK,FR⟩:=h.AG7 x (hw x r) n;exact⟨DP,EK,FR.imp id (he _ _)⟩
 · rw[DK]at r;exact DY (fun z=>h.ne ((h.hH x r).symm.trans (z.1.trans AJf))) (h.AG3 x r f f2)
 · by_cases z:x.Ap=c/\x.As=q
   · rcases k.AGU x r f with⟨b,Aq,J5,Kd,Ke⟩|y
     · by_cases w:b.Al=key
       · obtain⟨d,d0,d1,d2,_⟩:=AJ b Aq w ((AHz GD).2 ⟨Kd.trans z.1,Ke.trans z.2⟩);obtain rfl:d=x:=AG4 k.AGs d0 r ⟨(k.hH d d0).trans (k.hH x r).symm,d1.trans z.2.symm⟩;refine .inr ⟨?_,by rw[z.1,z.2];exact AH⟩;rcases f with f|f
         · exact absurd f.1 d2
         exact f
       exact .inl ⟨b,AHS.2 ⟨b,Aq,AA9 fun v=>w v.1⟩,J5,Kd,Ke⟩
     exact .inr ⟨y.1,he _ _ y.2⟩
   exact(k.AGU x r f).imp (DY z) (And.imp id (he _ _))
 have LC:∀y,AGz T F y=AGz S F y:=fun y=>AIc CK rfl rfl fun _=>by rw[AN6]
 unfold tZ;rw[AK,ARS,AHm (l:=F.Aj) fun y _=>LC y];congr 1;refine AHm fun y Bf=>?_;show AGz T F (if y.Al=key/\Hn y c q=true then AGM y yes else y)=_;split
 · rename_i r;obtain⟨d,d0,d1,d2,d3⟩:=AJ y Bf r.1 r.2;obtain⟨NY,MK⟩:=(AHz GD).1 r.2;obtain⟨Om,_⟩:=h.RX y Bf (by rw[NY];exact GD) (fun z=>h.ne (z.symm.trans (NY.trans AJf)));have j9:G_ y=true:=(by rw[G_,ABM (by rw[NY];exact GD)];rfl);rw[AKL,AGz,AGH,Om,AA9 k.ne,AA_ rfl,NY,MK,j9,Bool.true_and];have Bm:AGB F.Bj c q=yes:=by
    rw[d3];have B4:c=d.Ap:=AJf.trans (k.hH d d0).symm;rw[B4,<-d1];cases w:decide (d.C3=1)with
    |true=>exact ALk d0 (ABA w)
    |false=>exact AIR k.AGs d0 (ACe w)
   rw[Bm];split
   · rfl
   exact(AR1 _).symm
 exact LC y
theorem AKu{l:List Bx}(h:l.Pairwise (fun a b=>¬fX a b)){i:Nat}(Ag:i<l.length){x:Bx}:x∈l.eraseIdx i↔x∈l/\¬fX x (l.getD i default):=by
 rw[List.mem_eraseIdx_iff_getElem];constructor
 · rintro⟨j,Ay,n,rfl⟩;refine⟨ACF Ay,fun s=>?_⟩;rw[G3 Ag]at s;rcases Nat.lt_or_gt_of_ne n with q|q
   · exact ACW.1 h j i Ay Ag q s
   exact ACW.1 h i j Ag Ay q ⟨s.1.symm,s.2.symm⟩
 rintro⟨Ab,n⟩;obtain⟨j,Ay,rfl⟩:=List.getElem_of_mem Ab;refine⟨j,Ay,fun e=>n ?_,rfl⟩;subst e;rw[G3 Ay];exact⟨rfl,rfl⟩
theorem APp{S F:Bv}(h:AGp S F)(k:AGp F S){i:Nat}(Ag:i<S.Bj.length){d:Bx}(AJ:S.Bj.getD i default=d)(BI:¬d.C3=0)(AH:fx F.CX d.Ap d.As=true)(Ao:∀a∈F.Aj,¬(a.BG.Ap=d.Ap/\a.BG.As=d.As)):AGI S {S with Bj:=S.Bj.eraseIdx i} F:=by
 have AGx:d∈S.Bj:=by rw[<-AJ];exact Hl Ag
 have AGE:=h.hH d AGx;have AGt:∀{x},x∈S.Bj.eraseIdx i↔x∈S.Bj/\¬fX x d:=fun{x}=>by rw[AKu h.AGs Ag,AJ]
 have sub:∀x∈S.Bj.eraseIdx i,x∈S.Bj:=fun x q=>(AGt.1 q).1;have st:∀x∈S.Bj,¬x.As=d.As->x∈S.Bj.eraseIdx i:=fun x q n=>AGt.2 ⟨q,fun z=>n z.2⟩;have AMA:∀x∈S.Bj,x.C3=0->x∈S.Bj.eraseIdx i:=fun x q f=>AGt.2 ⟨q,fun z=>by
  obtain rfl:x=d:=AG4 h.AGs q AGx z;exact BI f⟩
 have eB:∀c q,¬(c=d.Ap/\q=d.As)->AGB (S.Bj.eraseIdx i) c q=AGB S.Bj c q:=fun c q n=>by
  rw[ACy,AHZ,AHZ];constructor
  · rintro⟨x,Ab,a,b⟩;exact⟨x,sub x Ab,a,b⟩
  rintro⟨x,Ab,a,b⟩;exact⟨x,AGt.2 ⟨Ab,fun z=>n ⟨a.1.symm.trans z.1,a.2.symm.trans z.2⟩⟩,a,b⟩
 refine⟨⟨h.ne,h.aE,h.AG1,h.ac,h.AGs.sublist (AD1 ..),fun x q=>h.hH x (sub x q),fun x q=>h.AGO x (sub x q),fun a q c=>?_,h.RX,h.AGK,fun x q c=>?_,h.AG7,fun x q f=>h.AGU x (sub x q) f,fun x q f f2=>h.AG3 x (sub x q) f f2,fun x q=>h.AGR x (sub x q)⟩,⟨k.ne,k.aE,k.AG1,k.ac,k.AGs,k.hH,k.AGO,k.AN,fun a q c hB=>?_,k.AGK,k.hw,fun x q c=>?_,k.AGU,k.AG3,k.AGR⟩,?_,⟨rfl,fun _ _ h=>h,fun m hm=>⟨m,hm,rfl,ADn _⟩,fun e he=>.inl ⟨e,sub e he,.refl e⟩,fun x q=>?_,fun _ _ _ _ a AK x y=>⟨a,AK,x,y⟩,rfl⟩⟩
 · obtain⟨DP,x,Pl,SJ,Ug,XA,c9,c_⟩:=h.AN a q c;exact⟨DP,x,AMA x Pl c_,SJ,Ug,XA,c9,c_⟩
 · obtain⟨DP,z,Pl,SJ,Ug,XA,c9⟩:=h.hw x q c;exact⟨DP,z,AMA z Pl c9,SJ,Ug,XA,c9⟩
 · obtain⟨DP,EK,x,Pl,SJ,Ug⟩:=k.RX a q c hB;exact⟨DP,EK,x,st x Pl (fun z=>Ao a q ⟨EK.trans AGE.symm,SJ.symm.trans z⟩),SJ,Ug⟩
 · obtain⟨DP,EK,FR⟩:=k.AG7 x q c;refine⟨DP,EK,?_⟩;rcases FR with⟨z,RF,N8,OF⟩|FR
   · by_cases n:z.As=d.As
     · refine .inr ?_;rw[EK,<-AGE,<-N8,n];exact AH
     exact .inl ⟨z,st z RF n,N8,OF⟩
   exact .inr FR
 · have LC:∀y:AD,(y.BG.Ap=d.Ap/\y.BG.As=d.As->¬y.BG.DH=S.CZ)->AGz {S with Bj:=S.Bj.eraseIdx i} F y=AGz S F y:=fun y n=>AIc (S:=S) (T:={S with Bj:=S.Bj.eraseIdx i}) rfl rfl rfl fun _=>by
    by_cases z:y.BG.Ap=d.Ap/\y.BG.As=d.As
    · exact ANj (S:=S) (T:={S with Bj:=S.Bj.eraseIdx i}) rfl (n z)
    exact AIQ (S:=S) (T:={S with Bj:=S.Bj.eraseIdx i}) rfl (eB _ _ z) _
   unfold tZ;congr 1
   · refine AHm fun y Bf=>LC y fun z _=>?_;obtain⟨_,x,Pl,SJ,_,_,_,c_⟩:=h.AN y Bf (z.1.trans AGE);obtain rfl:x=d:=AG4 h.AGs Pl AGx ⟨(h.hH x Pl).trans AGE.symm,SJ.trans z.2⟩;exact BI c_
   exact AHm fun y Bf=>LC y fun z=>absurd z (Ao y Bf)
 by_cases z:fX x d
 · obtain rfl:x=d:=AG4 h.AGs q AGx z;exact .inr AH
 exact .inl ⟨x,AGt.2 ⟨q,z⟩,.refl x⟩
-- ends
theorem AJD{l:List Df}(h:HE l=true){c q:Int}:fx l c q=true↔∃e∈l,e.Ap=c/\q<=e.As:=by
 obtain⟨_,hs⟩:=au.1 h;simp only[fx,h,ABp,ABb,ABa];rw[AcQ hs,oF hs];constructor
 · rintro⟨a,b⟩;obtain⟨x,y⟩:=ZX N1 hs a;exact⟨_,Hl x,y,b⟩
 rintro⟨e,he,x,y⟩;have Ag:=(br N1 hs c).2 ⟨e,he,x⟩;obtain⟨u,v⟩:=ZX N1 hs Ag;refine⟨Ag,?_⟩;rw[lX N1 hs (Hl u) he (v.trans x.symm)];exact y
theorem AO2{l:List Df}{c q:Int}(h:HE l=true)(hw:Jj c q=true):(Kv l c q).2=0/\∃e:Df,e.Ap=c/\q<=e.As/\(Kv l c q).1=FQ (·.Ap) AGn e l/\∀x∈l,x.Ap=c->x.As<=e.As:=by
 obtain⟨_,h2⟩:=au.1 h;rw[Kv,AA9 (by rw[h];decide),AA9 (by rw[hw];decide),AcQ h2,oF h2];cases Ag:G9 (·.Ap) AGn c l with
 |false=>
  rw[AA_ rfl];refine⟨rfl,⟨c,q⟩,rfl,ADn _,by rw[FQ,AA9 (by rw[Ag];decide)],fun x Ab AlA=>?_⟩;rw[(br N1 h2 c).2 ⟨x,Ab,AlA⟩]at Ag;cases Ag
 |true=>
  rw[AA9 ARp];obtain⟨a,b⟩:=ZX N1 h2 Ag;refine⟨rfl,{l.getD (Cz (·.Ap) AGn c l) default with As:=max (l.getD (Cz (·.Ap) AGn c l) default).As q},b,by show q<=max _ _;omega,?_,fun x Ab AlA=>?_⟩
  · rw[FQ,show({l.getD (Cz (·.Ap) AGn c l) default with As:=max (l.getD (Cz (·.Ap) AGn c l) default).As q}:Df).Ap=c from b,AA_ Ag]
  rw[lX N1 h2 Ab (Hl a) (AlA.trans b.symm)];show _<=max _ _;omega
theorem AKB{w:Ah}(h:HE w.S.CX=true){c q:Int}:(∀xQ EJ,fx w.S.CX xQ EJ=true->fx (w.raise c q).S.CX xQ EJ=true)/\(Jj c q=true->fx (w.raise c q).S.CX c q=true):=by
 cases hw:Jj c q with
 |false=>
  have e:w.raise c q=w:=by
   unfold Ah.raise;rw[AA9];rw[Kv,AA9 (by rw[h];decide),AA_ (by rw[hw])];decide
  rw[e];exact⟨fun _ _ z=>z,fun z=>by cases z⟩
 |true=>
  obtain⟨Fb,e,B4,DC,Kk,QX⟩:=AO2 h hw;have Bh:(w.raise c q).S.CX=FQ (·.Ap) AGn e w.S.CX:=by
   unfold Ah.raise;rw[AA_ Fb];exact Kk
  have he:HE (FQ (·.Ap) AGn e w.S.CX)=true:=by
   rw[<-Kk];exact sF Fb
  rw[Bh];have mp:=fun x=>PJ (y:=x) (x:=e) N1 (au.1 h).2;refine⟨fun xQ EJ z=>?_,fun _=>(AJD he).2 ⟨e,(mp e).2 (.inl rfl),B4,DC⟩⟩;obtain⟨x,Ab,SJ,Ug⟩:=(AJD h).1 z;by_cases y:x.Ap=e.Ap
  · have:=QX x Ab (y.trans B4);exact(AJD he).2 ⟨e,(mp e).2 (.inl rfl),by rw[<-y];exact SJ,AMT⟩
  exact(AJD he).2 ⟨x,(mp x).2 (.inr ⟨Ab,y⟩),SJ,Ug⟩
-- marks
def AHl(M N:List BL):Prop:=∀m∈M,∃n∈N,n.Ap=m.Ap/\m.As<=n.As
theorem AHl.refl(M:List BL):AHl M M:=fun m hm=>⟨m,hm,rfl,ADn _⟩
theorem AHl.trans{M N O:List BL}(h:AHl M N)(k:AHl N O):AHl M O:=fun m hm=>by
 obtain⟨n,Ao,a,b⟩:=h m hm;obtain⟨o,A7,c,d⟩:=k n Ao;exact⟨o,A7,c.trans a,AMT⟩
theorem AMN{M:List BL}(h:Fg M=true){m:BL}(hm:∀x∈M,x.Ap=m.Ap->x.As<=m.As):AHl M (LP M m):=fun x Ab=>by
 by_cases e:x.Ap=m.Ap
 · exact⟨m,(Ar8 h).2 (.inl rfl),e.symm,hm x Ab e⟩
 exact⟨x,(Ar8 h).2 (.inr ⟨Ab,e⟩),rfl,ADn _⟩
theorem ALp{w:Ah}{c q:Int}{a:De}:AHl w.S.Bz (w.done c q a).S.Bz:=by
 unfold Ah.done;simp only;split
 · rename_i e;have e:(Oe w.S.Bz c q a).2=0:=e;show AHl w.S.Bz (Oe w.S.Bz c q a).1;unfold Oe at e ⊢;split at e
   · rename_i z;exact absurd e z
   rename_i z;rw[AA9 z];obtain⟨DP,EK,FR,Iz,_⟩:=fs (ACD.1 z);refine AMN DP fun x Ab AlA=>?_;rw[Asa DP Ab EK (AlA.trans FR.symm),Iz];exact ADn _
 exact AHl.refl _
theorem AM8{M:List BL}{c q:Int}(Aq:(IS M c q).2.2=0)(BI:(IS M c q).2.1=true):AHl M (IS M c q).1/\(∀m∈M,m.Ap=c->m.As<q)/\∃n∈(IS M c q).1,n.Ap=c/\q<=n.As:=by
 have hm:=nw Aq;unfold IS at Aq BI hm ⊢;split at Aq
 · cases Aq
 rename_i a;rw[AA9 a]at BI hm ⊢;have a:Fg M=true:=by simpa using a
 split at Aq
 · cases Aq
 rename_i b;rw[AA9 b]at BI hm ⊢;split at Aq
 · cases Aq
 rename_i d;rw[AA9 d]at BI hm ⊢;split at BI
 · cases BI
 rename_i e;rw[AA9 e]at hm ⊢;have C_:∀m∈M,m.Ap=c->m.As<q:=fun m Qn Oo=>by
  have Bm:=As3 a Qn;rw[Oo]at Bm;rw[Bm]at d e;simp only[Bool.true_and,ABa]at d e;omega
 refine⟨AMN a fun x Ab AlA=>?_,C_,_,(Ar8 a).2 (.inl rfl),rfl,ADn _⟩;have:=C_ x Ab AlA;exact Int.le_of_lt this
theorem AM9{M:List BL}{c q:Int}(Aq:(IS M c q).2.2=0)(BI:(IS M c q).2.1=true):∀n∈(IS M c q).1,n.As=q\/n∈M:=by
 unfold IS at Aq BI ⊢;split at Aq
 · cases Aq
 rename_i a;rw[AA9 a]at BI ⊢;have a:Fg M=true:=by simpa using a
 split at Aq
 · cases Aq
 rename_i b;rw[AA9 b]at BI ⊢;split at Aq
 · cases Aq
 rename_i d;rw[AA9 d]at BI ⊢;split at BI
 · cases BI
 rename_i e;rw[AA9 e];intro n Ao;rcases(Ar8 a).1 Ao with rfl|⟨Ao,_⟩
 · exact .inl rfl
 exact .inr Ao
theorem ALd{M:List BL}{c q:Int}(h:Fg M=true)(Bm:Jj c q=true)(Ao:∀m∈M,m.Ap=c->m.As<q):(IS M c q).2.2=0/\(IS M c q).2.1=true:=by
 simp only[Jj,ABb,ABa]at Bm;have AN:(FU M c).2=true->(FU M c).1.As<q:=fun e=>by
  obtain⟨_,b,d⟩:=zM e;exact Ao _ b d
 rw[IS,AA9 (by rw[h];decide),AA9 (by simp only[ABk,ABa];omega),AA9 (by
  simp only[ABb,ABa];rintro⟨a,b⟩;have:=AN a;omega),AA9 (by
  simp only[ABb,ABa];rintro⟨a,b⟩;have:=AN a;omega)]
 exact⟨rfl,rfl⟩
-- on the way
def Fr(S T:Bv):Prop:=T.CZ=S.CZ/\T.Du=S.Du/\T.A6=S.A6/\T.Bc=S.Bc/\T.Dn=S.Dn/\T.Bt=S.Bt/\T.CW=S.CW
theorem Fr.refl(S:Bv):Fr S S:=⟨rfl,rfl,rfl,rfl,rfl,rfl,rfl⟩
theorem Fr.trans{S T hb:Bv}(h:Fr S T)(k:Fr T hb):Fr S hb:=by
 obtain⟨a,b,c,d,e,f,g⟩:=h;obtain⟨EK,Dh,hB,d2,DC,f2,G1⟩:=k;exact⟨EK.trans a,Dh.trans b,hB.trans c,d2.trans d,DC.trans e,f2.trans f,G1.trans g⟩
def AHC(q:Int)(w:Ah):Prop:=(∃e∈w.S.Bj,e.As=q/\e.C3=0)\/∃x∈w.EF,x.Ca=1/\x.Ap=w.S.CZ/\x.As=q
def AHK(Q:Int)(S:Bv):Prop:=∀m∈S.Bz,m.Ap=S.CZ->m.As<=Q
structure AGG (F:Bv) (b:Int) (w v:Ah):Prop where
 Qj:AGI w.S v.S F
 Gw:Fr w.S v.S
 BQ:v.BQ=w.BQ
 op:∀q,AHC q w->AHC q v
 AKs:∀Q,b<=Q->AHK Q w.S->AHK Q v.S
theorem AGG.trans{F:Bv}{b:Int}{w v u:Ah}(h:AGG F b w v)(k:AGG F b v u):AGG F b w u:=⟨h.Qj.trans k.Qj,h.Gw.trans k.Gw,k.BQ.trans h.BQ,fun q a=>k.op q (h.op q a),fun Q x a=>k.AKs Q x (h.AKs Q x a)⟩
theorem AGG.refl{F:Bv}{b:Int}{w:Ah}(h:AGp w.S F)(k:AGp F w.S):AGG F b w w:=⟨.refl h k,.refl _,rfl,fun _ a=>a,fun _ _ a=>a⟩
theorem AH0{w v:Ah}{q:Int}(h:AHC q w)(CK:v.S.CZ=w.S.CZ)(AJ:∀e∈w.S.Bj,e.C3=0->∃f∈v.S.Bj,f.As=e.As/\f.C3=0)(he:∀x∈w.EF,x∈v.EF):AHC q v:=by
 rcases h with⟨e,Af,h2,Bo⟩|⟨x,Af,h2,Bo,BB⟩
 · obtain⟨f,f1,f2,f3⟩:=AJ e Af Bo;exact .inl ⟨f,f1,f2.trans h2,f3⟩
 exact .inr ⟨x,he x Af,h2,by rw[CK];exact Bo,BB⟩
theorem AJL{F:Bv}{b:Int}{w v:Ah}(h:AGp w.S F)(k:AGp F w.S)(BI:Fr w.S v.S)(AJ:v.S.Bj=w.S.Bj)(AK:v.S.Aj=w.S.Aj)(hm:AHl w.S.Bz v.S.Bz)(he:∀c q,fx w.S.CX c q=true->fx v.S.CX c q=true)(hw:∀x∈v.S.AA,x∈w.S.AA)(AN:v.BQ=w.BQ)(Ab:∀x∈w.EF,x∈v.EF)(hu:∀Q,b<=Q->AHK Q w.S->AHK Q v.S):AGG F b w v:=
 ⟨soft h k BI.1 AJ hm he hw (f:=id) (by rw[AK,List.map_id]) fun _ _=>⟨rfl,rfl,rfl,rfl,rfl⟩,BI,AN,fun _ a=>AH0 a BI.1 (fun e x y=>⟨e,by rw[AJ];exact x,rfl,y⟩) Ab,hu⟩
theorem AJh(w:Ah)(c q:Int)(a:De):Fr w.S (w.done c q a).S/\(w.done c q a).S.Bj=w.S.Bj/\(w.done c q a).S.Aj=w.S.Aj/\(w.done c q a).S.CX=w.S.CX/\(w.done c q a).S.AA=w.S.AA/\(w.done c q a).BQ=w.BQ/\(w.done c q a).EF=w.EF++[⟨1,c,q,a⟩]:=by
 unfold Ah.done;simp only;split<;>exact⟨.refl _,rfl,rfl,rfl,rfl,rfl,rfl⟩
theorem AIs(w:Ah)(c q:Int):Fr w.S (w.raise c q).S/\(w.raise c q).S.Bj=w.S.Bj/\(w.raise c q).S.Aj=w.S.Aj/\(w.raise c q).S.Bz=w.S.Bz/\(w.raise c q).S.AA=w.S.AA/\(w.raise c q).BQ=w.BQ/\(w.raise c q).EF=w.EF:=by
 unfold Ah.raise;split<;>exact⟨.refl _,rfl,rfl,rfl,rfl,rfl,rfl⟩
theorem AHK.of{Q:Int}{S T:Bv}(h:AHK Q S)(hm:T.Bz=S.Bz)(CK:T.CZ=S.CZ):AHK Q T:=by
 unfold AHK;rw[hm,CK];exact h
theorem ALq{w:Ah}{c q Q:Int}{a:De}(h:AHK Q w.S):AHK Q (w.done c q a).S:=by
 unfold Ah.done;simp only;split
 · rename_i e;have e:(Oe w.S.Bz c q a).2=0:=e;show ∀m∈(Oe w.S.Bz c q a).1,m.Ap=w.S.CZ->m.As<=Q;unfold Oe at e ⊢;split at e
   · rename_i z;exact absurd e z
   rename_i z;rw[AA9 z];obtain⟨DP,EK,FR,Iz,_⟩:=fs (ACD.1 z);intro m hm Oo;rcases(Ar8 DP).1 hm with rfl|⟨hm,_⟩
   · have:=h _ EK (FR.trans Oo);rw[Iz]at this;exact this
   exact h m hm Oo
 exact h
theorem AO1{F:Bv}{t:Int}{w:Ah}(hw:Ce w.S)(h:AGp w.S F)(k:AGp F w.S)(c q:Int):AGG F t w (w.raise c q):=by
 obtain⟨a,b,d,e,f,g,i⟩:=AIs w c q;exact AJL h k a b d (by rw[e];exact .refl _) (AKB hw.ends).1 (by rw[f];exact fun _ z=>z) g (by rw[i];exact fun _ z=>z) fun _ _ z=>z.of e a.1
theorem AJO{F:Bv}{b:Int}{w:Ah}(h:AGp w.S F)(k:AGp F w.S)(kind c q:Int)(a:De):AGG F b w (w.tell kind c q a):=
 AJL h k (.refl _) rfl rfl (.refl _) (fun _ _ z=>z) (fun _ z=>z) rfl (fun _ z=>AC9 _ z) fun _ _ z=>z
theorem AIU{F:Bv}{t:Int}{w:Ah}(Cl:∀a∈w.S.Aj,Fw a/\D3 a)(Ge:HE w.S.CX=true)(h:AGp w.S F)(k:AGp F w.S){i:Nat}(Ag:i<w.S.Bj.length){d e:Bx}(AJ:w.S.Bj.getD i default=d)(hs:AHf d e)(BI:d.C3=0)(Ano:¬e.C3=0)(Af:e.C3=1->d.DN=1/\d.DO=1)
 (AN9:Is (w.S.Bj.set i e)=true)(AqB:Int):AGG F t w (({w with S:={w.S with Bj:=w.S.Bj.set i e}}:Ah).ends d.Ap d.As AqB):=by
 have AGx:d∈w.S.Bj:=by rw[<-AJ];exact Hl Ag
 have AGE:=h.hH d AGx;have GD:¬d.Ap=0:=by rw[AGE];exact h.aE
 have AG2:fX e (w.S.Bj.getD i default):=by rw[AJ];exact⟨hs.1,hs.2.1⟩
 have AJj:findD (w.S.Bj.set i e) d.Ap d.As=e:=by
  rw[<-hs.1,<-hs.2.1];exact(AIV AN9 ((AHA h.AGs Ag AG2).2 (.inl rfl))).1
 generalize hu:({w with S:={w.S with Bj:=w.S.Bj.set i e}}:Ah)=u;have Zp:u.S={w.S with Bj:=w.S.Bj.set i e}:=by rw[<-hu]
 have mg:u.BQ=w.BQ/\u.EF=w.EF:=by rw[<-hu];exact⟨rfl,rfl⟩
 unfold Ah.ends;simp only;obtain⟨DP,EK,FR,Iz,Lv,KY,OH⟩:=AJh u d.Ap d.As (HN AqB);have VN:=ALp (w:=u) (c:=d.Ap) (q:=d.As) (a:=HN AqB);have wH:=fun Q=>ALq (w:=u) (c:=d.Ap) (q:=d.As) (a:=HN AqB) (Q:=Q);generalize u.done d.Ap d.As (HN AqB)=v at DP EK FR Iz Lv KY OH VN wH;have AMF:u.S.Bj=w.S.Bj.set i e:=by rw[Zp]
 rw[AMF,AJj];generalize Ab:(Ah.drop ({v with S:={v.S with Aj:=v.S.Aj.map fun a=>if Hn a d.Ap d.As=true then(D1 a (decide (e.C3=1))).1 else a}}:Ah) fun x=>decide (x.Ca=2)&&decide (x.Ap=d.Ap)&&decide (x.As=d.As)&&decide (x.DH=v.S.CZ))=x;have SJ:x.S.Aj=w.S.Aj.map fun a=>if Hn a d.Ap d.As=true then AGM a (decide (e.C3=1))else a:=by
  rw[<-Ab];show v.S.Aj.map _=_;rw[FR,Zp];refine ART fun a AK=>?_;split
  · rename_i r;obtain⟨o,z⟩:=Cl a AK;exact(UK z (ep o z (fi r))).2.2.1
  rfl
 have ANL:v.S.CZ=w.S.CZ:=DP.1.trans (by rw[Zp]);have Ug:∀y∈x.S.AA,y∈w.S.AA/\(y.Ap=w.S.CZ->¬y.As=d.As):=fun y Bf=>by
  rw[<-Ab]at Bf;have Bf:y∈v.S.AA.filter _:=Bf;obtain⟨J5,Kd⟩:=ABZ.1 Bf;rw[Lv,Zp]at J5;refine⟨J5,fun AJR AP6=>?_⟩;have AE:=(h.AGK y J5).1;have hh:=(h.hw y J5 AJR).1;have Kd:(!(decide (y.Ca=2)&&decide (y.Ap=d.Ap)&&decide (y.As=d.As)&&decide (y.DH=v.S.CZ)))=true:=Kd;rw[AE,AJR,AP6,hh,AGE,ANL]at Kd;simp at Kd
 have XA:Fr w.S x.S/\x.S.Bj=w.S.Bj.set i e/\x.S.CX=w.S.CX/\AHl w.S.Bz x.S.Bz/\x.BQ=w.BQ/\x.EF=w.EF++[⟨1,d.Ap,d.As,HN AqB⟩]:=by
  rw[<-Ab];refine⟨?_,EK.trans AMF,Iz.trans (by rw[Zp]),?_,KY.trans mg.1,OH.trans (by rw[mg.2])⟩
  · have:Fr w.S v.S:=Fr.trans (by rw[Zp];exact .refl _) DP;exact this
  have:AHl w.S.Bz v.S.Bz:=(by rw[Zp]at VN;exact VN);exact this
 have c9:x.S.Bz=v.S.Bz/\x.S.CZ=v.S.CZ:=by rw[<-Ab];exact⟨rfl,rfl⟩
 obtain⟨CY,Dh,DQ,En,E',Hg⟩:=XA;obtain⟨dG,hB,xR,xS,xT,AHE,AHY⟩:=AIs x d.Ap d.As;refine⟨step_end h k Ag AJ hs BI Ano Af ⟨dG.1.trans CY.1,hB.trans Dh,xR.trans SJ⟩ (by rw[xS];exact En) (fun c q z=>(AKB (w:=x) (by rw[DQ];exact Ge)).1 c q (by rw[DQ];exact z)) (fun y Bf=>Ug y (by rw[xT]at Bf;exact Bf)),CY.trans dG,AHE.trans E',fun q z=>?_,fun Q _ z=>((wH Q (z.of (by rw[Zp]) (by rw[Zp]))).of c9.1 c9.2).of xS dG.1⟩;by_cases n:q=d.As
 · refine .inr ⟨_,by rw[AHY,Hg];exact ACV _ (ADe.2 rfl),rfl,?_,n.symm⟩;show d.Ap=_;rw[dG.1,CY.1,AGE]
 rcases z with⟨f,f1,f2,f3⟩|⟨f,f1,f2,f3,f4⟩
 · refine .inl ⟨f,?_,f2,f3⟩;rw[hB,Dh];exact(AHA h.AGs Ag AG2).2 (.inr ⟨f1,fun y=>n (f2.symm.trans (y.2.trans hs.2.1))⟩)
 exact .inr ⟨f,by rw[AHY,Hg];exact AC9 _ f1,f2,by rw[dG.1,CY.1];exact f3,f4⟩
theorem AIW{l:List AD}{k:ByteArray}(h:∃a∈l,a.Al=k):(BF l k).2=true/\(BF l k).1∈l/\(BF l k).1.Al=k:=by
 obtain⟨a,AK,e⟩:=h;have h2:(BF l k).2=true:=by
  cases z:(BF l k).2 with
  |true=>rfl
  |false=>exact absurd e ((UH z).1 a AK)
 exact⟨h2,Q2 h2⟩
theorem Ce.AHp{S:Bv}(h:Ce S):∀a∈S.Aj,Fw a/\D3 a:=fun a AK=>⟨(h.acc a AK).1,(h.acc a AK).2.1⟩
section
variable{F:Bv} {t:Int}
theorem ANZ{w:Ah}(hw:Ce w.S)(h:AGp w.S F)(k:AGp F w.S)(c q:Int):AGG F t w (w.OR c q):=by
 unfold Ah.OR;simp only;split
 · rename_i e;rw[ABb,ABa]at e;obtain⟨B4,DC⟩:=e;have CK:=pb B4;unfold NJ at B4 DC CK ⊢;split at B4
   · rename_i Ao;exact absurd B4 Ao
   rename_i Ao;rw[AA9 Ao]at DC CK ⊢;obtain⟨_,b,_,d1,d2⟩:=V' (ACD.1 Ao);generalize (F1 w.S.Bj c q).1.toNat=j at b d1 d2 DC CK ⊢;split at DC
   · rename_i f0;rw[AA_ f0]at CK ⊢;have:=AIU (F:=F) (t:=t) hw.AHp hw.ends h k b rfl (e:={w.S.Bj.getD j default with C3:=2}) ⟨rfl,rfl,rfl,rfl,rfl,id,fun z=>absurd f0 z⟩ f0 (by show ¬(2:Int)=0;decide) (fun z=>absurd (show(2:Int)=1 from z) ARp) CK 190;rw[d1,d2]at this;exact this
   cases DC
 exact .refl h k
theorem AN0{w:Ah}{c:Dg}(hw:Ce w.S)(h:AGp w.S F)(k:AGp F w.S):AGG F t w (w.UQ c):=by
 unfold Ah.UQ;simp only;split
 · rename_i i e;exfalso;have he:=(ADz.1 e).1;simp only[ABb,ABa]at he;have:=(h.AGK _ (Hl (Q4 e))).1;omega
 exact ANZ hw h k _ _
theorem AOV{w:Ah}{c:Dg}(h:AGp w.S F)(k:AGp F w.S)(Bm:c.Ap=F.CZ)(hh:c.DH=F.CZ)(AE:∃a∈w.S.Aj,a.Al=c.Al)(AJ:(∃d∈F.Bj,d.As=c.As/\d.EL=c.Al/\d.B2=c.It)\/fx w.S.CX c.Ap c.As=true):AGG F t w (w.Vc c):=by
 unfold Ah.Vc;split
 · exact .refl h k
 split
 · exact .refl h k
 exact⟨APs h k (x:=Li c.Ap c.As c.DH c.Al c.It) ⟨rfl,Bm,hh⟩ AE AJ,.refl _,rfl,fun q a=>AH0 a rfl (fun e x y=>⟨e,x,rfl,y⟩) fun _ z=>z,fun _ _ z=>z⟩
theorem ARD{l:List Bx}{j:Nat}(h:j<l.length):l.set j (l.getD j default)=l:=by
 rw[G3 h];exact List.set_getElem_self h
theorem APx{w:Ah}{j:Nat}{e:Bx}(h:AGp w.S F)(Ay:j<w.S.Bj.length)(hs:AHf (w.S.Bj.getD j default) e)(_:(w.S.Bj.getD j default).C3=0)(Ano:e.C3=0)(q:Int)(a:AHC q w):AHC q {w with S:={w.S with Bj:=w.S.Bj.set j e}}:=by
 have AG2:fX e (w.S.Bj.getD j default):=⟨hs.1,hs.2.1⟩;refine AH0 a rfl (fun x SJ Ug=>?_) fun _ z=>z;by_cases s:fX x e
 · exact⟨e,(AHA h.AGs Ay AG2).2 (.inl rfl),s.2.symm,Ano⟩
 exact⟨x,(AHA h.AGs Ay AG2).2 (.inr ⟨SJ,s⟩),rfl,Ug⟩
theorem APH{w:Ah}{c:Dg}(hw:Ce w.S)(h:AGp w.S F)(k:AGp F w.S)(BC:∀d∈w.S.Bj,YB c.Ap c.As d->d.C3=0->d.DO=0->c.Jr=true->AHv F d.EL d.Ap d.As):AGG F t w (w.T' c):=by
 unfold Ah.T';simp only;split
 · exact .refl h k
 rename_i Cu;have Cu:=ACD.1 Cu;have CK:=cC Cu;unfold Jk at Cu CK ⊢;split at Cu
 · rename_i Ao;exact absurd Cu Ao
 rename_i Ao;rw[AA9 Ao]at CK ⊢;obtain⟨_,b,_,d1,d2⟩:=V' (ACD.1 Ao);generalize (F1 w.S.Bj c.Ap c.As).1.toNat=j at b d1 d2 CK ⊢;clear Cu Ao;generalize AJ:w.S.Bj.getD j default=d at d1 d2 CK ⊢;have AGx:d∈w.S.Bj:=by rw[<-AJ];exact Hl b
 have hm:=(UB.1 hw.VZ).2.1 d AGx;obtain⟨Kq,_,An3⟩:=dV.1 hm;simp only[V2,ABD,ABl]at Kq;by_cases Bm:(!decide (d.C3=0)|| !decide ((if false=true then d.DN else d.DO)=0))=true
 · have B4:TT d false c.Jr=(d,false):=(by rw[TT,AA_ Bm]);rw[B4]at CK ⊢;simp only;rw[AA9 ARp,<-AJ,ARD b];exact .refl h k
 have z:d.C3=0/\d.DO=0:=by
  simp only[ABk,ABe,ABl,ABN,ACD,if_false,ADJ]at Bm;exact Bm
 obtain⟨N8,OF⟩:=z;have YQ:¬d.DN=2:=fun q=>by
  rcases An3 with An3|An3
  · rw[N8,q]at An3;exact absurd An3 (by rw[JN,AA_ (by simp)];decide)
  omega
 cases Bf:c.Jr with
 |false=>
  have B4:TT d false false=({d with DO:=2,C3:=2},true):=by
   rw[TT,AA9 Bm];simp[JN]
  rw[Bf,B4]at CK;rw[B4];simp only;rw[AA_ trivial];have:=AIU (F:=F) (t:=t) hw.AHp hw.ends h k b AJ (e:={d with DO:=2,C3:=2}) ⟨rfl,rfl,rfl,rfl,rfl,fun _=>by show ¬(2:Int)=0;decide,fun q=>absurd N8 q⟩ N8 (by show ¬(2:Int)=0;decide) (fun z=>absurd (show(2:Int)=1 from z) ARp) CK (if(findD (w.S.Bj.set j {d with DO:=2,C3:=2}) d.Ap d.As).C3=1 then 0 else 150);rw[<-d1,<-d2];exact this
 |true=>
  have AN:=BC d AGx ⟨d1,d2⟩ N8 OF Bf;have s1:AHf (w.S.Bj.getD j default) {d with DO:=1}:=(by rw[AJ];exact⟨rfl,rfl,rfl,rfl,rfl,fun _=>by show ¬(1:Int)=0;decide,fun _=>rfl⟩);have BI:(w.S.Bj.getD j default).C3=0:=(by rw[AJ];exact N8);have A1:=APt (e:={d with DO:=1}) h k b s1 (by rw[AJ]) BI N8 (fun _=>AN) rfl;have DP:AGG F t w {w with S:={w.S with Bj:=w.S.Bj.set j {d with DO:=1}}}:=⟨A1,.refl _,rfl,APx h b s1 BI N8,fun _ _ z=>z⟩;by_cases m:d.DN=1
  · have B4:TT d false true=({d with DO:=1,C3:=1},true):=by
     rw[TT,AA9 Bm];simp[JN,m]
    rw[Bf,B4]at CK;rw[B4];simp only;rw[AA_ trivial];have KZ:j<(w.S.Bj.set j {d with DO:=1}).length:=(by rw[List.length_set];exact b);have:=AIU (F:=F) (t:=t) (w:={w with S:={w.S with Bj:=w.S.Bj.set j {d with DO:=1}}}) hw.AHp hw.ends A1.Af A1.h2 KZ (d:={d with DO:=1}) (by rw[G3 KZ,List.getElem_set_self]) (e:={d with DO:=1,C3:=1}) ⟨rfl,rfl,rfl,rfl,rfl,id,fun q=>absurd N8 q⟩ N8 (by show ¬(1:Int)=0;decide) (fun _=>⟨m,rfl⟩) (by show Is ((w.S.Bj.set j _).set j _)=true;rw[ABL];exact CK) (if(findD (w.S.Bj.set j {d with DO:=1,C3:=1}) d.Ap d.As).C3=1 then 0 else 150);have this:=DP.trans this;simp only[ABL]at this;rw[<-d1,<-d2];exact this
  have B4:TT d false true=({d with DO:=1},false):=by
   rw[TT,AA9 Bm];simp[JN,m,YQ,N8]
  rw[B4];simp only;rw[AA9 ARp];exact DP
theorem ALN{w:Ah}(hw:Ce w.S){c q:Int}{key:ByteArray}{yes:Bool}:(if((BF w.S.Aj key).2&&Hn (BF w.S.Aj key).1 c q)=true then w.put (D1 (BF w.S.Aj key).1 yes).1 else w)={w with S:={w.S with Aj:=w.S.Aj.map fun a=>if a.Al=key/\Hn a c q=true then AGM a yes else a}}:=by
 split
 · rename_i e;rw[ABb]at e;obtain⟨m,AKq⟩:=Q2 e.1;obtain⟨o,z⟩:=hw.AHp _ m;generalize BF w.S.Aj key=f at e m AKq o z;rw[(UK z (ep o z (fi e.2))).2.2.1];show({w with S:={w.S with Aj:=FQ (·.Al) Ds (AGM f.1 yes) w.S.Aj}}:Ah)=_;have he:w.S.Aj.map (fun y=>if y.Al=(AGM f.1 yes).Al then AGM f.1 yes else y)=w.S.Aj.map fun a=>if a.Al=key/\Hn a c q=true then AGM a yes else a:=ART fun a AK=>by
    by_cases n:a.Al=key
    · obtain rfl:a=f.1:=lX Pa hw.Ll AK m (n.trans AKq.symm);rw[AA_ (show f.1.Al=(AGM f.1 yes).Al from rfl),AA_ ⟨n,e.2⟩]
    rw[AA9 (fun(y:a.Al=(AGM f.1 yes).Al)=>n ((show a.Al=f.1.Al from y).trans AKq)),AA9 (fun y=>n y.1)]
   rw[AMh (a:=AGM f.1 yes) hw.Ll ⟨f.1,m,rfl⟩,he]
 rename_i e;have:w.S.Aj.map (fun a=>if a.Al=key/\Hn a c q=true then AGM a yes else a)=w.S.Aj:=by
  rw[ART (g:=id) fun a AK=>?_,List.map_id];rw[AA9]
  · rfl
  rintro⟨n,l⟩;obtain⟨x,y,z⟩:=AIW ⟨a,AK,n⟩;obtain rfl:a=(BF w.S.Aj key).1:=lX Pa hw.Ll AK y (n.trans z.symm);exact e (by rw[x,l];rfl)
 rw[this]
theorem ALi{w:Ah}{c:Dg}(hw:Ce w.S)(h:AGp w.S F)(k:AGp F w.S)(Bm:c.Ap=F.CZ)(AJ:∀a∈w.S.Aj,a.Al=c.Al->Hn a c.Ap c.As=true->∃d∈F.Bj,d.As=c.As/\¬d.C3=0/\c.Jr=decide (d.C3=1)):AGG F t w (w.S5 c)/\(F' w.S c.Al=true->Jj c.Ap c.As=true->fx (w.S5 c).S.CX c.Ap c.As=true):=by
 unfold Ah.S5;split
 · rename_i z;simp only[ABk,ABe]at z;refine⟨.refl h k,fun a b=>?_⟩;rcases z with z|z
   · rw[a]at z;cases z
   rw[b]at z;cases z
 rename_i z;simp only[ABk,ABe,ABN,AB_]at z;simp only;rw[ALN hw];generalize Ab:(Ah.drop ({w with S:={w.S with Aj:=w.S.Aj.map fun a=>if a.Al=c.Al/\Hn a c.Ap c.As=true then AGM a c.Jr else a}}:Ah) fun x=>decide (x.Ca=2)&&decide (x.Ap=c.Ap)&&decide (x.As=c.As)&&decide (x.AM.Al=c.Al))=x;have SJ:Fr w.S x.S/\x.S.Bj=w.S.Bj/\x.S.Bz=w.S.Bz/\x.S.CX=w.S.CX/\(x.S.Aj=w.S.Aj.map fun a=>if a.Al=c.Al/\Hn a c.Ap c.As=true then AGM a c.Jr else a)/\(∀y∈x.S.AA,y∈w.S.AA)/\x.BQ=w.BQ/\x.EF=w.EF:=by
  rw[<-Ab];exact⟨.refl _,rfl,rfl,rfl,rfl,fun y Bf=>(ABZ.1 Bf).1,rfl,rfl⟩
 obtain⟨CY,Dh,DQ,En,E',Hg,Jo,K0⟩:=SJ;obtain⟨dG,hB,xR,xS,xT,AHE,AHY⟩:=AIs x c.Ap c.As;obtain⟨NY,MK⟩:=AKB (w:=x) (c:=c.Ap) (q:=c.As) (by rw[En];exact hw.ends);have AH:=MK z.2;refine⟨⟨APo h k Bm AJ ⟨dG.1.trans CY.1,hB.trans Dh,xS.trans DQ,xR.trans E'⟩ (fun c q y=>NY c q (by rw[En];exact y)) AH (fun y Bf=>Hg y (by rw[xT]at Bf;exact Bf)),CY.trans dG,AHE.trans Jo,fun q a=>AH0 a (dG.1.trans CY.1) (fun e x y=>⟨e,by rw[hB,Dh];exact x,rfl,y⟩) (by rw[AHY,K0];exact fun _ y=>y),fun _ _ z=>(z.of DQ CY.1).of xS dG.1⟩,fun _ _=>AH⟩
theorem ANW{w:Ah}{c:Dg}(h:AGp w.S F)(k:AGp F w.S)(AJ:∀d∈w.S.Bj,YB c.Ap c.As d->¬d.C3=0->fx F.CX d.Ap d.As=true/\∀a∈F.Aj,¬(a.BG.Ap=d.Ap/\a.BG.As=d.As)):AGG F t w (w.forget c)/\(∀d∈(w.forget c).S.Bj,d∈w.S.Bj):=by
 unfold Ah.forget;split
 · rename_i Cu;unfold OP at Cu ⊢;split at Cu
   · rename_i Ao;exact absurd Cu Ao
   rename_i Ao;rw[AA9 Ao];obtain⟨_,b,_,d1⟩:=V' (ACD.1 Ao);generalize (F1 w.S.Bj c.Ap c.As).1.toNat=j at b d1 Cu ⊢;split at Cu
   · cases Cu
   rename_i f;rw[AA9 f];obtain⟨p,n⟩:=AJ _ (Hl b) d1 f;refine⟨⟨APp h k b rfl f p n,.refl _,rfl,fun q a=>AH0 a rfl (fun e x y=>⟨e,(AKu h.AGs b).2 ⟨x,fun s=>?_⟩,rfl,y⟩) (fun _ y=>y),fun _ _ z=>z⟩,fun d AJ=>List.mem_of_mem_eraseIdx AJ⟩;rw[AG4 h.AGs x (Hl b) s]at y;exact f y
 exact⟨.refl h k,fun _ z=>z⟩
theorem AMc{w:Ah}{c:Dg}(hw:Ce w.S)(h:AGp w.S F)(k:AGp F w.S)(Bm:c.Ap=w.S.CZ)(F4:c.AM.Ca=6)(AE:∃a∈w.S.Aj,a.Al=c.AM.Al)(A7:F' w.S c.AM.EL=false)(AOa:c.AM.EL∈F.Aj.map (·.Al))(Av:c.As<=t)(Fx:c.AM.B2<=9223372036854775807):AGG F t w (w.op c)/\
 (NA c w.AGm=true->F' w.S c.AM.Al=true->Ef w.S c.AM.Al=false->c.Dn=w.S.Dn->(∀m∈w.S.Bz,m.Ap=c.Ap->m.As<c.As)->AHC c.As (w.op c)):=by
 unfold Ah.op;split
 · rename_i z;exact⟨.refl h k,fun a=>by rw[z]at a;cases a⟩
 rename_i AK;have AK:NA c w.AGm=true:=by simpa using AK
 have Acq:Jj c.Ap c.As=true:=by
  cases e:Jj c.Ap c.As with
  |true=>rfl
  |false=>rw[NA,e]at AK;simp at AK
 simp only;split
 · rename_i e;exact⟨.refl h k,fun _ _ _ _ n=>absurd (ALd hw.marks Acq n).1 e⟩
 rename_i Af;have Af:=ACD.1 Af;split
 · rename_i h2;refine⟨?_,fun _ _ _ _ n=>by rw[(ALd hw.marks Acq n).2]at h2;cases h2⟩;split
   · exact AJO h k _ _ _ _
   exact .refl h k
 rename_i h2;have h2:(IS w.S.Bz c.Ap c.As).2.1=true:=by simpa using h2
 split
 · rename_i e;refine⟨AJO h k _ _ _ _,fun _ o s p _=>?_⟩;rw[o,s,ABG p]at e;cases e
 obtain⟨CY,Dh,DQ⟩:=AM8 Af h2;have En:=AM9 Af h2;generalize (IS w.S.Bz c.Ap c.As).1=M at CY DQ En;unfold Ah.T5;split
 · generalize BC:({w with S:={w.S with Bz:=M}}:Ah)=v;have v1:v.S={w.S with Bz:=M}/\v.BQ=w.BQ/\v.EF=w.EF:=(by rw[<-BC];exact⟨rfl,rfl,rfl⟩);obtain⟨v1,v2,Ph⟩:=v1;have Kk:v.served c.Ap c.As c.Bn c.AM.Al (HN 3)=v.done c.Ap c.As (HN 3):=by
    unfold Ah.served;simp only;exact AA9 (by show ¬(3:Int)=0;decide)
   rw[Kk];obtain⟨DP,EK,FR,Iz,Lv,KY,OH⟩:=AJh v c.Ap c.As (HN 3);have VN:=ALp (w:=v) (c:=c.Ap) (q:=c.As) (a:=HN 3);have wx:=fun Q=>ALq (w:=v) (c:=c.Ap) (q:=c.As) (a:=HN 3) (Q:=Q);have wH:Fr w.S (v.done c.Ap c.As (HN 3)).S:=Fr.trans (by rw[v1];exact .refl _) DP;refine⟨AJL h k wH (EK.trans (by rw[v1])) (FR.trans (by rw[v1])) ?_ (by rw[Iz,v1];exact fun _ _ z=>z) (by rw[Lv,v1];exact fun _ z=>z) (KY.trans v2) (by rw[OH,Ph];exact fun _ z=>AC9 _ z) (fun Q AEA z=>wx Q (by rw[v1];exact fun m hm Oo=>(En m hm).elim (fun y=>AMT) fun y=>z m y Oo)),fun _ _ _ _ _=>.inr ⟨_,by rw[OH];exact ACV _ (ADe.2 rfl),rfl,Bm.trans wH.1.symm,rfl⟩⟩;refine CY.trans ?_;rw[v1]at VN;exact VN
 rename_i e;simp only[ABk,ABe,ABa,ABl,ABN,ACD]at e;have az:(Mf w.S.Bj (QW c)).1=w.S.Bj++[QW c]:=(rU e.1).2.1;simp only;rw[AA9 (by
  show ¬(F' {w.S with Bz:=M,Bj:=_,AA:=_} c.AM.EL&&_)=true;rw[show ∀D W,F' {w.S with Bz:=M,Bj:=D,AA:=W} c.AM.EL=F' w.S c.AM.EL from fun _ _=>rfl,A7,Bool.false_and];exact ABd)]
 refine⟨⟨APr h k (d:=QW c) (x:=Li c.Ap c.As w.S.CZ c.AM.Al (-c.AM.B2)) ⟨rfl,az,rfl,rfl,rfl⟩ CY (fun m x y=>Dh m x (y.trans Bm.symm)) (by rw[<-Bm];exact DQ) ⟨Bm,rfl,rfl,rfl⟩ ⟨rfl,Bm,rfl,rfl,rfl,rfl⟩ AE AOa Fx,.refl _,rfl,fun q a=>AH0 a rfl (fun e x y=>⟨e,?_,rfl,y⟩) (fun _ z=>z),fun Q AEA z m hm Oo=>(En m hm).elim (fun y=>AMT) fun y=>z m y Oo⟩,fun _ _ _ _ _=>.inl ⟨QW c,?_,rfl,rfl⟩⟩
 · show e∈(Mf w.S.Bj (QW c)).1;rw[az];exact AC9 _ x
 show QW c∈(Mf w.S.Bj (QW c)).1;rw[az];exact ACV _ (ADe.2 rfl)
end
end Go.Apw
