/- Part 14 of shardLine_holds. -/
import Derived.Test.YtalfaopffbkdnaaGreatSjm13

set_option maxRecDepth 20000
set_option maxHeartbeats 1000000
open Go.A_
namespace Go.Apw
theorem k7{α:Type}{rd:Bb->α×Bb}{p:α->Prop}(h:∀s,p (rd s).1):∀(n:Nat) (s:Bb),∀a∈(GI rd n s).1,p a
 |0,_,a,AK=>by cases AK
 |n+1,s,a,AK=>by
  rw[GI]at AK;split at AK
  · rcases List.mem_cons.1 AK with rfl|AK
    · exact h s
    · exact k7 h n _ a AK
  · cases AK
theorem Aag(J:List UInt8)(s:Bb):∀a∈(FC J s).1.Aj,a.wf:=by
 unfold FC;simp only[Di,CS];exact k7 (fun s=>o9 J s) _ _
theorem Aib(b:List UInt8):∀a∈(Er b).1.Aj,a.wf:=by
 have z:∀a∈IP.Aj,a.wf:=fun a AK=>absurd AK (List.not_mem_nil);by_cases h:NF b=0
 · rw[fN h];by_cases h2:65536<b.length
   · show ∀a∈(Lm b).Aj,a.wf;rw[lY h2];exact z
   · show ∀a∈(Lm b).Aj,a.wf;rw[gn h2];exact Aag _ _
 · rw[k8 h];exact z
theorem Yd{α:Type}{f:Ah->α->Ah}(BI:∀w x,Ce w.S->CE w (f w x)):∀(l:List α) {w:Ah},Ce w.S->CE w (l.foldl f w)
 |[],_,h=>CE.refl h
 |x::r,_,h=>by
  have Af:=BI _ x h;exact Af.trans (Yd BI r Af.ws)
structure XK (w v:Ah):Prop where
 s:v.S={w.S with Bz:=v.S.Bz}
 m:Fg v.S.Bz=true
 Me:∀x∈v.S.Bz,x.Cm.wf
 x:v.ix=w.ix
 n:v.nd=w.nd
theorem Ad3{w v:Ah}(h:XK w v)(x:BX):XK w (v.Ic x):=by
 unfold Ah.Ic;split
 · exact h
 · simp only;split
   · rename_i e;refine⟨?_,rj e,rk h.Me,h.x,h.n⟩;show({v.S with Bz:=_}:Bv)=_;rw[h.s]
   · exact⟨h.s,h.m,h.Me,h.x,h.n⟩
theorem foldl_mk{w:Ah}:∀(l:List BX) {v:Ah},XK w v->XK w (l.foldl Ah.Ic v)
 |[],_,h=>h
 |x::r,_,h=>foldl_mk r (Ad3 h x)
theorem SF{S:Bv}{x:BX}:Mr S x=true↔Jj x.Ap x.As=true/\Ix x.AM.Al=true/\F' S x.AM.Al=true/\Ef S x.AM.Al=false/\((x.Ca=1/\Xu x=true)\/(x.Ca=2/\Xv x=true)):=by
 constructor
 · intro h;unfold Mr at h;split at h
   · cases h
   · rename_i Bw;simp only[Zx,Bool.or_eq_true,not_or,Bool.not_eq_true',Bool.not_eq_false,Bool.not_eq_true]at Bw;obtain⟨⟨⟨a,b⟩,c⟩,d⟩:=Bw;refine⟨a,b,c,d,?_⟩;split at h
     · rename_i k;exact .inl ⟨of_decide_eq_true k,h⟩
     · split at h
       · rename_i k;exact .inr ⟨of_decide_eq_true k,h⟩
       · cases h
 · rintro⟨a,b,c,d,e⟩;exact gG a b c d e
theorem c2{S T:Bv}{x:BX}(h:Mr S x=true)(A7:F' T x.AM.Al=true)(hs:Ef T x.AM.Al=false):Mr T x=true:=by
 obtain⟨a,b,_,_,e⟩:=SF.1 h;exact gG a b A7 hs e
theorem Ajl{w:Ah}{c:Dg}(h:Ce w.S):CE w (w.seal c):=by
 unfold Ah.seal;simp only;split
 · exact CE.refl h
 · rename_i Af;split
   · exact CE.refl h
   · rename_i h2;simp only[Bool.or_eq_true,not_or,Bool.not_eq_true',Bool.not_eq_false,decide_eq_true_eq]at Af h2;obtain⟨⟨⟨⟨⟨AH,BI⟩,Yx⟩,AbZ⟩,A7⟩,he⟩:=Af;obtain⟨⟨Ao,hh⟩,hw⟩:=h2;generalize BC:({w with S:={w.S with Bt:=c.Dj}}:Ah)=v0;have Xo:v0.S={w.S with Bt:=c.Dj}:=(by rw[<-BC]);have NS:XK v0 v0:=⟨rfl,by rw[Xo];exact h.marks,by rw[Xo];exact h.Me,rfl,rfl⟩;have Kq:=foldl_mk w.S.AA NS;generalize w.S.AA.foldl Ah.Ic v0=v at Kq ⊢;have e:v.S={w.S with Bt:=c.Dj,Bz:=v.S.Bz}:=by
      have:=Kq.s;rw[Xo]at this;exact this
     have hm:=Kq.m;have U5:=Kq.Me;generalize v.S.Bz=mk at e hm U5;have Wx:F' v.S c.Dj.A6=true:=(by rw[e];show(w.S.Du&&within w.S.A6 w.S.Bc c.Dj.A6)=true;rw[A7,hw];rfl);have Bo:CE w (v.drop fun x=>Ef v.S x.AM.Al):=by
      refine⟨?_,by show v.S.CZ=_;rw[e],by show v.S.DX=_;rw[e],by show v.ix=_;rw[Kq.x,<-BC],by show v.nd=_;rw[Kq.n,<-BC]⟩;show Ce {v.S with AA:=v.S.AA.filter (fun x=> !Ef v.S x.AM.Al)};have Tv:∀x∈v.S.AA.filter (fun x=> !Ef v.S x.AM.Al),Mr v.S x=true/\x.wf:=fun x Ab=>by
       obtain⟨a,b⟩:=List.mem_filter.1 Ab;have a:x∈w.S.AA:=(by rw[e]at a;exact a);have Ab:=h.wt x a;refine⟨c2 Ab ?_ (by simpa using b),h.ww x a⟩;have:=(SF.1 Ab).2.2.1;rw[e];exact this
      have AN:(v.S.AA.filter (fun x=> !Ef v.S x.AM.Al)).length<=8:=Nat.le_trans (List.length_filter_le ..) (by rw[e];exact h.wl);generalize v.S.AA.filter (fun x=> !Ef v.S x.AM.Al)=ws at Tv AN;have O0:w.S.Du=false->False:=fun q=>by rw[A7]at q;cases q
      rw[e]at Tv Wx ⊢;exact{h with marks:=hm,Me:=U5,wl:=AN,wt:=fun x Ab=>(Tv x Ab).1,ww:=fun x Ab=>(Tv x Ab).2,own:=⟨fun q=>(O0 q).elim,h.own.yes⟩,acc:=h.acc,Hc:=.inr ⟨AH,BI,hh,Wx⟩}
     refine Bo.trans (Yd (fun u d hu=>?_) _ Bo.ws);split
     · exact er hu _ _
     · exact CE.refl hu
theorem Aks{w:Ah}{n:Int}(h:Ce w.S)(Ao:¬n=0)(he:n=w.S.Bt.Ev):CE w {w with S:={w.S with Bt:=FP,GW:=n}}:=by
 have Cu:¬w.S.Bt=FP:=fun e=>by rw[e]at he;exact Ao he
 have AH:LK w.S.Bt=true:=by
  rcases h.Hc with e|e
  · exact absurd e Cu
  · exact e.1
 have Fx:L7 n:=by
  simp only[LK,Bool.and_eq_true,decide_eq_true_eq]at AH;exact⟨by omega,by omega⟩
 have A7:w.S.Du=true:=by
  cases e:w.S.Du with
  |true=>rfl
  |false=>exact absurd (h.own.no e).2.2.2.2 Cu
 exact⟨{h with un:=Fx,own:=⟨fun q=>(by rw[A7]at q;cases q),h.own.yes⟩,acc:=h.acc,wt:=fun x Ab=>c2 (h.wt x Ab) (SF.1 (h.wt x Ab)).2.2.1 rfl,Hc:=.inl rfl},rfl,rfl,rfl,rfl⟩
structure mY (l:List AD) (p:Fs):Prop where
 acc:∀a∈l,Fw a/\D3 a/\within p.A6 p.Bc a.Al=true
 len:l.length<=12
theorem qk{b:List UInt8}{p:Fs}(h:(FD b p).2=true):(FD b p).1=(Er b).1/\(Er b).2=0/\mY (FD b p).1.Aj p:=by
 unfold FD at h ⊢;split at h
 · cases h
 · rename_i Af;rw[if_neg Af];split at h
   · rename_i h2;rw[if_pos h2];simp only[Bool.or_eq_true,not_or,Bool.not_eq_true',Bool.not_eq_false,decide_eq_true_eq]at Af;refine⟨rfl,Af.1,fun a AK=>?_,by show(Er b).1.Aj.length<=12;omega⟩;have wf:=Aib b a AK;obtain⟨j,Ay,rfl⟩:=UP AK;have:=(Nz.1 h2) j Ay;simp only[Ty,Bool.not_eq_true',Bool.or_eq_false_iff,Bool.not_eq_false',decide_eq_true_eq,decide_eq_false_iff_not,ee]at this;obtain⟨⟨⟨⟨⟨DP,EK⟩,FR⟩,Iz⟩,Lv⟩,KY,OH⟩:=this;have Ao:((Er b).1.Aj.getD j default).A0=[]:=List.length_eq_zero_iff.1 (by omega);exact⟨(P3 wf.2.1).1 DP,⟨wf,fun x Ab=>by rw[Ao]at Ab;cases Ab⟩,KY⟩
   · cases h
theorem sw:∀(l:List AD) (w:Ah),l.foldl Ah.put w={w with S:={w.S with Aj:=l.foldl (fun q a=>FQ (·.Al) Ds a q) w.S.Aj}}
 |[],_=>rfl
 |a::r,w=>by
  rw[List.foldl_cons,sw r];rfl
theorem sx:∀(l:List AD) {q:List AD},H6 (·.Al) Ds q->H6 (·.Al) Ds (l.foldl (fun q a=>FQ (·.Al) Ds a q) q)/\(l.foldl (fun q a=>FQ (·.Al) Ds a q) q).length<=q.length+l.length/\∀a∈l.foldl (fun q a=>FQ (·.Al) Ds a q) q,a∈q\/a∈l
 |[],q,h=>⟨h,Nat.le_refl _,fun a AK=>.inl AK⟩
 |x::r,q,h=>by
  obtain⟨a,b,c⟩:=sx r (W4 Pa (x:=x) h);have AN:=cb (key:=fun a:AD=>a.Al) (lt:=Ds) x q;refine⟨a,by rw[List.foldl_cons,List.length_cons];omega,fun y Bf=>?_⟩;rcases c y Bf with Bf|Bf
  · rcases(PJ Pa h).1 Bf with rfl|Bf
    · exact .inr (List.mem_cons_self ..)
    · exact .inl Bf.1
  · exact .inr (List.mem_cons_of_mem _ Bf)
theorem within_iff{BQ Ag k:ByteArray}:within BQ Ag k=true↔Ds k BQ=false/\(Ag=ByteArray.empty\/Ds k Ag=true):=by
 have:(Ds BQ k||decide (BQ=k))=true↔Ds k BQ=false:=by rw[bA];simp
 rw[within,Bool.and_eq_true,this,Bool.or_eq_true,bs]
theorem Ad8{a b c:ByteArray}(Af:Ds a b=true)(h2:Ds c b=false):Ds c a=false:=by
 cases e:Ds c a with
 |false=>rfl
 |true=>rw[lt_trans e Af]at h2;cases h2
theorem Vm{BQ Ag:ByteArray}:PQ BQ Ag=true↔BQ.size<=16/\Ag.size<=16/\(Ag=ByteArray.empty\/Ds BQ Ag=true):=by
 simp only[PQ,Bool.and_eq_true,Bool.or_eq_true,decide_eq_true_eq,bs];exact⟨fun⟨⟨a,b⟩,c⟩=>⟨by omega,by omega,c⟩,fun⟨a,b,c⟩=>⟨⟨by omega,by omega⟩,c⟩⟩
theorem Ac7{BQ mid Ag k:ByteArray}(Af:PQ BQ mid=true)(h2:PQ mid Ag=true)(hm:mid≠ByteArray.empty)(h:within BQ mid k=true\/within mid Ag k=true):within BQ Ag k=true:=by
 obtain⟨_,_,a⟩:=Vm.1 Af;obtain⟨_,_,b⟩:=Vm.1 h2;have a:=a.resolve_left hm;rw[within_iff,within_iff]at h;rw[within_iff];rcases h with⟨p,q⟩|⟨p,q⟩
 · refine⟨p,?_⟩;rcases b with b|b
   · exact .inl b
   · exact .inr (lt_trans (q.resolve_left hm) b)
 · exact⟨Ad8 a p,q⟩
theorem tR{S:Bv}{l:List AD}{p:Fs}(h:Ce S)(Ag:mY l p)(AH:PQ p.A6 p.Bc=true)(hs:S.Bt=FP)(AN:l.length+S.Aj.length<=12)(Bh:S.Du=true->¬S.Bc=ByteArray.empty/\S.Bc=p.A6)(ON:Int)(U1:1<=ON/\ON<=EW):
 Ce {S with Aj:=l.foldl (fun q a=>FQ (·.Al) Ds a q) S.Aj,Du:=true,A6:=if S.Du=false then p.A6 else S.A6,Bc:=p.Bc,Dn:=ON}:=by
 obtain⟨DP,EK,FR⟩:=sx l h.Ll;have Acb:PQ (if S.Du=false then p.A6 else S.A6) p.Bc=true/\(∀k,F' S k=true\/within p.A6 p.Bc k=true->within (if S.Du=false then p.A6 else S.A6) p.Bc k=true):=by
  cases e:S.Du with
  |false=>
   rw[if_pos rfl];exact⟨AH,fun k AE=>AE.resolve_left fun q=>by rw[WX q]at e;cases e⟩
  |true=>
   rw[if_neg (by decide)];obtain⟨Sp,HG⟩:=Bh e;have WE:=(h.own.yes e).2;rw[HG]at WE Sp;obtain⟨SJ,Ug,XA⟩:=Vm.1 WE;obtain⟨J5,Kd,Ke⟩:=Vm.1 AH;refine⟨Vm.2 ⟨SJ,Kd,?_⟩,fun k AE=>Ac7 WE AH Sp ?_⟩
   · rcases Ke with Ke|Ke
     · exact .inl Ke
     · exact .inr (lt_trans (XA.resolve_left Sp) Ke)
   · rcases AE with AE|AE
     · rw[F',Bool.and_eq_true,HG]at AE;exact .inl AE.2
     · exact .inr AE
 obtain⟨NY,MK⟩:=Acb;have Fb:0<=ON:=by omega
 have hlen:=Nat.le_trans EK (show S.Aj.length+l.length<=12 by omega);refine{h with ON:=⟨Fb,U1.2⟩,own:=⟨fun q=>(by cases q),fun _=>⟨U1.1,NY⟩⟩,len:=hlen,acc:=fun a AK=>?_,Ll:=DP,wt:=fun x Ab=>?_,Hc:=.inl hs}
 · have key:∀k,F' S k=true\/within p.A6 p.Bc k=true->F' {S with Aj:=l.foldl (fun q a=>FQ (·.Al) Ds a q) S.Aj,Du:=true,A6:=if S.Du=false then p.A6 else S.A6,Bc:=p.Bc,Dn:=ON} k=true:=fun k AE=>by
    show(true&&within _ _ k)=true;rw[MK k AE];rfl
   rcases FR a AK with q|q
   · obtain⟨x,y,z⟩:=h.acc a q;exact⟨x,y,key _ (.inl z)⟩
   · obtain⟨x,y,z⟩:=Ag.acc a q;exact⟨x,y,key _ (.inr z)⟩
 · have e1:=h.wt x Ab;refine c2 e1 ?_ ?_
   · show(true&&within _ _ x.AM.Al)=true;rw[MK _ (.inl (SF.1 e1).2.2.1)];rfl
   · show(!decide (S.Bt.Ev=0)&&_)=false;rw[hs];rfl
theorem tQ(w:Ah)(l:List AD)(p:Fs):(w.Ry l p)={w with S:={w.S with Aj:=l.foldl (fun q a=>FQ (·.Al) Ds a q) w.S.Aj,Du:=true,A6:=if w.S.Du=false then p.A6 else w.S.A6,Bc:=p.Bc}}:=by
 unfold Ah.Ry;simp only;rw[sw];cases e:w.S.Du with
 |false=>simp
 |true=>simp[e]
theorem kT{p:Fs}(h:LK p=true):PQ p.A6 p.Bc=true:=by
 simp only[LK,Bool.and_eq_true]at h;exact h.2
theorem sj{p:Fs}(h:LK p=true):L7 p.Ev:=by
 simp only[LK,Bool.and_eq_true,decide_eq_true_eq]at h;exact⟨by omega,by omega⟩
theorem Ce.Alg{S:Bv}(h:Ce S){n:Int}(Ao:L7 n):Ce {S with CW:=FP,Cf:=[],GW:=n}:={h with un:=Ao,out:=.inl ⟨rfl,rfl⟩,own:=⟨h.own.no,h.own.yes⟩,acc:=h.acc,wt:=h.wt,Hc:=h.Hc}
theorem Akt{w:Ah}{c:Dg}(h:Ce w.S):CE w (w.unseal c):=by
 unfold Ah.unseal;simp only;split
 · exact CE.refl h
 · rename_i Ao;split
   · split
     · rename_i he;exact Aks h Ao he
     · exact CE.refl h
   · split
     · exact CE.refl h
     · rename_i Af;split
       · exact CE.refl h
       · rename_i h2;simp only[Bool.or_eq_true,not_or,Bool.not_eq_true',Bool.not_eq_false,decide_eq_true_eq,Bool.and_eq_true,not_and]at Af h2;obtain⟨⟨HG,B3⟩,Bh⟩:=Af;obtain⟨i1,i2⟩:=h2;have AH:LK w.S.CW=true:=by
          rcases h.out with⟨x,_⟩|⟨x,_⟩
          · rw[x]at HG;exact absurd HG Ao
          · exact x
         obtain⟨_,_,Ag⟩:=qk i1;have Fx:L7 c.Dj.Ev:=(by rw[HG];exact sj AH);have Qd:w.S.Du=true->¬w.S.Bc=ByteArray.empty/\w.S.Bc=w.S.CW.A6:=fun o=>by
          have:=Bh o;rw[bs]at this;exact⟨this.1,this.2⟩
         have U1:=h.ON;have key:=tR (h.Alg Fx) Ag (kT AH) B3 (by show(FD w.S.Cf w.S.CW).1.Aj.length+w.S.Aj.length<=12;omega) Qd;rw[tQ];simp only;split
         · exact⟨key 1 ⟨by decide,by decide⟩,rfl,rfl,rfl,rfl⟩
         · rename_i Fb;exact⟨key w.S.Dn ⟨by have:=U1.1;omega,U1.2⟩,rfl,rfl,rfl,rfl⟩
theorem Aap(J:List UInt8)(s:Bb):∀a∈(FC J s).1.Bz,a.wf:=by
 unfold FC;simp only[Di,CS];exact k7 (fun s=>o_ J s) _ _
theorem Aid(b:List UInt8):∀a∈(Er b).1.Bz,a.Cm.wf:=by
 have z:∀a∈IP.Bz,a.Cm.wf:=fun a AK=>absurd AK (List.not_mem_nil);by_cases h:NF b=0
 · rw[fN h];by_cases h2:65536<b.length
   · show ∀a∈(Lm b).Bz,a.Cm.wf;rw[lY h2];exact z
   · show ∀a∈(Lm b).Bz,a.Cm.wf;rw[gn h2];exact fun a AK=>(Aap _ _ a AK).2.2.2
 · rw[k8 h];exact z
theorem Ac3{a b:List BL}(h:Fg a=true)(g:Fg b=true):(M_ a b).2=0:=by simp[M_,h,g]
theorem AcZ{a b:List Df}(h:HE a=true)(g:HE b=true):(Ok a b).2=0:=by simp[Ok,h,g]
theorem wK{w:Ah}{c:Dg}(h:Ce w.S):CE w (w.RI c):=by
 unfold Ah.RI;simp only;split
 · exact CE.refl h
 · rename_i Af;split
   · exact CE.refl h
   · rename_i h2;simp only[Bool.or_eq_true,not_or,Bool.not_eq_true',Bool.not_eq_false,decide_eq_true_eq]at Af h2;obtain⟨⟨⟨⟨AH,_⟩,_⟩,B4⟩,DC⟩:=Af;obtain⟨⟨i1,jQ⟩,AcB⟩:=h2;have Fx:=sj AH;have Cl:Ce {w.S with Jc:=c.Dj.Ev}:={h with hf:=Fx,own:=⟨h.own.no,h.own.yes⟩,acc:=h.acc,wt:=h.wt,Hc:=h.Hc};split
     · exact⟨{Cl with TO:=Fx,own:=⟨h.own.no,h.own.yes⟩,acc:=h.acc,wt:=h.wt,Hc:=h.Hc},rfl,rfl,rfl,rfl⟩
     · rename_i Bo;simp only[Bool.or_eq_true,not_or,Bool.not_eq_true',Bool.not_eq_false,decide_eq_true_eq,Bool.and_eq_true,not_and]at Bo;obtain⟨⟨Bh,B3⟩,AN⟩:=Bo;obtain⟨Ab',_,Ag⟩:=qk i1;have Qd:w.S.Du=true->¬w.S.Bc=ByteArray.empty/\w.S.Bc=c.Dj.A6:=fun o=>by
        have:=Bh o;rw[bs]at this;exact⟨this.1,this.2⟩
       have key:=tR Cl Ag (kT AH) B3 (by show(FD c.Cf c.Dj).1.Aj.length+w.S.Aj.length<=12;omega) Qd c.Dn ⟨by omega,by omega⟩;rw[tQ];simp only;have hm:Fg (M_ w.S.Bz (FD c.Cf c.Dj).1.Bz).1=true:=Ac5 (Ac3 h.marks jQ);have he:HE (Ok w.S.CX (FD c.Cf c.Dj).1.CX).1=true:=Ac1 (AcZ h.ends AcB);exact⟨(key.gJ hm (Ac6 h.Me (by rw[Ab'];exact Aid _))).uN he,rfl,rfl,rfl,rfl⟩
theorem CE.ite{p:Prop}[Decidable p]{w a b:Ah}(AK:CE w a)(Aq:CE w b):CE w (if p then a else b):=by
 split
 · exact AK
 · exact Aq
theorem dO{w:Ah}{c:Dg}(h:Ce w.S)(Bm:c.wf)(OZ:w.nd<=5):CE w (w.cmd c):=by
 obtain⟨Ua,Ub,Xs,RD,Ud,Xt,OD,gE,my,cW,SD,Xr,AkQ,SE⟩:=Bm;unfold Ah.cmd;refine CE.ite (Afx h Xr OZ Ud) (CE.ite (Aiq h) (CE.ite (Aay h) (CE.ite (AhD h cW) (CE.ite (AkO h) (CE.ite (xZ h) (CE.ite (zW h) (CE.ite (Ajl h) (CE.ite (Akt h) (CE.ite (wK h) (CE.ite (Aei h fun _=>trivial) (CE.refl h)))))))))))
-- what waits
theorem tI{w:Ah}{o:FL}(h:Ce w.S)(AE:Ix o.Al=true)(A7:F' w.S o.Al=true)(hw:o.wf)(Ao:o.Ca=1\/o.Ca=2->1<=o.B2)(AbR:1<=o.Ca/\o.Ca<=5):CE w (H3 w o).1:=by
 obtain⟨f1,f2,f3⟩:=V9 h AE;unfold H3;simp only;split
 · exact CE.refl h
 · rename_i Ba;split
   · exact CE.refl h
   · rename_i A9;split
     · split
       · exact CE.refl h
       · rename_i Bd Af;simp only[Bool.and_eq_true,Bool.not_eq_true',decide_eq_true_eq,not_and]at Af;split
         · rename_i h2;obtain⟨p,_,q,r,_⟩:=nD f2 (s:=⟨o.A6,o.Bc⟩) ⟨hw.2.2.2.2.1,hw.2.2.2.2.2⟩ h2;refine TL h q r (by rw[p];show F' w.S (BF w.S.Aj o.Al).1.Al=true;rw[f3];exact A7) ?_;rw[p];show(BF w.S.Aj (BF w.S.Aj o.Al).1.Al).2=true\/_;rw[f3];cases e:(BF w.S.Aj o.Al).2 with
           |true=>exact .inl rfl
           |false=>
            have:=Af e;have AK:0<=S2 w.S:=(by unfold S2;split<;>omega);exact .inr (by omega)
         · exact CE.refl h
     · rename_i Bd;split
       · rename_i h2;obtain⟨UG,AmQ,p,q,r⟩:=ZU f2 (gg hw.2.2.2.1 (Ao (by omega))) h2;refine TL h q r (by rw[p];show F' w.S (BF w.S.Aj o.Al).1.Al=true;rw[f3];exact A7) ?_;rw[p];show(BF w.S.Aj (BF w.S.Aj o.Al).1.Al).2=true\/_;rw[f3];cases e:(BF w.S.Aj o.Al).2 with
         |true=>exact .inl rfl
         |false=>
          exfalso;have Aq:=q.BQ;have R9:=q.Ag;rw[p]at Aq R9;have Cu:(BF w.S.Aj o.Al).1={Fj with Al:=o.Al}:=(by rw[(UH e).2];exact(YR AE).1);rw[Cu]at Aq R9;have CY:(0:Int)<=0+signed o:=Aq;have Dh:(0:Int)+signed o<=0:=R9;have:=Ao (by omega);unfold signed at CY Dh;split at CY<;>omega
       · exact CE.refl h
theorem Akl{a:AD}(w:D3 a):A' (Io a).1:=by
 unfold Io;split
 · exact DW
 · exact w.wf.2.2.1
theorem xy{a:AD}{s:GC}:A' (Pu a s).2:=by
 have h:∀e:Int,(e=0\/e=21\/e=150\/e=152)->A' e:=fun e q=>⟨by omega,by omega⟩;refine h _ ?_;unfold Pu LJ;repeat' split
 all_goals first|exact .inl rfl|exact .inr (.inl rfl)|exact .inr (.inr (.inl rfl))|exact .inr (.inr (.inr rfl))|contradiction
theorem wS{a:AD}{n:Int}:A' (JF a n).2:=by
 have h:∀e:Int,(e=0\/e=21\/e=150\/e=152\/e=1)->A' e:=fun e q=>⟨by omega,by omega⟩;refine h _ ?_;unfold JF;repeat' split
 all_goals simp
theorem tH{w:Ah}{o:FL}(h:Ce w.S)(AE:Ix o.Al=true):(H3 w o).2.wf:=by
 obtain⟨f1,f2,f3⟩:=V9 h AE;have t:=Akl f2;unfold H3;simp only;split
 · exact⟨DW,t,DW,DW⟩
 · split
   · exact⟨DW,DW,t,t⟩
   · split
     · split
       · exact OM ⟨by decide,by decide⟩
       · exact OM xy
     · exact OM wS
theorem AdV{w:Ah}{x:BX}(h:Ce w.S)(AE:Ix x.AM.Al=true)(A7:F' w.S x.AM.Al=true)(hw:x.wf)(Ao:¬x.AM.B2=0):CE w (w.Lf x):=by
 obtain⟨f1,f2,f3⟩:=V9 h AE;unfold Ah.Lf;split
 · exact CE.refl h
 · simp only;have AN:(F_.mk x.Ap x.As x.DH x.AM.B2).wf:=⟨hw.2.1,hw.2.2.1,hw.2.2.2.2.1,hw.2.2.2.2.2.2.2.2.1⟩;generalize Bh:KA (BF w.S.Aj x.AM.Al).1 ⟨x.Ap,x.As,x.DH,x.AM.B2⟩=r;have key:CE w (if r.2=0 then w.put r.1 else w.tell 3 x.Ap x.As GS)/\(r.2=0->Fw r.1/\D3 r.1/\r.1.Al=x.AM.Al/\(BF w.S.Aj x.AM.Al).2=true/\G_ r.1=true):=by
    by_cases e:r.2=0
    · rw[if_pos e];have IV:=e;rw[<-Bh]at IV;obtain⟨p,_,_,Qj,CY,Dh,q,s⟩:=gu f2 AN IV;rw[Bh]at p q s;have BI:(BF w.S.Aj x.AM.Al).2=true:=by
       cases S_:(BF w.S.Aj x.AM.Al).2 with
       |true=>rfl
       |false=>
        exfalso;have Cu:(BF w.S.Aj x.AM.Al).1={Fj with Al:=x.AM.Al}:=(by rw[(UH S_).2];exact(YR AE).1);rw[Cu]at CY Dh;have CY:(0:Int)<=0+x.AM.B2:=CY;have Dh:(0:Int)+x.AM.B2<=0:=Dh;omega
      have js:r.1.Al=x.AM.Al:=(by rw[p];exact f3);have AbV:G_ r.1=true:=by
       simp only[Sk,Bool.and_eq_true,decide_eq_true_eq]at Qj;have:¬x.Ap=0:=(by omega);rw[p];show(!decide (x.Ap=0))=true;rw[decide_eq_false this];rfl
      exact⟨TL h q s (by rw[js];exact A7) (.inl (by rw[js];exact BI)),fun _=>⟨q,s,js,BI,AbV⟩⟩
    · rw[if_neg e];exact⟨cJ h _ _ _ _,fun q=>absurd q e⟩
   obtain⟨A1,AY⟩:=key;have A9:r.2=0->∀v:Ah,v=(if r.2=0 then w.put r.1 else w.tell 3 x.Ap x.As GS)->(BF v.S.Aj x.AM.Al).2=true/\F' v.S x.AM.Al=true:=fun e v BC=>by
    rw[if_pos e]at BC;obtain⟨_,_,z,_⟩:=AY e;have hs:=A1.ws.Ll;rw[if_pos e,<-BC]at hs;refine⟨?_,by rw[BC];exact A7⟩;rw[oS hs,br Pa hs];exact⟨r.1,by rw[BC];exact(PJ Pa h.Ll).2 (.inl rfl),z⟩
   generalize BC:(if r.2=0 then w.put r.1 else w.tell 3 x.Ap x.As GS)=v at A1 A9;refine A1.trans ?_;split
   · split
     · exact k2 A1.ws _ _
     · exact CE.refl A1.ws
   · split
     · split
       · rename_i BI;by_cases e:r.2=0
         · obtain⟨a,b,c,_,l⟩:=AY e;obtain⟨_,_,p,q,s⟩:=UK (c:=false) b BI;obtain⟨Kq,YQ⟩:=A9 e v rfl;exact TL A1.ws q s (by rw[p];show F' v.S r.1.Al=true;rw[c];exact YQ) (.inl (by rw[p];show(BF v.S.Aj r.1.Al).2=true;rw[c];exact Kq))
         · exfalso;have Cu:r.1=Fj:=by
            rw[<-Bh]at e ⊢;unfold KA at e ⊢;split
            · rfl
            · rename_i Hj;rw[if_neg Hj]at e;split
              · rfl
              · rename_i G1;rw[if_neg G1]at e;split
                · rfl
                · rename_i Jt;rw[if_neg Jt]at e;split
                  · rfl
                  · rename_i NI;rw[if_neg NI]at e;exact absurd rfl e
           rw[Cu]at BI;exact absurd BI (by decide)
       · exact CE.refl A1.ws
     · rename_i AJ;simp only[Bool.or_eq_true,not_or,Bool.not_eq_true',Bool.not_eq_false,decide_eq_true_eq]at AJ;generalize CK:Jk v.S.Bj x.Ap x.As (decide (x.AM.Al=(findD v.S.Bj x.Ap x.As).Al)) (decide (r.2=0))=g;have pE:g.2.2=0:=by
        have pz:(F1 v.S.Bj x.Ap x.As).2=0:=by
         have:=AJ.1;unfold Tz at this;split at this
         · cases this
         · rename_i q;simp only[Bool.or_eq_true,decide_eq_true_eq,not_or,Bool.not_eq_true',Bool.not_eq_false,ee]at q;rw[F1,if_neg (by rw[q.2];decide),if_neg q.1]
        rw[<-CK,Jk,if_neg (not_not_intro pz)]
       have h2:CE v {v with S:={v.S with Bj:=g.1}}:=⟨A1.ws.SH (by rw[<-CK]at pE ⊢;exact cC pE),rfl,rfl,rfl,rfl⟩;split
       · exact h2.trans (oe h2.ws _ _)
       · exact h2
theorem uI{x:BX}(h:Xu x=true):1<=x.AM.Ca/\x.AM.Ca<=5/\(x.AM.Ca=1\/x.AM.Ca=2->1<=x.AM.B2):=by
 simp only[Xu,Bool.and_eq_true,Bool.or_eq_true,decide_eq_true_eq]at h;omega
theorem uG{w:Ah}{i:Nat}(h:Ce w.S)(Ag:i<w.S.AA.length):CE w (w.L6 i):=by
 have hm:=Hl (l:=w.S.AA) Ag;obtain⟨a,b,c,d,e⟩:=SF.1 (h.wt _ hm);have hw:=h.ww _ hm;unfold Ah.L6;simp only;have Af:CE w {w with S:={w.S with AA:=w.S.AA.eraseIdx i}}:=⟨h.bB (List.eraseIdx_sublist ..),rfl,rfl,rfl,rfl⟩;split
 · rename_i k;have A7:Xu (w.S.AA.getD i default)=true:=by
    rcases e with e|e
    · exact e.2
    · rw[k]at e;exact absurd e.1 (by decide)
   obtain⟨Ie,II,IJ⟩:=uI A7;have h2:=tI (w:={w with S:={w.S with AA:=w.S.AA.eraseIdx i}}) Af.ws b c hw.2.2.2.2.2 IJ ⟨Ie,II⟩;exact Af.trans (h2.trans (f' h2.ws _ _ _ _ (tH (w:={w with S:={w.S with AA:=w.S.AA.eraseIdx i}}) Af.ws b)))
 · rename_i k;have A7:Xv (w.S.AA.getD i default)=true:=by
    rcases e with e|e
    · exact absurd e.1 k
    · exact e.2
   simp only[Xv,Bool.and_eq_true,Bool.not_eq_true',decide_eq_false_iff_not]at A7;exact Af.trans (AdV Af.ws b c hw A7.1.2)
theorem gH:∀(n:Nat) {w:Ah},Ce w.S->CE w (Ah.waits n w)
 |0,_,h=>CE.refl h
 |n+1,w,h=>by
  rw[Ah.waits];cases e:KS w.S with
  |none=>exact CE.refl h
  |some i=>
   have Af:=uG h (Q4 e);exact Af.trans (gH n Af.ws)
theorem fm:∀(k i v v0:Nat) (r:List UInt8),(GN v).length=k->i<=9->v*2^(7*i)<2^64->(i=0\/0<v)->HH i v0 (GN v++r)=(v0+v*2^(7*i),i+k,0)
 |0,i,v,v0,r,AE,_,_,_=>by
  exfalso;by_cases h:v<128
  ·
   rw[ec h]at AE;simp at AE
  ·
   rw[eb (by omega)]at AE;simp at AE
 |k+1,i,v,v0,r,AE,Ag,BC,Bw=>by
  by_cases h:v<128
  ·
   rw[ec h]at AE ⊢;have AE:k=0:=(by simpa using AE.symm);subst AE;have Bm:(UInt8.ofNat v).toNat=v:=toNat_ofNat (by omega);have EO:i=9->v<=1:=by
    rintro rfl;simp only[Nat.reduceMul,Nat.reducePow]at BC;omega
   simp only[List.cons_append,List.nil_append,HH,Bm];rw[if_neg (by omega),if_neg (by omega),if_neg (by omega),Nat.mod_eq_of_lt h]
  ·
   have Aq:128<=v:=(by omega);rw[eb Aq]at AE ⊢;have AE:(GN (v / 128)).length=k:=(by simpa using AE);have Bm:(UInt8.ofNat (v % 128+128)).toNat=v % 128+128:=toNat_ofNat (by omega);have EO:i≠9:=by
    rintro rfl;simp only[Nat.reduceMul,Nat.reducePow]at BC;omega
   have e:2^(7*(i+1))=128*2^(7*i):=(by rw[Nat.mul_add,Nat.pow_add,Nat.mul_comm]);have jK:v / 128*2^(7*(i+1))+v % 128*2^(7*i)=v*2^(7*i):=by
    rw[e,<-Nat.mul_assoc,<-Nat.add_mul];congr 1;omega
   simp only[List.cons_append,HH,Bm];rw[if_neg (by omega),if_pos (by omega),show(v % 128+128) % 128=v % 128 by omega];rw[fm k (i+1) (v / 128) _ r AE (by omega) (by omega) (.inr (by omega))];rw[Nat.add_assoc v0,Nat.add_comm (v % 128*2^(7*i)),jK];congr 2;omega
def MX(J:List UInt8)(s:Bb)(r:List UInt8):Prop:=s.fault=0/\s.pos<=J.length/\J.drop s.pos=r
theorem MX.next{α:Type}{J:List UInt8}{s:Bb}{a r:List UInt8}(h:MX J s (a++r)){d x:α}{f:List UInt8->α×Nat×Nat}(BI:f (a++r)=(x,a.length,0)):
  ∃DR,Lj J d f s=(x,DR)/\MX J DR r:=by
 obtain⟨Af,h2,Bo⟩:=h;have AN:a.length+r.length+s.pos=J.length:=by
  have:=congrArg List.length Bo;simp only[List.length_drop,List.length_append]at this;omega
 refine⟨⟨s.pos+a.length,s.fault⟩,?_,Af,by show s.pos+a.length<=_;omega,?_⟩
 ·
  simp only[Lj,Bo,BI,Bb.val,Bb.step];rw[if_neg (by omega),if_neg (by omega),if_neg (by omega),if_neg (by omega)]
 ·
  show J.drop (s.pos+a.length)=r;rw[<-List.drop_drop,Bo,List.drop_left]
theorem Ah'{J:List UInt8}{s:Bb}{v:Nat}{r:List UInt8}(BC:v<2^64)(h:MX J s (GN v++r)):∃DR,rdNum J s=(v,DR)/\MX J DR r:=
 h.next (by rw[fm _ 0 v 0 r rfl (by decide) (by simpa using BC) (.inl rfl)];simp)
theorem Ah7{J:List UInt8}{s:Bb}{x:Int}{r:List UInt8}(Ab:A' x)(h:MX J s (QZ x++r)):∃DR,D6 J s=(x,DR)/\MX J DR r:=by
 obtain⟨DR,Af,h2⟩:=Ah' (AlY Ab) h;exact⟨DR,by simp only[D6,Af,AlS],h2⟩
theorem Ah2{J:List UInt8}{m:Int}{s:Bb}{v:Nat}{r:List UInt8}(Bw:(v:Int)<=m)(BC:v<2^64)(h:MX J s (GN v++r)):∃DR,DT J m s=(v,DR)/\MX J DR r:=
 h.next (by
  have e:=fm _ 0 v 0 r rfl (by decide) (by simpa using BC) (.inl rfl);rw[S7 e,if_neg (by simp;omega),if_neg (by simp)];simp)
theorem Aie{J:List UInt8}{m:Int}{s:Bb}{b r:List UInt8}(Bw:(b.length:Int)<=m)(Aq:b.length<2^64)(h:MX J s (RS b++r)):∃DR,Gm J m s=(b,DR)/\MX J DR r:=
 h.next (by
  have e:=fm _ 0 b.length 0 (b++r) rfl (by decide) (by simpa using Aq) (.inl rfl);simp only[Nat.zero_add,Nat.mul_zero,Nat.pow_zero,Nat.mul_one]at e;have B4:L9 (RS b++r) m=(b.length,(GN b.length).length,0):=by
   unfold RS;rw[List.append_assoc,S7 e,if_neg (by omega),if_neg (by omega)]
  rw[l7 B4,if_neg (by omega),if_neg (by unfold RS;simp only[List.length_append];omega)];unfold RS;rw[List.append_assoc,List.drop_left,List.take_left,List.length_append])
theorem Ah4{J:List UInt8}{s:Bb}{b:Bool}{r:List UInt8}(h:MX J s ([if b=true then 1 else 0]++r)):∃DR,Kw J s=(b,DR)/\MX J DR r:=
 h.next (by cases b<;>rfl)
def HU{α:Type}(W:Cc->Cc)(rd:List UInt8->Bb->α×Bb)(x:α):Prop:=
 ∀w,(W w).E6=false->w.E6=false/\(w.out.length<=65536->(W w).out.length<=65536)/\∃e,(W w).out=w.out++e/\∀J s r,MX J s (e++r)->∃DR,rd J s=(x,DR)/\MX J DR r
theorem fG{α:Type}{b:List UInt8}{rd:List UInt8->Bb->α×Bb}{x:α}(h:∀J s r,MX J s (b++r)->∃DR,rd J s=(x,DR)/\MX J DR r):HU (H4 b) rd x:=by
 intro w AN;unfold H4 at AN ⊢;split at AN
 ·
  cases AN
 ·
  rename_i Ao;rw[if_neg Ao];simp only[Bool.or_eq_true,not_or,decide_eq_true_eq,Bool.not_eq_true]at Ao;exact⟨Ao.1,fun _=>by show(w.out++b).length<=_;rw[List.length_append];omega,b,G,h⟩
theorem tF{α:Type}{W:Cc->Cc}{rd:List UInt8->Bb->α×Bb}{x:α}(h:HU W rd x):HU (fun w=>if w.E6=true then w else W w) rd x:=by
 intro w AN;simp only at AN ⊢;split at AN
 ·
  rename_i e;rw[e]at AN;cases AN
 ·
  rename_i e;rw[if_neg e];exact h w AN
theorem F7{v:Int}(h:A' v):HU (E2 v) D6 v:=tF (fG fun _ _ _ hs=>Ah7 h hs)
theorem oZ{b:Bool}:HU (Gy b) Kw b:=tF (fG fun _ _ _ hs=>Ah4 hs)
theorem nL{b:List UInt8}:HU (KT b) (fun J=>Gm J 65535) b:=by
 intro w AN;unfold KT at AN ⊢;split at AN
 ·
  rename_i e;rw[e]at AN;cases AN
 ·
  rename_i e;split at AN
  ·
   cases AN
  ·
   rename_i Aq;rw[if_neg e,if_neg Aq];exact fG (fun _ _ _ hs=>Aie (by omega) (by omega) hs) w AN
def c1(s:ByteArray)(w:Cc):Cc:=if s.size>65535 then{w with E6:=true}else KT s.data.toList w
theorem T3{s:ByteArray}:HU (c1 s) (fun J=>Gm J 65535) s.data.toList:=by
 intro w AN;unfold c1 at AN ⊢;split at AN
 ·
  cases AN
 ·
  rename_i e;rw[if_neg e];exact nL w AN
def Jz(l:List (Cc->Cc))(w:Cc):Cc:=l.foldl (fun w f=>f w) w
theorem Qy{β:Type}{y z:β}(h:z=y):HU (Jz []) (fun _ s=>(z,s)) y:=by
 intro w AN;subst h;exact⟨AN,fun h=>h,[],(List.append_nil _).symm,fun _ s _ hs=>⟨s,G,hs⟩⟩
theorem D'{α β:Type}{W:Cc->Cc}{l:List (Cc->Cc)}{rd:List UInt8->Bb->α×Bb}{x:α}{k:α->List UInt8->Bb->β×Bb}{y:β}(h:HU W rd x)(g:HU (Jz l) (k x) y):HU (Jz (W::l)) (fun J s=>Di (rd J s) fun a t=>k a J t) y:=by
 intro w AN;obtain⟨Hj,G1,DC,Jt,NI⟩:=g (W w) AN;obtain⟨Af,h2,B4,Bo,BB⟩:=h w Hj;refine⟨Af,fun q=>G1 (h2 q),B4++DC,by show(Jz l (W w)).out=_;rw[Jt,Bo,List.append_assoc],fun J s r hs=>?_⟩;rw[List.append_assoc]at hs;obtain⟨s1,NY,hs⟩:=BB J s _ hs;obtain⟨s2,MK,hs⟩:=NI J s1 _ hs;exact⟨s2,by simp only[Di,NY,MK],hs⟩
theorem T4{α:Type}{s:ByteArray}{r:List ByteArray}{l:List (Cc->Cc)}{rd:List UInt8->Bb->α×Bb}{x:α}(h:HU (Jz (c1 s::KD r::l)) rd x):HU (Jz (KD (s::r)::l)) rd x:=by
 intro w AN;have e:Jz (KD (s::r)::l) w=Jz l (if s.size>65535 then{w with E6:=true}else KD r (KT s.data.toList w)):=by
  show Jz l (KD (s::r) w)=_;rw[KD]
 have IV:Jz (c1 s::KD r::l) w=Jz l (KD r (if s.size>65535 then{w with E6:=true}else KT s.data.toList w)):=rfl;have Dv:∀(r:List ByteArray) (w:Cc),w.E6=true->KD r w=w:=by
  intro r;induction r with
  |nil=>intro w _;rfl
  |cons a r Cg=>
   intro w hw;rw[KD];split
   ·
    cases w;simp only at hw;subst hw;rfl
   ·
    rw[show KT a.data.toList w=w by rw[KT,if_pos hw]];exact Cg w hw
 have DC:Jz (KD (s::r)::l) w=Jz (c1 s::KD r::l) w:=by
  rw[e,IV];split
  ·
   rw[Dv r {w with E6:=true} rfl]
  · rfl
 rw[DC]at AN ⊢;exact h w AN
theorem cM{α:Type}{l:List (Cc->Cc)}{rd:List UInt8->Bb->α×Bb}{x:α}(h:HU (Jz l) rd x):HU (Jz (KD []::l)) rd x:=h
theorem rm{α:Type}{one:α->Cc->Cc}{rd:List UInt8->Bb->α×Bb}:∀{l:List α},(∀x∈l,HU (one x) rd x)->HU (MS one l) (fun J=>GI (rd J) l.length) l
 |[],_=>fun w AN=>⟨AN,fun h=>h,[],(List.append_nil _).symm,fun _ s _ hs=>⟨s,rfl,hs⟩⟩
 |x::r,h=>by
  intro w AN;unfold MS at AN ⊢;split at AN
  ·
   rename_i e;rw[e]at AN;cases AN
  ·
   rename_i e;rw[if_neg e];obtain⟨Hj,G1,DC,Jt,NI⟩:=rm (fun y Bf=>h y (List.mem_cons_of_mem _ Bf)) (one x w) AN;obtain⟨Af,h2,B4,Bo,BB⟩:=h x (List.mem_cons_self ..) w Hj;refine⟨Af,fun q=>G1 (h2 q),B4++DC,by rw[Jt,Bo,List.append_assoc],fun J s fI hs=>?_⟩;rw[List.append_assoc]at hs;obtain⟨s1,NY,jD⟩:=BB J s _ hs;obtain⟨s2,MK,jE⟩:=NI J s1 _ jD;refine⟨s2,?_,jE⟩;show GI (rd J) (r.length+1) s=_;have MK:GI (rd J) r.length s1=(r,s2):=MK;simp only[sJ hs.1,NY,MK]
theorem YL{α:Type}{one:α->Cc->Cc}{rd:List UInt8->Bb->α×Bb}{l:List α}(h:∀x∈l,HU (one x) rd x):HU (CH one l) (fun J=>CS J (rd J)) l:=by
 intro w AN;unfold CH at AN ⊢;split at AN
 ·
  rename_i e;rw[e]at AN;cases AN
 ·
  rename_i e;split at AN
  ·
   cases AN
  ·
   rename_i Aq;rw[if_neg e,if_neg Aq];obtain⟨Hj,G1,DC,Jt,NI⟩:=rm h _ AN;obtain⟨Af,h2,B4,Bo,BB⟩:=fG (rd:=fun J=>DT J 1024) (x:=l.length) (fun _ _ _ hs=>Ah2 (by omega) (by omega) hs) w Hj;refine⟨Af,fun q=>G1 (h2 q),B4++DC,by rw[Jt,Bo,List.append_assoc],fun J s fI hs=>?_⟩;rw[List.append_assoc]at hs;obtain⟨s1,NY,jD⟩:=BB J s _ hs;obtain⟨s2,MK,jE⟩:=NI J s1 _ jD;refine⟨s2,?_,jE⟩;have NY:DT J 1024 s=(l.length,s1):=NY;have MK:GI (rd J) l.length s1=(l,s2):=MK;simp only[CS,NY,MK]
-- each kind of thing
theorem Z1(s:ByteArray):(⟨s.data.toList.toArray⟩:ByteArray)=s:=by cases s;rfl
theorem Afw{o:FL}(h:o.wf):HU (Zv o) Wc o:=by
 obtain⟨Af,_,_,BB,C',F4⟩:=h;exact D' (l:=[KD [o.Al,o.EL],E2 o.B2,E2 o.A6,E2 o.Bc]) (F7 Af) (T4 (D' T3 (T4 (D' T3 (cM (D' (F7 BB) (D' (F7 C') (D' (F7 F4) (Qy (by simp only[Z1]))))))))))
theorem si{o:Fs}(h:o.wf):HU (Lq o) L_ o:=by
 obtain⟨Af,h2,Bo,_,_,BB,C'⟩:=h;exact D' (l:=[E2 o.Hi,E2 o.IX,KD [o.A6,o.Bc],E2 o.Ap,E2 o.As]) (F7 Af) (D' (F7 h2) (D' (F7 Bo) (T4 (D' T3 (T4 (D' T3 (cM (D' (F7 BB) (D' (F7 C') (Qy (by simp only[Z1])))))))))))
theorem Ab3{o:BD}(h:o.wf):HU (PY o) Iu o:=by
 obtain⟨Af,h2,Bo,BB⟩:=h;exact D' (l:=[E2 o.G0,E2 o.DV,E2 o.Fc]) (F7 Af) (D' (F7 h2) (D' (F7 Bo) (D' (F7 BB) (Qy G))))
theorem yZ{o:Df}(h:o.wf):HU (Mq o) HF o:=by
 obtain⟨Af,h2⟩:=h;exact D' (l:=[E2 o.As]) (F7 Af) (D' (F7 h2) (Qy G))
theorem w3{o:De}(h:o.wf){α:Type}{l:List (Cc->Cc)}{k:De->List UInt8->Bb->α×Bb}{y:α}(g:HU (Jz l) (k o) y):
  HU (Jz (KU [o.Jd]::KU [o.JM,o.JJ,o.JK]::l)) (fun J s=>Di (UL J s) fun a t=>k a J t) y:=by
 obtain⟨Af,h2,Bo,BB⟩:=h;have q:HU (Jz [E2 o.Jd,E2 o.JM,E2 o.JJ,E2 o.JK]) UL o:=D' (F7 Af) (D' (F7 h2) (D' (F7 Bo) (D' (F7 BB) (Qy rfl))));exact D' (W:=Jz [E2 o.Jd,E2 o.JM,E2 o.JJ,E2 o.JK]) (l:=l) q g
theorem Aea{o:BL}(h:o.wf):HU (Kc o) GG o:=by
 obtain⟨Af,h2,_,Bo⟩:=h;exact D' (l:=[E2 o.As,Gy o.HV,KU [o.Cm.Jd],KU [o.Cm.JM,o.Cm.JJ,o.Cm.JK]]) (F7 Af) (D' (F7 h2) (D' oZ (w3 Bo (Qy G))))
theorem Ak4{o:BX}(h:o.wf):HU (KV o) GX o:=by
 obtain⟨Af,h2,Bo,BB,C',F4⟩:=h;exact D' (l:=[E2 o.Ap,E2 o.As,E2 o.Bn,E2 o.DH,Zv o.AM]) (F7 Af) (D' (F7 h2) (D' (F7 Bo) (D' (F7 BB) (D' (F7 C') (D' (Afw F4) (Qy G))))))
theorem yu{o:Bx}(h:o.wf):HU (LO o) Hk o:=by
 obtain⟨Af,h2,_,_,Bo,BB,C',F4⟩:=h;exact D' (l:=[E2 o.As,KD [o.Al,o.EL],E2 o.B2,E2 o.DN,E2 o.DO,E2 o.C3]) (F7 Af) (D' (F7 h2) (T4 (D' T3 (T4 (D' T3 (cM (D' (F7 Bo) (D' (F7 BB) (D' (F7 C') (D' (F7 F4) (Qy (by simp only[Z1]))))))))))))
theorem wM{o:AD}(h:o.wf)(hh:∀x∈o.A0,x.wf):HU (I_ o) F2 o:=by
 obtain⟨_,⟨s1,s2⟩,Af,h2,_,⟨Om,Sl,On,qX⟩⟩:=h;have AhU:HU (Jz [E2 o.Cs.A6,E2 o.Cs.Bc]) UO o.Cs:=D' (F7 s1) (D' (F7 s2) (Qy rfl));have AhT:HU (Jz [E2 o.BG.Ap,E2 o.BG.As,E2 o.BG.DH,E2 o.BG.B2]) UM o.BG:=D' (F7 Om) (D' (F7 Sl) (D' (F7 On) (D' (F7 qX) (Qy rfl))));have e:I_ o=Jz [KD [o.Al],Jz [E2 o.Cs.A6,E2 o.Cs.Bc],E2 o.BT,E2 o.Cn,CH PY o.A0,Jz [E2 o.BG.Ap,E2 o.BG.As,E2 o.BG.DH,E2 o.BG.B2]]:=by
  funext w;simp only[I_,KU,Jz,List.foldl_cons,List.foldl_nil]
 rw[e];exact T4 (D' T3 (cM (D' AhU (D' (F7 Af) (D' (F7 h2) (D' (YL fun x Ab=>Ab3 (hh x Ab)) (D' AhT (Qy (by simp only[Z1])))))))))
structure hc (S:Bv):Prop where
 wf:S.wf
 ac:∀x∈S.Aj,x.wf/\∀y∈x.A0,y.wf
 O8:∀x∈S.Bz,x.wf
 PZ:∀x∈S.AA,x.wf
 yr:∀x∈S.Bj,x.wf
 h4:∀x∈S.CX,x.wf
theorem AjO{S:Bv}(h:hc S):HU (N7 S) FC S:=by
 obtain⟨Af,h2,_,_,_,F4,_,_,_,_,_,EM,Dp,_,Ft,CR,DA⟩:=h.wf;have e:N7 S=Jz [E2 S.CZ,E2 S.DX,Gy S.Du,KD [S.A6,S.Bc],E2 S.Dn,CH I_ S.Aj,CH Kc S.Bz,CH KV S.AA,CH LO S.Bj,CH Mq S.CX,Lq S.Bt,Lq S.CW,KT S.Cf,E2 S.Jc,E2 S.JL,E2 S.GW]:=by
  funext w;simp only[N7,KU,Jz,List.foldl_cons,List.foldl_nil]
 rw[e];refine D' (F7 Af) (D' (F7 h2) (D' oZ (T4 (D' T3 (T4 (D' T3 (cM (D' (F7 F4) (D' (YL fun x Ab=>wM (h.ac x Ab).1 (h.ac x Ab).2) ?_)))))))));refine D' (YL fun x Ab=>Aea (h.O8 x Ab)) (D' (YL fun x Ab=>Ak4 (h.PZ x Ab)) (D' (YL fun x Ab=>yu (h.yr x Ab)) (D' (YL fun x Ab=>yZ (h.h4 x Ab)) ?_)));exact D' (si EM) (D' (si Dp) (D' nL (D' (F7 Ft) (D' (F7 CR) (D' (F7 DA) (Qy (by simp only[Z1])))))))
theorem back{S:Bv}(h:hc S)(he:(IW S).2=0):Er (IW S).1=(S,0):=by
 unfold IW at he ⊢;split at he
 ·
  cases he
 ·
  rename_i AN;rw[if_neg AN];obtain⟨_,h2,e,Bo,BB⟩:=AjO h ⟨[],false⟩ (by simpa using AN);have h2:=h2 (Nat.zero_le _);simp only[List.nil_append]at Bo;obtain⟨DR,r,hs,AH,AJ⟩:=BB (N7 S ⟨[],false⟩).out ⟨0,0⟩ [] ⟨rfl,Nat.zero_le _,by rw[Bo];simp⟩;have La:¬DR.pos<(N7 S ⟨[],false⟩).out.length:=by
   have:=congrArg List.length AJ;simp only[List.length_drop,List.length_nil]at this;omega
  have Fb:NF (N7 S ⟨[],false⟩).out=0:=by
   rw[oM (by omega),r];simp only[Q0];rw[if_neg (fun x=>La x.2),hs];rfl
  rw[fN Fb,gn (by omega),r]
theorem Aed{m:BL}(Bw:0<m.Ap)(h:dq m)(hw:m.Cm.wf):m.wf:=by
 have Af:=h.hH;have h2:=h.L3;have Bo:=h.Ey;have BI:EW=4611686018427387904:=rfl;exact⟨⟨by omega,by omega⟩,⟨by omega,by omega⟩,trivial,hw⟩
theorem Aee{l:List BL}(h:Fg l=true)(hw:∀m∈l,m.Cm.wf):∀m∈l,m.wf:=fun m hm=>Aed ((Rl.1 h).1 m hm).1 ((Rl.1 h).1 m hm).2 (hw m hm)
theorem y7{l:List Df}(h:HE l=true):∀e∈l,e.wf:=fun e he=>by
 have:=((au.1 h).1 e he).2;simp only[Jj,Bool.and_eq_true,decide_eq_true_eq]at this;have BI:EW=4611686018427387904:=rfl;exact⟨⟨by omega,by omega⟩,⟨by omega,by omega⟩⟩
theorem Ad5(b:List BL):∀{l:List BL},Fg l=true->(∀m∈l,m.Cm.wf)->Fg (b.foldl (fun l m=>if(G' l m.Ap m.As).2=0 then(G' l m.Ap m.As).1 else l) l)=true/\∀m∈b.foldl (fun l m=>if(G' l m.Ap m.As).2=0 then(G' l m.Ap m.As).1 else l) l,m.Cm.wf:=by
 induction b with
 |nil=>exact fun h hw=>⟨h,hw⟩
 |cons x r Cg=>
  intro l h hw;rw[List.foldl_cons];split
  · rename_i e;exact Cg (rj e) (rk hw)
  · exact Cg h hw
theorem sb{S:Bv}(h:Ce S)(BQ Ag:ByteArray):hc (Gl S BQ Ag):=by
 obtain⟨Kq,YQ⟩:=Ad5 S.Bz h.marks h.Me;refine⟨dd,fun x Ab=>?_,Aee Kq YQ,fun x Ab=>absurd Ab List.not_mem_nil,fun x Ab=>absurd Ab List.not_mem_nil,y7 h.ends⟩;obtain⟨Ab,_⟩:=List.mem_filter.1 Ab;obtain⟨a,AK,rfl⟩:=List.mem_map.1 Ab;have:=k_ (h.acc a AK).2.1 DW;exact⟨this.wf,this.A7⟩
theorem Akv{S:Bv}(k:ByteArray)(h:S.Bt=FP):Ef S k=false:=by
 unfold Ef;rw[h];rfl
theorem b6{S:Bv}{k:ByteArray}:F' S k=true↔S.Du=true/\within S.A6 S.Bc k=true:=by rw[F',Bool.and_eq_true]
theorem jc{S:Bv}(h:Ce S):Ce (LG S)/\(LG S).CZ=S.CZ/\(LG S).DX=S.DX:=by
 unfold LG;split
 · exact⟨h,rfl,rfl⟩
 · rename_i Ew;split
   · exact⟨h,rfl,rfl⟩
   · rename_i he;have he:=Classical.not_not.1 he;have ql:=back (sb h S.Bt.A6 S.Bt.Bc) he;generalize (IW (Gl S S.Bt.A6 S.Bt.Bc)).1=jQ at ql;have qi:(Er jQ).2=0:=(by rw[ql]);have Cu:¬S.Bt=FP:=fun e=>Ew (by simp[Py,e]);obtain⟨AH,BI,hh,A7⟩:LK S.Bt=true/\S.Bt.Hi=S.CZ/\S.Bt.Bc=S.Bc/\F' S S.Bt.A6=true:=h.Hc.resolve_left Cu;obtain⟨bb,Kp⟩:=b6.1 A7;obtain⟨B4,sp⟩:=h.own.yes bb;have HG:¬S.Bt.Ev=0:=by
      simp only[LK,Bool.and_eq_true,decide_eq_true_eq]at AH;omega
     have NM:∀k,Ef S k=within S.Bt.A6 S.Bc k:=fun k=>by rw[Ef,decide_eq_false HG,hh];rfl
     have qc:∀x∈S.AA,within S.A6 S.Bc x.AM.Al=true/\Ef S x.AM.Al=false:=fun x Ab=>by
      obtain⟨_,_,c,d,_⟩:=SF.1 (h.wt x Ab);exact⟨(b6.1 c).2,d⟩
     have pq:∀a∈S.Aj,within S.A6 S.Bc a.Al=true:=fun a AK=>(b6.1 (h.acc a AK).2.2).2;simp only;split
     · rename_i el;have Cl:S.Aj.filter (fun a=> !Ef S a.Al)=[]:=List.filter_eq_nil_iff.2 fun a AK=>by
        rw[NM,el,pq a AK];decide
       have F5:S.AA=[]:=List.eq_nil_iff_forall_not_mem.2 fun x Ab=>by
        obtain⟨a,b⟩:=qc x Ab;rw[NM,el,a]at b;cases b
       refine⟨{h with own:=⟨fun _=>⟨rfl,rfl,Cl,F5,rfl⟩,fun q=>by cases q⟩,len:=?_,acc:=?_,Ll:=?_,wt:=?_,Hc:=.inl rfl,out:=.inr ⟨AH,BI,qi⟩},rfl,rfl⟩
       · show(S.Aj.filter _).length<=12;rw[Cl];decide
       · show ∀a∈S.Aj.filter _,_;rw[Cl];exact fun a AK=>absurd AK List.not_mem_nil
       · show H6 _ _ (S.Aj.filter _);rw[Cl];exact List.Pairwise.nil
       · show ∀x∈S.AA,_;rw[F5];exact fun a AK=>absurd AK List.not_mem_nil
     · rename_i el;obtain⟨Ua,Ub⟩:=within_iff.1 Kp;have Ad6:Ds S.A6 S.Bt.A6=true:=Pa.tZ _ _ Ua el;obtain⟨s1,s2,IK⟩:=Vm.1 (kT AH);obtain⟨t1,t2,t3⟩:=Vm.1 sp;have DY:∀k,within S.A6 S.Bc k=true->Ef S k=false->within S.A6 S.Bt.A6 k=true:=fun k a b=>by
        obtain⟨DP,EK⟩:=within_iff.1 a;refine within_iff.2 ⟨DP,.inr ?_⟩;rw[NM]at b;cases q:Ds k S.Bt.A6 with
        |true=>rfl
        |false=>rw[within_iff.2 ⟨q,EK⟩]at b;cases b
       refine⟨{h with own:=⟨fun q=>(by rw[show S.Du=false from q]at bb;cases bb),fun _=>⟨B4,Vm.2 ⟨t1,s1,.inr Ad6⟩⟩⟩,len:=Nat.le_trans (List.length_filter_le ..) h.len,acc:=?_,Ll:=List.Pairwise.filter _ h.Ll,wt:=?_,Hc:=.inl rfl,out:=.inr ⟨AH,BI,qi⟩},rfl,rfl⟩
       · intro a AK;obtain⟨AK,hs⟩:=List.mem_filter.1 AK;exact⟨(h.acc a AK).1,(h.acc a AK).2.1,b6.2 ⟨bb,DY _ (pq a AK) (by simpa using hs)⟩⟩
       · intro x Ab;obtain⟨a,b⟩:=qc x Ab;exact c2 (h.wt x Ab) (b6.2 ⟨bb,DY _ a b⟩) (Akv _ rfl)
theorem jP{S:Bv}{ix:Int}{a:AD}(Af:1<=ix)(h2:ix<=EW)(AK:Fw a)(w:D3 a):Fw (Jv S ix a)/\D3 (Jv S ix a)/\(Jv S ix a).Al=a.Al:=by
 unfold Jv;split
 · obtain⟨x,y,z⟩:=ig w AK Af h2;exact⟨y,z,by rw[x]⟩
 · obtain⟨x,y,z⟩:=l8 w AK;exact⟨y,z,by rw[x]⟩
theorem fe{w:Ah}{x:JE}(h:Ce w.S):CE w (w.Iv x):=by
 unfold Ah.Iv;split
 · exact CE.refl h
 · rename_i Af;have BI:(BF w.S.Aj x.Al).2=true:=(by simpa using Af);split
   · rename_i h2;obtain⟨m,k⟩:=Q2 BI;obtain⟨_,y,z⟩:=h.acc _ m;obtain⟨_,_,_,_,_,_,_,_,p,q,r⟩:=iv y h2;exact TL h q r (by rw[p];exact z) (.inl (by rw[p];show(BF w.S.Aj (BF w.S.Aj x.Al).1.Al).2=true;rw[k];exact BI))
   · exact CE.refl h
theorem lg{w:Ah}(h:Ce w.S)(Af:1<=w.ix)(h2:w.ix<=EW):CE w w.rest/\∀a∈w.rest.S.Aj,FT a=false:=by
 unfold Ah.rest;simp only;obtain⟨DP,EK,FR⟩:=jc h;have CY:CE w {w with S:={LG w.S with Aj:=(LG w.S).Aj.map (Jv (LG w.S) w.ix)}}:=⟨DP.bE fun a AK=>jP Af h2 (DP.acc a AK).1 (DP.acc a AK).2.1,EK,FR,rfl,rfl⟩;have Dh:=CY.trans (Yd (fun u d hu=>fe (x:=d) hu) w.BQ CY.ws);generalize w.BQ.foldl Ah.Iv _=v at Dh;have hs:=Dh.ws;refine⟨⟨hs.mA (Nat.le_trans (List.length_filter_le ..) hs.len) (fun a AK=>hs.acc a (List.mem_filter.1 AK).1) (List.Pairwise.filter _ hs.Ll) (fun e=>by rw[(hs.own.no e).2.2.1];rfl),Dh.g,Dh.i,Dh.x,Dh.n⟩,fun a AK=>?_⟩;have:=(List.mem_filter.1 AK).2;simpa using this
structure VB (S:Bv):Prop where
 ac:∀a∈S.Aj,D3 a
 PZ:∀x∈S.AA,x.wf
 O8:∀m∈S.Bz,m.Cm.wf
theorem Ce.ints{S:Bv}(h:Ce S):VB S:=⟨fun a AK=>(h.acc a AK).2.1,h.ww,h.Me⟩
theorem w5{S:Bv}{c:Dg}{ix nd:Int}(Ag:VB S)(Bm:c.wf)(h:(Gc S c ix nd).2.2=0):
 LN S=true/\LN (Gc S c ix nd).1=true/\VB (Gc S c ix nd).1/\(Gc S c ix nd).1.CZ=S.CZ/\(Gc S c ix nd).1.DX=ix:=by
 unfold Gc at h ⊢;split at h
 · cases h
 · rename_i Bh;rw[if_neg Bh];have Bh:LN S=true:=(by simpa using Bh);split at h
   · cases h
   · rename_i Ao;rw[if_neg Ao];split at h
     · cases h
     · rename_i Ab;rw[if_neg Ab];simp only[Bool.or_eq_true,decide_eq_true_eq,not_or]at Ao Ab;obtain⟨BO,_⟩:=(Zc Ag.ac Ag.PZ Ag.O8).1 Bh;have Fx:=BO.ix;obtain⟨Sp,HG⟩:=Fx;have Bw:Ce {S with DX:=ix}:={BO with ix:=⟨by show 0<=ix;omega,by show ix<=EW;omega⟩,own:=⟨BO.own.no,BO.own.yes⟩,acc:=BO.acc,wt:=BO.wt,Hc:=BO.Hc};have A1:=dO (w:={S:={S with DX:=ix},ix:=ix,nd:=nd,EF:=[],BQ:=[]}) (c:=c) Bw Bm (by show nd<=5;omega);simp only;generalize ({S:={S with DX:=ix},ix:=ix,nd:=nd,EF:=[],BQ:=[]}:Ah).cmd c=w at A1;have AY:=gH w.S.AA.length A1.ws;generalize Ah.waits w.S.AA.length w=v at AY;have TB:v.ix=ix:=AY.x.trans A1.x;obtain⟨A9,Ba⟩:=lg AY.ws (by omega) (by omega);refine⟨Bh,(Zc (A9.ws.ints).ac (A9.ws.ints).PZ (A9.ws.ints).O8).2 ⟨A9.ws,Ba⟩,A9.ws.ints,?_,?_⟩
       · rw[A9.g,AY.g,A1.g]
       · rw[A9.i,AY.i,A1.i]
theorem w7{S:Bv}{c:Dg}{ix nd:Int}(Bh:LN S=true)(Af:1<=nd)(h2:nd<=5)(Bo:S.DX<ix)(BB:ix<=EW):(Gc S c ix nd).2.2=0:=by
 unfold Gc;rw[if_neg (by rw[Bh];decide),if_neg (by simp only[Bool.or_eq_true,decide_eq_true_eq];omega),if_neg (by simp only[Bool.or_eq_true,decide_eq_true_eq];omega)]
theorem tz{β GA:Type}[DecidableEq GA]{key:β->GA}{lt:GA->GA->Bool}(o:QL lt):∀{l m:List β},H6 key lt l->H6 key lt m->(∀x,x∈l↔x∈m)->l=m
 |[],[],_,_,_=>rfl
 |[],y::m,_,_,h=>absurd ((h y).2 (List.mem_cons_self ..)) List.not_mem_nil
 |x::l,[],_,_,h=>absurd ((h x).1 (List.mem_cons_self ..)) List.not_mem_nil
 |x::l,y::m,AN,hm,h=>by
  obtain⟨Om,Sl⟩:=List.pairwise_cons.1 AN;obtain⟨Kq,YQ⟩:=List.pairwise_cons.1 hm;have e:x=y:=by
   rcases List.mem_cons.1 ((h x).1 (List.mem_cons_self ..))with e|e
   · exact e
   · rcases List.mem_cons.1 ((h y).2 (List.mem_cons_self ..))with IV|IV
     · exact IV.symm
     · have:=o.mb _ _ _ (Om _ IV) (Kq _ e);rw[o.Si]at this;cases this
  subst e;rw[tz o Sl YQ fun z=>⟨fun Cu=>?_,fun Cu=>?_⟩]
  · rcases List.mem_cons.1 ((h z).1 (List.mem_cons_of_mem _ Cu))with rfl|e
    · have:=Om _ Cu;rw[o.Si]at this;cases this
    · exact e
  · rcases List.mem_cons.1 ((h z).2 (List.mem_cons_of_mem _ Cu))with rfl|e
    · have:=Kq _ Cu;rw[o.Si]at this;cases this
    · exact e
theorem lX{β GA:Type}[DecidableEq GA]{key:β->GA}{lt:GA->GA->Bool}(o:QL lt):∀{l:List β},H6 key lt l->∀{a b:β},a∈l->b∈l->key a=key b->a=b
 |[],_,_,_,h,_,_=>absurd h List.not_mem_nil
 |x::l,AN,a,b,AK,Aq,e=>by
  obtain⟨Om,Sl⟩:=List.pairwise_cons.1 AN;rcases List.mem_cons.1 AK with X9|o7
  · rcases List.mem_cons.1 Aq with h1|HO
    · rw[X9,h1]
    · have:=Om _ HO;rw[<-e,X9,o.Si]at this;cases this
  · rcases List.mem_cons.1 Aq with h1|HO
    · have:=Om _ o7;rw[e,h1,o.Si]at this;cases this
    · exact lX o Sl o7 HO e
theorem zO{l:List AD}(hs:H6 (·.Al) Ds l){a:AD}(AK:a∈l):(BF l a.Al).1=a:=by
 cases e:(BF l a.Al).2 with
 |true=>exact lX Pa hs (Q2 e).1 AK (Q2 e).2
 |false=>exact absurd rfl ((UH e).1 a AK)
theorem l'{a:AD}:(Io a).2=true↔E4 a=true/\G_ a=false/\a.A0=[]:=by
 unfold Io;split
 · rename_i h;simp only[Bool.or_eq_true,Bool.not_eq_true',decide_eq_true_eq]at h;refine⟨fun q=>(by cases q),fun⟨x,y,z⟩=>?_⟩;rw[x,y,z]at h;simp at h
 · rename_i h;simp only[Bool.or_eq_true,Bool.not_eq_true',decide_eq_true_eq,not_or,Bool.not_eq_false,Bool.not_eq_true]at h;refine⟨fun _=>⟨h.1.1,h.1.2,List.length_eq_zero_iff.1 (by omega)⟩,fun _=>rfl⟩
structure VK (S:Bv):Prop where
 Aij:KS S=none
 hand:Py S=false\/¬(IW (Gl S S.Bt.A6 S.Bt.Bc)).2=0
 Tx:∀ix,1<=ix->ix<=EW->S.Aj.map (Jv S ix)=S.Aj
 plain:∀a∈S.Aj,FT a=false
-- waits: the rounds are enough
theorem ot(w:Ah)(c q:Int)(a:De):(w.done c q a).S.AA=w.S.AA:=by
 unfold Ah.done;simp only;split<;>rfl
theorem Ajp(w:Ah)(c q n:Int)(k:ByteArray)(a:De):(w.served c q n k a).S.AA=w.S.AA:=by
 unfold Ah.served;simp only;split<;>exact ot ..
theorem sG(w:Ah)(c q:Int):(w.raise c q).S.AA=w.S.AA:=by
 unfold Ah.raise;split<;>rfl
theorem y6(w:Ah)(c q e:Int):(w.ends c q e).S.AA.length<=w.S.AA.length:=by
 unfold Ah.ends;simp only;rw[sG];refine Nat.le_trans (List.length_filter_le ..) ?_;show(w.done c q (HN e)).S.AA.length<=_;rw[ot];exact Nat.le_refl _
theorem AjV(w:Ah)(o:FL):(H3 w o).1.S.AA=w.S.AA:=by
 unfold H3;simp only;repeat' split
 all_goals rfl
theorem AdY(w:Ah)(x:BX):(w.Lf x).S.AA.length<=w.S.AA.length:=by
 unfold Ah.Lf;split
 · exact Nat.le_refl _
 · simp only;generalize KA _ _=r;have BC:(if r.2=0 then w.put r.1 else w.tell 3 x.Ap x.As GS).S.AA=w.S.AA:=(by split<;>rfl);generalize (if r.2=0 then w.put r.1 else w.tell 3 x.Ap x.As GS)=v at BC;rw[<-BC];split
   · split
     · rw[sG];exact Nat.le_refl _
     · exact Nat.le_refl _
   · split
     · split<;>exact Nat.le_refl _
     · split
       · exact y6 ..
       · exact Nat.le_refl _
theorem uH{w:Ah}{i:Nat}(h:i<w.S.AA.length):(w.L6 i).S.AA.length<w.S.AA.length:=by
 have he:(w.S.AA.eraseIdx i).length<w.S.AA.length:=by rw[List.length_eraseIdx_of_lt h];omega
 unfold Ah.L6;simp only;split
 · rw[Ajp,AjV];exact he
 · exact Nat.lt_of_le_of_lt (AdY ..) he
theorem lb{S:Bv}{i:Nat}(h:KS S=some i):i<S.AA.length:=Q4 h
theorem uK:∀(n:Nat) (w:Ah),w.S.AA.length<=n->KS (Ah.waits n w).S=none
 |0,w,h=>by
  rw[Ah.waits];cases e:KS w.S with
  |none=>rfl
  |some i=>exact absurd (lb e) (by omega)
 |n+1,w,h=>by
  rw[Ah.waits];cases e:KS w.S with
  |none=>exact e
  |some i=>exact uK n _ (by have:=uH (lb e);show((w.L6 i).S.AA).length<=n;omega)
-- what is lent
def Up(a b:AD):Prop:=a.Al=b.Al/\a.Cn=b.Cn/\a.BG=b.BG/\(a=b\/b.Cn=0/\a.A0≠[])
theorem q7(a:AD):Up a a:=⟨rfl,rfl,rfl,.inl rfl⟩
structure AGm (l m:List AD):Prop where
 to:∀a∈m,∃b∈l,Up a b
 of:∀b∈l,∃a∈m,Up a b
structure Acc (w v:Ah):Prop where
 s:v.S={w.S with Aj:=v.S.Aj}
 e:v.EF=w.EF
 l:v.BQ=w.BQ
theorem AhH{β GA:Type}[Inhabited β][DecidableEq GA]{key:β->GA}{lt:GA->GA->Bool}(x:β)(l:List β):FQ key lt x l≠[]:=by
 intro e;have h:=congrArg List.length e;rw[FQ]at h;split at h
 · rename_i Ag;rw[G9,Bool.and_eq_true,decide_eq_true_eq]at Ag;rw[List.length_set,List.length_nil]at h;omega
 · rw[FO,List.length_append,List.length_cons,List.length_nil]at h;omega
theorem Adt{l:List AD}{w:Ah}{x:JE}(h:Ce w.S)(g:AGm l w.S.Aj):AGm l (w.Iv x).S.Aj/\Acc w (w.Iv x):=by
 unfold Ah.Iv;split
 · exact⟨g,rfl,rfl,rfl⟩
 · rename_i Af;have BI:(BF w.S.Aj x.Al).2=true:=(by simpa using Af);split
   · rename_i h2;obtain⟨m,k⟩:=Q2 BI;obtain⟨_,y,_⟩:=h.acc _ m;obtain⟨_,_,cg,_,_,_,_,_,p,_,_⟩:=iv y h2;refine⟨?_,rfl,rfl,rfl⟩;show AGm l (FQ (·.Al) Ds _ w.S.Aj);generalize (BF w.S.Aj x.Al).1=f at m k cg p;generalize Ano:(Kl f x.Bn w.ix w.nd).1=Jq at p;have Ey:Jq.Al=f.Al:=(by rw[p]);have Ez:Jq.Cn=f.Cn:=(by rw[p]);have AhN:Jq.BG=f.BG:=(by rw[p]);have PM:Jq.A0≠[]:=(by rw[p];exact AhH _ _);have step:∀b,Up f b->Up Jq b:=fun b r=>⟨Ey.trans r.1,Ez.trans r.2.1,AhN.trans r.2.2.1,.inr ⟨by rw[<-r.2.1];exact cg,PM⟩⟩;refine⟨fun a AK=>?_,fun b Aq=>?_⟩
     · rcases(PJ Pa h.Ll).1 AK with e|⟨AK,_⟩
       · obtain⟨b,Aq,r⟩:=g.to f m;exact⟨b,Aq,by rw[e];exact step b r⟩
       · exact g.to a AK
     · obtain⟨a,AK,r⟩:=g.of b Aq;by_cases e:a.Al=Jq.Al
       · have:a=f:=lX Pa h.Ll AK m (e.trans Ey);subst this;exact⟨Jq,(PJ Pa h.Ll).2 (.inl rfl),step b r⟩
       · exact⟨a,(PJ Pa h.Ll).2 (.inr ⟨AK,e⟩),r⟩
   · exact⟨g,rfl,rfl,rfl⟩
theorem q5{l:List AD}:∀(BQ:List JE) {w:Ah},Ce w.S->AGm l w.S.Aj->AGm l (BQ.foldl Ah.Iv w).S.Aj/\Acc w (BQ.foldl Ah.Iv w)
 |[],_,_,g=>⟨g,rfl,rfl,rfl⟩
 |x::r,w,h,g=>by
  obtain⟨a,b⟩:=Adt (x:=x) h g;obtain⟨c,d⟩:=q5 r (fe (x:=x) h).ws a;refine⟨c,?_,d.e.trans b.e,d.l.trans b.l⟩;have:=d.s;rw[b.s]at this;exact this
theorem Abp{S:Bv}:(LG S=S/\(Py S=false\/¬(IW (Gl S S.Bt.A6 S.Bt.Bc)).2=0))\/
 ((LG S).Bt=FP/\(LG S).AA=S.AA/\(LG S).Aj=S.Aj.filter (fun a=> !Ef S a.Al)):=by
 unfold LG;split
 · rename_i h;exact .inl ⟨rfl,.inl h⟩
 · split
   · rename_i h;exact .inl ⟨rfl,.inr h⟩
   · refine .inr ?_;simp only;split<;>exact⟨rfl,rfl,rfl⟩
theorem qh{S:Bv}{ix:Int}{a:AD}(Af:1<=ix)(h2:ix<=EW)(AK:Fw a)(w:D3 a):Jv S ix a={a with Cn:=if(SG S.AA a.Al||Ef S a.Al)=true then(if a.Cn=0 then ix else a.Cn)else 0}:=by
 unfold Jv;split
 · exact(ig w AK Af h2).1
 · exact(l8 w AK).1
theorem tA{l:List AD}{f:AD->AD}(BI:∀a∈l,(f a).Al=a.Al)(h:H6 (·.Al) Ds l):H6 (·.Al) Ds (l.map f):=by
 unfold H6 at h ⊢;rw[List.pairwise_map];refine h.imp_of_mem fun{a b} AK Aq q=>?_;show Ds (f a).Al (f b).Al=true;rw[BI a AK,BI b Aq];exact q
theorem fB{a:AD}:FT a=true↔E4 a=true/\a.Cs=⟨0,0⟩/\a.BT=0/\a.A0=[]/\a.Cn=0/\G_ a=false:=by
 simp only[FT,Bool.and_eq_true,Bool.not_eq_true',decide_eq_true_eq];constructor
 · rintro⟨⟨⟨⟨⟨a,b⟩,c⟩,d⟩,e⟩,f⟩;exact⟨a,b,c,List.length_eq_zero_iff.1 (by omega),e,f⟩
 · rintro⟨a,b,c,d,e,f⟩;exact⟨⟨⟨⟨⟨a,b⟩,c⟩,by rw[d];rfl⟩,e⟩,f⟩
theorem AdZ{a b:AD}(h:a.BG=b.BG):G_ a=G_ b:=by unfold G_;rw[h]
theorem Aiv{w:Ah}(h:Ce w.S)(Af:1<=w.ix)(h2:w.ix<=EW)(Bh:KS w.S=none):VK w.rest.S:=by
 have AH:=(lg h Af h2).2;have Ri:=(lg h Af h2).1.ws;unfold Ah.rest at AH Ri ⊢;simp only at AH Ri ⊢;have Vv:=(jc h).1;have Bm:=Abp (S:=w.S);generalize AmZ:LG w.S=EB at AH Ri Vv Bm ⊢;have CY:Ce {EB with Aj:=EB.Aj.map (Jv EB w.ix)}:=Vv.bE fun a AK=>jP Af h2 (Vv.acc a AK).1 (Vv.acc a AK).2.1;obtain⟨Jt,ac⟩:=q5 (l:=EB.Aj.map (Jv EB w.ix)) w.BQ (w:={w with S:={EB with Aj:=EB.Aj.map (Jv EB w.ix)}}) CY ⟨fun a AK=>⟨a,AK,q7 a⟩,fun a AK=>⟨a,AK,q7 a⟩⟩;have uR:=(Yd (fun u d hu=>fe (x:=d) hu) w.BQ (w:={w with S:={EB with Aj:=EB.Aj.map (Jv EB w.ix)}}) CY).ws;generalize w.BQ.foldl Ah.Iv {w with S:={EB with Aj:=EB.Aj.map (Jv EB w.ix)}}=v at AH Ri Jt ac uR ⊢;have Kk:v.S={EB with Aj:=v.S.Aj}:=ac.s;generalize v.S.Aj=On at AH Ri Jt Kk ⊢;rw[Kk]at uR Ri ⊢;clear ac Kk;simp only at AH Ri ⊢
 -- what an account was
 have back:∀a∈On,∃c∈EB.Aj,Up a (Jv EB w.ix c):=fun a AK=>by
  obtain⟨b,Aq,r⟩:=Jt.to a AK;obtain⟨c,Bm,rfl⟩:=List.mem_map.1 Aq;exact⟨c,Bm,r⟩
 have fwd:∀c∈EB.Aj,∃a∈On,Up a (Jv EB w.ix c):=fun c Bm=>Jt.of _ (List.mem_map.2 ⟨c,Bm,rfl⟩);have Tx:∀c∈EB.Aj,Jv EB w.ix c={c with Cn:=if(SG EB.AA c.Al||Ef EB c.Al)=true then(if c.Cn=0 then w.ix else c.Cn)else 0}:=fun c Bm=>qh Af h2 (Vv.acc c Bm).1 (Vv.acc c Bm).2.1;have DY:∀a∈On,FT a=false->a∈On.filter (fun a=> !FT a):=fun a AK q=>List.mem_filter.2 ⟨AK,by rw[q];rfl⟩;have Acr:EB.AA=w.S.AA:=by
  rcases Bm with⟨e,_⟩|⟨_,e,_⟩
  · rw[e]
  · exact e
 refine⟨?_,?_,?_,AH⟩
 · -- nothing is ready
   unfold KS at Bh ⊢;simp only;rw[Acr];refine List.find?_range_eq_none.2 fun i Ag=>?_;have Bw:=List.find?_range_eq_none.1 Bh i Ag;have hm:=Hl (l:=w.S.AA) Ag;obtain⟨_,NP,Adc,ks,_⟩:=SF.1 (h.wt _ hm);generalize (w.S.AA.getD i default).AM.Al=k at Bw NP Adc ks ⊢;simp only[Bool.not_eq_true',Bool.and_eq_false_iff]at Bw ⊢;refine Bw.imp id fun Bw=>?_;rw[<-Bool.not_eq_true]at Bw ⊢;refine fun q=>Bw ?_;cases Fb:(BF w.S.Aj k).2 with
   |false=>
    obtain⟨z,y,x,_⟩:=YR NP;rw[(UH Fb).2,l'];exact⟨y.acc x,by rw[z];rfl,by rw[z];rfl⟩
   |true=>
    obtain⟨NS,AS⟩:=Q2 Fb;generalize (BF w.S.Aj k).1=c at NS AS ⊢;have Kq:c∈EB.Aj:=by
     rcases Bm with⟨e,_⟩|⟨_,_,e⟩
     · rw[e];exact NS
     · rw[e];exact List.mem_filter.2 ⟨NS,by rw[AS,ks];rfl⟩
    obtain⟨a,O8,FA⟩:=fwd c Kq;rw[Tx c Kq]at FA;have hold:a.A0=[]/\G_ a=false:=by
     cases pl:FT a with
     |true=>exact⟨(fB.1 pl).2.2.2.1,(fB.1 pl).2.2.2.2.2⟩
     |false=>
      have:=zO Ri.Ll (DY a O8 pl);have I2:a.Al=k:=FA.1.trans AS;rw[I2]at this;have q:=q;rw[this,l']at q;exact⟨q.2.2,q.2.1⟩
    rw[l'];refine⟨(h.acc c NS).1.acc (h.acc c NS).2.1,?_,?_⟩
    · rw[<-hold.2];exact(AdZ FA.2.2.1).symm
    · rcases FA.2.2.2 with e|⟨_,e⟩
      · have:=congrArg AD.A0 e;exact this.symm.trans hold.1
      · exact absurd hold.1 e
 · -- nothing is to be handed on
   show Py {EB with Aj:=On.filter (fun a=> !FT a)}=false\/¬(IW (Gl {EB with Aj:=On.filter (fun a=> !FT a)} EB.Bt.A6 EB.Bt.Bc)).2=0;rcases Bm with⟨e,A7|A7⟩|⟨e,_,_⟩
   · refine .inl ?_;rw[<-e]at A7;simp only[Py,Bool.not_eq_false',Bool.or_eq_true,List.any_eq_true,Bool.and_eq_true,Bool.not_eq_true',decide_eq_true_eq,decide_eq_false_iff_not]at A7 ⊢;refine A7.imp id ?_;rintro⟨c,Oo,s_,AJ⟩;obtain⟨a,O8,FA⟩:=fwd c Oo;rw[Tx c Oo]at FA;have OT:(a.A0.length:Int)>0\/¬a.BG.Ap=0:=by
      refine AJ.imp (fun q=>?_) (fun q=>by rw[FA.2.2.1];exact q);rcases FA.2.2.2 with e|⟨_,e⟩
      · rw[e];exact q
      · have:=List.length_pos_iff.2 e;omega
     have AbY:FT a=false:=by
      rw[<-Bool.not_eq_true,fB];rintro⟨_,_,_,p,_,r⟩;rcases OT with q|q
      · rw[p]at q;exact absurd q (by decide)
      · exact q (gy r)
     exact⟨a,DY a O8 AbY,by rw[show a.Al=c.Al from FA.1];exact s_,OT⟩
   · by_cases Cu:EB.Bt=FP
     · exact .inl (by simp[Py,Cu])
     refine .inr ?_;rw[<-e]at A7;have Yv:LK EB.Bt=true:=(Vv.Hc.resolve_left Cu).1;have HG:¬EB.Bt.Ev=0:=by
      simp only[LK,Bool.and_eq_true,decide_eq_true_eq]at Yv;omega
     have rd:∀c∈EB.Aj,within EB.Bt.A6 EB.Bt.Bc c.Al=true->∀a,Up a (Jv EB w.ix c)->a=Jv EB w.ix c/\¬a.Cn=0:=fun c Oo c5 a FA=>by
      have hs:Ef EB c.Al=true:=(by rw[Ef,decide_eq_false HG,c5];rfl);have Cu:¬(Jv EB w.ix c).Cn=0:=by
       rw[Tx c Oo,if_pos (by rw[hs,Bool.or_true])];show ¬(if c.Cn=0 then w.ix else c.Cn)=0;split<;>omega
      rcases FA.2.2.2 with q|⟨q,_⟩
      · exact⟨q,by rw[q];exact Cu⟩
      · exact absurd q Cu
     have zd:((On.filter (fun a=> !FT a)).map fun a=>{a with Cn:=0}).filter (fun a=>within EB.Bt.A6 EB.Bt.Bc a.Al&& !FT a)=(EB.Aj.map fun a=>{a with Cn:=0}).filter (fun a=>within EB.Bt.A6 EB.Bt.Bc a.Al&& !FT a):=by
      refine tz (key:=fun a:AD=>a.Al) Pa (List.Pairwise.filter _ (tA (fun _ _=>rfl) Ri.Ll)) (List.Pairwise.filter _ (tA (fun _ _=>rfl) Vv.Ll)) fun x=>?_;constructor
      · intro Ab;obtain⟨Ab,W5⟩:=List.mem_filter.1 Ab;obtain⟨a,AK,rfl⟩:=List.mem_map.1 Ab;obtain⟨AK,_⟩:=List.mem_filter.1 AK;obtain⟨c,Oo,FA⟩:=back a AK;have bu:a.Al=c.Al:=(by have:=FA.1;rw[Tx c Oo]at this;exact this);have c5:within EB.Bt.A6 EB.Bt.Bc c.Al=true:=(by rw[Bool.and_eq_true]at W5;rw[<-bu];exact W5.1);have X9:=(rd c Oo c5 a FA).1;have h_:({a with Cn:=0}:AD)={c with Cn:=0}:=(by rw[X9,Tx c Oo]);refine List.mem_filter.2 ⟨?_,W5⟩;rw[h_];exact List.mem_map.2 ⟨c,Oo,rfl⟩
      · intro Ab;obtain⟨Ab,W5⟩:=List.mem_filter.1 Ab;obtain⟨c,Oo,rfl⟩:=List.mem_map.1 Ab;obtain⟨a,O8,FA⟩:=fwd c Oo;have c5:within EB.Bt.A6 EB.Bt.Bc c.Al=true:=(by rw[Bool.and_eq_true]at W5;exact W5.1);obtain⟨X9,Aej⟩:=rd c Oo c5 a FA;have h_:({a with Cn:=0}:AD)={c with Cn:=0}:=(by rw[X9,Tx c Oo]);refine List.mem_filter.2 ⟨?_,W5⟩;rw[<-h_];refine List.mem_map.2 ⟨a,DY a O8 ?_,rfl⟩;rw[<-Bool.not_eq_true,fB];exact fun p=>Aej p.2.2.2.2.1
     have ON:Gl {EB with Aj:=On.filter (fun a=> !FT a)} EB.Bt.A6 EB.Bt.Bc=Gl EB EB.Bt.A6 EB.Bt.Bc:=by
      unfold Gl;simp only;rw[zd]
     rw[ON];exact A7
   · exact .inl (by simp[Py,e])
 · -- rounds stay
   intro ix i1 i2;show(On.filter fun a=> !FT a).map (Jv {EB with Aj:=On.filter (fun a=> !FT a)} ix)=_
   conv=>rhs;rw[<-List.map_id (On.filter fun a=> !FT a)]
   refine List.map_congr_left fun a AK=>?_;rw[qh i1 i2 (Ri.acc a AK).1 (Ri.acc a AK).2.1];obtain⟨c,Oo,FA⟩:=back a (List.mem_filter.1 AK).1;rw[Tx c Oo]at FA;have bu:a.Al=c.Al:=FA.1;have rc:a.Cn=(if(SG EB.AA c.Al||Ef EB c.Al)=true then(if c.Cn=0 then w.ix else c.Cn)else 0):=FA.2.1;rw[show SG ({EB with Aj:=On.filter (fun a=> !FT a)}:Bv).AA a.Al=SG EB.AA c.Al by rw[bu],show Ef {EB with Aj:=On.filter (fun a=> !FT a)} a.Al=Ef EB c.Al by rw[bu];rfl];have:(if(SG EB.AA c.Al||Ef EB c.Al)=true then(if a.Cn=0 then ix else a.Cn)else 0)=a.Cn:=by
    split
    · rename_i q;rw[if_pos q]at rc;rw[if_neg];rw[rc];split<;>omega
    · rename_i q;rw[if_neg q]at rc;exact rc.symm
   rw[this];rfl
theorem VK.at{S:Bv}(h:VK S)(i:Int):VK {S with DX:=i}:=⟨h.Aij,h.hand,h.Tx,h.plain⟩
theorem Ak_{w:Ah}(h:KS w.S=none):∀n,Ah.waits n w=w
 |0=>rfl
 |n+1=>by rw[Ah.waits,h]
theorem w6{S:Bv}{c:Dg}{ix nd:Int}(Ag:VB S)(Bm:c.wf)(h:(Gc S c ix nd).2.2=0):VK (Gc S c ix nd).1:=by
 unfold Gc at h ⊢;split at h
 · cases h
 · rename_i Bh;rw[if_neg Bh];have Bh:LN S=true:=(by simpa using Bh);split at h
   · cases h
   · rename_i Ao;rw[if_neg Ao];split at h
     · cases h
     · rename_i Ab;rw[if_neg Ab];simp only[Bool.or_eq_true,decide_eq_true_eq,not_or]at Ao Ab;obtain⟨BO,_⟩:=(Zc Ag.ac Ag.PZ Ag.O8).1 Bh;have Fx:=BO.ix;obtain⟨Sp,HG⟩:=Fx;have Bw:Ce {S with DX:=ix}:={BO with ix:=⟨by show 0<=ix;omega,by show ix<=EW;omega⟩,own:=⟨BO.own.no,BO.own.yes⟩,acc:=BO.acc,wt:=BO.wt,Hc:=BO.Hc};have A1:=dO (w:={S:={S with DX:=ix},ix:=ix,nd:=nd,EF:=[],BQ:=[]}) (c:=c) Bw Bm (by show nd<=5;omega);simp only;generalize ({S:={S with DX:=ix},ix:=ix,nd:=nd,EF:=[],BQ:=[]}:Ah).cmd c=w at A1;have AY:=gH w.S.AA.length A1.ws;have A9:=uK w.S.AA.length w (Nat.le_refl _);generalize Ah.waits w.S.AA.length w=v at AY A9;have TB:v.ix=ix:=AY.x.trans A1.x;exact Aiv AY.ws (by omega) (by omega) A9
-- from a new state on
theorem Aeu{g:Int}(h:Ih g=true):Ce (F8 g)/\(F8 g).Aj=[]:=by
 have z:L7 0:=⟨by decide,by decide⟩;refine⟨{RZ:=?_,ix:=z,ON:=?_,hf:=z,TO:=z,un:=z,own:=⟨fun _=>⟨rfl,rfl,rfl,rfl,rfl⟩,fun q=>⟨?_,rfl⟩⟩,len:=Nat.zero_le _,acc:=fun a AK=>absurd AK List.not_mem_nil,Ll:=List.Pairwise.nil,marks:=rfl,Me:=fun a AK=>absurd AK List.not_mem_nil,VZ:=rfl,ends:=rfl,wl:=Nat.zero_le _,wt:=fun a AK=>absurd AK List.not_mem_nil,ww:=fun a AK=>absurd AK List.not_mem_nil,Hc:=.inl rfl,out:=.inl ⟨rfl,rfl⟩},rfl⟩
 · show Ih (if Ih g=true then g else 0)=true;rw[if_pos h];exact h
 · show L7 (if Ih g=true then(if g=1 then 1 else 0)else 0);rw[if_pos h];split<;>exact⟨by decide,by decide⟩
 · have q:(Ih g&&decide (g=1))=true:=q;rw[Bool.and_eq_true,decide_eq_true_eq]at q;show 1<=(if Ih g=true then(if g=1 then 1 else 0)else 0);rw[if_pos h,if_pos q.2];exact Int.le_refl _
theorem Aet(g:Int):VK (F8 g):=⟨rfl,.inl (by simp[Py,F8,FP]),fun _ _ _=>rfl,fun a AK=>absurd AK List.not_mem_nil⟩
structure XO (S T:Bv) (i:Nat):Prop where
 right:LN T=true
 ints:VB T
 set:VK T
 ix:T.DX=i
 g:T.CZ=S.CZ
theorem fJ{g:Int}(h:Ih g=true):XO (F8 g) (F8 g) 0:=by
 obtain⟨a,b⟩:=Aeu h;exact⟨(Zc a.ints.ac a.ints.PZ a.ints.O8).2 ⟨a,fun x Ab=>by rw[b]at Ab;exact absurd Ab List.not_mem_nil⟩,a.ints,Aet g,rfl,rfl⟩
theorem Ah0{S T:Bv}{i:Nat}{c:Dg}{nd:Int}(h:XO S T i)(Bm:c.wf)(HG:1<=nd)(MF:nd<=5)(Ag:(i:Int)+1<=EW):(Gc T c ((i:Int)+1) nd).2.2=0/\XO S (Gc T c ((i:Int)+1) nd).1 (i+1):=by
 have Bw:=w7 (c:=c) h.right HG MF (by rw[h.ix];show(i:Int)<(i:Int)+1;omega) Ag;obtain⟨_,a,b,d,e⟩:=w5 h.ints Bm Bw;exact⟨Bw,a,b,w6 h.ints Bm Bw,by rw[e];omega,d.trans h.g⟩
theorem Ap0{β GA:Type}[Inhabited β][DecidableEq GA]{key:β->GA}{lt:GA->GA->Bool}{x y:β}{l:List β}(h:y∈FQ key lt x l):y=x\/y∈l:=by
 unfold FQ at h;split at h
 · exact(List.mem_or_eq_of_mem_set h).symm
 · exact Aeg.1 h
theorem ApV(w:Ah)(c q:Int)(a:De):(w.done c q a).S.Aj=w.S.Aj:=by
 unfold Ah.done;simp only;split<;>rfl
theorem ApT(w:Ah)(c q n:Int)(k:ByteArray)(a:De):(w.served c q n k a).S.Aj=w.S.Aj:=by
 unfold Ah.served;simp only;split<;>exact ApV ..
theorem Aqs{w:Ah}{c:Dg}(h:c.Ca=2):w.cmd c=w.report c:=by simp[Ah.cmd,h]
end Go.Apw
