/- Part 10 of shardWhole_holds. -/
import Derived.Test.YtklmcfecakaanaaGreatSq9

set_option maxRecDepth 20000
set_option maxHeartbeats 1000000
open List renaming length_set→ABj,mem_append_left→AC9,mem_append_right→ACV,set_set→ABL
open Go.A_
namespace Go.Apw
theorem AMr{l:List Bx}(h:Is l=true){d:Bx}(AJ:d∈l)(m i:Bool):∃j:Nat,j<l.length/\l.getD j default=d/\Jk l d.Ap d.As m i=(l.set j (TT d m i).1,(TT d m i).2,0):=by
 obtain⟨j,e,Ay,AG5⟩:=AJ5 h AJ;refine⟨j,Ay,AG5,?_⟩;rw[Jk,e,AA9 (not_not_intro rfl)];show(l.set (j:Int).toNat (TT (l.getD (j:Int).toNat default) m i).1,_,(0:Int))=_;rw[ACS,AG5]
section
variable{F:Bv} {t:Int}
theorem AOo{w:Ah}{x:BX}(hw:Ce w.S)(h:AGp w.S F)(k:AGp F w.S)(Ab:x.wf)(AE:∃a∈w.S.Aj,a.Al=x.AM.Al)(Bh:(Io (BF w.S.Aj x.AM.Al).1).2=true)
 (hh:x.Ap=w.S.CZ->x.DH=w.S.CZ/\∃d∈w.S.Bj,d.As=x.As/\d.Al=x.AM.Al/\d.B2= -x.AM.B2/\d.C3=0)
 (BI:¬x.Ap=w.S.CZ->x.DH=F.CZ/\x.Ap=F.CZ/\((∃d∈F.Bj,d.As=x.As/\d.EL=x.AM.Al/\d.B2=x.AM.B2)\/fx w.S.CX x.Ap x.As=true)):AGG F t w (w.Lf x):=by
 obtain⟨f1,f2,f3⟩:=AIW AE;obtain⟨t1,t2,_⟩:=t_.1 Bh;have YK:=gy t2;have AN:(F_.mk x.Ap x.As x.DH x.AM.B2).wf:=⟨Ab.2.1,Ab.2.2.1,Ab.2.2.2.2.1,Ab.2.2.2.2.2.2.2.2.1⟩;unfold Ah.Lf;split
 · exact .refl h k
 rename_i AH_;simp only;generalize Cl:(BF w.S.Aj x.AM.Al).1=He at f2 f3 YK t1 t2;have aD:=hw.AHp He f2;generalize Fy:KA He ⟨x.Ap,x.As,x.DH,x.AM.B2⟩=r;have AMl:r.2=0->(w.put r.1).S={w.S with Aj:=AHc w.S.Aj x.AM.Al ⟨x.Ap,x.As,x.DH,x.AM.B2⟩}/\Ce (w.put r.1).S:=fun e=>by
  rw[<-Fy]at e;obtain⟨p,_,_,_,_,_,q,s⟩:=gu aD.2 AN e;rw[Fy]at p q s;have B4:r.1.Al=x.AM.Al:=(by rw[p];exact f3);refine⟨?_,(TL hw q s (by rw[p];exact(hw.acc He f2).2.2) (.inl (by rw[B4];exact f1))).ws⟩;have he:w.S.Aj.map (fun y=>if y.Al=r.1.Al then r.1 else y)=AHc w.S.Aj x.AM.Al ⟨x.Ap,x.As,x.DH,x.AM.B2⟩:=List.map_congr_left fun y Bf=>by
   rw[B4];split
   · rename_i z;rw[lX Pa hw.Ll Bf f2 (z.trans f3.symm),p]
   rfl
  show{w.S with Aj:=FQ (·.Al) Ds r.1 w.S.Aj}=_;rw[AMh (a:=r.1) hw.Ll ⟨He,f2,by rw[p]⟩,he]
 by_cases Bm:x.Ap=w.S.CZ
 · -- its own
   obtain⟨SJ,d,AJ,d1,d2,d3,d4⟩:=hh Bm;have AGE:=h.hH d AJ;have AlA:x.Ap=d.Ap:=Bm.trans AGE.symm;have hm:=(UB.1 hw.VZ).2.1 d AJ;obtain⟨Kq,_,An3⟩:=dV.1 hm;simp only[V2,ABD,ABl]at Kq;have YQ:¬d.DN=2/\¬d.DO=2:=by
    rcases An3 with An3|An3
    · rw[d4]at An3;constructor
      · intro q;rw[q]at An3;exact absurd An3 (by rw[JN,AA_ (by simp)];decide)
      intro q;rw[q]at An3;exact absurd An3 (by rw[JN,AA_ (by simp)];decide)
    omega
   have NS:d.DN=0:=by
    by_cases q:d.DN=1
    · obtain⟨b,Aq,CY,Dh,_⟩:=h.AG3 d AJ d4 q;obtain rfl:b=He:=lX Pa hw.Ll Aq f2 (CY.trans (d2.trans f3.symm));exact absurd (Dh.symm.trans YK) (by rw[AGE];exact h.aE)
    omega
   have AOB:¬fx w.S.CX d.Ap d.As=true:=(by rw[<-AlA,d1];exact AH_);have APG:(if r.2=0 then w.put r.1 else w.tell 3 x.Ap x.As GS).S.Bj=w.S.Bj:=(by split<;>rfl);have AKK:(if r.2=0 then w.put r.1 else w.tell 3 x.Ap x.As GS).S.CZ=w.S.CZ:=(by split<;>rfl);rw[APG,AKK,AA9 (not_not_intro SJ),AlA,<-d1,(AIV hw.VZ AJ).1,(AIV hw.VZ AJ).2,AA9 (by rw[d4];decide),ABG d2.symm];obtain⟨j,Ay,AG5,es⟩:=AMr hw.VZ AJ true (decide (r.2=0));have CK:Is (w.S.Bj.set j (TT d true (decide (r.2=0))).1)=true:=by
    have:=cC (l:=w.S.Bj) (c:=d.Ap) (q:=d.As) (m:=true) (i:=decide (r.2=0)) (by rw[es]);rw[es]at this;exact this
   rw[es];simp only;by_cases e:r.2=0
   · obtain⟨Rn,WY⟩:=AMl e;rw[ABG e]at CK ⊢;rw[AA_ e];have BO:({(w.put r.1).S with Bj:=w.S.Bj.set j {d with DN:=1}}:Bv)={w.S with Bj:=w.S.Bj.set j {d with DN:=1},Aj:=AHc w.S.Aj d.Al ⟨d.Ap,d.As,w.S.CZ, -d.B2⟩}:=by
      rw[Rn,AlA,SJ,d2,d1,d3,Int.neg_neg]
     have A1:=APq h k Ay AG5 d4 f2 (f3.trans d2.symm) YK AOB BO;have AG2:fX {d with DN:=1} (w.S.Bj.getD j default):=(by rw[AG5];exact⟨rfl,rfl⟩);have DP:AGG F t w {w.put r.1 with S:={(w.put r.1).S with Bj:=w.S.Bj.set j {d with DN:=1}}}:=⟨A1,.refl _,rfl,fun q a=>AH0 a rfl (fun y J5 Kd=>by
      by_cases s:fX y {d with DN:=1}
      · exact⟨{d with DN:=1},(AHA h.AGs Ay AG2).2 (.inl rfl),s.2.symm,d4⟩
      exact⟨y,(AHA h.AGs Ay AG2).2 (.inr ⟨J5,s⟩),rfl,Kd⟩) (fun _ z=>z),fun _ _ z=>z⟩
     by_cases t9:d.DO=1
     · have B4:TT d true true=({d with DN:=1,C3:=1},true):=(by simp[TT,d4,NS,JN,t9]);rw[B4]at CK ⊢;simp only;rw[AA_ trivial];have KZ:j<(w.S.Bj.set j {d with DN:=1}).length:=(by rw[ABj];exact Ay);have:=AIU (F:=F) (t:=t) (w:={w.put r.1 with S:={(w.put r.1).S with Bj:=w.S.Bj.set j {d with DN:=1}}}) WY.AHp hw.ends A1.Af A1.h2 KZ (d:={d with DN:=1}) (by show(w.S.Bj.set j _).getD j default=_;rw[G3 KZ,List.getElem_set_self]) (e:={d with DN:=1,C3:=1}) ⟨rfl,rfl,rfl,rfl,rfl,id,fun q=>absurd d4 q⟩ d4 (by show ¬(1:Int)=0;decide) (fun _=>⟨rfl,t9⟩) (by show Is ((w.S.Bj.set j _).set j _)=true;rw[ABL];exact CK) (if(findD (w.S.Bj.set j {d with DN:=1,C3:=1}) d.Ap d.As).C3=1 then 0 else 150);have this:=DP.trans this;simp only[ABL]at this;exact this
     have B4:TT d true true=({d with DN:=1},false):=by
      have t0:d.DO=0:=AMT;simp[TT,d4,NS,JN,t0]
     rw[B4];simp only;rw[AA9 ARp];exact DP
   rw[ABM e]at CK ⊢;rw[AA9 e];have B4:TT d true false=({d with DN:=2,C3:=2},true):=(by simp[TT,d4,NS,JN]);rw[B4]at CK ⊢;simp only;rw[AA_ trivial];have DP:=AJO (F:=F) (b:=t) h k 3 d.Ap d.As GS;exact DP.trans<|AIU (F:=F) (t:=t) (w:=w.tell 3 d.Ap d.As GS) hw.AHp hw.ends h k Ay AG5 (e:={d with DN:=2,C3:=2}) ⟨rfl,rfl,rfl,rfl,rfl,id,fun q=>absurd d4 q⟩ d4 (by show ¬(2:Int)=0;decide) (fun z=>absurd (show(2:Int)=1 from z) ARp) CK _
 -- the other one's
 obtain⟨SJ,Ug,XA⟩:=BI Bm;obtain⟨d,AJ,d1,d2,d3⟩:=XA.resolve_right AH_;have AGE:=k.hH d AJ;have AKK:(if r.2=0 then w.put r.1 else w.tell 3 x.Ap x.As GS).S.CZ=w.S.CZ:=by split<;>rfl
 rw[AKK,AA_ (show ¬x.DH=w.S.CZ by rw[SJ];exact k.ne)];by_cases e:r.2=0
 · obtain⟨Rn,_⟩:=AMl e;rw[AA_ e,AA9 (not_not_intro e)];have BO:(w.put r.1).S={w.S with Aj:=AHc w.S.Aj d.EL ⟨d.Ap,d.As,F.CZ,d.B2⟩}:=by
    rw[Rn,SJ,Ug,d2,d1,d3,AGE]
   exact⟨step_take h k AJ f2 (f3.trans d2.symm) YK (by rw[AGE,d1,<-Ug];exact AH_) BO,.refl _,rfl,fun q a=>AH0 a rfl (fun y J5 Kd=>⟨y,J5,rfl,Kd⟩) (fun _ z=>z),fun _ _ z=>z⟩
 rw[AA9 e,AA_ e];have DP:=AJO (F:=F) (b:=t) h k 3 x.Ap x.As GS;exact DP.trans (AO1 (w:=w.tell 3 x.Ap x.As GS) hw h k _ _)
theorem AML{w:Ah}{i:Nat}(hw:Ce w.S)(h:AGp w.S F)(k:AGp F w.S)(Ag:KS w.S=some i):AGG F t w (w.L6 i):=by
 have AN:=lb Ag;have hm:=Hl AN;obtain⟨a,b⟩:=h.AGK _ hm;have Bh:=(ADz.1 Ag).1;simp only[ABb]at Bh;unfold Ah.L6;simp only;rw[AA9 (by rw[a];decide)];have DP:AGG F t w {w with S:={w.S with AA:=w.S.AA.eraseIdx i}}:=AJL h k (.refl _) rfl rfl (.refl _) (fun _ _ z=>z) (fun _ z=>List.mem_of_mem_eraseIdx z) rfl (fun _ z=>z) fun _ _ z=>z;exact DP.trans (AOo (w:={w with S:={w.S with AA:=w.S.AA.eraseIdx i}}) (hw.bB (AD1 ..)) DP.Qj.Af DP.Qj.h2 (hw.ww _ hm) b Bh.2 (h.hw _ hm) (h.AG7 _ hm))
theorem AMM:∀(n:Nat) {w:Ah},Ce w.S->AGp w.S F->AGp F w.S->AGG F t w (Ah.waits n w)
 |0,_,_,h,k=>.refl h k
 |n+1,w,hw,h,k=>by
  rw[Ah.waits];cases e:KS w.S with
  |none=>exact .refl h k
  |some i=>
   have Af:=AML (t:=t) hw h k e;exact Af.trans (AMM n (uG hw (lb e)).ws Af.Qj.Af Af.Qj.h2)
theorem AO3{w:Ah}(hw:Ce w.S)(h:AGp w.S F)(k:AGp F w.S)(hs:w.S.Bt=FP)(AN:w.BQ=[])(Af:1<=w.ix)(h2:w.ix<=EW):AGG F t w w.rest:=by
 have B4:LG w.S=w.S:=by
  unfold LG;rw[AA_];unfold Py;rw[ABG hs];rfl
 have AH:∀a∈w.S.Aj.map (Jv w.S w.ix),FT a=false:=fun a AK=>by
  obtain⟨b,Aq,rfl⟩:=AB6.1 AK;cases q:FT (Jv w.S w.ix b)with
  |false=>rfl
  |true=>
   have:=(fB.1 q).2.1;rw[qh Af h2 (hw.AHp b Aq).1 (hw.AHp b Aq).2]at this;have this:b.Cs=⟨0,0⟩:=this;rw[(h.ac b Aq).2]at this;cases this
 have DC:w.rest={w with S:={w.S with Aj:=w.S.Aj.map (Jv w.S w.ix)}}:=by
  unfold Ah.rest;simp only;rw[AN,B4];simp only[List.foldl_nil];rw[List.filter_eq_self.2 fun a AK=>by rw[AH a AK];rfl]
 rw[DC];refine⟨soft h k rfl rfl (AHl.refl _) (fun _ _ z=>z) (fun _ z=>z) rfl fun a AK=>?_,.refl _,rfl,fun q a=>AH0 a rfl (fun y J5 Kd=>⟨y,J5,rfl,Kd⟩) (fun _ z=>z),fun _ _ z=>z⟩;rw[qh Af h2 (hw.AHp a AK).1 (hw.AHp a AK).2];exact⟨rfl,rfl,rfl,rfl,rfl⟩
end
def BW(S:Bv):Ah:={S:={S with DX:=S.DX+1},ix:=S.DX+1,AGm:=3,EF:=[],BQ:=[]}
theorem AIL{S F:Bv}(h:AGp S F)(k:AGp F S):AGI S (BW S).S F:=soft h k rfl rfl (AHl.refl _) (fun _ _ z=>z) (fun _ z=>z) (f:=id) (List.map_id _).symm fun _ _=>⟨rfl,rfl,rfl,rfl,rfl⟩
theorem AMY{S F:Bv}{t:Int}{c:Dg}(Ag:VB S)(Bh:LN S=true)(Bm:c.wf)(h:AGp S F)(k:AGp F S)(hs:S.Bt=FP)(Ab:S.DX+1<=EW)
 (AN8:Ce (BW S).S->AGp (BW S).S F->AGp F (BW S).S->AGG F t (BW S) ((BW S).cmd c)):∃v:Ah,Gc S c (S.DX+1) 3=(v.S,v.EF,0)/\AGG F t (BW S) v/\AGG F t ((BW S).cmd c) v/\AGI S v.S F/\Fr S v.S/\LN v.S=true/\VB v.S/\v.S.DX=S.DX+1/\VK v.S:=by
 obtain⟨BO,_⟩:=(Zc Ag.ac Ag.PZ Ag.O8).1 Bh;obtain⟨Sp,HG⟩:=BO.ix;have Bw:Ce (BW S).S:={BO with ix:=⟨by show 0<=S.DX+1;omega,by show S.DX+1<=EW;omega⟩,own:=⟨BO.own.no,BO.own.yes⟩,acc:=BO.acc,wt:=BO.wt,Hc:=BO.Hc};have Qj:=AIL h k;have DP:=AN8 Bw Qj.Af Qj.h2;have t1:=dO (w:=BW S) (c:=c) Bw Bm (by show(3:Int)<=5;decide);have EK:=AMM (F:=F) (t:=t) ((BW S).cmd c).S.AA.length t1.ws DP.Qj.Af DP.Qj.h2;have t2:=gH ((BW S).cmd c).S.AA.length t1.ws;have t3:=t1.trans t2;have wz:=DP.trans EK;have FR:=AO3 (F:=F) (t:=t) t2.ws wz.Qj.Af wz.Qj.h2 ((wz.Gw.2.2.2.2.2.1).trans hs) wz.BQ (by rw[t3.x];show 1<=S.DX+1;omega) (by rw[t3.x];exact Ab);have e:Gc S c (S.DX+1) 3=((Ah.waits ((BW S).cmd c).S.AA.length ((BW S).cmd c)).rest.S,(Ah.waits ((BW S).cmd c).S.AA.length ((BW S).cmd c)).rest.EF,0):=by
  unfold Gc;rw[AA9 (by rw[Bh];decide),AA9 ARp,AA9 (by simp only[ABk,ABa];omega)];rfl
 have h2:(Gc S c (S.DX+1) 3).2.2=0:=by rw[e]
 obtain⟨_,NY,MK,_,Awx⟩:=w5 Ag Bm h2;have AzE:=w6 Ag Bm h2;rw[e]at NY MK Awx AzE;have f1:Fr S (BW S).S:=.refl _;exact⟨_,e,wz.trans FR,EK.trans FR,Qj.trans (wz.trans FR).Qj,f1.trans (wz.trans FR).Gw,NY,MK,Awx,AzE⟩
def AHB(S:Bv)(k:ByteArray):Prop:=k∈S.Aj.map (·.Al)
theorem AKh{S:Bv}{k:ByteArray}(h:AHB S k):∃a∈S.Aj,a.Al=k:=AB6.1 h
structure AHe (S F:Bv) (x:Dg):Prop where
 wf:x.wf
 A1:x.Ca=1->x.Ap=S.CZ/\x.AM.Ca=6/\AHB S x.AM.Al/\F' S x.AM.EL=false/\AHB F x.AM.EL
 Ba:x.Ca=4->x.Ap=F.CZ/\x.DH=F.CZ/\AHB S x.Al/\((∃d∈F.Bj,d.As=x.As/\d.EL=x.Al/\d.B2=x.It)\/fx S.CX x.Ap x.As=true)
 Bd:x.Ca=5->∀d∈S.Bj,YB x.Ap x.As d->d.C3=0->d.DO=0->x.Jr=true->AHv F d.EL d.Ap d.As
 Bp:x.Ca=6->x.Ap=F.CZ/\∀a∈S.Aj,a.Al=x.Al->Hn a x.Ap x.As=true->∃d∈F.Bj,d.As=x.As/\¬d.C3=0/\x.Jr=decide (d.C3=1)
 Bi:x.Ca=7->∀d∈S.Bj,YB x.Ap x.As d->¬d.C3=0->fx F.CX d.Ap d.As=true/\∀a∈F.Aj,¬(a.BG.Ap=d.Ap/\a.BG.As=d.As)
 ks:x.Ca=1\/x.Ca=3\/x.Ca=4\/x.Ca=5\/x.Ca=6\/x.Ca=7
structure AGN (S F:Bv) (q:Int) (x:Dg):Prop where
 wf:x.wf
 A1:x.Ca=1->x.Ap=S.CZ/\x.AM.Ca=6/\AHB S x.AM.Al/\F' S x.AM.EL=false/\AHB F x.AM.EL/\x.As<=q
 Ba:x.Ca=4->x.Ap=F.CZ/\x.DH=F.CZ/\AHB S x.Al/\((∃d∈F.Bj,d.As=x.As/\d.EL=x.Al/\d.B2=x.It)\/fx S.CX x.Ap x.As=true)
 Bd:x.Ca=5->(∀d∈S.Bj,YB x.Ap x.As d->¬d.DO=0\/¬d.C3=0)/\∃m∈S.Bz,m.Ap=S.CZ/\x.As<=m.As
 Bp:x.Ca=6->x.Ap=F.CZ/\fx S.CX x.Ap x.As=true/\∀a∈S.Aj,¬(a.BG.Ap=x.Ap/\a.BG.As=x.As)
 Bi:x.Ca=7->(∀d∈S.Bj,¬YB x.Ap x.As d)/\∃m∈S.Bz,m.Ap=S.CZ/\x.As<=m.As
 ks:x.Ca=1\/x.Ca=3\/x.Ca=4\/x.Ca=5\/x.Ca=6\/x.Ca=7
theorem AGN.ok{S F:Bv}{q:Int}{x:Dg}(h:AGN S F q x)(k:AGp F S):AHe S F x:=by
 refine⟨h.wf,fun e=>?_,h.Ba,fun e d AJ i f t=>?_,fun e=>?_,fun e d AJ i=>absurd i ((h.Bi e).1 d AJ),h.ks⟩
 · obtain⟨a,b,c,d,e,_⟩:=h.A1 e;exact⟨a,b,c,d,e⟩
 · rcases(h.Bd e).1 d AJ i with z|z
   · exact absurd t z
   exact absurd f z
 obtain⟨a,_,c⟩:=h.Bp e;refine⟨a,fun b Aq _ l=>absurd ?_ (c b Aq)⟩;exact(AHz (by rw[a];exact k.aE)).1 l
theorem AMd{S T:Bv}(f:Fr S T)(k:ByteArray):F' T k=F' S k:=by
 obtain⟨_,a,b,c,_⟩:=f;unfold F';rw[a,b,c]
theorem AGN.own{S T F:Bv}{q EJ:Int}{x:Dg}(h:AGN S F q x)(aE:¬F.CZ=0)(s:AHw S T F)(f:Fr S T)(B':q<=EJ):AGN T F EJ x:=by
 have mk:(∃m∈S.Bz,m.Ap=S.CZ/\x.As<=m.As)->∃m∈T.Bz,m.Ap=T.CZ/\x.As<=m.As:=fun⟨m,hm,a,b⟩=>by
  obtain⟨n,Ao,c,d⟩:=s.AIE m hm;exact⟨n,Ao,by rw[c,a,s.g],AMT⟩
 refine⟨h.wf,fun e=>?_,fun e=>?_,fun e=>?_,fun e=>?_,fun e=>?_,h.ks⟩
 · obtain⟨a,b,c,d,e,i⟩:=h.A1 e;exact⟨a.trans s.g.symm,b,by unfold AHB;rw[s.ks];exact c,(AMd f _).trans d,e,AMT⟩
 · obtain⟨a,b,c,d⟩:=h.Ba e;exact⟨a,b,by unfold AHB;rw[s.ks];exact c,d.imp id (s.AGS _ _)⟩
 · obtain⟨a,b⟩:=h.Bd e;refine⟨fun d AJ i=>?_,mk b⟩;rcases s.dl d AJ with⟨d0,Abz,t⟩|n
   · rcases a d0 Abz ⟨t.1.symm.trans i.1,t.2.1.symm.trans i.2⟩with z|z
     · exact .inl (t.2.2.2.2.2.1 z)
     exact .inr (by rw[t.2.2.2.2.2.2 z];exact z)
   obtain⟨m,hm,c,RQ⟩:=b;have:=n.1 m hm c;have:=i.2;omega
 · obtain⟨a,b,c⟩:=h.Bp e;refine⟨a,s.AGS _ _ b,fun y Bf ⟨Om,Sl⟩=>?_⟩;obtain⟨z,Cu,N8,OF⟩:=s.C1 _ _ (by rw[a];exact aE) b y Bf Om Sl;exact c z Cu ⟨N8,OF⟩
 obtain⟨a,b⟩:=h.Bi e;refine⟨fun d AJ i=>?_,mk b⟩;rcases s.dl d AJ with⟨d0,Abz,t⟩|n
 · exact a d0 Abz ⟨t.1.symm.trans i.1,t.2.1.symm.trans i.2⟩
 obtain⟨m,hm,c,RQ⟩:=b;have:=n.1 m hm c;have:=i.2;omega
theorem AGN.EW{S F Wb:Bv}{q:Int}{x:Dg}(h:AGN S F q x)(hH:∀d∈F.Bj,d.Ap=F.CZ)(s:AHw F Wb S):AGN S Wb q x:=by
 refine⟨h.wf,fun e=>?_,fun e=>?_,h.Bd,fun e=>?_,h.Bi,h.ks⟩
 · obtain⟨a,b,c,d,e,i⟩:=h.A1 e;exact⟨a,b,c,d,by unfold AHB;rw[s.ks];exact e,i⟩
 · obtain⟨a,b,c,d⟩:=h.Ba e;refine⟨a.trans s.g.symm,b.trans s.g.symm,c,?_⟩;rcases d with⟨d,AJ,d1,d2,d3⟩|d
   · rcases s.AJ7 d AJ with⟨e,he,t⟩|p
     · exact .inl ⟨e,he,t.2.1.trans d1,t.2.2.2.1.trans d2,t.2.2.2.2.1.trans d3⟩
     rw[hH d AJ,d1,<-a]at p;exact .inr p
   exact .inr d
 obtain⟨a,b⟩:=h.Bp e;exact⟨a.trans s.g.symm,b⟩
theorem ARq{w:Ah}{c:Dg}:(c.Ca=1->w.cmd c=w.op c)/\(c.Ca=3->w.cmd c=w.UQ c)/\(c.Ca=4->w.cmd c=w.Vc c)/\(c.Ca=5->w.cmd c=w.T' c)/\(c.Ca=6->w.cmd c=w.S5 c)/\(c.Ca=7->w.cmd c=w.forget c):=by
 refine⟨fun h=>?_,fun h=>?_,fun h=>?_,fun h=>?_,fun h=>?_,fun h=>?_⟩<;>simp[Ah.cmd,h]
theorem AIP{S F:Bv}{t:Int}{x:Dg}(Av:x.Ca=1->x.As<=t)(Ab:AHe S F x)(hw:Ce (BW S).S)(h:AGp (BW S).S F)(k:AGp F (BW S).S):AGG F t (BW S) ((BW S).cmd x):=by
 obtain⟨dG,xR,xS,xT,AHE,AHY⟩:=ARq (w:=BW S) (c:=x);rcases Ab.ks with e|e|e|e|e|e
 · obtain⟨a,b,c,d,f⟩:=Ab.A1 e;rw[dG e];exact(AMc hw h k a b (AKh c) d f (Av e) Ab.wf.2.2.2.2.2.2.2.2.2.2.2.1.2.2.2.1.2).1
 · rw[xR e];exact AN0 hw h k
 · obtain⟨a,b,c,d⟩:=Ab.Ba e;rw[xS e];exact AOV h k a b (AKh c) d
 · rw[xT e];exact APH hw h k (Ab.Bd e)
 · obtain⟨a,b⟩:=Ab.Bp e;rw[AHE e];exact(ALi hw h k a b).1
 rw[AHY e];exact(ANW h k (Ab.Bi e)).1
-- the deals stay in their order, but where one is asked for or forgotten
def AGY(d:Bx):Int×Int:=(d.Ap,d.As)
def ids(S:Bv):List (Int×Int):=S.Bj.map AGY
theorem ALW{l:List Bx}{i:Nat}{e:Bx}(Ag:i<l.length)(h:AGY e=AGY (l.getD i default)):(l.set i e).map AGY=l.map AGY:=by
 rw[List.map_set,h,G3 Ag];refine List.ext_getElem (by rw[ABj]) fun j Af h2=>?_;rw[List.getElem_set];split
 · rename_i q;subst q;rw[List.getElem_map]
 rfl
theorem AOi{l:List Bx}{c q:Int}{m i:Bool}(h:(Jk l c q m i).2.2=0):(Jk l c q m i).1.map AGY=l.map AGY:=by
 unfold Jk at h ⊢;split at h
 · rename_i Ao;exact absurd h Ao
 rename_i Ao;rw[AA9 Ao];obtain⟨_,b,_,_⟩:=V' (ACD.1 Ao);obtain⟨_,_,IK,Jy⟩:=AtI (d:=l.getD (F1 l c q).1.toNat default) (m:=m) (i:=i);exact ALW b (Prod.ext IK Jy)
theorem AJi(w:Ah)(c q e:Int):(w.ends c q e).S.Bj=w.S.Bj:=by
 unfold Ah.ends;simp only;rw[(AIs _ c q).2.1];exact(AJh w c q (HN e)).2.1
theorem AKl(w:Ah)(c q:Int):ids (w.OR c q).S=ids w.S:=by
 unfold Ah.OR ids;simp only;split
 · rename_i e;rw[ABb,ABa]at e;obtain⟨B4,DC⟩:=e;rw[AJi];show(NJ w.S.Bj c q).1.map AGY=_;unfold NJ at B4 ⊢;split at B4
   · rename_i Ao;exact absurd B4 Ao
   rename_i Ao;rw[AA9 Ao];obtain⟨_,b,_,_⟩:=V' (ACD.1 Ao);split
   · exact ALW b rfl
   rfl
 rfl
theorem AOh{w:Ah}{x:BX}(_:Ce w.S):ids (w.Lf x).S=ids w.S:=by
 unfold Ah.Lf ids;split
 · rfl
 simp only;generalize KA _ _=r;have BC:(if r.2=0 then w.put r.1 else w.tell 3 x.Ap x.As GS).S.Bj=w.S.Bj:=by split<;>rfl
 generalize (if r.2=0 then w.put r.1 else w.tell 3 x.Ap x.As GS)=v at BC;split
 · split
   · rw[(AIs v _ _).2.1,BC]
   rw[BC]
 split
 · split
   · show v.S.Bj.map AGY=_;rw[BC]
   rw[BC]
 rename_i AJ;simp only[ABk,ABN,ABe,AB_,ABa]at AJ;have aE:(Jk v.S.Bj x.Ap x.As (decide (x.AM.Al=(findD v.S.Bj x.Ap x.As).Al)) (decide (r.2=0))).2.2=0:=by
  have pz:(F1 v.S.Bj x.Ap x.As).2=0:=by
   have:=AJ.1;unfold Tz at this;split at this
   · cases this
   rename_i q;simp only[ABk,ABa,ABN,ABe,AB_,ee]at q;rw[F1,AA9 (by rw[q.2];decide),AA9 q.1]
  rw[Jk,AA9 (not_not_intro pz)]
 have Hj:=AOi aE;split
 · show((Ah.ends _ _ _ _).S.Bj).map AGY=_;rw[AJi];show(Jk v.S.Bj x.Ap x.As _ _).1.map AGY=_;rw[Hj,BC]
 show(Jk v.S.Bj x.Ap x.As _ _).1.map AGY=_;rw[Hj,BC]
theorem AOj{w:Ah}{i:Nat}(hw:Ce w.S)(AE:(w.S.AA.getD i default).Ca=2):ids (w.L6 i).S=ids w.S:=by
 unfold Ah.L6;simp only;rw[AA9 (by rw[AE];decide)];exact AOh (w:={w with S:={w.S with AA:=w.S.AA.eraseIdx i}}) (hw.bB (AD1 ..))
theorem ALX{F:Bv}:∀(n:Nat) {w:Ah},Ce w.S->AGp w.S F->AGp F w.S->ids (Ah.waits n w).S=ids w.S
 |0,_,_,_,_=>rfl
 |n+1,w,hw,h,k=>by
  rw[Ah.waits];cases e:KS w.S with
  |none=>rfl
  |some i=>
   have Af:=AML (t:=0) hw h k e;exact(ALX n (uG hw (lb e)).ws Af.Qj.Af Af.Qj.h2).trans (AOj hw (h.AGK _ (Hl (lb e))).1)
theorem AL4:∀(l:List JE) (v:Ah),(l.foldl Ah.Iv v).S.Bj=v.S.Bj
 |[],_=>rfl
 |x::r,v=>by
  rw[List.foldl_cons,AL4 r];unfold Ah.Iv;split
  · rfl
  split<;>rfl
theorem AO4(w:Ah):w.rest.S.Bj=w.S.Bj:=by
 unfold Ah.rest;simp only;rw[AL4];exact(Ata w.S).2.2
theorem ALV{S F:Bv}{x:Dg}(Ab:AHe S F x)(AE:x.Ca=3\/x.Ca=6)(Ag:VB S)(Bh:LN S=true)(h:AGp S F)(k:AGp F S)(BI:S.DX+1<=EW):ids (Gc S x (S.DX+1) 3).1=ids S:=by
 obtain⟨BO,_⟩:=(Zc Ag.ac Ag.PZ Ag.O8).1 Bh;obtain⟨Sp,HG⟩:=BO.ix;have Bw:Ce (BW S).S:={BO with ix:=⟨by show 0<=S.DX+1;omega,by show S.DX+1<=EW;omega⟩,own:=⟨BO.own.no,BO.own.yes⟩,acc:=BO.acc,wt:=BO.wt,Hc:=BO.Hc};have Qj:=AIL h k;have DP:=AIP (t:=x.As) (fun _=>ADn _) Ab Bw Qj.Af Qj.h2;have t1:=dO (w:=BW S) (c:=x) Bw Ab.wf (by show(3:Int)<=5;decide);have B4:ids ((BW S).cmd x).S=ids S:=by
  obtain⟨_,xR,_,_,AHE,_⟩:=ARq (w:=BW S) (c:=x);rcases AE with e|e
  · rw[xR e];unfold Ah.UQ;simp only;split
    · rename_i i e;rw[AKl];unfold ids;rw[(AJh _ _ _ _).2.1];rfl
    exact AKl _ _ _
  rw[AHE e];unfold Ah.S5 ids;split
  · rfl
  simp only;rw[(AIs _ _ _).2.1];show(if _ then _ else _:Ah).S.Bj.map AGY=_;split<;>rfl
 have DC:=ALX ((BW S).cmd x).S.AA.length t1.ws DP.Qj.Af DP.Qj.h2;unfold Gc;rw[AA9 (by rw[Bh];decide),AA9 ARp,AA9 (by simp only[ABk,ABa];omega)];show ids (Ah.rest (Ah.waits ((BW S).cmd x).S.AA.length ((BW S).cmd x))).S=_;unfold ids at B4 DC ⊢;rw[AO4,DC,B4]
def AGV(E:List FE)(c q:Int):Bool:=E.any fun x=>decide (x.Ca=1)&&decide (x.Ap=c)&&decide (x.As=q)
theorem APv{E:List FE}{c q:Int}:AGV E c q=true↔∃x∈E,x.Ca=1/\x.Ap=c/\x.As=q:=by
 unfold AGV;rw[List.any_eq_true];simp only[ABb,ABa,and_assoc]
structure AG' (S F:Bv) (q:Int) (o:Bool) (n:Nat):Prop where
 Bh:LN S=true
 Ag:VB S
 BI:AGp S F
 AIK:S.Bt=FP
 AJB:S.Du=true
 ON:S.Dn=1
 ix:0<=S.DX/\S.DX<=(n:Int)
 AJx:AHK q S
 AHs:0<=q/\q<=(n:Int)
 op:o=true->∃d∈S.Bj,d.As=q/\d.C3=0
 rd:KS S=none
 AKC:∀a∈S.Aj,¬a.Cn=0->¬S.AA=[]
theorem AG'.AI4{S F Wb:Bv}{q:Int}{o Lg:Bool}{n m:Nat}(h:AG' S F q o n)(k:AGI F Wb S)(Ao:n<=m)(A7:Lg=true->o=true):AG' S Wb q Lg m:=
 ⟨h.Bh,h.Ag,k.h2,h.AIK,h.AJB,h.ON,⟨h.ix.1,by have:=h.ix.2;omega⟩,h.AJx,⟨h.AHs.1,by have:=h.AHs.2;omega⟩,fun e=>h.op (A7 e),h.rd,h.AKC⟩
theorem AG'.ws{S F:Bv}{q:Int}{o:Bool}{n:Nat}(h:AG' S F q o n):Ce S:=((Zc h.Ag.ac h.Ag.PZ h.Ag.O8).1 h.Bh).1
theorem AG'.AJa{S F:Bv}{q:Int}{o:Bool}{n:Nat}(h:AG' S F q o n)(Ao:(n:Int)+1<=EW):Ce (BW S).S:=by
 have BO:=h.ws;have Af:=h.ix;exact{BO with ix:=⟨by show 0<=S.DX+1;omega,by show S.DX+1<=EW;omega⟩,own:=⟨BO.own.no,BO.own.yes⟩,acc:=BO.acc,wt:=BO.wt,Hc:=BO.Hc}
structure AKQ (S F:Bv) (x:Dg) (q:Int) (o:Bool) (n:Nat) (T:Bv) (E:List FE):Prop where
 e:Gc S x (S.DX+1) 3=(T,E,0)
 AGo:AG' T F q (o&& !AGV E S.CZ q) (n+1)
 Qj:AGI S T F
 Gw:Fr S T
 Asf:AGI ((BW S).cmd x).S T F
 Ase:Fr ((BW S).cmd x).S T
theorem AMs{S F:Bv}{q EJ:Int}{o Lg:Bool}{n:Nat}{x:Dg}(h:AG' S F q o n)(k:AGp F S)(Ab:AHe S F x)(Ao:(n:Int)+1<=EW)(B':q<=EJ)(Tu:x.Ca=1->x.As<=EJ)(AI2:EJ<=(n:Int)+1)(A7:Lg=true->AHC EJ ((BW S).cmd x)):∃T E,AKQ S F x EJ Lg n T E:=by
 have Af:=h.ix;obtain⟨v,e,DP,EK,Qj,Gw,NY,MK,Aww,Awx⟩:=AMY (t:=EJ) h.Ag h.Bh Ab.wf h.BI k h.AIK AMT fun a b c=>AIP Tu Ab a b c;have B1:=Gw;obtain⟨Hj,G1,_,_,ij,AmT,_⟩:=B1;have hw:Ce v.S:=((Zc MK.ac MK.PZ MK.O8).1 NY).1;have EX:v.S.Bt=FP:=AmT.trans h.AIK;refine⟨v.S,v.EF,e,⟨NY,MK,Qj.Af,EX,G1.trans h.AJB,ij.trans h.ON,⟨AMT,AMT⟩,?_,⟨by have:=h.AHs.1;omega,AMT⟩,fun z=>?_,Awx.Aij,fun a AK z y=>z ?_⟩,Qj,Gw,EK.Qj,EK.Gw⟩
 · exact DP.AKs EJ (ADn _) fun m hm Oo=>by
    have:=h.AJx m hm Oo;omega
 · rw[ABb]at z;obtain⟨N8,OF⟩:=z;rcases EK.op EJ (A7 N8)with y|⟨y,J5,Kd,Ke,IN⟩
   · obtain⟨d,d1,d2,d3⟩:=y;exact⟨d,d1,d2,d3⟩
   rw[APv.2 ⟨y,J5,Kd,Ke.trans Hj,IN⟩]at OF;cases OF
 have i1:=Awx.Tx 1 (ADn _) ARp;have i2:v.S.Aj.map (Jv v.S 1)=v.S.Aj.map id:=by rw[i1,List.map_id]
 have i3:=List.map_inj_left.1 i2 a AK;rw[qh (ADn _) ARp (hw.AHp a AK).1 (hw.AHp a AK).2,y,Akv a.Al EX]at i3;exact(ABE AD.Cn i3).symm
theorem API{w:Ah}{c:Dg}(hw:Ce w.S):∀d∈(w.T' c).S.Bj,YB c.Ap c.As d->¬d.DO=0\/¬d.C3=0:=by
 have key:(Jk w.S.Bj c.Ap c.As false c.Jr).2.2=0->∀d∈(Jk w.S.Bj c.Ap c.As false c.Jr).1,YB c.Ap c.As d->¬d.DO=0\/¬d.C3=0:=fun h=>by
  unfold Jk at h ⊢;split at h
  · rename_i Ao;exact absurd h Ao
  rename_i Ao;rw[AA9 Ao];obtain⟨_,b,_,d1⟩:=V' (ACD.1 Ao);generalize (F1 w.S.Bj c.Ap c.As).1.toNat=j at b d1 ⊢;intro d AJ i;obtain⟨_,_,IK,Jy⟩:=AtI (d:=w.S.Bj.getD j default) (m:=false) (i:=c.Jr);rcases(AHA (AIT hw.VZ) b ⟨IK,Jy⟩).1 AJ with rfl|⟨AJ,n⟩
  · by_cases Bm:(!decide ((w.S.Bj.getD j default).C3=0)|| !decide ((if false=true then(w.S.Bj.getD j default).DN else(w.S.Bj.getD j default).DO)=0))=true
    · rw[TT,AA_ Bm];simp only[ABk,ABe,ABl,if_false,ADJ]at Bm;exact Bm.symm
    rw[TT,AA9 Bm];simp only[ADJ,reduceIte];refine .inl ?_;show ¬(if c.Jr=true then(1:Int)else 2)=0;split<;>decide
  exact absurd ⟨i.1.trans (d1.1.symm.trans IK.symm),i.2.trans (d1.2.symm.trans Jy.symm)⟩ n
 unfold Ah.T';simp only;split
 · rename_i Cu;intro d AJ i;exact absurd (by
    obtain⟨j,_,_,e⟩:=AMr hw.VZ AJ false c.Jr;obtain⟨B4,DC⟩:d.Ap=c.Ap/\d.As=c.As:=i;rw[B4,DC]at e;rw[e]) Cu
 rename_i Cu;have Cu:=ACD.1 Cu;split
 · show ∀d∈(Ah.ends _ _ _ _).S.Bj,_;rw[AJi];exact key Cu
 exact key Cu
theorem ANg{F:Bv}{w:Ah}{c:Dg}(hw:Ce w.S)(h:AGp w.S F)(k:AGp F w.S)(Bm:c.Ap=F.CZ)(AJ:∃d∈F.Bj,d.As=c.As/\d.EL=c.Al)(A7:F' w.S c.Al=true)(B':Jj c.Ap c.As=true):∀a∈(w.S5 c).S.Aj,¬(a.BG.Ap=c.Ap/\a.BG.As=c.As):=by
 unfold Ah.S5;rw[AA9 (by rw[A7,B'];decide)];simp only;rw[ALN hw,(AIs _ _ _).2.2.1];intro a AK;obtain⟨b,Aq,rfl⟩:=AB6.1 AK;have GD:¬c.Ap=0:=by rw[Bm];exact k.aE
 split
 · rintro⟨z,_⟩;exact GD z.symm
 rename_i n;rintro⟨N8,OF⟩;refine n ⟨?_,(AHz GD).2 ⟨N8,OF⟩⟩;obtain⟨_,_,e,Fb,B4,DC,_⟩:=h.RX b Aq (by rw[N8];exact GD) (fun z=>h.ne (z.symm.trans (N8.trans Bm)));obtain⟨d,d0,d1,d2⟩:=AJ;obtain rfl:e=d:=AG4 k.AGs Fb d0 ⟨(k.hH e Fb).trans (k.hH d d0).symm,B4.trans (OF.trans d1.symm)⟩;exact DC.symm.trans d2
theorem ANX{w:Ah}{c:Dg}(hw:Ce w.S)(AJ:∀d∈w.S.Bj,YB c.Ap c.As d->¬d.C3=0):∀d∈(w.forget c).S.Bj,¬YB c.Ap c.As d:=by
 have AGs:=AIT hw.VZ;have key:∀d∈w.S.Bj,YB c.Ap c.As d->∃j:Nat,F1 w.S.Bj c.Ap c.As=((j:Int),0)/\j<w.S.Bj.length/\w.S.Bj.getD j default=d:=fun d hm i=>by
  obtain⟨j,e,Ay,AG5⟩:=AJ5 hw.VZ hm;rw[i.1,i.2]at e;exact⟨j,e,Ay,AG5⟩
 unfold Ah.forget;by_cases Cu:(OP w.S.Bj c.Ap c.As).2=0
 · rw[AA_ Cu];intro d hm i;have hm:d∈(OP w.S.Bj c.Ap c.As).1:=hm;have hs:d∈w.S.Bj:=by
    unfold OP at hm;split at hm
    · exact absurd hm ABh
    split at hm
    · exact absurd hm ABh
    exact List.mem_of_mem_eraseIdx hm
   obtain⟨j,e,Ay,AG5⟩:=key d hs i;unfold OP at hm;rw[e,AA9 (not_not_intro rfl)]at hm;simp only[ACS]at hm;rw[AG5,AA9 (AJ d hs i)]at hm;have:=((AKu AGs Ay).1 hm).2;rw[AG5]at this;exact this ⟨rfl,rfl⟩
 rw[AA9 Cu];intro d hm i;obtain⟨j,e,Ay,AG5⟩:=key d hm i;apply Cu;unfold OP;rw[e,AA9 (not_not_intro rfl)];simp only[ACS];rw[AG5,AA9 (AJ d hm i)]
structure AHJ (S F:Bv) (x:Dg):Prop where
 Bd:x.Ca=5->x.Ap=S.CZ/\∃d∈S.Bj,YB x.Ap x.As d
 Bp:x.Ca=6->(∃d∈F.Bj,d.As=x.As/\d.EL=x.Al)/\F' S x.Al=true/\Jj x.Ap x.As=true
 Bi:x.Ca=7->x.Ap=S.CZ/\∃d∈S.Bj,YB x.Ap x.As d/\¬d.C3=0
theorem AMu{S F T:Bv}{q EJ:Int}{o Lg:Bool}{n:Nat}{x:Dg}{E:List FE}(h:AG' S F q o n)(k:AGp F S)(Ab:AHe S F x)(BI:AHJ S F x)(Ao:(n:Int)+1<=EW)(Tu:x.Ca=1->x.As<=EJ)(AJ:AKQ S F x EJ Lg n T E):AGN T F EJ x:=by
 have Qj:=AIL h.BI k;have hw:=h.AJa Ao;have DP:=AIP (t:=EJ) Tu Ab hw Qj.Af Qj.h2;have s1:=Qj.s.trans DP.Qj.s;have Gw:Fr S ((BW S).cmd x).S:=Fr.trans (.refl _) DP.Gw;obtain⟨_,_,_,xT,AHE,AHY⟩:=ARq (w:=BW S) (c:=x);have mk:∀d∈S.Bj,d.As=x.As->∃m∈((BW S).cmd x).S.Bz,m.Ap=((BW S).cmd x).S.CZ/\x.As<=m.As:=fun d AJ e=>by
  obtain⟨m,NS,Kq,YQ⟩:=h.BI.AGO d AJ;obtain⟨z,RF,N8,OF⟩:=s1.AIE m NS;exact⟨z,RF,by rw[N8,Kq,s1.g],AMT⟩
 have p:AGN ((BW S).cmd x).S F EJ x:=by
  refine⟨Ab.wf,fun e=>?_,fun e=>?_,fun e=>?_,fun e=>?_,fun e=>?_,Ab.ks⟩
  · obtain⟨a,b,c,d,i⟩:=Ab.A1 e;exact⟨a.trans s1.g.symm,b,by unfold AHB;rw[s1.ks];exact c,(AMd Gw _).trans d,i,Tu e⟩
  · obtain⟨a,b,c,d⟩:=Ab.Ba e;exact⟨a,b,by unfold AHB;rw[s1.ks];exact c,d.imp id (s1.AGS _ _)⟩
  · obtain⟨_,d,d0,d1⟩:=BI.Bd e;refine⟨?_,mk d d0 d1.2⟩;rw[xT e];exact API hw
  · obtain⟨a,b⟩:=Ab.Bp e;obtain⟨d,o1,Ua⟩:=BI.Bp e;rw[AHE e];exact⟨a,(ALi (t:=EJ) hw Qj.Af Qj.h2 a b).2 o1 Ua,ANg hw Qj.Af Qj.h2 a d o1 Ua⟩
  obtain⟨_,d,d0,d1,d2⟩:=BI.Bi e;refine⟨?_,mk d d0 d1.2⟩;rw[AHY e];refine ANX hw fun y Bf i=>?_;rw[AG4 h.BI.AGs Bf d0 ⟨i.1.trans d1.1.symm,i.2.trans d1.2.symm⟩];exact d2
 exact p.own k.aE AJ.Asf.s AJ.Ase (ADn _)
def ApM(S:Bv)(key:ByteArray):Option Nat:=Gd S.Aj.length (fun j=>decide ((S.Aj.getD j default).Al=key))
def ApH(S:Bv)(key:ByteArray):AD:=match ApM S key with
 |some j=>S.Aj.getD j default
 |none=>Sq key
def ApE(S:Bv)(key:ByteArray):Bool:=(ApM S key).isSome
def X'(l:List Df)(c:Int):Option Nat:=Gd l.length (fun j=>decide ((l.getD j default).Ap>=c))
def V6(l:List Df)(c:Int):Nat:=(X' l c).getD l.length
def U8(l:List Df)(c:Int):Bool:=match X' l c with
 |some j=>decide ((l.getD j default).Ap=c)
 |none=>false
theorem AcS{l:List Df}{c:Int}(h:U8 l c=true):V6 l c<l.length:=by
 unfold U8 at h;cases e:X' l c with
 |none=>rw[e]at h;cases h
 |some j=>
  rw[V6,e];exact ABw.1 (List.mem_of_find?_eq_some e)
def kP(l:List Df)(c q:Int):Bool:=U8 l c&&decide ((l.getD (V6 l c) default).As>=q)&&decide (IA (HE l)=0)
def Ap3(S:Bv):Prop:=∀j,(S.Aj.getD j default).A0.length<=100000
def vv:BD:=⟨0,0,0,0⟩
def a'(a:AD)(n:Int):Option Nat:=Gd a.A0.length (fun j=>decide ((a.A0.getD j default).Bn=n))
def V8(a:AD)(n:Int):BD:=if E4 a=true then(match a' a n with
 |some j=>a.A0.getD j default
 |none=>vv)else vv
def WK(a:AD)(n:Int):Bool:=E4 a&&(a' a n).isSome
end Go.Apw
namespace Go.A_
open Go.RowKit
section
@[reducible] def RW{σ:Type}(nd:List Nat)(LL:σ->Own)(DD:σ->List Atom)(I:σ->Prop):C4 where
 nd:=nd
 holds S w:=∃s,I s/\Dt (LL s)=nd/\(∀p∈LL s,p.holds S w)/\(∀t∈DD s,t.holds S w)
 valid:=by
  rintro S w ⟨s,_,h,Af,_⟩ b Aq;rw[<-h]at Aq;obtain⟨p,AH,Sf⟩:=FW.1 Aq;exact p.valid (Af p AH) b Sf
 DY:=by
  rintro S Fq w AT ⟨s,AU,h,Af,h2⟩ hs hw;refine⟨s,AU,h,fun p AH=>p.DY (Af p AH) hs fun b Aq=>hw b (Aq.imp id fun Aq=>?_),fun t Av=>Atom.DY (h2 t Av) hs fun b Aq=>hw b (.inl Aq)⟩;rw[<-h];exact FW.2 ⟨p,AH,Aq⟩
theorem CI.TO{BW w:World}{M:List Nat}{L L':Own}(st:CI BW M w L)(Aq:L'.nd=L.nd)(A7:∀p∈L',p.holds (Et L.nd w) w):CI BW M w L':=
 ⟨st.Ln,fun p AH=>by rw[Aq];exact A7 p AH,by rw[Aq];exact st.AGm,by rw[Aq];exact st.new⟩
theorem BP.TO{w:World}{D:List Atom}{L L':Own}(AR:BP D w L)(Aq:L'.nd=L.nd):BP D w L':=fun t Av=>by rw[Aq];exact AR t Av
theorem AjI{L:Own}{i:Nat}{q:C4}(Ag:L[i]? =some q):L=L.take i++q::L.drop (i+1):=by
 obtain⟨h,rfl⟩:=ABF.1 Ag;rw[<-List.drop_eq_getElem_cons h,List.take_append_drop]
theorem nJ(p:C4)(L:Own):Own.nd (p::L)=p.nd++Own.nd L:=rfl
theorem XW(A B:Own):Own.nd (A++B)=Own.nd A++Own.nd B:=OJ A B
theorem zt{σ:Type}{nd:List Nat}{LL:σ->Own}{DD:σ->List Atom}{I:σ->Prop}{BW w:World}{M:List Nat}{L:Own}{D:List Atom}(i:Nat)(Ag:L[i]? =some (RW nd LL DD I))(st:CI BW M w L)(AR:BP D w L):
 ∃s,I s/\CI BW M w (L.take i++(LL s++L.drop (i+1)))/\BP (DD s++D) w (L.take i++(LL s++L.drop (i+1))):=by
 obtain⟨s,AU,Aq,Af,h2⟩:=st.own _ (AA' Ag);have Dv:=AjI Ag;have e:Own.nd (L.take i++(LL s++L.drop (i+1)))=L.nd:=by
  conv=>rhs;rw[Dv]
  rw[XW,XW,XW,nJ];rw[show Own.nd (LL s)=nd from Aq]
 refine⟨s,AU,st.TO e fun p AH=>?_,(BP.app (fun t Av=>h2 t Av) AR).TO e⟩;rcases ABm.1 AH with AH|AH
 · exact st.own p (List.mem_of_mem_take AH)
 rcases ABm.1 AH with AH|AH
 · exact Af p AH
 exact st.own p (List.mem_of_mem_drop AH)
theorem h9{σ:Type}{LL:σ->Own}{DD:σ->List Atom}{I:σ->Prop}{BW w:World}{M:List Nat}{D:List Atom}(A C:Own)(s:σ)(AU:I s)(DK:Bg (DD s) D)(st:CI BW M w (A++(LL s++C)))(AR:BP D w (A++(LL s++C))):
 CI BW M w (A++RW (Dt (LL s)) LL DD I::C)/\BP D w (A++RW (Dt (LL s)) LL DD I::C):=by
 have e:Own.nd (A++RW (Dt (LL s)) LL DD I::C)=Own.nd (A++(LL s++C)):=by
  rw[XW,XW,XW,nJ]
 refine⟨st.TO e fun p AH=>?_,AR.TO e⟩;rcases ABm.1 AH with AH|AH
 · exact st.own p (AC9 _ AH)
 rcases ABf.1 AH with rfl|AH
 · exact⟨s,AU,rfl,fun q B'=>st.own q (ACV _ (AC9 _ B')),fun t Av=>AR t (DK t Av)⟩
 exact st.own p (ACV _ (ACV _ AH))
section
variable{σ:Type} {nd:List Nat} {LL:σ->Own} {DD:σ->List Atom} {I:σ->Prop} {c:Cj} {ops:Array Oper} {Q:AuE} {env:Env} {L:Own} {D:List Atom}
theorem rN(i:Nat){x:Code}(Ag:L[i]? =some (RW nd LL DD I))(k:∀s,I s->CF c x Q env (L.take i++(LL s++L.drop (i+1))) (DD s++D)):CF c x Q env L D:=fun a w f st AR=>by
 obtain⟨s,AU,Kz,KI⟩:=zt i Ag st AR;exact k s AU a w f Kz KI
theorem xV(A C:Own)(s:σ){l:List Oper}(Dv:L=A++(LL s++C))(AU:I s)(DK:Bg (DD s) D)(k:Cb Q c ops l env (A++RW (Dt (LL s)) LL DD I::C) D):Cb Q c ops l env L D:=fun a w f st AR=>by
 subst Dv;obtain⟨Kz,KI⟩:=h9 A C s AU DK st AR;exact k a w f Kz KI
theorem nO(A C:Own)(s:σ){x:Code}(Dv:L=A++(LL s++C))(AU:I s)(DK:Bg (DD s) D)(k:CF c x Q env (A++RW (Dt (LL s)) LL DD I::C) D):CF c x Q env L D:=fun a w f st AR=>by
 subst Dv;obtain⟨Kz,KI⟩:=h9 A C s AU DK st AR;exact k a w f Kz KI
theorem nP(A C:Own)(s:σ){e:Exit}(Dv:L=A++(LL s++C))(AU:I s)(DK:Bg (DD s) D)(k:Eg c Q e env (A++RW (Dt (LL s)) LL DD I::C) D):Eg c Q e env L D:=fun a w f st AR=>by
 subst Dv;obtain⟨Kz,KI⟩:=h9 A C s AU DK st AR;exact k a w f Kz KI
end
def DU(L:Own)(GJ:List Atom):Prop:=∀w,(∀p∈L,p.holds (Et L.nd w) w)->(∀b∈L.nd,b<w.heap.size)->∀t∈GJ,t.holds (Et [] w) w
theorem DU.nil{L:Own}:DU L []:=fun _ _ _ _ Av=>nomatch Av
theorem DU.row{L:Own}{α:Type}{r:Be α}{e:TypeId}{v:Value}{xs:List α}{GJ:List Atom}(i:Nat)(Ag:L[i]? =some (@row α r e v xs))(h:DU L GJ):DU L ((@Atom.mk (List α) (@FI α r) v xs)::GJ):=fun w A7 Aq t Av=>by
 rcases ABf.1 Av with rfl|Av
 · have hm:=AA' Ag;exact Xb (A7 _ hm) (fun b Aq=>⟨Aq.1,by simp⟩) fun b EP=>⟨Aq b (FW.2 ⟨_,hm,EP⟩),by simp⟩
 exact h w A7 Aq t Av
theorem DU.AO{L:Own}{α:Type}{r:Be α}{b:Nat}{T:TypeId}{cs:List Value}{x:α}{GJ:List Atom}(i:Nat)(Ag:L[i]? =some (AO b T cs))(Ab:∀S w,r.rd S w cs x)(h:DU L GJ):DU L ((@Atom.mk (Cq α) (@F9 α r) (.pointer (some ⟨b,0,none⟩)) ⟨x⟩)::GJ):=fun w A7 Aq t Av=>by
 rcases ABf.1 Av with rfl|Av
 · have hm:=AA' Ag;have hh:w.heap[b]? =some (.cells cs.toArray T (0,0)):=A7 _ hm;refine⟨rfl,b,0,cs,rfl,⟨Aq b (FW.2 ⟨_,hm,by simp⟩),by simp⟩,Ab _ _,fun j u Ay=>?_⟩;rw[cell_of_row w b _ _ T (0,0) hh];simpa using Ay
 exact h w A7 Aq t Av
theorem ff{L:Own}{D GJ DB:List Atom}{w:World}(Ew:DU L GJ)(Cl:Bg DB (GJ++D))(A7:∀p∈L,p.holds (Et L.nd w) w)(Aq:∀b∈L.nd,b<w.heap.size)(AR:BP D w L):∀t∈DB,t.holds (Et [] w) w:=fun t Av=>by
 rcases ABm.1 (Cl t Av)with h|h
 · exact Ew w A7 Aq t h
 exact Atom.DY (AR t h) (fun b Aq=>⟨Aq.1,by simp⟩) fun _ _=>rfl
section
variable{c:Cj} {ops:Array Oper} {Q:AuE} {env:Env} {L:Own} {D:List Atom} {rest:List Oper} {d:Nat} {v:Value} {t:TypeId} {p:String} {af:Array Edge}
theorem P6(GJ:List Atom){f:FuncId}{vs:List Value}{DB:List Atom}{v:Value}(h:Cv c.P f vs DB v)(CM:GU c.P f){xs:List Operand}{ats:Array TypeId}
 (Hm:Gq env xs=some vs)(Ew:DU L GJ)(Cl:Bg DB (GJ++D))(Ao:Nat.blt d c.n=true)(k:Cb Q c ops rest ((d,v)::env) L D):
 Cb Q c ops (⟨some d,.call {callee:=.value (.func f),args:=xs.toArray,argTypes:=ats},t,p,af,none⟩::rest) env L D:=by
 refine S4 (x:=.func f) (us:=vs) (first:= #[]) (cap:= #[]) (β:=Unit) (R:=fun _ u=>u=v) (out:=fun _ _=>D) rfl Hm (by simp) CM (fun _ _=>L) (fun w st AR=>?_) (fun _ u=>(d,u)::env) (fun _ u a Gw=>Gw.put u (EU Ao)) (fun _ u hu=>by subst hu;exact k)
 refine(h [] w (by simp[Own.nd,Dt]) (by simp) (by simp) (fun t Av=>?_)).mono fun u AT ⟨hs,y,Fy,_⟩=>⟨(),Fy,?_,?_⟩
 · have:=ff Ew Cl st.own st.lt AR t Av;simpa[Own.nd,Dt]using this
 · exact st.step (by simpa[Own.nd,Dt]using hs)
 exact AR.step (C8.nil (by simpa[Own.nd,Dt]using hs))
theorem dH(GJ:List Atom){f:FuncId}{vs:List Value}{DB:List Atom}{v:Value}(h:Cv c.P f vs DB v)(CM:GU c.P f){xs:List Operand}{ats:Array TypeId}
 (Hm:Gq env xs=some vs)(Ew:DU L GJ)(Cl:Bg DB (GJ++D))(Ao:Nat.blt d c.n=true)(k:SZ Q c ops rest ((d,v)::env) L D):
 SZ Q c ops (⟨some d,.call {callee:=.value (.func f),args:=xs.toArray,argTypes:=ats},t,p,af,none⟩::rest) env L D:=by
 intro a w Gw st AR;unfold wpQuiet;rw[AA_ (show Region.wanted ⟨some d,.call {callee:=.value (.func f),args:=xs.toArray,argTypes:=ats},t,p,af,none⟩ (yielded ops a.tmps)=true from rfl)];refine⟨v,fun AT NN=>?_,k _ w (Gw.put v (EU Ao)) st AR⟩;have Ek:=lp (P:=c.P) (ρ:=a.eval) (o:=⟨some d,.call {callee:=.value (.func f),args:=xs.toArray,argTypes:=ats},t,p,af,none⟩) (x:=.func f) (xs:=xs) (ats:=ats) (f:=f) (first:= #[]) (cap:= #[]) (vs:=vs) rfl rfl (Gw.Gq Hm) CM AT
 simp only[List.nil_append,List.append_nil]at Ek;unfold Oper.quietAt;rw[Ek];refine⟨rfl,?_⟩;have Kz:=st.step NN;have KI:=AR.step NN.nil;have Bm:=h [] AT (by simp[Own.nd,Dt]) (by simp) (by simp) (fun t Av=>by
  have:=ff Ew Cl Kz.own Kz.lt KI t Av;simpa[Own.nd,Dt]using this)
 refine Calls.mono Bm fun e Xq ⟨u,he,AH⟩=>?_;obtain⟨hs,y,Fy,_⟩:=AH;have iT:u=v:=Fy;subst iT;have HW:C8 [] AT Xq:=by simpa[Own.nd,Dt]using hs
 exact⟨he,NN.trans HW⟩
theorem Uw(GJ:List Atom){f:FuncId}{vs:List Value}{DB:List Atom}{β:Type}{R:β->Value->Prop}{DM:β->Value->Own}(h:Aw c.P f vs [] DB R DM (fun _ _=>[]))(AU:∀y v,∀p∈DM y v,∀S Fq w,p.holds S w->p.holds Fq w)(CM:GU c.P f){xs:List Operand}{ats:Array TypeId}
 (Hm:Gq env xs=some vs)(Ew:DU L GJ)(Cl:Bg DB (GJ++D))(Ao:Nat.blt d c.n=true)(k:∀y v,R y v->Cb Q c ops rest ((d,v)::env) (DM y v++L) D):
 Cb Q c ops (⟨some d,.call {callee:=.value (.func f),args:=xs.toArray,argTypes:=ats},t,p,af,none⟩::rest) env L D:=by
 refine S4 (x:=.func f) (us:=vs) (first:= #[]) (cap:= #[]) (β:=β) (R:=R) (out:=fun _ _=>D) rfl Hm (by simp) CM (fun y v=>DM y v++L) (fun w st AR=>?_) (fun _ u=>(d,u)::env) (fun _ u a Gw=>Gw.put u (EU Ao)) (fun y u hu=>k y u hu)
 refine(h [] w (by simp[Own.nd,Dt]) (by simp) (by simp) (fun t Av=>?_)).mono fun u AT ⟨hs,y,Fy,Af,OZ,eQ,_⟩=>⟨y,Fy,?_,?_⟩
 · have:=ff Ew Cl st.own st.lt AR t Av;simpa[Own.nd,Dt]using this
 · have HW:C8 [] w AT:=(by simpa[Own.nd,Dt]using hs);exact st.many HW (fun q B'=>AU y u q B' _ _ _ (Af q B')) OZ (fun b Aq=>(eQ b Aq).resolve_left (by simp[Own.nd,Dt]))
 have HW:C8 [] w AT:=by simpa[Own.nd,Dt]using hs
 exact AR.many HW (fun b Aq=>(eQ b Aq).resolve_left (by simp[Own.nd,Dt]))
end
theorem AiF{α:Type}{r:Be α}(Bh:∀{S Fq w cs x},r.rd S w cs x->r.rd Fq w cs x){e:TypeId}{v:Value}{xs:List α}{S Fq:Nat->Prop}{w:World}(h:(@row α r e v xs).holds S w):(@row α r e v xs).holds Fq w:=by
 obtain⟨Cy,Af,h2,Bo⟩:=h;refine⟨Cy,Af,?_,Bo⟩;have go:∀(Cy:List (List Value)) (xs:List α),@HM α r S w Cy xs->@HM α r Fq w Cy xs:=by
  intro Cy;induction Cy with
  |nil=>intro xs h;cases xs<;>exact h
  |cons c Cy Cg=>intro xs h;cases xs with
   |nil=>exact h
   |cons x xs=>exact⟨Bh h.1,Cg xs h.2⟩
 exact go Cy xs h2
theorem Ajr{α:Type}{s:Shape α}(hs:∀x h,s.sub x h=[]){S Fq:Nat->Prop}{w:World}{cs:List Value}{x:α}(h:(Be.D5 s).rd S w cs x):(Be.D5 s).rd Fq w cs x:=by
 obtain⟨hh,e,_,hw⟩:=h;exact⟨hh,e,(fun(t:Atom) Av=>by rw[hs]at Av;exact nomatch Av),hw⟩
end
end Go.A_
