/- Part 16 of shardFull_holds. -/
import Derived.Test.YtalfaopffbkdnaaGreatSgm15

set_option maxRecDepth 20000
set_option maxHeartbeats 1000000
open Go.A_ Go.Proofs Go.Proofs.YtalfaopffbkdnaaGreat
namespace Go.Apw
theorem Aed{m:BL}(Bw:0<m.Ap)(h:dq m)(hw:m.Cm.wf):m.wf:=by
 have Af:=h.hH;have h2:=h.L3;have Bo:=h.Ey;have BI:EW=4611686018427387904:=rfl;exact⟨⟨by omega,by omega⟩,⟨by omega,by omega⟩,trivial,hw⟩
theorem Aee{l:List BL}(h:Fg l=true)(hw:∀m∈l,m.Cm.wf):∀m∈l,m.wf:=fun m hm=>Aed ((Rl.1 h).1 m hm).1 ((Rl.1 h).1 m hm).2 (hw m hm)
theorem y7{l:List Df}(h:HE l=true):∀e∈l,e.wf:=fun e he=>by
 have:=((au.1 h).1 e he).2;simp only[Jj,Bool.and_eq_true,decide_eq_true_eq]at this;have BI:EW=4611686018427387904:=rfl;exact⟨⟨by omega,by omega⟩,⟨by omega,by omega⟩⟩
theorem Ad5(b:List BL):∀{l:List BL},Fg l=true->(∀m∈l,m.Cm.wf)->Fg (b.foldl (fun l m=>if(G' l m.Ap m.As).2=0 then(G' l m.Ap m.As).1 else l) l)=true/\∀m∈b.foldl (fun l m=>if(G' l m.Ap m.As).2=0 then(G' l m.Ap m.As).1 else l) l,m.Cm.wf:=by
 induction b with
 |nil=>exact fun h hw=>⟨h,hw⟩
 |cons x r Cg=>
  intro l h hw;rw[List.foldl_cons];split
  · rename_i e;exact Cg (rj e) (rk hw)
  · exact Cg h hw
theorem sb{S:Bv}(h:Ce S)(BQ Ag:ByteArray):hc (Gl S BQ Ag):=by
 obtain⟨Kq,YQ⟩:=Ad5 S.Bz h.marks h.Me;refine⟨dd,fun x Ab=>?_,Aee Kq YQ,fun x Ab=>absurd Ab List.not_mem_nil,fun x Ab=>absurd Ab List.not_mem_nil,y7 h.ends⟩;obtain⟨Ab,_⟩:=List.mem_filter.1 Ab;obtain⟨a,AK,rfl⟩:=List.mem_map.1 Ab;have:=k_ (h.acc a AK).2.1 DW;exact⟨this.wf,this.A7⟩
theorem Akv{S:Bv}(k:ByteArray)(h:S.Bt=FP):Ef S k=false:=by
 unfold Ef;rw[h];rfl
theorem b6{S:Bv}{k:ByteArray}:F' S k=true↔S.Du=true/\within S.A6 S.Bc k=true:=by rw[F',Bool.and_eq_true]
theorem jc{S:Bv}(h:Ce S):Ce (LG S)/\(LG S).CZ=S.CZ/\(LG S).DX=S.DX:=by
 unfold LG;split
 · exact⟨h,rfl,rfl⟩
 · rename_i Ew;split
   · exact⟨h,rfl,rfl⟩
   · rename_i he;have he:=Classical.not_not.1 he;have ql:=back (sb h S.Bt.A6 S.Bt.Bc) he;generalize (IW (Gl S S.Bt.A6 S.Bt.Bc)).1=jQ at ql;have qi:(Er jQ).2=0:=(by rw[ql]);have Cu:¬S.Bt=FP:=fun e=>Ew (by simp[Py,e]);obtain⟨AH,BI,hh,A7⟩:LK S.Bt=true/\S.Bt.Hi=S.CZ/\S.Bt.Bc=S.Bc/\F' S S.Bt.A6=true:=h.Hc.resolve_left Cu;obtain⟨bb,Kp⟩:=b6.1 A7;obtain⟨B4,sp⟩:=h.own.yes bb;have HG:¬S.Bt.Ev=0:=by
      simp only[LK,Bool.and_eq_true,decide_eq_true_eq]at AH;omega
     have NM:∀k,Ef S k=within S.Bt.A6 S.Bc k:=fun k=>by rw[Ef,decide_eq_false HG,hh];rfl
     have qc:∀x∈S.AA,within S.A6 S.Bc x.AM.Al=true/\Ef S x.AM.Al=false:=fun x Ab=>by
      obtain⟨_,_,c,d,_⟩:=SF.1 (h.wt x Ab);exact⟨(b6.1 c).2,d⟩
     have pq:∀a∈S.Aj,within S.A6 S.Bc a.Al=true:=fun a AK=>(b6.1 (h.acc a AK).2.2).2;simp only;split
     · rename_i el;have Cl:S.Aj.filter (fun a=> !Ef S a.Al)=[]:=List.filter_eq_nil_iff.2 fun a AK=>by
        rw[NM,el,pq a AK];decide
       have F5:S.AA=[]:=List.eq_nil_iff_forall_not_mem.2 fun x Ab=>by
        obtain⟨a,b⟩:=qc x Ab;rw[NM,el,a]at b;cases b
       refine⟨{h with own:=⟨fun _=>⟨rfl,rfl,Cl,F5,rfl⟩,fun q=>by cases q⟩,len:=?_,acc:=?_,Ll:=?_,wt:=?_,Hc:=.inl rfl,out:=.inr ⟨AH,BI,qi⟩},rfl,rfl⟩
       · show(S.Aj.filter _).length<=12;rw[Cl];decide
       · show ∀a∈S.Aj.filter _,_;rw[Cl];exact fun a AK=>absurd AK List.not_mem_nil
       · show H6 _ _ (S.Aj.filter _);rw[Cl];exact List.Pairwise.nil
       · show ∀x∈S.AA,_;rw[F5];exact fun a AK=>absurd AK List.not_mem_nil
     · rename_i el;obtain⟨Ua,Ub⟩:=within_iff.1 Kp;have Ad6:Ds S.A6 S.Bt.A6=true:=Pa.tZ _ _ Ua el;obtain⟨s1,s2,IK⟩:=Vm.1 (kT AH);obtain⟨t1,t2,t3⟩:=Vm.1 sp;have DY:∀k,within S.A6 S.Bc k=true->Ef S k=false->within S.A6 S.Bt.A6 k=true:=fun k a b=>by
        obtain⟨DP,EK⟩:=within_iff.1 a;refine within_iff.2 ⟨DP,.inr ?_⟩;rw[NM]at b;cases q:Ds k S.Bt.A6 with
        |true=>rfl
        |false=>rw[within_iff.2 ⟨q,EK⟩]at b;cases b
       refine⟨{h with own:=⟨fun q=>(by rw[show S.Du=false from q]at bb;cases bb),fun _=>⟨B4,Vm.2 ⟨t1,s1,.inr Ad6⟩⟩⟩,len:=Nat.le_trans (List.length_filter_le ..) h.len,acc:=?_,Ll:=List.Pairwise.filter _ h.Ll,wt:=?_,Hc:=.inl rfl,out:=.inr ⟨AH,BI,qi⟩},rfl,rfl⟩
       · intro a AK;obtain⟨AK,hs⟩:=List.mem_filter.1 AK;exact⟨(h.acc a AK).1,(h.acc a AK).2.1,b6.2 ⟨bb,DY _ (pq a AK) (by simpa using hs)⟩⟩
       · intro x Ab;obtain⟨a,b⟩:=qc x Ab;exact c2 (h.wt x Ab) (b6.2 ⟨bb,DY _ a b⟩) (Akv _ rfl)
theorem jP{S:Bv}{ix:Int}{a:AD}(Af:1<=ix)(h2:ix<=EW)(AK:Fw a)(w:D3 a):Fw (Jv S ix a)/\D3 (Jv S ix a)/\(Jv S ix a).Al=a.Al:=by
 unfold Jv;split
 · obtain⟨x,y,z⟩:=ig w AK Af h2;exact⟨y,z,by rw[x]⟩
 · obtain⟨x,y,z⟩:=l8 w AK;exact⟨y,z,by rw[x]⟩
theorem fe{w:Ah}{x:JE}(h:Ce w.S):CE w (w.Iv x):=by
 unfold Ah.Iv;split
 · exact CE.refl h
 · rename_i Af;have BI:(BF w.S.Aj x.Al).2=true:=(by simpa using Af);split
   · rename_i h2;obtain⟨m,k⟩:=Q2 BI;obtain⟨_,y,z⟩:=h.acc _ m;obtain⟨_,_,_,_,_,_,_,_,p,q,r⟩:=iv y h2;exact TL h q r (by rw[p];exact z) (.inl (by rw[p];show(BF w.S.Aj (BF w.S.Aj x.Al).1.Al).2=true;rw[k];exact BI))
   · exact CE.refl h
theorem lg{w:Ah}(h:Ce w.S)(Af:1<=w.ix)(h2:w.ix<=EW):CE w w.rest/\∀a∈w.rest.S.Aj,FT a=false:=by
 unfold Ah.rest;simp only;obtain⟨DP,EK,FR⟩:=jc h;have CY:CE w {w with S:={LG w.S with Aj:=(LG w.S).Aj.map (Jv (LG w.S) w.ix)}}:=⟨DP.bE fun a AK=>jP Af h2 (DP.acc a AK).1 (DP.acc a AK).2.1,EK,FR,rfl,rfl⟩;have Dh:=CY.trans (Yd (fun u d hu=>fe (x:=d) hu) w.BQ CY.ws);generalize w.BQ.foldl Ah.Iv _=v at Dh;have hs:=Dh.ws;refine⟨⟨hs.mA (Nat.le_trans (List.length_filter_le ..) hs.len) (fun a AK=>hs.acc a (List.mem_filter.1 AK).1) (List.Pairwise.filter _ hs.Ll) (fun e=>by rw[(hs.own.no e).2.2.1];rfl),Dh.g,Dh.i,Dh.x,Dh.n⟩,fun a AK=>?_⟩;have:=(List.mem_filter.1 AK).2;simpa using this
structure VB (S:Bv):Prop where
 ac:∀a∈S.Aj,D3 a
 PZ:∀x∈S.AA,x.wf
 O8:∀m∈S.Bz,m.Cm.wf
theorem Ce.ints{S:Bv}(h:Ce S):VB S:=⟨fun a AK=>(h.acc a AK).2.1,h.ww,h.Me⟩
theorem w5{S:Bv}{c:Dg}{ix nd:Int}(Ag:VB S)(Bm:c.wf)(h:(Gc S c ix nd).2.2=0):
 LN S=true/\LN (Gc S c ix nd).1=true/\VB (Gc S c ix nd).1/\(Gc S c ix nd).1.CZ=S.CZ/\(Gc S c ix nd).1.DX=ix:=by
 unfold Gc at h ⊢;split at h
 · cases h
 · rename_i Bh;rw[if_neg Bh];have Bh:LN S=true:=(by simpa using Bh);split at h
   · cases h
   · rename_i Ao;rw[if_neg Ao];split at h
     · cases h
     · rename_i Ab;rw[if_neg Ab];simp only[Bool.or_eq_true,decide_eq_true_eq,not_or]at Ao Ab;obtain⟨BO,_⟩:=(Zc Ag.ac Ag.PZ Ag.O8).1 Bh;have Fx:=BO.ix;obtain⟨Sp,HG⟩:=Fx;have Bw:Ce {S with DX:=ix}:={BO with ix:=⟨by show 0<=ix;omega,by show ix<=EW;omega⟩,own:=⟨BO.own.no,BO.own.yes⟩,acc:=BO.acc,wt:=BO.wt,Hc:=BO.Hc};have A1:=dO (w:={S:={S with DX:=ix},ix:=ix,nd:=nd,EF:=[],BQ:=[]}) (c:=c) Bw Bm (by show nd<=5;omega);simp only;generalize ({S:={S with DX:=ix},ix:=ix,nd:=nd,EF:=[],BQ:=[]}:Ah).cmd c=w at A1;have AY:=gH w.S.AA.length A1.ws;generalize Ah.waits w.S.AA.length w=v at AY;have TB:v.ix=ix:=AY.x.trans A1.x;obtain⟨A9,Ba⟩:=lg AY.ws (by omega) (by omega);refine⟨Bh,(Zc (A9.ws.ints).ac (A9.ws.ints).PZ (A9.ws.ints).O8).2 ⟨A9.ws,Ba⟩,A9.ws.ints,?_,?_⟩
       · rw[A9.g,AY.g,A1.g]
       · rw[A9.i,AY.i,A1.i]
theorem w7{S:Bv}{c:Dg}{ix nd:Int}(Bh:LN S=true)(Af:1<=nd)(h2:nd<=5)(Bo:S.DX<ix)(BB:ix<=EW):(Gc S c ix nd).2.2=0:=by
 unfold Gc;rw[if_neg (by rw[Bh];decide),if_neg (by simp only[Bool.or_eq_true,decide_eq_true_eq];omega),if_neg (by simp only[Bool.or_eq_true,decide_eq_true_eq];omega)]
theorem lX{β GA:Type}[DecidableEq GA]{key:β->GA}{lt:GA->GA->Bool}(o:QL lt):∀{l:List β},H6 key lt l->∀{a b:β},a∈l->b∈l->key a=key b->a=b
 |[],_,_,_,h,_,_=>absurd h List.not_mem_nil
 |x::l,AN,a,b,AK,Aq,e=>by
  obtain⟨Om,Sl⟩:=List.pairwise_cons.1 AN;rcases List.mem_cons.1 AK with X9|o7
  · rcases List.mem_cons.1 Aq with h1|HO
    · rw[X9,h1]
    · have:=Om _ HO;rw[<-e,X9,o.Si]at this;cases this
  · rcases List.mem_cons.1 Aq with h1|HO
    · have:=Om _ o7;rw[e,h1,o.Si]at this;cases this
    · exact lX o Sl o7 HO e
structure VK (S:Bv):Prop where
 Aij:KS S=none
 hand:Py S=false\/¬(IW (Gl S S.Bt.A6 S.Bt.Bc)).2=0
 Tx:∀ix,1<=ix->ix<=EW->S.Aj.map (Jv S ix)=S.Aj
 plain:∀a∈S.Aj,FT a=false
-- waits: the rounds are enough
theorem ot(w:Ah)(c q:Int)(a:De):(w.done c q a).S.AA=w.S.AA:=by
 unfold Ah.done;simp only;split<;>rfl
theorem Ajp(w:Ah)(c q n:Int)(k:ByteArray)(a:De):(w.served c q n k a).S.AA=w.S.AA:=by
 unfold Ah.served;simp only;split<;>exact ot ..
theorem sG(w:Ah)(c q:Int):(w.raise c q).S.AA=w.S.AA:=by
 unfold Ah.raise;split<;>rfl
theorem y6(w:Ah)(c q e:Int):(w.ends c q e).S.AA.length<=w.S.AA.length:=by
 unfold Ah.ends;simp only;rw[sG];refine Nat.le_trans (List.length_filter_le ..) ?_;show(w.done c q (HN e)).S.AA.length<=_;rw[ot];exact Nat.le_refl _
theorem AjV(w:Ah)(o:FL):(H3 w o).1.S.AA=w.S.AA:=by
 unfold H3;simp only;repeat' split
 all_goals rfl
theorem AdY(w:Ah)(x:BX):(w.Lf x).S.AA.length<=w.S.AA.length:=by
 unfold Ah.Lf;split
 · exact Nat.le_refl _
 · simp only;generalize KA _ _=r;have BC:(if r.2=0 then w.put r.1 else w.tell 3 x.Ap x.As GS).S.AA=w.S.AA:=(by split<;>rfl);generalize (if r.2=0 then w.put r.1 else w.tell 3 x.Ap x.As GS)=v at BC;rw[<-BC];split
   · split
     · rw[sG];exact Nat.le_refl _
     · exact Nat.le_refl _
   · split
     · split<;>exact Nat.le_refl _
     · split
       · exact y6 ..
       · exact Nat.le_refl _
theorem uH{w:Ah}{i:Nat}(h:i<w.S.AA.length):(w.L6 i).S.AA.length<w.S.AA.length:=by
 have he:(w.S.AA.eraseIdx i).length<w.S.AA.length:=by rw[List.length_eraseIdx_of_lt h];omega
 unfold Ah.L6;simp only;split
 · rw[Ajp,AjV];exact he
 · exact Nat.lt_of_le_of_lt (AdY ..) he
theorem lb{S:Bv}{i:Nat}(h:KS S=some i):i<S.AA.length:=Q4 h
def Up(a b:AD):Prop:=a.Al=b.Al/\a.Cn=b.Cn/\a.BG=b.BG/\(a=b\/b.Cn=0/\a.A0≠[])
structure AGm (l m:List AD):Prop where
 to:∀a∈m,∃b∈l,Up a b
 of:∀b∈l,∃a∈m,Up a b
theorem VK.at{S:Bv}(h:VK S)(i:Int):VK {S with DX:=i}:=⟨h.Aij,h.hand,h.Tx,h.plain⟩
theorem Ak_{w:Ah}(h:KS w.S=none):∀n,Ah.waits n w=w
 |0=>rfl
 |n+1=>by rw[Ah.waits,h]
theorem Aqo{l:List BL}{c q:Int}(h:(IS l c q).2.2=0)(Af:(IS l c q).2.1=false):(IS l c q).1=l/\(FU l c).2=true/\(FU l c).1.As=q:=by
 unfold IS at h Af ⊢;split at h
 · cases h
 · rename_i a;rw[if_neg a]at Af ⊢;split at h
   · cases h
   · rename_i b;rw[if_neg b]at Af ⊢;split at h
     · cases h
     · rename_i d;rw[if_neg d]at Af ⊢;split at Af
       · rename_i e;rw[if_pos e];rw[Bool.and_eq_true,decide_eq_true_eq]at e;exact⟨rfl,e.1,e.2⟩
       · cases Af
section
def AEp(l:List BX):Nat:=l.countP (fun x=>decide (x.AM.Ca=5))
theorem AET:∀{l:List BX} {i:Nat},i<l.length->AEp (l.eraseIdx i)+(if(l.getD i default).AM.Ca=5 then 1 else 0)=AEp l
 |[],i,h=>absurd h (Nat.not_lt_zero _)
 |x::l,0,_=>by
  show AEp l+(if x.AM.Ca=5 then 1 else 0)=AEp (x::l);unfold AEp;rw[List.countP_cons];simp only[decide_eq_true_eq]
 |x::l,i+1,h=>by
  have Cg:=AET (l:=l) (i:=i) (by simpa using h);show AEp (x::l.eraseIdx i)+(if(l.getD i default).AM.Ca=5 then 1 else 0)=AEp (x::l);unfold AEp at Cg ⊢;rw[List.countP_cons,List.countP_cons];omega
theorem AFo{l m:List BX}(h:l.Sublist m):AEp l<=AEp m:=h.countP_le
def AEH(e:FE):Prop:=¬e.Ca=1\/¬e.Cm.Jd=3
structure AEq (Q:Prop) (T:Nat) (S:Bv) (w:Ah):Prop where
 EF:∀e∈w.EF,AEH e\/Q
 AEs:w.S.Aj.length+AEp w.S.AA<=T
 out:w.S.CW=S.CW
 ql:w.S.Cf=S.Cf
section
variable{Q:Prop} {T:Nat} {S:Bv}
theorem AEz{w:Ah}(h:AEq Q T S w){k c q:Int}{a:De}(m:AEH ⟨k,c,q,a⟩\/Q):AEq Q T S (w.tell k c q a):=⟨fun e he=>by
 rcases List.mem_append.1 he with he|he
 · exact h.EF e he
 · rw[List.mem_singleton.1 he];exact m,h.AEs,h.out,h.ql⟩
theorem AEM{w:Ah}(h:AEq Q T S w){c q:Int}{a:De}(m:¬a.Jd=3\/Q):AEq Q T S (w.done c q a):=by
 have Av:=AEz h (k:=1) (c:=c) (q:=q) (a:=a) (m.imp .inr id);unfold Ah.done;simp only;split
 · exact⟨Av.EF,Av.AEs,Av.out,Av.ql⟩
 · exact Av
theorem AEy{w:Ah}(h:AEq Q T S w){c q n:Int}{k:ByteArray}{a:De}(m:¬a.Jd=3\/Q):AEq Q T S (w.served c q n k a):=by
 have Av:=AEM h (c:=c) (q:=q) m;unfold Ah.served;simp only;split
 · exact⟨Av.EF,Av.AEs,Av.out,Av.ql⟩
 · exact Av
theorem AEN{w:Ah}(h:AEq Q T S w)(c q:Int):AEq Q T S (w.raise c q):=by
 unfold Ah.raise;split
 · exact⟨h.EF,h.AEs,h.out,h.ql⟩
 · exact h
theorem AE9{w:Ah}(h:AEq Q T S w){c q e:Int}(m:¬e=3):AEq Q T S (w.ends c q e):=by
 have Av:=AEM h (c:=c) (q:=q) (a:=HN e) (.inl m);unfold Ah.ends;simp only;refine AEN ?_ c q;refine⟨Av.EF,?_,Av.out,Av.ql⟩;have Af:=Av.AEs;have h2:=AFo (List.filter_sublist (l:=(w.done c q (HN e)).S.AA) (p:=fun x=> !(decide (x.Ca=2)&&decide (x.Ap=c)&&decide (x.As=q)&&decide (x.DH=(w.done c q (HN e)).S.CZ))));show(List.map _ _).length+AEp (List.filter _ _)<=T;rw[List.length_map];exact Nat.le_trans (Nat.add_le_add_left h2 _) Af
theorem AE8{w:Ah}(h:AEq Q T S w)(c q:Int):AEq Q T S (w.RR c q):=AE9 h (by split<;>decide)
theorem AEx{w:Ah}(h:AEq Q T S w)(hs:H6 (·.Al) Ds w.S.Aj){a:AD}(BI:(BF w.S.Aj a.Al).2=true):AEq Q T S (w.put a):=by
 refine⟨h.EF,?_,h.out,h.ql⟩;rw[oS hs]at BI;show(FQ (·.Al) Ds a w.S.Aj).length+_<=T;rw[su BI];exact h.AEs
end
theorem Aj9{S:Bv}(h:Ce S){k:ByteArray}(AE:Ix k=true){l:F_}(AN:l.wf)(Ao:¬l.B2=0)(e:(KA (BF S.Aj k).1 l).2=0):(BF S.Aj k).2=true/\(KA (BF S.Aj k).1 l).1.Al=k:=by
 obtain⟨f1,f2,f3⟩:=V9 h AE;obtain⟨p,_,_,Qj,CY,Dh,q,s⟩:=gu f2 AN e;refine⟨?_,by rw[p];exact f3⟩;cases S_:(BF S.Aj k).2 with
 |true=>rfl
 |false=>
  exfalso;have Cu:(BF S.Aj k).1={Fj with Al:=k}:=(by rw[(UH S_).2];exact(YR AE).1);rw[Cu]at CY Dh;have CY:(0:Int)<=0+l.B2:=CY;have Dh:(0:Int)+l.B2<=0:=Dh;omega
theorem AEL{S:Bv}(h:Ce S){o:FL}(AE:Ix o.Al=true)(hw:o.wf)(Ao:1<=o.B2)(e:(JF (BF S.Aj o.Al).1 (signed o)).2=0):(BF S.Aj o.Al).2=true/\(JF (BF S.Aj o.Al).1 (signed o)).1.Al=o.Al:=by
 obtain⟨f1,f2,f3⟩:=V9 h AE;obtain⟨UG,AmQ,p,q,r⟩:=ZU f2 (gg hw.2.2.2.1 Ao) e;refine⟨?_,by rw[p];exact f3⟩;cases e:(BF S.Aj o.Al).2 with
 |true=>rfl
 |false=>
  exfalso;have Aq:=q.BQ;have R9:=q.Ag;rw[p]at Aq R9;have Cu:(BF S.Aj o.Al).1={Fj with Al:=o.Al}:=(by rw[(UH e).2];exact(YR AE).1);rw[Cu]at Aq R9;have CY:(0:Int)<=0+signed o:=Aq;have Dh:(0:Int)+signed o<=0:=R9;unfold signed at CY Dh;split at CY<;>omega
theorem AE4{a:AD}{s:GC}:¬(Pu a s).2=3:=by
 have h:∀e:Int,(e=0\/e=21\/e=150\/e=152)->¬e=3:=fun e q=>by omega
 refine h _ ?_;unfold Pu LJ;repeat' split
 all_goals first|exact .inl rfl|exact .inr (.inl rfl)|exact .inr (.inr (.inl rfl))|exact .inr (.inr (.inr rfl))|contradiction
theorem AE3{a:AD}{n:Int}:¬(JF a n).2=3:=by
 have h:∀e:Int,(e=0\/e=21\/e=150\/e=152\/e=1)->¬e=3:=fun e q=>by omega
 refine h _ ?_;unfold JF;repeat' split
 all_goals simp
section
variable{Q:Prop} {T:Nat} {S:Bv}
theorem AFa{w:Ah}{o:FL}(h:AEq Q T S w)(hw:Ce w.S)(AE:Ix o.Al=true)(wf:o.wf)(Ao:o.Ca=1\/o.Ca=2->1<=o.B2)(AbR:1<=o.Ca/\o.Ca<=5)(Aq:o.Ca=5->w.S.Aj.length+AEp w.S.AA+1<=T)
 (B':o.Ca=5->(12:Int)<=w.S.Aj.length+S2 w.S->Q):AEq Q T S (H3 w o).1/\(¬(H3 w o).2.Jd=3\/Q):=by
 unfold H3;simp only;split
 · exact⟨h,.inl (by show ¬(0:Int)=3;decide)⟩
 · split
   · exact⟨h,.inl (by show ¬(0:Int)=3;decide)⟩
   · split
     · rename_i Bd;split
       · rename_i Af;simp only[Bool.and_eq_true,decide_eq_true_eq]at Af;exact⟨h,.inr (B' Bd (by omega))⟩
       · refine⟨?_,.inl AE4⟩;split
         · refine⟨h.EF,?_,h.out,h.ql⟩;have Af:=cb (key:=fun a:AD=>a.Al) (lt:=Ds) (Pu (BF w.S.Aj o.Al).1 ⟨o.A6,o.Bc⟩).1 w.S.Aj;have h2:=Aq Bd;show(FQ (·.Al) Ds _ w.S.Aj).length+AEp w.S.AA<=T;omega
         · exact h
     · rename_i Ba A9 Bd;refine⟨?_,.inl AE3⟩;split
       · rename_i e;obtain⟨f1,f2⟩:=AEL hw AE wf (Ao (by omega)) e;exact AEx h hw.Ll (by rw[f2];exact f1)
       · exact h
theorem AE_{w:Ah}{x:BX}(h:AEq Q T S w)(hw:Ce w.S)(AE:Ix x.AM.Al=true)(wf:x.wf)(Ao:¬x.AM.B2=0):AEq Q T S (w.Lf x):=by
 unfold Ah.Lf;split
 · exact h
 · simp only;have BI:=Aj9 hw AE (l:=⟨x.Ap,x.As,x.DH,x.AM.B2⟩) ⟨wf.2.1,wf.2.2.1,wf.2.2.2.2.1,wf.2.2.2.2.2.2.2.2.1⟩ Ao;generalize Bh:KA (BF w.S.Aj x.AM.Al).1 ⟨x.Ap,x.As,x.DH,x.AM.B2⟩=r at BI;have BC:AEq Q T S (if r.2=0 then w.put r.1 else w.tell 3 x.Ap x.As GS)/\(r.2=0->H6 (·.Al) Ds (w.put r.1).S.Aj):=by
    split
    · rename_i e;exact⟨AEx h hw.Ll (by rw[(BI e).2];exact(BI e).1),fun _=>W4 Pa hw.Ll⟩
    · rename_i e;exact⟨AEz h (.inl (.inl (by show ¬(3:Int)=1;decide))),fun q=>absurd q e⟩
   obtain⟨BC,hs⟩:=BC;have Cu:¬r.2=0->r.1=Fj:=fun e=>by
    rw[<-Bh]at e ⊢;unfold KA at e ⊢;repeat' split
    all_goals first|rfl|(simp_all)
   generalize qb:(if r.2=0 then w.put r.1 else w.tell 3 x.Ap x.As GS)=v at BC;split
   · split
     · exact AEN BC _ _
     · exact BC
   · split
     · split
       · rename_i e;by_cases Fb:r.2=0
         · rw[if_pos Fb]at qb;have MC:(D1 r.1 false).1.Al=r.1.Al:=by
            unfold D1 at e ⊢;split
            · rename_i q;rw[if_pos q]at e;cases e
            · split
              · rename_i q Ez;rw[if_neg q,if_pos Ez]at e;cases e
              · rfl
           refine AEx BC (by rw[<-qb];exact hs Fb) ?_;rw[oS (by rw[<-qb];exact hs Fb),br Pa (by rw[<-qb];exact hs Fb)];exact⟨r.1,by rw[<-qb];exact(PJ Pa hw.Ll).2 (.inl rfl),MC.symm⟩
         · rw[Cu Fb]at e;exact absurd e (by decide)
       · exact BC
     · generalize Jk v.S.Bj x.Ap x.As (decide (x.AM.Al=(findD v.S.Bj x.Ap x.As).Al)) (decide (r.2=0))=g;have hu:AEq Q T S {v with S:={v.S with Bj:=g.1}}:=⟨BC.EF,BC.AEs,BC.out,BC.ql⟩;split
       · exact AE8 hu _ _
       · exact hu
end
end
section
section
variable{Q:Prop} {T:Nat} {S:Bv}
theorem AFb{w:Ah}{i:Nat}(h:AEq Q T S w)(hw:Ce w.S)(Ag:i<w.S.AA.length)(AEA:(13:Int)<=T+(Er S.Cf).1.Aj.length->Q):AEq Q T S (w.L6 i):=by
 have hm:=Hl (l:=w.S.AA) Ag;obtain⟨a,b,c,d,e⟩:=SF.1 (hw.wt _ hm);have BI:=hw.ww _ hm;have Ao:=AET Ag;have Bm:=h.AEs;have Af:Ce {w.S with AA:=w.S.AA.eraseIdx i}:=hw.bB (List.eraseIdx_sublist ..);have Hj:AEq Q T S {w with S:={w.S with AA:=w.S.AA.eraseIdx i}}:=⟨h.EF,by show w.S.Aj.length+AEp (w.S.AA.eraseIdx i)<=T;omega,h.out,h.ql⟩;unfold Ah.L6;simp only;split
 · rename_i k;have A7:Xu (w.S.AA.getD i default)=true:=by
    rcases e with e|e
    · exact e.2
    · rw[k]at e;exact absurd e.1 (by decide)
   obtain⟨Ie,II,IJ⟩:=uI A7;obtain⟨p,q⟩:=AFa (w:={w with S:={w.S with AA:=w.S.AA.eraseIdx i}}) (o:=(w.S.AA.getD i default).AM) Hj Af b BI.2.2.2.2.2 IJ ⟨Ie,II⟩
    (fun Bd=>by rw[if_pos Bd]at Ao;show w.S.Aj.length+AEp (w.S.AA.eraseIdx i)+1<=T;omega)
    (fun Bd EM=>by
     rw[if_pos Bd]at Ao;have EM:(12:Int)<=w.S.Aj.length+S2 {w.S with AA:=w.S.AA.eraseIdx i}:=EM;have AK:S2 {w.S with AA:=w.S.AA.eraseIdx i}<=(Er S.Cf).1.Aj.length:=by
      unfold S2;simp only;rw[h.ql];split<;>omega
     exact AEA (by omega))
   exact AEy p q
 · rename_i k;have A7:Xv (w.S.AA.getD i default)=true:=by
    rcases e with e|e
    · exact absurd e.1 k
    · exact e.2
   simp only[Xv,Bool.and_eq_true,Bool.not_eq_true',decide_eq_false_iff_not]at A7;exact AE_ Hj Af b BI A7.1.2
theorem AEO(AEA:(13:Int)<=T+(Er S.Cf).1.Aj.length->Q):∀(n:Nat) {w:Ah},AEq Q T S w->Ce w.S->AEq Q T S (Ah.waits n w)
 |0,_,h,_=>h
 |n+1,w,h,hw=>by
  rw[Ah.waits];split
  · rename_i i e;exact AEO AEA n (AFb h hw (lb e) AEA) (uG hw (lb e)).ws
  · exact h
end
def AEt(S:Bv)(c:Dg):Prop:=12<=S.Aj.length+(Er S.Cf).1.Aj.length+AEp S.AA\/7<=S.AA.length\/4<=S.Bj.length\/(∃d∈S.Bj,d.Ap=c.Ap/\d.As=c.As)\/(∃m∈S.Bz,m.Ap=c.Ap/\m.As=c.As)
theorem AE6{c:Dg}{n:Int}(h:NA c n=true)(AE:c.AM.Ca=6):M1 (QW c)=true:=by
 obtain⟨DP,_,_,_,_,KY,OH,VN⟩:=dA h;have HG:=OH (.inr (.inr AE));obtain⟨AY,qP⟩:=VN AE;obtain⟨SJ,Ug⟩:=YY.1 KY;obtain⟨J5,Kd⟩:=YY.1 AY;have d1:V2 (QW c)=false:=by
  show(!Jj c.Ap c.As||decide (c.AM.B2<1)||decide (c.AM.Al=c.AM.EL)||decide ((0:Int)<0)||decide ((0:Int)>2)||decide ((0:Int)<0)||decide ((0:Int)>2))=false;rw[DP,decide_eq_false (show ¬c.AM.B2<1 by omega),decide_eq_false (show ¬c.AM.Al=c.AM.EL from fun e=>qP e.symm)];rfl
 have d2:ae (QW c)=false:=by
  show(decide ((c.AM.Al.size:Int)<1)||decide ((c.AM.Al.size:Int)>16)||decide ((c.AM.EL.size:Int)<1)||decide ((c.AM.EL.size:Int)>16))=false;rw[decide_eq_false SJ,decide_eq_false Ug,decide_eq_false J5,decide_eq_false Kd];rfl
 rw[M1,if_neg (by rw[d1];decide),if_neg (by rw[d2];decide)];rfl
theorem AFv{l:List Bx}{d:Bx}(AN:Is l=true)(AJ:M1 d=true)(N8:d.DN=0)(OF:d.DO=0)(P1:d.C3=0)(h:¬(Mf l d).2=0):(∃x∈l,x.Ap=d.Ap/\x.As=d.As)\/4<=l.length:=by
 unfold Mf at h;rw[if_neg (by rw[AN];decide),if_neg (by rw[AJ,N8,OF,P1];decide)]at h;split at h
 · rename_i e;refine .inl ?_;cases q:Kt l d.Ap d.As with
   |none=>rw[q]at e;exact absurd e (by decide)
   |some j=>
    have:=(List.find?_range_eq_some.1 q).1;rw[Bool.and_eq_true,decide_eq_true_eq,decide_eq_true_eq]at this;exact⟨_,Hl (Q4 q),this⟩
 · split at h
   · exact .inr (by omega)
   · exact absurd rfl h
theorem AES{l:List BX}{x:BX}:AEp (l++[x])=AEp l+(if x.AM.Ca=5 then 1 else 0):=by
 unfold AEp;rw[List.countP_append,List.countP_singleton];simp only[decide_eq_true_eq]
theorem AE'{S:Bv}{w:Ah}{c:Dg}(hw:Ce w.S)(BO:S.Aj=w.S.Aj/\S.AA=w.S.AA/\S.Bj=w.S.Bj/\S.Bz=w.S.Bz)(h:AEq (AEt S c) (S.Aj.length+AEp S.AA+1) S w)(AE:c.AM.wf)(_:w.EF=[]):AEq (AEt S c) (S.Aj.length+AEp S.AA+1) S (w.op c):=by
 obtain⟨s1,s2,IK,Jy⟩:=BO;have Rd:w.S.Aj.length+AEp w.S.AA+1<=S.Aj.length+AEp S.AA+1:=by rw[s1,s2];exact Nat.le_refl _
 unfold Ah.op;split
 · exact h
 · rename_i AK;have AK:NA c w.nd=true:=(by simpa using AK);obtain⟨DP,EK,FR,Iz,Lv,KY,OH,VN⟩:=dA AK;simp only;split
   · exact h
   · rename_i Af;have Af:=Classical.not_not.1 Af;split
     · rename_i h2;obtain⟨x,y,z⟩:=Aqo Af h2;rw[x];split
       · obtain⟨_,m,k⟩:=zM y;exact AEz h (.inr (.inr (.inr (.inr (.inr ⟨_,by rw[Jy];exact m,k,z⟩)))))
       · exact h
     · split
       · exact AEz h (.inl (.inl (by show ¬(2:Int)=1;decide)))
       · have BC:AEq (AEt S c) (S.Aj.length+AEp S.AA+1) S {w with S:={w.S with Bz:=(IS w.S.Bz c.Ap c.As).1}}:=⟨h.EF,h.AEs,h.out,h.ql⟩;split
         · rename_i Bp;unfold Ah.T5;split
           · rename_i e;refine AEy BC (.inr ?_);simp only[Bool.or_eq_true,Bool.not_eq_true',decide_eq_true_eq,decide_eq_false_iff_not]at e;rcases e with e|e
             · rcases AFv hw.VZ (AE6 AK Bp) rfl rfl rfl e with q|q
               · exact .inr (.inr (.inr (.inl (by rw[IK];exact q))))
               · exact .inr (.inr (.inl (by rw[IK];exact q)))
             · exact .inr (.inl (by rw[s2];omega))
           · simp only;have B4:∀(c q g:Int) (k:ByteArray) (n:Int) (l:List BX),AEp (l++[Li c q g k n])=AEp l:=fun c q g k n l=>by rw[AES];rfl
             split
             · refine⟨h.EF,?_,h.out,h.ql⟩;show w.S.Aj.length+AEp ((w.S.AA++[Li _ _ _ _ _])++[Li _ _ _ _ _])<=_;rw[B4,B4];omega
             · refine⟨h.EF,?_,h.out,h.ql⟩;show w.S.Aj.length+AEp (w.S.AA++[Li _ _ _ _ _])<=_;rw[B4];omega
         · split
           · rename_i BB;simp only[Mu,Bool.and_eq_true,Bool.not_eq_true',Bool.or_eq_false_iff,decide_eq_false_iff_not,decide_eq_true_eq]at BB;obtain⟨⟨⟨AY,_⟩,BI⟩,AFl⟩:=BB;obtain⟨p,q⟩:=AEL hw KY AE (OH (by omega)) AFl;exact AEy (AEx BC hw.Ll (by rw[q];exact p)) (.inl (by show ¬(0:Int)=3;decide))
           · split
             · rename_i C';exact AEy BC (.inr (.inr (.inl (by rw[s2];have C':(w.S.AA.length:Int)>=8:=C';omega))))
             · refine⟨h.EF,?_,h.out,h.ql⟩;show w.S.Aj.length+AEp (w.S.AA++[_])<=_;rw[AES];split<;>omega
theorem AE5{w:Ah}{c:Dg}(h:c.Ca=1):w.cmd c=w.op c:=by simp[Ah.cmd,h]
theorem q4:∀(l:List JE) (v:Ah),(l.foldl Ah.Iv v).EF=v.EF
 |[],_=>rfl
 |x::r,v=>by
  rw[List.foldl_cons,q4 r];unfold Ah.Iv;split
  · rfl
  · split<;>rfl
theorem Ait(w:Ah):w.rest.EF=w.EF:=by
 unfold Ah.rest;simp only;rw[q4]
theorem AFd{S:Bv}{c:Dg}(Ag:VB S)(Bh:LN S=true)(Bm:c.wf)(AE:c.Ca=1)(Af:S.DX<EW):
 (Gc S c (S.DX+1) 5).2.2=0/\(∀e∈(Gc S c (S.DX+1) 5).2.1,AEH e\/AEt S c)/\(Gc S c (S.DX+1) 5).1.Aj.length<=12/\(Gc S c (S.DX+1) 5).1.AA.length<=8/\(Gc S c (S.DX+1) 5).1.Bj.length<=4:=by
 have Bw:=w7 (c:=c) (ix:=S.DX+1) (nd:=5) Bh (by decide) (by decide) (by omega) (by omega);obtain⟨_,MK,Aww,_,_⟩:=w5 Ag Bm Bw;have ws:=((Zc Aww.ac Aww.PZ Aww.O8).1 MK).1;refine⟨Bw,?_,ws.len,ws.wl,(UB.1 ws.VZ).1⟩;obtain⟨BO,_⟩:=(Zc Ag.ac Ag.PZ Ag.O8).1 Bh;have Fx:=BO.ix;obtain⟨Sp,HG⟩:=Fx;unfold Gc;rw[if_neg (by rw[Bh];decide),if_neg (by decide),if_neg (by simp only[Bool.or_eq_true,decide_eq_true_eq];omega)];simp only;rw[Ait];have hw:Ce {S with DX:=S.DX+1}:={BO with ix:=⟨by show 0<=S.DX+1;omega,by show S.DX+1<=EW;omega⟩,own:=⟨BO.own.no,BO.own.yes⟩,acc:=BO.acc,wt:=BO.wt,Hc:=BO.Hc};have A1:=dO (w:={S:={S with DX:=S.DX+1},ix:=S.DX+1,nd:=5,EF:=[],BQ:=[]}) (c:=c) hw Bm (by show(5:Int)<=5;decide);have aE:AEq (AEt S c) (S.Aj.length+AEp S.AA+1) S {S:={S with DX:=S.DX+1},ix:=S.DX+1,nd:=5,EF:=[],BQ:=[]}:=⟨fun e he=>absurd he List.not_mem_nil,Nat.le_succ _,rfl,rfl⟩;have Hj:=AE' (S:=S) (c:=c) (w:={S:={S with DX:=S.DX+1},ix:=S.DX+1,nd:=5,EF:=[],BQ:=[]}) hw ⟨rfl,rfl,rfl,rfl⟩ aE Bm.2.2.2.2.2.2.2.2.2.2.2.1 rfl;rw[<-AE5 AE]at Hj;generalize ({S:={S with DX:=S.DX+1},ix:=S.DX+1,nd:=5,EF:=[],BQ:=[]}:Ah).cmd c=w at A1 Hj;exact(AEO (fun h=>.inl (by omega)) _ Hj A1.ws).EF
end
structure ArZ (M:List BL) (P:List (Int×Int)) (E:List FE):Prop where
 mp:Fg M=true
 B4:∀e∈E,e.Ca=1->∃m∈M,m.Ap=e.Ap/\(e.As<m.As\/e.As=m.As/\m.HV=false/\(m.Cm=e.Cm\/m.Cm.Jd=80))
 DC:∀e∈E,∀f∈E,e.Ca=1->f.Ca=1->e.Ap=f.Ap->e.As=f.As->e.Cm=f.Cm
 Rn:∀p∈P,∃m∈M,m.Ap=p.1/\(p.2<m.As\/p.2=m.As/\(m.HV=true\/m.Cm.Jd=80))
 WY:∀p∈P,∀e∈E,e.Ca=1->¬(e.Ap=p.1/\e.As=p.2)
 nd:P.Nodup
theorem Asa{M:List BL}(h:Fg M=true){a b:BL}(AK:a∈M)(Aq:b∈M)(e:a.Ap=b.Ap):a=b:=lX N1 (Rl.1 h).2 AK Aq e
theorem ArZ.told{M:List BL}{P:List (Int×Int)}{E:List FE}(h:ArZ M P E){m:BL}(hm:m∈M)(A7:m.HV=false)(D2:¬m.Cm.Jd=80):ArZ M P (E++[⟨1,m.Ap,m.As,m.Cm⟩]):=by
 have Afr:∀e∈E,e.Ca=1->e.Ap=m.Ap->e.As=m.As->e.Cm=m.Cm:=fun e he k c q=>by
  obtain⟨n,Ao,Va,B'⟩:=h.B4 e he k;have:n=m:=Asa h.mp Ao hm (Va.trans c);subst this;rcases B' with B'|⟨_,_,B'⟩
  · omega
  · exact(B'.resolve_right D2).symm
 refine⟨h.mp,fun e he k=>?_,fun e he f BI k l c q=>?_,h.Rn,fun p AH e he k=>?_,h.nd⟩
 · rcases List.mem_append.1 he with he|he
   · exact h.B4 e he k
   · rw[List.mem_singleton.1 he];exact⟨m,hm,rfl,.inr ⟨rfl,A7,.inl rfl⟩⟩
 · rcases List.mem_append.1 he with he|he
   · rcases List.mem_append.1 BI with BI|BI
     · exact h.DC e he f BI k l c q
     · rw[List.mem_singleton.1 BI]at c q ⊢;exact Afr e he k c q
   · rw[List.mem_singleton.1 he]at c q ⊢;rcases List.mem_append.1 BI with BI|BI
     · exact(Afr f BI l c.symm q.symm).symm
     · rw[List.mem_singleton.1 BI]
 · rcases List.mem_append.1 he with he|he
   · exact h.WY p AH e he k
   · rw[List.mem_singleton.1 he];rintro⟨c,q⟩;obtain⟨n,Ao,Va,B'⟩:=h.Rn p AH;have:n=m:=Asa h.mp Ao hm (Va.trans c.symm);subst this;have q:n.As=p.2:=q;rcases B' with B'|⟨_,B'|B'⟩
     · omega
     · rw[A7]at B';cases B'
     · exact D2 B'
end Go.Apw
namespace Go.A_
open Go.RowKit
section
section
variable{c:Cj} {ops:Array Oper} {AP:Cj->Array Oper->List Oper->Env->Own->List Atom->Prop} [Dr:Ip AP] {env:Env} {L:Own} {D:List Atom} {rest:List Oper} {d:Nat} {t:TypeId} {p:String} {af:Array Edge} {x y:Operand} {m n:Int}
include Dr
theorem rz{q:IntKind}{ats:Array TypeId}(Ab:AL env x=some (.int q m))(Bf:AL env y=some (.int q n)){r:Int}(Bh:min m n=r)(Ao:Nat.blt d c.n=true)(k:AP c ops rest ((d,.int q r)::env) L D):
 AP c ops (⟨some d,.call {callee:=.builtin .min,args:= #[x,y],argTypes:=ats},t,p,af,none⟩::rest) env L D:=
 pu rfl rfl Ao (fun a w f=>by
  subst Bh;have e:min m n=if n<m then n else m:=(by omega);simp[execOp,resolve,invoke,builtin,f.AL Ab,f.AL Bf,Builtin.min_,Builtin.min2,e]) k
variable{Ec FK:TypeId} {q:IntKind} {r:Int}
theorem AhV(Ab:AL env x=some (.int q m))(Bf:AL env y=some (.int q n))(Bw:n≠0)(Bh:q.wrap (m.tdiv n)=r)(Ao:Nat.blt d c.n=true)(k:AP c ops rest ((d,.int q r)::env) L D):AP c ops (⟨some d,.binOp .quo Ec x y FK,t,p,af,none⟩::rest) env L D:=by subst Bh;exact AhW Ab Bf Bw Ao k
theorem k'(Ab:AL env x=some (.int q m))(Bf:AL env y=some (.int q n))(Bw:n≠0)(Bh:m.tmod n=r)(Ao:Nat.blt d c.n=true)(k:AP c ops rest ((d,.int q r)::env) L D):AP c ops (⟨some d,.binOp .rem Ec x y FK,t,p,af,none⟩::rest) env L D:=by subst Bh;exact Aik Ab Bf Bw Ao k
theorem xc(Ab:AL env x=some (.int q m))(Bf:AL env y=some (.int q n))(Bh:q.wrap (m+n)=r)(Ao:Nat.blt d c.n=true)(k:AP c ops rest ((d,.int q r)::env) L D):AP c ops (⟨some d,.binOp .add Ec x y FK,t,p,af,none⟩::rest) env L D:=by subst Bh;exact Jm Ab Bf Ao k
theorem tM(Ab:AL env x=some (.int q m))(Bf:AL env y=some (.int q n))(Bh:q.wrap (m-n)=r)(Ao:Nat.blt d c.n=true)(k:AP c ops rest ((d,.int q r)::env) L D):AP c ops (⟨some d,.binOp .sub Ec x y FK,t,p,af,none⟩::rest) env L D:=by subst Bh;exact Ajg Ab Bf Ao k
theorem Aev(Ab:AL env x=some (.int q m))(Bh:q.wrap (0-m)=r)(Ao:Nat.blt d c.n=true)(k:AP c ops rest ((d,.int q r)::env) L D):AP c ops (⟨some d,.unOp .neg Ec x,t,p,af,none⟩::rest) env L D:=by subst Bh;exact Aew Ab Ao k
theorem GZ{α:Type}{r:Be α}(i:Nat){l:List Oper}{e:TypeId}{v:Value}{xs:List α}(Ag:L[i]? =some (@row α r e v xs))(k:v.oneCell'=true->AP c ops l env L D):AP c ops l env L D:=
 Dr.fact (fun a w f st AR=>by
  obtain⟨Cy,G8,_⟩:=st.own _ (List.mem_of_getElem? Ag);rcases G8.2 with⟨rfl,_⟩|⟨g,cap,cur,rfl,_⟩<;>rfl) k
end
end
end Go.A_
namespace Go.Apw
theorem BS{b:Bool}:¬IA b=0↔b=false:=by cases b<;>simp[IA]
theorem Aex(n:Int):IntKind.u64.wrap (0-n % 18446744073709551616)=(-n) % 18446744073709551616:=by rw[OE];omega
theorem oV(n:Int)(Bw:0<=n):Cv AG 194 [.int .u64 n] [] (.int .i64 (H' n)):=by
 exact Aw.proof Tryz.func194 G 6 G G fun X w=>AF 1 G<|Ae<|An G G<|rz G G G G<|F0 Tryz.underlying136 Tryz.underlying3 G (Uf BV) G<|U 1 G<|Ac<|rt<|Bq () G G (by rfl) G Aa
theorem mD{v:Int}(Bw:0<=v)(Af:v<18446744073709551616):IntKind.u64.wrap v=v:=by rw[OE];omega
theorem AhX{n p:Int}(Bw:0<=n)(Af:n<18446744073709551616)(AH:1<=p):IntKind.u64.wrap (n.tdiv p)=n / p:=by
 rw[OE,Int.tdiv_eq_ediv_of_nonneg Bw];exact Int.emod_eq_of_lt (Int.ediv_nonneg Bw (by omega)) (Int.lt_of_le_of_lt (Int.ediv_le_self _ Bw) Af)
theorem Ail{n p:Int}(Bw:0<=n):n.tmod p=n % p:=Int.tmod_eq_emod_of_nonneg Bw
theorem Ajz{n p:Int}(Bw:0<=n)(Af:n<18446744073709551616)(AH:1<=p)(Bh:0<n % p):IntKind.u64.wrap (n / p+1)=n / p+1:=by
 rw[OE];have AJ:=Int.mul_ediv_add_emod n p;have h2:=Int.ediv_nonneg Bw (show 0<=p by omega);have Bo:n / p<=p*(n / p):=by
  have:=Int.mul_le_mul_of_nonneg_right AH h2;omega
 exact Int.emod_eq_of_lt (by omega) (by omega)
theorem te(n p i:Int)(Bw:0<=n)(Af:n<18446744073709551616)(Tm:A' p)(Aa8:A' i):Cv AG 195 [.int .u64 n,.int .i64 p,.int .i64 i] [] (.int .u64 (JA n p i)):=by
 refine Aw.proof Tryz.func195 G 35 G G fun X w=>?_;obtain⟨Am',Ana⟩:=id Tm;obtain⟨Am3,Am4⟩:=id Aa8;refine AF 1 G<|Am<|Ae<|U 3 G<|ET 11 3 [] [0,1,2] G G G<|An G G<|ET 15 4 [] [0,1,2] G G G<|Ac<|BN G (fun Fe=>?_) (fun Fe=>?_)
 · exact AF 1 G<|BA<|Bq () G G (by rw[JA,if_pos Fe]) G Aa
 ·
  have Qs:1<=p/\0<=i/\i<p:=by
   have q:=Fe;simp only[Bool.or_eq_false_iff,decide_eq_false_iff_not]at q;omega
  obtain⟨Rn,WY,r3⟩:=Qs;refine AZ<|Am<|Gx mixed (by kernel_rfl)<|U 2 G<|F0 Tryz.underlying3 Tryz.underlying136 G (mD (v:=p) (by omega) (by omega)) G<|AhV G G (by omega) (AhX Bw Af Rn) G<|U 2 G<|F0 Tryz.underlying3 Tryz.underlying136 G (mD (v:=p) (by omega) (by omega)) G<|k' G G (by omega) (Ail Bw) G<|U 2 G<|Gj<|A5<|Am<|Ae<|An G G<|F0 Tryz.underlying3 Tryz.underlying136 G (mD (v:=i) (by omega) (by omega)) G<|U 2 G<|Ac<|B9 G (fun ES=>?_) (fun ES=>?_)
  · exact rg<|An G G<|xc G G (Ajz Bw Af Rn (by omega)) G<|U 1 G<|Ac<|AF 2 G<|rt<|Bq () G G (by rw[JA,if_neg (by rw[Fe];decide),if_pos ES]) G Aa
  · exact AZ<|AF 2 G<|rt<|Bq () G G (by rw[JA,if_neg (by rw[Fe];decide),if_neg ES]) G Aa
theorem sR(a:AD)(Cw:Value)(C6:a.wf):Cv AG 189 [.agg (A3 a Cw).toArray] [⟨Cw,a.A0⟩] (.tuple #[.int .u64 (K4 a),.int .u64 (Jx a)]):=by
 refine Aw.proof Tryz.func189 G 34 G G fun X w=>Ae<|CV G G G fun CY=>U 2 G<|Ac<|Am<|Ae<|BJ 0 (A3 a Cw) G G (At G) G G<|B0 (Ps _ _ C6) (Ar G) G (Ad 0 G Aa) G<|U 2 G<|DE 10 3 [1] G G (fun Dq ZE=>Bl G G G<|BJ 0 (A3 a Cw) G G (At G) G G<|Bl G G G<|B0 (YP _ _ C6) (Ar G) G (Ad 0 G Aa) G<|U 1 G<|ZE G Br)<|Ac<|BN G (fun Dp=>?_) (fun Dp=>?_)
 · exact AF 2 G<|BA<|AQ<|Fl () G G G (by rw[K4,Jx,if_pos Dp,if_pos Dp]) G Aa
 ·
  have HJ:E4 a=true/\G_ a=false:=(by simpa[Bool.or_eq_false_iff]using Dp);have hh:LI a.A0=true:=((P3 C6.2.1).1 HJ.1).hold;exact AZ<|Ae<|BJ 0 (A3 a Cw) G G (At G) G G<|B0 (q6 _ _ C6 (by assumption)) (Ar G) G (Ad 0 G Aa) G<|U 7 G<|Ac<|Am<|Gx mixed (by kernel_rfl)<|An G G<|F0 Tryz.underlying3 Tryz.underlying136 G (OE _) G<|AX 3 [0] G G<|F0 Tryz.underlying3 Tryz.underlying136 G (OE _) G<|tM G G (OE _) G<|AX 3 [0] G G<|F0 Tryz.underlying3 Tryz.underlying136 G (OE _) G<|An G G<|F0 Tryz.underlying3 Tryz.underlying136 G (OE _) G<|tM G G (OE _) G<|U 2 G<|Gj<|A5<|rt<|AQ<|Fl () G G G (by rw[K4,Jx,if_neg (by rw[Dp];decide),if_neg (by rw[Dp];decide)]) G Aa
theorem ma(a:AD)(Cw:Value)(C6:a.wf):Cv AG 173 [.agg (A3 a Cw).toArray] [⟨Cw,a.A0⟩] (.tuple #[.int .i64 (Io a).1,.bool (Io a).2]):=by
 refine Aw.proof Tryz.func173 G 19 G G fun X w=>Ae<|CV G G G fun CY=>U 2 G<|Ac<|Am<|Ae<|BJ 0 (A3 a Cw) G G (At G) G G<|B0 (Ps _ _ C6) (Ar G) G (Ad 0 G Aa) G<|U 2 G<|DE 7 3 [1] G G (fun GY ZC=>Bl G G G<|BJ 0 (A3 a Cw) G G (At G) G G<|Bl G G G<|B0 (YP _ _ C6) (Ar G) G (Ad 0 G Aa) G<|U 1 G<|ZC G Br)<|An G G<|DE 11 5 [1] G G (fun Ct ZG=>AX 2 [0] G G<|Bl G G G<|C2 0 G G Tryz.underlying69 G fun qS=>U 2 G<|ZG G Br)<|Ac<|BN G (fun CR=>?_) (fun CR=>?_)
 · exact AF 2 G<|BA<|AQ<|Fl () G G G (by rw[Io,if_pos CR]) G Aa
 · exact AZ<|I5 4 [0] G G<|rt<|AQ<|Fl () G G G (by rw[Io,if_neg (by rw[CR];decide)]) G Aa
theorem rA(v n:Int)(ja:A' v)(MB:A' n)(Bw:0<=v)(Af:0<=n):Cv AG 193 [.int .i64 v,.int .i64 n] [] (.int .i64 (Iw v n)):=by
 refine Aw.proof Tryz.func193 G 11 G G fun X w=>?_;obtain⟨Abf,Abg⟩:=id ja;obtain⟨Yk,Yl⟩:=id MB;exact AF 1 G<|Ae<|U 3 G<|TU G G BV G<|rz G G G G<|C5 G G BV G<|U 1 G<|Ac<|rt<|Bq () G G (by rfl) G Aa
theorem qQ(a:AD)(Cw:Value)(C6:a.wf):Cv AG 254 [.agg (A3 a Cw).toArray] [⟨Cw,a.A0⟩] (.int .i64 (LJ a)):=by
 refine Aw.proof Tryz.func254 G 15 G G fun X w=>Ae<|CV G G G fun CY=>U 1 G<|Ac<|Am<|Ae<|BJ 0 (A3 a Cw) G G (At G) G G<|B0 (Ps _ _ C6) (Ar G) G (Ad 0 G Aa) G<|IH G G<|Ac<|BN G (fun GY=>?_) (fun GY=>?_)
 ·
  have Y8:E4 a=false:=(by simpa using GY);exact AF 1 G<|BA<|AQ<|Bq () G G (by rw[LJ,if_pos Y8]) G Aa
 ·
  have Y8:¬E4 a=false:=(by simpa using GY);refine AZ<|Am<|Ae<|BJ 0 (A3 a Cw) G G (At G) G G<|B0 (ma _ _ C6) (Ar G) G (Ad 0 G Aa) G<|U 5 G<|Ac<|AF 2 G<|BN G (fun Fm=>?_) (fun Fm=>?_)
  ·
   have MI:(Io a).2=false:=(by simpa using Fm);exact AF 1 G<|BA<|AQ<|Bq () G G (by rw[LJ,if_neg Y8,if_pos MI]) G Aa
  ·
   have MI:¬(Io a).2=false:=(by simpa using Fm);exact AZ<|AF 1 G<|rt<|AQ<|Bq () G G (by rw[LJ,if_neg Y8,if_neg MI]) G Aa
theorem nZ(Bk:Value)(l:List BD)(hlen:l.length<=100000):Aw AG 130 [Bk] [] [⟨Bk,l⟩] (fun(_:Unit) _=>True) (fun _ v=>[@row BD Mj 83 v l]) (fun _ _=>[]):=by
 refine Aw.proof Tryz.func130 G 8 G G fun X w=>AF 1 G<|Am<|Ae<|An G G<|RT 0 Tryz.underlying69 G G G G fun PM J'=>Ac<|BN G (fun BB=>?_) (fun BB=>?_)
 ·
  have Ab:l=[]:=J' BB;subst Ab;exact Lk BD 83<|AF 1 G<|BA<|Bq () G G trivial G Aa
 · exact AZ<|Ae<|NB S1 G fun E'=>Nm (α:=BD) [] [] G G (fun _ _ _=>trivial) G<|An G G<|ap 0 0 G G G G S1 (by simp only[List.length_nil];omega) (by simp only[List.length_nil];omega) G fun EZ=>U 1 G<|Ac<|rt<|Bq () G G trivial G Aa
theorem Uy(a:AD)(Cw:Value)(_:a.wf)(Aq:a.A0.length<=100000):Aw AG 187 [.agg (A3 a Cw).toArray] [] [⟨Cw,a.A0⟩] (fun(y:Value) u=>u=.agg (A3 a y).toArray) (fun y _=>[@row BD Mj 83 y a.A0]) (fun _ _=>[]):=by
 refine Aw.proof Tryz.func187 G 8 G G fun X w=>Ae<|CV G G G fun CY=>CT Hd G fun Dh=>Ac<|Ae<|AX 2 [1] G G<|Dm (nZ _ _ Aq) (Ar G) G (Ad 0 G Aa) G fun _ Mp _=>U 1 G<|IL 2 0 G G G G (A2 G) (Da G)<|Ac<|Ae<|BJ 2 (A3 ((⟨a.Al,(⟨a.Cs.A6,a.Cs.Bc⟩:GC),a.BT,a.Cn,a.A0,(⟨a.BG.Ap,a.BG.As,a.BG.DH,a.BG.B2⟩:F_)⟩:AD)) Mp) G G (At G) G G<|GZ 0 G fun WV=>?_;exact BZ 1 (us:=(A3 ((⟨a.Al,(⟨a.Cs.A6,a.Cs.Bc⟩:GC),a.BT,a.Cn,a.A0,(⟨a.BG.Ap,a.BG.As,a.BG.DH,a.BG.B2⟩:F_)⟩:AD)) Mp)) G G G (At G) (by simp only[List.all_cons,List.all_nil,Bool.and_true,WV];rfl) G<|Ac<|rt<|Au 2 G<|Au 2 G<|D8 Mp [_,_] (Qv 0 G G G (At G)) (by rfl) G Aa
variable(a:AD) (Cw:Value)
theorem Ada{a:AD}(h:LJ a=0):E4 a=true:=by
 unfold LJ at h;split at h
 · exact absurd h (by decide)
 ·
  rename_i q;simpa using q
theorem m'(n:Int)(Z:AD×Int)(AW:JF a n=Z)(C6:a.wf)(MB:A' n):Aw AG 176 [.agg (A3 a Cw).toArray,.int .i64 n] [] [⟨Cw,a.A0⟩] (fun(y:Value) u=>u=.tuple #[.agg (A3 Z.1 y).toArray,.int .i64 Z.2]) (fun _ _=>[]) (fun y _=>[⟨y,Z.1.A0⟩]):=by
 refine Aw.proof Tryz.func176 G 54 G G fun X w=>?_;obtain⟨Yk,Yl⟩:=id MB;refine DJ (α:=BD) ?_;refine HP (q:=∀x∈a.A0,x.wf) (fun S w h=>O7 (s:=MN) (h _ (List.mem_of_getElem? (i:=1) G))) fun F5=>?_;have hw:D3 a:=⟨C6,F5⟩;refine Ae<|CV G G G fun Dh=>CT Hd G fun En=>U 1 G<|Ac<|Am<|B5<|Ae<|BJ 1 (A3 a Cw) G G (At G) G G<|B0 (Ps _ _ C6) (Ar G) G (Ad 1 G Aa) G<|IH G G<|U 1 G<|Ac<|BN G (fun D2=>?_) (fun D2=>?_)
 ·
  have HZ:E4 a=false:=(by first|exact D2|exact BS.1 D2|exact(fun q=>BS.2 q D2)|exact(fun q=>Bool.false_ne_true (D2.symm.trans q))|simpa using D2)
  have AB:((Fj,21):AD×Int)=Z:=(by rw[<-AW,JF,if_pos HZ]);subst AB;exact Ae<|Db (ps:=[]) (cs:=(A3 FX AI)) (by rfl) (by kernel_rfl) G<|BZ 0 (us:=(A3 FX AI)) G G G (At G) G G<|U 1 G<|Ac<|rt<|C9<|Cd<|D8 AI [_,_] (Fp 0 G G G G (At G)) (by rfl) G (Ad 0 G Aa)
 ·
  have HZ:¬(E4 a=false):=(by first|exact D2|exact BS.1 D2|exact(fun q=>BS.2 q D2)|exact(fun q=>Bool.false_ne_true (D2.symm.trans q))|simpa using D2)
  refine AF 3 G<|B9 G (fun Dp=>?_) (fun Dp=>?_)
  ·
   have HJ:n=0:=(by first|exact Dp|exact BS.1 Dp|exact(fun q=>BS.2 q Dp)|exact(fun q=>Bool.false_ne_true (Dp.symm.trans q))|simpa using Dp)
   have AB:((Fj,1):AD×Int)=Z:=(by rw[<-AW,JF,if_neg HZ,if_pos HJ]);subst AB;exact Ae<|Db (ps:=[]) (cs:=(A3 FX AI)) (by rfl) (by kernel_rfl) G<|BZ 0 (us:=(A3 FX AI)) G G G (At G) G G<|U 1 G<|Ac<|rt<|C9<|Cd<|D8 AI [_,_] (Fp 0 G G G G (At G)) (by rfl) G (Ad 0 G Aa)
  ·
   have HJ:¬(n=0):=(by first|exact Dp|exact BS.1 Dp|exact(fun q=>BS.2 q Dp)|exact(fun q=>Bool.false_ne_true (Dp.symm.trans q))|simpa using Dp)
   refine Ae<|BJ 1 (A3 a Cw) G G (At G) G G<|B0 (YP _ _ C6) (Ar G) G (Ad 1 G Aa) G<|U 1 G<|Ac<|BN G (fun DA=>?_) (fun DA=>?_)
   ·
    have O_:G_ a=true:=(by first|exact DA|exact BS.1 DA|exact(fun q=>BS.2 q DA)|exact(fun q=>Bool.false_ne_true (DA.symm.trans q))|simpa using DA)
    have AB:((Fj,152):AD×Int)=Z:=(by rw[<-AW,JF,if_neg HZ,if_neg HJ,if_pos O_]);subst AB;exact Ae<|Db (ps:=[]) (cs:=(A3 FX AI)) (by rfl) (by kernel_rfl) G<|BZ 0 (us:=(A3 FX AI)) G G G (At G) G G<|U 1 G<|Ac<|rt<|C9<|Cd<|D8 AI [_,_] (Fp 0 G G G G (At G)) (by rfl) G (Ad 0 G Aa)
   ·
    have O_:¬(G_ a=true):=(by first|exact DA|exact BS.1 DA|exact(fun q=>BS.2 q DA)|exact(fun q=>Bool.false_ne_true (DA.symm.trans q))|simpa using DA)
    refine EG<|CU<|A5<|Ae<|BJ 1 (A3 a Cw) G G (At G) G G<|B0 (sR _ _ C6) (Ar G) G (Ad 1 G Aa) G<|U 5 G<|Ac<|Am<|Ae<|U 3 G ?_;refine D4 28 5 [1,2,4,6] G G (fun R2 g0=>by
     have Aoa:=of_decide_eq_true R2;exact U 1 G<|Bl G G G<|F0 Tryz.underlying3 Tryz.underlying136 G (OE _) G<|U 3 G<|g0 G Br) ?_
    refine An G G ?_;refine DE 34 10 [1,2,4] G G (fun FN ZM=>by
     refine U 3 G ?_;refine D4 37 6 [1,2,4,34] G G (fun M5 ZL=>by
      have r5:=of_decide_eq_true M5;exact U 1 G<|Bl G G G<|F0 Tryz.underlying3 Tryz.underlying136 G (OE _) G<|Bl G G G<|Aev G (Aex n) G<|U 3 G<|ZL G Br) ?_
     exact U 1 G<|ZM G Br) ?_
    refine Ac<|BN G (fun Q_=>?_) (fun Q_=>?_)
    ·
     have Y7:dw a n=true:=(by first|exact Q_|exact BS.1 Q_|exact(fun q=>BS.2 q Q_)|exact(fun q=>Bool.false_ne_true (Q_.symm.trans q))|simpa using Q_)
     have AB:((Fj,150):AD×Int)=Z:=(by rw[<-AW,JF,if_neg HZ,if_neg HJ,if_neg O_,if_pos Y7]);subst AB;exact Ae<|Db (ps:=[]) (cs:=(A3 FX AI)) (by rfl) (by kernel_rfl) G<|BZ 0 (us:=(A3 FX AI)) G G G (At G) G G<|U 1 G<|Ac<|BA<|D8 AI [_,_] (Fp 0 G G G G (At G)) (by rfl) G (Ad 0 G Aa)
    ·
     have Y7:¬(dw a n=true):=(by first|exact Q_|exact BS.1 Q_|exact(fun q=>BS.2 q Q_)|exact(fun q=>Bool.false_ne_true (Q_.symm.trans q))|simpa using Q_)
     have AB:(({a with BT:=a.BT+n},0):AD×Int)=Z:=(by rw[<-AW,JF,if_neg HZ,if_neg HJ,if_neg O_,if_neg Y7]);subst AB;have Kp:A' (a.BT+n):=by
      have q:=(ZU hw MB (by rw[AW])).2.2.2.2.wf.2.2.1;rw[AW]at q;exact q
     refine AZ<|Ae<|BJ 1 (A3 a Cw) G G (At G) G G<|Dm (Uy _ _ C6 (Nat.le_trans (S0 (by simpa using HZ)) (by decide))) (Ar G) G (Ad 1 G Aa) G fun Uk AkH Wg=>?_;subst Wg;refine JO ?_;refine Cp 0 G fun bR=>?_;refine BZ 1 (us:=(A3 a Uk)) G G G (At G) (by simp only[List.all_cons,List.all_nil,Bool.and_true,bR];rfl) G<|Ac<|Ae<|AX 3 [1] G G<|C5 G G Kp G<|U 1 G<|Fi 1 G G G (A2 G) G (Da G)<|Ac<|Ae<|BJ 1 (A3 ((⟨a.Al,(⟨a.Cs.A6,a.Cs.Bc⟩:GC),(a.BT+n),a.Cn,a.A0,(⟨a.BG.Ap,a.BG.As,a.BG.DH,a.BG.B2⟩:F_)⟩:AD)) Uk) G G (At G) G G<|Cp 0 G fun bR=>?_;exact BZ 0 (us:=(A3 ((⟨a.Al,(⟨a.Cs.A6,a.Cs.Bc⟩:GC),(a.BT+n),a.Cn,a.A0,(⟨a.BG.Ap,a.BG.As,a.BG.DH,a.BG.B2⟩:F_)⟩:AD)) Uk)) G G G (At G) (by simp only[List.all_cons,List.all_nil,Bool.and_true,bR];rfl) G<|U 1 G<|Ac<|rt<|D8 Uk [_,_] (Fp 0 G G G G (At G)) (by rfl) G (Ad 0 G Aa)
theorem zZ(r:Int)(Z:AD×Int)(AW:Mx a r=Z)(C6:a.wf)(i':A' r):Aw AG 97 [.agg (A3 a Cw).toArray,.int .i64 r] [] [⟨Cw,a.A0⟩] (fun(y:Value) u=>u=.tuple #[.agg (A3 Z.1 y).toArray,.int .i64 Z.2]) (fun _ _=>[]) (fun y _=>[⟨y,Z.1.A0⟩]):=by
 refine Aw.proof Tryz.func97 G 25 G G fun X w=>?_;obtain⟨Abc,Abd⟩:=id i';refine DJ (α:=BD) ?_;refine HP (q:=∀x∈a.A0,x.wf) (fun S w h=>O7 (s:=MN) (h _ (List.mem_of_getElem? (i:=1) G))) fun F5=>?_;have hw:D3 a:=⟨C6,F5⟩;refine Ae<|CV G G G fun Dh=>CT Hd G fun En=>U 1 G<|Ac<|Am<|Ae<|BJ 1 (A3 a Cw) G G (At G) G G<|B0 (Ps _ _ C6) (Ar G) G (Ad 1 G Aa) G<|IH G G<|Ac<|BN G (fun D2=>?_) (fun D2=>?_)
 ·
  have HZ:E4 a=false:=(by first|exact D2|exact BS.1 D2|exact(fun q=>BS.2 q D2)|exact(fun q=>Bool.false_ne_true (D2.symm.trans q))|simpa using D2)
  have AB:((Fj,21):AD×Int)=Z:=(by rw[<-AW,Mx,if_pos HZ]);subst AB;exact Ae<|Db (ps:=[]) (cs:=(A3 FX AI)) (by rfl) (by kernel_rfl) G<|BZ 0 (us:=(A3 FX AI)) G G G (At G) G G<|U 1 G<|Ac<|BA<|D8 AI [_,_] (Fp 0 G G G G (At G)) (by rfl) G (Ad 0 G Aa)
 ·
  have HZ:¬(E4 a=false):=(by first|exact D2|exact BS.1 D2|exact(fun q=>BS.2 q D2)|exact(fun q=>Bool.false_ne_true (D2.symm.trans q))|simpa using D2)
  refine AZ<|Am<|Ae<|U 3 G<|ET 12 3 [] [1,2,4] G G G<|Ac<|BN G (fun Ft=>?_) (fun Ft=>?_)
  ·
   have KR:(decide (r<1)||decide (r>EW))=true:=(by first|exact Ft|exact BS.1 Ft|exact(fun q=>BS.2 q Ft)|exact(fun q=>Bool.false_ne_true (Ft.symm.trans q))|simpa using Ft)
   have AB:((Fj,1):AD×Int)=Z:=(by rw[<-AW,Mx,if_neg HZ,if_pos KR]);subst AB;exact Ae<|Db (ps:=[]) (cs:=(A3 FX AI)) (by rfl) (by kernel_rfl) G<|BZ 0 (us:=(A3 FX AI)) G G G (At G) G G<|U 1 G<|Ac<|BA<|D8 AI [_,_] (Fp 0 G G G G (At G)) (by rfl) G (Ad 0 G Aa)
  ·
   have KR:¬((decide (r<1)||decide (r>EW))=true):=(by first|exact Ft|exact BS.1 Ft|exact(fun q=>BS.2 q Ft)|exact(fun q=>Bool.false_ne_true (Ft.symm.trans q))|simpa using Ft)
   refine AZ<|Ae<|BJ 1 (A3 a Cw) G G (At G) G G<|Dm (Uy _ _ C6 (Nat.le_trans (S0 (by simpa using HZ)) (by decide))) (Ar G) G (Ad 1 G Aa) G fun Uj Zq ER=>?_;subst ER;refine JO ?_;refine Cp 0 G fun bO=>?_;refine BZ 1 (us:=(A3 a Uj)) G G G (At G) (by simp only[List.all_cons,List.all_nil,Bool.and_true,bO];rfl) G<|Ac<|Am<|I5 3 [1] G G<|B9 G (fun E1=>?_) (fun E1=>?_)
   ·
    have Y6:a.Cn=0:=(by first|exact E1|exact BS.1 E1|exact(fun q=>BS.2 q E1)|exact(fun q=>Bool.false_ne_true (E1.symm.trans q))|simpa using E1)
    have AB:(({a with Cn:=r},0):AD×Int)=Z:=(by rw[<-AW,Mx,if_neg HZ,if_neg KR,if_pos Y6]);subst AB;refine rg<|U 2 G<|Fi 1 G G G (A2 G) G (Da G)<|Ac<|Ae<|BJ 1 (A3 ((⟨a.Al,(⟨a.Cs.A6,a.Cs.Bc⟩:GC),a.BT,r,a.A0,(⟨a.BG.Ap,a.BG.As,a.BG.DH,a.BG.B2⟩:F_)⟩:AD)) Uj) G G (At G) G G<|Cp 0 G fun bO=>?_;exact BZ 0 (us:=(A3 ((⟨a.Al,(⟨a.Cs.A6,a.Cs.Bc⟩:GC),a.BT,r,a.A0,(⟨a.BG.Ap,a.BG.As,a.BG.DH,a.BG.B2⟩:F_)⟩:AD)) Uj)) G G G (At G) (by simp only[List.all_cons,List.all_nil,Bool.and_true,bO];rfl) G<|U 1 G<|Ac<|rt<|D8 Uj [_,_] (Fp 0 G G G G (At G)) (by rfl) G (Ad 0 G Aa)
   ·
    have Y6:¬(a.Cn=0):=(by first|exact E1|exact BS.1 E1|exact(fun q=>BS.2 q E1)|exact(fun q=>Bool.false_ne_true (E1.symm.trans q))|simpa using E1)
    have AB:((a,0):AD×Int)=Z:=(by rw[<-AW,Mx,if_neg HZ,if_neg KR,if_neg Y6]);subst AB;refine AZ<|Ae<|BJ 1 (A3 a Uj) G G (At G) G G<|Cp 0 G fun bO=>?_;exact BZ 0 (us:=(A3 a Uj)) G G G (At G) (by simp only[List.all_cons,List.all_nil,Bool.and_true,bO];rfl) G<|U 1 G<|Ac<|rt<|D8 Uj [_,_] (Fp 0 G G G G (At G)) (by rfl) G (Ad 0 G Aa)
theorem Akf(Z:AD×Int)(AW:OA a=Z)(C6:a.wf):Aw AG 98 [.agg (A3 a Cw).toArray] [] [⟨Cw,a.A0⟩] (fun(y:Value) u=>u=.tuple #[.agg (A3 Z.1 y).toArray,.int .i64 Z.2]) (fun _ _=>[]) (fun y _=>[⟨y,Z.1.A0⟩]):=by
 refine Aw.proof Tryz.func98 G 12 G G fun X w=>DJ (α:=BD) ?_;refine HP (q:=∀x∈a.A0,x.wf) (fun S w h=>O7 (s:=MN) (h _ (List.mem_of_getElem? (i:=1) G))) fun F5=>?_;have hw:D3 a:=⟨C6,F5⟩;refine Ae<|CV G G G fun CY=>CT Hd G fun Dh=>U 1 G<|Ac<|Am<|Ae<|BJ 1 (A3 a Cw) G G (At G) G G<|B0 (Ps _ _ C6) (Ar G) G (Ad 1 G Aa) G<|IH G G<|Ac<|BN G (fun F4=>?_) (fun F4=>?_)
 ·
  have Mi:E4 a=false:=(by first|exact F4|exact BS.1 F4|exact(fun q=>BS.2 q F4)|exact(fun q=>Bool.false_ne_true (F4.symm.trans q))|simpa using F4)
  have AB:((Fj,21):AD×Int)=Z:=(by rw[<-AW,OA,if_pos Mi]);subst AB;exact Ae<|Db (ps:=[]) (cs:=(A3 FX AI)) (by rfl) (by kernel_rfl) G<|BZ 0 (us:=(A3 FX AI)) G G G (At G) G G<|U 1 G<|Ac<|BA<|D8 AI [_,_] (Fp 0 G G G G (At G)) (by rfl) G (Ad 0 G Aa)
 ·
  have Mi:¬(E4 a=false):=(by first|exact F4|exact BS.1 F4|exact(fun q=>BS.2 q F4)|exact(fun q=>Bool.false_ne_true (F4.symm.trans q))|simpa using F4)
  have AB:(({a with Cn:=0},0):AD×Int)=Z:=(by rw[<-AW,OA,if_neg Mi]);subst AB;refine AZ<|Ae<|BJ 1 (A3 a Cw) G G (At G) G G<|Dm (Uy _ _ C6 (Nat.le_trans (S0 (by simpa using Mi)) (by decide))) (Ar G) G (Ad 1 G Aa) G fun XD Nr EO=>?_;subst EO;refine JO ?_;refine Cp 0 G fun kv=>?_;refine BZ 1 (us:=(A3 a XD)) G G G (At G) (by simp only[List.all_cons,List.all_nil,Bool.and_true,kv];rfl) G<|Ac<|Ae<|U 1 G<|Fi 1 G G G (A2 G) G (Da G)<|Ac<|Ae<|BJ 1 (A3 ((⟨a.Al,(⟨a.Cs.A6,a.Cs.Bc⟩:GC),a.BT,0,a.A0,(⟨a.BG.Ap,a.BG.As,a.BG.DH,a.BG.B2⟩:F_)⟩:AD)) XD) G G (At G) G G<|Cp 0 G fun kv=>?_;exact BZ 0 (us:=(A3 ((⟨a.Al,(⟨a.Cs.A6,a.Cs.Bc⟩:GC),a.BT,0,a.A0,(⟨a.BG.Ap,a.BG.As,a.BG.DH,a.BG.B2⟩:F_)⟩:AD)) XD)) G G G (At G) (by simp only[List.all_cons,List.all_nil,Bool.and_true,kv];rfl) G<|U 1 G<|Ac<|rt<|D8 XD [_,_] (Fp 0 G G G G (At G)) (by rfl) G (Ad 0 G Aa)
theorem xx(s:GC)(Z:AD×Int)(AW:Pu a s=Z)(C6:a.wf)(J8:s.wf):Aw AG 175 [.agg (A3 a Cw).toArray,.agg (Od s).toArray] [] [⟨Cw,a.A0⟩] (fun(y:Value) u=>u=.tuple #[.agg (A3 Z.1 y).toArray,.int .i64 Z.2]) (fun _ _=>[]) (fun y _=>[⟨y,Z.1.A0⟩]):=by
 refine Aw.proof Tryz.func175 G 24 G G fun X w=>DJ (α:=BD) ?_;refine HP (q:=∀x∈a.A0,x.wf) (fun S w h=>O7 (s:=MN) (h _ (List.mem_of_getElem? (i:=1) G))) fun F5=>?_;have hw:D3 a:=⟨C6,F5⟩;refine Ae<|CV G G G fun Dh=>CV G G G fun DQ=>CT Hd G fun En=>U 1 G<|Ac<|Am<|Ae<|BJ 2 (A3 a Cw) G G (At G) G G<|B0 (qQ _ _ C6) (Ar G) G (Ad 1 G Aa) G<|U 1 G<|Ac<|AF 2 G<|Fa G (fun Dq=>?_) (fun Dq=>?_)
 ·
  have Ni:¬LJ a=0:=(by first|exact Dq|exact BS.1 Dq|exact(fun q=>BS.2 q Dq)|exact(fun q=>Bool.false_ne_true (Dq.symm.trans q))|simpa using Dq)
  have AB:((Fj,LJ a):AD×Int)=Z:=(by rw[<-AW,Pu,if_pos Ni]);subst AB;exact Ae<|Db (ps:=[]) (cs:=(A3 FX AI)) (by rfl) (by kernel_rfl) G<|An G G<|BZ 0 (us:=(A3 FX AI)) G G G (At G) G G<|U 1 G<|Ac<|BA<|D8 AI [_,_,_] (Fp 0 G G G G (At G)) (by rfl) G (Ad 0 G Aa)
 ·
  have Ni:¬(¬LJ a=0):=(by first|exact Dq|exact BS.1 Dq|exact(fun q=>BS.2 q Dq)|exact(fun q=>Bool.false_ne_true (Dq.symm.trans q))|simpa using Dq)
  refine AZ<|Am<|Ae<|BJ 1 (Od s) G G (At G) G G<|AX 2 [2] G G<|B0 (jd _ _ J8 C6.2.2.1) (Ar G) G Aa G<|IH G G<|Ac<|BN G (fun DA=>?_) (fun DA=>?_)
  ·
   have O_:Rb s a.BT=false:=(by first|exact DA|exact BS.1 DA|exact(fun q=>BS.2 q DA)|exact(fun q=>Bool.false_ne_true (DA.symm.trans q))|simpa using DA)
   have AB:((Fj,150):AD×Int)=Z:=(by rw[<-AW,Pu,if_neg Ni,if_pos O_]);subst AB;exact Ae<|Db (ps:=[]) (cs:=(A3 FX AI)) (by rfl) (by kernel_rfl) G<|BZ 0 (us:=(A3 FX AI)) G G G (At G) G G<|U 1 G<|Ac<|BA<|D8 AI [_,_,_] (Fp 0 G G G G (At G)) (by rfl) G (Ad 0 G Aa)
  ·
   have O_:¬(Rb s a.BT=false):=(by first|exact DA|exact BS.1 DA|exact(fun q=>BS.2 q DA)|exact(fun q=>Bool.false_ne_true (DA.symm.trans q))|simpa using DA)
   have AB:(({a with Cs:=s},0):AD×Int)=Z:=(by rw[<-AW,Pu,if_neg Ni,if_neg O_]);subst AB;refine AZ<|Ae<|BJ 2 (A3 a Cw) G G (At G) G G<|Dm (Uy _ _ C6 (Nat.le_trans (S0 (by have q:=Ni;simp only[Classical.not_not]at q;exact(Ada q))) (by decide))) (Ar G) G (Ad 1 G Aa) G fun gO v20 HQ=>?_;subst HQ;refine JO ?_;refine Cp 0 G fun kt=>?_;refine BZ 2 (us:=(A3 a gO)) G G G (At G) (by simp only[List.all_cons,List.all_nil,Bool.and_true,kt];rfl) G<|Ac<|Ae<|BJ 1 (Od s) G G (At G) G G<|U 1 G<|stM 2 (us:=(Od s)) G G G (At G) G (Nat.le_of_ble_eq_true G)<|Ac<|Ae<|BJ 2 (A3 ((⟨a.Al,s,a.BT,a.Cn,a.A0,(⟨a.BG.Ap,a.BG.As,a.BG.DH,a.BG.B2⟩:F_)⟩:AD)) gO) G G (At G) G G<|Cp 0 G fun kt=>?_;exact BZ 0 (us:=(A3 ((⟨a.Al,s,a.BT,a.Cn,a.A0,(⟨a.BG.Ap,a.BG.As,a.BG.DH,a.BG.B2⟩:F_)⟩:AD)) gO)) G G G (At G) (by simp only[List.all_cons,List.all_nil,Bool.and_true,kt];rfl) G<|U 1 G<|Ac<|rt<|D8 gO [_,_,_] (Fp 0 G G G G (At G)) (by rfl) G (Ad 0 G Aa)
theorem Aj5(l:F_)(Z:AD×Int)(AW:KA a l=Z)(C6:a.wf)(i_:l.wf):Aw AG 178 [.agg (A3 a Cw).toArray,.agg (Lx l).toArray] [] [⟨Cw,a.A0⟩] (fun(y:Value) u=>u=.tuple #[.agg (A3 Z.1 y).toArray,.int .i64 Z.2]) (fun _ _=>[]) (fun y _=>[⟨y,Z.1.A0⟩]):=by
 refine Aw.proof Tryz.func178 G 31 G G fun X w=>DJ (α:=BD) ?_;refine HP (q:=∀x∈a.A0,x.wf) (fun S w h=>O7 (s:=MN) (h _ (List.mem_of_getElem? (i:=1) G))) fun F5=>?_;have hw:D3 a:=⟨C6,F5⟩;refine Ae<|CV G G G fun Dh=>CV G G G fun DQ=>CT Hd G fun En=>U 1 G<|Ac<|Am<|Ae<|BJ 2 (A3 a Cw) G G (At G) G G<|B0 (Ps _ _ C6) (Ar G) G (Ad 1 G Aa) G<|IH G G<|Ac<|BN G (fun EO=>?_) (fun EO=>?_)
 ·
  have W6:E4 a=false:=(by first|exact EO|exact BS.1 EO|exact(fun q=>BS.2 q EO)|exact(fun q=>Bool.false_ne_true (EO.symm.trans q))|simpa using EO)
  have AB:((Fj,21):AD×Int)=Z:=(by rw[<-AW,KA,if_pos W6]);subst AB;exact Ae<|Db (ps:=[]) (cs:=(A3 FX AI)) (by rfl) (by kernel_rfl) G<|BZ 0 (us:=(A3 FX AI)) G G G (At G) G G<|U 1 G<|Ac<|BA<|D8 AI [_,_,_] (Fp 0 G G G G (At G)) (by rfl) G (Ad 0 G Aa)
 ·
  have W6:¬(E4 a=false):=(by first|exact EO|exact BS.1 EO|exact(fun q=>BS.2 q EO)|exact(fun q=>Bool.false_ne_true (EO.symm.trans q))|simpa using EO)
  refine AZ<|Am<|Ae<|BJ 1 (Lx l) G G (At G) G G<|B0 (qO _ i_) (Ar G) G Aa G<|IH G G<|Ac<|BN G (fun Dp=>?_) (fun Dp=>?_)
  ·
   have HJ:Sk l=false:=(by first|exact Dp|exact BS.1 Dp|exact(fun q=>BS.2 q Dp)|exact(fun q=>Bool.false_ne_true (Dp.symm.trans q))|simpa using Dp)
   have AB:((Fj,1):AD×Int)=Z:=(by rw[<-AW,KA,if_neg W6,if_pos HJ]);subst AB;exact Ae<|Db (ps:=[]) (cs:=(A3 FX AI)) (by rfl) (by kernel_rfl) G<|BZ 0 (us:=(A3 FX AI)) G G G (At G) G G<|U 1 G<|Ac<|BA<|D8 AI [_,_,_] (Fp 0 G G G G (At G)) (by rfl) G (Ad 0 G Aa)
  ·
   have HJ:¬(Sk l=false):=(by first|exact Dp|exact BS.1 Dp|exact(fun q=>BS.2 q Dp)|exact(fun q=>Bool.false_ne_true (Dp.symm.trans q))|simpa using Dp)
   refine AZ<|Am<|Ae<|BJ 2 (A3 a Cw) G G (At G) G G<|B0 (qQ _ _ C6) (Ar G) G (Ad 1 G Aa) G<|U 1 G<|Ac<|AF 2 G<|Fa G (fun ER=>?_) (fun ER=>?_)
   ·
    have Nj:¬LJ a=0:=(by first|exact ER|exact BS.1 ER|exact(fun q=>BS.2 q ER)|exact(fun q=>Bool.false_ne_true (ER.symm.trans q))|simpa using ER)
    have AB:((Fj,LJ a):AD×Int)=Z:=(by rw[<-AW,KA,if_neg W6,if_neg HJ,if_pos Nj]);subst AB;exact Ae<|Db (ps:=[]) (cs:=(A3 FX AI)) (by rfl) (by kernel_rfl) G<|An G G<|BZ 0 (us:=(A3 FX AI)) G G G (At G) G G<|U 1 G<|Ac<|BA<|D8 AI [_,_,_] (Fp 0 G G G G (At G)) (by rfl) G (Ad 0 G Aa)
   ·
    have Nj:¬(¬LJ a=0):=(by first|exact ER|exact BS.1 ER|exact(fun q=>BS.2 q ER)|exact(fun q=>Bool.false_ne_true (ER.symm.trans q))|simpa using ER)
    refine AZ<|Am<|Ae<|BJ 2 (A3 a Cw) G G (At G) G G<|BJ 1 (Lx l) G G (At G) G G<|B0 (oX _ _ _ C6 i_) (Ar G) G (Ad 1 G Aa) G<|IH G G<|Ac<|BN G (fun F3=>?_) (fun F3=>?_)
    ·
     have MJ:UJ a l=false:=(by first|exact F3|exact BS.1 F3|exact(fun q=>BS.2 q F3)|exact(fun q=>Bool.false_ne_true (F3.symm.trans q))|simpa using F3)
     have AB:((Fj,150):AD×Int)=Z:=(by rw[<-AW,KA,if_neg W6,if_neg HJ,if_neg Nj,if_pos MJ]);subst AB;exact Ae<|Db (ps:=[]) (cs:=(A3 FX AI)) (by rfl) (by kernel_rfl) G<|BZ 0 (us:=(A3 FX AI)) G G G (At G) G G<|U 1 G<|Ac<|BA<|D8 AI [_,_,_] (Fp 0 G G G G (At G)) (by rfl) G (Ad 0 G Aa)
    ·
     have MJ:¬(UJ a l=false):=(by first|exact F3|exact BS.1 F3|exact(fun q=>BS.2 q F3)|exact(fun q=>Bool.false_ne_true (F3.symm.trans q))|simpa using F3)
     have AB:(({a with BG:=l},0):AD×Int)=Z:=(by rw[<-AW,KA,if_neg W6,if_neg HJ,if_neg Nj,if_neg MJ]);subst AB;refine AZ<|Ae<|BJ 2 (A3 a Cw) G G (At G) G G<|Dm (Uy _ _ C6 (Nat.le_trans (S0 (by simpa using W6)) (by decide))) (Ar G) G (Ad 1 G Aa) G fun Pm N4 G4=>?_;subst G4;refine JO ?_;refine Cp 0 G fun ku=>?_;refine BZ 2 (us:=(A3 a Pm)) G G G (At G) (by simp only[List.all_cons,List.all_nil,Bool.and_true,ku];rfl) G<|Ac<|Ae<|BJ 1 (Lx l) G G (At G) G G<|U 1 G<|stM 2 (us:=(Lx l)) G G G (At G) G (Nat.le_of_ble_eq_true G)<|Ac<|Ae<|BJ 2 (A3 ((⟨a.Al,(⟨a.Cs.A6,a.Cs.Bc⟩:GC),a.BT,a.Cn,a.A0,l⟩:AD)) Pm) G G (At G) G G<|Cp 0 G fun ku=>?_;exact BZ 0 (us:=(A3 ((⟨a.Al,(⟨a.Cs.A6,a.Cs.Bc⟩:GC),a.BT,a.Cn,a.A0,l⟩:AD)) Pm)) G G G (At G) (by simp only[List.all_cons,List.all_nil,Bool.and_true,ku];rfl) G<|U 1 G<|Ac<|rt<|D8 Pm [_,_,_] (Fp 0 G G G G (At G)) (by rfl) G (Ad 0 G Aa)
theorem eo(c:Bool)(Z:AD×Int)(AW:D1 a c=Z)(C6:a.wf):Aw AG 161 [.agg (A3 a Cw).toArray,.bool c] [] [⟨Cw,a.A0⟩] (fun(y:Value) u=>u=.tuple #[.agg (A3 Z.1 y).toArray,.int .i64 Z.2]) (fun _ _=>[]) (fun y _=>[⟨y,Z.1.A0⟩]):=by
 refine Aw.proof Tryz.func161 G 27 G G fun X w=>DJ (α:=BD) ?_;refine HP (q:=∀x∈a.A0,x.wf) (fun S w h=>O7 (s:=MN) (h _ (List.mem_of_getElem? (i:=1) G))) fun F5=>?_;have hw:D3 a:=⟨C6,F5⟩;refine Ae<|CV G G G fun Dh=>CT Hd G fun En=>U 1 G<|Ac<|Am<|Ae<|BJ 1 (A3 a Cw) G G (At G) G G<|B0 (Ps _ _ C6) (Ar G) G (Ad 1 G Aa) G<|IH G G<|Ac<|BN G (fun D2=>?_) (fun D2=>?_)
 ·
  have HZ:E4 a=false:=(by first|exact D2|exact BS.1 D2|exact(fun q=>BS.2 q D2)|exact(fun q=>Bool.false_ne_true (D2.symm.trans q))|simpa using D2)
  have AB:((Fj,21):AD×Int)=Z:=(by rw[<-AW,D1,if_pos HZ]);subst AB;exact Ae<|Db (ps:=[]) (cs:=(A3 FX AI)) (by rfl) (by kernel_rfl) G<|BZ 0 (us:=(A3 FX AI)) G G G (At G) G G<|U 1 G<|Ac<|BA<|D8 AI [_,_] (Fp 0 G G G G (At G)) (by rfl) G (Ad 0 G Aa)
 ·
  have HZ:¬(E4 a=false):=(by first|exact D2|exact BS.1 D2|exact(fun q=>BS.2 q D2)|exact(fun q=>Bool.false_ne_true (D2.symm.trans q))|simpa using D2)
  refine AZ<|Am<|Ae<|BJ 1 (A3 a Cw) G G (At G) G G<|B0 (YP _ _ C6) (Ar G) G (Ad 1 G Aa) G<|IH G G<|Ac<|BN G (fun EM=>?_) (fun EM=>?_)
  ·
   have fH:G_ a=false:=(by first|exact EM|exact BS.1 EM|exact(fun q=>BS.2 q EM)|exact(fun q=>Bool.false_ne_true (EM.symm.trans q))|simpa using EM)
   have AB:((Fj,60):AD×Int)=Z:=(by rw[<-AW,D1,if_neg HZ,if_pos fH]);subst AB;exact Ae<|Db (ps:=[]) (cs:=(A3 FX AI)) (by rfl) (by kernel_rfl) G<|BZ 0 (us:=(A3 FX AI)) G G G (At G) G G<|U 1 G<|Ac<|BA<|D8 AI [_,_] (Fp 0 G G G G (At G)) (by rfl) G (Ad 0 G Aa)
  ·
   have fH:¬(G_ a=false):=(by first|exact EM|exact BS.1 EM|exact(fun q=>BS.2 q EM)|exact(fun q=>Bool.false_ne_true (EM.symm.trans q))|simpa using EM)
   refine AZ<|Ae<|BJ 1 (A3 a Cw) G G (At G) G G<|Dm (Uy _ _ C6 (Nat.le_trans (S0 (by simpa using HZ)) (by decide))) (Ar G) G (Ad 1 G Aa) G fun P0 Xk Ft=>?_;subst Ft;refine JO ?_;refine Cp 0 G fun bN=>?_;refine BZ 1 (us:=(A3 a P0)) G G G (At G) (by simp only[List.all_cons,List.all_nil,Bool.and_true,bN];rfl) G<|Ac<|Am<|Ae<|An G G<|Ac<|BN G (fun CR=>?_) (fun CR=>?_)
   ·
    have Ii:c=true:=CR;have AB:(({a with BT:=a.BT+a.BG.B2,BG:=XG},0):AD×Int)=Z:=(by rw[<-AW,D1,if_neg HZ,if_neg fH,if_pos Ii]);subst AB;have Kp:A' (a.BT+a.BG.B2):=by
     have q:=(UK hw (by rw[AW])).2.2.2.2.wf.2.2.1;rw[AW]at q;exact q
    refine rg<|AX 5 [1,1] G G<|C5 G G Kp G<|U 1 G<|Fi 1 G G G (A2 G) G (Da G)<|Ac<|Ae<|Db (ps:=[]) (cs:=(Lx PF)) (by rfl) (by kernel_rfl) G<|U 1 G<|stM 1 (us:=(Lx PF)) G G G (At G) G (Nat.le_of_ble_eq_true G)<|Ac<|Ae<|BJ 1 (A3 ((⟨a.Al,(⟨a.Cs.A6,a.Cs.Bc⟩:GC),(a.BT+a.BG.B2),a.Cn,a.A0,PF⟩:AD)) P0) G G (At G) G G<|Cp 0 G fun bN=>?_;exact BZ 0 (us:=(A3 ((⟨a.Al,(⟨a.Cs.A6,a.Cs.Bc⟩:GC),(a.BT+a.BG.B2),a.Cn,a.A0,PF⟩:AD)) P0)) G G G (At G) (by simp only[List.all_cons,List.all_nil,Bool.and_true,bN];rfl) G<|U 1 G<|Ac<|rt<|D8 P0 [_,_] (Fp 0 G G G G (At G)) (by rfl) G (Ad 0 G Aa)
   ·
    have Ii:¬c=true:=(by rw[CR];decide);have AB:(({a with BG:=XG},0):AD×Int)=Z:=(by rw[<-AW,D1,if_neg HZ,if_neg fH,if_neg Ii]);subst AB;refine AZ<|Ae<|Db (ps:=[]) (cs:=(Lx PF)) (by rfl) (by kernel_rfl) G<|U 1 G<|stM 1 (us:=(Lx PF)) G G G (At G) G (Nat.le_of_ble_eq_true G)<|Ac<|Ae<|BJ 1 (A3 ((⟨a.Al,(⟨a.Cs.A6,a.Cs.Bc⟩:GC),a.BT,a.Cn,a.A0,PF⟩:AD)) P0) G G (At G) G G<|Cp 0 G fun bN=>?_;exact BZ 0 (us:=(A3 ((⟨a.Al,(⟨a.Cs.A6,a.Cs.Bc⟩:GC),a.BT,a.Cn,a.A0,PF⟩:AD)) P0)) G G G (At G) (by simp only[List.all_cons,List.all_nil,Bool.and_true,bN];rfl) G<|U 1 G<|Ac<|rt<|D8 P0 [_,_] (Fp 0 G G G G (At G)) (by rfl) G (Ad 0 G Aa)
end Go.Apw
