/- Part 14 of shardQuiet_holds. -/
import Derived.Test.YtalfaopffbkdnaaGreatScm13

set_option maxRecDepth 20000
set_option maxHeartbeats 1000000
namespace Go.Apw
open Go.A_
theorem Aed{m:BL}(Bw:0<m.Ap)(h:dq m)(hw:m.Cm.wf):m.wf:=by
 have Af:=h.hH
 have h2:=h.L3
 have Bo:=h.Ey
 have BI:EW=4611686018427387904:=rfl
 exact⟨⟨by omega,by omega⟩,⟨by omega,by omega⟩,trivial,hw⟩
theorem Aee{l:List BL}(h:Fg l=true)(hw:∀m∈l,m.Cm.wf):∀m∈l,m.wf:=fun m hm=>Aed ((Rl.1 h).1 m hm).1 ((Rl.1 h).1 m hm).2 (hw m hm)
theorem y7{l:List Df}(h:HE l=true):∀e∈l,e.wf:=fun e he=>by
 have:=((au.1 h).1 e he).2
 simp only[Jj,Bool.and_eq_true,decide_eq_true_eq]at this
 have BI:EW=4611686018427387904:=rfl
 exact⟨⟨by omega,by omega⟩,⟨by omega,by omega⟩⟩
theorem Ad5(b:List BL):∀{l:List BL},Fg l=true->(∀m∈l,m.Cm.wf)->Fg (b.foldl (fun l m=>if(G' l m.Ap m.As).2=0 then(G' l m.Ap m.As).1 else l) l)=true/\∀m∈b.foldl (fun l m=>if(G' l m.Ap m.As).2=0 then(G' l m.Ap m.As).1 else l) l,m.Cm.wf:=by
 induction b with
 |nil=>exact fun h hw=>⟨h,hw⟩
 |cons x r Cg=>
  intro l h hw
  rw[List.foldl_cons]
  split
  · rename_i e
    exact Cg (rj e) (rk hw)
  · exact Cg h hw
theorem sb{S:Bv}(h:Ce S)(BQ Ag:ByteArray):hc (Gl S BQ Ag):=by
 obtain⟨Kq,YQ⟩:=Ad5 S.Bz h.marks h.Me
 refine⟨dd,fun x Ab=>?_,Aee Kq YQ,fun x Ab=>absurd Ab List.not_mem_nil,fun x Ab=>absurd Ab List.not_mem_nil,y7 h.ends⟩
 obtain⟨Ab,_⟩:=List.mem_filter.1 Ab
 obtain⟨a,AK,rfl⟩:=List.mem_map.1 Ab
 have:=k_ (h.acc a AK).2.1 DW
 exact⟨this.wf,this.A7⟩
theorem Akv{S:Bv}(k:ByteArray)(h:S.Bt=FP):Ef S k=false:=by
 unfold Ef
 rw[h]
 rfl
theorem b6{S:Bv}{k:ByteArray}:F' S k=true↔S.Du=true/\within S.A6 S.Bc k=true:=by rw[F',Bool.and_eq_true]
theorem jc{S:Bv}(h:Ce S):Ce (LG S)/\(LG S).CZ=S.CZ/\(LG S).DX=S.DX:=by
 unfold LG
 split
 · exact⟨h,rfl,rfl⟩
 · rename_i Ew
   split
   · exact⟨h,rfl,rfl⟩
   · rename_i he
     have he:=Classical.not_not.1 he
     have ql:=back (sb h S.Bt.A6 S.Bt.Bc) he
     generalize (IW (Gl S S.Bt.A6 S.Bt.Bc)).1=jQ at ql
     have qi:(Er jQ).2=0:=by rw[ql]
     have Cu:¬S.Bt=FP:=fun e=>Ew (by simp[Py,e])
     obtain⟨AH,BI,hh,A7⟩:LK S.Bt=true/\S.Bt.Hi=S.CZ/\S.Bt.Bc=S.Bc/\F' S S.Bt.A6=true:=h.Hc.resolve_left Cu
     obtain⟨bb,Kp⟩:=b6.1 A7
     obtain⟨B4,sp⟩:=h.own.yes bb
     have HG:¬S.Bt.Ev=0:=by
      simp only[LK,Bool.and_eq_true,decide_eq_true_eq]at AH
      omega
     have NM:∀k,Ef S k=within S.Bt.A6 S.Bc k:=fun k=>by rw[Ef,decide_eq_false HG,hh];rfl
     have qc:∀x∈S.AA,within S.A6 S.Bc x.AM.Al=true/\Ef S x.AM.Al=false:=fun x Ab=>by
      obtain⟨_,_,c,d,_⟩:=SF.1 (h.wt x Ab)
      exact⟨(b6.1 c).2,d⟩
     have pq:∀a∈S.Aj,within S.A6 S.Bc a.Al=true:=fun a AK=>(b6.1 (h.acc a AK).2.2).2
     simp only
     split
     · rename_i el
       have Cl:S.Aj.filter (fun a=> !Ef S a.Al)=[]:=List.filter_eq_nil_iff.2 fun a AK=>by
        rw[NM,el,pq a AK]
        decide
       have F5:S.AA=[]:=List.eq_nil_iff_forall_not_mem.2 fun x Ab=>by
        obtain⟨a,b⟩:=qc x Ab
        rw[NM,el,a]at b
        cases b
       refine⟨{h with own:=⟨fun _=>⟨rfl,rfl,Cl,F5,rfl⟩,fun q=>by cases q⟩,len:=?_,acc:=?_,Ll:=?_,wt:=?_,Hc:=.inl rfl,out:=.inr ⟨AH,BI,qi⟩},rfl,rfl⟩
       · show(S.Aj.filter _).length<=12;rw[Cl];decide
       · show ∀a∈S.Aj.filter _,_;rw[Cl];exact fun a AK=>absurd AK List.not_mem_nil
       · show H6 _ _ (S.Aj.filter _);rw[Cl];exact List.Pairwise.nil
       · show ∀x∈S.AA,_;rw[F5];exact fun a AK=>absurd AK List.not_mem_nil
     · rename_i el
       obtain⟨Ua,Ub⟩:=within_iff.1 Kp
       have Ad6:Ds S.A6 S.Bt.A6=true:=Pa.tZ _ _ Ua el
       obtain⟨s1,s2,IK⟩:=Vm.1 (kT AH)
       obtain⟨t1,t2,t3⟩:=Vm.1 sp
       have DY:∀k,within S.A6 S.Bc k=true->Ef S k=false->within S.A6 S.Bt.A6 k=true:=fun k a b=>by
        obtain⟨DP,EK⟩:=within_iff.1 a
        refine within_iff.2 ⟨DP,.inr ?_⟩
        rw[NM]at b
        cases q:Ds k S.Bt.A6 with
        |true=>rfl
        |false=>rw[within_iff.2 ⟨q,EK⟩]at b;cases b
       refine⟨{h with own:=⟨fun q=>(by rw[show S.Du=false from q]at bb;cases bb),fun _=>⟨B4,Vm.2 ⟨t1,s1,.inr Ad6⟩⟩⟩,len:=Nat.le_trans (List.length_filter_le ..) h.len,acc:=?_,Ll:=List.Pairwise.filter _ h.Ll,wt:=?_,Hc:=.inl rfl,out:=.inr ⟨AH,BI,qi⟩},rfl,rfl⟩
       · intro a AK
         obtain⟨AK,hs⟩:=List.mem_filter.1 AK
         exact⟨(h.acc a AK).1,(h.acc a AK).2.1,b6.2 ⟨bb,DY _ (pq a AK) (by simpa using hs)⟩⟩
       · intro x Ab
         obtain⟨a,b⟩:=qc x Ab
         exact c2 (h.wt x Ab) (b6.2 ⟨bb,DY _ a b⟩) (Akv _ rfl)
theorem jP{S:Bv}{ix:Int}{a:AD}(Af:1<=ix)(h2:ix<=EW)(AK:Fw a)(w:D3 a):Fw (Jv S ix a)/\D3 (Jv S ix a)/\(Jv S ix a).Al=a.Al:=by
 unfold Jv
 split
 · obtain⟨x,y,z⟩:=ig w AK Af h2
   exact⟨y,z,by rw[x]⟩
 · obtain⟨x,y,z⟩:=l8 w AK
   exact⟨y,z,by rw[x]⟩
theorem fe{w:Ah}{x:JE}(h:Ce w.S):CE w (w.Iv x):=by
 unfold Ah.Iv
 split
 · exact CE.refl h
 · rename_i Af
   have BI:(BF w.S.Aj x.Al).2=true:=by simpa using Af
   split
   · rename_i h2
     obtain⟨m,k⟩:=Q2 BI
     obtain⟨_,y,z⟩:=h.acc _ m
     obtain⟨_,_,_,_,_,_,_,_,p,q,r⟩:=iv y h2
     exact TL h q r (by rw[p];exact z) (.inl (by rw[p];show(BF w.S.Aj (BF w.S.Aj x.Al).1.Al).2=true;rw[k];exact BI))
   · exact CE.refl h
theorem lg{w:Ah}(h:Ce w.S)(Af:1<=w.ix)(h2:w.ix<=EW):CE w w.rest/\∀a∈w.rest.S.Aj,FT a=false:=by
 unfold Ah.rest
 simp only
 obtain⟨DP,EK,FR⟩:=jc h
 have CY:CE w {w with S:={LG w.S with Aj:=(LG w.S).Aj.map (Jv (LG w.S) w.ix)}}:=⟨DP.bE fun a AK=>jP Af h2 (DP.acc a AK).1 (DP.acc a AK).2.1,EK,FR,rfl,rfl⟩
 have Dh:=CY.trans (Yd (fun u d hu=>fe (x:=d) hu) w.BQ CY.ws)
 generalize w.BQ.foldl Ah.Iv _=v at Dh
 have hs:=Dh.ws
 refine⟨⟨hs.mA (Nat.le_trans (List.length_filter_le ..) hs.len) (fun a AK=>hs.acc a (List.mem_filter.1 AK).1) (List.Pairwise.filter _ hs.Ll) (fun e=>by rw[(hs.own.no e).2.2.1];rfl),Dh.g,Dh.i,Dh.x,Dh.n⟩,fun a AK=>?_⟩
 have:=(List.mem_filter.1 AK).2
 simpa using this
structure VB (S:Bv):Prop where
 ac:∀a∈S.Aj,D3 a
 PZ:∀x∈S.AA,x.wf
 O8:∀m∈S.Bz,m.Cm.wf
theorem Ce.ints{S:Bv}(h:Ce S):VB S:=⟨fun a AK=>(h.acc a AK).2.1,h.ww,h.Me⟩
theorem w5{S:Bv}{c:Dg}{ix nd:Int}(Ag:VB S)(Bm:c.wf)(h:(Gc S c ix nd).2.2=0):
 LN S=true/\LN (Gc S c ix nd).1=true/\VB (Gc S c ix nd).1/\(Gc S c ix nd).1.CZ=S.CZ/\(Gc S c ix nd).1.DX=ix:=by
 unfold Gc at h ⊢
 split at h
 · cases h
 · rename_i Bh
   rw[if_neg Bh]
   have Bh:LN S=true:=by simpa using Bh
   split at h
   · cases h
   · rename_i Ao
     rw[if_neg Ao]
     split at h
     · cases h
     · rename_i Ab
       rw[if_neg Ab]
       simp only[Bool.or_eq_true,decide_eq_true_eq,not_or]at Ao Ab
       obtain⟨BO,_⟩:=(Zc Ag.ac Ag.PZ Ag.O8).1 Bh
       have Fx:=BO.ix
       obtain⟨Sp,HG⟩:=Fx
       have Bw:Ce {S with DX:=ix}:={BO with ix:=⟨by show 0<=ix;omega,by show ix<=EW;omega⟩,own:=⟨BO.own.no,BO.own.yes⟩,acc:=BO.acc,wt:=BO.wt,Hc:=BO.Hc}
       have A1:=dO (w:={S:={S with DX:=ix},ix:=ix,nd:=nd,EF:=[],BQ:=[]}) (c:=c) Bw Bm (by show nd<=5;omega)
       simp only
       generalize ({S:={S with DX:=ix},ix:=ix,nd:=nd,EF:=[],BQ:=[]}:Ah).cmd c=w at A1
       have AY:=gH w.S.AA.length A1.ws
       generalize Ah.waits w.S.AA.length w=v at AY
       have TB:v.ix=ix:=AY.x.trans A1.x
       obtain⟨A9,Ba⟩:=lg AY.ws (by omega) (by omega)
       refine⟨Bh,(Zc (A9.ws.ints).ac (A9.ws.ints).PZ (A9.ws.ints).O8).2 ⟨A9.ws,Ba⟩,A9.ws.ints,?_,?_⟩
       · rw[A9.g,AY.g,A1.g]
       · rw[A9.i,AY.i,A1.i]
theorem w7{S:Bv}{c:Dg}{ix nd:Int}(Bh:LN S=true)(Af:1<=nd)(h2:nd<=5)(Bo:S.DX<ix)(BB:ix<=EW):(Gc S c ix nd).2.2=0:=by
 unfold Gc
 rw[if_neg (by rw[Bh];decide),if_neg (by simp only[Bool.or_eq_true,decide_eq_true_eq];omega),if_neg (by simp only[Bool.or_eq_true,decide_eq_true_eq];omega)]
theorem tz{β GA:Type}[DecidableEq GA]{key:β->GA}{lt:GA->GA->Bool}(o:QL lt):∀{l m:List β},H6 key lt l->H6 key lt m->(∀x,x∈l↔x∈m)->l=m
 |[],[],_,_,_=>rfl
 |[],y::m,_,_,h=>absurd ((h y).2 (List.mem_cons_self ..)) List.not_mem_nil
 |x::l,[],_,_,h=>absurd ((h x).1 (List.mem_cons_self ..)) List.not_mem_nil
 |x::l,y::m,AN,hm,h=>by
  obtain⟨Om,Sl⟩:=List.pairwise_cons.1 AN
  obtain⟨Kq,YQ⟩:=List.pairwise_cons.1 hm
  have e:x=y:=by
   rcases List.mem_cons.1 ((h x).1 (List.mem_cons_self ..))with e|e
   · exact e
   · rcases List.mem_cons.1 ((h y).2 (List.mem_cons_self ..))with IV|IV
     · exact IV.symm
     · have:=o.mb _ _ _ (Om _ IV) (Kq _ e)
       rw[o.Si]at this
       cases this
  subst e
  rw[tz o Sl YQ fun z=>⟨fun Cu=>?_,fun Cu=>?_⟩]
  · rcases List.mem_cons.1 ((h z).1 (List.mem_cons_of_mem _ Cu))with rfl|e
    · have:=Om _ Cu;rw[o.Si]at this;cases this
    · exact e
  · rcases List.mem_cons.1 ((h z).2 (List.mem_cons_of_mem _ Cu))with rfl|e
    · have:=Kq _ Cu;rw[o.Si]at this;cases this
    · exact e
theorem lX{β GA:Type}[DecidableEq GA]{key:β->GA}{lt:GA->GA->Bool}(o:QL lt):∀{l:List β},H6 key lt l->∀{a b:β},a∈l->b∈l->key a=key b->a=b
 |[],_,_,_,h,_,_=>absurd h List.not_mem_nil
 |x::l,AN,a,b,AK,Aq,e=>by
  obtain⟨Om,Sl⟩:=List.pairwise_cons.1 AN
  rcases List.mem_cons.1 AK with X9|o7
  · rcases List.mem_cons.1 Aq with h1|HO
    · rw[X9,h1]
    · have:=Om _ HO;rw[<-e,X9,o.Si]at this;cases this
  · rcases List.mem_cons.1 Aq with h1|HO
    · have:=Om _ o7;rw[e,h1,o.Si]at this;cases this
    · exact lX o Sl o7 HO e
theorem zO{l:List AD}(hs:H6 (·.Al) Ds l){a:AD}(AK:a∈l):(BF l a.Al).1=a:=by
 cases e:(BF l a.Al).2 with
 |true=>exact lX Pa hs (Q2 e).1 AK (Q2 e).2
 |false=>exact absurd rfl ((UH e).1 a AK)
theorem l'{a:AD}:(Io a).2=true↔E4 a=true/\G_ a=false/\a.A0=[]:=by
 unfold Io
 split
 · rename_i h
   simp only[Bool.or_eq_true,Bool.not_eq_true',decide_eq_true_eq]at h
   refine⟨fun q=>(by cases q),fun⟨x,y,z⟩=>?_⟩
   rw[x,y,z]at h
   simp at h
 · rename_i h
   simp only[Bool.or_eq_true,Bool.not_eq_true',decide_eq_true_eq,not_or,Bool.not_eq_false,Bool.not_eq_true]at h
   refine⟨fun _=>⟨h.1.1,h.1.2,List.length_eq_zero_iff.1 (by omega)⟩,fun _=>rfl⟩
structure VK (S:Bv):Prop where
 Aij:KS S=none
 hand:Py S=false\/¬(IW (Gl S S.Bt.A6 S.Bt.Bc)).2=0
 Tx:∀ix,1<=ix->ix<=EW->S.Aj.map (Jv S ix)=S.Aj
 plain:∀a∈S.Aj,FT a=false
-- waits: the rounds are enough
theorem ot(w:Ah)(c q:Int)(a:De):(w.done c q a).S.AA=w.S.AA:=by
 unfold Ah.done
 simp only
 split<;>rfl
theorem Ajp(w:Ah)(c q n:Int)(k:ByteArray)(a:De):(w.served c q n k a).S.AA=w.S.AA:=by
 unfold Ah.served
 simp only
 split<;>exact ot ..
theorem sG(w:Ah)(c q:Int):(w.raise c q).S.AA=w.S.AA:=by
 unfold Ah.raise
 split<;>rfl
theorem y6(w:Ah)(c q e:Int):(w.ends c q e).S.AA.length<=w.S.AA.length:=by
 unfold Ah.ends
 simp only
 rw[sG]
 refine Nat.le_trans (List.length_filter_le ..) ?_
 show(w.done c q (HN e)).S.AA.length<=_
 rw[ot]
 exact Nat.le_refl _
theorem AjV(w:Ah)(o:FL):(H3 w o).1.S.AA=w.S.AA:=by
 unfold H3
 simp only
 repeat' split
 all_goals rfl
theorem AdY(w:Ah)(x:BX):(w.Lf x).S.AA.length<=w.S.AA.length:=by
 unfold Ah.Lf
 split
 · exact Nat.le_refl _
 · simp only
   generalize KA _ _=r
   have BC:(if r.2=0 then w.put r.1 else w.tell 3 x.Ap x.As GS).S.AA=w.S.AA:=by split<;>rfl
   generalize (if r.2=0 then w.put r.1 else w.tell 3 x.Ap x.As GS)=v at BC
   rw[<-BC]
   split
   · split
     · rw[sG];exact Nat.le_refl _
     · exact Nat.le_refl _
   · split
     · split<;>exact Nat.le_refl _
     · split
       · exact y6 ..
       · exact Nat.le_refl _
theorem uH{w:Ah}{i:Nat}(h:i<w.S.AA.length):(w.L6 i).S.AA.length<w.S.AA.length:=by
 have he:(w.S.AA.eraseIdx i).length<w.S.AA.length:=by rw[List.length_eraseIdx_of_lt h];omega
 unfold Ah.L6
 simp only
 split
 · rw[Ajp,AjV];exact he
 · exact Nat.lt_of_le_of_lt (AdY ..) he
theorem lb{S:Bv}{i:Nat}(h:KS S=some i):i<S.AA.length:=Q4 h
theorem uK:∀(n:Nat) (w:Ah),w.S.AA.length<=n->KS (Ah.waits n w).S=none
 |0,w,h=>by
  rw[Ah.waits]
  cases e:KS w.S with
  |none=>rfl
  |some i=>exact absurd (lb e) (by omega)
 |n+1,w,h=>by
  rw[Ah.waits]
  cases e:KS w.S with
  |none=>exact e
  |some i=>exact uK n _ (by have:=uH (lb e);show((w.L6 i).S.AA).length<=n;omega)
-- what is lent
def Up(a b:AD):Prop:=a.Al=b.Al/\a.Cn=b.Cn/\a.BG=b.BG/\(a=b\/b.Cn=0/\a.A0≠[])
theorem q7(a:AD):Up a a:=⟨rfl,rfl,rfl,.inl rfl⟩
structure DU (l m:List AD):Prop where
 to:∀a∈m,∃b∈l,Up a b
 of:∀b∈l,∃a∈m,Up a b
structure Acc (w v:Ah):Prop where
 s:v.S={w.S with Aj:=v.S.Aj}
 e:v.EF=w.EF
 l:v.BQ=w.BQ
theorem AhH{β GA:Type}[Inhabited β][DecidableEq GA]{key:β->GA}{lt:GA->GA->Bool}(x:β)(l:List β):FQ key lt x l≠[]:=by
 intro e
 have h:=congrArg List.length e
 rw[FQ]at h
 split at h
 · rename_i Ag
   rw[G9,Bool.and_eq_true,decide_eq_true_eq]at Ag
   rw[List.length_set,List.length_nil]at h
   omega
 · rw[FO,List.length_append,List.length_cons,List.length_nil]at h
   omega
theorem Adt{l:List AD}{w:Ah}{x:JE}(h:Ce w.S)(g:DU l w.S.Aj):DU l (w.Iv x).S.Aj/\Acc w (w.Iv x):=by
 unfold Ah.Iv
 split
 · exact⟨g,rfl,rfl,rfl⟩
 · rename_i Af
   have BI:(BF w.S.Aj x.Al).2=true:=by simpa using Af
   split
   · rename_i h2
     obtain⟨m,k⟩:=Q2 BI
     obtain⟨_,y,_⟩:=h.acc _ m
     obtain⟨_,_,cg,_,_,_,_,_,p,_,_⟩:=iv y h2
     refine⟨?_,rfl,rfl,rfl⟩
     show DU l (FQ (·.Al) Ds _ w.S.Aj)
     generalize (BF w.S.Aj x.Al).1=f at m k cg p
     generalize Ano:(Kl f x.Bn w.ix w.nd).1=Jq at p
     have Ey:Jq.Al=f.Al:=by rw[p]
     have Ez:Jq.Cn=f.Cn:=by rw[p]
     have AhN:Jq.BG=f.BG:=by rw[p]
     have PM:Jq.A0≠[]:=by rw[p];exact AhH _ _
     have step:∀b,Up f b->Up Jq b:=fun b r=>⟨Ey.trans r.1,Ez.trans r.2.1,AhN.trans r.2.2.1,.inr ⟨by rw[<-r.2.1];exact cg,PM⟩⟩
     refine⟨fun a AK=>?_,fun b Aq=>?_⟩
     · rcases(PJ Pa h.Ll).1 AK with e|⟨AK,_⟩
       · obtain⟨b,Aq,r⟩:=g.to f m
         exact⟨b,Aq,by rw[e];exact step b r⟩
       · exact g.to a AK
     · obtain⟨a,AK,r⟩:=g.of b Aq
       by_cases e:a.Al=Jq.Al
       · have:a=f:=lX Pa h.Ll AK m (e.trans Ey)
         subst this
         exact⟨Jq,(PJ Pa h.Ll).2 (.inl rfl),step b r⟩
       · exact⟨a,(PJ Pa h.Ll).2 (.inr ⟨AK,e⟩),r⟩
   · exact⟨g,rfl,rfl,rfl⟩
theorem q5{l:List AD}:∀(BQ:List JE) {w:Ah},Ce w.S->DU l w.S.Aj->DU l (BQ.foldl Ah.Iv w).S.Aj/\Acc w (BQ.foldl Ah.Iv w)
 |[],_,_,g=>⟨g,rfl,rfl,rfl⟩
 |x::r,w,h,g=>by
  obtain⟨a,b⟩:=Adt (x:=x) h g
  obtain⟨c,d⟩:=q5 r (fe (x:=x) h).ws a
  refine⟨c,?_,d.e.trans b.e,d.l.trans b.l⟩
  have:=d.s
  rw[b.s]at this
  exact this
theorem Abp{S:Bv}:(LG S=S/\(Py S=false\/¬(IW (Gl S S.Bt.A6 S.Bt.Bc)).2=0))\/
 ((LG S).Bt=FP/\(LG S).AA=S.AA/\(LG S).Aj=S.Aj.filter (fun a=> !Ef S a.Al)):=by
 unfold LG
 split
 · rename_i h
   exact .inl ⟨rfl,.inl h⟩
 · split
   · rename_i h
     exact .inl ⟨rfl,.inr h⟩
   · refine .inr ?_
     simp only
     split<;>exact⟨rfl,rfl,rfl⟩
theorem qh{S:Bv}{ix:Int}{a:AD}(Af:1<=ix)(h2:ix<=EW)(AK:Fw a)(w:D3 a):Jv S ix a={a with Cn:=if(SG S.AA a.Al||Ef S a.Al)=true then(if a.Cn=0 then ix else a.Cn)else 0}:=by
 unfold Jv
 split
 · exact(ig w AK Af h2).1
 · exact(l8 w AK).1
theorem tA{l:List AD}{f:AD->AD}(BI:∀a∈l,(f a).Al=a.Al)(h:H6 (·.Al) Ds l):H6 (·.Al) Ds (l.map f):=by
 unfold H6 at h ⊢
 rw[List.pairwise_map]
 refine h.imp_of_mem fun{a b} AK Aq q=>?_
 show Ds (f a).Al (f b).Al=true
 rw[BI a AK,BI b Aq]
 exact q
theorem fB{a:AD}:FT a=true↔E4 a=true/\a.Cs=⟨0,0⟩/\a.BT=0/\a.A0=[]/\a.Cn=0/\G_ a=false:=by
 simp only[FT,Bool.and_eq_true,Bool.not_eq_true',decide_eq_true_eq]
 constructor
 · rintro⟨⟨⟨⟨⟨a,b⟩,c⟩,d⟩,e⟩,f⟩
   exact⟨a,b,c,List.length_eq_zero_iff.1 (by omega),e,f⟩
 · rintro⟨a,b,c,d,e,f⟩
   exact⟨⟨⟨⟨⟨a,b⟩,c⟩,by rw[d];rfl⟩,e⟩,f⟩
theorem AdZ{a b:AD}(h:a.BG=b.BG):G_ a=G_ b:=by unfold G_;rw[h]
theorem Aiv{w:Ah}(h:Ce w.S)(Af:1<=w.ix)(h2:w.ix<=EW)(Bh:KS w.S=none):VK w.rest.S:=by
 have AH:=(lg h Af h2).2
 have Ri:=(lg h Af h2).1.ws
 unfold Ah.rest at AH Ri ⊢
 simp only at AH Ri ⊢
 have Vv:=(jc h).1
 have Bm:=Abp (S:=w.S)
 generalize AmZ:LG w.S=EB at AH Ri Vv Bm ⊢
 have CY:Ce {EB with Aj:=EB.Aj.map (Jv EB w.ix)}:=Vv.bE fun a AK=>jP Af h2 (Vv.acc a AK).1 (Vv.acc a AK).2.1
 obtain⟨Jt,ac⟩:=q5 (l:=EB.Aj.map (Jv EB w.ix)) w.BQ (w:={w with S:={EB with Aj:=EB.Aj.map (Jv EB w.ix)}}) CY ⟨fun a AK=>⟨a,AK,q7 a⟩,fun a AK=>⟨a,AK,q7 a⟩⟩
 have uR:=(Yd (fun u d hu=>fe (x:=d) hu) w.BQ (w:={w with S:={EB with Aj:=EB.Aj.map (Jv EB w.ix)}}) CY).ws
 generalize w.BQ.foldl Ah.Iv {w with S:={EB with Aj:=EB.Aj.map (Jv EB w.ix)}}=v at AH Ri Jt ac uR ⊢
 have Kk:v.S={EB with Aj:=v.S.Aj}:=ac.s
 generalize v.S.Aj=On at AH Ri Jt Kk ⊢
 rw[Kk]at uR Ri ⊢
 clear ac Kk
 simp only at AH Ri ⊢
 -- what an account was
 have back:∀a∈On,∃c∈EB.Aj,Up a (Jv EB w.ix c):=fun a AK=>by
  obtain⟨b,Aq,r⟩:=Jt.to a AK
  obtain⟨c,Bm,rfl⟩:=List.mem_map.1 Aq
  exact⟨c,Bm,r⟩
 have fwd:∀c∈EB.Aj,∃a∈On,Up a (Jv EB w.ix c):=fun c Bm=>Jt.of _ (List.mem_map.2 ⟨c,Bm,rfl⟩)
 have Tx:∀c∈EB.Aj,Jv EB w.ix c={c with Cn:=if(SG EB.AA c.Al||Ef EB c.Al)=true then(if c.Cn=0 then w.ix else c.Cn)else 0}:=fun c Bm=>qh Af h2 (Vv.acc c Bm).1 (Vv.acc c Bm).2.1
 have DY:∀a∈On,FT a=false->a∈On.filter (fun a=> !FT a):=fun a AK q=>List.mem_filter.2 ⟨AK,by rw[q];rfl⟩
 have Acr:EB.AA=w.S.AA:=by
  rcases Bm with⟨e,_⟩|⟨_,e,_⟩
  · rw[e]
  · exact e
 refine⟨?_,?_,?_,AH⟩
 · -- nothing is ready
   unfold KS at Bh ⊢
   simp only
   rw[Acr]
   refine List.find?_range_eq_none.2 fun i Ag=>?_
   have Bw:=List.find?_range_eq_none.1 Bh i Ag
   have hm:=Hl (l:=w.S.AA) Ag
   obtain⟨_,NP,Adc,ks,_⟩:=SF.1 (h.wt _ hm)
   generalize (w.S.AA.getD i default).AM.Al=k at Bw NP Adc ks ⊢
   simp only[Bool.not_eq_true',Bool.and_eq_false_iff]at Bw ⊢
   refine Bw.imp id fun Bw=>?_
   rw[<-Bool.not_eq_true]at Bw ⊢
   refine fun q=>Bw ?_
   cases Fb:(BF w.S.Aj k).2 with
   |false=>
    obtain⟨z,y,x,_⟩:=YR NP
    rw[(UH Fb).2,l']
    exact⟨y.acc x,by rw[z];rfl,by rw[z];rfl⟩
   |true=>
    obtain⟨NS,AS⟩:=Q2 Fb
    generalize (BF w.S.Aj k).1=c at NS AS ⊢
    have Kq:c∈EB.Aj:=by
     rcases Bm with⟨e,_⟩|⟨_,_,e⟩
     · rw[e];exact NS
     · rw[e];exact List.mem_filter.2 ⟨NS,by rw[AS,ks];rfl⟩
    obtain⟨a,O8,FA⟩:=fwd c Kq
    rw[Tx c Kq]at FA
    have hold:a.A0=[]/\G_ a=false:=by
     cases pl:FT a with
     |true=>exact⟨(fB.1 pl).2.2.2.1,(fB.1 pl).2.2.2.2.2⟩
     |false=>
      have:=zO Ri.Ll (DY a O8 pl)
      have I2:a.Al=k:=FA.1.trans AS
      rw[I2]at this
      have q:=q
      rw[this,l']at q
      exact⟨q.2.2,q.2.1⟩
    rw[l']
    refine⟨(h.acc c NS).1.acc (h.acc c NS).2.1,?_,?_⟩
    · rw[<-hold.2]
      exact(AdZ FA.2.2.1).symm
    · rcases FA.2.2.2 with e|⟨_,e⟩
      · have:=congrArg AD.A0 e
        exact this.symm.trans hold.1
      · exact absurd hold.1 e
 · -- nothing is to be handed on
   show Py {EB with Aj:=On.filter (fun a=> !FT a)}=false\/¬(IW (Gl {EB with Aj:=On.filter (fun a=> !FT a)} EB.Bt.A6 EB.Bt.Bc)).2=0
   rcases Bm with⟨e,A7|A7⟩|⟨e,_,_⟩
   · refine .inl ?_
     rw[<-e]at A7
     simp only[Py,Bool.not_eq_false',Bool.or_eq_true,List.any_eq_true,Bool.and_eq_true,Bool.not_eq_true',decide_eq_true_eq,decide_eq_false_iff_not]at A7 ⊢
     refine A7.imp id ?_
     rintro⟨c,Oo,s_,AJ⟩
     obtain⟨a,O8,FA⟩:=fwd c Oo
     rw[Tx c Oo]at FA
     have OT:(a.A0.length:Int)>0\/¬a.BG.Ap=0:=by
      refine AJ.imp (fun q=>?_) (fun q=>by rw[FA.2.2.1];exact q)
      rcases FA.2.2.2 with e|⟨_,e⟩
      · rw[e];exact q
      · have:=List.length_pos_iff.2 e
        omega
     have AbY:FT a=false:=by
      rw[<-Bool.not_eq_true,fB]
      rintro⟨_,_,_,p,_,r⟩
      rcases OT with q|q
      · rw[p]at q;exact absurd q (by decide)
      · exact q (gy r)
     exact⟨a,DY a O8 AbY,by rw[show a.Al=c.Al from FA.1];exact s_,OT⟩
   · by_cases Cu:EB.Bt=FP
     · exact .inl (by simp[Py,Cu])
     refine .inr ?_
     rw[<-e]at A7
     have Yv:LK EB.Bt=true:=(Vv.Hc.resolve_left Cu).1
     have HG:¬EB.Bt.Ev=0:=by
      simp only[LK,Bool.and_eq_true,decide_eq_true_eq]at Yv
      omega
     have rd:∀c∈EB.Aj,within EB.Bt.A6 EB.Bt.Bc c.Al=true->∀a,Up a (Jv EB w.ix c)->a=Jv EB w.ix c/\¬a.Cn=0:=fun c Oo c5 a FA=>by
      have hs:Ef EB c.Al=true:=by rw[Ef,decide_eq_false HG,c5];rfl
      have Cu:¬(Jv EB w.ix c).Cn=0:=by
       rw[Tx c Oo,if_pos (by rw[hs,Bool.or_true])]
       show ¬(if c.Cn=0 then w.ix else c.Cn)=0
       split<;>omega
      rcases FA.2.2.2 with q|⟨q,_⟩
      · exact⟨q,by rw[q];exact Cu⟩
      · exact absurd q Cu
     have zd:((On.filter (fun a=> !FT a)).map fun a=>{a with Cn:=0}).filter (fun a=>within EB.Bt.A6 EB.Bt.Bc a.Al&& !FT a)=(EB.Aj.map fun a=>{a with Cn:=0}).filter (fun a=>within EB.Bt.A6 EB.Bt.Bc a.Al&& !FT a):=by
      refine tz (key:=fun a:AD=>a.Al) Pa (List.Pairwise.filter _ (tA (fun _ _=>rfl) Ri.Ll)) (List.Pairwise.filter _ (tA (fun _ _=>rfl) Vv.Ll)) fun x=>?_
      constructor
      · intro Ab
        obtain⟨Ab,W5⟩:=List.mem_filter.1 Ab
        obtain⟨a,AK,rfl⟩:=List.mem_map.1 Ab
        obtain⟨AK,_⟩:=List.mem_filter.1 AK
        obtain⟨c,Oo,FA⟩:=back a AK
        have bu:a.Al=c.Al:=by have:=FA.1;rw[Tx c Oo]at this;exact this
        have c5:within EB.Bt.A6 EB.Bt.Bc c.Al=true:=by rw[Bool.and_eq_true]at W5;rw[<-bu];exact W5.1
        have X9:=(rd c Oo c5 a FA).1
        have h_:({a with Cn:=0}:AD)={c with Cn:=0}:=by rw[X9,Tx c Oo]
        refine List.mem_filter.2 ⟨?_,W5⟩
        rw[h_]
        exact List.mem_map.2 ⟨c,Oo,rfl⟩
      · intro Ab
        obtain⟨Ab,W5⟩:=List.mem_filter.1 Ab
        obtain⟨c,Oo,rfl⟩:=List.mem_map.1 Ab
        obtain⟨a,O8,FA⟩:=fwd c Oo
        have c5:within EB.Bt.A6 EB.Bt.Bc c.Al=true:=by rw[Bool.and_eq_true]at W5;exact W5.1
        obtain⟨X9,Aej⟩:=rd c Oo c5 a FA
        have h_:({a with Cn:=0}:AD)={c with Cn:=0}:=by rw[X9,Tx c Oo]
        refine List.mem_filter.2 ⟨?_,W5⟩
        rw[<-h_]
        refine List.mem_map.2 ⟨a,DY a O8 ?_,rfl⟩
        rw[<-Bool.not_eq_true,fB]
        exact fun p=>Aej p.2.2.2.2.1
     have ON:Gl {EB with Aj:=On.filter (fun a=> !FT a)} EB.Bt.A6 EB.Bt.Bc=Gl EB EB.Bt.A6 EB.Bt.Bc:=by
      unfold Gl
      simp only
      rw[zd]
     rw[ON]
     exact A7
   · exact .inl (by simp[Py,e])
 · -- rounds stay
   intro ix i1 i2
   show(On.filter fun a=> !FT a).map (Jv {EB with Aj:=On.filter (fun a=> !FT a)} ix)=_
   conv=>rhs;rw[<-List.map_id (On.filter fun a=> !FT a)]
   refine List.map_congr_left fun a AK=>?_
   rw[qh i1 i2 (Ri.acc a AK).1 (Ri.acc a AK).2.1]
   obtain⟨c,Oo,FA⟩:=back a (List.mem_filter.1 AK).1
   rw[Tx c Oo]at FA
   have bu:a.Al=c.Al:=FA.1
   have rc:a.Cn=(if(SG EB.AA c.Al||Ef EB c.Al)=true then(if c.Cn=0 then w.ix else c.Cn)else 0):=FA.2.1
   rw[show SG ({EB with Aj:=On.filter (fun a=> !FT a)}:Bv).AA a.Al=SG EB.AA c.Al by rw[bu],show Ef {EB with Aj:=On.filter (fun a=> !FT a)} a.Al=Ef EB c.Al by rw[bu];rfl]
   have:(if(SG EB.AA c.Al||Ef EB c.Al)=true then(if a.Cn=0 then ix else a.Cn)else 0)=a.Cn:=by
    split
    · rename_i q
      rw[if_pos q]at rc
      rw[if_neg]
      rw[rc]
      split<;>omega
    · rename_i q
      rw[if_neg q]at rc
      exact rc.symm
   rw[this]
   rfl
theorem VK.at{S:Bv}(h:VK S)(i:Int):VK {S with DX:=i}:=⟨h.Aij,h.hand,h.Tx,h.plain⟩
theorem Ak_{w:Ah}(h:KS w.S=none):∀n,Ah.waits n w=w
 |0=>rfl
 |n+1=>by rw[Ah.waits,h]
theorem Arq{w:Ah}(h:VK w.S)(Af:1<=w.ix)(h2:w.ix<=EW)(AN:w.BQ=[]):w.rest=w:=by
 have B4:LG w.S=w.S:=by
  unfold LG
  rcases h.hand with q|q
  · rw[if_pos q]
  · split
    · rfl
    · rfl
 have DC:=h.Tx w.ix Af h2
 have Kk:w.S.Aj.filter (fun a=> !FT a)=w.S.Aj:=List.filter_eq_self.2 fun a AK=>by rw[h.plain a AK];rfl
 unfold Ah.rest
 simp only[B4,DC,AN,List.foldl_nil,Kk]
 clear B4 DC Kk h Af h2
 obtain⟨S,ix,nd,EF,BQ⟩:=w
 simp only at AN
 subst AN
 rfl
theorem Aqm{S:Bv}{c:Dg}{ix nd:Int}{l:List FE}(Bh:LN S=true)(hs:VK S)(HG:1<=nd)(MF:nd<=5)(i0:0<=S.DX)(i1:S.DX<ix)(i2:ix<=EW)
 (h:({S:={S with DX:=ix},ix:=ix,nd:=nd,EF:=[],BQ:=[]}:Ah).cmd c={S:={S with DX:=ix},ix:=ix,nd:=nd,EF:=l,BQ:=[]}):Gc S c ix nd=({S with DX:=ix},l,0):=by
 unfold Gc
 rw[if_neg (by rw[Bh];decide),if_neg (by simp only[Bool.or_eq_true,decide_eq_true_eq];omega),if_neg (by simp only[Bool.or_eq_true,decide_eq_true_eq];omega)]
 simp only[h]
 rw[Ak_ (hs.at ix).Aij,Arq (hs.at ix) (by show 1<=ix;omega) i2 rfl]
theorem w6{S:Bv}{c:Dg}{ix nd:Int}(Ag:VB S)(Bm:c.wf)(h:(Gc S c ix nd).2.2=0):VK (Gc S c ix nd).1:=by
 unfold Gc at h ⊢
 split at h
 · cases h
 · rename_i Bh
   rw[if_neg Bh]
   have Bh:LN S=true:=by simpa using Bh
   split at h
   · cases h
   · rename_i Ao
     rw[if_neg Ao]
     split at h
     · cases h
     · rename_i Ab
       rw[if_neg Ab]
       simp only[Bool.or_eq_true,decide_eq_true_eq,not_or]at Ao Ab
       obtain⟨BO,_⟩:=(Zc Ag.ac Ag.PZ Ag.O8).1 Bh
       have Fx:=BO.ix
       obtain⟨Sp,HG⟩:=Fx
       have Bw:Ce {S with DX:=ix}:={BO with ix:=⟨by show 0<=ix;omega,by show ix<=EW;omega⟩,own:=⟨BO.own.no,BO.own.yes⟩,acc:=BO.acc,wt:=BO.wt,Hc:=BO.Hc}
       have A1:=dO (w:={S:={S with DX:=ix},ix:=ix,nd:=nd,EF:=[],BQ:=[]}) (c:=c) Bw Bm (by show nd<=5;omega)
       simp only
       generalize ({S:={S with DX:=ix},ix:=ix,nd:=nd,EF:=[],BQ:=[]}:Ah).cmd c=w at A1
       have AY:=gH w.S.AA.length A1.ws
       have A9:=uK w.S.AA.length w (Nat.le_refl _)
       generalize Ah.waits w.S.AA.length w=v at AY A9
       have TB:v.ix=ix:=AY.x.trans A1.x
       exact Aiv AY.ws (by omega) (by omega) A9
-- from a new state on
theorem Aeu{g:Int}(h:Ih g=true):Ce (F8 g)/\(F8 g).Aj=[]:=by
 have z:L7 0:=⟨by decide,by decide⟩
 refine⟨{RZ:=?_,ix:=z,ON:=?_,hf:=z,TO:=z,un:=z,own:=⟨fun _=>⟨rfl,rfl,rfl,rfl,rfl⟩,fun q=>⟨?_,rfl⟩⟩,len:=Nat.zero_le _,acc:=fun a AK=>absurd AK List.not_mem_nil,Ll:=List.Pairwise.nil,marks:=rfl,Me:=fun a AK=>absurd AK List.not_mem_nil,VZ:=rfl,ends:=rfl,wl:=Nat.zero_le _,wt:=fun a AK=>absurd AK List.not_mem_nil,ww:=fun a AK=>absurd AK List.not_mem_nil,Hc:=.inl rfl,out:=.inl ⟨rfl,rfl⟩},rfl⟩
 · show Ih (if Ih g=true then g else 0)=true
   rw[if_pos h];exact h
 · show L7 (if Ih g=true then(if g=1 then 1 else 0)else 0)
   rw[if_pos h]
   split<;>exact⟨by decide,by decide⟩
 · have q:(Ih g&&decide (g=1))=true:=q
   rw[Bool.and_eq_true,decide_eq_true_eq]at q
   show 1<=(if Ih g=true then(if g=1 then 1 else 0)else 0)
   rw[if_pos h,if_pos q.2]
   exact Int.le_refl _
theorem Aet(g:Int):VK (F8 g):=⟨rfl,.inl (by simp[Py,F8,FP]),fun _ _ _=>rfl,fun a AK=>absurd AK List.not_mem_nil⟩
def runN(S:Bv)(nd:Int)(cs:List Dg):Nat->Bv×List FE×Int
 |0=>(S,[],0)
 |i+1=>
  let r:=runN S nd cs i
  if r.2.2=0 then
   let x:=Gc r.1 (cs.getD i default) ((i:Int)+1) nd
   (x.1,r.2.1++x.2.1,x.2.2)
  else r
structure XO (S T:Bv) (i:Nat):Prop where
 right:LN T=true
 ints:VB T
 set:VK T
 ix:T.DX=i
 g:T.CZ=S.CZ
theorem fJ{g:Int}(h:Ih g=true):XO (F8 g) (F8 g) 0:=by
 obtain⟨a,b⟩:=Aeu h
 exact⟨(Zc a.ints.ac a.ints.PZ a.ints.O8).2 ⟨a,fun x Ab=>by rw[b]at Ab;exact absurd Ab List.not_mem_nil⟩,a.ints,Aet g,rfl,rfl⟩
theorem Ah0{S T:Bv}{i:Nat}{c:Dg}{nd:Int}(h:XO S T i)(Bm:c.wf)(HG:1<=nd)(MF:nd<=5)(Ag:(i:Int)+1<=EW):(Gc T c ((i:Int)+1) nd).2.2=0/\XO S (Gc T c ((i:Int)+1) nd).1 (i+1):=by
 have Bw:=w7 (c:=c) h.right HG MF (by rw[h.ix];show(i:Int)<(i:Int)+1;omega) Ag
 obtain⟨_,a,b,d,e⟩:=w5 h.ints Bm Bw
 exact⟨Bw,a,b,w6 h.ints Bm Bw,by rw[e];omega,d.trans h.g⟩
theorem cl{S:Bv}{nd:Int}{cs:List Dg}(BO:XO S S 0)(hw:∀c∈cs,c.wf)(HG:1<=nd)(MF:nd<=5)(AN:(cs.length:Int)<=EW):∀i,i<=cs.length->(runN S nd cs i).2.2=0/\XO S (runN S nd cs i).1 i
 |0,_=>⟨rfl,BO⟩
 |i+1,Ag=>by
  obtain⟨a,b⟩:=cl BO hw HG MF AN i (by omega)
  have e:runN S nd cs (i+1)=((Gc (runN S nd cs i).1 (cs.getD i default) ((i:Int)+1) nd).1,(runN S nd cs i).2.1++(Gc (runN S nd cs i).1 (cs.getD i default) ((i:Int)+1) nd).2.1,(Gc (runN S nd cs i).1 (cs.getD i default) ((i:Int)+1) nd).2.2):=by
   rw[runN]
   simp only
   rw[if_pos a]
  rw[e]
  exact Ah0 b (hw _ (Hl (by omega))) HG MF (by omega)
def Apz(K:Int)(a:AD):Prop:=∀h∈a.A0,h.G0<=K
def Apx(K:Int)(l:List AD):Prop:=∀a∈l,Apz K a
theorem le_nil{K:Int}{a:AD}(h:a.A0=[]):Apz K a:=fun x Ab=>by rw[h]at Ab;exact absurd Ab List.not_mem_nil
theorem ApB{K:Int}:Apz K Fj:=le_nil rfl
theorem AqU{K:Int}(k:ByteArray):Apz K (O9 k).1:=by
 unfold O9
 split<;>exact le_nil rfl
theorem ApI{K:Int}{l:List AD}(h:Apx K l)(k:ByteArray):Apz K (BF l k).1:=by
 cases e:(BF l k).2 with
 |true=>exact h _ (Q2 e).1
 |false=>rw[(UH e).2];exact AqU k
theorem Ap0{β GA:Type}[Inhabited β][DecidableEq GA]{key:β->GA}{lt:GA->GA->Bool}{x y:β}{l:List β}(h:y∈FQ key lt x l):y=x\/y∈l:=by
 unfold FQ at h
 split at h
 · exact(List.mem_or_eq_of_mem_set h).symm
 · exact Aeg.1 h
theorem ApF{K:Int}{w:Ah}{a:AD}(h:Apx K w.S.Aj)(AK:Apz K a):Apx K (w.put a).S.Aj:=fun x Ab=>by
 rcases Ap0 Ab with rfl|Ab
 · exact AK
 · exact h x Ab
theorem Ap5{K n:Int}{a:AD}(h:Apz K a):Apz K (JF a n).1:=by
 unfold JF
 repeat' split
 all_goals first|exact ApB|exact h
theorem Aqp{K:Int}{s:GC}{a:AD}(h:Apz K a):Apz K (Pu a s).1:=by
 unfold Pu
 repeat' split
 all_goals first|exact ApB|exact h
theorem ArD{K:Int}{l:F_}{a:AD}(h:Apz K a):Apz K (KA a l).1:=by
 unfold KA
 repeat' split
 all_goals first|exact ApB|exact h
theorem ApY{K:Int}{c:Bool}{a:AD}(h:Apz K a):Apz K (D1 a c).1:=by
 unfold D1
 split
 · exact ApB
 · split
   · exact ApB
   · exact h
theorem AqF{K r:Int}{a:AD}(h:Apz K a):Apz K (Mx a r).1:=by
 unfold Mx
 repeat' split
 all_goals first|exact ApB|exact h
theorem ArF{K:Int}{a:AD}(h:Apz K a):Apz K (OA a).1:=by
 unfold OA
 repeat' split
 all_goals first|exact ApB|exact h
theorem Aro{K n le r IG:Int}{a:AD}(h:Apz K a):Apz K (Mk a n le r IG).1:=by
 unfold Mk
 split
 · exact ApB
 · split
   · exact ApB
   · split
     · exact ApB
     · split
       · exact ApB
       · exact fun x Ab=>h x (List.mem_filter.1 Ab).1
theorem AqH{K n ix nd:Int}{a:AD}(h:Apz K a)(AE:ix<=K):Apz K (Kl a n ix nd).1:=by
 unfold Kl
 split
 · exact ApB
 · split
   · exact ApB
   · split
     · exact ApB
     · intro x Ab
       rcases Ap0 Ab with rfl|Ab
       · show(JW a n ix).G0<=K
         unfold JW
         split
         · rename_i e
           rw[G9,Bool.and_eq_true,decide_eq_true_eq]at e
           exact h _ (Hl e.1)
         · exact AE
       · exact h x Ab
-- the steps
theorem ApV(w:Ah)(c q:Int)(a:De):(w.done c q a).S.Aj=w.S.Aj:=by
 unfold Ah.done
 simp only
 split<;>rfl
theorem ApT(w:Ah)(c q n:Int)(k:ByteArray)(a:De):(w.served c q n k a).S.Aj=w.S.Aj:=by
 unfold Ah.served
 simp only
 split<;>exact ApV ..
theorem Ap1(w:Ah)(c q:Int):(w.raise c q).S.Aj=w.S.Aj:=by
 unfold Ah.raise
 split<;>rfl
theorem ApW{K:Int}{w:Ah}(c q e:Int)(h:Apx K w.S.Aj):Apx K (w.ends c q e).S.Aj:=by
 unfold Ah.ends
 simp only
 rw[Ap1]
 show Apx K ((w.done c q (HN e)).S.Aj.map _)
 rw[ApV]
 intro x Ab
 obtain⟨a,AK,rfl⟩:=List.mem_map.1 Ab
 split
 · exact ApY (h a AK)
 · exact h a AK
theorem Arb{K:Int}{w:Ah}{c:Dg}(h:Apx K w.S.Aj):Apx K (w.op c).S.Aj:=by
 unfold Ah.op
 split
 · exact h
 · simp only
   split
   · exact h
   · split
     · split<;>exact h
     · split
       · exact h
       · split
         · unfold Ah.T5
           split
           · rw[ApT];exact h
           · simp only
             split<;>exact h
         · split
           · unfold Ah.VR
             rw[ApT]
             exact ApF h (Ap5 (ApI h _))
           · split
             · rw[ApT];exact h
             · exact h
theorem Arn{K:Int}{w:Ah}{c:Dg}(h:Apx K w.S.Aj):Apx K (w.report c).S.Aj:=by
 unfold Ah.report
 split
 · exact h
 · split
   · exact ApF h (Aro (ApI h _))
   · exact h
theorem Ap6{K:Int}{w:Ah}(c q:Int)(h:Apx K w.S.Aj):Apx K (w.OR c q).S.Aj:=by
 unfold Ah.OR
 simp only
 split
 · exact ApW _ _ _ h
 · exact h
theorem AqG{K:Int}{w:Ah}{c:Dg}(h:Apx K w.S.Aj):Apx K (w.UQ c).S.Aj:=by
 unfold Ah.UQ
 simp only
 refine Ap6 _ _ ?_
 split
 · rw[ApV];exact h
 · exact h
theorem Arf{K:Int}{w:Ah}{c:Dg}(h:Apx K w.S.Aj):Apx K (w.Vc c).S.Aj:=by
 unfold Ah.Vc
 split
 · exact h
 · split<;>exact h
theorem ArI{K:Int}{w:Ah}{c:Dg}(h:Apx K w.S.Aj):Apx K (w.T' c).S.Aj:=by
 unfold Ah.T'
 simp only
 split
 · exact h
 · split
   · exact ApW _ _ _ h
   · exact h
theorem Aqq{K:Int}{w:Ah}{c:Dg}(h:Apx K w.S.Aj):Apx K (w.S5 c).S.Aj:=by
 unfold Ah.S5
 split
 · exact h
 · simp only
   rw[Ap1]
   split
   · exact ApF h (ApY (ApI h _))
   · exact h
theorem AqE{K:Int}{w:Ah}{c:Dg}(h:Apx K w.S.Aj):Apx K (w.forget c).S.Aj:=by
 unfold Ah.forget
 split<;>exact h
theorem ApX{α:Type}{K:Int}{f:Ah->α->Ah}(BI:∀w x,Apx K w.S.Aj->Apx K (f w x).S.Aj):∀(l:List α) {w:Ah},Apx K w.S.Aj->Apx K (l.foldl f w).S.Aj
 |[],_,h=>h
 |x::r,_,h=>ApX BI r (BI _ x h)
theorem AqR{K:Int}{w:Ah}(x:BX)(h:Apx K w.S.Aj):Apx K (w.Ic x).S.Aj:=by
 unfold Ah.Ic
 split
 · exact h
 · simp only
   split<;>exact h
theorem Art{K:Int}{w:Ah}{c:Dg}(h:Apx K w.S.Aj):Apx K (w.seal c).S.Aj:=by
 unfold Ah.seal
 simp only
 split
 · exact h
 · split
   · exact h
   · refine ApX (fun u d hu=>?_) _ ?_
     · split
       · exact Ap6 _ _ hu
       · exact hu
     · exact ApX (fun u d hu=>AqR d hu) _ (w:={w with S:={w.S with Bt:=c.Dj}}) h
theorem Ap'{b:List UInt8}{p:Fs}(h:(FD b p).2=true):∀a∈(FD b p).1.Aj,a.A0=[]:=by
 unfold FD at h ⊢
 split at h
 · cases h
 · rename_i Af
   rw[if_neg Af]
   split at h
   · rename_i h2
     rw[if_pos h2]
     intro a AK
     obtain⟨j,Ay,rfl⟩:=UP AK
     have:=Nz.1 h2 j Ay
     simp only[Ty,Bool.not_eq_true',Bool.or_eq_false_iff,decide_eq_false_iff_not]at this
     show((Er b).1.Aj.getD j default).A0=[]
     exact List.length_eq_zero_iff.1 (by have:=this.1.1.2;omega)
   · cases h
theorem Aqb{K:Int}{w:Ah}{l:List AD}{p:Fs}(h:Apx K w.S.Aj)(AN:Apx K l):Apx K (w.Ry l p).S.Aj:=by
 rw[tQ]
 show Apx K (l.foldl (fun q a=>FQ (·.Al) Ds a q) w.S.Aj)
 generalize w.S.Aj=m at h
 induction l generalizing m with
 |nil=>exact h
 |cons a r Cg=>
  rw[List.foldl_cons]
  refine Cg (fun x Ab=>AN x (List.mem_cons_of_mem _ Ab)) _ fun x Ab=>?_
  rcases Ap0 Ab with rfl|Ab
  · exact AN _ (List.mem_cons_self ..)
  · exact h x Ab
theorem ArG{K:Int}{w:Ah}{c:Dg}(h:Apx K w.S.Aj):Apx K (w.unseal c).S.Aj:=by
 unfold Ah.unseal
 simp only
 split
 · exact h
 · split
   · split<;>exact h
   · split
     · exact h
     · split
       · exact h
       · rename_i h2
         simp only[Bool.or_eq_true,not_or,Bool.not_eq_true',Bool.not_eq_false]at h2
         have:=Aqb (w:={w with S:={w.S with CW:=FP,Cf:=[],GW:=c.Dj.Ev}}) (p:=w.S.CW) h (fun a AK=>le_nil (Ap' h2.1 a AK))
         split<;>exact this
theorem Aqj{K:Int}{w:Ah}{c:Dg}(h:Apx K w.S.Aj):Apx K (w.RI c).S.Aj:=by
 unfold Ah.RI
 simp only
 split
 · exact h
 · split
   · exact h
   · rename_i h2
     simp only[Bool.or_eq_true,not_or,Bool.not_eq_true',Bool.not_eq_false]at h2
     split
     · exact h
     · exact Aqb (w:={w with S:={w.S with Jc:=c.Dj.Ev}}) (p:=c.Dj) h (fun a AK=>le_nil (Ap' h2.1.1 a AK))
theorem AqT{K:Int}{w:Ah}{c:Dg}(h:Apx K w.S.Aj):Apx K (w.WS c).S.Aj:=by
 unfold Ah.WS
 split<;>exact h
theorem ApA{K:Int}{p:Prop}[Decidable p]{a b:Ah}(AK:Apx K a.S.Aj)(Aq:Apx K b.S.Aj):Apx K (if p then a else b).S.Aj:=by
 split
 · exact AK
 · exact Aq
theorem ApU{K:Int}{w:Ah}{c:Dg}(h:Apx K w.S.Aj):Apx K (w.cmd c).S.Aj:=by
 unfold Ah.cmd
 exact ApA (Arb h) (ApA (Arn h) (ApA (AqG h) (ApA (Arf h) (ApA (ArI h) (ApA (Aqq h) (ApA (AqE h) (ApA (Art h) (ApA (ArG h) (ApA (Aqj h) (ApA (AqT h) h))))))))))
theorem ArC{K:Int}{w:Ah}{o:FL}(h:Apx K w.S.Aj):Apx K (H3 w o).1.S.Aj:=by
 unfold H3
 simp only
 split
 · exact h
 · split
   · exact h
   · split
     · split
       · exact h
       · split
         · exact ApF h (Aqp (ApI h _))
         · exact h
     · split
       · exact ApF h (Ap5 (ApI h _))
       · exact h
theorem AqQ{K:Int}{w:Ah}{x:BX}(h:Apx K w.S.Aj):Apx K (w.Lf x).S.Aj:=by
 unfold Ah.Lf
 split
 · exact h
 · simp only
   have Bh:=ArD (l:=⟨x.Ap,x.As,x.DH,x.AM.B2⟩) (ApI h x.AM.Al)
   generalize KA _ _=r at Bh
   have BC:Apx K (if r.2=0 then w.put r.1 else w.tell 3 x.Ap x.As GS).S.Aj:=ApA (ApF h Bh) h
   generalize (if r.2=0 then w.put r.1 else w.tell 3 x.Ap x.As GS)=v at BC
   split
   · split
     · rw[Ap1];exact BC
     · exact BC
   · split
     · exact ApA (ApF BC (ApY Bh)) BC
     · exact ApA (ApW _ _ _ BC) BC
theorem ArL{K:Int}{w:Ah}(i:Nat)(h:Apx K w.S.Aj):Apx K (w.L6 i).S.Aj:=by
 unfold Ah.L6
 simp only
 split
 · rw[ApT];exact ArC (w:={w with S:={w.S with AA:=w.S.AA.eraseIdx i}}) h
 · exact AqQ (w:={w with S:={w.S with AA:=w.S.AA.eraseIdx i}}) h
theorem Aqf{K:Int}:∀(n:Nat) {w:Ah},Apx K w.S.Aj->Apx K (Ah.waits n w).S.Aj
 |0,_,h=>h
 |n+1,w,h=>by
  rw[Ah.waits]
  split
  · exact Aqf n (ArL _ h)
  · exact h
theorem Arr{K:Int}{w:Ah}(h:Apx K w.S.Aj)(AE:w.ix<=K):Apx K w.rest.S.Aj:=by
 unfold Ah.rest
 simp only
 intro a AK
 refine(?_ :Apx K _) a (List.mem_filter.1 AK).1
 have Af:Apx K (LG w.S).Aj:=by
  rcases Abp (S:=w.S)with⟨e,_⟩|⟨_,_,e⟩
  · rw[e];exact h
  · rw[e];exact fun a AK=>h a (List.mem_filter.1 AK).1
 have h2:Apx K ((LG w.S).Aj.map (Jv (LG w.S) w.ix)):=fun x Ab=>by
  obtain⟨a,AK,rfl⟩:=List.mem_map.1 Ab
  unfold Jv
  split
  · exact AqF (Af a AK)
  · exact ArF (Af a AK)
 have:∀(l:List JE) (v:Ah),Apx K v.S.Aj->v.ix<=K->Apx K (l.foldl Ah.Iv v).S.Aj:=by
  intro l
  induction l with
  |nil=>exact fun v BC _=>BC
  |cons x r Cg=>
   intro v BC AE
   rw[List.foldl_cons]
   have Ab:(v.Iv x).ix=v.ix:=by
    unfold Ah.Iv
    split
    · rfl
    · split<;>rfl
   refine Cg _ ?_ (by rw[Ab];exact AE)
   unfold Ah.Iv
   split
   · exact BC
   · split
     · exact ApF BC (AqH (ApI BC _) AE)
     · exact BC
 exact this w.BQ {w with S:={LG w.S with Aj:=(LG w.S).Aj.map (Jv (LG w.S) w.ix)}} h2 AE
theorem Aql{K:Int}{S:Bv}{c:Dg}{ix nd:Int}(Ag:VB S)(Bm:c.wf)(h:Apx K S.Aj)(AE:ix<=K):Apx K (Gc S c ix nd).1.Aj:=by
 have z:Apx K IP.Aj:=fun a AK=>absurd AK List.not_mem_nil
 unfold Gc
 split
 · exact z
 · rename_i Bh
   have Bh:LN S=true:=by simpa using Bh
   split
   · exact z
   · rename_i Ao
     split
     · exact z
     · rename_i Ab
       simp only[Bool.or_eq_true,decide_eq_true_eq,not_or]at Ao Ab
       obtain⟨BO,_⟩:=(Zc Ag.ac Ag.PZ Ag.O8).1 Bh
       have Fx:=BO.ix
       obtain⟨Sp,HG⟩:=Fx
       have Bw:Ce {S with DX:=ix}:={BO with ix:=⟨by show 0<=ix;omega,by show ix<=EW;omega⟩,own:=⟨BO.own.no,BO.own.yes⟩,acc:=BO.acc,wt:=BO.wt,Hc:=BO.Hc}
       have A1:=dO (w:={S:={S with DX:=ix},ix:=ix,nd:=nd,EF:=[],BQ:=[]}) (c:=c) Bw Bm (by show nd<=5;omega)
       have Af:=ApU (w:={S:={S with DX:=ix},ix:=ix,nd:=nd,EF:=[],BQ:=[]}) (c:=c) h
       simp only
       generalize ({S:={S with DX:=ix},ix:=ix,nd:=nd,EF:=[],BQ:=[]}:Ah).cmd c=w at A1 Af
       have AY:=gH w.S.AA.length A1.ws
       refine Arr (Aqf _ Af) ?_
       have:(Ah.waits w.S.AA.length w).ix=ix:=AY.x.trans A1.x
       omega
theorem Aqa{g nd:Int}{cs:List Dg}(CK:Ih g=true)(hw:∀c∈cs,c.wf)(HG:1<=nd)(MF:nd<=5)(AN:(cs.length:Int)<=EW):∀i,i<=cs.length->Apx (i:Int) (runN (F8 g) nd cs i).1.Aj
 |0,_=>fun a AK=>absurd AK (by show ¬a∈(F8 g).Aj;rw[(Aeu CK).2];exact List.not_mem_nil)
 |i+1,Ag=>by
  obtain⟨a,b⟩:=cl (fJ CK) hw HG MF AN i (by omega)
  have h:=Aqa CK hw HG MF AN i (by omega)
  have e:(runN (F8 g) nd cs (i+1)).1=(Gc (runN (F8 g) nd cs i).1 (cs.getD i default) ((i:Int)+1) nd).1:=by
   rw[runN]
   simp only
   rw[if_pos a]
  rw[e]
  exact Aql b.ints (hw _ (Hl (by omega))) (fun x Ab y Bf=>by have:=h x Ab y Bf;omega) (by omega)
def ApL(S:Bv)(c:Dg)(l:List FE):Prop:=
 l=[]\/c.Ca=1/\(l=[⟨2,c.Ap,c.As,GS⟩]\/(FU S.Bz c.Ap).2=true/\(FU S.Bz c.Ap).1.As=c.As/\l=[⟨1,c.Ap,c.As,(FU S.Bz c.Ap).1.Cm⟩])
theorem Aqo{l:List BL}{c q:Int}(h:(IS l c q).2.2=0)(Af:(IS l c q).2.1=false):(IS l c q).1=l/\(FU l c).2=true/\(FU l c).1.As=q:=by
 unfold IS at h Af ⊢
 split at h
 · cases h
 · rename_i a
   rw[if_neg a]at Af ⊢
   split at h
   · cases h
   · rename_i b
     rw[if_neg b]at Af ⊢
     split at h
     · cases h
     · rename_i d
       rw[if_neg d]at Af ⊢
       split at Af
       · rename_i e
         rw[if_pos e]
         rw[Bool.and_eq_true,decide_eq_true_eq]at e
         exact⟨rfl,e.1,e.2⟩
       · cases Af
theorem Arc{w:Ah}{c:Dg}(AE:c.Ca=1)(h:¬c.Dn=w.S.Dn\/¬(IS w.S.Bz c.Ap c.As).2.2=0\/(IS w.S.Bz c.Ap c.As).2.1=false):∃l,w.op c={w with EF:=w.EF++l}/\ApL w.S c l:=by
 have Fb:w={w with EF:=w.EF++[]}:=by rw[List.append_nil]
 unfold Ah.op
 split
 · exact⟨[],Fb,.inl rfl⟩
 · simp only
   split
   · exact⟨[],Fb,.inl rfl⟩
   · rename_i Af
     have Af:=Classical.not_not.1 Af
     split
     · rename_i h2
       obtain⟨x,y,z⟩:=Aqo Af h2
       rw[x]
       split
       · exact⟨[⟨1,c.Ap,c.As,(FU w.S.Bz c.Ap).1.Cm⟩],rfl,.inr ⟨AE,.inr ⟨y,z,rfl⟩⟩⟩
       · exact⟨[],Fb,.inl rfl⟩
     · rename_i h2
       have he:¬c.Dn=w.S.Dn:=by
        rcases h with h|h|h
        · exact h
        · exact absurd Af h
        · exact absurd h h2
       rw[if_pos (by simp[he])]
       exact⟨[⟨2,c.Ap,c.As,GS⟩],rfl,.inr ⟨AE,.inl rfl⟩⟩
theorem Arh{w:Ah}{c:Dg}(h:¬c.Dn=w.S.Dn):w.Vc c=w:=by
 unfold Ah.Vc
 rw[if_pos (by simp[h])]
theorem Aru{w:Ah}{c:Dg}(h:¬c.Dn=w.S.Dn):w.seal c=w:=by
 unfold Ah.seal
 simp only
 rw[if_pos (by simp[h])]
theorem AqD{a:AD}{n:Int}(h:(IC a n).2=true):(IC a n).1∈a.A0:=by
 unfold IC at h ⊢
 split
 · rename_i q
   rw[if_pos q]at h
   cases h
 · rename_i q
   rw[if_neg q]at h
   split
   · rename_i j e
     exact Hl (Q4 e)
   · rename_i e
     rw[e]at h
     cases h
theorem Arp{w:Ah}{c:Dg}(h:(BF w.S.Aj c.Al).2=true->(BF w.S.Aj c.Al).1.Cn=c.Cn->¬c.Cn=0->∀x∈(BF w.S.Aj c.Al).1.A0,¬x.G0=c.G0):w.report c=w:=by
 unfold Ah.report
 split
 · rfl
 · rename_i Af
   have Af:(BF w.S.Aj c.Al).2=true:=by simpa using Af
   rw[if_neg]
   intro e
   unfold Mk at e
   split at e
   · cases e
   · split at e
     · cases e
     · rename_i Bo
       split at e
       · cases e
       · rename_i BB
         simp only[Bool.or_eq_true,not_or,Bool.not_eq_true',Bool.not_eq_false,decide_eq_true_eq]at Bo BB
         exact h Af BB.2 (by rw[<-BB.2];exact BB.1) _ (AqD Bo.1) Bo.2
theorem Aqs{w:Ah}{c:Dg}(h:c.Ca=2):w.cmd c=w.report c:=by simp[Ah.cmd,h]
theorem Aqt{w:Ah}{c:Dg}(h:c.Ca=4):w.cmd c=w.Vc c:=by simp[Ah.cmd,h]
theorem Aqu{w:Ah}{c:Dg}(h:c.Ca=8):w.cmd c=w.seal c:=by simp[Ah.cmd,h]
theorem Aqv{w:Ah}{c:Dg}(h:c.Ca=99):w.cmd c=w:=by simp[Ah.cmd,h]
theorem Arl{Ei S:Bv}{i:Nat}{c:Dg}(h:XO Ei S i)(Ag:(i:Int)+1<=EW)(AN:Apx (i:Int) S.Aj)
 (Bm:(c.Ca=1\/c.Ca=4\/c.Ca=8)/\¬c.Dn=S.Dn\/c.Ca=2/\((BF S.Aj c.Al).2=true->(BF S.Aj c.Al).1.Cn=c.Cn->¬c.Cn=0->c.G0=EW)\/c.Ca=99):
 ∃l,Gc S c ((i:Int)+1) 3=({S with DX:=(i:Int)+1},l,0)/\ApL S c l:=by
 have Ab:S.DX=i:=h.ix
 have go:∀l,({S:={S with DX:=(i:Int)+1},ix:=(i:Int)+1,nd:=3,EF:=[],BQ:=[]}:Ah).cmd c={S:={S with DX:=(i:Int)+1},ix:=(i:Int)+1,nd:=3,EF:=l,BQ:=[]}->ApL S c l->∃l,Gc S c ((i:Int)+1) 3=({S with DX:=(i:Int)+1},l,0)/\ApL S c l:=fun l q t=>
  ⟨l,Aqm h.right h.set (by decide) (by decide) (by omega) (by omega) Ag q,t⟩
 rcases Bm with⟨AE,he⟩|⟨AE,he⟩|AE
 · rcases AE with AE|AE|AE
   · obtain⟨l,a,b⟩:=Arc (w:={S:={S with DX:=(i:Int)+1},ix:=(i:Int)+1,nd:=3,EF:=[],BQ:=[]}) AE (.inl he)
     exact go l (by rw[Ah.cmd,if_pos AE,a];rfl) b
   · exact go [] (by rw[Aqt AE];exact Arh he) (.inl rfl)
   · exact go [] (by rw[Aqu AE];exact Aru he) (.inl rfl)
 · refine go [] ((Aqs AE).trans (Arp fun a b d x Ab e=>?_)) (.inl rfl)
   have Af:=AN _ (Q2 a).1 x Ab
   have h2:=he a b d
   rw[e,h2]at Af
   omega
 · exact go [] (Aqv AE) (.inl rfl)
section
@[reducible] def DG(p:Nat)(J:List Nat)(w:Cc):C4:=RW (σ:=Value) J (fun k=>[AO p 281 [.pointer none,k,.bool w.E6,.int .i64 0],@row UInt8 Rv 5 k w.out]) (fun _=>[]) (fun _=>w.out.length<=65536)
instance {α:Type} [Inhabited α]:Inhabited (Cq α):=⟨⟨default⟩⟩
section
variable{c:Cj} {ops:Array Oper} {Q:Exit->Act->World->Prop} {env:Env} {L:Go.A_.Own} {D:List Atom} {p:Nat} {J:List Nat}
theorem L2{w:Cc}{x:Code}(k:∀k,w.out.length<=65536->CF c x Q env (AO p 281 [.pointer none,k,.bool w.E6,.int .i64 0]::@row UInt8 Rv 5 k w.out::L) (D)):CF c x Q env (DG p J w::L) (D):=
 rN 0 rfl fun y h=>k y h
theorem Mh(w:Cc)(k:Value){L0:Go.A_.Own}{x:Code}(Dv:L0=AO p 281 [.pointer none,k,.bool w.E6,.int .i64 0]::@row UInt8 Rv 5 k w.out::L)(AU:w.out.length<=65536)(NP:∀J,CF c x Q env (DG p J w::L) (D)):CF c x Q env (L0) (D):=
 nO (LL:=fun k:Value=>[AO p 281 [.pointer none,k,.bool w.E6,.int .i64 0],@row UInt8 Rv 5 k w.out]) (DD:=fun _=>[]) (I:=fun _=>w.out.length<=65536) [] L k Dv AU Bg.nil (NP _)
theorem Ng(w:Cc)(k:Value){L0:Go.A_.Own}{e:Exit}(Dv:L0=AO p 281 [.pointer none,k,.bool w.E6,.int .i64 0]::@row UInt8 Rv 5 k w.out::L)(AU:w.out.length<=65536)(NP:∀J,Eg c Q e env (DG p J w::L) (D)):Eg c Q e env (L0) (D):=
 nP (LL:=fun k:Value=>[AO p 281 [.pointer none,k,.bool w.E6,.int .i64 0],@row UInt8 Rv 5 k w.out]) (DD:=fun _=>[]) (I:=fun _=>w.out.length<=65536) [] L k Dv AU Bg.nil (NP _)
end
theorem AkZ{b:List UInt8}{w:Cc}(h:w.out.length<=65536):(H4 b w).out.length<=65536:=by
 unfold H4
 split
 · exact h
 ·
  rename_i q
  simp only[Bool.or_eq_true,decide_eq_true_eq,not_or]at q
  rw[List.length_append]
  omega
theorem uQ{b:List UInt8}{n:Nat}(h:n<=65536):decide ((b.length:Int)>65536-(n:Int))=decide (b.length>65536-n):=by
 rw[decide_eq_decide]
 omega
def B_(l:List (Cq Int))(w:Cc):Cc:=l.foldl (fun w v=>E2 v.x w) w
def E0:List (Cq ByteArray)->Cc->Cc
 |[],w=>w
 |s::r,w=>if s.x.size>65535 then{w with E6:=true}else E0 r (KT s.x.data.toList w)
end
theorem Aj9{S:Bv}(h:Ce S){k:ByteArray}(AE:Ix k=true){l:F_}(AN:l.wf)(Ao:¬l.B2=0)(e:(KA (BF S.Aj k).1 l).2=0):(BF S.Aj k).2=true/\(KA (BF S.Aj k).1 l).1.Al=k:=by
 obtain⟨f1,f2,f3⟩:=V9 h AE
 obtain⟨p,_,_,Qj,CY,Dh,q,s⟩:=gu f2 AN e
 refine⟨?_,by rw[p];exact f3⟩
 cases S_:(BF S.Aj k).2 with
 |true=>rfl
 |false=>
  exfalso
  have Cu:(BF S.Aj k).1={Fj with Al:=k}:=by rw[(UH S_).2];exact(YR AE).1
  rw[Cu]at CY Dh
  have CY:(0:Int)<=0+l.B2:=CY
  have Dh:(0:Int)+l.B2<=0:=Dh
  omega
theorem q4:∀(l:List JE) (v:Ah),(l.foldl Ah.Iv v).EF=v.EF
 |[],_=>rfl
 |x::r,v=>by
  rw[List.foldl_cons,q4 r]
  unfold Ah.Iv
  split
  · rfl
  · split<;>rfl
theorem Ait(w:Ah):w.rest.EF=w.EF:=by
 unfold Ah.rest
 simp only
 rw[q4]
end Go.Apw
namespace Go.A_
open Go.RowKit
section
section
variable{c:Cj} {ops:Array Oper} {AP:Cj->Array Oper->List Oper->Env->Own->List Atom->Prop} [Dr:Ip AP] {env:Env} {L:Own} {D:List Atom} {rest:List Oper} {d:Nat} {t:TypeId} {p:String} {af:Array Edge} {x y:Operand} {m n:Int}
include Dr
theorem rz{q:IntKind}{ats:Array TypeId}(Ab:AL env x=some (.int q m))(Bf:AL env y=some (.int q n)){r:Int}(Bh:min m n=r)(Ao:Nat.blt d c.n=true)(k:AP c ops rest ((d,.int q r)::env) L D):
 AP c ops (⟨some d,.call {callee:=.builtin .min,args:= #[x,y],argTypes:=ats},t,p,af,none⟩::rest) env L D:=
 pu rfl rfl Ao (fun a w f=>by
  subst Bh
  have e:min m n=if n<m then n else m:=by omega
  simp[execOp,resolve,invoke,builtin,f.AL Ab,f.AL Bf,Builtin.min_,Builtin.min2,e]) k
variable{Ec FK:TypeId} {q:IntKind} {r:Int}
theorem AhV(Ab:AL env x=some (.int q m))(Bf:AL env y=some (.int q n))(Bw:n≠0)(Bh:q.wrap (m.tdiv n)=r)(Ao:Nat.blt d c.n=true)(k:AP c ops rest ((d,.int q r)::env) L D):AP c ops (⟨some d,.binOp .quo Ec x y FK,t,p,af,none⟩::rest) env L D:=by subst Bh;exact AhW Ab Bf Bw Ao k
theorem k'(Ab:AL env x=some (.int q m))(Bf:AL env y=some (.int q n))(Bw:n≠0)(Bh:m.tmod n=r)(Ao:Nat.blt d c.n=true)(k:AP c ops rest ((d,.int q r)::env) L D):AP c ops (⟨some d,.binOp .rem Ec x y FK,t,p,af,none⟩::rest) env L D:=by subst Bh;exact Aik Ab Bf Bw Ao k
theorem xc(Ab:AL env x=some (.int q m))(Bf:AL env y=some (.int q n))(Bh:q.wrap (m+n)=r)(Ao:Nat.blt d c.n=true)(k:AP c ops rest ((d,.int q r)::env) L D):AP c ops (⟨some d,.binOp .add Ec x y FK,t,p,af,none⟩::rest) env L D:=by subst Bh;exact Jm Ab Bf Ao k
theorem tM(Ab:AL env x=some (.int q m))(Bf:AL env y=some (.int q n))(Bh:q.wrap (m-n)=r)(Ao:Nat.blt d c.n=true)(k:AP c ops rest ((d,.int q r)::env) L D):AP c ops (⟨some d,.binOp .sub Ec x y FK,t,p,af,none⟩::rest) env L D:=by subst Bh;exact Ajg Ab Bf Ao k
theorem Aev(Ab:AL env x=some (.int q m))(Bh:q.wrap (0-m)=r)(Ao:Nat.blt d c.n=true)(k:AP c ops rest ((d,.int q r)::env) L D):AP c ops (⟨some d,.unOp .neg Ec x,t,p,af,none⟩::rest) env L D:=by subst Bh;exact Aew Ab Ao k
theorem GZ{α:Type}{r:Be α}(i:Nat){l:List Oper}{e:TypeId}{v:Value}{xs:List α}(Ag:L[i]? =some (@row α r e v xs))(k:v.oneCell'=true->AP c ops l env L D):AP c ops l env L D:=
 Dr.fact (fun a w f st AR=>by
  obtain⟨Cy,G8,_⟩:=st.own _ (List.mem_of_getElem? Ag)
  rcases G8.2 with⟨rfl,_⟩|⟨g,cap,cur,rfl,_⟩<;>rfl) k
end
end
end Go.A_
set_option maxRecDepth 20000
namespace Go.Proofs.YtalfaopffbkdnaaGreat
open Go.A_ Go.Apw
theorem BS{b:Bool}:¬IA b=0↔b=false:=by cases b<;>simp[IA]
theorem Aex(n:Int):IntKind.u64.wrap (0-n % 18446744073709551616)=(-n) % 18446744073709551616:=by rw[OE];omega
theorem oV(n:Int)(Bw:0<=n):Cv AG 194 [.int .u64 n] [] (.int .i64 (H' n)):=by
 exact Aw.proof Tryz.func194 G 6 G G fun X w=>AF 1 G<|Ae<|An G G<|rz G G G G<|F0 Tryz.underlying136 Tryz.underlying3 G (Uf BV) G<|U 1 G<|Ac<|rt<|Bq () G G (by rfl) G Aa
theorem mD{v:Int}(Bw:0<=v)(Af:v<18446744073709551616):IntKind.u64.wrap v=v:=by rw[OE];omega
theorem AhX{n p:Int}(Bw:0<=n)(Af:n<18446744073709551616)(AH:1<=p):IntKind.u64.wrap (n.tdiv p)=n / p:=by
 rw[OE,Int.tdiv_eq_ediv_of_nonneg Bw]
 exact Int.emod_eq_of_lt (Int.ediv_nonneg Bw (by omega)) (Int.lt_of_le_of_lt (Int.ediv_le_self _ Bw) Af)
theorem Ail{n p:Int}(Bw:0<=n):n.tmod p=n % p:=Int.tmod_eq_emod_of_nonneg Bw
theorem Ajz{n p:Int}(Bw:0<=n)(Af:n<18446744073709551616)(AH:1<=p)(Bh:0<n % p):IntKind.u64.wrap (n / p+1)=n / p+1:=by
 rw[OE]
 have AJ:=Int.mul_ediv_add_emod n p
 have h2:=Int.ediv_nonneg Bw (show 0<=p by omega)
 have Bo:n / p<=p*(n / p):=by
  have:=Int.mul_le_mul_of_nonneg_right AH h2
  omega
 exact Int.emod_eq_of_lt (by omega) (by omega)
theorem te(n p i:Int)(Bw:0<=n)(Af:n<18446744073709551616)(Tm:A' p)(Aa8:A' i):Cv AG 195 [.int .u64 n,.int .i64 p,.int .i64 i] [] (.int .u64 (JA n p i)):=by
 refine Aw.proof Tryz.func195 G 35 G G fun X w=>?_
 obtain⟨Am',Ana⟩:=id Tm
 obtain⟨Am3,Am4⟩:=id Aa8
 refine AF 1 G<|Am<|Ae<|U 3 G<|ET 11 3 [] [0,1,2] G G G<|An G G<|ET 15 4 [] [0,1,2] G G G<|Ac<|BN G (fun Fe=>?_) (fun Fe=>?_)
 · exact AF 1 G<|BA<|Bq () G G (by rw[JA,if_pos Fe]) G Aa
 ·
  have Qs:1<=p/\0<=i/\i<p:=by
   have q:=Fe
   simp only[Bool.or_eq_false_iff,decide_eq_false_iff_not]at q
   omega
  obtain⟨Rn,WY,r3⟩:=Qs
  refine AZ<|Am<|Gx mixed (by kernel_rfl)<|U 2 G<|F0 Tryz.underlying3 Tryz.underlying136 G (mD (v:=p) (by omega) (by omega)) G<|AhV G G (by omega) (AhX Bw Af Rn) G<|U 2 G<|F0 Tryz.underlying3 Tryz.underlying136 G (mD (v:=p) (by omega) (by omega)) G<|k' G G (by omega) (Ail Bw) G<|U 2 G<|Gj<|A5<|Am<|Ae<|An G G<|F0 Tryz.underlying3 Tryz.underlying136 G (mD (v:=i) (by omega) (by omega)) G<|U 2 G<|Ac<|B9 G (fun ES=>?_) (fun ES=>?_)
  · exact rg<|An G G<|xc G G (Ajz Bw Af Rn (by omega)) G<|U 1 G<|Ac<|AF 2 G<|rt<|Bq () G G (by rw[JA,if_neg (by rw[Fe];decide),if_pos ES]) G Aa
  · exact AZ<|AF 2 G<|rt<|Bq () G G (by rw[JA,if_neg (by rw[Fe];decide),if_neg ES]) G Aa
theorem sR(a:AD)(Cw:Value)(C6:a.wf):Cv AG 189 [.agg (A3 a Cw).toArray] [⟨Cw,a.A0⟩] (.tuple #[.int .u64 (K4 a),.int .u64 (Jx a)]):=by
 refine Aw.proof Tryz.func189 G 34 G G fun X w=>Ae<|CV G G G fun CY=>U 2 G<|Ac<|Am<|Ae<|BJ 0 (A3 a Cw) G G (At G) G G<|B0 (Ps _ _ C6) (Ar G) G (Ad 0 G Aa) G<|U 2 G<|DE 10 3 [1] G G (fun Dq ZE=>Bl G G G<|BJ 0 (A3 a Cw) G G (At G) G G<|Bl G G G<|B0 (YP _ _ C6) (Ar G) G (Ad 0 G Aa) G<|U 1 G<|ZE G Br)<|Ac<|BN G (fun Dp=>?_) (fun Dp=>?_)
 · exact AF 2 G<|BA<|AQ<|Fl () G G G (by rw[K4,Jx,if_pos Dp,if_pos Dp]) G Aa
 ·
  have HJ:E4 a=true/\G_ a=false:=by simpa[Bool.or_eq_false_iff]using Dp
  have hh:LI a.A0=true:=((P3 C6.2.1).1 HJ.1).hold
  exact AZ<|Ae<|BJ 0 (A3 a Cw) G G (At G) G G<|B0 (q6 _ _ C6 (by assumption)) (Ar G) G (Ad 0 G Aa) G<|U 7 G<|Ac<|Am<|Gx mixed (by kernel_rfl)<|An G G<|F0 Tryz.underlying3 Tryz.underlying136 G (OE _) G<|AX 3 [0] G G<|F0 Tryz.underlying3 Tryz.underlying136 G (OE _) G<|tM G G (OE _) G<|AX 3 [0] G G<|F0 Tryz.underlying3 Tryz.underlying136 G (OE _) G<|An G G<|F0 Tryz.underlying3 Tryz.underlying136 G (OE _) G<|tM G G (OE _) G<|U 2 G<|Gj<|A5<|rt<|AQ<|Fl () G G G (by rw[K4,Jx,if_neg (by rw[Dp];decide),if_neg (by rw[Dp];decide)]) G Aa
theorem ma(a:AD)(Cw:Value)(C6:a.wf):Cv AG 173 [.agg (A3 a Cw).toArray] [⟨Cw,a.A0⟩] (.tuple #[.int .i64 (Io a).1,.bool (Io a).2]):=by
 refine Aw.proof Tryz.func173 G 19 G G fun X w=>Ae<|CV G G G fun CY=>U 2 G<|Ac<|Am<|Ae<|BJ 0 (A3 a Cw) G G (At G) G G<|B0 (Ps _ _ C6) (Ar G) G (Ad 0 G Aa) G<|U 2 G<|DE 7 3 [1] G G (fun GY ZC=>Bl G G G<|BJ 0 (A3 a Cw) G G (At G) G G<|Bl G G G<|B0 (YP _ _ C6) (Ar G) G (Ad 0 G Aa) G<|U 1 G<|ZC G Br)<|An G G<|DE 11 5 [1] G G (fun Ct ZG=>AX 2 [0] G G<|Bl G G G<|C2 0 G G Tryz.underlying69 G fun qS=>U 2 G<|ZG G Br)<|Ac<|BN G (fun CR=>?_) (fun CR=>?_)
 · exact AF 2 G<|BA<|AQ<|Fl () G G G (by rw[Io,if_pos CR]) G Aa
 · exact AZ<|I5 4 [0] G G<|rt<|AQ<|Fl () G G G (by rw[Io,if_neg (by rw[CR];decide)]) G Aa
theorem rA(v n:Int)(ja:A' v)(MB:A' n)(Bw:0<=v)(Af:0<=n):Cv AG 193 [.int .i64 v,.int .i64 n] [] (.int .i64 (Iw v n)):=by
 refine Aw.proof Tryz.func193 G 11 G G fun X w=>?_
 obtain⟨Abf,Abg⟩:=id ja
 obtain⟨Yk,Yl⟩:=id MB
 exact AF 1 G<|Ae<|U 3 G<|TU G G BV G<|rz G G G G<|C5 G G BV G<|U 1 G<|Ac<|rt<|Bq () G G (by rfl) G Aa
theorem qQ(a:AD)(Cw:Value)(C6:a.wf):Cv AG 254 [.agg (A3 a Cw).toArray] [⟨Cw,a.A0⟩] (.int .i64 (LJ a)):=by
 refine Aw.proof Tryz.func254 G 15 G G fun X w=>Ae<|CV G G G fun CY=>U 1 G<|Ac<|Am<|Ae<|BJ 0 (A3 a Cw) G G (At G) G G<|B0 (Ps _ _ C6) (Ar G) G (Ad 0 G Aa) G<|IH G G<|Ac<|BN G (fun GY=>?_) (fun GY=>?_)
 ·
  have Y8:E4 a=false:=by simpa using GY
  exact AF 1 G<|BA<|AQ<|Bq () G G (by rw[LJ,if_pos Y8]) G Aa
 ·
  have Y8:¬E4 a=false:=by simpa using GY
  refine AZ<|Am<|Ae<|BJ 0 (A3 a Cw) G G (At G) G G<|B0 (ma _ _ C6) (Ar G) G (Ad 0 G Aa) G<|U 5 G<|Ac<|AF 2 G<|BN G (fun Fm=>?_) (fun Fm=>?_)
  ·
   have MI:(Io a).2=false:=by simpa using Fm
   exact AF 1 G<|BA<|AQ<|Bq () G G (by rw[LJ,if_neg Y8,if_pos MI]) G Aa
  ·
   have MI:¬(Io a).2=false:=by simpa using Fm
   exact AZ<|AF 1 G<|rt<|AQ<|Bq () G G (by rw[LJ,if_neg Y8,if_neg MI]) G Aa
theorem nZ(Bk:Value)(l:List BD)(hlen:l.length<=100000):Aw AG 130 [Bk] [] [⟨Bk,l⟩] (fun(_:Unit) _=>True) (fun _ v=>[@row BD Mj 83 v l]) (fun _ _=>[]):=by
 refine Aw.proof Tryz.func130 G 8 G G fun X w=>AF 1 G<|Am<|Ae<|An G G<|RT 0 Tryz.underlying69 G G G G fun PM J'=>Ac<|BN G (fun BB=>?_) (fun BB=>?_)
 ·
  have Ab:l=[]:=J' BB
  subst Ab
  exact Lk BD 83<|AF 1 G<|BA<|Bq () G G trivial G Aa
 · exact AZ<|Ae<|NB S1 G fun E'=>Nm (α:=BD) [] [] G G (fun _ _ _=>trivial) G<|An G G<|ap 0 0 G G G G S1 (by simp only[List.length_nil];omega) (by simp only[List.length_nil];omega) G fun EZ=>U 1 G<|Ac<|rt<|Bq () G G trivial G Aa
theorem Uy(a:AD)(Cw:Value)(_:a.wf)(Aq:a.A0.length<=100000):Aw AG 187 [.agg (A3 a Cw).toArray] [] [⟨Cw,a.A0⟩] (fun(y:Value) u=>u=.agg (A3 a y).toArray) (fun y _=>[@row BD Mj 83 y a.A0]) (fun _ _=>[]):=by
 refine Aw.proof Tryz.func187 G 8 G G fun X w=>Ae<|CV G G G fun CY=>CT Hd G fun Dh=>Ac<|Ae<|AX 2 [1] G G<|Dm (nZ _ _ Aq) (Ar G) G (Ad 0 G Aa) G fun _ Mp _=>U 1 G<|IL 2 0 G G G G (A2 G) (Da G)<|Ac<|Ae<|BJ 2 (A3 ((⟨a.Al,(⟨a.Cs.A6,a.Cs.Bc⟩:GC),a.BT,a.Cn,a.A0,(⟨a.BG.Ap,a.BG.As,a.BG.DH,a.BG.B2⟩:F_)⟩:AD)) Mp) G G (At G) G G<|GZ 0 G fun WV=>?_
 exact BZ 1 (us:=(A3 ((⟨a.Al,(⟨a.Cs.A6,a.Cs.Bc⟩:GC),a.BT,a.Cn,a.A0,(⟨a.BG.Ap,a.BG.As,a.BG.DH,a.BG.B2⟩:F_)⟩:AD)) Mp)) G G G (At G) (by simp only[List.all_cons,List.all_nil,Bool.and_true,WV];rfl) G<|Ac<|rt<|Au 2 G<|Au 2 G<|D8 Mp [_,_] (Qv 0 G G G (At G)) (by rfl) G Aa
end Go.Proofs.YtalfaopffbkdnaaGreat
