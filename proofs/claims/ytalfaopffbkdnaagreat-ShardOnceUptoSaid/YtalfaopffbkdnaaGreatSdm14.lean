/- Part 14 of shardOnce_holds. -/
import Derived.Test.YtalfaopffbkdnaaGreatSdm13

set_option maxRecDepth 20000
set_option maxHeartbeats 1000000
namespace Go.Apw
open Go.A_
theorem tz{β GA:Type}[DecidableEq GA]{key:β->GA}{lt:GA->GA->Bool}(o:QL lt):∀{l m:List β},H6 key lt l->H6 key lt m->(∀x,x∈l↔x∈m)->l=m
 |[],[],_,_,_=>rfl
 |[],y::m,_,_,h=>absurd ((h y).2 (List.mem_cons_self ..)) List.not_mem_nil
 |x::l,[],_,_,h=>absurd ((h x).1 (List.mem_cons_self ..)) List.not_mem_nil
 |x::l,y::m,AN,hm,h=>by
  obtain⟨Om,Sl⟩:=List.pairwise_cons.1 AN
  obtain⟨Kq,YQ⟩:=List.pairwise_cons.1 hm
  have e:x=y:=by
   rcases List.mem_cons.1 ((h x).1 (List.mem_cons_self ..))with e|e
   · exact e
   · rcases List.mem_cons.1 ((h y).2 (List.mem_cons_self ..))with IV|IV
     · exact IV.symm
     · have:=o.mb _ _ _ (Om _ IV) (Kq _ e)
       rw[o.Si]at this
       cases this
  subst e
  rw[tz o Sl YQ fun z=>⟨fun Cu=>?_,fun Cu=>?_⟩]
  · rcases List.mem_cons.1 ((h z).1 (List.mem_cons_of_mem _ Cu))with rfl|e
    · have:=Om _ Cu;rw[o.Si]at this;cases this
    · exact e
  · rcases List.mem_cons.1 ((h z).2 (List.mem_cons_of_mem _ Cu))with rfl|e
    · have:=Kq _ Cu;rw[o.Si]at this;cases this
    · exact e
theorem lX{β GA:Type}[DecidableEq GA]{key:β->GA}{lt:GA->GA->Bool}(o:QL lt):∀{l:List β},H6 key lt l->∀{a b:β},a∈l->b∈l->key a=key b->a=b
 |[],_,_,_,h,_,_=>absurd h List.not_mem_nil
 |x::l,AN,a,b,AK,Aq,e=>by
  obtain⟨Om,Sl⟩:=List.pairwise_cons.1 AN
  rcases List.mem_cons.1 AK with X9|o7
  · rcases List.mem_cons.1 Aq with h1|HO
    · rw[X9,h1]
    · have:=Om _ HO;rw[<-e,X9,o.Si]at this;cases this
  · rcases List.mem_cons.1 Aq with h1|HO
    · have:=Om _ o7;rw[e,h1,o.Si]at this;cases this
    · exact lX o Sl o7 HO e
theorem zO{l:List AD}(hs:H6 (·.Al) Ds l){a:AD}(AK:a∈l):(BF l a.Al).1=a:=by
 cases e:(BF l a.Al).2 with
 |true=>exact lX Pa hs (Q2 e).1 AK (Q2 e).2
 |false=>exact absurd rfl ((UH e).1 a AK)
theorem l'{a:AD}:(Io a).2=true↔E4 a=true/\G_ a=false/\a.A0=[]:=by
 unfold Io
 split
 · rename_i h
   simp only[Bool.or_eq_true,Bool.not_eq_true',decide_eq_true_eq]at h
   refine⟨fun q=>(by cases q),fun⟨x,y,z⟩=>?_⟩
   rw[x,y,z]at h
   simp at h
 · rename_i h
   simp only[Bool.or_eq_true,Bool.not_eq_true',decide_eq_true_eq,not_or,Bool.not_eq_false,Bool.not_eq_true]at h
   refine⟨fun _=>⟨h.1.1,h.1.2,List.length_eq_zero_iff.1 (by omega)⟩,fun _=>rfl⟩
structure VK (S:Bv):Prop where
 Aij:KS S=none
 hand:Py S=false\/¬(IW (Gl S S.Bt.A6 S.Bt.Bc)).2=0
 Tx:∀ix,1<=ix->ix<=EW->S.Aj.map (Jv S ix)=S.Aj
 plain:∀a∈S.Aj,FT a=false
-- waits: the rounds are enough
theorem ot(w:Ah)(c q:Int)(a:De):(w.done c q a).S.AA=w.S.AA:=by
 unfold Ah.done
 simp only
 split<;>rfl
theorem Ajp(w:Ah)(c q n:Int)(k:ByteArray)(a:De):(w.served c q n k a).S.AA=w.S.AA:=by
 unfold Ah.served
 simp only
 split<;>exact ot ..
theorem sG(w:Ah)(c q:Int):(w.raise c q).S.AA=w.S.AA:=by
 unfold Ah.raise
 split<;>rfl
theorem y6(w:Ah)(c q e:Int):(w.ends c q e).S.AA.length<=w.S.AA.length:=by
 unfold Ah.ends
 simp only
 rw[sG]
 refine Nat.le_trans (List.length_filter_le ..) ?_
 show(w.done c q (HN e)).S.AA.length<=_
 rw[ot]
 exact Nat.le_refl _
theorem AjV(w:Ah)(o:FL):(H3 w o).1.S.AA=w.S.AA:=by
 unfold H3
 simp only
 repeat' split
 all_goals rfl
theorem AdY(w:Ah)(x:BX):(w.Lf x).S.AA.length<=w.S.AA.length:=by
 unfold Ah.Lf
 split
 · exact Nat.le_refl _
 · simp only
   generalize KA _ _=r
   have BC:(if r.2=0 then w.put r.1 else w.tell 3 x.Ap x.As GS).S.AA=w.S.AA:=by split<;>rfl
   generalize (if r.2=0 then w.put r.1 else w.tell 3 x.Ap x.As GS)=v at BC
   rw[<-BC]
   split
   · split
     · rw[sG];exact Nat.le_refl _
     · exact Nat.le_refl _
   · split
     · split<;>exact Nat.le_refl _
     · split
       · exact y6 ..
       · exact Nat.le_refl _
theorem uH{w:Ah}{i:Nat}(h:i<w.S.AA.length):(w.L6 i).S.AA.length<w.S.AA.length:=by
 have he:(w.S.AA.eraseIdx i).length<w.S.AA.length:=by rw[List.length_eraseIdx_of_lt h];omega
 unfold Ah.L6
 simp only
 split
 · rw[Ajp,AjV];exact he
 · exact Nat.lt_of_le_of_lt (AdY ..) he
theorem lb{S:Bv}{i:Nat}(h:KS S=some i):i<S.AA.length:=Q4 h
theorem uK:∀(n:Nat) (w:Ah),w.S.AA.length<=n->KS (Ah.waits n w).S=none
 |0,w,h=>by
  rw[Ah.waits]
  cases e:KS w.S with
  |none=>rfl
  |some i=>exact absurd (lb e) (by omega)
 |n+1,w,h=>by
  rw[Ah.waits]
  cases e:KS w.S with
  |none=>exact e
  |some i=>exact uK n _ (by have:=uH (lb e);show((w.L6 i).S.AA).length<=n;omega)
-- what is lent
def Up(a b:AD):Prop:=a.Al=b.Al/\a.Cn=b.Cn/\a.BG=b.BG/\(a=b\/b.Cn=0/\a.A0≠[])
theorem q7(a:AD):Up a a:=⟨rfl,rfl,rfl,.inl rfl⟩
structure DU (l m:List AD):Prop where
 to:∀a∈m,∃b∈l,Up a b
 of:∀b∈l,∃a∈m,Up a b
structure Acc (w v:Ah):Prop where
 s:v.S={w.S with Aj:=v.S.Aj}
 e:v.EF=w.EF
 l:v.BQ=w.BQ
theorem AhH{β GA:Type}[Inhabited β][DecidableEq GA]{key:β->GA}{lt:GA->GA->Bool}(x:β)(l:List β):FQ key lt x l≠[]:=by
 intro e
 have h:=congrArg List.length e
 rw[FQ]at h
 split at h
 · rename_i Ag
   rw[G9,Bool.and_eq_true,decide_eq_true_eq]at Ag
   rw[List.length_set,List.length_nil]at h
   omega
 · rw[FO,List.length_append,List.length_cons,List.length_nil]at h
   omega
theorem Adt{l:List AD}{w:Ah}{x:JE}(h:Ce w.S)(g:DU l w.S.Aj):DU l (w.Iv x).S.Aj/\Acc w (w.Iv x):=by
 unfold Ah.Iv
 split
 · exact⟨g,rfl,rfl,rfl⟩
 · rename_i Af
   have BI:(BF w.S.Aj x.Al).2=true:=by simpa using Af
   split
   · rename_i h2
     obtain⟨m,k⟩:=Q2 BI
     obtain⟨_,y,_⟩:=h.acc _ m
     obtain⟨_,_,cg,_,_,_,_,_,p,_,_⟩:=iv y h2
     refine⟨?_,rfl,rfl,rfl⟩
     show DU l (FQ (·.Al) Ds _ w.S.Aj)
     generalize (BF w.S.Aj x.Al).1=f at m k cg p
     generalize Ano:(Kl f x.Bn w.ix w.nd).1=Jq at p
     have Ey:Jq.Al=f.Al:=by rw[p]
     have Ez:Jq.Cn=f.Cn:=by rw[p]
     have AhN:Jq.BG=f.BG:=by rw[p]
     have PM:Jq.A0≠[]:=by rw[p];exact AhH _ _
     have step:∀b,Up f b->Up Jq b:=fun b r=>⟨Ey.trans r.1,Ez.trans r.2.1,AhN.trans r.2.2.1,.inr ⟨by rw[<-r.2.1];exact cg,PM⟩⟩
     refine⟨fun a AK=>?_,fun b Aq=>?_⟩
     · rcases(PJ Pa h.Ll).1 AK with e|⟨AK,_⟩
       · obtain⟨b,Aq,r⟩:=g.to f m
         exact⟨b,Aq,by rw[e];exact step b r⟩
       · exact g.to a AK
     · obtain⟨a,AK,r⟩:=g.of b Aq
       by_cases e:a.Al=Jq.Al
       · have:a=f:=lX Pa h.Ll AK m (e.trans Ey)
         subst this
         exact⟨Jq,(PJ Pa h.Ll).2 (.inl rfl),step b r⟩
       · exact⟨a,(PJ Pa h.Ll).2 (.inr ⟨AK,e⟩),r⟩
   · exact⟨g,rfl,rfl,rfl⟩
theorem q5{l:List AD}:∀(BQ:List JE) {w:Ah},Ce w.S->DU l w.S.Aj->DU l (BQ.foldl Ah.Iv w).S.Aj/\Acc w (BQ.foldl Ah.Iv w)
 |[],_,_,g=>⟨g,rfl,rfl,rfl⟩
 |x::r,w,h,g=>by
  obtain⟨a,b⟩:=Adt (x:=x) h g
  obtain⟨c,d⟩:=q5 r (fe (x:=x) h).ws a
  refine⟨c,?_,d.e.trans b.e,d.l.trans b.l⟩
  have:=d.s
  rw[b.s]at this
  exact this
theorem Abp{S:Bv}:(LG S=S/\(Py S=false\/¬(IW (Gl S S.Bt.A6 S.Bt.Bc)).2=0))\/
 ((LG S).Bt=FP/\(LG S).AA=S.AA/\(LG S).Aj=S.Aj.filter (fun a=> !Ef S a.Al)):=by
 unfold LG
 split
 · rename_i h
   exact .inl ⟨rfl,.inl h⟩
 · split
   · rename_i h
     exact .inl ⟨rfl,.inr h⟩
   · refine .inr ?_
     simp only
     split<;>exact⟨rfl,rfl,rfl⟩
theorem qh{S:Bv}{ix:Int}{a:AD}(Af:1<=ix)(h2:ix<=EW)(AK:Fw a)(w:D3 a):Jv S ix a={a with Cn:=if(SG S.AA a.Al||Ef S a.Al)=true then(if a.Cn=0 then ix else a.Cn)else 0}:=by
 unfold Jv
 split
 · exact(ig w AK Af h2).1
 · exact(l8 w AK).1
theorem tA{l:List AD}{f:AD->AD}(BI:∀a∈l,(f a).Al=a.Al)(h:H6 (·.Al) Ds l):H6 (·.Al) Ds (l.map f):=by
 unfold H6 at h ⊢
 rw[List.pairwise_map]
 refine h.imp_of_mem fun{a b} AK Aq q=>?_
 show Ds (f a).Al (f b).Al=true
 rw[BI a AK,BI b Aq]
 exact q
theorem fB{a:AD}:FT a=true↔E4 a=true/\a.Cs=⟨0,0⟩/\a.BT=0/\a.A0=[]/\a.Cn=0/\G_ a=false:=by
 simp only[FT,Bool.and_eq_true,Bool.not_eq_true',decide_eq_true_eq]
 constructor
 · rintro⟨⟨⟨⟨⟨a,b⟩,c⟩,d⟩,e⟩,f⟩
   exact⟨a,b,c,List.length_eq_zero_iff.1 (by omega),e,f⟩
 · rintro⟨a,b,c,d,e,f⟩
   exact⟨⟨⟨⟨⟨a,b⟩,c⟩,by rw[d];rfl⟩,e⟩,f⟩
theorem AdZ{a b:AD}(h:a.BG=b.BG):G_ a=G_ b:=by unfold G_;rw[h]
theorem Aiv{w:Ah}(h:Ce w.S)(Af:1<=w.ix)(h2:w.ix<=EW)(Bh:KS w.S=none):VK w.rest.S:=by
 have AH:=(lg h Af h2).2
 have Ri:=(lg h Af h2).1.ws
 unfold Ah.rest at AH Ri ⊢
 simp only at AH Ri ⊢
 have Vv:=(jc h).1
 have Bm:=Abp (S:=w.S)
 generalize AmZ:LG w.S=EB at AH Ri Vv Bm ⊢
 have CY:Ce {EB with Aj:=EB.Aj.map (Jv EB w.ix)}:=Vv.bE fun a AK=>jP Af h2 (Vv.acc a AK).1 (Vv.acc a AK).2.1
 obtain⟨Jt,ac⟩:=q5 (l:=EB.Aj.map (Jv EB w.ix)) w.BQ (w:={w with S:={EB with Aj:=EB.Aj.map (Jv EB w.ix)}}) CY ⟨fun a AK=>⟨a,AK,q7 a⟩,fun a AK=>⟨a,AK,q7 a⟩⟩
 have uR:=(Yd (fun u d hu=>fe (x:=d) hu) w.BQ (w:={w with S:={EB with Aj:=EB.Aj.map (Jv EB w.ix)}}) CY).ws
 generalize w.BQ.foldl Ah.Iv {w with S:={EB with Aj:=EB.Aj.map (Jv EB w.ix)}}=v at AH Ri Jt ac uR ⊢
 have Kk:v.S={EB with Aj:=v.S.Aj}:=ac.s
 generalize v.S.Aj=On at AH Ri Jt Kk ⊢
 rw[Kk]at uR Ri ⊢
 clear ac Kk
 simp only at AH Ri ⊢
 -- what an account was
 have back:∀a∈On,∃c∈EB.Aj,Up a (Jv EB w.ix c):=fun a AK=>by
  obtain⟨b,Aq,r⟩:=Jt.to a AK
  obtain⟨c,Bm,rfl⟩:=List.mem_map.1 Aq
  exact⟨c,Bm,r⟩
 have fwd:∀c∈EB.Aj,∃a∈On,Up a (Jv EB w.ix c):=fun c Bm=>Jt.of _ (List.mem_map.2 ⟨c,Bm,rfl⟩)
 have Tx:∀c∈EB.Aj,Jv EB w.ix c={c with Cn:=if(SG EB.AA c.Al||Ef EB c.Al)=true then(if c.Cn=0 then w.ix else c.Cn)else 0}:=fun c Bm=>qh Af h2 (Vv.acc c Bm).1 (Vv.acc c Bm).2.1
 have DY:∀a∈On,FT a=false->a∈On.filter (fun a=> !FT a):=fun a AK q=>List.mem_filter.2 ⟨AK,by rw[q];rfl⟩
 have Acr:EB.AA=w.S.AA:=by
  rcases Bm with⟨e,_⟩|⟨_,e,_⟩
  · rw[e]
  · exact e
 refine⟨?_,?_,?_,AH⟩
 · -- nothing is ready
   unfold KS at Bh ⊢
   simp only
   rw[Acr]
   refine List.find?_range_eq_none.2 fun i Ag=>?_
   have Bw:=List.find?_range_eq_none.1 Bh i Ag
   have hm:=Hl (l:=w.S.AA) Ag
   obtain⟨_,NP,Adc,ks,_⟩:=SF.1 (h.wt _ hm)
   generalize (w.S.AA.getD i default).AM.Al=k at Bw NP Adc ks ⊢
   simp only[Bool.not_eq_true',Bool.and_eq_false_iff]at Bw ⊢
   refine Bw.imp id fun Bw=>?_
   rw[<-Bool.not_eq_true]at Bw ⊢
   refine fun q=>Bw ?_
   cases Fb:(BF w.S.Aj k).2 with
   |false=>
    obtain⟨z,y,x,_⟩:=YR NP
    rw[(UH Fb).2,l']
    exact⟨y.acc x,by rw[z];rfl,by rw[z];rfl⟩
   |true=>
    obtain⟨NS,AS⟩:=Q2 Fb
    generalize (BF w.S.Aj k).1=c at NS AS ⊢
    have Kq:c∈EB.Aj:=by
     rcases Bm with⟨e,_⟩|⟨_,_,e⟩
     · rw[e];exact NS
     · rw[e];exact List.mem_filter.2 ⟨NS,by rw[AS,ks];rfl⟩
    obtain⟨a,O8,FA⟩:=fwd c Kq
    rw[Tx c Kq]at FA
    have hold:a.A0=[]/\G_ a=false:=by
     cases pl:FT a with
     |true=>exact⟨(fB.1 pl).2.2.2.1,(fB.1 pl).2.2.2.2.2⟩
     |false=>
      have:=zO Ri.Ll (DY a O8 pl)
      have I2:a.Al=k:=FA.1.trans AS
      rw[I2]at this
      have q:=q
      rw[this,l']at q
      exact⟨q.2.2,q.2.1⟩
    rw[l']
    refine⟨(h.acc c NS).1.acc (h.acc c NS).2.1,?_,?_⟩
    · rw[<-hold.2]
      exact(AdZ FA.2.2.1).symm
    · rcases FA.2.2.2 with e|⟨_,e⟩
      · have:=congrArg AD.A0 e
        exact this.symm.trans hold.1
      · exact absurd hold.1 e
 · -- nothing is to be handed on
   show Py {EB with Aj:=On.filter (fun a=> !FT a)}=false\/¬(IW (Gl {EB with Aj:=On.filter (fun a=> !FT a)} EB.Bt.A6 EB.Bt.Bc)).2=0
   rcases Bm with⟨e,A7|A7⟩|⟨e,_,_⟩
   · refine .inl ?_
     rw[<-e]at A7
     simp only[Py,Bool.not_eq_false',Bool.or_eq_true,List.any_eq_true,Bool.and_eq_true,Bool.not_eq_true',decide_eq_true_eq,decide_eq_false_iff_not]at A7 ⊢
     refine A7.imp id ?_
     rintro⟨c,Oo,s_,AJ⟩
     obtain⟨a,O8,FA⟩:=fwd c Oo
     rw[Tx c Oo]at FA
     have OT:(a.A0.length:Int)>0\/¬a.BG.Ap=0:=by
      refine AJ.imp (fun q=>?_) (fun q=>by rw[FA.2.2.1];exact q)
      rcases FA.2.2.2 with e|⟨_,e⟩
      · rw[e];exact q
      · have:=List.length_pos_iff.2 e
        omega
     have AbY:FT a=false:=by
      rw[<-Bool.not_eq_true,fB]
      rintro⟨_,_,_,p,_,r⟩
      rcases OT with q|q
      · rw[p]at q;exact absurd q (by decide)
      · exact q (gy r)
     exact⟨a,DY a O8 AbY,by rw[show a.Al=c.Al from FA.1];exact s_,OT⟩
   · by_cases Cu:EB.Bt=FP
     · exact .inl (by simp[Py,Cu])
     refine .inr ?_
     rw[<-e]at A7
     have Yv:LK EB.Bt=true:=(Vv.Hc.resolve_left Cu).1
     have HG:¬EB.Bt.Ev=0:=by
      simp only[LK,Bool.and_eq_true,decide_eq_true_eq]at Yv
      omega
     have rd:∀c∈EB.Aj,within EB.Bt.A6 EB.Bt.Bc c.Al=true->∀a,Up a (Jv EB w.ix c)->a=Jv EB w.ix c/\¬a.Cn=0:=fun c Oo c5 a FA=>by
      have hs:Ef EB c.Al=true:=by rw[Ef,decide_eq_false HG,c5];rfl
      have Cu:¬(Jv EB w.ix c).Cn=0:=by
       rw[Tx c Oo,if_pos (by rw[hs,Bool.or_true])]
       show ¬(if c.Cn=0 then w.ix else c.Cn)=0
       split<;>omega
      rcases FA.2.2.2 with q|⟨q,_⟩
      · exact⟨q,by rw[q];exact Cu⟩
      · exact absurd q Cu
     have zd:((On.filter (fun a=> !FT a)).map fun a=>{a with Cn:=0}).filter (fun a=>within EB.Bt.A6 EB.Bt.Bc a.Al&& !FT a)=(EB.Aj.map fun a=>{a with Cn:=0}).filter (fun a=>within EB.Bt.A6 EB.Bt.Bc a.Al&& !FT a):=by
      refine tz (key:=fun a:AD=>a.Al) Pa (List.Pairwise.filter _ (tA (fun _ _=>rfl) Ri.Ll)) (List.Pairwise.filter _ (tA (fun _ _=>rfl) Vv.Ll)) fun x=>?_
      constructor
      · intro Ab
        obtain⟨Ab,W5⟩:=List.mem_filter.1 Ab
        obtain⟨a,AK,rfl⟩:=List.mem_map.1 Ab
        obtain⟨AK,_⟩:=List.mem_filter.1 AK
        obtain⟨c,Oo,FA⟩:=back a AK
        have bu:a.Al=c.Al:=by have:=FA.1;rw[Tx c Oo]at this;exact this
        have c5:within EB.Bt.A6 EB.Bt.Bc c.Al=true:=by rw[Bool.and_eq_true]at W5;rw[<-bu];exact W5.1
        have X9:=(rd c Oo c5 a FA).1
        have h_:({a with Cn:=0}:AD)={c with Cn:=0}:=by rw[X9,Tx c Oo]
        refine List.mem_filter.2 ⟨?_,W5⟩
        rw[h_]
        exact List.mem_map.2 ⟨c,Oo,rfl⟩
      · intro Ab
        obtain⟨Ab,W5⟩:=List.mem_filter.1 Ab
        obtain⟨c,Oo,rfl⟩:=List.mem_map.1 Ab
        obtain⟨a,O8,FA⟩:=fwd c Oo
        have c5:within EB.Bt.A6 EB.Bt.Bc c.Al=true:=by rw[Bool.and_eq_true]at W5;exact W5.1
        obtain⟨X9,Aej⟩:=rd c Oo c5 a FA
        have h_:({a with Cn:=0}:AD)={c with Cn:=0}:=by rw[X9,Tx c Oo]
        refine List.mem_filter.2 ⟨?_,W5⟩
        rw[<-h_]
        refine List.mem_map.2 ⟨a,DY a O8 ?_,rfl⟩
        rw[<-Bool.not_eq_true,fB]
        exact fun p=>Aej p.2.2.2.2.1
     have ON:Gl {EB with Aj:=On.filter (fun a=> !FT a)} EB.Bt.A6 EB.Bt.Bc=Gl EB EB.Bt.A6 EB.Bt.Bc:=by
      unfold Gl
      simp only
      rw[zd]
     rw[ON]
     exact A7
   · exact .inl (by simp[Py,e])
 · -- rounds stay
   intro ix i1 i2
   show(On.filter fun a=> !FT a).map (Jv {EB with Aj:=On.filter (fun a=> !FT a)} ix)=_
   conv=>rhs;rw[<-List.map_id (On.filter fun a=> !FT a)]
   refine List.map_congr_left fun a AK=>?_
   rw[qh i1 i2 (Ri.acc a AK).1 (Ri.acc a AK).2.1]
   obtain⟨c,Oo,FA⟩:=back a (List.mem_filter.1 AK).1
   rw[Tx c Oo]at FA
   have bu:a.Al=c.Al:=FA.1
   have rc:a.Cn=(if(SG EB.AA c.Al||Ef EB c.Al)=true then(if c.Cn=0 then w.ix else c.Cn)else 0):=FA.2.1
   rw[show SG ({EB with Aj:=On.filter (fun a=> !FT a)}:Bv).AA a.Al=SG EB.AA c.Al by rw[bu],show Ef {EB with Aj:=On.filter (fun a=> !FT a)} a.Al=Ef EB c.Al by rw[bu];rfl]
   have:(if(SG EB.AA c.Al||Ef EB c.Al)=true then(if a.Cn=0 then ix else a.Cn)else 0)=a.Cn:=by
    split
    · rename_i q
      rw[if_pos q]at rc
      rw[if_neg]
      rw[rc]
      split<;>omega
    · rename_i q
      rw[if_neg q]at rc
      exact rc.symm
   rw[this]
   rfl
theorem VK.at{S:Bv}(h:VK S)(i:Int):VK {S with DX:=i}:=⟨h.Aij,h.hand,h.Tx,h.plain⟩
theorem Ak_{w:Ah}(h:KS w.S=none):∀n,Ah.waits n w=w
 |0=>rfl
 |n+1=>by rw[Ah.waits,h]
theorem Arq{w:Ah}(h:VK w.S)(Af:1<=w.ix)(h2:w.ix<=EW)(AN:w.BQ=[]):w.rest=w:=by
 have B4:LG w.S=w.S:=by
  unfold LG
  rcases h.hand with q|q
  · rw[if_pos q]
  · split
    · rfl
    · rfl
 have DC:=h.Tx w.ix Af h2
 have Kk:w.S.Aj.filter (fun a=> !FT a)=w.S.Aj:=List.filter_eq_self.2 fun a AK=>by rw[h.plain a AK];rfl
 unfold Ah.rest
 simp only[B4,DC,AN,List.foldl_nil,Kk]
 clear B4 DC Kk h Af h2
 obtain⟨S,ix,nd,EF,BQ⟩:=w
 simp only at AN
 subst AN
 rfl
theorem Aqm{S:Bv}{c:Dg}{ix nd:Int}{l:List FE}(Bh:LN S=true)(hs:VK S)(HG:1<=nd)(MF:nd<=5)(i0:0<=S.DX)(i1:S.DX<ix)(i2:ix<=EW)
 (h:({S:={S with DX:=ix},ix:=ix,nd:=nd,EF:=[],BQ:=[]}:Ah).cmd c={S:={S with DX:=ix},ix:=ix,nd:=nd,EF:=l,BQ:=[]}):Gc S c ix nd=({S with DX:=ix},l,0):=by
 unfold Gc
 rw[if_neg (by rw[Bh];decide),if_neg (by simp only[Bool.or_eq_true,decide_eq_true_eq];omega),if_neg (by simp only[Bool.or_eq_true,decide_eq_true_eq];omega)]
 simp only[h]
 rw[Ak_ (hs.at ix).Aij,Arq (hs.at ix) (by show 1<=ix;omega) i2 rfl]
theorem w6{S:Bv}{c:Dg}{ix nd:Int}(Ag:VB S)(Bm:c.wf)(h:(Gc S c ix nd).2.2=0):VK (Gc S c ix nd).1:=by
 unfold Gc at h ⊢
 split at h
 · cases h
 · rename_i Bh
   rw[if_neg Bh]
   have Bh:LN S=true:=by simpa using Bh
   split at h
   · cases h
   · rename_i Ao
     rw[if_neg Ao]
     split at h
     · cases h
     · rename_i Ab
       rw[if_neg Ab]
       simp only[Bool.or_eq_true,decide_eq_true_eq,not_or]at Ao Ab
       obtain⟨BO,_⟩:=(Zc Ag.ac Ag.PZ Ag.O8).1 Bh
       have Fx:=BO.ix
       obtain⟨Sp,HG⟩:=Fx
       have Bw:Ce {S with DX:=ix}:={BO with ix:=⟨by show 0<=ix;omega,by show ix<=EW;omega⟩,own:=⟨BO.own.no,BO.own.yes⟩,acc:=BO.acc,wt:=BO.wt,Hc:=BO.Hc}
       have A1:=dO (w:={S:={S with DX:=ix},ix:=ix,nd:=nd,EF:=[],BQ:=[]}) (c:=c) Bw Bm (by show nd<=5;omega)
       simp only
       generalize ({S:={S with DX:=ix},ix:=ix,nd:=nd,EF:=[],BQ:=[]}:Ah).cmd c=w at A1
       have AY:=gH w.S.AA.length A1.ws
       have A9:=uK w.S.AA.length w (Nat.le_refl _)
       generalize Ah.waits w.S.AA.length w=v at AY A9
       have TB:v.ix=ix:=AY.x.trans A1.x
       exact Aiv AY.ws (by omega) (by omega) A9
-- from a new state on
theorem Aeu{g:Int}(h:Ih g=true):Ce (F8 g)/\(F8 g).Aj=[]:=by
 have z:L7 0:=⟨by decide,by decide⟩
 refine⟨{RZ:=?_,ix:=z,ON:=?_,hf:=z,TO:=z,un:=z,own:=⟨fun _=>⟨rfl,rfl,rfl,rfl,rfl⟩,fun q=>⟨?_,rfl⟩⟩,len:=Nat.zero_le _,acc:=fun a AK=>absurd AK List.not_mem_nil,Ll:=List.Pairwise.nil,marks:=rfl,Me:=fun a AK=>absurd AK List.not_mem_nil,VZ:=rfl,ends:=rfl,wl:=Nat.zero_le _,wt:=fun a AK=>absurd AK List.not_mem_nil,ww:=fun a AK=>absurd AK List.not_mem_nil,Hc:=.inl rfl,out:=.inl ⟨rfl,rfl⟩},rfl⟩
 · show Ih (if Ih g=true then g else 0)=true
   rw[if_pos h];exact h
 · show L7 (if Ih g=true then(if g=1 then 1 else 0)else 0)
   rw[if_pos h]
   split<;>exact⟨by decide,by decide⟩
 · have q:(Ih g&&decide (g=1))=true:=q
   rw[Bool.and_eq_true,decide_eq_true_eq]at q
   show 1<=(if Ih g=true then(if g=1 then 1 else 0)else 0)
   rw[if_pos h,if_pos q.2]
   exact Int.le_refl _
theorem Aet(g:Int):VK (F8 g):=⟨rfl,.inl (by simp[Py,F8,FP]),fun _ _ _=>rfl,fun a AK=>absurd AK List.not_mem_nil⟩
def runN(S:Bv)(nd:Int)(cs:List Dg):Nat->Bv×List FE×Int
 |0=>(S,[],0)
 |i+1=>
  let r:=runN S nd cs i
  if r.2.2=0 then
   let x:=Gc r.1 (cs.getD i default) ((i:Int)+1) nd
   (x.1,r.2.1++x.2.1,x.2.2)
  else r
structure XO (S T:Bv) (i:Nat):Prop where
 right:LN T=true
 ints:VB T
 set:VK T
 ix:T.DX=i
 g:T.CZ=S.CZ
theorem fJ{g:Int}(h:Ih g=true):XO (F8 g) (F8 g) 0:=by
 obtain⟨a,b⟩:=Aeu h
 exact⟨(Zc a.ints.ac a.ints.PZ a.ints.O8).2 ⟨a,fun x Ab=>by rw[b]at Ab;exact absurd Ab List.not_mem_nil⟩,a.ints,Aet g,rfl,rfl⟩
theorem Ah0{S T:Bv}{i:Nat}{c:Dg}{nd:Int}(h:XO S T i)(Bm:c.wf)(HG:1<=nd)(MF:nd<=5)(Ag:(i:Int)+1<=EW):(Gc T c ((i:Int)+1) nd).2.2=0/\XO S (Gc T c ((i:Int)+1) nd).1 (i+1):=by
 have Bw:=w7 (c:=c) h.right HG MF (by rw[h.ix];show(i:Int)<(i:Int)+1;omega) Ag
 obtain⟨_,a,b,d,e⟩:=w5 h.ints Bm Bw
 exact⟨Bw,a,b,w6 h.ints Bm Bw,by rw[e];omega,d.trans h.g⟩
theorem cl{S:Bv}{nd:Int}{cs:List Dg}(BO:XO S S 0)(hw:∀c∈cs,c.wf)(HG:1<=nd)(MF:nd<=5)(AN:(cs.length:Int)<=EW):∀i,i<=cs.length->(runN S nd cs i).2.2=0/\XO S (runN S nd cs i).1 i
 |0,_=>⟨rfl,BO⟩
 |i+1,Ag=>by
  obtain⟨a,b⟩:=cl BO hw HG MF AN i (by omega)
  have e:runN S nd cs (i+1)=((Gc (runN S nd cs i).1 (cs.getD i default) ((i:Int)+1) nd).1,(runN S nd cs i).2.1++(Gc (runN S nd cs i).1 (cs.getD i default) ((i:Int)+1) nd).2.1,(Gc (runN S nd cs i).1 (cs.getD i default) ((i:Int)+1) nd).2.2):=by
   rw[runN]
   simp only
   rw[if_pos a]
  rw[e]
  exact Ah0 b (hw _ (Hl (by omega))) HG MF (by omega)
def ApL(S:Bv)(c:Dg)(l:List FE):Prop:=
 l=[]\/c.Ca=1/\(l=[⟨2,c.Ap,c.As,GS⟩]\/(FU S.Bz c.Ap).2=true/\(FU S.Bz c.Ap).1.As=c.As/\l=[⟨1,c.Ap,c.As,(FU S.Bz c.Ap).1.Cm⟩])
theorem Aqo{l:List BL}{c q:Int}(h:(IS l c q).2.2=0)(Af:(IS l c q).2.1=false):(IS l c q).1=l/\(FU l c).2=true/\(FU l c).1.As=q:=by
 unfold IS at h Af ⊢
 split at h
 · cases h
 · rename_i a
   rw[if_neg a]at Af ⊢
   split at h
   · cases h
   · rename_i b
     rw[if_neg b]at Af ⊢
     split at h
     · cases h
     · rename_i d
       rw[if_neg d]at Af ⊢
       split at Af
       · rename_i e
         rw[if_pos e]
         rw[Bool.and_eq_true,decide_eq_true_eq]at e
         exact⟨rfl,e.1,e.2⟩
       · cases Af
theorem Arc{w:Ah}{c:Dg}(AE:c.Ca=1)(h:¬c.Dn=w.S.Dn\/¬(IS w.S.Bz c.Ap c.As).2.2=0\/(IS w.S.Bz c.Ap c.As).2.1=false):∃l,w.op c={w with EF:=w.EF++l}/\ApL w.S c l:=by
 have Fb:w={w with EF:=w.EF++[]}:=by rw[List.append_nil]
 unfold Ah.op
 split
 · exact⟨[],Fb,.inl rfl⟩
 · simp only
   split
   · exact⟨[],Fb,.inl rfl⟩
   · rename_i Af
     have Af:=Classical.not_not.1 Af
     split
     · rename_i h2
       obtain⟨x,y,z⟩:=Aqo Af h2
       rw[x]
       split
       · exact⟨[⟨1,c.Ap,c.As,(FU w.S.Bz c.Ap).1.Cm⟩],rfl,.inr ⟨AE,.inr ⟨y,z,rfl⟩⟩⟩
       · exact⟨[],Fb,.inl rfl⟩
     · rename_i h2
       have he:¬c.Dn=w.S.Dn:=by
        rcases h with h|h|h
        · exact h
        · exact absurd Af h
        · exact absurd h h2
       rw[if_pos (by simp[he])]
       exact⟨[⟨2,c.Ap,c.As,GS⟩],rfl,.inr ⟨AE,.inl rfl⟩⟩
theorem As0{Ei S:Bv}{i:Nat}{c:Dg}(h:XO Ei S i)(Ag:(i:Int)+1<=EW)(AE:c.Ca=1)(hm:(FU S.Bz c.Ap).2=true)(B':c.As<=(FU S.Bz c.Ap).1.As):
 ∃l,Gc S c ((i:Int)+1) 3=({S with DX:=(i:Int)+1},l,0):=by
 have Ab:S.DX=i:=h.ix
 have Aq:¬(IS S.Bz c.Ap c.As).2.2=0\/(IS S.Bz c.Ap c.As).2.1=false:=by
  unfold IS
  split
  · exact .inl (by decide)
  · split
    · exact .inl (by decide)
    · split
      · exact .inl (by decide)
      · rename_i Bo
        split
        · exact .inr rfl
        · rename_i BB
          rw[hm]at Bo BB
          simp only[Bool.true_and,decide_eq_true_eq]at Bo BB
          omega
 obtain⟨l,a,_⟩:=Arc (w:={S:={S with DX:=(i:Int)+1},ix:=(i:Int)+1,nd:=3,EF:=[],BQ:=[]}) AE (.inr Aq)
 exact⟨l,Aqm h.right h.set (by decide) (by decide) (by omega) (by omega) Ag (by rw[Ah.cmd,if_pos AE,a];rfl)⟩
theorem Aj9{S:Bv}(h:Ce S){k:ByteArray}(AE:Ix k=true){l:F_}(AN:l.wf)(Ao:¬l.B2=0)(e:(KA (BF S.Aj k).1 l).2=0):(BF S.Aj k).2=true/\(KA (BF S.Aj k).1 l).1.Al=k:=by
 obtain⟨f1,f2,f3⟩:=V9 h AE
 obtain⟨p,_,_,Qj,CY,Dh,q,s⟩:=gu f2 AN e
 refine⟨?_,by rw[p];exact f3⟩
 cases S_:(BF S.Aj k).2 with
 |true=>rfl
 |false=>
  exfalso
  have Cu:(BF S.Aj k).1={Fj with Al:=k}:=by rw[(UH S_).2];exact(YR AE).1
  rw[Cu]at CY Dh
  have CY:(0:Int)<=0+l.B2:=CY
  have Dh:(0:Int)+l.B2<=0:=Dh
  omega
theorem q4:∀(l:List JE) (v:Ah),(l.foldl Ah.Iv v).EF=v.EF
 |[],_=>rfl
 |x::r,v=>by
  rw[List.foldl_cons,q4 r]
  unfold Ah.Iv
  split
  · rfl
  · split<;>rfl
theorem Ait(w:Ah):w.rest.EF=w.EF:=by
 unfold Ah.rest
 simp only
 rw[q4]
structure ArZ (M:List BL) (P:List (Int×Int)) (E:List FE):Prop where
 mp:Fg M=true
 B4:∀e∈E,e.Ca=1->∃m∈M,m.Ap=e.Ap/\(e.As<m.As\/e.As=m.As/\m.HV=false/\(m.Cm=e.Cm\/m.Cm.Jd=80))
 DC:∀e∈E,∀f∈E,e.Ca=1->f.Ca=1->e.Ap=f.Ap->e.As=f.As->e.Cm=f.Cm
 Rn:∀p∈P,∃m∈M,m.Ap=p.1/\(p.2<m.As\/p.2=m.As/\(m.HV=true\/m.Cm.Jd=80))
 WY:∀p∈P,∀e∈E,e.Ca=1->¬(e.Ap=p.1/\e.As=p.2)
 nd:P.Nodup
theorem Asa{M:List BL}(h:Fg M=true){a b:BL}(AK:a∈M)(Aq:b∈M)(e:a.Ap=b.Ap):a=b:=lX N1 (Rl.1 h).2 AK Aq e
theorem Ar8{M:List BL}(h:Fg M=true){x m:BL}:x∈LP M m↔x=m\/x∈M/\¬x.Ap=m.Ap:=PJ N1 (Rl.1 h).2
theorem ArZ.sub{M:List BL}{P Asc:List (Int×Int)}{E:List FE}(h:ArZ M P E)(hs:∀p∈Asc,p∈P)(Ao:Asc.Nodup):ArZ M Asc E:=
 ⟨h.mp,h.B4,h.DC,fun p AH=>h.Rn p (hs p AH),fun p AH=>h.WY p (hs p AH),Ao⟩
theorem ArZ.perm{M:List BL}{P Asc:List (Int×Int)}{E:List FE}(h:ArZ M P E)(AH:P.Perm Asc):ArZ M Asc E:=h.sub (fun _ Ab=>AH.mem_iff.2 Ab) (AH.nodup h.nd)
theorem ArZ.quiet{M:List BL}{P:List (Int×Int)}{E:List FE}(h:ArZ M P E){x:FE}(Ab:¬x.Ca=1):ArZ M P (E++[x]):=by
 have hm:∀e∈E++[x],e.Ca=1->e∈E:=fun e he k=>by
  rcases List.mem_append.1 he with he|he
  · exact he
  · rw[List.mem_singleton.1 he]at k;exact absurd k Ab
 exact⟨h.mp,fun e he k=>h.B4 e (hm e he k) k,fun e he f BI k l=>h.DC e (hm e he k) f (hm f BI l) k l,h.Rn,fun p AH e he k=>h.WY p AH e (hm e he k) k,h.nd⟩
theorem ArZ.told{M:List BL}{P:List (Int×Int)}{E:List FE}(h:ArZ M P E){m:BL}(hm:m∈M)(A7:m.HV=false)(D2:¬m.Cm.Jd=80):ArZ M P (E++[⟨1,m.Ap,m.As,m.Cm⟩]):=by
 have Afr:∀e∈E,e.Ca=1->e.Ap=m.Ap->e.As=m.As->e.Cm=m.Cm:=fun e he k c q=>by
  obtain⟨n,Ao,Va,B'⟩:=h.B4 e he k
  have:n=m:=Asa h.mp Ao hm (Va.trans c)
  subst this
  rcases B' with B'|⟨_,_,B'⟩
  · omega
  · exact(B'.resolve_right D2).symm
 refine⟨h.mp,fun e he k=>?_,fun e he f BI k l c q=>?_,h.Rn,fun p AH e he k=>?_,h.nd⟩
 · rcases List.mem_append.1 he with he|he
   · exact h.B4 e he k
   · rw[List.mem_singleton.1 he]
     exact⟨m,hm,rfl,.inr ⟨rfl,A7,.inl rfl⟩⟩
 · rcases List.mem_append.1 he with he|he
   · rcases List.mem_append.1 BI with BI|BI
     · exact h.DC e he f BI k l c q
     · rw[List.mem_singleton.1 BI]at c q ⊢
       exact Afr e he k c q
   · rw[List.mem_singleton.1 he]at c q ⊢
     rcases List.mem_append.1 BI with BI|BI
     · exact(Afr f BI l c.symm q.symm).symm
     · rw[List.mem_singleton.1 BI]
 · rcases List.mem_append.1 he with he|he
   · exact h.WY p AH e he k
   · rw[List.mem_singleton.1 he]
     rintro⟨c,q⟩
     obtain⟨n,Ao,Va,B'⟩:=h.Rn p AH
     have:n=m:=Asa h.mp Ao hm (Va.trans c.symm)
     subst this
     have q:n.As=p.2:=q
     rcases B' with B'|⟨_,B'|B'⟩
     · omega
     · rw[A7]at B';cases B'
     · exact D2 B'
theorem ArZ.begin{M:List BL}{P:List (Int×Int)}{E:List FE}(h:ArZ M P E){c q:Int}(Aq:(IS M c q).2.2=0)(BI:(IS M c q).2.1=true):ArZ (IS M c q).1 ((c,q)::P) E:=by
 have hm:=nw Aq
 unfold IS at Aq BI hm ⊢
 split at Aq
 · cases Aq
 · rename_i a
   rw[if_neg a]at BI hm ⊢
   split at Aq
   · cases Aq
   · rename_i b
     rw[if_neg b]at BI hm ⊢
     split at Aq
     · cases Aq
     · rename_i d
       rw[if_neg d]at BI hm ⊢
       split at BI
       · cases BI
       · rename_i e
         rw[if_neg e]at hm ⊢
         clear Aq BI a b
         have C_:∀m∈M,m.Ap=c->m.As<q:=fun m Qn Oo=>by
          have Bm:(FU M c).2=true/\(FU M c).1=m:=by
           have Ag:G9 (·.Ap) Ci c M=true:=(br N1 (Rl.1 h.mp).2 c).2 ⟨m,Qn,Oo⟩
           obtain⟨x,y⟩:=ZX N1 (Rl.1 h.mp).2 Ag
           have Fb:FU M c=(M.getD (Cz (·.Ap) Ci c M) default,true):=by rw[FU,if_neg (by rw[h.mp];decide),if_neg (by rw[Ag];decide)]
           rw[Fb]
           exact⟨rfl,Asa h.mp (Hl x) Qn (y.trans Oo.symm)⟩
          rw[Bm.1,Bm.2]at d e
          simp only[Bool.true_and,decide_eq_true_eq]at d e
          omega
         generalize Ao:(⟨c,q,true,⟨0,0,0,0⟩⟩:BL)=n at hm ⊢
         have HG:n.Ap=c:=by rw[<-Ao]
         have MF:n.As=q:=by rw[<-Ao]
         have rE:n.HV=true:=by rw[<-Ao]
         have up:∀m∈M,m.Ap=c->n∈LP M n:=fun _ _ _=>(Ar8 h.mp).2 (.inl rfl)
         refine⟨hm,fun e he k=>?_,h.DC,fun p AH=>?_,fun p AH e he k=>?_,?_⟩
         · obtain⟨m,Qn,Oo,B'⟩:=h.B4 e he k
           by_cases z:m.Ap=c
           · have:=C_ m Qn z
             exact⟨n,up m Qn z,by rw[HG,<-z];exact Oo,.inl (by rw[MF];rcases B' with B'|B'<;>omega)⟩
           · exact⟨m,(Ar8 h.mp).2 (.inr ⟨Qn,by rw[HG];exact z⟩),Oo,B'⟩
         · rcases List.mem_cons.1 AH with rfl|AH
           · exact⟨n,(Ar8 h.mp).2 (.inl rfl),HG,.inr ⟨MF.symm,.inl rE⟩⟩
           · obtain⟨m,Qn,Oo,B'⟩:=h.Rn p AH
             by_cases z:m.Ap=c
             · have:=C_ m Qn z
               exact⟨n,up m Qn z,by rw[HG,<-z];exact Oo,.inl (by rw[MF];rcases B' with B'|B'<;>omega)⟩
             · exact⟨m,(Ar8 h.mp).2 (.inr ⟨Qn,by rw[HG];exact z⟩),Oo,B'⟩
         · rcases List.mem_cons.1 AH with rfl|AH
           · rintro⟨x,y⟩
             obtain⟨m,Qn,Oo,B'⟩:=h.B4 e he k
             have:=C_ m Qn (Oo.trans x)
             have y:e.As=q:=y
             rcases B' with B'|B'<;>omega
           · exact h.WY p AH e he k
         · refine List.nodup_cons.2 ⟨fun AH=>?_,h.nd⟩
           obtain⟨m,Qn,Oo,B'⟩:=h.Rn _ AH
           have:=C_ m Qn Oo
           have B':q<m.As\/q=m.As/\_:=B'
           rcases B' with B'|B'<;>omega
theorem As3{M:List BL}(h:Fg M=true){m:BL}(hm:m∈M):FU M m.Ap=(m,true):=by
 have Ag:G9 (·.Ap) Ci m.Ap M=true:=(br N1 (Rl.1 h).2 m.Ap).2 ⟨m,hm,rfl⟩
 obtain⟨x,y⟩:=ZX N1 (Rl.1 h).2 Ag
 rw[FU,if_neg (by rw[h];decide),if_neg (by rw[Ag];decide),Asa h (Hl x) hm y]
theorem Atv{M:List BL}(h:Fg M=true){m:BL}(hm:m∈M)(A7:m.HV=true):KQ M m.Ap m.As=0:=by
 rw[KQ,if_neg (by rw[h];decide),As3 h hm,if_neg]
 simp[A7]
theorem ArZ.done{M:List BL}{P:List (Int×Int)}{E:List FE}{c q:Int}(h:ArZ M ((c,q)::P) E)(a:De):ArZ (if(Oe M c q a).2=0 then(Oe M c q a).1 else M) P (E++[⟨1,c,q,a⟩]):=by
 obtain⟨HG,MF⟩:=List.nodup_cons.1 h.nd
 have DC:∀e∈E++[(⟨1,c,q,a⟩:FE)],∀f∈E++[(⟨1,c,q,a⟩:FE)],e.Ca=1->f.Ca=1->e.Ap=f.Ap->e.As=f.As->e.Cm=f.Cm:=fun e he f BI k l x y=>by
  rcases List.mem_append.1 he with he|he
  · rcases List.mem_append.1 BI with BI|BI
    · exact h.DC e he f BI k l x y
    · rw[List.mem_singleton.1 BI]at x y
      exact absurd ⟨x,y⟩ (h.WY _ (List.mem_cons_self ..) e he k)
  · rw[List.mem_singleton.1 he]at x y
    rcases List.mem_append.1 BI with BI|BI
    · exact absurd ⟨x.symm,y.symm⟩ (h.WY _ (List.mem_cons_self ..) f BI l)
    · rw[List.mem_singleton.1 he,List.mem_singleton.1 BI]
 have WY:∀p∈P,∀e∈E++[(⟨1,c,q,a⟩:FE)],e.Ca=1->¬(e.Ap=p.1/\e.As=p.2):=fun p AH e he k=>by
  rcases List.mem_append.1 he with he|he
  · exact h.WY p (List.mem_cons_of_mem _ AH) e he k
  · rw[List.mem_singleton.1 he]
    rintro⟨x,y⟩
    have x:c=p.1:=x
    have y:q=p.2:=y
    exact HG (by rw[x,y];exact AH)
 split
 · rename_i A7
   have hm:=y1 A7
   unfold Oe at A7 hm ⊢
   split at A7
   · rename_i z;exact absurd A7 z
   · rename_i z
     rw[if_neg z]at hm ⊢
     obtain⟨_,Ar9,zF,Ase,aD⟩:=fs (Classical.not_not.1 z)
     generalize (FU M c).1=m at Ar9 zF Ase aD
     generalize Ao:(⟨c,q,false,a⟩:BL)=n at hm ⊢
     have A1:n.Ap=c:=by rw[<-Ao]
     have AY:n.As=q:=by rw[<-Ao]
     have A9:n.HV=false:=by rw[<-Ao]
     have Ba:n.Cm=a:=by rw[<-Ao]
     have Kp:n∈LP M n:=(Ar8 h.mp).2 (.inl rfl)
     refine⟨hm,fun e he k=>?_,DC,fun p AH=>?_,WY,MF⟩
     · rcases List.mem_append.1 he with he|he
       · obtain⟨x,Ar5,AlA,B'⟩:=h.B4 e he k
         by_cases z:x.Ap=c
         · have:x=m:=Asa h.mp Ar5 Ar9 (z.trans zF.symm)
           subst this
           refine⟨n,Kp,by rw[A1,<-z];exact AlA,.inl ?_⟩
           rw[AY]
           rcases B' with B'|⟨_,B',_⟩
           · omega
           · rw[aD]at B';cases B'
         · exact⟨x,(Ar8 h.mp).2 (.inr ⟨Ar5,by rw[A1];exact z⟩),AlA,B'⟩
       · rw[List.mem_singleton.1 he]
         exact⟨n,Kp,A1,.inr ⟨AY.symm,A9,.inl Ba⟩⟩
     · obtain⟨x,Ar5,AlA,B'⟩:=h.Rn p (List.mem_cons_of_mem _ AH)
       by_cases z:x.Ap=c
       · have:x=m:=Asa h.mp Ar5 Ar9 (z.trans zF.symm)
         subst this
         refine⟨n,Kp,by rw[A1,<-z];exact AlA,.inl ?_⟩
         rw[AY]
         rcases B' with B'|⟨B',_⟩
         · omega
         · have:p=(c,q):=Prod.ext (AlA.symm.trans z) (B'.trans Ase)
           exact absurd (this▸AH) HG
       · exact⟨x,(Ar8 h.mp).2 (.inr ⟨Ar5,by rw[A1];exact z⟩),AlA,B'⟩
 · rename_i A7
   refine⟨h.mp,fun e he k=>?_,DC,fun p AH=>h.Rn p (List.mem_cons_of_mem _ AH),WY,MF⟩
   rcases List.mem_append.1 he with he|he
   · exact h.B4 e he k
   · rw[List.mem_singleton.1 he]
     obtain⟨x,Ar5,AlA,B'⟩:=h.Rn _ (List.mem_cons_self ..)
     have AlA:x.Ap=c:=AlA
     have B':q<x.As\/q=x.As/\(x.HV=true\/x.Cm.Jd=80):=B'
     refine⟨x,Ar5,AlA,?_⟩
     rcases B' with B'|⟨B',Bh⟩
     · exact .inl B'
     · have no:¬x.HV=true:=fun z=>by
        have:=Atv h.mp Ar5 z
        rw[AlA,<-B']at this
        exact A7 (by rw[Oe,if_neg (not_not_intro this)])
       exact .inr ⟨B',by simpa using no,.inr (Bh.resolve_left no)⟩
theorem ArZ.Atc{M:List BL}{P:List (Int×Int)}{E:List FE}{c q:Int}(h:ArZ M P E)(Atb:¬(c,q)∈P):ArZ (if(G' M c q).2=0 then(G' M c q).1 else M) P E:=by
 split
 · rename_i A7
   have hm:=rj A7
   unfold G' at A7 hm ⊢
   split at A7
   · rename_i z;exact absurd A7 z
   · rename_i z
     rw[if_neg z]at hm ⊢
     obtain⟨_,Ar9,zF,Ase,aD⟩:=fs (Classical.not_not.1 z)
     generalize (FU M c).1=m at Ar9 zF Ase aD
     generalize Ao:(⟨c,q-1,false,⟨80,0,0,0⟩⟩:BL)=n at hm ⊢
     have A1:n.Ap=c:=by rw[<-Ao]
     have AY:n.As=q-1:=by rw[<-Ao]
     have A9:n.HV=false:=by rw[<-Ao]
     have Ba:n.Cm.Jd=80:=by rw[<-Ao]
     have Kp:n∈LP M n:=(Ar8 h.mp).2 (.inl rfl)
     refine⟨hm,fun e he k=>?_,h.DC,fun p AH=>?_,h.WY,h.nd⟩
     · obtain⟨x,Ar5,AlA,B'⟩:=h.B4 e he k
       by_cases z:x.Ap=c
       · have:x=m:=Asa h.mp Ar5 Ar9 (z.trans zF.symm)
         subst this
         refine⟨n,Kp,by rw[A1,<-z];exact AlA,?_⟩
         rw[AY]
         rcases B' with B'|⟨_,B',_⟩
         · by_cases y:e.As=q-1
           · exact .inr ⟨y,A9,.inr Ba⟩
           · exact .inl (by omega)
         · rw[aD]at B';cases B'
       · exact⟨x,(Ar8 h.mp).2 (.inr ⟨Ar5,by rw[A1];exact z⟩),AlA,B'⟩
     · obtain⟨x,Ar5,AlA,B'⟩:=h.Rn p AH
       by_cases z:x.Ap=c
       · have:x=m:=Asa h.mp Ar5 Ar9 (z.trans zF.symm)
         subst this
         refine⟨n,Kp,by rw[A1,<-z];exact AlA,?_⟩
         rw[AY]
         rcases B' with B'|⟨B',_⟩
         · by_cases y:p.2=q-1
           · exact .inr ⟨y,.inr Ba⟩
           · exact .inl (by omega)
         · have:p=(c,q):=Prod.ext (AlA.symm.trans z) (B'.trans Ase)
           exact absurd (this▸AH) Atb
       · exact⟨x,(Ar8 h.mp).2 (.inr ⟨Ar5,by rw[A1];exact z⟩),AlA,B'⟩
 · exact h
section
def Ar2(l:List BX):List (Int×Int):=(l.filter (fun x=>decide (x.Ca=1))).map fun x=>(x.Ap,x.As)
def Ar1(l:List Bx):List (Int×Int):=(l.filter (fun d=>decide (d.C3=0))).map fun d=>(d.Ap,d.As)
def Ar3(S:Bv):List (Int×Int):=Ar2 S.AA++Ar1 S.Bj
theorem Asl{x:BX}{l:List BX}:Ar2 (x::l)=(if x.Ca=1 then[(x.Ap,x.As)]else[])++Ar2 l:=by
 unfold Ar2
 rw[List.filter_cons]
 by_cases h:x.Ca=1
 · rw[if_pos (by simp[h]),if_pos h];rfl
 · rw[if_neg (by simp[h]),if_neg h];rfl
theorem Ar'{x:Bx}{l:List Bx}:Ar1 (x::l)=(if x.C3=0 then[(x.Ap,x.As)]else[])++Ar1 l:=by
 unfold Ar1
 rw[List.filter_cons]
 by_cases h:x.C3=0
 · rw[if_pos (by simp[h]),if_pos h];rfl
 · rw[if_neg (by simp[h]),if_neg h];rfl
theorem AsO{l m:List BX}(h:l.Sublist m):(Ar2 l).Sublist (Ar2 m):=(h.filter _).map _
theorem AtE{l m:List Bx}(h:l.Sublist m):(Ar1 l).Sublist (Ar1 m):=(h.filter _).map _
theorem Asv{l:List BX}{x:BX}:Ar2 (l++[x])=Ar2 l++(if x.Ca=1 then[(x.Ap,x.As)]else[]):=by
 have:Ar2 [x]=(if x.Ca=1 then[(x.Ap,x.As)]else[]):=by rw[Asl];exact List.append_nil _
 rw[<-this]
 unfold Ar2
 rw[List.filter_append,List.map_append]
theorem AtD{l:List Bx}{x:Bx}:Ar1 (l++[x])=Ar1 l++(if x.C3=0 then[(x.Ap,x.As)]else[]):=by
 have:Ar1 [x]=(if x.C3=0 then[(x.Ap,x.As)]else[]):=by rw[Ar'];exact List.append_nil _
 rw[<-this]
 unfold Ar1
 rw[List.filter_append,List.map_append]
theorem Ash{α:Type}{x:α}{a l m:List α}(h:l.Perm (x::m)):(a++l).Perm (x::(a++m)):=(List.Perm.append_left a h).trans List.perm_middle
theorem Asw:∀{l:List BX} {i:Nat},i<l.length->(l.getD i default).Ca=1->(Ar2 l).Perm (((l.getD i default).Ap,(l.getD i default).As)::Ar2 (l.eraseIdx i))
 |[],_,h,_=>absurd h (Nat.not_lt_zero _)
 |x::l,0,_,k=>by
  have k:x.Ca=1:=k
  show(Ar2 (x::l)).Perm ((x.Ap,x.As)::Ar2 l)
  rw[Asl,if_pos k]
  exact List.Perm.refl _
 |x::l,i+1,h,k=>by
  have Cg:=Asw (l:=l) (i:=i) (by simpa using h) k
  show(Ar2 (x::l)).Perm (((l.getD i default).Ap,(l.getD i default).As)::Ar2 (x::l.eraseIdx i))
  rw[Asl,Asl]
  exact Ash Cg
theorem Asu:∀{l:List Bx} {i:Nat} {d:Bx},i<l.length->(l.getD i default).C3=0->¬d.C3=0->(Ar1 l).Perm (((l.getD i default).Ap,(l.getD i default).As)::Ar1 (l.set i d))
 |[],_,_,h,_,_=>absurd h (Nat.not_lt_zero _)
 |x::l,0,d,_,k,Asq=>by
  have k:x.C3=0:=k
  show(Ar1 (x::l)).Perm ((x.Ap,x.As)::Ar1 (d::l))
  rw[Ar',Ar',if_pos k,if_neg Asq]
  exact List.Perm.refl _
 |x::l,i+1,d,h,k,Asq=>by
  have Cg:=Asu (l:=l) (i:=i) (d:=d) (by simpa using h) k Asq
  show(Ar1 (x::l)).Perm (((l.getD i default).Ap,(l.getD i default).As)::Ar1 (x::l.set i d))
  rw[Ar',Ar']
  exact Ash Cg
theorem AsN:∀{l:List Bx} {i:Nat} {d:Bx},i<l.length->(d.C3=0↔(l.getD i default).C3=0)->d.Ap=(l.getD i default).Ap->d.As=(l.getD i default).As->Ar1 (l.set i d)=Ar1 l
 |[],_,_,h,_,_,_=>absurd h (Nat.not_lt_zero _)
 |x::l,0,d,_,k,bu,Asf=>by
  have k:d.C3=0↔x.C3=0:=k
  have bu:d.Ap=x.Ap:=bu
  have Asf:d.As=x.As:=Asf
  show Ar1 (d::l)=Ar1 (x::l)
  rw[Ar',Ar',bu,Asf]
  by_cases z:x.C3=0
  · rw[if_pos z,if_pos (k.2 z)]
  · rw[if_neg z,if_neg (fun q=>z (k.1 q))]
 |x::l,i+1,d,h,k,bu,Asf=>by
  have Cg:=AsN (l:=l) (i:=i) (d:=d) (by simpa using h) k bu Asf
  show Ar1 (x::l.set i d)=Ar1 (x::l)
  rw[Ar',Ar',Cg]
theorem AsB{α β:Type}{f:α->β}:∀{l:List α},(l.map f).Nodup->∀{a b:α},a∈l->b∈l->f a=f b->a=b
 |[],_,_,_,h,_,_=>absurd h List.not_mem_nil
 |x::l,Ao,a,b,AK,Aq,e=>by
  rw[List.map_cons,List.nodup_cons]at Ao
  rcases List.mem_cons.1 AK with X9|o7
  · rcases List.mem_cons.1 Aq with h1|HO
    · rw[X9,h1]
    · exact absurd (by rw[<-X9,e];exact List.mem_map.2 ⟨b,HO,rfl⟩) Ao.1
  · rcases List.mem_cons.1 Aq with h1|HO
    · exact absurd (by rw[<-h1,<-e];exact List.mem_map.2 ⟨a,o7,rfl⟩) Ao.1
    · exact AsB Ao.2 o7 HO e
def ArY(E:List FE)(w:Ah):Prop:=ArZ w.S.Bz (Ar3 w.S) (E++w.EF)
section
variable{E:List FE}
theorem Ar_{w v:Ah}(h:ArY E w)(hm:v.S.Bz=w.S.Bz)(hw:v.S.AA=w.S.AA)(AJ:v.S.Bj=w.S.Bj)(he:v.EF=w.EF):ArY E v:=by
 unfold ArY Ar3
 rw[hm,hw,AJ,he]
 exact h
theorem Asg{w v:Ah}(h:ArY E w)(hm:v.S.Bz=w.S.Bz)(hw:v.S.AA.Sublist w.S.AA)(AJ:v.S.Bj.Sublist w.S.Bj)(he:v.EF=w.EF):ArY E v:=by
 have hs:(Ar3 v.S).Sublist (Ar3 w.S):=(AsO hw).append (AtE AJ)
 unfold ArY
 rw[hm,he]
 exact ArZ.sub h (fun p AH=>hs.subset AH) (hs.nodup h.nd)
theorem AsH{w:Ah}(h:ArY E w){k c q:Int}{a:De}(AE:¬k=1):ArY E (w.tell k c q a):=by
 show ArZ w.S.Bz (Ar3 w.S) (E++(w.EF++[_]))
 rw[<-List.append_assoc]
 exact ArZ.quiet h AE
theorem Asr{w:Ah}{c q:Int}(h:ArZ w.S.Bz ((c,q)::Ar3 w.S) (E++w.EF))(a:De):ArY E (w.done c q a):=by
 have:=ArZ.done h a
 rw[List.append_assoc]at this
 unfold Ah.done
 simp only
 split
 · rename_i e
   have e:(Oe w.S.Bz c q a).2=0:=e
   rw[if_pos e]at this
   exact this
 · rename_i e
   have e:¬(Oe w.S.Bz c q a).2=0:=e
   rw[if_neg e]at this
   exact this
theorem Asj{w:Ah}{c q n:Int}{k:ByteArray}(h:ArZ w.S.Bz ((c,q)::Ar3 w.S) (E++w.EF))(a:De):ArY E (w.served c q n k a):=by
 have AJ:=Asr h a
 unfold Ah.served
 simp only
 split
 · exact Ar_ AJ rfl rfl rfl rfl
 · exact AJ
theorem Ast{w:Ah}(h:ArY E w)(c q:Int):ArY E (w.raise c q):=by
 unfold Ah.raise
 split
 · exact Ar_ h rfl rfl rfl rfl
 · exact h
theorem AsE{w:Ah}{c q:Int}(h:ArZ w.S.Bz ((c,q)::Ar3 w.S) (E++w.EF))(e:Int):ArY E (w.ends c q e):=by
 have AJ:=Asr h (HN e)
 unfold Ah.ends
 simp only
 refine Ast ?_ c q
 exact Asg AJ rfl List.filter_sublist (List.Sublist.refl _) rfl
theorem AsD{w:Ah}{c q:Int}(h:ArZ w.S.Bz ((c,q)::Ar3 w.S) (E++w.EF)):ArY E (w.RR c q):=AsE h _
theorem AtI{d:Bx}{m i:Bool}:((TT d m i).2=true->d.C3=0/\¬(TT d m i).1.C3=0)/\((TT d m i).2=false->((TT d m i).1.C3=0↔d.C3=0))/\(TT d m i).1.Ap=d.Ap/\(TT d m i).1.As=d.As:=by
 by_cases Bm:(!decide (d.C3=0)|| !decide ((if m=true then d.DN else d.DO)=0))=true
 · rw[TT,if_pos Bm]
   exact⟨fun h=>(by cases h),fun _=>Iff.rfl,rfl,rfl⟩
 · rw[TT,if_neg Bm]
   have Bw:d.C3=0:=by
    simp only[Bool.or_eq_true,Bool.not_eq_true',decide_eq_false_iff_not,not_or,Classical.not_not]at Bm
    exact Bm.1
   simp only
   refine⟨fun q=>⟨Bw,by simpa using q⟩,fun q=>⟨fun _=>Bw,fun _=>by simpa using q⟩,?_,?_⟩<;>split<;>rfl
theorem AsG{w:Ah}(h:ArY E w){c q:Int}{m i:Bool}:((Jk w.S.Bj c q m i).2.1=true->ArZ w.S.Bz ((c,q)::Ar3 {w.S with Bj:=(Jk w.S.Bj c q m i).1}) (E++w.EF))/\((Jk w.S.Bj c q m i).2.1=false->ArY E {w with S:={w.S with Bj:=(Jk w.S.Bj c q m i).1}}):=by
 unfold Jk
 split
 · exact⟨fun q=>(by cases q),fun _=>Asg h rfl (List.Sublist.refl _) (List.nil_sublist _) rfl⟩
 · rename_i Ao
   obtain⟨a,b,_,d⟩:=V' (Classical.not_not.1 Ao)
   generalize (F1 w.S.Bj c q).1.toNat=j at b d
   obtain⟨s1,s2,IK,Jy⟩:=AtI (d:=w.S.Bj.getD j default) (m:=m) (i:=i)
   refine⟨fun e=>?_,fun e=>?_⟩
   · obtain⟨f0,f1⟩:=s1 e
     have AH:=Asu b f0 f1
     have d1:(w.S.Bj.getD j default).Ap=c:=d.1
     have d2:(w.S.Bj.getD j default).As=q:=d.2
     rw[d1,d2]at AH
     exact ArZ.perm h (Ash AH)
   · have AH:=AsN b (s2 e) IK Jy
     unfold ArY Ar3
     simp only
     rw[AH]
     exact h
theorem AsF{w:Ah}(h:ArY E w)(c q:Int):ArY E (w.OR c q):=by
 unfold Ah.OR
 simp only
 split
 · rename_i e
   rw[Bool.and_eq_true,decide_eq_true_eq]at e
   obtain⟨B4,DC⟩:=e
   refine AsE ?_ 190
   unfold NJ at B4 DC ⊢
   split at B4
   · rename_i Ao;exact absurd B4 Ao
   · rename_i Ao
     rw[if_neg Ao]at DC ⊢
     obtain⟨a,b,_,d⟩:=V' (Classical.not_not.1 Ao)
     generalize (F1 w.S.Bj c q).1.toNat=j at b d DC
     split at DC
     · rename_i f0
       rw[if_pos f0]
       have AH:=Asu (d:={w.S.Bj.getD j default with C3:=2}) b f0 (by show ¬(2:Int)=0;decide)
       have d1:(w.S.Bj.getD j default).Ap=c:=d.1
       have d2:(w.S.Bj.getD j default).As=q:=d.2
       rw[d1,d2]at AH
       exact ArZ.perm h (Ash AH)
     · cases DC
 · exact h
end
end
section
section
variable{E:List FE}
theorem Atn{w:Ah}{c:Dg}(h:ArY E w):ArY E (w.op c):=by
 unfold Ah.op
 split
 · exact h
 · simp only
   split
   · exact h
   · rename_i Af
     have Af:=Classical.not_not.1 Af
     split
     · rename_i h2
       obtain⟨x,y,z⟩:=Aqo Af h2
       rw[x]
       split
       · rename_i Bo
         simp only[Bool.and_eq_true,Bool.not_eq_true',decide_eq_false_iff_not]at Bo
         obtain⟨_,Ar9,zF⟩:=zM y
         have:=ArZ.told h Ar9 Bo.1 Bo.2
         rw[zF,z,List.append_assoc]at this
         exact this
       · exact h
     · rename_i h2
       split
       · exact AsH h (by decide)
       · have Aq:=ArZ.begin h Af (by simpa using h2)
         split
         · unfold Ah.T5
           split
           · exact Asj Aq _
           · rename_i e
             simp only[Bool.or_eq_true,Bool.not_eq_true',decide_eq_true_eq,decide_eq_false_iff_not,not_or,Classical.not_not]at e
             have az:(Mf w.S.Bj (QW c)).1=w.S.Bj++[QW c]:=(rU e.1).2.1
             have AH:(Ar2 w.S.AA++Ar1 (w.S.Bj++[QW c])).Perm ((c.Ap,c.As)::Ar3 w.S):=by
              rw[AtD]
              exact Ash (List.perm_append_comm.trans (List.Perm.refl _))
             have B4:∀(c q g:Int) (k:ByteArray) (n:Int) (l:List BX),Ar2 (l++[Li c q g k n])=Ar2 l:=fun c q g k n l=>by
              rw[Asv,if_neg (by show ¬(2:Int)=1;decide),List.append_nil]
             have B':=ArZ.perm Aq AH.symm
             simp only
             split
             · show ArZ _ (Ar2 ((w.S.AA++[Li _ _ _ _ _])++[Li _ _ _ _ _])++Ar1 (Mf w.S.Bj (QW c)).1) _
               rw[B4,B4,az]
               exact B'
             · show ArZ _ (Ar2 (w.S.AA++[Li _ _ _ _ _])++Ar1 (Mf w.S.Bj (QW c)).1) _
               rw[B4,az]
               exact B'
         · split
           · exact Asj Aq _
           · split
             · exact Asj Aq _
             · show ArZ _ (Ar2 (w.S.AA++[_])++Ar1 w.S.Bj) _
               rw[Asv,if_pos rfl,List.append_assoc]
               exact ArZ.perm Aq List.perm_middle.symm
theorem Atp{w:Ah}{c:Dg}(h:ArY E w):ArY E (w.report c):=by
 unfold Ah.report
 split
 · exact h
 · split
   · exact Ar_ h rfl rfl rfl rfl
   · exact h
theorem Atk{w:Ah}{c:Dg}(h:ArY E w):ArY E (w.UQ c):=by
 unfold Ah.UQ
 simp only
 refine AsF ?_ _ _
 split
 · rename_i i e
   have Ag:i<w.S.AA.length:=Q4 e
   have he:=(List.find?_range_eq_some.1 e).1
   simp only[Bool.and_eq_true,decide_eq_true_eq]at he
   have AH:=Asw Ag he.1.1
   rw[he.1.2,he.2]at AH
   exact Asr (w:={w with S:={w.S with AA:=w.S.AA.eraseIdx i}}) (ArZ.perm h (List.Perm.append_right _ AH)) _
 · exact h
theorem Ato{w:Ah}{c:Dg}(h:ArY E w):ArY E (w.Vc c):=by
 unfold Ah.Vc
 split
 · exact h
 · split
   · exact h
   · show ArZ _ (Ar2 (w.S.AA++[Li _ _ _ _ _])++_) _
     rw[Asv,if_neg (by show ¬(2:Int)=1;decide),List.append_nil]
     exact h
theorem Att{w:Ah}{c:Dg}(h:ArY E w):ArY E (w.T' c):=by
 obtain⟨s1,s2⟩:=AsG h (c:=c.Ap) (q:=c.As) (m:=false) (i:=c.Jr)
 unfold Ah.T'
 simp only
 split
 · exact h
 · split
   · rename_i e
     exact AsD (s1 e)
   · rename_i e
     exact s2 (by simpa using e)
theorem Ath{w:Ah}{c:Dg}(h:ArY E w):ArY E (w.S5 c):=by
 unfold Ah.S5
 split
 · exact h
 · simp only
   refine Ast ?_ _ _
   refine Asg (w:=if((BF w.S.Aj c.Al).2&&Hn (BF w.S.Aj c.Al).1 c.Ap c.As)=true then w.put (D1 (BF w.S.Aj c.Al).1 c.Jr).1 else w) ?_ rfl List.filter_sublist (List.Sublist.refl _) rfl
   split
   · exact Ar_ h rfl rfl rfl rfl
   · exact h
theorem Atj{w:Ah}{c:Dg}(h:ArY E w):ArY E (w.forget c):=by
 unfold Ah.forget
 split
 · rename_i e
   refine Asg h rfl (List.Sublist.refl _) ?_ rfl
   show(OP w.S.Bj c.Ap c.As).1.Sublist w.S.Bj
   unfold OP
   split
   · exact List.nil_sublist _
   · split
     · exact List.nil_sublist _
     · exact List.eraseIdx_sublist ..
 · exact h
theorem AsA{P:List (Int×Int)}:∀(l:List BX) {v:Ah},ArZ v.S.Bz P (E++v.EF)->(∀x∈l,x.Ca=1->Ef v.S x.AM.Al=true->¬(x.Ap,x.As)∈P)->
 ArZ (l.foldl Ah.Ic v).S.Bz P (E++(l.foldl Ah.Ic v).EF)/\(l.foldl Ah.Ic v).S={v.S with Bz:=(l.foldl Ah.Ic v).S.Bz}
 |[],_,h,_=>⟨h,rfl⟩
 |x::r,v,h,Ao=>by
  rw[List.foldl_cons]
  have step:ArZ (v.Ic x).S.Bz P (E++(v.Ic x).EF)/\(v.Ic x).S={v.S with Bz:=(v.Ic x).S.Bz}:=by
   unfold Ah.Ic
   split
   · exact⟨h,rfl⟩
   · rename_i Bm
     simp only[Bool.or_eq_true,Bool.not_eq_true',decide_eq_false_iff_not,not_or,Classical.not_not,Bool.not_eq_false]at Bm
     have AN:=ArZ.Atc (ArZ.quiet h (x:=⟨2,x.Ap,x.As,GS⟩) (by show ¬(2:Int)=1;decide)) (Ao x (List.mem_cons_self ..) Bm.1 Bm.2)
     rw[List.append_assoc]at AN
     simp only
     split
     · rename_i e
       have e:(G' v.S.Bz x.Ap x.As).2=0:=e
       rw[if_pos e]at AN
       exact⟨AN,rfl⟩
     · rename_i e
       have e:¬(G' v.S.Bz x.Ap x.As).2=0:=e
       rw[if_neg e]at AN
       exact⟨AN,rfl⟩
  obtain⟨a,b⟩:=step
  obtain⟨p,q⟩:=AsA r (v:=v.Ic x) a (fun y Bf k s=>by
   refine Ao y (List.mem_cons_of_mem _ Bf) k ?_
   rw[b]at s
   exact s)
  refine⟨p,?_⟩
  rw[b]at q
  exact q
theorem Ass{α:Type}{f:Ah->α->Ah}(BI:∀w x,ArY E w->ArY E (f w x)):∀(l:List α) {w:Ah},ArY E w->ArY E (l.foldl f w)
 |[],_,h=>h
 |x::r,_,h=>Ass BI r (BI _ x h)
theorem Atr{w:Ah}{c:Dg}(h:ArY E w):ArY E (w.seal c):=by
 unfold Ah.seal
 simp only
 split
 · exact h
 · split
   · exact h
   · refine Ass (fun u d hu=>?_) _ ?_
     · split
       · exact AsF hu _ _
       · exact hu
     · generalize BC:({w with S:={w.S with Bt:=c.Dj}}:Ah)=v
       have Bw:ArY E v:=by rw[<-BC];exact h
       have AtW:w.S.AA=v.S.AA:=by rw[<-BC]
       rw[AtW]
       have hs:(Ar2 (v.S.AA.filter (fun x=> !Ef v.S x.AM.Al))++Ar1 v.S.Bj).Sublist (Ar3 v.S):=(AsO List.filter_sublist).append (List.Sublist.refl _)
       have CC:=ArZ.sub Bw (fun p AH=>hs.subset AH) (hs.nodup Bw.nd)
       have OZ:=Bw.nd
       unfold Ar3 at OZ
       rw[List.nodup_append]at OZ
       obtain⟨HG,MF,rE⟩:=OZ
       obtain⟨a,b⟩:=AsA v.S.AA CC (fun x Ab k s AH=>by
        have bJ:(x.Ap,x.As)∈Ar2 v.S.AA:=List.mem_map.2 ⟨x,List.mem_filter.2 ⟨Ab,by simp[k]⟩,rfl⟩
        rcases List.mem_append.1 AH with AH|AH
        · obtain⟨y,Bf,e⟩:=List.mem_map.1 AH
          obtain⟨Bf,Nc⟩:=List.mem_filter.1 Bf
          obtain⟨Bf,AsR⟩:=List.mem_filter.1 Bf
          have:y=x:=AsB HG (List.mem_filter.2 ⟨Bf,Nc⟩) (List.mem_filter.2 ⟨Ab,by simp[k]⟩) e
          subst this
          rw[s]at AsR
          cases AsR
        · exact rE _ bJ _ AH rfl)
       generalize v.S.AA.foldl Ah.Ic v=u at a b
       show ArZ u.S.Bz (Ar2 (u.S.AA.filter (fun x=> !Ef u.S x.AM.Al))++Ar1 u.S.Bj) (E++u.EF)
       generalize UU:u.S.Bz=M at a b
       rw[b]
       exact a
theorem Ats{w:Ah}{c:Dg}(h:ArY E w):ArY E (w.unseal c):=by
 unfold Ah.unseal
 simp only
 split
 · exact h
 · split
   · split<;>exact h
   · split
     · exact h
     · split
       · exact h
       · rw[tQ]
         simp only
         split<;>exact h
theorem Atm{w:Ah}{c:Dg}(h:ArY E w):ArY E (w.WS c):=by
 unfold Ah.WS
 split<;>exact h
theorem Ar6{p:Prop}[Decidable p]{a b:Ah}(AK:ArY E a)(Aq:ArY E b):ArY E (if p then a else b):=by
 split
 · exact AK
 · exact Aq
theorem Ati{w:Ah}{c:Dg}(AE:¬c.Ca=10)(h:ArY E w):ArY E (w.cmd c):=by
 unfold Ah.cmd
 rw[if_neg AE]
 exact Ar6 (Atn h) (Ar6 (Atp h) (Ar6 (Atk h) (Ar6 (Ato h) (Ar6 (Att h) (Ar6 (Ath h) (Ar6 (Atj h) (Ar6 (Atr h) (Ar6 (Ats h) (Ar6 (Atm h) h)))))))))
theorem AtU(w:Ah)(o:FL):(H3 w o).1.S.Bz=w.S.Bz/\(H3 w o).1.S.AA=w.S.AA/\(H3 w o).1.S.Bj=w.S.Bj/\(H3 w o).1.EF=w.EF:=by
 unfold H3
 simp only
 split
 · exact⟨rfl,rfl,rfl,rfl⟩
 · split
   · exact⟨rfl,rfl,rfl,rfl⟩
   · split
     · split
       · exact⟨rfl,rfl,rfl,rfl⟩
       · split<;>exact⟨rfl,rfl,rfl,rfl⟩
     · split<;>exact⟨rfl,rfl,rfl,rfl⟩
theorem Atl{w:Ah}{x:BX}(h:ArY E w):ArY E (w.Lf x):=by
 unfold Ah.Lf
 split
 · exact h
 · simp only
   generalize KA _ _=r
   have BC:ArY E (if r.2=0 then w.put r.1 else w.tell 3 x.Ap x.As GS):=Ar6 (Ar_ h rfl rfl rfl rfl) (AsH h (by decide))
   generalize (if r.2=0 then w.put r.1 else w.tell 3 x.Ap x.As GS)=v at BC
   split
   · split
     · exact Ast BC _ _
     · exact BC
   · split
     · exact Ar6 (Ar_ BC rfl rfl rfl rfl) BC
     · obtain⟨s1,s2⟩:=AsG BC (c:=x.Ap) (q:=x.As) (m:=decide (x.AM.Al=(findD v.S.Bj x.Ap x.As).Al)) (i:=decide (r.2=0))
       generalize Jk v.S.Bj x.Ap x.As (decide (x.AM.Al=(findD v.S.Bj x.Ap x.As).Al)) (decide (r.2=0))=g at s1 s2
       split
       · rename_i e
         exact AsD (s1 e)
       · rename_i e
         exact s2 (by simpa using e)
theorem Atu{w:Ah}{i:Nat}(h:ArY E w)(Ag:i<w.S.AA.length):ArY E (w.L6 i):=by
 unfold Ah.L6
 simp only
 split
 · rename_i k
   have AH:=Asw Ag k
   obtain⟨a,b,d,e⟩:=AtU {w with S:={w.S with AA:=w.S.AA.eraseIdx i}} (w.S.AA.getD i default).AM
   refine Asj ?_ _
   unfold Ar3
   rw[a,b,d,e]
   exact ArZ.perm h (List.Perm.append_right _ AH)
 · exact Atl (Asg h rfl (List.eraseIdx_sublist ..) (List.Sublist.refl _) rfl)
theorem AsI:∀(n:Nat) {w:Ah},ArY E w->ArY E (Ah.waits n w)
 |0,_,h=>h
 |n+1,w,h=>by
  rw[Ah.waits]
  split
  · rename_i i e
    exact AsI n (Atu h (lb e))
  · exact h
theorem Ata(S:Bv):(LG S).Bz=S.Bz/\(LG S).AA=S.AA/\(LG S).Bj=S.Bj:=by
 unfold LG
 split
 · exact⟨rfl,rfl,rfl⟩
 · split
   · exact⟨rfl,rfl,rfl⟩
   · simp only
     split<;>exact⟨rfl,rfl,rfl⟩
theorem Atq{w:Ah}(h:ArY E w):ArY E w.rest:=by
 unfold Ah.rest
 simp only
 obtain⟨a,b,d⟩:=Ata w.S
 refine Ar_ (w:=w.BQ.foldl Ah.Iv {w with S:={LG w.S with Aj:=(LG w.S).Aj.map (Jv (LG w.S) w.ix)}}) ?_ rfl rfl rfl rfl
 refine Ass (fun u x hu=>?_) _ (Ar_ h a b d rfl)
 unfold Ah.Iv
 split
 · exact hu
 · exact Ar6 (Ar_ hu rfl rfl rfl rfl) hu
end
theorem As1{E:List FE}{S:Bv}{c:Dg}{ix nd:Int}(AE:¬c.Ca=10)(h:ArZ S.Bz (Ar3 S) E)(Bw:(Gc S c ix nd).2.2=0):ArZ (Gc S c ix nd).1.Bz (Ar3 (Gc S c ix nd).1) (E++(Gc S c ix nd).2.1):=by
 unfold Gc at Bw ⊢
 split at Bw
 · cases Bw
 · rename_i Bh
   rw[if_neg Bh]
   split at Bw
   · cases Bw
   · rename_i Ao
     rw[if_neg Ao]
     split at Bw
     · cases Bw
     · rename_i Ab
       rw[if_neg Ab]
       have g:ArY E {S:={S with DX:=ix},ix:=ix,nd:=nd,EF:=[],BQ:=[]}:=by
        show ArZ S.Bz (Ar3 S) (E++[])
        rw[List.append_nil]
        exact h
       exact Atq (AsI _ (Ati AE g))
theorem AsC{g nd:Int}{cs:List Dg}(CK:Ih g=true)(hw:∀c∈cs,c.wf)(Dq:∀c∈cs,¬c.Ca=10)(HG:1<=nd)(MF:nd<=5)(AN:(cs.length:Int)<=EW):∀i,i<=cs.length->ArZ (runN (F8 g) nd cs i).1.Bz (Ar3 (runN (F8 g) nd cs i).1) (runN (F8 g) nd cs i).2.1
 |0,_=>⟨rfl,fun e he=>absurd he List.not_mem_nil,fun e he=>absurd he List.not_mem_nil,fun p AH=>absurd AH List.not_mem_nil,fun p AH=>absurd AH List.not_mem_nil,List.nodup_nil⟩
 |i+1,Ag=>by
  have Cg:=AsC CK hw Dq HG MF AN i (by omega)
  obtain⟨a,b⟩:=cl (fJ CK) hw HG MF AN i (by omega)
  have hm:=Hl (l:=cs) (show i<cs.length by omega)
  have e:runN (F8 g) nd cs (i+1)=((Gc (runN (F8 g) nd cs i).1 (cs.getD i default) ((i:Int)+1) nd).1,(runN (F8 g) nd cs i).2.1++(Gc (runN (F8 g) nd cs i).1 (cs.getD i default) ((i:Int)+1) nd).2.1,(Gc (runN (F8 g) nd cs i).1 (cs.getD i default) ((i:Int)+1) nd).2.2):=by
   rw[runN]
   simp only
   rw[if_pos a]
  rw[e]
  exact As1 (Dq _ hm) Cg (Ah0 b (hw _ hm) HG MF (by omega)).1
end
section
@[reducible] def DG(p:Nat)(J:List Nat)(w:Cc):C4:=RW (σ:=Value) J (fun k=>[AO p 281 [.pointer none,k,.bool w.E6,.int .i64 0],@row UInt8 Rv 5 k w.out]) (fun _=>[]) (fun _=>w.out.length<=65536)
instance {α:Type} [Inhabited α]:Inhabited (Cq α):=⟨⟨default⟩⟩
section
variable{c:Cj} {ops:Array Oper} {Q:Exit->Act->World->Prop} {env:Env} {L:Go.A_.Own} {D:List Atom} {p:Nat} {J:List Nat}
theorem L2{w:Cc}{x:Code}(k:∀k,w.out.length<=65536->CF c x Q env (AO p 281 [.pointer none,k,.bool w.E6,.int .i64 0]::@row UInt8 Rv 5 k w.out::L) (D)):CF c x Q env (DG p J w::L) (D):=
 rN 0 rfl fun y h=>k y h
theorem Mh(w:Cc)(k:Value){L0:Go.A_.Own}{x:Code}(Dv:L0=AO p 281 [.pointer none,k,.bool w.E6,.int .i64 0]::@row UInt8 Rv 5 k w.out::L)(AU:w.out.length<=65536)(NP:∀J,CF c x Q env (DG p J w::L) (D)):CF c x Q env (L0) (D):=
 nO (LL:=fun k:Value=>[AO p 281 [.pointer none,k,.bool w.E6,.int .i64 0],@row UInt8 Rv 5 k w.out]) (DD:=fun _=>[]) (I:=fun _=>w.out.length<=65536) [] L k Dv AU Bg.nil (NP _)
theorem Ng(w:Cc)(k:Value){L0:Go.A_.Own}{e:Exit}(Dv:L0=AO p 281 [.pointer none,k,.bool w.E6,.int .i64 0]::@row UInt8 Rv 5 k w.out::L)(AU:w.out.length<=65536)(NP:∀J,Eg c Q e env (DG p J w::L) (D)):Eg c Q e env (L0) (D):=
 nP (LL:=fun k:Value=>[AO p 281 [.pointer none,k,.bool w.E6,.int .i64 0],@row UInt8 Rv 5 k w.out]) (DD:=fun _=>[]) (I:=fun _=>w.out.length<=65536) [] L k Dv AU Bg.nil (NP _)
end
theorem AkZ{b:List UInt8}{w:Cc}(h:w.out.length<=65536):(H4 b w).out.length<=65536:=by
 unfold H4
 split
 · exact h
 ·
  rename_i q
  simp only[Bool.or_eq_true,decide_eq_true_eq,not_or]at q
  rw[List.length_append]
  omega
theorem uQ{b:List UInt8}{n:Nat}(h:n<=65536):decide ((b.length:Int)>65536-(n:Int))=decide (b.length>65536-n):=by
 rw[decide_eq_decide]
 omega
def B_(l:List (Cq Int))(w:Cc):Cc:=l.foldl (fun w v=>E2 v.x w) w
def E0:List (Cq ByteArray)->Cc->Cc
 |[],w=>w
 |s::r,w=>if s.x.size>65535 then{w with E6:=true}else E0 r (KT s.x.data.toList w)
end
end Go.Apw
namespace Go.A_
open Go.RowKit
section
section
variable{c:Cj} {ops:Array Oper} {AP:Cj->Array Oper->List Oper->Env->Own->List Atom->Prop} [Dr:Ip AP] {env:Env} {L:Own} {D:List Atom} {rest:List Oper} {d:Nat} {t:TypeId} {p:String} {af:Array Edge} {x y:Operand} {m n:Int}
include Dr
theorem rz{q:IntKind}{ats:Array TypeId}(Ab:AL env x=some (.int q m))(Bf:AL env y=some (.int q n)){r:Int}(Bh:min m n=r)(Ao:Nat.blt d c.n=true)(k:AP c ops rest ((d,.int q r)::env) L D):
 AP c ops (⟨some d,.call {callee:=.builtin .min,args:= #[x,y],argTypes:=ats},t,p,af,none⟩::rest) env L D:=
 pu rfl rfl Ao (fun a w f=>by
  subst Bh
  have e:min m n=if n<m then n else m:=by omega
  simp[execOp,resolve,invoke,builtin,f.AL Ab,f.AL Bf,Builtin.min_,Builtin.min2,e]) k
variable{Ec FK:TypeId} {q:IntKind} {r:Int}
theorem AhV(Ab:AL env x=some (.int q m))(Bf:AL env y=some (.int q n))(Bw:n≠0)(Bh:q.wrap (m.tdiv n)=r)(Ao:Nat.blt d c.n=true)(k:AP c ops rest ((d,.int q r)::env) L D):AP c ops (⟨some d,.binOp .quo Ec x y FK,t,p,af,none⟩::rest) env L D:=by subst Bh;exact AhW Ab Bf Bw Ao k
theorem k'(Ab:AL env x=some (.int q m))(Bf:AL env y=some (.int q n))(Bw:n≠0)(Bh:m.tmod n=r)(Ao:Nat.blt d c.n=true)(k:AP c ops rest ((d,.int q r)::env) L D):AP c ops (⟨some d,.binOp .rem Ec x y FK,t,p,af,none⟩::rest) env L D:=by subst Bh;exact Aik Ab Bf Bw Ao k
theorem xc(Ab:AL env x=some (.int q m))(Bf:AL env y=some (.int q n))(Bh:q.wrap (m+n)=r)(Ao:Nat.blt d c.n=true)(k:AP c ops rest ((d,.int q r)::env) L D):AP c ops (⟨some d,.binOp .add Ec x y FK,t,p,af,none⟩::rest) env L D:=by subst Bh;exact Jm Ab Bf Ao k
theorem tM(Ab:AL env x=some (.int q m))(Bf:AL env y=some (.int q n))(Bh:q.wrap (m-n)=r)(Ao:Nat.blt d c.n=true)(k:AP c ops rest ((d,.int q r)::env) L D):AP c ops (⟨some d,.binOp .sub Ec x y FK,t,p,af,none⟩::rest) env L D:=by subst Bh;exact Ajg Ab Bf Ao k
theorem Aev(Ab:AL env x=some (.int q m))(Bh:q.wrap (0-m)=r)(Ao:Nat.blt d c.n=true)(k:AP c ops rest ((d,.int q r)::env) L D):AP c ops (⟨some d,.unOp .neg Ec x,t,p,af,none⟩::rest) env L D:=by subst Bh;exact Aew Ab Ao k
theorem GZ{α:Type}{r:Be α}(i:Nat){l:List Oper}{e:TypeId}{v:Value}{xs:List α}(Ag:L[i]? =some (@row α r e v xs))(k:v.oneCell'=true->AP c ops l env L D):AP c ops l env L D:=
 Dr.fact (fun a w f st AR=>by
  obtain⟨Cy,G8,_⟩:=st.own _ (List.mem_of_getElem? Ag)
  rcases G8.2 with⟨rfl,_⟩|⟨g,cap,cur,rfl,_⟩<;>rfl) k
end
end
end Go.A_
