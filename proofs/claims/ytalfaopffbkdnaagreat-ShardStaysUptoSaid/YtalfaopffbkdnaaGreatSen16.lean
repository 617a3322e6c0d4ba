/- Part 16 of shardStays_holds. -/
import Derived.Test.YtalfaopffbkdnaaGreatSen15

set_option maxRecDepth 20000
set_option maxHeartbeats 1000000
open List renaming append_assoc→ACN,append_nil→AB7,cons_append→ABU,foldl_cons→ACO,length_append→ABP,length_cons→ABv,length_filter_le→ADR,length_nil→ABo,mem_filter→ABZ,nil_append→ABK
open List.Pairwise renaming filter→AGv
open Go.A_
namespace Go.Apw
-- answers that stay in order
theorem ZA:GS.wf:=⟨DW,DW,DW,DW⟩
theorem OM{e:Int}(h:A' e):(HN e).wf:=⟨h,DW,DW,DW⟩
theorem gL{l:List BL}{m:BL}(h:Fg l=true)(hw:∀x∈l,x.Cm.wf)(hm:m.Cm.wf):∀x∈LP l m,x.Cm.wf:=fun x Ab=>by
 rcases(PJ N1 (Rl.1 h).2).1 Ab with rfl|Ab
 · exact hm
 · exact hw x Ab.1
theorem nx{l:List BL}{c q:Int}(h:(IS l c q).2.2=0)(hw:∀x∈l,x.Cm.wf):∀x∈(IS l c q).1,x.Cm.wf:=by
 unfold IS at h ⊢;split
 · exact fun x Ab=>absurd Ab ABh
 · rename_i hm;split
   · exact fun x Ab=>absurd Ab ABh
   · split
     · exact fun x Ab=>absurd Ab ABh
     · split
       · exact hw
       · exact gL (by simpa using hm) hw ZA
theorem y2{l:List BL}{c q:Int}{a:De}(hw:∀x∈l,x.Cm.wf)(AK:a.wf):∀x∈(Oe l c q a).1,x.Cm.wf:=by
 unfold Oe;split
 · exact fun x Ab=>absurd Ab ABh
 · rename_i Ao;exact gL (fs (ACD.1 Ao)).1 hw AK
theorem rk{l:List BL}{c q:Int}(hw:∀x∈l,x.Cm.wf):∀x∈(G' l c q).1,x.Cm.wf:=by
 unfold G';split
 · exact fun x Ab=>absurd Ab ABh
 · rename_i Ao;exact gL (fs (ACD.1 Ao)).1 hw (OM (e:=80) ⟨AGp,AGp⟩)
theorem Ac6{a b:List BL}(PZ:∀x∈a,x.Cm.wf)(Xw:∀x∈b,x.Cm.wf):∀x∈(M_ a b).1,x.Cm.wf:=by
 unfold M_;split
 · exact fun x Ab=>absurd Ab ABh
 · rename_i Ts;have Ao:(Fg a&&Fg b)=true:=(by simpa using Ts);rw[ABb]at Ao;obtain⟨AK,Aq⟩:=Ao;have Bm:=(Rl.1 Aq).1;clear Aq Ts;show ∀x∈b.foldl Ld a,x.Cm.wf;induction b generalizing a with
   |nil=>exact PZ
   |cons m r Cg=>
    rw[ACO];have hm:=Bm m (ABx ..);refine Cg ?_ (fun x Ab=>Xw x (ABR _ Ab)) ?_ (fun x Ab=>Bm x (ABR _ Ab))
    · unfold Ld;split
      · exact gL AK PZ (Xw m (ABx ..))
      · exact PZ
    · unfold Ld;split
      · exact bG AK hm.1 hm.2
      · exact AK
structure CE (w v:Ah):Prop where
 ws:Ce v.S
 g:v.S.CZ=w.S.CZ
 i:v.S.DX=w.S.DX
 x:v.ix=w.ix
 n:v.nd=w.nd
theorem CE.refl{w:Ah}(h:Ce w.S):CE w w:=⟨h,rfl,rfl,rfl,rfl⟩
theorem CE.trans{w v u:Ah}(h:CE w v)(k:CE v u):CE w u:=⟨k.ws,k.g.trans h.g,k.i.trans h.i,k.x.trans h.x,k.n.trans h.n⟩
theorem Q2{l:List AD}{k:ByteArray}(h:(BF l k).2=true):(BF l k).1∈l/\(BF l k).1.Al=k:=by
 unfold BF at h ⊢;cases e:Gd l.length (fun j=>decide ((l.getD j default).Al=k))with
 |none=>rw[e]at h;cases h
 |some j=>exact⟨Hl (Q4 e),ABA (List.find?_range_eq_some.1 e).1⟩
theorem UH{l:List AD}{k:ByteArray}(h:(BF l k).2=false):(∀a∈l,a.Al≠k)/\(BF l k).1=(O9 k).1:=by
 unfold BF at h ⊢;cases e:Gd l.length (fun j=>decide ((l.getD j default).Al=k))with
 |none=>
  refine⟨fun a AK=>?_,rfl⟩;obtain⟨j,Ay,rfl⟩:=UP AK;have:=List.find?_range_eq_none.1 e j Ay;simpa using this
 |some j=>rw[e]at h;cases h
theorem oS{l:List AD}(hs:H6 (·.Al) Ds l)(k:ByteArray):(BF l k).2=G9 (·.Al) Ds k l:=by
 rw[ACy,br Pa hs];constructor
 · intro h;exact⟨_,Q2 h⟩
 · rintro⟨x,Ab,e⟩;cases h:(BF l k).2 with
   |true=>rfl
   |false=>exact absurd e ((UH h).1 x Ab)
theorem YR{k:ByteArray}(h:Ix k=true):(O9 k).1={Fj with Al:=k}/\Fw (O9 k).1/\D3 (O9 k).1/\(O9 k).1.Al=k:=by
 obtain⟨A1,AY⟩:=YY.1 h;have e:(O9 k).1={Fj with Al:=k}:=by rw[O9,AA9 (by simp only[ABk,ABa];omega)]
 rw[e];have z:A' 0:=DW;refine⟨rfl,⟨h,ADn _,ADn _,ADn _,rfl,ADn _,ADn _,fun _=>rfl,fun q=>absurd rfl q⟩,⟨⟨by show k.size<=9223372036854775807;omega,⟨z,z⟩,z,z,trivial,z,z,z,z⟩,fun x Ab=>absurd Ab ABh⟩,rfl⟩
theorem V9{S:Bv}(h:Ce S){k:ByteArray}(AE:Ix k=true):Fw (BF S.Aj k).1/\D3 (BF S.Aj k).1/\(BF S.Aj k).1.Al=k:=by
 cases e:(BF S.Aj k).2 with
 |true=>
  obtain⟨a,b⟩:=Q2 e;exact⟨(h.acc _ a).1,(h.acc _ a).2.1,b⟩
 |false=>
  rw[(UH e).2];obtain⟨_,b,c,d⟩:=YR AE;exact⟨b,c,d⟩
theorem Ce.mA{S:Bv}(h:Ce S){l:List AD}(Af:l.length<=12)(h2:∀a∈l,Fw a/\D3 a/\F' S a.Al=true)(Bo:H6 (·.Al) Ds l)(Bw:S.Du=false->l=[]):Ce {S with Aj:=l}:=
 {h with own:=⟨fun e=>⟨(h.own.no e).1,(h.own.no e).2.1,Bw e,(h.own.no e).2.2.2⟩,h.own.yes⟩,len:=Af,acc:=h2,Ll:=Bo,wt:=h.wt,Hc:=h.Hc}
theorem Ce.gJ{S:Bv}(h:Ce S){l:List BL}(Af:Fg l=true)(h2:∀x∈l,x.Cm.wf):Ce {S with Bz:=l}:={h with marks:=Af,Me:=h2,own:=⟨h.own.no,h.own.yes⟩,acc:=h.acc,wt:=h.wt,Hc:=h.Hc}
theorem Ce.SH{S:Bv}(h:Ce S){l:List Bx}(Af:Is l=true):Ce {S with Bj:=l}:={h with VZ:=Af,own:=⟨h.own.no,h.own.yes⟩,acc:=h.acc,wt:=h.wt,Hc:=h.Hc}
theorem Ce.uN{S:Bv}(h:Ce S){l:List Df}(Af:HE l=true):Ce {S with CX:=l}:={h with ends:=Af,own:=⟨h.own.no,h.own.yes⟩,acc:=h.acc,wt:=h.wt,Hc:=h.Hc}
theorem Ce.uO{S:Bv}(h:Ce S){l:List BX}(Af:l.length<=8)(h2:∀x∈l,Mr S x=true/\x.wf)(Bw:S.Du=false->l=[]):Ce {S with AA:=l}:=
 {h with wl:=Af,wt:=fun x Ab=>(h2 x Ab).1,ww:=fun x Ab=>(h2 x Ab).2,own:=⟨fun e=>⟨(h.own.no e).1,(h.own.no e).2.1,(h.own.no e).2.2.1,Bw e,(h.own.no e).2.2.2.2⟩,h.own.yes⟩,acc:=h.acc,Hc:=h.Hc}
theorem Ce.bB{S:Bv}(h:Ce S){l:List BX}(hs:l.Sublist S.AA):Ce {S with AA:=l}:=
 h.uO (ABB hs.length_le h.wl) (fun x Ab=>⟨h.wt x (hs.subset Ab),h.ww x (hs.subset Ab)⟩) fun e=>by
  have:=(h.own.no e).2.2.2.1;rw[this]at hs;exact List.sublist_nil.1 hs
theorem WX{S:Bv}{k:ByteArray}(h:F' S k=true):S.Du=true:=by
 rw[F',ABb]at h;exact h.1
theorem TL{w:Ah}{a:AD}(h:Ce w.S)(AK:Fw a)(hw:D3 a)(A7:F' w.S a.Al=true)(AN:(BF w.S.Aj a.Al).2=true\/w.S.Aj.length<12):CE w (w.put a):=by
 refine⟨h.mA ?_ (fun x Ab=>?_) (W4 Pa h.Ll) (fun e=>by rw[WX A7]at e;cases e),rfl,rfl,rfl,rfl⟩
 · rw[oS h.Ll]at AN;have EM:=h.len;rcases AN with AN|AN
   · rw[su AN];exact EM
   · have:=cb (key:=fun a:AD=>a.Al) (lt:=Ds) a w.S.Aj;omega
 · rcases(PJ Pa h.Ll).1 Ab with rfl|Ab
   · exact⟨AK,hw,A7⟩
   · exact h.acc x Ab.1
theorem cJ{w:Ah}(h:Ce w.S)(k c q:Int)(a:De):CE w (w.tell k c q a):=⟨h,rfl,rfl,rfl,rfl⟩
theorem X3{w:Ah}(h:Ce w.S)(c q:Int){a:De}(AK:a.wf):CE w (w.done c q a):=by
 unfold Ah.done;simp only;split
 · rename_i e;exact⟨h.gJ (y1 e) (y2 h.Me AK),rfl,rfl,rfl,rfl⟩
 · exact⟨h,rfl,rfl,rfl,rfl⟩
theorem f'{w:Ah}(h:Ce w.S)(c q n:Int)(k:ByteArray){a:De}(AK:a.wf):CE w (w.served c q n k a):=by
 have AJ:=X3 h c q AK;unfold Ah.served;simp only;split
 · exact⟨AJ.ws,AJ.g,AJ.i,AJ.x,AJ.n⟩
 · exact AJ
theorem k2{w:Ah}(h:Ce w.S)(c q:Int):CE w (w.raise c q):=by
 unfold Ah.raise;split
 · rename_i e;exact⟨h.uN (sF e),rfl,rfl,rfl,rfl⟩
 · exact CE.refl h
theorem V3{w:Ah}(h:Ce w.S)(g:BX->Bool):CE w (w.drop g):=⟨h.bB List.filter_sublist,rfl,rfl,rfl,rfl⟩
theorem fi{a:AD}{c q:Int}(h:Hn a c q=true):G_ a=true:=by
 simp only[Hn,ABb]at h;exact h.1.1
theorem Ce.bE{S:Bv}(h:Ce S){f:AD->AD}(BI:∀a∈S.Aj,Fw (f a)/\D3 (f a)/\(f a).Al=a.Al):Ce {S with Aj:=S.Aj.map f}:=by
 refine h.mA (by rw[List.length_map];exact h.len) (fun x Ab=>?_) ?_ (fun e=>by rw[(h.own.no e).2.2.1];rfl)
 · obtain⟨a,AK,rfl⟩:=AB6.1 Ab;obtain⟨x,y,z⟩:=BI a AK;exact⟨x,y,by rw[z];exact(h.acc a AK).2.2⟩
 · have hs:=h.Ll;unfold H6 at hs ⊢;rw[List.pairwise_map];refine hs.imp_of_mem fun{a b} AK Aq q=>?_;show Ds (f a).Al (f b).Al=true;rw[(BI a AK).2.2,(BI b Aq).2.2];exact q
theorem ep{a:AD}{c:Bool}(AK:Fw a)(w:D3 a)(AN:G_ a=true):(D1 a c).2=0:=by
 rw[D1,AA9 (by rw[AK.acc w];decide),AA9 (by rw[AN];decide)]
theorem av{w:Ah}(h:Ce w.S)(c q:Int){e:Int}(he:A' e):CE w (w.ends c q e):=by
 unfold Ah.ends;simp only;have Af:=X3 h c q (OM he);refine Af.trans ?_;generalize w.done c q (HN e)=v at*;have h2:Ce {v.S with Aj:=v.S.Aj.map fun a=>if Hn a c q=true then(D1 a (decide ((findD w.S.Bj c q).C3=1))).1 else a}:=Af.ws.bE fun a AK=>by
  obtain⟨x,y,_⟩:=Af.ws.acc a AK;split
  · rename_i Aq;obtain⟨_,_,p,q,r⟩:=UK (c:=decide ((findD w.S.Bj c q).C3=1)) y (ep x y (fi Aq));exact⟨q,r,by rw[p]⟩
  · exact⟨x,y,rfl⟩
 have Bo:CE v {v with S:={v.S with Aj:=v.S.Aj.map fun a=>if Hn a c q=true then(D1 a (decide ((findD w.S.Bj c q).C3=1))).1 else a}}:=⟨h2,rfl,rfl,rfl,rfl⟩;refine Bo.trans ((V3 Bo.ws _).trans (k2 (V3 Bo.ws _).ws c q))
theorem oe{w:Ah}(h:Ce w.S)(c q:Int):CE w (w.RR c q):=av h c q (by split<;>exact⟨AGp,AGp⟩)
theorem er{w:Ah}(h:Ce w.S)(c q:Int):CE w (w.OR c q):=by
 unfold Ah.OR;simp only;split
 · rename_i e;rw[ABb,ABa]at e;have Af:CE w {w with S:={w.S with Bj:=(NJ w.S.Bj c q).1}}:=⟨h.SH (pb e.1),rfl,rfl,rfl,rfl⟩;exact Af.trans (av Af.ws c q ⟨AGp,AGp⟩)
 · exact CE.refl h
theorem dA{c:Dg}{n:Int}(h:NA c n=true):Jj c.Ap c.As=true/\1<=c.Bn/\c.Bn<=n/\1<=c.AM.Ca/\c.AM.Ca<=6/\Ix c.AM.Al=true/\(c.AM.Ca=1\/c.AM.Ca=2\/c.AM.Ca=6->1<=c.AM.B2)/\(c.AM.Ca=6->Ix c.AM.EL=true/\¬c.AM.EL=c.AM.Al):=by
 unfold NA at h;split at h
 · cases h
 · rename_i Af;simp only[ABk,ABa,ABN,ABe,AB_]at Af;obtain⟨⟨⟨⟨⟨a,b⟩,dG⟩,d⟩,e⟩,f⟩:=Af;refine⟨a,AGn,AGn,AGn,AGn,f,?_⟩;split at h
   · rename_i h2;simp only[ABk,ABa]at h2 h;exact⟨fun _=>h,fun q=>AGn⟩
   · rename_i h2;simp only[ABk,ABa,ABN]at h2;split at h
     · simp only[ABb,ABa,ABe,ABl]at h;exact⟨fun _=>h.1.1,fun _=>⟨h.1.2,h.2⟩⟩
     · exact⟨fun q=>AGn,fun q=>AGn⟩
theorem gg{o:FL}(w:A' o.B2)(h:1<=o.B2):A' (signed o):=by
 obtain⟨a,b⟩:=w;unfold signed;split
 · exact⟨AGn,AGn⟩
 · exact⟨a,b⟩
theorem c3{w:Ah}{x:BX}(h:Ce w.S)(AN:w.S.AA.length<8)(Ab:Mr w.S x=true)(hw:x.wf)(A7:w.S.Du=true):CE w (w.wait x):=by
 refine⟨h.uO (by rw[ABP];simp only[ABv,ABo];omega) (fun y Bf=>?_) (fun e=>by rw[A7]at e;cases e),rfl,rfl,rfl,rfl⟩;rcases ABm.1 Bf with Bf|Bf
 · exact⟨h.wt y Bf,h.ww y Bf⟩
 · rw[ADe.1 Bf];exact⟨Ab,hw⟩
theorem gG{S:Bv}{x:BX}(Af:Jj x.Ap x.As=true)(h2:Ix x.AM.Al=true)(Bo:F' S x.AM.Al=true)(BB:Ef S x.AM.Al=false)(h:(x.Ca=1/\Xu x=true)\/(x.Ca=2/\Xv x=true)):Mr S x=true:=by
 have e:Zx S x=false:=by rw[Zx,Af,h2,Bo,BB];rfl
 rw[Mr,e,AA9 AGp];rcases h with⟨a,b⟩|⟨a,b⟩
 · rw[AA_ (ABG a)];exact b
 · rw[AA9 (by rw[a];decide),AA_ (ABG a)];exact b
theorem fF{S:Bv}{c q home n:Int}{k:ByteArray}(Af:Jj c q=true)(h2:Ix k=true)(Bo:F' S k=true)(BB:Ef S k=false)(hh:Ih home=true)(Ao:¬n=0):Mr S (Li c q home k n)=true:=
 gG Af h2 Bo BB (.inr ⟨rfl,by
  show(decide ((0:Int)=0)&&Ih home&&(!decide (n=0))&&decide (({mV with Al:=k,B2:=n}:FL)=⟨0,k,ByteArray.empty,n,0,0⟩))=true;rw[hh,ABM Ao];simp[mV]⟩)
theorem W3{c q home n:Int}{k:ByteArray}(Af:Jj c q=true)(h2:Ix k=true)(hh:Ih home=true)(Ao:A' n):(Li c q home k n).wf:=by
 simp only[Jj,Ih,ABb,ABa]at Af hh;have BI:EW=4611686018427387904:=rfl;have i2:A' 2:=⟨AGp,AGp⟩;have Fb:ByteArray.empty.size<=9223372036854775807:=AGp;have AE:=YY.1 h2;have z:A' 0:=DW;exact⟨i2,⟨by show _<=c;omega,by show c<=_;omega⟩,⟨by show _<=q;omega,by show q<=_;omega⟩,z,⟨by show _<=home;omega,by show home<=_;omega⟩,⟨z,by show k.size<=_;omega,Fb,Ao,z,z⟩⟩
theorem Akn{w:Ah}{c:Dg}(h:Ce w.S)(Bm:NA c w.nd=true)(AE:c.AM.Ca=6)(wn:A' c.AM.B2)(A7:F' w.S c.AM.Al=true)(hs:Ef w.S c.AM.Al=false):CE w (w.T5 c):=by
 obtain⟨DP,_,_,_,_,KY,OH,VN⟩:=dA Bm;have HG:=OH (.inr (.inr AE));obtain⟨AY,_⟩:=VN AE;unfold Ah.T5;split
 · exact f' h _ _ _ _ (OM ⟨AGp,AGp⟩)
 · rename_i Af;simp only[ABk,ABa,ABN,ABe,AB_]at Af;obtain⟨d1,_⟩:=rU Af.1;have AJ:CE w {w with S:={w.S with Bj:=(Mf w.S.Bj (QW c)).1}}:=⟨h.SH d1,rfl,rfl,rfl,rfl⟩;obtain⟨rE,J'⟩:=wn;simp only;refine AJ.trans ?_;have B4:=c3 (x:=Li c.Ap c.As w.S.CZ c.AM.Al (-c.AM.B2)) AJ.ws (by show w.S.AA.length<8;omega) (fF DP KY A7 hs h.RZ AGn) (W3 DP KY h.RZ ⟨AGn,AGn⟩) (WX A7);split
   · rename_i h2;rw[ABb,ABe]at h2;refine B4.trans (c3 B4.ws (by show(w.S.AA++[_]).length<8;rw[ABP];simp only[ABv,ABo];omega) (fF DP AY h2.1 h2.2 h.RZ AGn) (W3 DP AY h.RZ ⟨rE,J'⟩) (WX A7))
   · exact B4
theorem Afx{w:Ah}{c:Dg}(h:Ce w.S)(hw:c.AM.wf)(OZ:w.nd<=5)(Aby:A' c.Bn):CE w (w.op c):=by
 unfold Ah.op;split
 · exact CE.refl h
 · rename_i Bw;have Bm:NA c w.nd=true:=(by simpa using Bw);obtain⟨DP,EK,FR,Iz,Lv,KY,OH,VN⟩:=dA Bm;simp only;split
   · exact CE.refl h
   · rename_i Af;split
     · split
       · exact cJ h _ _ _ _
       · exact CE.refl h
     · split
       · exact cJ h _ _ _ _
       · rename_i Bo;simp only[ABk,ABN,ABe,AB_,ACH,ABa]at Bo;obtain⟨⟨A7,hs⟩,he⟩:=Bo;have hm:CE w {w with S:={w.S with Bz:=(IS w.S.Bz c.Ap c.As).1}}:=⟨h.gJ (nw (ACD.1 Af)) (nx (ACD.1 Af) h.Me),rfl,rfl,rfl,rfl⟩;split
         · rename_i AE;exact hm.trans (Akn hm.ws Bm AE hw.2.2.2.1 A7 hs)
         · split
           · rename_i BB;simp only[Mu,ABb,ABe,ABD,ABl,ABa]at BB;obtain⟨⟨⟨AY,_⟩,BI⟩,AK⟩:=BB;obtain⟨_,f2,f3⟩:=V9 h KY;obtain⟨_,_,p,q,r⟩:=ZU f2 (gg hw.2.2.2.1 (OH AGn)) AK;have e:=TL (w:={w with S:={w.S with Bz:=(IS w.S.Bz c.Ap c.As).1}}) hm.ws q r (by rw[p];show F' w.S (BF w.S.Aj c.AM.Al).1.Al=true;rw[f3];exact A7) (.inl (by rw[p];show(BF w.S.Aj (BF w.S.Aj c.AM.Al).1.Al).2=true;rw[f3];exact BI));exact hm.trans (e.trans (f' e.ws _ _ _ _ ZA))
           · split
             · exact hm.trans (f' hm.ws _ _ _ _ (OM ⟨AGp,AGp⟩))
             · rename_i C';obtain⟨Ie,II,IJ,J0,Ks,MG⟩:=hw;have AE:=YY.1 KY;have Acq:=DP;simp only[Jj,ABb,ABa]at Acq;have Anp:EW=4611686018427387904:=rfl;have i1:A' 1:=⟨AGp,AGp⟩;refine hm.trans (c3 hm.ws (by show w.S.AA.length<8;have C':¬(w.S.AA.length:Int)>=8:=C';omega) (gG DP KY A7 hs (.inl ⟨rfl,?_⟩)) ⟨i1,⟨by show _<=c.Ap;omega,by show c.Ap<=_;omega⟩,⟨by show _<=c.As;omega,by show c.As<=_;omega⟩,Aby,DW,⟨Ie,II,IJ,J0,Ks,MG⟩⟩ (WX A7));rename_i Bp _;have Bd:c.AM.Ca<=5:=AGn;show(decide (c.Bn>=1)&&decide (c.Bn<=5)&&decide ((0:Int)=0)&&decide (c.AM.Ca>=1)&&decide (c.AM.Ca<=5)&&(decide (c.AM.Ca>2)||decide (c.AM.B2>=1)))=true;simp only[ABb,ABk,ABa];refine⟨⟨⟨⟨⟨EK,AGn⟩,trivial⟩,Iz⟩,Bd⟩,?_⟩;by_cases q:c.AM.Ca>2
               · exact .inl q
               · exact .inr (OH AGn)
theorem Aiq{w:Ah}{c:Dg}(h:Ce w.S):CE w (w.report c):=by
 unfold Ah.report;split
 · exact CE.refl h
 · rename_i Af;have BI:(BF w.S.Aj c.Al).2=true:=(by simpa using Af);split
   · rename_i h2;obtain⟨m,k⟩:=Q2 BI;obtain⟨x,y,z⟩:=h.acc _ m;obtain⟨_,_,_,_,_,_,_,p,q,r⟩:=lf y h2;exact TL h q r (by rw[p];exact z) (.inl (by rw[p];show(BF w.S.Aj (BF w.S.Aj c.Al).1.Al).2=true;rw[k];exact BI))
   · exact CE.refl h
theorem Aay{w:Ah}{c:Dg}(h:Ce w.S):CE w (w.UQ c):=by
 unfold Ah.UQ;simp only;split
 · rename_i i _;have Af:CE w {w with S:={w.S with AA:=w.S.AA.eraseIdx i}}:=⟨h.bB (List.eraseIdx_sublist ..),rfl,rfl,rfl,rfl⟩;have h2:=X3 Af.ws c.Ap c.As (OM (e:=190) ⟨AGp,AGp⟩);exact Af.trans (h2.trans (er h2.ws _ _))
 · exact er h _ _
theorem AhD{w:Ah}{c:Dg}(h:Ce w.S)(Ao:A' c.It):CE w (w.Vc c):=by
 unfold Ah.Vc;split
 · exact CE.refl h
 · rename_i Af;split
   · exact CE.refl h
   · rename_i h2;simp only[ABk,ABN,ABe,AB_,ACH,ABa]at Af h2;obtain⟨⟨⟨⟨⟨⟨⟨a,b⟩,d⟩,e⟩,f⟩,g⟩,_⟩,_⟩:=Af;exact c3 h AGn (fF a d f g b e) (W3 a d b Ao) (WX f)
theorem AkO{w:Ah}{c:Dg}(h:Ce w.S):CE w (w.T' c):=by
 unfold Ah.T';simp only;split
 · exact CE.refl h
 · rename_i Af;have AJ:CE w {w with S:={w.S with Bj:=(Jk w.S.Bj c.Ap c.As false c.Jr).1}}:=⟨h.SH (cC (ACD.1 Af)),rfl,rfl,rfl,rfl⟩;split
   · exact AJ.trans (oe AJ.ws _ _)
   · exact AJ
theorem xZ{w:Ah}{c:Dg}(h:Ce w.S):CE w (w.S5 c):=by
 unfold Ah.S5;split
 · exact CE.refl h
 · simp only;have key:CE w (if((BF w.S.Aj c.Al).2&&Hn (BF w.S.Aj c.Al).1 c.Ap c.As)=true then w.put (D1 (BF w.S.Aj c.Al).1 c.Jr).1 else w):=by
    split
    · rename_i h2;rw[ABb]at h2;obtain⟨m,k⟩:=Q2 h2.1;obtain⟨x,y,z⟩:=h.acc _ m;obtain⟨_,_,p,q,r⟩:=UK (c:=c.Jr) y (ep x y (fi h2.2));exact TL h q r (by rw[p];exact z) (.inl (by rw[p];show(BF w.S.Aj (BF w.S.Aj c.Al).1.Al).2=true;rw[k];exact h2.1))
    · exact CE.refl h
   exact key.trans ((V3 key.ws _).trans (k2 (V3 key.ws _).ws _ _))
theorem zW{w:Ah}{c:Dg}(h:Ce w.S):CE w (w.forget c):=by
 unfold Ah.forget;split
 · rename_i e;exact⟨h.SH (zV e),rfl,rfl,rfl,rfl⟩
 · exact CE.refl h
theorem Aei{w:Ah}{c:Dg}(h:Ce w.S)(_:c.Dj.Ev=w.S.CW.Ev->True):CE w (w.WS c):=by
 unfold Ah.WS;split
 · exact CE.refl h
 · rename_i Af;simp only[ABk,ABN,ABe,AB_,ABa]at Af;obtain⟨⟨⟨Sp,HG⟩,B4⟩,DC⟩:=Af;have Ao:L7 c.Dj.Ev:=by
    rcases h.out with⟨x,_⟩|⟨x,_⟩
    · rw[x]at HG;exact absurd HG Sp
    · simp only[LK,ABb,ABa]at x;exact⟨AGn,AGn⟩
   have U1:=h.ON;have AbF:L7 (max w.S.Dn c.Dn):=⟨by have:=U1.1;omega,by have:=U1.2;omega⟩;refine⟨{h with un:=Ao,ON:=AbF,own:=⟨h.own.no,fun o=>⟨?_,(h.own.yes o).2⟩⟩,out:=.inl ⟨rfl,rfl⟩,acc:=h.acc,wt:=h.wt,Hc:=h.Hc},rfl,rfl,rfl,rfl⟩;have:=(h.own.yes o).1;show 1<=max w.S.Dn c.Dn;omega
structure m3 where
 CZ:Int
 zA:AD
 deriving DecidableEq,Inhabited
end Go.Apw
namespace Go.A_
end Go.A_
namespace Go.Apw
def Akk(x:m3):ZS:=⟨x.zA,x.CZ⟩
def b0(Im:List Bv)(PN:List (List QM))(l:List m3):Bool:=allI l.length (fun j=>(Abt Im PN (Akk (l.getD j default))).2)
theorem k7{α:Type}{rd:Bb->α×Bb}{p:α->Prop}(h:∀s,p (rd s).1):∀(n:Nat) (s:Bb),∀a∈(GI rd n s).1,p a
 |0,_,a,AK=>by cases AK
 |n+1,s,a,AK=>by
  rw[GI]at AK;split at AK
  · rcases ABf.1 AK with rfl|AK
    · exact h s
    · exact k7 h n _ a AK
  · cases AK
theorem Aag(J:List UInt8)(s:Bb):∀a∈(FC J s).1.Aj,a.wf:=by
 unfold FC;simp only[Di,CS];exact k7 (fun s=>o9 J s) _ _
theorem Aib(b:List UInt8):∀a∈(Er b).1.Aj,a.wf:=by
 have z:∀a∈IP.Aj,a.wf:=fun a AK=>absurd AK (ABh);by_cases h:NF b=0
 · rw[fN h];by_cases h2:65536<b.length
   · show ∀a∈(Lm b).Aj,a.wf;rw[lY h2];exact z
   · show ∀a∈(Lm b).Aj,a.wf;rw[gn h2];exact Aag _ _
 · rw[k8 h];exact z
theorem Yd{α:Type}{f:Ah->α->Ah}(BI:∀w x,Ce w.S->CE w (f w x)):∀(l:List α) {w:Ah},Ce w.S->CE w (l.foldl f w)
 |[],_,h=>CE.refl h
 |x::r,_,h=>by
  have Af:=BI _ x h;exact Af.trans (Yd BI r Af.ws)
structure XK (w v:Ah):Prop where
 s:v.S={w.S with Bz:=v.S.Bz}
 m:Fg v.S.Bz=true
 Me:∀x∈v.S.Bz,x.Cm.wf
 x:v.ix=w.ix
 n:v.nd=w.nd
theorem Ad3{w v:Ah}(h:XK w v)(x:BX):XK w (v.Ic x):=by
 unfold Ah.Ic;split
 · exact h
 · simp only;split
   · rename_i e;refine⟨?_,rj e,rk h.Me,h.x,h.n⟩;show({v.S with Bz:=_}:Bv)=_;rw[h.s]
   · exact⟨h.s,h.m,h.Me,h.x,h.n⟩
theorem foldl_mk{w:Ah}:∀(l:List BX) {v:Ah},XK w v->XK w (l.foldl Ah.Ic v)
 |[],_,h=>h
 |x::r,_,h=>foldl_mk r (Ad3 h x)
theorem SF{S:Bv}{x:BX}:Mr S x=true↔Jj x.Ap x.As=true/\Ix x.AM.Al=true/\F' S x.AM.Al=true/\Ef S x.AM.Al=false/\((x.Ca=1/\Xu x=true)\/(x.Ca=2/\Xv x=true)):=by
 constructor
 · intro h;unfold Mr at h;split at h
   · cases h
   · rename_i Bw;simp only[Zx,ABk,ABN,ABe,AB_,ACH]at Bw;obtain⟨⟨⟨a,b⟩,c⟩,d⟩:=Bw;refine⟨a,b,c,d,?_⟩;split at h
     · rename_i k;exact .inl ⟨ABA k,h⟩
     · split at h
       · rename_i k;exact .inr ⟨ABA k,h⟩
       · cases h
 · rintro⟨a,b,c,d,e⟩;exact gG a b c d e
theorem c2{S T:Bv}{x:BX}(h:Mr S x=true)(A7:F' T x.AM.Al=true)(hs:Ef T x.AM.Al=false):Mr T x=true:=by
 obtain⟨a,b,_,_,e⟩:=SF.1 h;exact gG a b A7 hs e
theorem Ajl{w:Ah}{c:Dg}(h:Ce w.S):CE w (w.seal c):=by
 unfold Ah.seal;simp only;split
 · exact CE.refl h
 · rename_i Af;split
   · exact CE.refl h
   · rename_i h2;simp only[ABk,ABN,ABe,AB_,ABa]at Af h2;obtain⟨⟨⟨⟨⟨AH,BI⟩,Yx⟩,AbZ⟩,A7⟩,he⟩:=Af;obtain⟨⟨Ao,hh⟩,hw⟩:=h2;generalize BC:({w with S:={w.S with Bt:=c.Dj}}:Ah)=v0;have Xo:v0.S={w.S with Bt:=c.Dj}:=(by rw[<-BC]);have NS:XK v0 v0:=⟨rfl,by rw[Xo];exact h.marks,by rw[Xo];exact h.Me,rfl,rfl⟩;have Kq:=foldl_mk w.S.AA NS;generalize w.S.AA.foldl Ah.Ic v0=v at Kq ⊢;have e:v.S={w.S with Bt:=c.Dj,Bz:=v.S.Bz}:=by
      have:=Kq.s;rw[Xo]at this;exact this
     have hm:=Kq.m;have U5:=Kq.Me;generalize v.S.Bz=mk at e hm U5;have Wx:F' v.S c.Dj.A6=true:=(by rw[e];show(w.S.Du&&within w.S.A6 w.S.Bc c.Dj.A6)=true;rw[A7,hw];rfl);have Bo:CE w (v.drop fun x=>Ef v.S x.AM.Al):=by
      refine⟨?_,by show v.S.CZ=_;rw[e],by show v.S.DX=_;rw[e],by show v.ix=_;rw[Kq.x,<-BC],by show v.nd=_;rw[Kq.n,<-BC]⟩;show Ce {v.S with AA:=v.S.AA.filter (fun x=> !Ef v.S x.AM.Al)};have Tv:∀x∈v.S.AA.filter (fun x=> !Ef v.S x.AM.Al),Mr v.S x=true/\x.wf:=fun x Ab=>by
       obtain⟨a,b⟩:=ABZ.1 Ab;have a:x∈w.S.AA:=(by rw[e]at a;exact a);have Ab:=h.wt x a;refine⟨c2 Ab ?_ (by simpa using b),h.ww x a⟩;have:=(SF.1 Ab).2.2.1;rw[e];exact this
      have AN:(v.S.AA.filter (fun x=> !Ef v.S x.AM.Al)).length<=8:=ABB (ADR ..) (by rw[e];exact h.wl);generalize v.S.AA.filter (fun x=> !Ef v.S x.AM.Al)=ws at Tv AN;have O0:w.S.Du=false->False:=fun q=>by rw[A7]at q;cases q
      rw[e]at Tv Wx ⊢;exact{h with marks:=hm,Me:=U5,wl:=AN,wt:=fun x Ab=>(Tv x Ab).1,ww:=fun x Ab=>(Tv x Ab).2,own:=⟨fun q=>(O0 q).elim,h.own.yes⟩,acc:=h.acc,Hc:=.inr ⟨AH,BI,hh,Wx⟩}
     refine Bo.trans (Yd (fun u d hu=>?_) _ Bo.ws);split
     · exact er hu _ _
     · exact CE.refl hu
theorem Aks{w:Ah}{n:Int}(h:Ce w.S)(Ao:¬n=0)(he:n=w.S.Bt.Ev):CE w {w with S:={w.S with Bt:=FP,GW:=n}}:=by
 have Cu:¬w.S.Bt=FP:=fun e=>by rw[e]at he;exact Ao he
 have AH:LK w.S.Bt=true:=by
  rcases h.Hc with e|e
  · exact absurd e Cu
  · exact e.1
 have Fx:L7 n:=by
  simp only[LK,ABb,ABa]at AH;exact⟨AGn,AGn⟩
 have A7:w.S.Du=true:=by
  cases e:w.S.Du with
  |true=>rfl
  |false=>exact absurd (h.own.no e).2.2.2.2 Cu
 exact⟨{h with un:=Fx,own:=⟨fun q=>(by rw[A7]at q;cases q),h.own.yes⟩,acc:=h.acc,wt:=fun x Ab=>c2 (h.wt x Ab) (SF.1 (h.wt x Ab)).2.2.1 rfl,Hc:=.inl rfl},rfl,rfl,rfl,rfl⟩
structure mY (l:List AD) (p:Fs):Prop where
 acc:∀a∈l,Fw a/\D3 a/\within p.A6 p.Bc a.Al=true
 len:l.length<=12
theorem qk{b:List UInt8}{p:Fs}(h:(FD b p).2=true):(FD b p).1=(Er b).1/\(Er b).2=0/\mY (FD b p).1.Aj p:=by
 unfold FD at h ⊢;split at h
 · cases h
 · rename_i Af;rw[AA9 Af];split at h
   · rename_i h2;rw[AA_ h2];simp only[ABk,ABN,ABe,AB_,ABa]at Af;refine⟨rfl,Af.1,fun a AK=>?_,by show(Er b).1.Aj.length<=12;omega⟩;have wf:=Aib b a AK;obtain⟨j,Ay,rfl⟩:=UP AK;have:=(Nz.1 h2) j Ay;simp only[Ty,ABe,ABD,ABI,ABa,ABl,ee]at this;obtain⟨⟨⟨⟨⟨DP,EK⟩,FR⟩,Iz⟩,Lv⟩,KY,OH⟩:=this;have Ao:((Er b).1.Aj.getD j default).A0=[]:=ADd.1 AGn;exact⟨(P3 wf.2.1).1 DP,⟨wf,fun x Ab=>by rw[Ao]at Ab;cases Ab⟩,KY⟩
   · cases h
theorem sw:∀(l:List AD) (w:Ah),l.foldl Ah.put w={w with S:={w.S with Aj:=l.foldl (fun q a=>FQ (·.Al) Ds a q) w.S.Aj}}
 |[],_=>rfl
 |a::r,w=>by
  rw[ACO,sw r];rfl
theorem sx:∀(l:List AD) {q:List AD},H6 (·.Al) Ds q->H6 (·.Al) Ds (l.foldl (fun q a=>FQ (·.Al) Ds a q) q)/\(l.foldl (fun q a=>FQ (·.Al) Ds a q) q).length<=q.length+l.length/\∀a∈l.foldl (fun q a=>FQ (·.Al) Ds a q) q,a∈q\/a∈l
 |[],q,h=>⟨h,ABW _,fun a AK=>.inl AK⟩
 |x::r,q,h=>by
  obtain⟨a,b,c⟩:=sx r (W4 Pa (x:=x) h);have AN:=cb (key:=fun a:AD=>a.Al) (lt:=Ds) x q;refine⟨a,by rw[ACO,ABv];omega,fun y Bf=>?_⟩;rcases c y Bf with Bf|Bf
  · rcases(PJ Pa h).1 Bf with rfl|Bf
    · exact .inr (ABx ..)
    · exact .inl Bf.1
  · exact .inr (ABR _ Bf)
theorem within_iff{BQ Ag k:ByteArray}:within BQ Ag k=true↔Ds k BQ=false/\(Ag=ByteArray.empty\/Ds k Ag=true):=by
 have:(Ds BQ k||decide (BQ=k))=true↔Ds k BQ=false:=by rw[bA];simp
 rw[within,ABb,this,ABk,bs]
theorem Ad8{a b c:ByteArray}(Af:Ds a b=true)(h2:Ds c b=false):Ds c a=false:=by
 cases e:Ds c a with
 |false=>rfl
 |true=>rw[lt_trans e Af]at h2;cases h2
theorem Vm{BQ Ag:ByteArray}:PQ BQ Ag=true↔BQ.size<=16/\Ag.size<=16/\(Ag=ByteArray.empty\/Ds BQ Ag=true):=by
 simp only[PQ,ABb,ABk,ABa,bs];exact⟨fun⟨⟨a,b⟩,c⟩=>⟨AGn,AGn,c⟩,fun⟨a,b,c⟩=>⟨⟨AGn,AGn⟩,c⟩⟩
theorem Ac7{BQ mid Ag k:ByteArray}(Af:PQ BQ mid=true)(h2:PQ mid Ag=true)(hm:mid≠ByteArray.empty)(h:within BQ mid k=true\/within mid Ag k=true):within BQ Ag k=true:=by
 obtain⟨_,_,a⟩:=Vm.1 Af;obtain⟨_,_,b⟩:=Vm.1 h2;have a:=a.resolve_left hm;rw[within_iff,within_iff]at h;rw[within_iff];rcases h with⟨p,q⟩|⟨p,q⟩
 · refine⟨p,?_⟩;rcases b with b|b
   · exact .inl b
   · exact .inr (lt_trans (q.resolve_left hm) b)
 · exact⟨Ad8 a p,q⟩
theorem tR{S:Bv}{l:List AD}{p:Fs}(h:Ce S)(Ag:mY l p)(AH:PQ p.A6 p.Bc=true)(hs:S.Bt=FP)(AN:l.length+S.Aj.length<=12)(Bh:S.Du=true->¬S.Bc=ByteArray.empty/\S.Bc=p.A6)(ON:Int)(U1:1<=ON/\ON<=EW):
 Ce {S with Aj:=l.foldl (fun q a=>FQ (·.Al) Ds a q) S.Aj,Du:=true,A6:=if S.Du=false then p.A6 else S.A6,Bc:=p.Bc,Dn:=ON}:=by
 obtain⟨DP,EK,FR⟩:=sx l h.Ll;have Acb:PQ (if S.Du=false then p.A6 else S.A6) p.Bc=true/\(∀k,F' S k=true\/within p.A6 p.Bc k=true->within (if S.Du=false then p.A6 else S.A6) p.Bc k=true):=by
  cases e:S.Du with
  |false=>
   rw[AA_ rfl];exact⟨AH,fun k AE=>AE.resolve_left fun q=>by rw[WX q]at e;cases e⟩
  |true=>
   rw[AA9 AGp];obtain⟨Sp,HG⟩:=Bh e;have WE:=(h.own.yes e).2;rw[HG]at WE Sp;obtain⟨SJ,Ug,XA⟩:=Vm.1 WE;obtain⟨J5,Kd,Ke⟩:=Vm.1 AH;refine⟨Vm.2 ⟨SJ,Kd,?_⟩,fun k AE=>Ac7 WE AH Sp ?_⟩
   · rcases Ke with Ke|Ke
     · exact .inl Ke
     · exact .inr (lt_trans (XA.resolve_left Sp) Ke)
   · rcases AE with AE|AE
     · rw[F',ABb,HG]at AE;exact .inl AE.2
     · exact .inr AE
 obtain⟨NY,MK⟩:=Acb;have Fb:0<=ON:=AGn;have hlen:=ABB EK (show S.Aj.length+l.length<=12 by omega);refine{h with ON:=⟨Fb,U1.2⟩,own:=⟨fun q=>(by cases q),fun _=>⟨U1.1,NY⟩⟩,len:=hlen,acc:=fun a AK=>?_,Ll:=DP,wt:=fun x Ab=>?_,Hc:=.inl hs}
 · have key:∀k,F' S k=true\/within p.A6 p.Bc k=true->F' {S with Aj:=l.foldl (fun q a=>FQ (·.Al) Ds a q) S.Aj,Du:=true,A6:=if S.Du=false then p.A6 else S.A6,Bc:=p.Bc,Dn:=ON} k=true:=fun k AE=>by
    show(true&&within _ _ k)=true;rw[MK k AE];rfl
   rcases FR a AK with q|q
   · obtain⟨x,y,z⟩:=h.acc a q;exact⟨x,y,key _ (.inl z)⟩
   · obtain⟨x,y,z⟩:=Ag.acc a q;exact⟨x,y,key _ (.inr z)⟩
 · have e1:=h.wt x Ab;refine c2 e1 ?_ ?_
   · show(true&&within _ _ x.AM.Al)=true;rw[MK _ (.inl (SF.1 e1).2.2.1)];rfl
   · show(!decide (S.Bt.Ev=0)&&_)=false;rw[hs];rfl
theorem tQ(w:Ah)(l:List AD)(p:Fs):(w.Ry l p)={w with S:={w.S with Aj:=l.foldl (fun q a=>FQ (·.Al) Ds a q) w.S.Aj,Du:=true,A6:=if w.S.Du=false then p.A6 else w.S.A6,Bc:=p.Bc}}:=by
 unfold Ah.Ry;simp only;rw[sw];cases e:w.S.Du with
 |false=>simp
 |true=>simp[e]
theorem kT{p:Fs}(h:LK p=true):PQ p.A6 p.Bc=true:=by
 simp only[LK,ABb]at h;exact h.2
theorem sj{p:Fs}(h:LK p=true):L7 p.Ev:=by
 simp only[LK,ABb,ABa]at h;exact⟨AGn,AGn⟩
theorem Ce.Alg{S:Bv}(h:Ce S){n:Int}(Ao:L7 n):Ce {S with CW:=FP,Cf:=[],GW:=n}:={h with un:=Ao,out:=.inl ⟨rfl,rfl⟩,own:=⟨h.own.no,h.own.yes⟩,acc:=h.acc,wt:=h.wt,Hc:=h.Hc}
theorem Akt{w:Ah}{c:Dg}(h:Ce w.S):CE w (w.unseal c):=by
 unfold Ah.unseal;simp only;split
 · exact CE.refl h
 · rename_i Ao;split
   · split
     · rename_i he;exact Aks h Ao he
     · exact CE.refl h
   · split
     · exact CE.refl h
     · rename_i Af;split
       · exact CE.refl h
       · rename_i h2;simp only[ABk,ABN,ABe,AB_,ABa,ABb,not_and]at Af h2;obtain⟨⟨HG,B3⟩,Bh⟩:=Af;obtain⟨i1,i2⟩:=h2;have AH:LK w.S.CW=true:=by
          rcases h.out with⟨x,_⟩|⟨x,_⟩
          · rw[x]at HG;exact absurd HG Ao
          · exact x
         obtain⟨_,_,Ag⟩:=qk i1;have Fx:L7 c.Dj.Ev:=(by rw[HG];exact sj AH);have Qd:w.S.Du=true->¬w.S.Bc=ByteArray.empty/\w.S.Bc=w.S.CW.A6:=fun o=>by
          have:=Bh o;rw[bs]at this;exact⟨this.1,this.2⟩
         have U1:=h.ON;have key:=tR (h.Alg Fx) Ag (kT AH) B3 (by show(FD w.S.Cf w.S.CW).1.Aj.length+w.S.Aj.length<=12;omega) Qd;rw[tQ];simp only;split
         · exact⟨key 1 ⟨AGp,AGp⟩,rfl,rfl,rfl,rfl⟩
         · rename_i Fb;exact⟨key w.S.Dn ⟨by have:=U1.1;omega,U1.2⟩,rfl,rfl,rfl,rfl⟩
theorem Aap(J:List UInt8)(s:Bb):∀a∈(FC J s).1.Bz,a.wf:=by
 unfold FC;simp only[Di,CS];exact k7 (fun s=>o_ J s) _ _
theorem Aid(b:List UInt8):∀a∈(Er b).1.Bz,a.Cm.wf:=by
 have z:∀a∈IP.Bz,a.Cm.wf:=fun a AK=>absurd AK (ABh);by_cases h:NF b=0
 · rw[fN h];by_cases h2:65536<b.length
   · show ∀a∈(Lm b).Bz,a.Cm.wf;rw[lY h2];exact z
   · show ∀a∈(Lm b).Bz,a.Cm.wf;rw[gn h2];exact fun a AK=>(Aap _ _ a AK).2.2.2
 · rw[k8 h];exact z
theorem Ac3{a b:List BL}(h:Fg a=true)(g:Fg b=true):(M_ a b).2=0:=by simp[M_,h,g]
theorem AcZ{a b:List Df}(h:HE a=true)(g:HE b=true):(Ok a b).2=0:=by simp[Ok,h,g]
theorem wK{w:Ah}{c:Dg}(h:Ce w.S):CE w (w.RI c):=by
 unfold Ah.RI;simp only;split
 · exact CE.refl h
 · rename_i Af;split
   · exact CE.refl h
   · rename_i h2;simp only[ABk,ABN,ABe,AB_,ABa]at Af h2;obtain⟨⟨⟨⟨AH,_⟩,_⟩,B4⟩,DC⟩:=Af;obtain⟨⟨i1,jQ⟩,AcB⟩:=h2;have Fx:=sj AH;have Cl:Ce {w.S with Jc:=c.Dj.Ev}:={h with hf:=Fx,own:=⟨h.own.no,h.own.yes⟩,acc:=h.acc,wt:=h.wt,Hc:=h.Hc};split
     · exact⟨{Cl with TO:=Fx,own:=⟨h.own.no,h.own.yes⟩,acc:=h.acc,wt:=h.wt,Hc:=h.Hc},rfl,rfl,rfl,rfl⟩
     · rename_i Bo;simp only[ABk,ABN,ABe,AB_,ABa,ABb,not_and]at Bo;obtain⟨⟨Bh,B3⟩,AN⟩:=Bo;obtain⟨Ab',_,Ag⟩:=qk i1;have Qd:w.S.Du=true->¬w.S.Bc=ByteArray.empty/\w.S.Bc=c.Dj.A6:=fun o=>by
        have:=Bh o;rw[bs]at this;exact⟨this.1,this.2⟩
       have key:=tR Cl Ag (kT AH) B3 (by show(FD c.Cf c.Dj).1.Aj.length+w.S.Aj.length<=12;omega) Qd c.Dn ⟨AGn,AGn⟩;rw[tQ];simp only;have hm:Fg (M_ w.S.Bz (FD c.Cf c.Dj).1.Bz).1=true:=Ac5 (Ac3 h.marks jQ);have he:HE (Ok w.S.CX (FD c.Cf c.Dj).1.CX).1=true:=Ac1 (AcZ h.ends AcB);exact⟨(key.gJ hm (Ac6 h.Me (by rw[Ab'];exact Aid _))).uN he,rfl,rfl,rfl,rfl⟩
theorem CE.ite{p:Prop}[Decidable p]{w a b:Ah}(AK:CE w a)(Aq:CE w b):CE w (if p then a else b):=by
 split
 · exact AK
 · exact Aq
theorem dO{w:Ah}{c:Dg}(h:Ce w.S)(Bm:c.wf)(OZ:w.nd<=5):CE w (w.cmd c):=by
 obtain⟨Ua,Ub,Xs,RD,Ud,Xt,OD,gE,my,cW,SD,Xr,AkQ,SE⟩:=Bm;unfold Ah.cmd;refine CE.ite (Afx h Xr OZ Ud) (CE.ite (Aiq h) (CE.ite (Aay h) (CE.ite (AhD h cW) (CE.ite (AkO h) (CE.ite (xZ h) (CE.ite (zW h) (CE.ite (Ajl h) (CE.ite (Akt h) (CE.ite (wK h) (CE.ite (Aei h fun _=>trivial) (CE.refl h)))))))))))
-- what waits
theorem tI{w:Ah}{o:FL}(h:Ce w.S)(AE:Ix o.Al=true)(A7:F' w.S o.Al=true)(hw:o.wf)(Ao:o.Ca=1\/o.Ca=2->1<=o.B2)(AbR:1<=o.Ca/\o.Ca<=5):CE w (H3 w o).1:=by
 obtain⟨f1,f2,f3⟩:=V9 h AE;unfold H3;simp only;split
 · exact CE.refl h
 · rename_i Ba;split
   · exact CE.refl h
   · rename_i A9;split
     · split
       · exact CE.refl h
       · rename_i Bd Af;simp only[ABb,ABe,ABa,not_and]at Af;split
         · rename_i h2;obtain⟨p,_,q,r,_⟩:=nD f2 (s:=⟨o.A6,o.Bc⟩) ⟨hw.2.2.2.2.1,hw.2.2.2.2.2⟩ h2;refine TL h q r (by rw[p];show F' w.S (BF w.S.Aj o.Al).1.Al=true;rw[f3];exact A7) ?_;rw[p];show(BF w.S.Aj (BF w.S.Aj o.Al).1.Al).2=true\/_;rw[f3];cases e:(BF w.S.Aj o.Al).2 with
           |true=>exact .inl rfl
           |false=>
            have:=Af e;have AK:0<=S2 w.S:=(by unfold S2;split<;>omega);exact .inr AGn
         · exact CE.refl h
     · rename_i Bd;split
       · rename_i h2;obtain⟨UG,AmQ,p,q,r⟩:=ZU f2 (gg hw.2.2.2.1 (Ao AGn)) h2;refine TL h q r (by rw[p];show F' w.S (BF w.S.Aj o.Al).1.Al=true;rw[f3];exact A7) ?_;rw[p];show(BF w.S.Aj (BF w.S.Aj o.Al).1.Al).2=true\/_;rw[f3];cases e:(BF w.S.Aj o.Al).2 with
         |true=>exact .inl rfl
         |false=>
          exfalso;have Aq:=q.BQ;have R9:=q.Ag;rw[p]at Aq R9;have Cu:(BF w.S.Aj o.Al).1={Fj with Al:=o.Al}:=(by rw[(UH e).2];exact(YR AE).1);rw[Cu]at Aq R9;have CY:(0:Int)<=0+signed o:=Aq;have Dh:(0:Int)+signed o<=0:=R9;have:=Ao AGn;unfold signed at CY Dh;split at CY<;>omega
       · exact CE.refl h
theorem Akl{a:AD}(w:D3 a):A' (Io a).1:=by
 unfold Io;split
 · exact DW
 · exact w.wf.2.2.1
theorem xy{a:AD}{s:GC}:A' (Pu a s).2:=by
 have h:∀e:Int,(e=0\/e=21\/e=150\/e=152)->A' e:=fun e q=>⟨AGn,AGn⟩;refine h _ ?_;unfold Pu LJ;repeat' split
 all_goals first|exact .inl rfl|exact .inr (.inl rfl)|exact .inr (.inr (.inl rfl))|exact .inr (.inr (.inr rfl))|contradiction
theorem wS{a:AD}{n:Int}:A' (JF a n).2:=by
 have h:∀e:Int,(e=0\/e=21\/e=150\/e=152\/e=1)->A' e:=fun e q=>⟨AGn,AGn⟩;refine h _ ?_;unfold JF;repeat' split
 all_goals simp
theorem tH{w:Ah}{o:FL}(h:Ce w.S)(AE:Ix o.Al=true):(H3 w o).2.wf:=by
 obtain⟨f1,f2,f3⟩:=V9 h AE;have t:=Akl f2;unfold H3;simp only;split
 · exact⟨DW,t,DW,DW⟩
 · split
   · exact⟨DW,DW,t,t⟩
   · split
     · split
       · exact OM ⟨AGp,AGp⟩
       · exact OM xy
     · exact OM wS
theorem AdV{w:Ah}{x:BX}(h:Ce w.S)(AE:Ix x.AM.Al=true)(A7:F' w.S x.AM.Al=true)(hw:x.wf)(Ao:¬x.AM.B2=0):CE w (w.Lf x):=by
 obtain⟨f1,f2,f3⟩:=V9 h AE;unfold Ah.Lf;split
 · exact CE.refl h
 · simp only;have AN:(F_.mk x.Ap x.As x.DH x.AM.B2).wf:=⟨hw.2.1,hw.2.2.1,hw.2.2.2.2.1,hw.2.2.2.2.2.2.2.2.1⟩;generalize Bh:KA (BF w.S.Aj x.AM.Al).1 ⟨x.Ap,x.As,x.DH,x.AM.B2⟩=r;have key:CE w (if r.2=0 then w.put r.1 else w.tell 3 x.Ap x.As GS)/\(r.2=0->Fw r.1/\D3 r.1/\r.1.Al=x.AM.Al/\(BF w.S.Aj x.AM.Al).2=true/\G_ r.1=true):=by
    by_cases e:r.2=0
    · rw[AA_ e];have IV:=e;rw[<-Bh]at IV;obtain⟨p,_,_,Qj,CY,Dh,q,s⟩:=gu f2 AN IV;rw[Bh]at p q s;have BI:(BF w.S.Aj x.AM.Al).2=true:=by
       cases S_:(BF w.S.Aj x.AM.Al).2 with
       |true=>rfl
       |false=>
        exfalso;have Cu:(BF w.S.Aj x.AM.Al).1={Fj with Al:=x.AM.Al}:=(by rw[(UH S_).2];exact(YR AE).1);rw[Cu]at CY Dh;have CY:(0:Int)<=0+x.AM.B2:=CY;have Dh:(0:Int)+x.AM.B2<=0:=Dh;omega
      have js:r.1.Al=x.AM.Al:=(by rw[p];exact f3);have AbV:G_ r.1=true:=by
       simp only[Sk,ABb,ABa]at Qj;have:¬x.Ap=0:=AGn;rw[p];show(!decide (x.Ap=0))=true;rw[ABM this];rfl
      exact⟨TL h q s (by rw[js];exact A7) (.inl (by rw[js];exact BI)),fun _=>⟨q,s,js,BI,AbV⟩⟩
    · rw[AA9 e];exact⟨cJ h _ _ _ _,fun q=>absurd q e⟩
   obtain⟨A1,AY⟩:=key;have A9:r.2=0->∀v:Ah,v=(if r.2=0 then w.put r.1 else w.tell 3 x.Ap x.As GS)->(BF v.S.Aj x.AM.Al).2=true/\F' v.S x.AM.Al=true:=fun e v BC=>by
    rw[AA_ e]at BC;obtain⟨_,_,z,_⟩:=AY e;have hs:=A1.ws.Ll;rw[AA_ e,<-BC]at hs;refine⟨?_,by rw[BC];exact A7⟩;rw[oS hs,br Pa hs];exact⟨r.1,by rw[BC];exact(PJ Pa h.Ll).2 (.inl rfl),z⟩
   generalize BC:(if r.2=0 then w.put r.1 else w.tell 3 x.Ap x.As GS)=v at A1 A9;refine A1.trans ?_;split
   · split
     · exact k2 A1.ws _ _
     · exact CE.refl A1.ws
   · split
     · split
       · rename_i BI;by_cases e:r.2=0
         · obtain⟨a,b,c,_,l⟩:=AY e;obtain⟨_,_,p,q,s⟩:=UK (c:=false) b BI;obtain⟨Kq,YQ⟩:=A9 e v rfl;exact TL A1.ws q s (by rw[p];show F' v.S r.1.Al=true;rw[c];exact YQ) (.inl (by rw[p];show(BF v.S.Aj r.1.Al).2=true;rw[c];exact Kq))
         · exfalso;have Cu:r.1=Fj:=by
            rw[<-Bh]at e ⊢;unfold KA at e ⊢;split
            · rfl
            · rename_i Hj;rw[AA9 Hj]at e;split
              · rfl
              · rename_i G1;rw[AA9 G1]at e;split
                · rfl
                · rename_i Jt;rw[AA9 Jt]at e;split
                  · rfl
                  · rename_i NI;rw[AA9 NI]at e;exact absurd rfl e
           rw[Cu]at BI;exact absurd BI AGp
       · exact CE.refl A1.ws
     · rename_i AJ;simp only[ABk,ABN,ABe,AB_,ABa]at AJ;generalize CK:Jk v.S.Bj x.Ap x.As (decide (x.AM.Al=(findD v.S.Bj x.Ap x.As).Al)) (decide (r.2=0))=g;have pE:g.2.2=0:=by
        have pz:(F1 v.S.Bj x.Ap x.As).2=0:=by
         have:=AJ.1;unfold Tz at this;split at this
         · cases this
         · rename_i q;simp only[ABk,ABa,ABN,ABe,AB_,ee]at q;rw[F1,AA9 (by rw[q.2];decide),AA9 q.1]
        rw[<-CK,Jk,AA9 (not_not_intro pz)]
       have h2:CE v {v with S:={v.S with Bj:=g.1}}:=⟨A1.ws.SH (by rw[<-CK]at pE ⊢;exact cC pE),rfl,rfl,rfl,rfl⟩;split
       · exact h2.trans (oe h2.ws _ _)
       · exact h2
theorem uI{x:BX}(h:Xu x=true):1<=x.AM.Ca/\x.AM.Ca<=5/\(x.AM.Ca=1\/x.AM.Ca=2->1<=x.AM.B2):=by
 simp only[Xu,ABb,ABk,ABa]at h;omega
theorem uG{w:Ah}{i:Nat}(h:Ce w.S)(Ag:i<w.S.AA.length):CE w (w.L6 i):=by
 have hm:=Hl (l:=w.S.AA) Ag;obtain⟨a,b,c,d,e⟩:=SF.1 (h.wt _ hm);have hw:=h.ww _ hm;unfold Ah.L6;simp only;have Af:CE w {w with S:={w.S with AA:=w.S.AA.eraseIdx i}}:=⟨h.bB (List.eraseIdx_sublist ..),rfl,rfl,rfl,rfl⟩;split
 · rename_i k;have A7:Xu (w.S.AA.getD i default)=true:=by
    rcases e with e|e
    · exact e.2
    · rw[k]at e;exact absurd e.1 AGp
   obtain⟨Ie,II,IJ⟩:=uI A7;have h2:=tI (w:={w with S:={w.S with AA:=w.S.AA.eraseIdx i}}) Af.ws b c hw.2.2.2.2.2 IJ ⟨Ie,II⟩;exact Af.trans (h2.trans (f' h2.ws _ _ _ _ (tH (w:={w with S:={w.S with AA:=w.S.AA.eraseIdx i}}) Af.ws b)))
 · rename_i k;have A7:Xv (w.S.AA.getD i default)=true:=by
    rcases e with e|e
    · exact absurd e.1 k
    · exact e.2
   simp only[Xv,ABb,ABe,ABl]at A7;exact Af.trans (AdV Af.ws b c hw A7.1.2)
theorem gH:∀(n:Nat) {w:Ah},Ce w.S->CE w (Ah.waits n w)
 |0,_,h=>CE.refl h
 |n+1,w,h=>by
  rw[Ah.waits];cases e:KS w.S with
  |none=>exact CE.refl h
  |some i=>
   have Af:=uG h (Q4 e);exact Af.trans (gH n Af.ws)
theorem fm:∀(k i v v0:Nat) (r:List UInt8),(GN v).length=k->i<=9->v*2^(7*i)<2^64->(i=0\/0<v)->HH i v0 (GN v++r)=(v0+v*2^(7*i),i+k,0)
 |0,i,v,v0,r,AE,_,_,_=>by
  exfalso;by_cases h:v<128
  ·
   rw[ec h]at AE;simp at AE
  ·
   rw[eb AGn]at AE;simp at AE
 |k+1,i,v,v0,r,AE,Ag,BC,Bw=>by
  by_cases h:v<128
  ·
   rw[ec h]at AE ⊢;have AE:k=0:=(by simpa using AE.symm);subst AE;have Bm:(UInt8.ofNat v).toNat=v:=toNat_ofNat AGn;have EO:i=9->v<=1:=by
    rintro rfl;simp only[Nat.reduceMul,Nat.reducePow]at BC;omega
   simp only[ABU,ABK,HH,Bm];rw[AA9 AGn,AA9 AGn,AA9 AGn,Nat.mod_eq_of_lt h]
  ·
   have Aq:128<=v:=AGn;rw[eb Aq]at AE ⊢;have AE:(GN (v / 128)).length=k:=(by simpa using AE);have Bm:(UInt8.ofNat (v % 128+128)).toNat=v % 128+128:=toNat_ofNat AGn;have EO:i≠9:=by
    rintro rfl;simp only[Nat.reduceMul,Nat.reducePow]at BC;omega
   have e:2^(7*(i+1))=128*2^(7*i):=(by rw[Nat.mul_add,Nat.pow_add,Nat.mul_comm]);have jK:v / 128*2^(7*(i+1))+v % 128*2^(7*i)=v*2^(7*i):=by
    rw[e,<-Nat.mul_assoc,<-Nat.add_mul];congr 1;omega
   simp only[ABU,HH,Bm];rw[AA9 AGn,AA_ AGn,show(v % 128+128) % 128=v % 128 by omega];rw[fm k (i+1) (v / 128) _ r AE AGn AGn (.inr AGn)];rw[ADs v0,Nat.add_comm (v % 128*2^(7*i)),jK];congr 2;omega
def MX(J:List UInt8)(s:Bb)(r:List UInt8):Prop:=s.fault=0/\s.pos<=J.length/\J.drop s.pos=r
theorem MX.next{α:Type}{J:List UInt8}{s:Bb}{a r:List UInt8}(h:MX J s (a++r)){d x:α}{f:List UInt8->α×Nat×Nat}(BI:f (a++r)=(x,a.length,0)):
  ∃DR,Lj J d f s=(x,DR)/\MX J DR r:=by
 obtain⟨Af,h2,Bo⟩:=h;have AN:a.length+r.length+s.pos=J.length:=by
  have:=ABE List.length Bo;simp only[ACt,ABP]at this;omega
 refine⟨⟨s.pos+a.length,s.fault⟩,?_,Af,by show s.pos+a.length<=_;omega,?_⟩
 ·
  simp only[Lj,Bo,BI,Bb.val,Bb.step];rw[AA9 AGn,AA9 AGn,AA9 AGn,AA9 AGn]
 ·
  show J.drop (s.pos+a.length)=r;rw[<-List.drop_drop,Bo,List.drop_left]
theorem Ah'{J:List UInt8}{s:Bb}{v:Nat}{r:List UInt8}(BC:v<2^64)(h:MX J s (GN v++r)):∃DR,rdNum J s=(v,DR)/\MX J DR r:=
 h.next (by rw[fm _ 0 v 0 r rfl AGp (by simpa using BC) (.inl rfl)];simp)
theorem Ah7{J:List UInt8}{s:Bb}{x:Int}{r:List UInt8}(Ab:A' x)(h:MX J s (QZ x++r)):∃DR,D6 J s=(x,DR)/\MX J DR r:=by
 obtain⟨DR,Af,h2⟩:=Ah' (AlY Ab) h;exact⟨DR,by simp only[D6,Af,AlS],h2⟩
theorem Ah2{J:List UInt8}{m:Int}{s:Bb}{v:Nat}{r:List UInt8}(Bw:(v:Int)<=m)(BC:v<2^64)(h:MX J s (GN v++r)):∃DR,DT J m s=(v,DR)/\MX J DR r:=
 h.next (by
  have e:=fm _ 0 v 0 r rfl AGp (by simpa using BC) (.inl rfl);rw[S7 e,AA9 (by simp;omega),AA9 (by simp)];simp)
theorem Aie{J:List UInt8}{m:Int}{s:Bb}{b r:List UInt8}(Bw:(b.length:Int)<=m)(Aq:b.length<2^64)(h:MX J s (RS b++r)):∃DR,Gm J m s=(b,DR)/\MX J DR r:=
 h.next (by
  have e:=fm _ 0 b.length 0 (b++r) rfl AGp (by simpa using Aq) (.inl rfl);simp only[AB0,Nat.mul_zero,Nat.pow_zero,Nat.mul_one]at e;have B4:L9 (RS b++r) m=(b.length,(GN b.length).length,0):=by
   unfold RS;rw[ACN,S7 e,AA9 AGn,AA9 AGn]
  rw[l7 B4,AA9 AGn,AA9 (by unfold RS;simp only[List.length_append];omega)];unfold RS;rw[ACN,List.drop_left,List.take_left,ABP])
theorem Ah4{J:List UInt8}{s:Bb}{b:Bool}{r:List UInt8}(h:MX J s ([if b=true then 1 else 0]++r)):∃DR,Kw J s=(b,DR)/\MX J DR r:=
 h.next (by cases b<;>rfl)
def HU{α:Type}(W:Cc->Cc)(rd:List UInt8->Bb->α×Bb)(x:α):Prop:=
 ∀w,(W w).E6=false->w.E6=false/\(w.out.length<=65536->(W w).out.length<=65536)/\∃e,(W w).out=w.out++e/\∀J s r,MX J s (e++r)->∃DR,rd J s=(x,DR)/\MX J DR r
theorem fG{α:Type}{b:List UInt8}{rd:List UInt8->Bb->α×Bb}{x:α}(h:∀J s r,MX J s (b++r)->∃DR,rd J s=(x,DR)/\MX J DR r):HU (H4 b) rd x:=by
 intro w AN;unfold H4 at AN ⊢;split at AN
 ·
  cases AN
 ·
  rename_i Ao;rw[AA9 Ao];simp only[ABk,ABN,ABa,ACH]at Ao;exact⟨Ao.1,fun _=>by show(w.out++b).length<=_;rw[ABP];omega,b,G,h⟩
theorem tF{α:Type}{W:Cc->Cc}{rd:List UInt8->Bb->α×Bb}{x:α}(h:HU W rd x):HU (fun w=>if w.E6=true then w else W w) rd x:=by
 intro w AN;simp only at AN ⊢;split at AN
 ·
  rename_i e;rw[e]at AN;cases AN
 ·
  rename_i e;rw[AA9 e];exact h w AN
theorem F7{v:Int}(h:A' v):HU (E2 v) D6 v:=tF (fG fun _ _ _ hs=>Ah7 h hs)
theorem oZ{b:Bool}:HU (Gy b) Kw b:=tF (fG fun _ _ _ hs=>Ah4 hs)
theorem nL{b:List UInt8}:HU (KT b) (fun J=>Gm J 65535) b:=by
 intro w AN;unfold KT at AN ⊢;split at AN
 ·
  rename_i e;rw[e]at AN;cases AN
 ·
  rename_i e;split at AN
  ·
   cases AN
  ·
   rename_i Aq;rw[AA9 e,AA9 Aq];exact fG (fun _ _ _ hs=>Aie AGn AGn hs) w AN
def c1(s:ByteArray)(w:Cc):Cc:=if s.size>65535 then{w with E6:=true}else KT s.data.toList w
theorem T3{s:ByteArray}:HU (c1 s) (fun J=>Gm J 65535) s.data.toList:=by
 intro w AN;unfold c1 at AN ⊢;split at AN
 ·
  cases AN
 ·
  rename_i e;rw[AA9 e];exact nL w AN
def Jz(l:List (Cc->Cc))(w:Cc):Cc:=l.foldl (fun w f=>f w) w
theorem Qy{β:Type}{y z:β}(h:z=y):HU (Jz []) (fun _ s=>(z,s)) y:=by
 intro w AN;subst h;exact⟨AN,fun h=>h,[],(AB7 _).symm,fun _ s _ hs=>⟨s,G,hs⟩⟩
theorem D'{α β:Type}{W:Cc->Cc}{l:List (Cc->Cc)}{rd:List UInt8->Bb->α×Bb}{x:α}{k:α->List UInt8->Bb->β×Bb}{y:β}(h:HU W rd x)(g:HU (Jz l) (k x) y):HU (Jz (W::l)) (fun J s=>Di (rd J s) fun a t=>k a J t) y:=by
 intro w AN;obtain⟨Hj,G1,DC,Jt,NI⟩:=g (W w) AN;obtain⟨Af,h2,B4,Bo,BB⟩:=h w Hj;refine⟨Af,fun q=>G1 (h2 q),B4++DC,by show(Jz l (W w)).out=_;rw[Jt,Bo,ACN],fun J s r hs=>?_⟩;rw[ACN]at hs;obtain⟨s1,NY,hs⟩:=BB J s _ hs;obtain⟨s2,MK,hs⟩:=NI J s1 _ hs;exact⟨s2,by simp only[Di,NY,MK],hs⟩
theorem T4{α:Type}{s:ByteArray}{r:List ByteArray}{l:List (Cc->Cc)}{rd:List UInt8->Bb->α×Bb}{x:α}(h:HU (Jz (c1 s::KD r::l)) rd x):HU (Jz (KD (s::r)::l)) rd x:=by
 intro w AN;have e:Jz (KD (s::r)::l) w=Jz l (if s.size>65535 then{w with E6:=true}else KD r (KT s.data.toList w)):=by
  show Jz l (KD (s::r) w)=_;rw[KD]
 have IV:Jz (c1 s::KD r::l) w=Jz l (KD r (if s.size>65535 then{w with E6:=true}else KT s.data.toList w)):=rfl;have Dv:∀(r:List ByteArray) (w:Cc),w.E6=true->KD r w=w:=by
  intro r;induction r with
  |nil=>intro w _;rfl
  |cons a r Cg=>
   intro w hw;rw[KD];split
   ·
    cases w;simp only at hw;subst hw;rfl
   ·
    rw[show KT a.data.toList w=w by rw[KT,AA_ hw]];exact Cg w hw
 have DC:Jz (KD (s::r)::l) w=Jz (c1 s::KD r::l) w:=by
  rw[e,IV];split
  ·
   rw[Dv r {w with E6:=true} rfl]
  · rfl
 rw[DC]at AN ⊢;exact h w AN
theorem cM{α:Type}{l:List (Cc->Cc)}{rd:List UInt8->Bb->α×Bb}{x:α}(h:HU (Jz l) rd x):HU (Jz (KD []::l)) rd x:=h
theorem rm{α:Type}{one:α->Cc->Cc}{rd:List UInt8->Bb->α×Bb}:∀{l:List α},(∀x∈l,HU (one x) rd x)->HU (MS one l) (fun J=>GI (rd J) l.length) l
 |[],_=>fun w AN=>⟨AN,fun h=>h,[],(AB7 _).symm,fun _ s _ hs=>⟨s,rfl,hs⟩⟩
 |x::r,h=>by
  intro w AN;unfold MS at AN ⊢;split at AN
  ·
   rename_i e;rw[e]at AN;cases AN
  ·
   rename_i e;rw[AA9 e];obtain⟨Hj,G1,DC,Jt,NI⟩:=rm (fun y Bf=>h y (ABR _ Bf)) (one x w) AN;obtain⟨Af,h2,B4,Bo,BB⟩:=h x (ABx ..) w Hj;refine⟨Af,fun q=>G1 (h2 q),B4++DC,by rw[Jt,Bo,ACN],fun J s fI hs=>?_⟩;rw[ACN]at hs;obtain⟨s1,NY,jD⟩:=BB J s _ hs;obtain⟨s2,MK,jE⟩:=NI J s1 _ jD;refine⟨s2,?_,jE⟩;show GI (rd J) (r.length+1) s=_;have MK:GI (rd J) r.length s1=(r,s2):=MK;simp only[sJ hs.1,NY,MK]
theorem YL{α:Type}{one:α->Cc->Cc}{rd:List UInt8->Bb->α×Bb}{l:List α}(h:∀x∈l,HU (one x) rd x):HU (CH one l) (fun J=>CS J (rd J)) l:=by
 intro w AN;unfold CH at AN ⊢;split at AN
 ·
  rename_i e;rw[e]at AN;cases AN
 ·
  rename_i e;split at AN
  ·
   cases AN
  ·
   rename_i Aq;rw[AA9 e,AA9 Aq];obtain⟨Hj,G1,DC,Jt,NI⟩:=rm h _ AN;obtain⟨Af,h2,B4,Bo,BB⟩:=fG (rd:=fun J=>DT J 1024) (x:=l.length) (fun _ _ _ hs=>Ah2 AGn AGn hs) w Hj;refine⟨Af,fun q=>G1 (h2 q),B4++DC,by rw[Jt,Bo,ACN],fun J s fI hs=>?_⟩;rw[ACN]at hs;obtain⟨s1,NY,jD⟩:=BB J s _ hs;obtain⟨s2,MK,jE⟩:=NI J s1 _ jD;refine⟨s2,?_,jE⟩;have NY:DT J 1024 s=(l.length,s1):=NY;have MK:GI (rd J) l.length s1=(l,s2):=MK;simp only[CS,NY,MK]
-- each kind of thing
theorem Z1(s:ByteArray):(⟨s.data.toList.toArray⟩:ByteArray)=s:=by cases s;rfl
theorem Afw{o:FL}(h:o.wf):HU (Zv o) Wc o:=by
 obtain⟨Af,_,_,BB,C',F4⟩:=h;exact D' (l:=[KD [o.Al,o.EL],E2 o.B2,E2 o.A6,E2 o.Bc]) (F7 Af) (T4 (D' T3 (T4 (D' T3 (cM (D' (F7 BB) (D' (F7 C') (D' (F7 F4) (Qy (by simp only[Z1]))))))))))
theorem si{o:Fs}(h:o.wf):HU (Lq o) L_ o:=by
 obtain⟨Af,h2,Bo,_,_,BB,C'⟩:=h;exact D' (l:=[E2 o.Hi,E2 o.IX,KD [o.A6,o.Bc],E2 o.Ap,E2 o.As]) (F7 Af) (D' (F7 h2) (D' (F7 Bo) (T4 (D' T3 (T4 (D' T3 (cM (D' (F7 BB) (D' (F7 C') (Qy (by simp only[Z1])))))))))))
theorem Ab3{o:BD}(h:o.wf):HU (PY o) Iu o:=by
 obtain⟨Af,h2,Bo,BB⟩:=h;exact D' (l:=[E2 o.G0,E2 o.DV,E2 o.Fc]) (F7 Af) (D' (F7 h2) (D' (F7 Bo) (D' (F7 BB) (Qy G))))
theorem yZ{o:Df}(h:o.wf):HU (Mq o) HF o:=by
 obtain⟨Af,h2⟩:=h;exact D' (l:=[E2 o.As]) (F7 Af) (D' (F7 h2) (Qy G))
theorem w3{o:De}(h:o.wf){α:Type}{l:List (Cc->Cc)}{k:De->List UInt8->Bb->α×Bb}{y:α}(g:HU (Jz l) (k o) y):
  HU (Jz (KU [o.Jd]::KU [o.JM,o.JJ,o.JK]::l)) (fun J s=>Di (UL J s) fun a t=>k a J t) y:=by
 obtain⟨Af,h2,Bo,BB⟩:=h;have q:HU (Jz [E2 o.Jd,E2 o.JM,E2 o.JJ,E2 o.JK]) UL o:=D' (F7 Af) (D' (F7 h2) (D' (F7 Bo) (D' (F7 BB) (Qy rfl))));exact D' (W:=Jz [E2 o.Jd,E2 o.JM,E2 o.JJ,E2 o.JK]) (l:=l) q g
theorem Aea{o:BL}(h:o.wf):HU (Kc o) GG o:=by
 obtain⟨Af,h2,_,Bo⟩:=h;exact D' (l:=[E2 o.As,Gy o.HV,KU [o.Cm.Jd],KU [o.Cm.JM,o.Cm.JJ,o.Cm.JK]]) (F7 Af) (D' (F7 h2) (D' oZ (w3 Bo (Qy G))))
theorem Ak4{o:BX}(h:o.wf):HU (KV o) GX o:=by
 obtain⟨Af,h2,Bo,BB,C',F4⟩:=h;exact D' (l:=[E2 o.Ap,E2 o.As,E2 o.Bn,E2 o.DH,Zv o.AM]) (F7 Af) (D' (F7 h2) (D' (F7 Bo) (D' (F7 BB) (D' (F7 C') (D' (Afw F4) (Qy G))))))
theorem yu{o:Bx}(h:o.wf):HU (LO o) Hk o:=by
 obtain⟨Af,h2,_,_,Bo,BB,C',F4⟩:=h;exact D' (l:=[E2 o.As,KD [o.Al,o.EL],E2 o.B2,E2 o.DN,E2 o.DO,E2 o.C3]) (F7 Af) (D' (F7 h2) (T4 (D' T3 (T4 (D' T3 (cM (D' (F7 Bo) (D' (F7 BB) (D' (F7 C') (D' (F7 F4) (Qy (by simp only[Z1]))))))))))))
theorem wM{o:AD}(h:o.wf)(hh:∀x∈o.A0,x.wf):HU (I_ o) F2 o:=by
 obtain⟨_,⟨s1,s2⟩,Af,h2,_,⟨Om,Sl,On,qX⟩⟩:=h;have AhU:HU (Jz [E2 o.Cs.A6,E2 o.Cs.Bc]) UO o.Cs:=D' (F7 s1) (D' (F7 s2) (Qy rfl));have AhT:HU (Jz [E2 o.BG.Ap,E2 o.BG.As,E2 o.BG.DH,E2 o.BG.B2]) UM o.BG:=D' (F7 Om) (D' (F7 Sl) (D' (F7 On) (D' (F7 qX) (Qy rfl))));have e:I_ o=Jz [KD [o.Al],Jz [E2 o.Cs.A6,E2 o.Cs.Bc],E2 o.BT,E2 o.Cn,CH PY o.A0,Jz [E2 o.BG.Ap,E2 o.BG.As,E2 o.BG.DH,E2 o.BG.B2]]:=by
  funext w;simp only[I_,KU,Jz,ACO,List.foldl_nil]
 rw[e];exact T4 (D' T3 (cM (D' AhU (D' (F7 Af) (D' (F7 h2) (D' (YL fun x Ab=>Ab3 (hh x Ab)) (D' AhT (Qy (by simp only[Z1])))))))))
structure hc (S:Bv):Prop where
 wf:S.wf
 ac:∀x∈S.Aj,x.wf/\∀y∈x.A0,y.wf
 O8:∀x∈S.Bz,x.wf
 PZ:∀x∈S.AA,x.wf
 yr:∀x∈S.Bj,x.wf
 h4:∀x∈S.CX,x.wf
theorem AjO{S:Bv}(h:hc S):HU (N7 S) FC S:=by
 obtain⟨Af,h2,_,_,_,F4,_,_,_,_,_,EM,Dp,_,Ft,CR,DA⟩:=h.wf;have e:N7 S=Jz [E2 S.CZ,E2 S.DX,Gy S.Du,KD [S.A6,S.Bc],E2 S.Dn,CH I_ S.Aj,CH Kc S.Bz,CH KV S.AA,CH LO S.Bj,CH Mq S.CX,Lq S.Bt,Lq S.CW,KT S.Cf,E2 S.Jc,E2 S.JL,E2 S.GW]:=by
  funext w;simp only[N7,KU,Jz,ACO,List.foldl_nil]
 rw[e];refine D' (F7 Af) (D' (F7 h2) (D' oZ (T4 (D' T3 (T4 (D' T3 (cM (D' (F7 F4) (D' (YL fun x Ab=>wM (h.ac x Ab).1 (h.ac x Ab).2) ?_)))))))));refine D' (YL fun x Ab=>Aea (h.O8 x Ab)) (D' (YL fun x Ab=>Ak4 (h.PZ x Ab)) (D' (YL fun x Ab=>yu (h.yr x Ab)) (D' (YL fun x Ab=>yZ (h.h4 x Ab)) ?_)));exact D' (si EM) (D' (si Dp) (D' nL (D' (F7 Ft) (D' (F7 CR) (D' (F7 DA) (Qy (by simp only[Z1])))))))
theorem back{S:Bv}(h:hc S)(he:(IW S).2=0):Er (IW S).1=(S,0):=by
 unfold IW at he ⊢;split at he
 ·
  cases he
 ·
  rename_i AN;rw[AA9 AN];obtain⟨_,h2,e,Bo,BB⟩:=AjO h ⟨[],false⟩ (by simpa using AN);have h2:=h2 (ABg _);simp only[ABK]at Bo;obtain⟨DR,r,hs,AH,AJ⟩:=BB (N7 S ⟨[],false⟩).out ⟨0,0⟩ [] ⟨rfl,ABg _,by rw[Bo];simp⟩;have La:¬DR.pos<(N7 S ⟨[],false⟩).out.length:=by
   have:=ABE List.length AJ;simp only[ACt,ABo]at this;omega
  have Fb:NF (N7 S ⟨[],false⟩).out=0:=by
   rw[oM AGn,r];simp only[Q0];rw[AA9 (fun x=>La x.2),hs];rfl
  rw[fN Fb,gn AGn,r]
theorem Aed{m:BL}(Bw:0<m.Ap)(h:dq m)(hw:m.Cm.wf):m.wf:=by
 have Af:=h.hH;have h2:=h.L3;have Bo:=h.Ey;have BI:EW=4611686018427387904:=rfl;exact⟨⟨AGn,AGn⟩,⟨AGn,AGn⟩,trivial,hw⟩
theorem Aee{l:List BL}(h:Fg l=true)(hw:∀m∈l,m.Cm.wf):∀m∈l,m.wf:=fun m hm=>Aed ((Rl.1 h).1 m hm).1 ((Rl.1 h).1 m hm).2 (hw m hm)
theorem y7{l:List Df}(h:HE l=true):∀e∈l,e.wf:=fun e he=>by
 have:=((au.1 h).1 e he).2;simp only[Jj,ABb,ABa]at this;have BI:EW=4611686018427387904:=rfl;exact⟨⟨AGn,AGn⟩,⟨AGn,AGn⟩⟩
theorem Ad5(b:List BL):∀{l:List BL},Fg l=true->(∀m∈l,m.Cm.wf)->Fg (b.foldl (fun l m=>if(G' l m.Ap m.As).2=0 then(G' l m.Ap m.As).1 else l) l)=true/\∀m∈b.foldl (fun l m=>if(G' l m.Ap m.As).2=0 then(G' l m.Ap m.As).1 else l) l,m.Cm.wf:=by
 induction b with
 |nil=>exact fun h hw=>⟨h,hw⟩
 |cons x r Cg=>
  intro l h hw;rw[ACO];split
  · rename_i e;exact Cg (rj e) (rk hw)
  · exact Cg h hw
theorem sb{S:Bv}(h:Ce S)(BQ Ag:ByteArray):hc (Gl S BQ Ag):=by
 obtain⟨Kq,YQ⟩:=Ad5 S.Bz h.marks h.Me;refine⟨dd,fun x Ab=>?_,Aee Kq YQ,fun x Ab=>absurd Ab ABh,fun x Ab=>absurd Ab ABh,y7 h.ends⟩;obtain⟨Ab,_⟩:=ABZ.1 Ab;obtain⟨a,AK,rfl⟩:=AB6.1 Ab;have:=k_ (h.acc a AK).2.1 DW;exact⟨this.wf,this.A7⟩
theorem Akv{S:Bv}(k:ByteArray)(h:S.Bt=FP):Ef S k=false:=by
 unfold Ef;rw[h];rfl
theorem b6{S:Bv}{k:ByteArray}:F' S k=true↔S.Du=true/\within S.A6 S.Bc k=true:=by rw[F',ABb]
theorem jc{S:Bv}(h:Ce S):Ce (LG S)/\(LG S).CZ=S.CZ/\(LG S).DX=S.DX:=by
 unfold LG;split
 · exact⟨h,rfl,rfl⟩
 · rename_i Ew;split
   · exact⟨h,rfl,rfl⟩
   · rename_i he;have he:=ACD.1 he;have ql:=back (sb h S.Bt.A6 S.Bt.Bc) he;generalize (IW (Gl S S.Bt.A6 S.Bt.Bc)).1=jQ at ql;have qi:(Er jQ).2=0:=(by rw[ql]);have Cu:¬S.Bt=FP:=fun e=>Ew (by simp[Py,e]);obtain⟨AH,BI,hh,A7⟩:LK S.Bt=true/\S.Bt.Hi=S.CZ/\S.Bt.Bc=S.Bc/\F' S S.Bt.A6=true:=h.Hc.resolve_left Cu;obtain⟨bb,Kp⟩:=b6.1 A7;obtain⟨B4,sp⟩:=h.own.yes bb;have HG:¬S.Bt.Ev=0:=by
      simp only[LK,ABb,ABa]at AH;omega
     have NM:∀k,Ef S k=within S.Bt.A6 S.Bc k:=fun k=>by rw[Ef,ABM HG,hh];rfl
     have qc:∀x∈S.AA,within S.A6 S.Bc x.AM.Al=true/\Ef S x.AM.Al=false:=fun x Ab=>by
      obtain⟨_,_,c,d,_⟩:=SF.1 (h.wt x Ab);exact⟨(b6.1 c).2,d⟩
     have pq:∀a∈S.Aj,within S.A6 S.Bc a.Al=true:=fun a AK=>(b6.1 (h.acc a AK).2.2).2;simp only;split
     · rename_i el;have Cl:S.Aj.filter (fun a=> !Ef S a.Al)=[]:=List.filter_eq_nil_iff.2 fun a AK=>by
        rw[NM,el,pq a AK];decide
       have F5:S.AA=[]:=List.eq_nil_iff_forall_not_mem.2 fun x Ab=>by
        obtain⟨a,b⟩:=qc x Ab;rw[NM,el,a]at b;cases b
       refine⟨{h with own:=⟨fun _=>⟨rfl,rfl,Cl,F5,rfl⟩,fun q=>by cases q⟩,len:=?_,acc:=?_,Ll:=?_,wt:=?_,Hc:=.inl rfl,out:=.inr ⟨AH,BI,qi⟩},rfl,rfl⟩
       · show(S.Aj.filter _).length<=12;rw[Cl];decide
       · show ∀a∈S.Aj.filter _,_;rw[Cl];exact fun a AK=>absurd AK ABh
       · show H6 _ _ (S.Aj.filter _);rw[Cl];exact List.Pairwise.nil
       · show ∀x∈S.AA,_;rw[F5];exact fun a AK=>absurd AK ABh
     · rename_i el;obtain⟨Ua,Ub⟩:=within_iff.1 Kp;have Ad6:Ds S.A6 S.Bt.A6=true:=Pa.tZ _ _ Ua el;obtain⟨s1,s2,IK⟩:=Vm.1 (kT AH);obtain⟨t1,t2,t3⟩:=Vm.1 sp;have DY:∀k,within S.A6 S.Bc k=true->Ef S k=false->within S.A6 S.Bt.A6 k=true:=fun k a b=>by
        obtain⟨DP,EK⟩:=within_iff.1 a;refine within_iff.2 ⟨DP,.inr ?_⟩;rw[NM]at b;cases q:Ds k S.Bt.A6 with
        |true=>rfl
        |false=>rw[within_iff.2 ⟨q,EK⟩]at b;cases b
       refine⟨{h with own:=⟨fun q=>(by rw[show S.Du=false from q]at bb;cases bb),fun _=>⟨B4,Vm.2 ⟨t1,s1,.inr Ad6⟩⟩⟩,len:=ABB (ADR ..) h.len,acc:=?_,Ll:=AGv _ h.Ll,wt:=?_,Hc:=.inl rfl,out:=.inr ⟨AH,BI,qi⟩},rfl,rfl⟩
       · intro a AK;obtain⟨AK,hs⟩:=ABZ.1 AK;exact⟨(h.acc a AK).1,(h.acc a AK).2.1,b6.2 ⟨bb,DY _ (pq a AK) (by simpa using hs)⟩⟩
       · intro x Ab;obtain⟨a,b⟩:=qc x Ab;exact c2 (h.wt x Ab) (b6.2 ⟨bb,DY _ a b⟩) (Akv _ rfl)
theorem jP{S:Bv}{ix:Int}{a:AD}(Af:1<=ix)(h2:ix<=EW)(AK:Fw a)(w:D3 a):Fw (Jv S ix a)/\D3 (Jv S ix a)/\(Jv S ix a).Al=a.Al:=by
 unfold Jv;split
 · obtain⟨x,y,z⟩:=ig w AK Af h2;exact⟨y,z,by rw[x]⟩
 · obtain⟨x,y,z⟩:=l8 w AK;exact⟨y,z,by rw[x]⟩
theorem fe{w:Ah}{x:JE}(h:Ce w.S):CE w (w.Iv x):=by
 unfold Ah.Iv;split
 · exact CE.refl h
 · rename_i Af;have BI:(BF w.S.Aj x.Al).2=true:=(by simpa using Af);split
   · rename_i h2;obtain⟨m,k⟩:=Q2 BI;obtain⟨_,y,z⟩:=h.acc _ m;obtain⟨_,_,_,_,_,_,_,_,p,q,r⟩:=iv y h2;exact TL h q r (by rw[p];exact z) (.inl (by rw[p];show(BF w.S.Aj (BF w.S.Aj x.Al).1.Al).2=true;rw[k];exact BI))
   · exact CE.refl h
theorem lg{w:Ah}(h:Ce w.S)(Af:1<=w.ix)(h2:w.ix<=EW):CE w w.rest/\∀a∈w.rest.S.Aj,FT a=false:=by
 unfold Ah.rest;simp only;obtain⟨DP,EK,FR⟩:=jc h;have CY:CE w {w with S:={LG w.S with Aj:=(LG w.S).Aj.map (Jv (LG w.S) w.ix)}}:=⟨DP.bE fun a AK=>jP Af h2 (DP.acc a AK).1 (DP.acc a AK).2.1,EK,FR,rfl,rfl⟩;have Dh:=CY.trans (Yd (fun u d hu=>fe (x:=d) hu) w.BQ CY.ws);generalize w.BQ.foldl Ah.Iv _=v at Dh;have hs:=Dh.ws;refine⟨⟨hs.mA (ABB (ADR ..) hs.len) (fun a AK=>hs.acc a (ABZ.1 AK).1) (AGv _ hs.Ll) (fun e=>by rw[(hs.own.no e).2.2.1];rfl),Dh.g,Dh.i,Dh.x,Dh.n⟩,fun a AK=>?_⟩;have:=(ABZ.1 AK).2;simpa using this
structure VB (S:Bv):Prop where
 ac:∀a∈S.Aj,D3 a
 PZ:∀x∈S.AA,x.wf
 O8:∀m∈S.Bz,m.Cm.wf
theorem Ce.ints{S:Bv}(h:Ce S):VB S:=⟨fun a AK=>(h.acc a AK).2.1,h.ww,h.Me⟩
theorem w5{S:Bv}{c:Dg}{ix nd:Int}(Ag:VB S)(Bm:c.wf)(h:(Gc S c ix nd).2.2=0):
 LN S=true/\LN (Gc S c ix nd).1=true/\VB (Gc S c ix nd).1/\(Gc S c ix nd).1.CZ=S.CZ/\(Gc S c ix nd).1.DX=ix:=by
 unfold Gc at h ⊢;split at h
 · cases h
 · rename_i Bh;rw[AA9 Bh];have Bh:LN S=true:=(by simpa using Bh);split at h
   · cases h
   · rename_i Ao;rw[AA9 Ao];split at h
     · cases h
     · rename_i Ab;rw[AA9 Ab];simp only[ABk,ABa,ABN]at Ao Ab;obtain⟨BO,_⟩:=(Zc Ag.ac Ag.PZ Ag.O8).1 Bh;have Fx:=BO.ix;obtain⟨Sp,HG⟩:=Fx;have Bw:Ce {S with DX:=ix}:={BO with ix:=⟨by show 0<=ix;omega,by show ix<=EW;omega⟩,own:=⟨BO.own.no,BO.own.yes⟩,acc:=BO.acc,wt:=BO.wt,Hc:=BO.Hc};have A1:=dO (w:={S:={S with DX:=ix},ix:=ix,nd:=nd,EF:=[],BQ:=[]}) (c:=c) Bw Bm (by show nd<=5;omega);simp only;generalize ({S:={S with DX:=ix},ix:=ix,nd:=nd,EF:=[],BQ:=[]}:Ah).cmd c=w at A1;have AY:=gH w.S.AA.length A1.ws;generalize Ah.waits w.S.AA.length w=v at AY;have TB:v.ix=ix:=AY.x.trans A1.x;obtain⟨A9,Ba⟩:=lg AY.ws AGn AGn;refine⟨Bh,(Zc (A9.ws.ints).ac (A9.ws.ints).PZ (A9.ws.ints).O8).2 ⟨A9.ws,Ba⟩,A9.ws.ints,?_,?_⟩
       · rw[A9.g,AY.g,A1.g]
       · rw[A9.i,AY.i,A1.i]
end Go.Apw
