/- Part 7 of shardWhole_holds. -/
import Derived.Test.YtklmcfecakaanaaGreatSq6

set_option maxRecDepth 20000
set_option maxHeartbeats 1000000
open List renaming foldl_cons→ACO,getD_cons_succ→ADb,getD_cons_zero→AC7,length_append→ABP,length_cons→ABv,length_nil→ABo,pairwise_iff_getElem→ACW
open Go.A_
namespace Go.Apw
def L7(n:Int):Prop:=0<=n/\n<=EW
structure m1 (S:Bv):Prop where
 no:S.Du=false->S.A6=ByteArray.empty/\S.Bc=ByteArray.empty/\S.Aj=[]/\S.AA=[]/\S.Bt=FP
 yes:S.Du=true->1<=S.Dn/\PQ S.A6 S.Bc=true
structure Ce (S:Bv):Prop where
 RZ:Ih S.CZ=true
 ix:L7 S.DX
 ON:L7 S.Dn
 hf:L7 S.Jc
 TO:L7 S.JL
 un:L7 S.GW
 own:m1 S
 len:S.Aj.length<=12
 acc:∀a∈S.Aj,Fw a/\D3 a/\F' S a.Al=true
 Ll:H6 (·.Al) Ds S.Aj
 marks:Fg S.Bz=true
 Me:∀m∈S.Bz,m.Cm.wf
 VZ:Is S.Bj=true
 ends:HE S.CX=true
 wl:S.AA.length<=8
 wt:∀x∈S.AA,Mr S x=true
 ww:∀x∈S.AA,x.wf
 Hc:S.Bt=FP\/LK S.Bt=true/\S.Bt.Hi=S.CZ/\S.Bt.Bc=S.Bc/\F' S S.Bt.A6=true
 out:S.CW=FP/\S.Cf=[]\/LK S.CW=true/\S.CW.Hi=S.CZ/\(Er S.Cf).2=0
theorem AjJ{l:List AD}:H6 (·.Al) Ds l↔∀j,j+1<l.length->Ds (l.getD j default).Al (l.getD (j+1) default).Al=true:=by
 constructor
 · intro h j Ay;have:=ACW.1 h j (j+1) AMT Ay AMT;rw[G3 AMT,G3 Ay];exact this
 intro h;have up:∀d i,i+d+1<l.length->Ds (l.getD i default).Al (l.getD (i+d+1) default).Al=true:=by
  intro d;induction d with
  |zero=>exact fun i Ag=>h i Ag
  |succ d Cg=>exact fun i Ag=>lt_trans (Cg i AMT) (h (i+d+1) AMT)
 refine ACW.2 fun i j Ag Ay GQ=>?_;have:=up (j-i-1) i AMT;rw[show i+(j-i-1)+1=j by omega,G3 Ag,G3 Ay]at this;exact this
theorem Ado{a b:ByteArray}:fc a b=false↔Ds b a=true:=by
 unfold fc;rw[bA];simp
theorem n9{a b c d e:Int}:X1 [a,b,c,d,e]=true↔L7 a/\L7 b/\L7 c/\L7 d/\L7 e:=by
 rw[X1,Nz];constructor
 · intro h;have Bw:=h 0 (show 0<5 by decide);have Af:=h 1 (show 1<5 by decide);have h2:=h 2 (show 2<5 by decide);have Bo:=h 3 (show 3<5 by decide);have BB:=h 4 (show 4<5 by decide);simp only[AC7,ADb,ABe,ABD,ABl]at Bw Af h2 Bo BB;exact⟨⟨AMT,AMT⟩,⟨AMT,AMT⟩,⟨AMT,AMT⟩,⟨AMT,AMT⟩,⟨AMT,AMT⟩⟩
 rintro⟨Bw,Af,h2,Bo,BB⟩ j Ay;unfold L7 at*;simp only[ABv,ABo]at Ay;rcases j with _|_|_|_|_|j
 · simp only[AC7,ADb,ABe,ABD,ABl];omega
 · simp only[AC7,ADb,ABe,ABD,ABl];omega
 · simp only[AC7,ADb,ABe,ABD,ABl];omega
 · simp only[AC7,ADb,ABe,ABD,ABl];omega
 · simp only[AC7,ADb,ABe,ABD,ABl];omega
 omega
theorem bs{k:ByteArray}:isNil k=true↔k=ByteArray.empty:=by simp[isNil]
theorem r0{S:Bv}:YZ S=true↔m1 S:=by
 unfold YZ;constructor
 · intro h;cases e:S.Du with
   |false=>
    rw[AA_ (by rw[e];rfl)]at h;simp only[ABb,ABa,bs]at h;obtain⟨⟨⟨⟨a,b⟩,c⟩,d⟩,f⟩:=h;exact⟨fun _=>⟨a,b,ADd.1 AMT,ADd.1 AMT,f⟩,fun q=>(by rw[e]at q;cases q)⟩
   |true=>
    rw[AA9 (by rw[e];decide)]at h;simp only[ABb,ABa]at h;exact⟨fun q=>(by rw[e]at q;cases q),fun _=>⟨h.1,h.2⟩⟩
 intro h;cases e:S.Du with
 |false=>
  obtain⟨a,b,c,d,f⟩:=h.no e;rw[AA_ ARz,a,b,c,d,f];rfl
 |true=>
  obtain⟨a,b⟩:=h.yes e;rw[AA9 ARp,b,ABG (show S.Dn>=1 from a)];rfl
theorem m7{S:Bv}(w:∀a∈S.Aj,D3 a):VP S=true↔S.Aj.length<=12/\(∀a∈S.Aj,Fw a/\FT a=false/\F' S a.Al=true)/\H6 (·.Al) Ds S.Aj:=by
 have e:∀j,j<S.Aj.length->((!dv S j)=true↔Fw (S.Aj.getD j default)/\FT (S.Aj.getD j default)=false/\F' S (S.Aj.getD j default).Al=true/\(0<j->Ds (S.Aj.getD (j-1) default).Al (S.Aj.getD j default).Al=true)):=fun j Ay=>by
  rw[<-P3 (w _ (Hl Ay)).sp];simp only[dv,ABe,ABD,ABI,ABa,ee,ACu,ABl,Ado];have q:((j:Int)-1).toNat=j-1:=AMT;rw[q];constructor
  · rintro⟨⟨⟨a,b⟩,c⟩,d⟩;exact⟨a,b,c,fun h=>d.resolve_left AMT⟩
  rintro⟨a,b,c,d⟩;refine⟨⟨⟨a,b⟩,c⟩,?_⟩;by_cases h:0<j
  · exact .inr (d h)
  exact .inl AMT
 unfold VP;by_cases AN:decide ((S.Aj.length:Int)>12)=true
 · rw[AA_ AN];simp only[ABa]at AN;exact⟨fun h=>(by cases h),fun h=>absurd h.1 AMT⟩
 rw[AA9 AN,Nz,AjJ];simp only[ABa]at AN;constructor
 · intro h;refine⟨AMT,fun a AK=>?_,fun j Ay=>?_⟩
   · obtain⟨j,Ay,rfl⟩:=UP AK;obtain⟨x,y,z,_⟩:=(e j Ay).1 (h j Ay);exact⟨x,y,z⟩
   exact((e (j+1) Ay).1 (h (j+1) Ay)).2.2.2 AMT
 rintro⟨_,Af,h2⟩ j Ay;obtain⟨x,y,z⟩:=Af _ (Hl Ay);refine(e j Ay).2 ⟨x,y,z,fun Bw=>?_⟩;have:=h2 (j-1) AMT
 rwa [show j-1+1=j by omega]at this
theorem Zc{S:Bv}(w:∀a∈S.Aj,D3 a)(ww:∀x∈S.AA,x.wf)(Me:∀m∈S.Bz,m.Cm.wf):LN S=true↔Ce S/\∀a∈S.Aj,FT a=false:=by
 unfold LN;constructor
 · intro h;split at h
   · cases h
   rename_i Af;split at h
   · cases h
   rename_i h2;split at h
   · rename_i Bo;split at h
     · cases h
     rename_i BB;simp only[Zj,ABk,ABN,ABe,AB_]at Af;obtain⟨⟨⟨g,c⟩,o⟩,a⟩:=Af;obtain⟨dG,hB,xR,xS,xT⟩:=n9.1 c;obtain⟨DP,EK,FR⟩:=(m7 w).1 a;simp only[Zk,ABk,ABN,ABe,AB_,ABa,ee]at h2;obtain⟨⟨⟨m,d⟩,h4⟩,wl⟩:=h2;refine⟨⟨g,dG,hB,xR,xS,xT,r0.1 o,DP,fun x Ab=>⟨(EK x Ab).1,w x Ab,(EK x Ab).2.2⟩,FR,m,Me,d,h4,AMT,fun x Ab=>?_,ww,?_,?_⟩,fun x Ab=>(EK x Ab).2.1⟩
     · obtain⟨j,Ay,rfl⟩:=UP Ab;exact(Nz.1 Bo) j Ay
     · by_cases e:S.Bt=FP
       · exact .inl e
       refine .inr ?_;simp only[Xe,ABb,ABk,not_and,ABN,ABe,AB_,ABl]at BB;obtain⟨⟨⟨x,y⟩,z⟩,u⟩:=BB e;exact⟨x,ACD.1 y,ACD.1 z,u⟩
     split at h
     · rename_i e;have:=ABA h;exact .inl ⟨ABA e,ADd.1 AMT⟩
     simp only[lW,ABb,ABa]at h;exact .inr ⟨h.1.1,h.1.2,h.2⟩
   cases h
 rintro⟨h,AH⟩;have Af:Zj S=false:=by
  have a:=(m7 w).2 ⟨h.len,fun x Ab=>⟨(h.acc x Ab).1,AH x Ab,(h.acc x Ab).2.2⟩,h.Ll⟩;rw[Zj,h.RZ,n9.2 ⟨h.ix,h.ON,h.hf,h.TO,h.un⟩,r0.2 h.own,a];rfl
 have h2:Zk S=false:=by
  have:=h.wl;have q:¬(S.AA.length:Int)>8:=AMT;rw[Zk,h.marks,h.VZ,h.ends,ABM q];rfl
 have Bo:gm S=true:=Nz.2 fun j Ay=>h.wt _ (Hl Ay);have BB:Xe S=false:=by
  rcases h.Hc with e|⟨x,y,z,u⟩
  · rw[Xe,e];rfl
  rw[Xe,x,ABG y,ABG z,u];simp
 rw[Af,AA9 ARp,h2,AA9 ARp,AA_ Bo,BB,AA9 ARp];rcases h.out with⟨x,y⟩|⟨x,y,z⟩
 · rw[x,y];rfl
 split
 · rename_i e;have e:S.CW=FP:=ABA e;rw[e]at x;simp[LK,FP]at x
 rw[lW,x,ABG y,ABG z];rfl
-- answers that stay in order
theorem ZA:GS.wf:=⟨DW,DW,DW,DW⟩
theorem OM{e:Int}(h:A' e):(HN e).wf:=⟨h,DW,DW,DW⟩
theorem gL{l:List BL}{m:BL}(h:Fg l=true)(hw:∀x∈l,x.Cm.wf)(hm:m.Cm.wf):∀x∈LP l m,x.Cm.wf:=fun x Ab=>by
 rcases(PJ N1 (Rl.1 h).2).1 Ab with rfl|Ab
 · exact hm
 exact hw x Ab.1
theorem nx{l:List BL}{c q:Int}(h:(IS l c q).2.2=0)(hw:∀x∈l,x.Cm.wf):∀x∈(IS l c q).1,x.Cm.wf:=by
 unfold IS at h ⊢;split
 · exact fun x Ab=>absurd Ab ABh
 rename_i hm;split
 · exact fun x Ab=>absurd Ab ABh
 split
 · exact fun x Ab=>absurd Ab ABh
 split
 · exact hw
 exact gL (by simpa using hm) hw ZA
theorem y2{l:List BL}{c q:Int}{a:De}(hw:∀x∈l,x.Cm.wf)(AK:a.wf):∀x∈(Oe l c q a).1,x.Cm.wf:=by
 unfold Oe;split
 · exact fun x Ab=>absurd Ab ABh
 rename_i Ao;exact gL (fs (ACD.1 Ao)).1 hw AK
theorem rk{l:List BL}{c q:Int}(hw:∀x∈l,x.Cm.wf):∀x∈(G' l c q).1,x.Cm.wf:=by
 unfold G';split
 · exact fun x Ab=>absurd Ab ABh
 rename_i Ao;exact gL (fs (ACD.1 Ao)).1 hw (OM (e:=80) ⟨ARp,ARp⟩)
theorem Ac6{a b:List BL}(PZ:∀x∈a,x.Cm.wf)(Xw:∀x∈b,x.Cm.wf):∀x∈(M_ a b).1,x.Cm.wf:=by
 unfold M_;split
 · exact fun x Ab=>absurd Ab ABh
 rename_i Ts;have Ao:(Fg a&&Fg b)=true:=by simpa using Ts
 rw[ABb]at Ao;obtain⟨AK,Aq⟩:=Ao;have Bm:=(Rl.1 Aq).1;clear Aq Ts;show ∀x∈b.foldl Ld a,x.Cm.wf;induction b generalizing a with
 |nil=>exact PZ
 |cons m r Cg=>
  rw[ACO];have hm:=Bm m (ABx ..);refine Cg ?_ (fun x Ab=>Xw x (ABR _ Ab)) ?_ (fun x Ab=>Bm x (ABR _ Ab))
  · unfold Ld;split
    · exact gL AK PZ (Xw m (ABx ..))
    exact PZ
  unfold Ld;split
  · exact bG AK hm.1 hm.2
  exact AK
structure CE (w v:Ah):Prop where
 ws:Ce v.S
 g:v.S.CZ=w.S.CZ
 i:v.S.DX=w.S.DX
 x:v.ix=w.ix
 n:v.AGm=w.AGm
theorem CE.refl{w:Ah}(h:Ce w.S):CE w w:=⟨h,rfl,rfl,rfl,rfl⟩
theorem CE.trans{w v u:Ah}(h:CE w v)(k:CE v u):CE w u:=⟨k.ws,k.g.trans h.g,k.i.trans h.i,k.x.trans h.x,k.n.trans h.n⟩
theorem Q2{l:List AD}{k:ByteArray}(h:(BF l k).2=true):(BF l k).1∈l/\(BF l k).1.Al=k:=by
 unfold BF at h ⊢;cases e:Gd l.length (fun j=>decide ((l.getD j default).Al=k))with
 |none=>rw[e]at h;cases h
 |some j=>exact⟨Hl (Q4 e),ABA (ADz.1 e).1⟩
theorem UH{l:List AD}{k:ByteArray}(h:(BF l k).2=false):(∀a∈l,a.Al≠k)/\(BF l k).1=(O9 k).1:=by
 unfold BF at h ⊢;cases e:Gd l.length (fun j=>decide ((l.getD j default).Al=k))with
 |none=>
  refine⟨fun a AK=>?_,rfl⟩;obtain⟨j,Ay,rfl⟩:=UP AK;have:=AEe.1 e j Ay;simpa using this
 |some j=>rw[e]at h;cases h
theorem oS{l:List AD}(hs:H6 (·.Al) Ds l)(k:ByteArray):(BF l k).2=G9 (·.Al) Ds k l:=by
 rw[ACy,br Pa hs];constructor
 · intro h;exact⟨_,Q2 h⟩
 rintro⟨x,Ab,e⟩;cases h:(BF l k).2 with
 |true=>rfl
 |false=>exact absurd e ((UH h).1 x Ab)
theorem YR{k:ByteArray}(h:Ix k=true):(O9 k).1={Fj with Al:=k}/\Fw (O9 k).1/\D3 (O9 k).1/\(O9 k).1.Al=k:=by
 obtain⟨A1,AY⟩:=YY.1 h;have e:(O9 k).1={Fj with Al:=k}:=by rw[O9,AA9 (by simp only[ABk,ABa];omega)]
 rw[e];have z:A' 0:=DW;refine⟨rfl,⟨h,ADn _,ADn _,ADn _,rfl,ADn _,ADn _,fun _=>rfl,fun q=>absurd rfl q⟩,⟨⟨by show k.size<=9223372036854775807;omega,⟨z,z⟩,z,z,trivial,z,z,z,z⟩,fun x Ab=>absurd Ab ABh⟩,rfl⟩
theorem V9{S:Bv}(h:Ce S){k:ByteArray}(AE:Ix k=true):Fw (BF S.Aj k).1/\D3 (BF S.Aj k).1/\(BF S.Aj k).1.Al=k:=by
 cases e:(BF S.Aj k).2 with
 |true=>
  obtain⟨a,b⟩:=Q2 e;exact⟨(h.acc _ a).1,(h.acc _ a).2.1,b⟩
 |false=>
  rw[(UH e).2];obtain⟨_,b,c,d⟩:=YR AE;exact⟨b,c,d⟩
theorem Ce.mA{S:Bv}(h:Ce S){l:List AD}(Af:l.length<=12)(h2:∀a∈l,Fw a/\D3 a/\F' S a.Al=true)(Bo:H6 (·.Al) Ds l)(Bw:S.Du=false->l=[]):Ce {S with Aj:=l}:=
 {h with own:=⟨fun e=>⟨(h.own.no e).1,(h.own.no e).2.1,Bw e,(h.own.no e).2.2.2⟩,h.own.yes⟩,len:=Af,acc:=h2,Ll:=Bo,wt:=h.wt,Hc:=h.Hc}
theorem Ce.gJ{S:Bv}(h:Ce S){l:List BL}(Af:Fg l=true)(h2:∀x∈l,x.Cm.wf):Ce {S with Bz:=l}:={h with marks:=Af,Me:=h2,own:=⟨h.own.no,h.own.yes⟩,acc:=h.acc,wt:=h.wt,Hc:=h.Hc}
theorem Ce.SH{S:Bv}(h:Ce S){l:List Bx}(Af:Is l=true):Ce {S with Bj:=l}:={h with VZ:=Af,own:=⟨h.own.no,h.own.yes⟩,acc:=h.acc,wt:=h.wt,Hc:=h.Hc}
theorem Ce.uN{S:Bv}(h:Ce S){l:List Df}(Af:HE l=true):Ce {S with CX:=l}:={h with ends:=Af,own:=⟨h.own.no,h.own.yes⟩,acc:=h.acc,wt:=h.wt,Hc:=h.Hc}
theorem Ce.uO{S:Bv}(h:Ce S){l:List BX}(Af:l.length<=8)(h2:∀x∈l,Mr S x=true/\x.wf)(Bw:S.Du=false->l=[]):Ce {S with AA:=l}:=
 {h with wl:=Af,wt:=fun x Ab=>(h2 x Ab).1,ww:=fun x Ab=>(h2 x Ab).2,own:=⟨fun e=>⟨(h.own.no e).1,(h.own.no e).2.1,(h.own.no e).2.2.1,Bw e,(h.own.no e).2.2.2.2⟩,h.own.yes⟩,acc:=h.acc,Hc:=h.Hc}
theorem Ce.bB{S:Bv}(h:Ce S){l:List BX}(hs:l.Sublist S.AA):Ce {S with AA:=l}:=
 h.uO (ABB hs.length_le h.wl) (fun x Ab=>⟨h.wt x (hs.subset Ab),h.ww x (hs.subset Ab)⟩) fun e=>by
  have:=(h.own.no e).2.2.2.1;rw[this]at hs;exact List.sublist_nil.1 hs
theorem WX{S:Bv}{k:ByteArray}(h:F' S k=true):S.Du=true:=by
 rw[F',ABb]at h;exact h.1
theorem TL{w:Ah}{a:AD}(h:Ce w.S)(AK:Fw a)(hw:D3 a)(A7:F' w.S a.Al=true)(AN:(BF w.S.Aj a.Al).2=true\/w.S.Aj.length<12):CE w (w.put a):=by
 refine⟨h.mA ?_ (fun x Ab=>?_) (W4 Pa h.Ll) (fun e=>by rw[WX A7]at e;cases e),rfl,rfl,rfl,rfl⟩
 · rw[oS h.Ll]at AN;have EM:=h.len;rcases AN with AN|AN
   · rw[su AN];exact EM
   have:=cb (key:=fun a:AD=>a.Al) (lt:=Ds) a w.S.Aj;omega
 rcases(PJ Pa h.Ll).1 Ab with rfl|Ab
 · exact⟨AK,hw,A7⟩
 exact h.acc x Ab.1
theorem cJ{w:Ah}(h:Ce w.S)(k c q:Int)(a:De):CE w (w.tell k c q a):=⟨h,rfl,rfl,rfl,rfl⟩
theorem X3{w:Ah}(h:Ce w.S)(c q:Int){a:De}(AK:a.wf):CE w (w.done c q a):=by
 unfold Ah.done;simp only;split
 · rename_i e;exact⟨h.gJ (y1 e) (y2 h.Me AK),rfl,rfl,rfl,rfl⟩
 exact⟨h,rfl,rfl,rfl,rfl⟩
theorem f'{w:Ah}(h:Ce w.S)(c q n:Int)(k:ByteArray){a:De}(AK:a.wf):CE w (w.served c q n k a):=by
 have AJ:=X3 h c q AK;unfold Ah.served;simp only;split
 · exact⟨AJ.ws,AJ.g,AJ.i,AJ.x,AJ.n⟩
 exact AJ
theorem k2{w:Ah}(h:Ce w.S)(c q:Int):CE w (w.raise c q):=by
 unfold Ah.raise;split
 · rename_i e;exact⟨h.uN (sF e),rfl,rfl,rfl,rfl⟩
 exact CE.refl h
theorem V3{w:Ah}(h:Ce w.S)(g:BX->Bool):CE w (w.drop g):=⟨h.bB List.filter_sublist,rfl,rfl,rfl,rfl⟩
theorem fi{a:AD}{c q:Int}(h:Hn a c q=true):G_ a=true:=by
 simp only[Hn,ABb]at h;exact h.1.1
theorem Ce.bE{S:Bv}(h:Ce S){f:AD->AD}(BI:∀a∈S.Aj,Fw (f a)/\D3 (f a)/\(f a).Al=a.Al):Ce {S with Aj:=S.Aj.map f}:=by
 refine h.mA (by rw[List.length_map];exact h.len) (fun x Ab=>?_) ?_ (fun e=>by rw[(h.own.no e).2.2.1];rfl)
 · obtain⟨a,AK,rfl⟩:=AB6.1 Ab;obtain⟨x,y,z⟩:=BI a AK;exact⟨x,y,by rw[z];exact(h.acc a AK).2.2⟩
 have hs:=h.Ll;unfold H6 at hs ⊢;rw[List.pairwise_map];refine hs.imp_of_mem fun{a b} AK Aq q=>?_;show Ds (f a).Al (f b).Al=true;rw[(BI a AK).2.2,(BI b Aq).2.2];exact q
theorem ep{a:AD}{c:Bool}(AK:Fw a)(w:D3 a)(AN:G_ a=true):(D1 a c).2=0:=by
 rw[D1,AA9 (by rw[AK.acc w];decide),AA9 (by rw[AN];decide)]
theorem av{w:Ah}(h:Ce w.S)(c q:Int){e:Int}(he:A' e):CE w (w.ends c q e):=by
 unfold Ah.ends;simp only;have Af:=X3 h c q (OM he);refine Af.trans ?_;generalize w.done c q (HN e)=v at*;have h2:Ce {v.S with Aj:=v.S.Aj.map fun a=>if Hn a c q=true then(D1 a (decide ((findD w.S.Bj c q).C3=1))).1 else a}:=Af.ws.bE fun a AK=>by
  obtain⟨x,y,_⟩:=Af.ws.acc a AK;split
  · rename_i Aq;obtain⟨_,_,p,q,r⟩:=UK (c:=decide ((findD w.S.Bj c q).C3=1)) y (ep x y (fi Aq));exact⟨q,r,by rw[p]⟩
  exact⟨x,y,rfl⟩
 have Bo:CE v {v with S:={v.S with Aj:=v.S.Aj.map fun a=>if Hn a c q=true then(D1 a (decide ((findD w.S.Bj c q).C3=1))).1 else a}}:=⟨h2,rfl,rfl,rfl,rfl⟩;refine Bo.trans ((V3 Bo.ws _).trans (k2 (V3 Bo.ws _).ws c q))
theorem oe{w:Ah}(h:Ce w.S)(c q:Int):CE w (w.RR c q):=av h c q (by split<;>exact⟨ARp,ARp⟩)
theorem er{w:Ah}(h:Ce w.S)(c q:Int):CE w (w.OR c q):=by
 unfold Ah.OR;simp only;split
 · rename_i e;rw[ABb,ABa]at e;have Af:CE w {w with S:={w.S with Bj:=(NJ w.S.Bj c q).1}}:=⟨h.SH (pb e.1),rfl,rfl,rfl,rfl⟩;exact Af.trans (av Af.ws c q ⟨ARp,ARp⟩)
 exact CE.refl h
theorem dA{c:Dg}{n:Int}(h:NA c n=true):Jj c.Ap c.As=true/\1<=c.Bn/\c.Bn<=n/\1<=c.AM.Ca/\c.AM.Ca<=6/\Ix c.AM.Al=true/\(c.AM.Ca=1\/c.AM.Ca=2\/c.AM.Ca=6->1<=c.AM.B2)/\(c.AM.Ca=6->Ix c.AM.EL=true/\¬c.AM.EL=c.AM.Al):=by
 unfold NA at h;split at h
 · cases h
 rename_i Af;simp only[ABk,ABa,ABN,ABe,AB_]at Af;obtain⟨⟨⟨⟨⟨a,b⟩,dG⟩,d⟩,e⟩,f⟩:=Af;refine⟨a,AMT,AMT,AMT,AMT,f,?_⟩;split at h
 · rename_i h2;simp only[ABk,ABa]at h2 h;exact⟨fun _=>h,fun q=>AMT⟩
 rename_i h2;simp only[ABk,ABa,ABN]at h2;split at h
 · simp only[ABb,ABa,ABe,ABl]at h;exact⟨fun _=>h.1.1,fun _=>⟨h.1.2,h.2⟩⟩
 exact⟨fun q=>AMT,fun q=>AMT⟩
theorem gg{o:FL}(w:A' o.B2)(h:1<=o.B2):A' (signed o):=by
 obtain⟨a,b⟩:=w;unfold signed;split
 · exact⟨AMT,AMT⟩
 exact⟨a,b⟩
theorem c3{w:Ah}{x:BX}(h:Ce w.S)(AN:w.S.AA.length<8)(Ab:Mr w.S x=true)(hw:x.wf)(A7:w.S.Du=true):CE w (w.wait x):=by
 refine⟨h.uO (by rw[ABP];simp only[ABv,ABo];omega) (fun y Bf=>?_) (fun e=>by rw[A7]at e;cases e),rfl,rfl,rfl,rfl⟩;rcases ABm.1 Bf with Bf|Bf
 · exact⟨h.wt y Bf,h.ww y Bf⟩
 rw[ADe.1 Bf];exact⟨Ab,hw⟩
theorem gG{S:Bv}{x:BX}(Af:Jj x.Ap x.As=true)(h2:Ix x.AM.Al=true)(Bo:F' S x.AM.Al=true)(BB:Ef S x.AM.Al=false)(h:(x.Ca=1/\Xu x=true)\/(x.Ca=2/\Xv x=true)):Mr S x=true:=by
 have e:Zx S x=false:=by rw[Zx,Af,h2,Bo,BB];rfl
 rw[Mr,e,AA9 ARp];rcases h with⟨a,b⟩|⟨a,b⟩
 · rw[AA_ (ABG a)];exact b
 rw[AA9 (by rw[a];decide),AA_ (ABG a)];exact b
theorem fF{S:Bv}{c q home n:Int}{k:ByteArray}(Af:Jj c q=true)(h2:Ix k=true)(Bo:F' S k=true)(BB:Ef S k=false)(hh:Ih home=true)(Ao:¬n=0):Mr S (Li c q home k n)=true:=
 gG Af h2 Bo BB (.inr ⟨rfl,by
  show(decide ((0:Int)=0)&&Ih home&&(!decide (n=0))&&decide (({mV with Al:=k,B2:=n}:FL)=⟨0,k,ByteArray.empty,n,0,0⟩))=true;rw[hh,ABM Ao];simp[mV]⟩)
theorem W3{c q home n:Int}{k:ByteArray}(Af:Jj c q=true)(h2:Ix k=true)(hh:Ih home=true)(Ao:A' n):(Li c q home k n).wf:=by
 simp only[Jj,Ih,ABb,ABa]at Af hh;have BI:EW=4611686018427387904:=rfl;have i2:A' 2:=⟨ARp,ARp⟩;have Fb:ByteArray.empty.size<=9223372036854775807:=ARp;have AE:=YY.1 h2;have z:A' 0:=DW;exact⟨i2,⟨by show _<=c;omega,by show c<=_;omega⟩,⟨by show _<=q;omega,by show q<=_;omega⟩,z,⟨by show _<=home;omega,by show home<=_;omega⟩,⟨z,by show k.size<=_;omega,Fb,Ao,z,z⟩⟩
theorem Akn{w:Ah}{c:Dg}(h:Ce w.S)(Bm:NA c w.AGm=true)(AE:c.AM.Ca=6)(wn:A' c.AM.B2)(A7:F' w.S c.AM.Al=true)(hs:Ef w.S c.AM.Al=false):CE w (w.T5 c):=by
 obtain⟨DP,_,_,_,_,KY,OH,VN⟩:=dA Bm;have HG:=OH (.inr (.inr AE));obtain⟨AY,_⟩:=VN AE;unfold Ah.T5;split
 · exact f' h _ _ _ _ (OM ⟨ARp,ARp⟩)
 rename_i Af;simp only[ABk,ABa,ABN,ABe,AB_]at Af;obtain⟨d1,_⟩:=rU Af.1;have AJ:CE w {w with S:={w.S with Bj:=(Mf w.S.Bj (QW c)).1}}:=⟨h.SH d1,rfl,rfl,rfl,rfl⟩;obtain⟨rE,ARA⟩:=wn;simp only;refine AJ.trans ?_;have B4:=c3 (x:=Li c.Ap c.As w.S.CZ c.AM.Al (-c.AM.B2)) AJ.ws (by show w.S.AA.length<8;omega) (fF DP KY A7 hs h.RZ AMT) (W3 DP KY h.RZ ⟨AMT,AMT⟩) (WX A7);split
 · rename_i h2;rw[ABb,ABe]at h2;refine B4.trans (c3 B4.ws (by show(w.S.AA++[_]).length<8;rw[ABP];simp only[ABv,ABo];omega) (fF DP AY h2.1 h2.2 h.RZ AMT) (W3 DP AY h.RZ ⟨rE,ARA⟩) (WX A7))
 exact B4
theorem Afx{w:Ah}{c:Dg}(h:Ce w.S)(hw:c.AM.wf)(OZ:w.AGm<=5)(Aby:A' c.Bn):CE w (w.op c):=by
 unfold Ah.op;split
 · exact CE.refl h
 rename_i Bw;have Bm:NA c w.AGm=true:=by simpa using Bw
 obtain⟨DP,EK,FR,Iz,Lv,KY,OH,VN⟩:=dA Bm;simp only;split
 · exact CE.refl h
 rename_i Af;split
 · split
   · exact cJ h _ _ _ _
   exact CE.refl h
 split
 · exact cJ h _ _ _ _
 rename_i Bo;simp only[ABk,ABN,ABe,AB_,ACH,ABa]at Bo;obtain⟨⟨A7,hs⟩,he⟩:=Bo;have hm:CE w {w with S:={w.S with Bz:=(IS w.S.Bz c.Ap c.As).1}}:=⟨h.gJ (nw (ACD.1 Af)) (nx (ACD.1 Af) h.Me),rfl,rfl,rfl,rfl⟩;split
 · rename_i AE;exact hm.trans (Akn hm.ws Bm AE hw.2.2.2.1 A7 hs)
 split
 · rename_i BB;simp only[Mu,ABb,ABe,ABD,ABl,ABa]at BB;obtain⟨⟨⟨AY,_⟩,BI⟩,AK⟩:=BB;obtain⟨_,f2,f3⟩:=V9 h KY;obtain⟨_,_,p,q,r⟩:=ZU f2 (gg hw.2.2.2.1 (OH AMT)) AK;have e:=TL (w:={w with S:={w.S with Bz:=(IS w.S.Bz c.Ap c.As).1}}) hm.ws q r (by rw[p];show F' w.S (BF w.S.Aj c.AM.Al).1.Al=true;rw[f3];exact A7) (.inl (by rw[p];show(BF w.S.Aj (BF w.S.Aj c.AM.Al).1.Al).2=true;rw[f3];exact BI));exact hm.trans (e.trans (f' e.ws _ _ _ _ ZA))
 split
 · exact hm.trans (f' hm.ws _ _ _ _ (OM ⟨ARp,ARp⟩))
 rename_i C';obtain⟨o1,o2,IJ,J0,Ks,MG⟩:=hw;have AE:=YY.1 KY;have Acq:=DP;simp only[Jj,ABb,ABa]at Acq;have Anp:EW=4611686018427387904:=rfl;have i1:A' 1:=⟨ARp,ARp⟩;refine hm.trans (c3 hm.ws (by show w.S.AA.length<8;have C':¬(w.S.AA.length:Int)>=8:=C';omega) (gG DP KY A7 hs (.inl ⟨rfl,?_⟩)) ⟨i1,⟨by show _<=c.Ap;omega,by show c.Ap<=_;omega⟩,⟨by show _<=c.As;omega,by show c.As<=_;omega⟩,Aby,DW,⟨o1,o2,IJ,J0,Ks,MG⟩⟩ (WX A7));rename_i Bp _;have Bd:c.AM.Ca<=5:=AMT;show(decide (c.Bn>=1)&&decide (c.Bn<=5)&&decide ((0:Int)=0)&&decide (c.AM.Ca>=1)&&decide (c.AM.Ca<=5)&&(decide (c.AM.Ca>2)||decide (c.AM.B2>=1)))=true;simp only[ABb,ABk,ABa];refine⟨⟨⟨⟨⟨EK,AMT⟩,trivial⟩,Iz⟩,Bd⟩,?_⟩;by_cases q:c.AM.Ca>2
 · exact .inl q
 exact .inr (OH AMT)
theorem Aiq{w:Ah}{c:Dg}(h:Ce w.S):CE w (w.report c):=by
 unfold Ah.report;split
 · exact CE.refl h
 rename_i Af;have BI:(BF w.S.Aj c.Al).2=true:=by simpa using Af
 split
 · rename_i h2;obtain⟨m,k⟩:=Q2 BI;obtain⟨x,y,z⟩:=h.acc _ m;obtain⟨_,_,_,_,_,_,_,p,q,r⟩:=lf y h2;exact TL h q r (by rw[p];exact z) (.inl (by rw[p];show(BF w.S.Aj (BF w.S.Aj c.Al).1.Al).2=true;rw[k];exact BI))
 exact CE.refl h
theorem Aay{w:Ah}{c:Dg}(h:Ce w.S):CE w (w.UQ c):=by
 unfold Ah.UQ;simp only;split
 · rename_i i _;have Af:CE w {w with S:={w.S with AA:=w.S.AA.eraseIdx i}}:=⟨h.bB (AD1 ..),rfl,rfl,rfl,rfl⟩;have h2:=X3 Af.ws c.Ap c.As (OM (e:=190) ⟨ARp,ARp⟩);exact Af.trans (h2.trans (er h2.ws _ _))
 exact er h _ _
theorem AhD{w:Ah}{c:Dg}(h:Ce w.S)(Ao:A' c.It):CE w (w.Vc c):=by
 unfold Ah.Vc;split
 · exact CE.refl h
 rename_i Af;split
 · exact CE.refl h
 rename_i h2;simp only[ABk,ABN,ABe,AB_,ACH,ABa]at Af h2;obtain⟨⟨⟨⟨⟨⟨⟨a,b⟩,d⟩,e⟩,f⟩,g⟩,_⟩,_⟩:=Af;exact c3 h AMT (fF a d f g b e) (W3 a d b Ao) (WX f)
theorem AkO{w:Ah}{c:Dg}(h:Ce w.S):CE w (w.T' c):=by
 unfold Ah.T';simp only;split
 · exact CE.refl h
 rename_i Af;have AJ:CE w {w with S:={w.S with Bj:=(Jk w.S.Bj c.Ap c.As false c.Jr).1}}:=⟨h.SH (cC (ACD.1 Af)),rfl,rfl,rfl,rfl⟩;split
 · exact AJ.trans (oe AJ.ws _ _)
 exact AJ
theorem xZ{w:Ah}{c:Dg}(h:Ce w.S):CE w (w.S5 c):=by
 unfold Ah.S5;split
 · exact CE.refl h
 simp only;have key:CE w (if((BF w.S.Aj c.Al).2&&Hn (BF w.S.Aj c.Al).1 c.Ap c.As)=true then w.put (D1 (BF w.S.Aj c.Al).1 c.Jr).1 else w):=by
  split
  · rename_i h2;rw[ABb]at h2;obtain⟨m,k⟩:=Q2 h2.1;obtain⟨x,y,z⟩:=h.acc _ m;obtain⟨_,_,p,q,r⟩:=UK (c:=c.Jr) y (ep x y (fi h2.2));exact TL h q r (by rw[p];exact z) (.inl (by rw[p];show(BF w.S.Aj (BF w.S.Aj c.Al).1.Al).2=true;rw[k];exact h2.1))
  exact CE.refl h
 exact key.trans ((V3 key.ws _).trans (k2 (V3 key.ws _).ws _ _))
theorem zW{w:Ah}{c:Dg}(h:Ce w.S):CE w (w.forget c):=by
 unfold Ah.forget;split
 · rename_i e;exact⟨h.SH (zV e),rfl,rfl,rfl,rfl⟩
 exact CE.refl h
theorem Aei{w:Ah}{c:Dg}(h:Ce w.S)(_:c.Dj.Ev=w.S.CW.Ev->True):CE w (w.WS c):=by
 unfold Ah.WS;split
 · exact CE.refl h
 rename_i Af;simp only[ABk,ABN,ABe,AB_,ABa]at Af;obtain⟨⟨⟨Sp,HG⟩,B4⟩,DC⟩:=Af;have Ao:L7 c.Dj.Ev:=by
  rcases h.out with⟨x,_⟩|⟨x,_⟩
  · rw[x]at HG;exact absurd HG Sp
  simp only[LK,ABb,ABa]at x;exact⟨AMT,AMT⟩
 have U1:=h.ON;have AbF:L7 (max w.S.Dn c.Dn):=⟨by have:=U1.1;omega,by have:=U1.2;omega⟩;refine⟨{h with un:=Ao,ON:=AbF,own:=⟨h.own.no,fun o=>⟨?_,(h.own.yes o).2⟩⟩,out:=.inl ⟨rfl,rfl⟩,acc:=h.acc,wt:=h.wt,Hc:=h.Hc},rfl,rfl,rfl,rfl⟩;have:=(h.own.yes o).1;show 1<=max w.S.Dn c.Dn;omega
theorem rP(k:ByteArray):Ix k= !(isNil k||decide ((k.size:Int)>16)):=by
 rw[jS];unfold Ix;rw[ACy];simp only[ABb,ABa,ABe,ABD,ABl];omega
theorem ANQ{l:List Bx}{c q:Int}(h:(!Avi l||decide (HI (Kt l c q)<0))=true):findD l c q=AlT/\Tz l c q=false:=by
 have e:(decide (HI (Kt l c q)<0)|| !decide (IA (Is l)=0))=true:=by
  rw[Aye,Bool.or_comm];rw[<-h];cases Avi l<;>rfl
 rw[findD,Tz,AA_ e,AA_ e];exact⟨rfl,rfl⟩
theorem ANR{l:List Bx}{c q:Int}(h:(!Avi l||decide (HI (Kt l c q)<0))=false):findD l c q=l.getD (HI (Kt l c q)).toNat default/\Tz l c q=true/\0<=HI (Kt l c q)/\(HI (Kt l c q)).toNat<l.length:=by
 have e:(decide (HI (Kt l c q)<0)|| !decide (IA (Is l)=0))=false:=by
  rw[Aye,Bool.or_comm];rw[<-h];cases Avi l<;>rfl
 obtain⟨k,AE,AN⟩:=Ahq e;rw[findD,Tz,AA9 (by rw[e];decide),AA9 (by rw[e];decide),AE];exact⟨rfl,rfl,by show(0:Int)<=(k:Int);omega,AN⟩
theorem ANK:IA true=0:=rfl
structure m3 where
 CZ:Int
 zA:AD
 deriving DecidableEq,Inhabited
end Go.Apw
namespace Go.A_
end Go.A_
namespace Go.Apw
def Akk(x:m3):ZS:=⟨x.zA,x.CZ⟩
def b0(Im:List Bv)(PN:List (List QM))(l:List m3):Bool:=allI l.length (fun j=>(Abt Im PN (Akk (l.getD j default))).2)
theorem k7{α:Type}{rd:Bb->α×Bb}{p:α->Prop}(h:∀s,p (rd s).1):∀(n:Nat) (s:Bb),∀a∈(GI rd n s).1,p a
 |0,_,a,AK=>by cases AK
 |n+1,s,a,AK=>by
  rw[GI]at AK;split at AK
  · rcases ABf.1 AK with rfl|AK
    · exact h s
    exact k7 h n _ a AK
  cases AK
theorem Aag(nd:List UInt8)(s:Bb):∀a∈(FC nd s).1.Aj,a.wf:=by
 unfold FC;simp only[Di,CS];exact k7 (fun s=>o9 nd s) _ _
theorem Aib(b:List UInt8):∀a∈(Er b).1.Aj,a.wf:=by
 have z:∀a∈IP.Aj,a.wf:=fun a AK=>absurd AK (ABh);by_cases h:NF b=0
 · rw[fN h];by_cases h2:65536<b.length
   · show ∀a∈(Lm b).Aj,a.wf;rw[lY h2];exact z
   show ∀a∈(Lm b).Aj,a.wf;rw[gn h2];exact Aag _ _
 rw[k8 h];exact z
theorem Yd{α:Type}{f:Ah->α->Ah}(BI:∀w x,Ce w.S->CE w (f w x)):∀(l:List α) {w:Ah},Ce w.S->CE w (l.foldl f w)
 |[],_,h=>CE.refl h
 |x::r,_,h=>by
  have Af:=BI _ x h;exact Af.trans (Yd BI r Af.ws)
structure XK (w v:Ah):Prop where
 s:v.S={w.S with Bz:=v.S.Bz}
 m:Fg v.S.Bz=true
 Me:∀x∈v.S.Bz,x.Cm.wf
 x:v.ix=w.ix
 n:v.AGm=w.AGm
theorem Ad3{w v:Ah}(h:XK w v)(x:BX):XK w (v.Ic x):=by
 unfold Ah.Ic;split
 · exact h
 simp only;split
 · rename_i e;refine⟨?_,rj e,rk h.Me,h.x,h.n⟩;show({v.S with Bz:=_}:Bv)=_;rw[h.s]
 exact⟨h.s,h.m,h.Me,h.x,h.n⟩
theorem foldl_mk{w:Ah}:∀(l:List BX) {v:Ah},XK w v->XK w (l.foldl Ah.Ic v)
 |[],_,h=>h
 |x::r,_,h=>foldl_mk r (Ad3 h x)
theorem SF{S:Bv}{x:BX}:Mr S x=true↔Jj x.Ap x.As=true/\Ix x.AM.Al=true/\F' S x.AM.Al=true/\Ef S x.AM.Al=false/\((x.Ca=1/\Xu x=true)\/(x.Ca=2/\Xv x=true)):=by
 constructor
 · intro h;unfold Mr at h;split at h
   · cases h
   rename_i Bw;simp only[Zx,ABk,ABN,ABe,AB_,ACH]at Bw;obtain⟨⟨⟨a,b⟩,c⟩,d⟩:=Bw;refine⟨a,b,c,d,?_⟩;split at h
   · rename_i k;exact .inl ⟨ABA k,h⟩
   split at h
   · rename_i k;exact .inr ⟨ABA k,h⟩
   cases h
 rintro⟨a,b,c,d,e⟩;exact gG a b c d e
theorem c2{S T:Bv}{x:BX}(h:Mr S x=true)(A7:F' T x.AM.Al=true)(hs:Ef T x.AM.Al=false):Mr T x=true:=by
 obtain⟨a,b,_,_,e⟩:=SF.1 h;exact gG a b A7 hs e
theorem Ajl{w:Ah}{c:Dg}(h:Ce w.S):CE w (w.seal c):=by
 unfold Ah.seal;simp only;split
 · exact CE.refl h
 rename_i Af;split
 · exact CE.refl h
 rename_i h2;simp only[ABk,ABN,ABe,AB_,ABa]at Af h2;obtain⟨⟨⟨⟨⟨AH,BI⟩,Yx⟩,AbZ⟩,A7⟩,he⟩:=Af;obtain⟨⟨Ao,hh⟩,hw⟩:=h2;generalize BC:({w with S:={w.S with Bt:=c.Dj}}:Ah)=v0;have Xo:v0.S={w.S with Bt:=c.Dj}:=by rw[<-BC]
 have NS:XK v0 v0:=⟨rfl,by rw[Xo];exact h.marks,by rw[Xo];exact h.Me,rfl,rfl⟩;have Kq:=foldl_mk w.S.AA NS;generalize w.S.AA.foldl Ah.Ic v0=v at Kq ⊢;have e:v.S={w.S with Bt:=c.Dj,Bz:=v.S.Bz}:=by
  have:=Kq.s;rw[Xo]at this;exact this
 have hm:=Kq.m;have U5:=Kq.Me;generalize v.S.Bz=mk at e hm U5;have Wx:F' v.S c.Dj.A6=true:=by rw[e];show(w.S.Du&&within w.S.A6 w.S.Bc c.Dj.A6)=true;rw[A7,hw];rfl
 have Bo:CE w (v.drop fun x=>Ef v.S x.AM.Al):=by
  refine⟨?_,by show v.S.CZ=_;rw[e],by show v.S.DX=_;rw[e],by show v.ix=_;rw[Kq.x,<-BC],by show v.AGm=_;rw[Kq.n,<-BC]⟩;show Ce {v.S with AA:=v.S.AA.filter (fun x=> !Ef v.S x.AM.Al)};have Tv:∀x∈v.S.AA.filter (fun x=> !Ef v.S x.AM.Al),Mr v.S x=true/\x.wf:=fun x Ab=>by
   obtain⟨a,b⟩:=List.mem_filter.1 Ab;have a:x∈w.S.AA:=(by rw[e]at a;exact a);have Ab:=h.wt x a;refine⟨c2 Ab ?_ (by simpa using b),h.ww x a⟩;have:=(SF.1 Ab).2.2.1;rw[e];exact this
  have AN:(v.S.AA.filter (fun x=> !Ef v.S x.AM.Al)).length<=8:=ABB (List.length_filter_le ..) (by rw[e];exact h.wl);generalize v.S.AA.filter (fun x=> !Ef v.S x.AM.Al)=ws at Tv AN;have O0:w.S.Du=false->False:=fun q=>by rw[A7]at q;cases q
  rw[e]at Tv Wx ⊢;exact{h with marks:=hm,Me:=U5,wl:=AN,wt:=fun x Ab=>(Tv x Ab).1,ww:=fun x Ab=>(Tv x Ab).2,own:=⟨fun q=>(O0 q).elim,h.own.yes⟩,acc:=h.acc,Hc:=.inr ⟨AH,BI,hh,Wx⟩}
 refine Bo.trans (Yd (fun u d hu=>?_) _ Bo.ws);split
 · exact er hu _ _
 exact CE.refl hu
theorem Aks{w:Ah}{n:Int}(h:Ce w.S)(Ao:¬n=0)(he:n=w.S.Bt.Ev):CE w {w with S:={w.S with Bt:=FP,GW:=n}}:=by
 have Cu:¬w.S.Bt=FP:=fun e=>by rw[e]at he;exact Ao he
 have AH:LK w.S.Bt=true:=by
  rcases h.Hc with e|e
  · exact absurd e Cu
  exact e.1
 have Fx:L7 n:=by
  simp only[LK,ABb,ABa]at AH;exact⟨AMT,AMT⟩
 have A7:w.S.Du=true:=by
  cases e:w.S.Du with
  |true=>rfl
  |false=>exact absurd (h.own.no e).2.2.2.2 Cu
 exact⟨{h with un:=Fx,own:=⟨fun q=>(by rw[A7]at q;cases q),h.own.yes⟩,acc:=h.acc,wt:=fun x Ab=>c2 (h.wt x Ab) (SF.1 (h.wt x Ab)).2.2.1 rfl,Hc:=.inl rfl},rfl,rfl,rfl,rfl⟩
structure mY (l:List AD) (p:Fs):Prop where
 acc:∀a∈l,Fw a/\D3 a/\within p.A6 p.Bc a.Al=true
 len:l.length<=12
theorem qk{b:List UInt8}{p:Fs}(h:(FD b p).2=true):(FD b p).1=(Er b).1/\(Er b).2=0/\mY (FD b p).1.Aj p:=by
 unfold FD at h ⊢;split at h
 · cases h
 rename_i Af;rw[AA9 Af];split at h
 · rename_i h2;rw[AA_ h2];simp only[ABk,ABN,ABe,AB_,ABa]at Af;refine⟨rfl,Af.1,fun a AK=>?_,by show(Er b).1.Aj.length<=12;omega⟩;have wf:=Aib b a AK;obtain⟨j,Ay,rfl⟩:=UP AK;have:=(Nz.1 h2) j Ay;simp only[Ty,ABe,ABD,ABI,ABa,ABl,ee]at this;obtain⟨⟨⟨⟨⟨DP,EK⟩,FR⟩,Iz⟩,Lv⟩,KY,OH⟩:=this;have Ao:((Er b).1.Aj.getD j default).A0=[]:=ADd.1 AMT;exact⟨(P3 wf.2.1).1 DP,⟨wf,fun x Ab=>by rw[Ao]at Ab;cases Ab⟩,KY⟩
 cases h
theorem sw:∀(l:List AD) (w:Ah),l.foldl Ah.put w={w with S:={w.S with Aj:=l.foldl (fun q a=>FQ (·.Al) Ds a q) w.S.Aj}}
 |[],_=>rfl
 |a::r,w=>by
  rw[ACO,sw r];rfl
theorem sx:∀(l:List AD) {q:List AD},H6 (·.Al) Ds q->H6 (·.Al) Ds (l.foldl (fun q a=>FQ (·.Al) Ds a q) q)/\(l.foldl (fun q a=>FQ (·.Al) Ds a q) q).length<=q.length+l.length/\∀a∈l.foldl (fun q a=>FQ (·.Al) Ds a q) q,a∈q\/a∈l
 |[],q,h=>⟨h,ABW _,fun a AK=>.inl AK⟩
 |x::r,q,h=>by
  obtain⟨a,b,c⟩:=sx r (W4 Pa (x:=x) h);have AN:=cb (key:=fun a:AD=>a.Al) (lt:=Ds) x q;refine⟨a,by rw[ACO,ABv];omega,fun y Bf=>?_⟩;rcases c y Bf with Bf|Bf
  · rcases(PJ Pa h).1 Bf with rfl|Bf
    · exact .inr (ABx ..)
    exact .inl Bf.1
  exact .inr (ABR _ Bf)
theorem within_iff{BQ Ag k:ByteArray}:within BQ Ag k=true↔Ds k BQ=false/\(Ag=ByteArray.empty\/Ds k Ag=true):=by
 have:(Ds BQ k||decide (BQ=k))=true↔Ds k BQ=false:=by rw[bA];simp
 rw[within,ABb,this,ABk,bs]
theorem Ad8{a b c:ByteArray}(Af:Ds a b=true)(h2:Ds c b=false):Ds c a=false:=by
 cases e:Ds c a with
 |false=>rfl
 |true=>rw[lt_trans e Af]at h2;cases h2
theorem Vm{BQ Ag:ByteArray}:PQ BQ Ag=true↔BQ.size<=16/\Ag.size<=16/\(Ag=ByteArray.empty\/Ds BQ Ag=true):=by
 simp only[PQ,ABb,ABk,ABa,bs];exact⟨fun⟨⟨a,b⟩,c⟩=>⟨AMT,AMT,c⟩,fun⟨a,b,c⟩=>⟨⟨AMT,AMT⟩,c⟩⟩
theorem Ac7{BQ mid Ag k:ByteArray}(Af:PQ BQ mid=true)(h2:PQ mid Ag=true)(hm:mid≠ByteArray.empty)(h:within BQ mid k=true\/within mid Ag k=true):within BQ Ag k=true:=by
 obtain⟨_,_,a⟩:=Vm.1 Af;obtain⟨_,_,b⟩:=Vm.1 h2;have a:=a.resolve_left hm;rw[within_iff,within_iff]at h;rw[within_iff];rcases h with⟨p,q⟩|⟨p,q⟩
 · refine⟨p,?_⟩;rcases b with b|b
   · exact .inl b
   exact .inr (lt_trans (q.resolve_left hm) b)
 exact⟨Ad8 a p,q⟩
theorem tR{S:Bv}{l:List AD}{p:Fs}(h:Ce S)(Ag:mY l p)(AH:PQ p.A6 p.Bc=true)(hs:S.Bt=FP)(AN:l.length+S.Aj.length<=12)(Bh:S.Du=true->¬S.Bc=ByteArray.empty/\S.Bc=p.A6)(ON:Int)(U1:1<=ON/\ON<=EW):
 Ce {S with Aj:=l.foldl (fun q a=>FQ (·.Al) Ds a q) S.Aj,Du:=true,A6:=if S.Du=false then p.A6 else S.A6,Bc:=p.Bc,Dn:=ON}:=by
 obtain⟨DP,EK,FR⟩:=sx l h.Ll;have Acb:PQ (if S.Du=false then p.A6 else S.A6) p.Bc=true/\(∀k,F' S k=true\/within p.A6 p.Bc k=true->within (if S.Du=false then p.A6 else S.A6) p.Bc k=true):=by
  cases e:S.Du with
  |false=>
   rw[AA_ rfl];exact⟨AH,fun k AE=>AE.resolve_left fun q=>by rw[WX q]at e;cases e⟩
  |true=>
   rw[AA9 ARp];obtain⟨Sp,HG⟩:=Bh e;have WE:=(h.own.yes e).2;rw[HG]at WE Sp;obtain⟨SJ,Ug,XA⟩:=Vm.1 WE;obtain⟨J5,Kd,Ke⟩:=Vm.1 AH;refine⟨Vm.2 ⟨SJ,Kd,?_⟩,fun k AE=>Ac7 WE AH Sp ?_⟩
   · rcases Ke with Ke|Ke
     · exact .inl Ke
     exact .inr (lt_trans (XA.resolve_left Sp) Ke)
   rcases AE with AE|AE
   · rw[F',ABb,HG]at AE;exact .inl AE.2
   exact .inr AE
 obtain⟨NY,MK⟩:=Acb;have Fb:0<=ON:=AMT;have hlen:=ABB EK (show S.Aj.length+l.length<=12 by omega);refine{h with ON:=⟨Fb,U1.2⟩,own:=⟨fun q=>(by cases q),fun _=>⟨U1.1,NY⟩⟩,len:=hlen,acc:=fun a AK=>?_,Ll:=DP,wt:=fun x Ab=>?_,Hc:=.inl hs}
 · have key:∀k,F' S k=true\/within p.A6 p.Bc k=true->F' {S with Aj:=l.foldl (fun q a=>FQ (·.Al) Ds a q) S.Aj,Du:=true,A6:=if S.Du=false then p.A6 else S.A6,Bc:=p.Bc,Dn:=ON} k=true:=fun k AE=>by
    show(true&&within _ _ k)=true;rw[MK k AE];rfl
   rcases FR a AK with q|q
   · obtain⟨x,y,z⟩:=h.acc a q;exact⟨x,y,key _ (.inl z)⟩
   obtain⟨x,y,z⟩:=Ag.acc a q;exact⟨x,y,key _ (.inr z)⟩
 have e1:=h.wt x Ab;refine c2 e1 ?_ ?_
 · show(true&&within _ _ x.AM.Al)=true;rw[MK _ (.inl (SF.1 e1).2.2.1)];rfl
 show(!decide (S.Bt.Ev=0)&&_)=false;rw[hs];rfl
theorem tQ(w:Ah)(l:List AD)(p:Fs):(w.Ry l p)={w with S:={w.S with Aj:=l.foldl (fun q a=>FQ (·.Al) Ds a q) w.S.Aj,Du:=true,A6:=if w.S.Du=false then p.A6 else w.S.A6,Bc:=p.Bc}}:=by
 unfold Ah.Ry;simp only;rw[sw];cases e:w.S.Du with
 |false=>simp
 |true=>simp[e]
theorem kT{p:Fs}(h:LK p=true):PQ p.A6 p.Bc=true:=by
 simp only[LK,ABb]at h;exact h.2
theorem sj{p:Fs}(h:LK p=true):L7 p.Ev:=by
 simp only[LK,ABb,ABa]at h;exact⟨AMT,AMT⟩
theorem Ce.Alg{S:Bv}(h:Ce S){n:Int}(Ao:L7 n):Ce {S with CW:=FP,Cf:=[],GW:=n}:={h with un:=Ao,out:=.inl ⟨rfl,rfl⟩,own:=⟨h.own.no,h.own.yes⟩,acc:=h.acc,wt:=h.wt,Hc:=h.Hc}
theorem Akt{w:Ah}{c:Dg}(h:Ce w.S):CE w (w.unseal c):=by
 unfold Ah.unseal;simp only;split
 · exact CE.refl h
 rename_i Ao;split
 · split
   · rename_i he;exact Aks h Ao he
   exact CE.refl h
 split
 · exact CE.refl h
 rename_i Af;split
 · exact CE.refl h
 rename_i h2;simp only[ABk,ABN,ABe,AB_,ABa,ABb,not_and]at Af h2;obtain⟨⟨HG,B3⟩,Bh⟩:=Af;obtain⟨i1,i2⟩:=h2;have AH:LK w.S.CW=true:=by
  rcases h.out with⟨x,_⟩|⟨x,_⟩
  · rw[x]at HG;exact absurd HG Ao
  exact x
 obtain⟨_,_,Ag⟩:=qk i1;have Fx:L7 c.Dj.Ev:=by rw[HG];exact sj AH
 have Qd:w.S.Du=true->¬w.S.Bc=ByteArray.empty/\w.S.Bc=w.S.CW.A6:=fun o=>by
  have:=Bh o;rw[bs]at this;exact⟨this.1,this.2⟩
 have U1:=h.ON;have key:=tR (h.Alg Fx) Ag (kT AH) B3 (by show(FD w.S.Cf w.S.CW).1.Aj.length+w.S.Aj.length<=12;omega) Qd;rw[tQ];simp only;split
 · exact⟨key 1 ⟨ARp,ARp⟩,rfl,rfl,rfl,rfl⟩
 rename_i Fb;exact⟨key w.S.Dn ⟨by have:=U1.1;omega,U1.2⟩,rfl,rfl,rfl,rfl⟩
theorem Aap(nd:List UInt8)(s:Bb):∀a∈(FC nd s).1.Bz,a.wf:=by
 unfold FC;simp only[Di,CS];exact k7 (fun s=>o_ nd s) _ _
theorem Aid(b:List UInt8):∀a∈(Er b).1.Bz,a.Cm.wf:=by
 have z:∀a∈IP.Bz,a.Cm.wf:=fun a AK=>absurd AK (ABh);by_cases h:NF b=0
 · rw[fN h];by_cases h2:65536<b.length
   · show ∀a∈(Lm b).Bz,a.Cm.wf;rw[lY h2];exact z
   show ∀a∈(Lm b).Bz,a.Cm.wf;rw[gn h2];exact fun a AK=>(Aap _ _ a AK).2.2.2
 rw[k8 h];exact z
theorem Ac3{a b:List BL}(h:Fg a=true)(g:Fg b=true):(M_ a b).2=0:=by simp[M_,h,g]
theorem AcZ{a b:List Df}(h:HE a=true)(g:HE b=true):(Ok a b).2=0:=by simp[Ok,h,g]
theorem wK{w:Ah}{c:Dg}(h:Ce w.S):CE w (w.RI c):=by
 unfold Ah.RI;simp only;split
 · exact CE.refl h
 rename_i Af;split
 · exact CE.refl h
 rename_i h2;simp only[ABk,ABN,ABe,AB_,ABa]at Af h2;obtain⟨⟨⟨⟨AH,_⟩,_⟩,B4⟩,DC⟩:=Af;obtain⟨⟨i1,jQ⟩,AcB⟩:=h2;have Fx:=sj AH;have Cl:Ce {w.S with Jc:=c.Dj.Ev}:={h with hf:=Fx,own:=⟨h.own.no,h.own.yes⟩,acc:=h.acc,wt:=h.wt,Hc:=h.Hc};split
 · exact⟨{Cl with TO:=Fx,own:=⟨h.own.no,h.own.yes⟩,acc:=h.acc,wt:=h.wt,Hc:=h.Hc},rfl,rfl,rfl,rfl⟩
 rename_i Bo;simp only[ABk,ABN,ABe,AB_,ABa,ABb,not_and]at Bo;obtain⟨⟨Bh,B3⟩,AN⟩:=Bo;obtain⟨Ab',_,Ag⟩:=qk i1;have Qd:w.S.Du=true->¬w.S.Bc=ByteArray.empty/\w.S.Bc=c.Dj.A6:=fun o=>by
  have:=Bh o;rw[bs]at this;exact⟨this.1,this.2⟩
 have key:=tR Cl Ag (kT AH) B3 (by show(FD c.Cf c.Dj).1.Aj.length+w.S.Aj.length<=12;omega) Qd c.Dn ⟨AMT,AMT⟩;rw[tQ];simp only;have hm:Fg (M_ w.S.Bz (FD c.Cf c.Dj).1.Bz).1=true:=Ac5 (Ac3 h.marks jQ);have he:HE (Ok w.S.CX (FD c.Cf c.Dj).1.CX).1=true:=Ac1 (AcZ h.ends AcB);exact⟨(key.gJ hm (Ac6 h.Me (by rw[Ab'];exact Aid _))).uN he,rfl,rfl,rfl,rfl⟩
theorem CE.ite{p:Prop}[Decidable p]{w a b:Ah}(AK:CE w a)(Aq:CE w b):CE w (if p then a else b):=by
 split
 · exact AK
 exact Aq
theorem dO{w:Ah}{c:Dg}(h:Ce w.S)(Bm:c.wf)(OZ:w.AGm<=5):CE w (w.cmd c):=by
 obtain⟨Ua,Ub,Xs,RD,Ud,Xt,OD,gE,my,cW,SD,Xr,AkQ,SE⟩:=Bm;unfold Ah.cmd;refine CE.ite (Afx h Xr OZ Ud) (CE.ite (Aiq h) (CE.ite (Aay h) (CE.ite (AhD h cW) (CE.ite (AkO h) (CE.ite (xZ h) (CE.ite (zW h) (CE.ite (Ajl h) (CE.ite (Akt h) (CE.ite (wK h) (CE.ite (Aei h fun _=>trivial) (CE.refl h)))))))))))
-- what waits
theorem tI{w:Ah}{o:FL}(h:Ce w.S)(AE:Ix o.Al=true)(A7:F' w.S o.Al=true)(hw:o.wf)(Ao:o.Ca=1\/o.Ca=2->1<=o.B2)(AbR:1<=o.Ca/\o.Ca<=5):CE w (H3 w o).1:=by
 obtain⟨f1,f2,f3⟩:=V9 h AE;unfold H3;simp only;split
 · exact CE.refl h
 rename_i Ba;split
 · exact CE.refl h
 rename_i A9;split
 · split
   · exact CE.refl h
   rename_i Bd Af;simp only[ABb,ABe,ABa,not_and]at Af;split
   · rename_i h2;obtain⟨p,_,q,r,_⟩:=nD f2 (s:=⟨o.A6,o.Bc⟩) ⟨hw.2.2.2.2.1,hw.2.2.2.2.2⟩ h2;refine TL h q r (by rw[p];show F' w.S (BF w.S.Aj o.Al).1.Al=true;rw[f3];exact A7) ?_;rw[p];show(BF w.S.Aj (BF w.S.Aj o.Al).1.Al).2=true\/_;rw[f3];cases e:(BF w.S.Aj o.Al).2 with
     |true=>exact .inl rfl
     |false=>
      have:=Af e;have AK:0<=S2 w.S:=(by unfold S2;split<;>omega);exact .inr AMT
   exact CE.refl h
 rename_i Bd;split
 · rename_i h2;obtain⟨UG,AmQ,p,q,r⟩:=ZU f2 (gg hw.2.2.2.1 (Ao AMT)) h2;refine TL h q r (by rw[p];show F' w.S (BF w.S.Aj o.Al).1.Al=true;rw[f3];exact A7) ?_;rw[p];show(BF w.S.Aj (BF w.S.Aj o.Al).1.Al).2=true\/_;rw[f3];cases e:(BF w.S.Aj o.Al).2 with
   |true=>exact .inl rfl
   |false=>
    exfalso;have Aq:=q.BQ;have R9:=q.Ag;rw[p]at Aq R9;have Cu:(BF w.S.Aj o.Al).1={Fj with Al:=o.Al}:=(by rw[(UH e).2];exact(YR AE).1);rw[Cu]at Aq R9;have CY:(0:Int)<=0+signed o:=Aq;have Dh:(0:Int)+signed o<=0:=R9;have:=Ao AMT;unfold signed at CY Dh;split at CY<;>omega
 exact CE.refl h
theorem Akl{a:AD}(w:D3 a):A' (Io a).1:=by
 unfold Io;split
 · exact DW
 exact w.wf.2.2.1
theorem xy{a:AD}{s:GC}:A' (Pu a s).2:=by
 have h:∀e:Int,(e=0\/e=21\/e=150\/e=152)->A' e:=fun e q=>⟨AMT,AMT⟩;refine h _ ?_;unfold Pu LJ;repeat' split
 all_goals first|exact .inl rfl|exact .inr (.inl rfl)|exact .inr (.inr (.inl rfl))|exact .inr (.inr (.inr rfl))|contradiction
theorem wS{a:AD}{n:Int}:A' (JF a n).2:=by
 have h:∀e:Int,(e=0\/e=21\/e=150\/e=152\/e=1)->A' e:=fun e q=>⟨AMT,AMT⟩;refine h _ ?_;unfold JF;repeat' split
 all_goals simp
theorem tH{w:Ah}{o:FL}(h:Ce w.S)(AE:Ix o.Al=true):(H3 w o).2.wf:=by
 obtain⟨f1,f2,f3⟩:=V9 h AE;have t:=Akl f2;unfold H3;simp only;split
 · exact⟨DW,t,DW,DW⟩
 split
 · exact⟨DW,DW,t,t⟩
 split
 · split
   · exact OM ⟨ARp,ARp⟩
   exact OM xy
 exact OM wS
theorem AdV{w:Ah}{x:BX}(h:Ce w.S)(AE:Ix x.AM.Al=true)(A7:F' w.S x.AM.Al=true)(hw:x.wf)(Ao:¬x.AM.B2=0):CE w (w.Lf x):=by
 obtain⟨f1,f2,f3⟩:=V9 h AE;unfold Ah.Lf;split
 · exact CE.refl h
 simp only;have AN:(F_.mk x.Ap x.As x.DH x.AM.B2).wf:=⟨hw.2.1,hw.2.2.1,hw.2.2.2.2.1,hw.2.2.2.2.2.2.2.2.1⟩;generalize Bh:KA (BF w.S.Aj x.AM.Al).1 ⟨x.Ap,x.As,x.DH,x.AM.B2⟩=r;have key:CE w (if r.2=0 then w.put r.1 else w.tell 3 x.Ap x.As GS)/\(r.2=0->Fw r.1/\D3 r.1/\r.1.Al=x.AM.Al/\(BF w.S.Aj x.AM.Al).2=true/\G_ r.1=true):=by
  by_cases e:r.2=0
  · rw[AA_ e];have IV:=e;rw[<-Bh]at IV;obtain⟨p,_,_,Qj,CY,Dh,q,s⟩:=gu f2 AN IV;rw[Bh]at p q s;have BI:(BF w.S.Aj x.AM.Al).2=true:=by
     cases S_:(BF w.S.Aj x.AM.Al).2 with
     |true=>rfl
     |false=>
      exfalso;have Cu:(BF w.S.Aj x.AM.Al).1={Fj with Al:=x.AM.Al}:=(by rw[(UH S_).2];exact(YR AE).1);rw[Cu]at CY Dh;have CY:(0:Int)<=0+x.AM.B2:=CY;have Dh:(0:Int)+x.AM.B2<=0:=Dh;omega
    have js:r.1.Al=x.AM.Al:=(by rw[p];exact f3);have AbV:G_ r.1=true:=by
     simp only[Sk,ABb,ABa]at Qj;have:¬x.Ap=0:=AMT;rw[p];show(!decide (x.Ap=0))=true;rw[ABM this];rfl
    exact⟨TL h q s (by rw[js];exact A7) (.inl (by rw[js];exact BI)),fun _=>⟨q,s,js,BI,AbV⟩⟩
  rw[AA9 e];exact⟨cJ h _ _ _ _,fun q=>absurd q e⟩
 obtain⟨A1,AY⟩:=key;have A9:r.2=0->∀v:Ah,v=(if r.2=0 then w.put r.1 else w.tell 3 x.Ap x.As GS)->(BF v.S.Aj x.AM.Al).2=true/\F' v.S x.AM.Al=true:=fun e v BC=>by
  rw[AA_ e]at BC;obtain⟨_,_,z,_⟩:=AY e;have hs:=A1.ws.Ll;rw[AA_ e,<-BC]at hs;refine⟨?_,by rw[BC];exact A7⟩;rw[oS hs,br Pa hs];exact⟨r.1,by rw[BC];exact(PJ Pa h.Ll).2 (.inl rfl),z⟩
 generalize BC:(if r.2=0 then w.put r.1 else w.tell 3 x.Ap x.As GS)=v at A1 A9;refine A1.trans ?_;split
 · split
   · exact k2 A1.ws _ _
   exact CE.refl A1.ws
 split
 · split
   · rename_i BI;by_cases e:r.2=0
     · obtain⟨a,b,c,_,l⟩:=AY e;obtain⟨_,_,p,q,s⟩:=UK (c:=false) b BI;obtain⟨Kq,YQ⟩:=A9 e v rfl;exact TL A1.ws q s (by rw[p];show F' v.S r.1.Al=true;rw[c];exact YQ) (.inl (by rw[p];show(BF v.S.Aj r.1.Al).2=true;rw[c];exact Kq))
     exfalso;have Cu:r.1=Fj:=by
      rw[<-Bh]at e ⊢;unfold KA at e ⊢;split
      · rfl
      rename_i Hj;rw[AA9 Hj]at e;split
      · rfl
      rename_i G1;rw[AA9 G1]at e;split
      · rfl
      rename_i Jt;rw[AA9 Jt]at e;split
      · rfl
      rename_i NI;rw[AA9 NI]at e;exact absurd rfl e
     rw[Cu]at BI;exact absurd BI ARp
   exact CE.refl A1.ws
 rename_i AJ;simp only[ABk,ABN,ABe,AB_,ABa]at AJ;generalize CK:Jk v.S.Bj x.Ap x.As (decide (x.AM.Al=(findD v.S.Bj x.Ap x.As).Al)) (decide (r.2=0))=g;have pE:g.2.2=0:=by
  have pz:(F1 v.S.Bj x.Ap x.As).2=0:=by
   have:=AJ.1;unfold Tz at this;split at this
   · cases this
   rename_i q;simp only[ABk,ABa,ABN,ABe,AB_,ee]at q;rw[F1,AA9 (by rw[q.2];decide),AA9 q.1]
  rw[<-CK,Jk,AA9 (not_not_intro pz)]
 have h2:CE v {v with S:={v.S with Bj:=g.1}}:=⟨A1.ws.SH (by rw[<-CK]at pE ⊢;exact cC pE),rfl,rfl,rfl,rfl⟩;split
 · exact h2.trans (oe h2.ws _ _)
 exact h2
theorem uI{x:BX}(h:Xu x=true):1<=x.AM.Ca/\x.AM.Ca<=5/\(x.AM.Ca=1\/x.AM.Ca=2->1<=x.AM.B2):=by
 simp only[Xu,ABb,ABk,ABa]at h;omega
theorem uG{w:Ah}{i:Nat}(h:Ce w.S)(Ag:i<w.S.AA.length):CE w (w.L6 i):=by
 have hm:=Hl (l:=w.S.AA) Ag;obtain⟨a,b,c,d,e⟩:=SF.1 (h.wt _ hm);have hw:=h.ww _ hm;unfold Ah.L6;simp only;have Af:CE w {w with S:={w.S with AA:=w.S.AA.eraseIdx i}}:=⟨h.bB (AD1 ..),rfl,rfl,rfl,rfl⟩;split
 · rename_i k;have A7:Xu (w.S.AA.getD i default)=true:=by
    rcases e with e|e
    · exact e.2
    rw[k]at e;exact absurd e.1 ARp
   obtain⟨o1,o2,IJ⟩:=uI A7;have h2:=tI (w:={w with S:={w.S with AA:=w.S.AA.eraseIdx i}}) Af.ws b c hw.2.2.2.2.2 IJ ⟨o1,o2⟩;exact Af.trans (h2.trans (f' h2.ws _ _ _ _ (tH (w:={w with S:={w.S with AA:=w.S.AA.eraseIdx i}}) Af.ws b)))
 rename_i k;have A7:Xv (w.S.AA.getD i default)=true:=by
  rcases e with e|e
  · exact absurd e.1 k
  exact e.2
 simp only[Xv,ABb,ABe,ABl]at A7;exact Af.trans (AdV Af.ws b c hw A7.1.2)
theorem gH:∀(n:Nat) {w:Ah},Ce w.S->CE w (Ah.waits n w)
 |0,_,h=>CE.refl h
 |n+1,w,h=>by
  rw[Ah.waits];cases e:KS w.S with
  |none=>exact CE.refl h
  |some i=>
   have Af:=uG h (Q4 e);exact Af.trans (gH n Af.ws)
end Go.Apw
