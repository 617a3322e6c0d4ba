/- Part 8 of shardWhole_holds. -/
import Derived.Test.YtklmcfecakaanaaGreatSq7

set_option maxRecDepth 20000
set_option maxHeartbeats 1000000
open List renaming append_assoc→ACN,append_nil→AB7,cons_append→ABU,foldl_cons→ACO,getElem_of_mem→AC8,getElem_set→ADQ,length_append→ABP,length_drop→ACt,length_filter_le→ADR,length_nil→ABo,length_set→ABj,map_congr_left→ART,map_map→ARS,mem_filter→ABZ,mem_iff_getElem→AR5,nil_append→ABK,nodup_cons→ADq,pairwise_cons→ASd,pairwise_iff_getElem→ACW,sum_cons→ADr
open List.Pairwise renaming filter→AR4
open Go.A_
namespace Go.Apw
theorem fm:∀(k i v v0:Nat) (r:List UInt8),(GN v).length=k->i<=9->v*2^(7*i)<2^64->(i=0\/0<v)->HH i v0 (GN v++r)=(v0+v*2^(7*i),i+k,0)
 |0,i,v,v0,r,AE,_,_,_=>by
  exfalso;by_cases h:v<128
  ·
   rw[ec h]at AE;simp at AE
  rw[eb AMT]at AE;simp at AE
 |k+1,i,v,v0,r,AE,Ag,BC,Bw=>by
  by_cases h:v<128
  ·
   rw[ec h]at AE ⊢;have AE:k=0:=(by simpa using AE.symm);subst AE;have Bm:(UInt8.ofNat v).toNat=v:=toNat_ofNat AMT;have EO:i=9->v<=1:=by
    rintro rfl;simp only[Nat.reduceMul,Nat.reducePow]at BC;omega
   simp only[ABU,ABK,HH,Bm];rw[AA9 AMT,AA9 AMT,AA9 AMT,Nat.mod_eq_of_lt h]
  have Aq:128<=v:=AMT;rw[eb Aq]at AE ⊢;have AE:(GN (v / 128)).length=k:=(by simpa using AE);have Bm:(UInt8.ofNat (v % 128+128)).toNat=v % 128+128:=toNat_ofNat AMT;have EO:i≠9:=by
   rintro rfl;simp only[Nat.reduceMul,Nat.reducePow]at BC;omega
  have e:2^(7*(i+1))=128*2^(7*i):=(by rw[Nat.mul_add,Nat.pow_add,Nat.mul_comm]);have jK:v / 128*2^(7*(i+1))+v % 128*2^(7*i)=v*2^(7*i):=by
   rw[e,<-Nat.mul_assoc,<-Nat.add_mul];congr 1;omega
  simp only[ABU,HH,Bm];rw[AA9 AMT,AA_ AMT,show(v % 128+128) % 128=v % 128 by omega];rw[fm k (i+1) (v / 128) _ r AE AMT AMT (.inr AMT)];rw[ADs v0,Nat.add_comm (v % 128*2^(7*i)),jK];congr 2;omega
def MX(nd:List UInt8)(s:Bb)(r:List UInt8):Prop:=s.fault=0/\s.pos<=nd.length/\nd.drop s.pos=r
theorem MX.next{α:Type}{nd:List UInt8}{s:Bb}{a r:List UInt8}(h:MX nd s (a++r)){d x:α}{f:List UInt8->α×Nat×Nat}(BI:f (a++r)=(x,a.length,0)):
  ∃DR,Lj nd d f s=(x,DR)/\MX nd DR r:=by
 obtain⟨Af,h2,Bo⟩:=h;have AN:a.length+r.length+s.pos=nd.length:=by
  have:=ABE List.length Bo;simp only[ACt,ABP]at this;omega
 refine⟨⟨s.pos+a.length,s.fault⟩,?_,Af,by show s.pos+a.length<=_;omega,?_⟩
 ·
  simp only[Lj,Bo,BI,Bb.val,Bb.step];rw[AA9 AMT,AA9 AMT,AA9 AMT,AA9 AMT]
 show nd.drop (s.pos+a.length)=r;rw[<-List.drop_drop,Bo,List.drop_left]
theorem Ah'{nd:List UInt8}{s:Bb}{v:Nat}{r:List UInt8}(BC:v<2^64)(h:MX nd s (GN v++r)):∃DR,rdNum nd s=(v,DR)/\MX nd DR r:=
 h.next (by rw[fm _ 0 v 0 r rfl ARp (by simpa using BC) (.inl rfl)];simp)
theorem Ah7{nd:List UInt8}{s:Bb}{x:Int}{r:List UInt8}(Ab:A' x)(h:MX nd s (QZ x++r)):∃DR,D6 nd s=(x,DR)/\MX nd DR r:=by
 obtain⟨DR,Af,h2⟩:=Ah' (AlY Ab) h;exact⟨DR,by simp only[D6,Af,AlS],h2⟩
theorem Ah2{nd:List UInt8}{m:Int}{s:Bb}{v:Nat}{r:List UInt8}(Bw:(v:Int)<=m)(BC:v<2^64)(h:MX nd s (GN v++r)):∃DR,DT nd m s=(v,DR)/\MX nd DR r:=
 h.next (by
  have e:=fm _ 0 v 0 r rfl ARp (by simpa using BC) (.inl rfl);rw[S7 e,AA9 (by simp;omega),AA9 (by simp)];simp)
theorem Aie{nd:List UInt8}{m:Int}{s:Bb}{b r:List UInt8}(Bw:(b.length:Int)<=m)(Aq:b.length<2^64)(h:MX nd s (RS b++r)):∃DR,Gm nd m s=(b,DR)/\MX nd DR r:=
 h.next (by
  have e:=fm _ 0 b.length 0 (b++r) rfl ARp (by simpa using Aq) (.inl rfl);simp only[AB0,Nat.mul_zero,Nat.pow_zero,Nat.mul_one]at e;have B4:L9 (RS b++r) m=(b.length,(GN b.length).length,0):=by
   unfold RS;rw[ACN,S7 e,AA9 AMT,AA9 AMT]
  rw[l7 B4,AA9 AMT,AA9 (by unfold RS;simp only[List.length_append];omega)];unfold RS;rw[ACN,List.drop_left,List.take_left,ABP])
theorem Ah4{nd:List UInt8}{s:Bb}{b:Bool}{r:List UInt8}(h:MX nd s ([if b=true then 1 else 0]++r)):∃DR,Kw nd s=(b,DR)/\MX nd DR r:=
 h.next (by cases b<;>rfl)
def HU{α:Type}(W:Cc->Cc)(rd:List UInt8->Bb->α×Bb)(x:α):Prop:=
 ∀w,(W w).E6=false->w.E6=false/\(w.out.length<=65536->(W w).out.length<=65536)/\∃e,(W w).out=w.out++e/\∀nd s r,MX nd s (e++r)->∃DR,rd nd s=(x,DR)/\MX nd DR r
theorem fG{α:Type}{b:List UInt8}{rd:List UInt8->Bb->α×Bb}{x:α}(h:∀nd s r,MX nd s (b++r)->∃DR,rd nd s=(x,DR)/\MX nd DR r):HU (H4 b) rd x:=by
 intro w AN;unfold H4 at AN ⊢;split at AN
 ·
  cases AN
 rename_i Ao;rw[AA9 Ao];simp only[ABk,ABN,ABa,ACH]at Ao;exact⟨Ao.1,fun _=>by show(w.out++b).length<=_;rw[ABP];omega,b,G,h⟩
theorem tF{α:Type}{W:Cc->Cc}{rd:List UInt8->Bb->α×Bb}{x:α}(h:HU W rd x):HU (fun w=>if w.E6=true then w else W w) rd x:=by
 intro w AN;simp only at AN ⊢;split at AN
 ·
  rename_i e;rw[e]at AN;cases AN
 rename_i e;rw[AA9 e];exact h w AN
theorem F7{v:Int}(h:A' v):HU (E2 v) D6 v:=tF (fG fun _ _ _ hs=>Ah7 h hs)
theorem oZ{b:Bool}:HU (Gy b) Kw b:=tF (fG fun _ _ _ hs=>Ah4 hs)
theorem nL{b:List UInt8}:HU (KT b) (fun nd=>Gm nd 65535) b:=by
 intro w AN;unfold KT at AN ⊢;split at AN
 ·
  rename_i e;rw[e]at AN;cases AN
 rename_i e;split at AN
 ·
  cases AN
 rename_i Aq;rw[AA9 e,AA9 Aq];exact fG (fun _ _ _ hs=>Aie AMT AMT hs) w AN
def c1(s:ByteArray)(w:Cc):Cc:=if s.size>65535 then{w with E6:=true}else KT s.data.toList w
theorem T3{s:ByteArray}:HU (c1 s) (fun nd=>Gm nd 65535) s.data.toList:=by
 intro w AN;unfold c1 at AN ⊢;split at AN
 ·
  cases AN
 rename_i e;rw[AA9 e];exact nL w AN
def Jz(l:List (Cc->Cc))(w:Cc):Cc:=l.foldl (fun w f=>f w) w
theorem Qy{β:Type}{y z:β}(h:z=y):HU (Jz []) (fun _ s=>(z,s)) y:=by
 intro w AN;subst h;exact⟨AN,fun h=>h,[],(AB7 _).symm,fun _ s _ hs=>⟨s,G,hs⟩⟩
theorem D'{α β:Type}{W:Cc->Cc}{l:List (Cc->Cc)}{rd:List UInt8->Bb->α×Bb}{x:α}{k:α->List UInt8->Bb->β×Bb}{y:β}(h:HU W rd x)(g:HU (Jz l) (k x) y):HU (Jz (W::l)) (fun nd s=>Di (rd nd s) fun a t=>k a nd t) y:=by
 intro w AN;obtain⟨Hj,G1,DC,Jt,NI⟩:=g (W w) AN;obtain⟨Af,h2,B4,Bo,BB⟩:=h w Hj;refine⟨Af,fun q=>G1 (h2 q),B4++DC,by show(Jz l (W w)).out=_;rw[Jt,Bo,ACN],fun nd s r hs=>?_⟩;rw[ACN]at hs;obtain⟨s1,NY,hs⟩:=BB nd s _ hs;obtain⟨s2,MK,hs⟩:=NI nd s1 _ hs;exact⟨s2,by simp only[Di,NY,MK],hs⟩
theorem T4{α:Type}{s:ByteArray}{r:List ByteArray}{l:List (Cc->Cc)}{rd:List UInt8->Bb->α×Bb}{x:α}(h:HU (Jz (c1 s::KD r::l)) rd x):HU (Jz (KD (s::r)::l)) rd x:=by
 intro w AN;have e:Jz (KD (s::r)::l) w=Jz l (if s.size>65535 then{w with E6:=true}else KD r (KT s.data.toList w)):=by
  show Jz l (KD (s::r) w)=_;rw[KD]
 have IV:Jz (c1 s::KD r::l) w=Jz l (KD r (if s.size>65535 then{w with E6:=true}else KT s.data.toList w)):=rfl;have Dv:∀(r:List ByteArray) (w:Cc),w.E6=true->KD r w=w:=by
  intro r;induction r with
  |nil=>intro w _;rfl
  |cons a r Cg=>
   intro w hw;rw[KD];split
   ·
    cases w;simp only at hw;subst hw;rfl
   rw[show KT a.data.toList w=w by rw[KT,AA_ hw]];exact Cg w hw
 have DC:Jz (KD (s::r)::l) w=Jz (c1 s::KD r::l) w:=by
  rw[e,IV];split
  ·
   rw[Dv r {w with E6:=true} rfl]
  rfl
 rw[DC]at AN ⊢;exact h w AN
theorem cM{α:Type}{l:List (Cc->Cc)}{rd:List UInt8->Bb->α×Bb}{x:α}(h:HU (Jz l) rd x):HU (Jz (KD []::l)) rd x:=h
theorem rm{α:Type}{one:α->Cc->Cc}{rd:List UInt8->Bb->α×Bb}:∀{l:List α},(∀x∈l,HU (one x) rd x)->HU (MS one l) (fun nd=>GI (rd nd) l.length) l
 |[],_=>fun w AN=>⟨AN,fun h=>h,[],(AB7 _).symm,fun _ s _ hs=>⟨s,rfl,hs⟩⟩
 |x::r,h=>by
  intro w AN;unfold MS at AN ⊢;split at AN
  ·
   rename_i e;rw[e]at AN;cases AN
  rename_i e;rw[AA9 e];obtain⟨Hj,G1,DC,Jt,NI⟩:=rm (fun y Bf=>h y (ABR _ Bf)) (one x w) AN;obtain⟨Af,h2,B4,Bo,BB⟩:=h x (ABx ..) w Hj;refine⟨Af,fun q=>G1 (h2 q),B4++DC,by rw[Jt,Bo,ACN],fun nd s fI hs=>?_⟩;rw[ACN]at hs;obtain⟨s1,NY,jD⟩:=BB nd s _ hs;obtain⟨s2,MK,jE⟩:=NI nd s1 _ jD;refine⟨s2,?_,jE⟩;show GI (rd nd) (r.length+1) s=_;have MK:GI (rd nd) r.length s1=(r,s2):=MK;simp only[sJ hs.1,NY,MK]
theorem YL{α:Type}{one:α->Cc->Cc}{rd:List UInt8->Bb->α×Bb}{l:List α}(h:∀x∈l,HU (one x) rd x):HU (CH one l) (fun nd=>CS nd (rd nd)) l:=by
 intro w AN;unfold CH at AN ⊢;split at AN
 ·
  rename_i e;rw[e]at AN;cases AN
 rename_i e;split at AN
 ·
  cases AN
 rename_i Aq;rw[AA9 e,AA9 Aq];obtain⟨Hj,G1,DC,Jt,NI⟩:=rm h _ AN;obtain⟨Af,h2,B4,Bo,BB⟩:=fG (rd:=fun nd=>DT nd 1024) (x:=l.length) (fun _ _ _ hs=>Ah2 AMT AMT hs) w Hj;refine⟨Af,fun q=>G1 (h2 q),B4++DC,by rw[Jt,Bo,ACN],fun nd s fI hs=>?_⟩;rw[ACN]at hs;obtain⟨s1,NY,jD⟩:=BB nd s _ hs;obtain⟨s2,MK,jE⟩:=NI nd s1 _ jD;refine⟨s2,?_,jE⟩;have NY:DT nd 1024 s=(l.length,s1):=NY;have MK:GI (rd nd) l.length s1=(l,s2):=MK;simp only[CS,NY,MK]
-- each kind of thing
theorem Z1(s:ByteArray):(⟨s.data.toList.toArray⟩:ByteArray)=s:=by cases s;rfl
theorem Afw{o:FL}(h:o.wf):HU (Zv o) Wc o:=by
 obtain⟨Af,_,_,BB,C',F4⟩:=h;exact D' (l:=[KD [o.Al,o.EL],E2 o.B2,E2 o.A6,E2 o.Bc]) (F7 Af) (T4 (D' T3 (T4 (D' T3 (cM (D' (F7 BB) (D' (F7 C') (D' (F7 F4) (Qy (by simp only[Z1]))))))))))
theorem si{o:Fs}(h:o.wf):HU (Lq o) L_ o:=by
 obtain⟨Af,h2,Bo,_,_,BB,C'⟩:=h;exact D' (l:=[E2 o.Hi,E2 o.IX,KD [o.A6,o.Bc],E2 o.Ap,E2 o.As]) (F7 Af) (D' (F7 h2) (D' (F7 Bo) (T4 (D' T3 (T4 (D' T3 (cM (D' (F7 BB) (D' (F7 C') (Qy (by simp only[Z1])))))))))))
theorem Ab3{o:BD}(h:o.wf):HU (PY o) Iu o:=by
 obtain⟨Af,h2,Bo,BB⟩:=h;exact D' (l:=[E2 o.G0,E2 o.DV,E2 o.Fc]) (F7 Af) (D' (F7 h2) (D' (F7 Bo) (D' (F7 BB) (Qy G))))
theorem yZ{o:Df}(h:o.wf):HU (Mq o) HF o:=by
 obtain⟨Af,h2⟩:=h;exact D' (l:=[E2 o.As]) (F7 Af) (D' (F7 h2) (Qy G))
theorem w3{o:De}(h:o.wf){α:Type}{l:List (Cc->Cc)}{k:De->List UInt8->Bb->α×Bb}{y:α}(g:HU (Jz l) (k o) y):
  HU (Jz (KU [o.Jd]::KU [o.JM,o.JJ,o.JK]::l)) (fun nd s=>Di (UL nd s) fun a t=>k a nd t) y:=by
 obtain⟨Af,h2,Bo,BB⟩:=h;have q:HU (Jz [E2 o.Jd,E2 o.JM,E2 o.JJ,E2 o.JK]) UL o:=D' (F7 Af) (D' (F7 h2) (D' (F7 Bo) (D' (F7 BB) (Qy rfl))));exact D' (W:=Jz [E2 o.Jd,E2 o.JM,E2 o.JJ,E2 o.JK]) (l:=l) q g
theorem Aea{o:BL}(h:o.wf):HU (Kc o) GG o:=by
 obtain⟨Af,h2,_,Bo⟩:=h;exact D' (l:=[E2 o.As,Gy o.HV,KU [o.Cm.Jd],KU [o.Cm.JM,o.Cm.JJ,o.Cm.JK]]) (F7 Af) (D' (F7 h2) (D' oZ (w3 Bo (Qy G))))
theorem Ak4{o:BX}(h:o.wf):HU (KV o) GX o:=by
 obtain⟨Af,h2,Bo,BB,C',F4⟩:=h;exact D' (l:=[E2 o.Ap,E2 o.As,E2 o.Bn,E2 o.DH,Zv o.AM]) (F7 Af) (D' (F7 h2) (D' (F7 Bo) (D' (F7 BB) (D' (F7 C') (D' (Afw F4) (Qy G))))))
theorem yu{o:Bx}(h:o.wf):HU (LO o) Hk o:=by
 obtain⟨Af,h2,_,_,Bo,BB,C',F4⟩:=h;exact D' (l:=[E2 o.As,KD [o.Al,o.EL],E2 o.B2,E2 o.DN,E2 o.DO,E2 o.C3]) (F7 Af) (D' (F7 h2) (T4 (D' T3 (T4 (D' T3 (cM (D' (F7 Bo) (D' (F7 BB) (D' (F7 C') (D' (F7 F4) (Qy (by simp only[Z1]))))))))))))
theorem wM{o:AD}(h:o.wf)(hh:∀x∈o.A0,x.wf):HU (I_ o) F2 o:=by
 obtain⟨_,⟨s1,s2⟩,Af,h2,_,⟨Om,Sl,On,qX⟩⟩:=h;have AhU:HU (Jz [E2 o.Cs.A6,E2 o.Cs.Bc]) UO o.Cs:=D' (F7 s1) (D' (F7 s2) (Qy rfl));have AhT:HU (Jz [E2 o.BG.Ap,E2 o.BG.As,E2 o.BG.DH,E2 o.BG.B2]) UM o.BG:=D' (F7 Om) (D' (F7 Sl) (D' (F7 On) (D' (F7 qX) (Qy rfl))));have e:I_ o=Jz [KD [o.Al],Jz [E2 o.Cs.A6,E2 o.Cs.Bc],E2 o.BT,E2 o.Cn,CH PY o.A0,Jz [E2 o.BG.Ap,E2 o.BG.As,E2 o.BG.DH,E2 o.BG.B2]]:=by
  funext w;simp only[I_,KU,Jz,ACO,List.foldl_nil]
 rw[e];exact T4 (D' T3 (cM (D' AhU (D' (F7 Af) (D' (F7 h2) (D' (YL fun x Ab=>Ab3 (hh x Ab)) (D' AhT (Qy (by simp only[Z1])))))))))
structure hc (S:Bv):Prop where
 wf:S.wf
 ac:∀x∈S.Aj,x.wf/\∀y∈x.A0,y.wf
 O8:∀x∈S.Bz,x.wf
 PZ:∀x∈S.AA,x.wf
 yr:∀x∈S.Bj,x.wf
 h4:∀x∈S.CX,x.wf
theorem AjO{S:Bv}(h:hc S):HU (N7 S) FC S:=by
 obtain⟨Af,h2,_,_,_,F4,_,_,_,_,_,EM,Dp,_,Ft,CR,DA⟩:=h.wf;have e:N7 S=Jz [E2 S.CZ,E2 S.DX,Gy S.Du,KD [S.A6,S.Bc],E2 S.Dn,CH I_ S.Aj,CH Kc S.Bz,CH KV S.AA,CH LO S.Bj,CH Mq S.CX,Lq S.Bt,Lq S.CW,KT S.Cf,E2 S.Jc,E2 S.JL,E2 S.GW]:=by
  funext w;simp only[N7,KU,Jz,ACO,List.foldl_nil]
 rw[e];refine D' (F7 Af) (D' (F7 h2) (D' oZ (T4 (D' T3 (T4 (D' T3 (cM (D' (F7 F4) (D' (YL fun x Ab=>wM (h.ac x Ab).1 (h.ac x Ab).2) ?_)))))))));refine D' (YL fun x Ab=>Aea (h.O8 x Ab)) (D' (YL fun x Ab=>Ak4 (h.PZ x Ab)) (D' (YL fun x Ab=>yu (h.yr x Ab)) (D' (YL fun x Ab=>yZ (h.h4 x Ab)) ?_)));exact D' (si EM) (D' (si Dp) (D' nL (D' (F7 Ft) (D' (F7 CR) (D' (F7 DA) (Qy (by simp only[Z1])))))))
theorem back{S:Bv}(h:hc S)(he:(IW S).2=0):Er (IW S).1=(S,0):=by
 unfold IW at he ⊢;split at he
 ·
  cases he
 rename_i AN;rw[AA9 AN];obtain⟨_,h2,e,Bo,BB⟩:=AjO h ⟨[],false⟩ (by simpa using AN);have h2:=h2 (ABg _);simp only[ABK]at Bo;obtain⟨DR,r,hs,AH,AJ⟩:=BB (N7 S ⟨[],false⟩).out ⟨0,0⟩ [] ⟨rfl,ABg _,by rw[Bo];simp⟩;have La:¬DR.pos<(N7 S ⟨[],false⟩).out.length:=by
  have:=ABE List.length AJ;simp only[ACt,ABo]at this;omega
 have Fb:NF (N7 S ⟨[],false⟩).out=0:=by
  rw[oM AMT,r];simp only[Q0];rw[AA9 (fun x=>La x.2),hs];rfl
 rw[fN Fb,gn AMT,r]
theorem Aed{m:BL}(Bw:0<m.Ap)(h:dq m)(hw:m.Cm.wf):m.wf:=by
 have Af:=h.hH;have h2:=h.L3;have Bo:=h.q1;have BI:EW=4611686018427387904:=rfl;exact⟨⟨AMT,AMT⟩,⟨AMT,AMT⟩,trivial,hw⟩
theorem Aee{l:List BL}(h:Fg l=true)(hw:∀m∈l,m.Cm.wf):∀m∈l,m.wf:=fun m hm=>Aed ((Rl.1 h).1 m hm).1 ((Rl.1 h).1 m hm).2 (hw m hm)
theorem y7{l:List Df}(h:HE l=true):∀e∈l,e.wf:=fun e he=>by
 have:=((au.1 h).1 e he).2;simp only[Jj,ABb,ABa]at this;have BI:EW=4611686018427387904:=rfl;exact⟨⟨AMT,AMT⟩,⟨AMT,AMT⟩⟩
theorem Ad5(b:List BL):∀{l:List BL},Fg l=true->(∀m∈l,m.Cm.wf)->Fg (b.foldl (fun l m=>if(G' l m.Ap m.As).2=0 then(G' l m.Ap m.As).1 else l) l)=true/\∀m∈b.foldl (fun l m=>if(G' l m.Ap m.As).2=0 then(G' l m.Ap m.As).1 else l) l,m.Cm.wf:=by
 induction b with
 |nil=>exact fun h hw=>⟨h,hw⟩
 |cons x r Cg=>
  intro l h hw;rw[ACO];split
  · rename_i e;exact Cg (rj e) (rk hw)
  exact Cg h hw
theorem sb{S:Bv}(h:Ce S)(BQ Ag:ByteArray):hc (Gl S BQ Ag):=by
 obtain⟨Kq,YQ⟩:=Ad5 S.Bz h.marks h.Me;refine⟨dd,fun x Ab=>?_,Aee Kq YQ,fun x Ab=>absurd Ab ABh,fun x Ab=>absurd Ab ABh,y7 h.ends⟩;obtain⟨Ab,_⟩:=ABZ.1 Ab;obtain⟨a,AK,rfl⟩:=AB6.1 Ab;have:=k_ (h.acc a AK).2.1 DW;exact⟨this.wf,this.A7⟩
theorem Akv{S:Bv}(k:ByteArray)(h:S.Bt=FP):Ef S k=false:=by
 unfold Ef;rw[h];rfl
theorem b6{S:Bv}{k:ByteArray}:F' S k=true↔S.Du=true/\within S.A6 S.Bc k=true:=by rw[F',ABb]
theorem jc{S:Bv}(h:Ce S):Ce (LG S)/\(LG S).CZ=S.CZ/\(LG S).DX=S.DX:=by
 unfold LG;split
 · exact⟨h,rfl,rfl⟩
 rename_i Ew;split
 · exact⟨h,rfl,rfl⟩
 rename_i he;have he:=ACD.1 he;have ql:=back (sb h S.Bt.A6 S.Bt.Bc) he;generalize (IW (Gl S S.Bt.A6 S.Bt.Bc)).1=jQ at ql;have qi:(Er jQ).2=0:=by rw[ql]
 have Cu:¬S.Bt=FP:=fun e=>Ew (by simp[Py,e]);obtain⟨AH,BI,hh,A7⟩:LK S.Bt=true/\S.Bt.Hi=S.CZ/\S.Bt.Bc=S.Bc/\F' S S.Bt.A6=true:=h.Hc.resolve_left Cu;obtain⟨bb,Kp⟩:=b6.1 A7;obtain⟨B4,sp⟩:=h.own.yes bb;have HG:¬S.Bt.Ev=0:=by
  simp only[LK,ABb,ABa]at AH;omega
 have NM:∀k,Ef S k=within S.Bt.A6 S.Bc k:=fun k=>by rw[Ef,ABM HG,hh];rfl
 have qc:∀x∈S.AA,within S.A6 S.Bc x.AM.Al=true/\Ef S x.AM.Al=false:=fun x Ab=>by
  obtain⟨_,_,c,d,_⟩:=SF.1 (h.wt x Ab);exact⟨(b6.1 c).2,d⟩
 have pq:∀a∈S.Aj,within S.A6 S.Bc a.Al=true:=fun a AK=>(b6.1 (h.acc a AK).2.2).2;simp only;split
 · rename_i el;have Cl:S.Aj.filter (fun a=> !Ef S a.Al)=[]:=List.filter_eq_nil_iff.2 fun a AK=>by
    rw[NM,el,pq a AK];decide
   have F5:S.AA=[]:=List.eq_nil_iff_forall_not_mem.2 fun x Ab=>by
    obtain⟨a,b⟩:=qc x Ab;rw[NM,el,a]at b;cases b
   refine⟨{h with own:=⟨fun _=>⟨rfl,rfl,Cl,F5,rfl⟩,fun q=>by cases q⟩,len:=?_,acc:=?_,Ll:=?_,wt:=?_,Hc:=.inl rfl,out:=.inr ⟨AH,BI,qi⟩},rfl,rfl⟩
   · show(S.Aj.filter _).length<=12;rw[Cl];decide
   · show ∀a∈S.Aj.filter _,_;rw[Cl];exact fun a AK=>absurd AK ABh
   · show H6 _ _ (S.Aj.filter _);rw[Cl];exact List.Pairwise.nil
   show ∀x∈S.AA,_;rw[F5];exact fun a AK=>absurd AK ABh
 rename_i el;obtain⟨Ua,Ub⟩:=within_iff.1 Kp;have Ad6:Ds S.A6 S.Bt.A6=true:=Pa.tZ _ _ Ua el;obtain⟨s1,s2,IK⟩:=Vm.1 (kT AH);obtain⟨t1,t2,t3⟩:=Vm.1 sp;have DY:∀k,within S.A6 S.Bc k=true->Ef S k=false->within S.A6 S.Bt.A6 k=true:=fun k a b=>by
  obtain⟨DP,EK⟩:=within_iff.1 a;refine within_iff.2 ⟨DP,.inr ?_⟩;rw[NM]at b;cases q:Ds k S.Bt.A6 with
  |true=>rfl
  |false=>rw[within_iff.2 ⟨q,EK⟩]at b;cases b
 refine⟨{h with own:=⟨fun q=>(by rw[show S.Du=false from q]at bb;cases bb),fun _=>⟨B4,Vm.2 ⟨t1,s1,.inr Ad6⟩⟩⟩,len:=ABB (ADR ..) h.len,acc:=?_,Ll:=AR4 _ h.Ll,wt:=?_,Hc:=.inl rfl,out:=.inr ⟨AH,BI,qi⟩},rfl,rfl⟩
 · intro a AK;obtain⟨AK,hs⟩:=ABZ.1 AK;exact⟨(h.acc a AK).1,(h.acc a AK).2.1,b6.2 ⟨bb,DY _ (pq a AK) (by simpa using hs)⟩⟩
 intro x Ab;obtain⟨a,b⟩:=qc x Ab;exact c2 (h.wt x Ab) (b6.2 ⟨bb,DY _ a b⟩) (Akv _ rfl)
theorem jP{S:Bv}{ix:Int}{a:AD}(Af:1<=ix)(h2:ix<=EW)(AK:Fw a)(w:D3 a):Fw (Jv S ix a)/\D3 (Jv S ix a)/\(Jv S ix a).Al=a.Al:=by
 unfold Jv;split
 · obtain⟨x,y,z⟩:=ig w AK Af h2;exact⟨y,z,by rw[x]⟩
 obtain⟨x,y,z⟩:=l8 w AK;exact⟨y,z,by rw[x]⟩
theorem fe{w:Ah}{x:JE}(h:Ce w.S):CE w (w.Iv x):=by
 unfold Ah.Iv;split
 · exact CE.refl h
 rename_i Af;have BI:(BF w.S.Aj x.Al).2=true:=by simpa using Af
 split
 · rename_i h2;obtain⟨m,k⟩:=Q2 BI;obtain⟨_,y,z⟩:=h.acc _ m;obtain⟨_,_,_,_,_,_,_,_,p,q,r⟩:=iv y h2;exact TL h q r (by rw[p];exact z) (.inl (by rw[p];show(BF w.S.Aj (BF w.S.Aj x.Al).1.Al).2=true;rw[k];exact BI))
 exact CE.refl h
theorem lg{w:Ah}(h:Ce w.S)(Af:1<=w.ix)(h2:w.ix<=EW):CE w w.rest/\∀a∈w.rest.S.Aj,FT a=false:=by
 unfold Ah.rest;simp only;obtain⟨DP,EK,FR⟩:=jc h;have CY:CE w {w with S:={LG w.S with Aj:=(LG w.S).Aj.map (Jv (LG w.S) w.ix)}}:=⟨DP.bE fun a AK=>jP Af h2 (DP.acc a AK).1 (DP.acc a AK).2.1,EK,FR,rfl,rfl⟩;have Dh:=CY.trans (Yd (fun u d hu=>fe (x:=d) hu) w.BQ CY.ws);generalize w.BQ.foldl Ah.Iv _=v at Dh;have hs:=Dh.ws;refine⟨⟨hs.mA (ABB (ADR ..) hs.len) (fun a AK=>hs.acc a (ABZ.1 AK).1) (AR4 _ hs.Ll) (fun e=>by rw[(hs.own.no e).2.2.1];rfl),Dh.g,Dh.i,Dh.x,Dh.n⟩,fun a AK=>?_⟩;have:=(ABZ.1 AK).2;simpa using this
structure VB (S:Bv):Prop where
 ac:∀a∈S.Aj,D3 a
 PZ:∀x∈S.AA,x.wf
 O8:∀m∈S.Bz,m.Cm.wf
theorem Ce.ints{S:Bv}(h:Ce S):VB S:=⟨fun a AK=>(h.acc a AK).2.1,h.ww,h.Me⟩
theorem w5{S:Bv}{c:Dg}{ix AGm:Int}(Ag:VB S)(Bm:c.wf)(h:(Gc S c ix AGm).2.2=0):
 LN S=true/\LN (Gc S c ix AGm).1=true/\VB (Gc S c ix AGm).1/\(Gc S c ix AGm).1.CZ=S.CZ/\(Gc S c ix AGm).1.DX=ix:=by
 unfold Gc at h ⊢;split at h
 · cases h
 rename_i Bh;rw[AA9 Bh];have Bh:LN S=true:=by simpa using Bh
 split at h
 · cases h
 rename_i Ao;rw[AA9 Ao];split at h
 · cases h
 rename_i Ab;rw[AA9 Ab];simp only[ABk,ABa,ABN]at Ao Ab;obtain⟨BO,_⟩:=(Zc Ag.ac Ag.PZ Ag.O8).1 Bh;have Fx:=BO.ix;obtain⟨Sp,HG⟩:=Fx;have Bw:Ce {S with DX:=ix}:={BO with ix:=⟨by show 0<=ix;omega,by show ix<=EW;omega⟩,own:=⟨BO.own.no,BO.own.yes⟩,acc:=BO.acc,wt:=BO.wt,Hc:=BO.Hc};have A1:=dO (w:={S:={S with DX:=ix},ix:=ix,AGm:=AGm,EF:=[],BQ:=[]}) (c:=c) Bw Bm (by show AGm<=5;omega);simp only;generalize ({S:={S with DX:=ix},ix:=ix,AGm:=AGm,EF:=[],BQ:=[]}:Ah).cmd c=w at A1;have AY:=gH w.S.AA.length A1.ws;generalize Ah.waits w.S.AA.length w=v at AY;have TB:v.ix=ix:=AY.x.trans A1.x;obtain⟨A9,Ba⟩:=lg AY.ws AMT AMT;refine⟨Bh,(Zc (A9.ws.ints).ac (A9.ws.ints).PZ (A9.ws.ints).O8).2 ⟨A9.ws,Ba⟩,A9.ws.ints,?_,?_⟩
 · rw[A9.g,AY.g,A1.g]
 rw[A9.i,AY.i,A1.i]
theorem w7{S:Bv}{c:Dg}{ix AGm:Int}(Bh:LN S=true)(Af:1<=AGm)(h2:AGm<=5)(Bo:S.DX<ix)(BB:ix<=EW):(Gc S c ix AGm).2.2=0:=by
 unfold Gc;rw[AA9 (by rw[Bh];decide),AA9 (by simp only[ABk,ABa];omega),AA9 (by simp only[ABk,ABa];omega)]
theorem tz{β GA:Type}[DecidableEq GA]{key:β->GA}{lt:GA->GA->Bool}(o:QL lt):∀{l m:List β},H6 key lt l->H6 key lt m->(∀x,x∈l↔x∈m)->l=m
 |[],[],_,_,_=>rfl
 |[],y::m,_,_,h=>absurd ((h y).2 (ABx ..)) ABh
 |x::l,[],_,_,h=>absurd ((h x).1 (ABx ..)) ABh
 |x::l,y::m,AN,hm,h=>by
  obtain⟨Om,Sl⟩:=ASd.1 AN;obtain⟨Kq,YQ⟩:=ASd.1 hm;have e:x=y:=by
   rcases ABf.1 ((h x).1 (ABx ..))with e|e
   · exact e
   rcases ABf.1 ((h y).2 (ABx ..))with IV|IV
   · exact IV.symm
   have:=o.mb _ _ _ (Om _ IV) (Kq _ e);rw[o.Si]at this;cases this
  subst e;rw[tz o Sl YQ fun z=>⟨fun Cu=>?_,fun Cu=>?_⟩]
  · rcases ABf.1 ((h z).1 (ABR _ Cu))with rfl|e
    · have:=Om _ Cu;rw[o.Si]at this;cases this
    exact e
  rcases ABf.1 ((h z).2 (ABR _ Cu))with rfl|e
  · have:=Kq _ Cu;rw[o.Si]at this;cases this
  exact e
theorem lX{β GA:Type}[DecidableEq GA]{key:β->GA}{lt:GA->GA->Bool}(o:QL lt):∀{l:List β},H6 key lt l->∀{a b:β},a∈l->b∈l->key a=key b->a=b
 |[],_,_,_,h,_,_=>absurd h ABh
 |x::l,AN,a,b,AK,Aq,e=>by
  obtain⟨Om,Sl⟩:=ASd.1 AN;rcases ABf.1 AK with X9|o7
  · rcases ABf.1 Aq with h1|HO
    · rw[X9,h1]
    have:=Om _ HO;rw[<-e,X9,o.Si]at this;cases this
  rcases ABf.1 Aq with h1|HO
  · have:=Om _ o7;rw[e,h1,o.Si]at this;cases this
  exact lX o Sl o7 HO e
theorem zO{l:List AD}(hs:H6 (·.Al) Ds l){a:AD}(AK:a∈l):(BF l a.Al).1=a:=by
 cases e:(BF l a.Al).2 with
 |true=>exact lX Pa hs (Q2 e).1 AK (Q2 e).2
 |false=>exact absurd rfl ((UH e).1 a AK)
theorem l'{a:AD}:(Io a).2=true↔E4 a=true/\G_ a=false/\a.A0=[]:=by
 unfold Io;split
 · rename_i h;simp only[ABk,ABe,ABa]at h;refine⟨fun q=>(by cases q),fun⟨x,y,z⟩=>?_⟩;rw[x,y,z]at h;simp at h
 rename_i h;simp only[ABk,ABe,ABa,ABN,AB_,ACH]at h;refine⟨fun _=>⟨h.1.1,h.1.2,ADd.1 AMT⟩,fun _=>rfl⟩
structure VK (S:Bv):Prop where
 Aij:KS S=none
 hand:Py S=false\/¬(IW (Gl S S.Bt.A6 S.Bt.Bc)).2=0
 Tx:∀ix,1<=ix->ix<=EW->S.Aj.map (Jv S ix)=S.Aj
 plain:∀a∈S.Aj,FT a=false
-- waits: the rounds are enough
theorem ot(w:Ah)(c q:Int)(a:De):(w.done c q a).S.AA=w.S.AA:=by
 unfold Ah.done;simp only;split<;>rfl
theorem Ajp(w:Ah)(c q n:Int)(k:ByteArray)(a:De):(w.served c q n k a).S.AA=w.S.AA:=by
 unfold Ah.served;simp only;split<;>exact ot ..
theorem sG(w:Ah)(c q:Int):(w.raise c q).S.AA=w.S.AA:=by
 unfold Ah.raise;split<;>rfl
theorem y6(w:Ah)(c q e:Int):(w.ends c q e).S.AA.length<=w.S.AA.length:=by
 unfold Ah.ends;simp only;rw[sG];refine ABB (ADR ..) ?_;show(w.done c q (HN e)).S.AA.length<=_;rw[ot];exact ABW _
theorem AjV(w:Ah)(o:FL):(H3 w o).1.S.AA=w.S.AA:=by
 unfold H3;simp only;repeat' split
 all_goals rfl
theorem AdY(w:Ah)(x:BX):(w.Lf x).S.AA.length<=w.S.AA.length:=by
 unfold Ah.Lf;split
 · exact ABW _
 simp only;generalize KA _ _=r;have BC:(if r.2=0 then w.put r.1 else w.tell 3 x.Ap x.As GS).S.AA=w.S.AA:=by split<;>rfl
 generalize (if r.2=0 then w.put r.1 else w.tell 3 x.Ap x.As GS)=v at BC;rw[<-BC];split
 · split
   · rw[sG];exact ABW _
   exact ABW _
 split
 · split<;>exact ABW _
 split
 · exact y6 ..
 exact ABW _
theorem uH{w:Ah}{i:Nat}(h:i<w.S.AA.length):(w.L6 i).S.AA.length<w.S.AA.length:=by
 have he:(w.S.AA.eraseIdx i).length<w.S.AA.length:=by rw[List.length_eraseIdx_of_lt h];omega
 unfold Ah.L6;simp only;split
 · rw[Ajp,AjV];exact he
 exact Nat.lt_of_le_of_lt (AdY ..) he
theorem lb{S:Bv}{i:Nat}(h:KS S=some i):i<S.AA.length:=Q4 h
theorem uK:∀(n:Nat) (w:Ah),w.S.AA.length<=n->KS (Ah.waits n w).S=none
 |0,w,h=>by
  rw[Ah.waits];cases e:KS w.S with
  |none=>rfl
  |some i=>exact absurd (lb e) AMT
 |n+1,w,h=>by
  rw[Ah.waits];cases e:KS w.S with
  |none=>exact e
  |some i=>exact uK n _ (by have:=uH (lb e);show((w.L6 i).S.AA).length<=n;omega)
-- what is lent
def Up(a b:AD):Prop:=a.Al=b.Al/\a.Cn=b.Cn/\a.BG=b.BG/\(a=b\/b.Cn=0/\a.A0≠[])
theorem q7(a:AD):Up a a:=⟨rfl,rfl,rfl,.inl rfl⟩
structure AIN (l m:List AD):Prop where
 to:∀a∈m,∃b∈l,Up a b
 of:∀b∈l,∃a∈m,Up a b
structure Acc (w v:Ah):Prop where
 s:v.S={w.S with Aj:=v.S.Aj}
 e:v.EF=w.EF
 l:v.BQ=w.BQ
theorem AhH{β GA:Type}[Inhabited β][DecidableEq GA]{key:β->GA}{lt:GA->GA->Bool}(x:β)(l:List β):FQ key lt x l≠[]:=by
 intro e;have h:=ABE List.length e;rw[FQ]at h;split at h
 · rename_i Ag;rw[G9,ABb,ABa]at Ag;rw[ABj,ABo]at h;omega
 rw[FO,ABP,List.length_cons,ABo]at h;omega
theorem Adt{l:List AD}{w:Ah}{x:JE}(h:Ce w.S)(g:AIN l w.S.Aj):AIN l (w.Iv x).S.Aj/\Acc w (w.Iv x):=by
 unfold Ah.Iv;split
 · exact⟨g,rfl,rfl,rfl⟩
 rename_i Af;have BI:(BF w.S.Aj x.Al).2=true:=by simpa using Af
 split
 · rename_i h2;obtain⟨m,k⟩:=Q2 BI;obtain⟨_,y,_⟩:=h.acc _ m;obtain⟨_,_,cg,_,_,_,_,_,p,_,_⟩:=iv y h2;refine⟨?_,rfl,rfl,rfl⟩;show AIN l (FQ (·.Al) Ds _ w.S.Aj);generalize (BF w.S.Aj x.Al).1=f at m k cg p;generalize Ano:(Kl f x.Bn w.ix w.AGm).1=Jq at p;have q1:Jq.Al=f.Al:=(by rw[p]);have q2:Jq.Cn=f.Cn:=(by rw[p]);have AhN:Jq.BG=f.BG:=(by rw[p]);have PM:Jq.A0≠[]:=(by rw[p];exact AhH _ _);have step:∀b,Up f b->Up Jq b:=fun b r=>⟨q1.trans r.1,q2.trans r.2.1,AhN.trans r.2.2.1,.inr ⟨by rw[<-r.2.1];exact cg,PM⟩⟩;refine⟨fun a AK=>?_,fun b Aq=>?_⟩
   · rcases(PJ Pa h.Ll).1 AK with e|⟨AK,_⟩
     · obtain⟨b,Aq,r⟩:=g.to f m;exact⟨b,Aq,by rw[e];exact step b r⟩
     exact g.to a AK
   obtain⟨a,AK,r⟩:=g.of b Aq;by_cases e:a.Al=Jq.Al
   · have:a=f:=lX Pa h.Ll AK m (e.trans q1);subst this;exact⟨Jq,(PJ Pa h.Ll).2 (.inl rfl),step b r⟩
   exact⟨a,(PJ Pa h.Ll).2 (.inr ⟨AK,e⟩),r⟩
 exact⟨g,rfl,rfl,rfl⟩
theorem q5{l:List AD}:∀(BQ:List JE) {w:Ah},Ce w.S->AIN l w.S.Aj->AIN l (BQ.foldl Ah.Iv w).S.Aj/\Acc w (BQ.foldl Ah.Iv w)
 |[],_,_,g=>⟨g,rfl,rfl,rfl⟩
 |x::r,w,h,g=>by
  obtain⟨a,b⟩:=Adt (x:=x) h g;obtain⟨c,d⟩:=q5 r (fe (x:=x) h).ws a;refine⟨c,?_,d.e.trans b.e,d.l.trans b.l⟩;have:=d.s;rw[b.s]at this;exact this
theorem Abp{S:Bv}:(LG S=S/\(Py S=false\/¬(IW (Gl S S.Bt.A6 S.Bt.Bc)).2=0))\/
 ((LG S).Bt=FP/\(LG S).AA=S.AA/\(LG S).Aj=S.Aj.filter (fun a=> !Ef S a.Al)):=by
 unfold LG;split
 · rename_i h;exact .inl ⟨rfl,.inl h⟩
 split
 · rename_i h;exact .inl ⟨rfl,.inr h⟩
 refine .inr ?_;simp only;split<;>exact⟨rfl,rfl,rfl⟩
theorem qh{S:Bv}{ix:Int}{a:AD}(Af:1<=ix)(h2:ix<=EW)(AK:Fw a)(w:D3 a):Jv S ix a={a with Cn:=if(SG S.AA a.Al||Ef S a.Al)=true then(if a.Cn=0 then ix else a.Cn)else 0}:=by
 unfold Jv;split
 · exact(ig w AK Af h2).1
 exact(l8 w AK).1
theorem tA{l:List AD}{f:AD->AD}(BI:∀a∈l,(f a).Al=a.Al)(h:H6 (·.Al) Ds l):H6 (·.Al) Ds (l.map f):=by
 unfold H6 at h ⊢;rw[List.pairwise_map];refine h.imp_of_mem fun{a b} AK Aq q=>?_;show Ds (f a).Al (f b).Al=true;rw[BI a AK,BI b Aq];exact q
theorem fB{a:AD}:FT a=true↔E4 a=true/\a.Cs=⟨0,0⟩/\a.BT=0/\a.A0=[]/\a.Cn=0/\G_ a=false:=by
 simp only[FT,ABb,ABe,ABa];constructor
 · rintro⟨⟨⟨⟨⟨a,b⟩,c⟩,d⟩,e⟩,f⟩;exact⟨a,b,c,ADd.1 AMT,e,f⟩
 rintro⟨a,b,c,d,e,f⟩;exact⟨⟨⟨⟨⟨a,b⟩,c⟩,by rw[d];rfl⟩,e⟩,f⟩
theorem AdZ{a b:AD}(h:a.BG=b.BG):G_ a=G_ b:=by unfold G_;rw[h]
theorem Aiv{w:Ah}(h:Ce w.S)(Af:1<=w.ix)(h2:w.ix<=EW)(Bh:KS w.S=none):VK w.rest.S:=by
 have AH:=(lg h Af h2).2;have Ri:=(lg h Af h2).1.ws;unfold Ah.rest at AH Ri ⊢;simp only at AH Ri ⊢;have Vv:=(jc h).1;have Bm:=Abp (S:=w.S);generalize AmZ:LG w.S=EB at AH Ri Vv Bm ⊢;have CY:Ce {EB with Aj:=EB.Aj.map (Jv EB w.ix)}:=Vv.bE fun a AK=>jP Af h2 (Vv.acc a AK).1 (Vv.acc a AK).2.1;obtain⟨Jt,ac⟩:=q5 (l:=EB.Aj.map (Jv EB w.ix)) w.BQ (w:={w with S:={EB with Aj:=EB.Aj.map (Jv EB w.ix)}}) CY ⟨fun a AK=>⟨a,AK,q7 a⟩,fun a AK=>⟨a,AK,q7 a⟩⟩;have uR:=(Yd (fun u d hu=>fe (x:=d) hu) w.BQ (w:={w with S:={EB with Aj:=EB.Aj.map (Jv EB w.ix)}}) CY).ws;generalize w.BQ.foldl Ah.Iv {w with S:={EB with Aj:=EB.Aj.map (Jv EB w.ix)}}=v at AH Ri Jt ac uR ⊢;have Kk:v.S={EB with Aj:=v.S.Aj}:=ac.s;generalize v.S.Aj=On at AH Ri Jt Kk ⊢;rw[Kk]at uR Ri ⊢;clear ac Kk;simp only at AH Ri ⊢
 -- what an account was
 have back:∀a∈On,∃c∈EB.Aj,Up a (Jv EB w.ix c):=fun a AK=>by
  obtain⟨b,Aq,r⟩:=Jt.to a AK;obtain⟨c,Bm,rfl⟩:=AB6.1 Aq;exact⟨c,Bm,r⟩
 have fwd:∀c∈EB.Aj,∃a∈On,Up a (Jv EB w.ix c):=fun c Bm=>Jt.of _ (AB6.2 ⟨c,Bm,rfl⟩);have Tx:∀c∈EB.Aj,Jv EB w.ix c={c with Cn:=if(SG EB.AA c.Al||Ef EB c.Al)=true then(if c.Cn=0 then w.ix else c.Cn)else 0}:=fun c Bm=>qh Af h2 (Vv.acc c Bm).1 (Vv.acc c Bm).2.1;have DY:∀a∈On,FT a=false->a∈On.filter (fun a=> !FT a):=fun a AK q=>ABZ.2 ⟨AK,by rw[q];rfl⟩;have Acr:EB.AA=w.S.AA:=by
  rcases Bm with⟨e,_⟩|⟨_,e,_⟩
  · rw[e]
  exact e
 refine⟨?_,?_,?_,AH⟩
 · -- nothing is ready
   unfold KS at Bh ⊢;simp only;rw[Acr];refine AEe.2 fun i Ag=>?_;have Bw:=AEe.1 Bh i Ag;have hm:=Hl (l:=w.S.AA) Ag;obtain⟨_,NP,Adc,ks,_⟩:=SF.1 (h.wt _ hm);generalize (w.S.AA.getD i default).AM.Al=k at Bw NP Adc ks ⊢;simp only[ABe,ACu]at Bw ⊢;refine Bw.imp id fun Bw=>?_;rw[<-ACH]at Bw ⊢;refine fun q=>Bw ?_;cases Fb:(BF w.S.Aj k).2 with
   |false=>
    obtain⟨z,y,x,_⟩:=YR NP;rw[(UH Fb).2,l'];exact⟨y.acc x,by rw[z];rfl,by rw[z];rfl⟩
   |true=>
    obtain⟨NS,AS⟩:=Q2 Fb;generalize (BF w.S.Aj k).1=c at NS AS ⊢;have Kq:c∈EB.Aj:=by
     rcases Bm with⟨e,_⟩|⟨_,_,e⟩
     · rw[e];exact NS
     rw[e];exact ABZ.2 ⟨NS,by rw[AS,ks];rfl⟩
    obtain⟨a,O8,FA⟩:=fwd c Kq;rw[Tx c Kq]at FA;have hold:a.A0=[]/\G_ a=false:=by
     cases pl:FT a with
     |true=>exact⟨(fB.1 pl).2.2.2.1,(fB.1 pl).2.2.2.2.2⟩
     |false=>
      have:=zO Ri.Ll (DY a O8 pl);have I2:a.Al=k:=FA.1.trans AS;rw[I2]at this;have q:=q;rw[this,l']at q;exact⟨q.2.2,q.2.1⟩
    rw[l'];refine⟨(h.acc c NS).1.acc (h.acc c NS).2.1,?_,?_⟩
    · rw[<-hold.2];exact(AdZ FA.2.2.1).symm
    rcases FA.2.2.2 with e|⟨_,e⟩
    · have:=ABE AD.A0 e;exact this.symm.trans hold.1
    exact absurd hold.1 e
 · -- nothing is to be handed on
   show Py {EB with Aj:=On.filter (fun a=> !FT a)}=false\/¬(IW (Gl {EB with Aj:=On.filter (fun a=> !FT a)} EB.Bt.A6 EB.Bt.Bc)).2=0;rcases Bm with⟨e,A7|A7⟩|⟨e,_,_⟩
   · refine .inl ?_;rw[<-e]at A7;simp only[Py,ABI,ABk,List.any_eq_true,ABb,ABe,ABa,ABl]at A7 ⊢;refine A7.imp id ?_;rintro⟨c,Oo,s_,AJ⟩;obtain⟨a,O8,FA⟩:=fwd c Oo;rw[Tx c Oo]at FA;have OT:(a.A0.length:Int)>0\/¬a.BG.Ap=0:=by
      refine AJ.imp (fun q=>?_) (fun q=>by rw[FA.2.2.1];exact q);rcases FA.2.2.2 with e|⟨_,e⟩
      · rw[e];exact q
      have:=List.length_pos_iff.2 e;omega
     have AbY:FT a=false:=by
      rw[<-ACH,fB];rintro⟨_,_,_,p,_,r⟩;rcases OT with q|q
      · rw[p]at q;exact absurd q ARp
      exact q (gy r)
     exact⟨a,DY a O8 AbY,by rw[show a.Al=c.Al from FA.1];exact s_,OT⟩
   · by_cases Cu:EB.Bt=FP
     · exact .inl (by simp[Py,Cu])
     refine .inr ?_;rw[<-e]at A7;have Yv:LK EB.Bt=true:=(Vv.Hc.resolve_left Cu).1;have HG:¬EB.Bt.Ev=0:=by
      simp only[LK,ABb,ABa]at Yv;omega
     have rd:∀c∈EB.Aj,within EB.Bt.A6 EB.Bt.Bc c.Al=true->∀a,Up a (Jv EB w.ix c)->a=Jv EB w.ix c/\¬a.Cn=0:=fun c Oo c5 a FA=>by
      have hs:Ef EB c.Al=true:=(by rw[Ef,ABM HG,c5];rfl);have Cu:¬(Jv EB w.ix c).Cn=0:=by
       rw[Tx c Oo,AA_ (by rw[hs,Bool.or_true])];show ¬(if c.Cn=0 then w.ix else c.Cn)=0;split<;>omega
      rcases FA.2.2.2 with q|⟨q,_⟩
      · exact⟨q,by rw[q];exact Cu⟩
      exact absurd q Cu
     have zd:((On.filter (fun a=> !FT a)).map fun a=>{a with Cn:=0}).filter (fun a=>within EB.Bt.A6 EB.Bt.Bc a.Al&& !FT a)=(EB.Aj.map fun a=>{a with Cn:=0}).filter (fun a=>within EB.Bt.A6 EB.Bt.Bc a.Al&& !FT a):=by
      refine tz (key:=fun a:AD=>a.Al) Pa (AR4 _ (tA (fun _ _=>rfl) Ri.Ll)) (AR4 _ (tA (fun _ _=>rfl) Vv.Ll)) fun x=>?_;constructor
      · intro Ab;obtain⟨Ab,W5⟩:=ABZ.1 Ab;obtain⟨a,AK,rfl⟩:=AB6.1 Ab;obtain⟨AK,_⟩:=ABZ.1 AK;obtain⟨c,Oo,FA⟩:=back a AK;have bu:a.Al=c.Al:=(by have:=FA.1;rw[Tx c Oo]at this;exact this);have c5:within EB.Bt.A6 EB.Bt.Bc c.Al=true:=(by rw[ABb]at W5;rw[<-bu];exact W5.1);have X9:=(rd c Oo c5 a FA).1;have h_:({a with Cn:=0}:AD)={c with Cn:=0}:=(by rw[X9,Tx c Oo]);refine ABZ.2 ⟨?_,W5⟩;rw[h_];exact AB6.2 ⟨c,Oo,rfl⟩
      intro Ab;obtain⟨Ab,W5⟩:=ABZ.1 Ab;obtain⟨c,Oo,rfl⟩:=AB6.1 Ab;obtain⟨a,O8,FA⟩:=fwd c Oo;have c5:within EB.Bt.A6 EB.Bt.Bc c.Al=true:=(by rw[ABb]at W5;exact W5.1);obtain⟨X9,Aej⟩:=rd c Oo c5 a FA;have h_:({a with Cn:=0}:AD)={c with Cn:=0}:=(by rw[X9,Tx c Oo]);refine ABZ.2 ⟨?_,W5⟩;rw[<-h_];refine AB6.2 ⟨a,DY a O8 ?_,rfl⟩;rw[<-ACH,fB];exact fun p=>Aej p.2.2.2.2.1
     have ON:Gl {EB with Aj:=On.filter (fun a=> !FT a)} EB.Bt.A6 EB.Bt.Bc=Gl EB EB.Bt.A6 EB.Bt.Bc:=by
      unfold Gl;simp only;rw[zd]
     rw[ON];exact A7
   exact .inl (by simp[Py,e])
 -- rounds stay
 intro ix i1 i2;show(On.filter fun a=> !FT a).map (Jv {EB with Aj:=On.filter (fun a=> !FT a)} ix)=_
 conv=>rhs;rw[<-List.map_id (On.filter fun a=> !FT a)]
 refine ART fun a AK=>?_;rw[qh i1 i2 (Ri.acc a AK).1 (Ri.acc a AK).2.1];obtain⟨c,Oo,FA⟩:=back a (ABZ.1 AK).1;rw[Tx c Oo]at FA;have bu:a.Al=c.Al:=FA.1;have rc:a.Cn=(if(SG EB.AA c.Al||Ef EB c.Al)=true then(if c.Cn=0 then w.ix else c.Cn)else 0):=FA.2.1;rw[show SG ({EB with Aj:=On.filter (fun a=> !FT a)}:Bv).AA a.Al=SG EB.AA c.Al by rw[bu],show Ef {EB with Aj:=On.filter (fun a=> !FT a)} a.Al=Ef EB c.Al by rw[bu];rfl];have:(if(SG EB.AA c.Al||Ef EB c.Al)=true then(if a.Cn=0 then ix else a.Cn)else 0)=a.Cn:=by
  split
  · rename_i q;rw[AA_ q]at rc;rw[AA9];rw[rc];split<;>omega
  rename_i q;rw[AA9 q]at rc;exact rc.symm
 rw[this];rfl
theorem VK.at{S:Bv}(h:VK S)(i:Int):VK {S with DX:=i}:=⟨h.Aij,h.hand,h.Tx,h.plain⟩
theorem Ak_{w:Ah}(h:KS w.S=none):∀n,Ah.waits n w=w
 |0=>rfl
 |n+1=>by rw[Ah.waits,h]
theorem w6{S:Bv}{c:Dg}{ix AGm:Int}(Ag:VB S)(Bm:c.wf)(h:(Gc S c ix AGm).2.2=0):VK (Gc S c ix AGm).1:=by
 unfold Gc at h ⊢;split at h
 · cases h
 rename_i Bh;rw[AA9 Bh];have Bh:LN S=true:=by simpa using Bh
 split at h
 · cases h
 rename_i Ao;rw[AA9 Ao];split at h
 · cases h
 rename_i Ab;rw[AA9 Ab];simp only[ABk,ABa,ABN]at Ao Ab;obtain⟨BO,_⟩:=(Zc Ag.ac Ag.PZ Ag.O8).1 Bh;have Fx:=BO.ix;obtain⟨Sp,HG⟩:=Fx;have Bw:Ce {S with DX:=ix}:={BO with ix:=⟨by show 0<=ix;omega,by show ix<=EW;omega⟩,own:=⟨BO.own.no,BO.own.yes⟩,acc:=BO.acc,wt:=BO.wt,Hc:=BO.Hc};have A1:=dO (w:={S:={S with DX:=ix},ix:=ix,AGm:=AGm,EF:=[],BQ:=[]}) (c:=c) Bw Bm (by show AGm<=5;omega);simp only;generalize ({S:={S with DX:=ix},ix:=ix,AGm:=AGm,EF:=[],BQ:=[]}:Ah).cmd c=w at A1;have AY:=gH w.S.AA.length A1.ws;have A9:=uK w.S.AA.length w (ABW _);generalize Ah.waits w.S.AA.length w=v at AY A9;have TB:v.ix=ix:=AY.x.trans A1.x;exact Aiv AY.ws AMT AMT A9
-- from a new state on
theorem Aj9{S:Bv}(h:Ce S){k:ByteArray}(AE:Ix k=true){l:F_}(AN:l.wf)(Ao:¬l.B2=0)(e:(KA (BF S.Aj k).1 l).2=0):(BF S.Aj k).2=true/\(KA (BF S.Aj k).1 l).1.Al=k:=by
 obtain⟨f1,f2,f3⟩:=V9 h AE;obtain⟨p,_,_,Qj,CY,Dh,q,s⟩:=gu f2 AN e;refine⟨?_,by rw[p];exact f3⟩;cases S_:(BF S.Aj k).2 with
 |true=>rfl
 |false=>
  exfalso;have Cu:(BF S.Aj k).1={Fj with Al:=k}:=(by rw[(UH S_).2];exact(YR AE).1);rw[Cu]at CY Dh;have CY:(0:Int)<=0+l.B2:=CY;have Dh:(0:Int)+l.B2<=0:=Dh;omega
structure ArZ (M:List BL) (P:List (Int×Int)) (E:List FE):Prop where
 mp:Fg M=true
 B4:∀e∈E,e.Ca=1->∃m∈M,m.Ap=e.Ap/\(e.As<m.As\/e.As=m.As/\m.HV=false/\(m.Cm=e.Cm\/m.Cm.Jd=80))
 DC:∀e∈E,∀f∈E,e.Ca=1->f.Ca=1->e.Ap=f.Ap->e.As=f.As->e.Cm=f.Cm
 Rn:∀p∈P,∃m∈M,m.Ap=p.1/\(p.2<m.As\/p.2=m.As/\(m.HV=true\/m.Cm.Jd=80))
 WY:∀p∈P,∀e∈E,e.Ca=1->¬(e.Ap=p.1/\e.As=p.2)
 AGm:P.Nodup
theorem Asa{M:List BL}(h:Fg M=true){a b:BL}(AK:a∈M)(Aq:b∈M)(e:a.Ap=b.Ap):a=b:=lX N1 (Rl.1 h).2 AK Aq e
theorem Ar8{M:List BL}(h:Fg M=true){x m:BL}:x∈LP M m↔x=m\/x∈M/\¬x.Ap=m.Ap:=PJ N1 (Rl.1 h).2
theorem ArZ.begin{M:List BL}{P:List (Int×Int)}{E:List FE}(h:ArZ M P E){c q:Int}(Aq:(IS M c q).2.2=0)(BI:(IS M c q).2.1=true):ArZ (IS M c q).1 ((c,q)::P) E:=by
 have hm:=nw Aq;unfold IS at Aq BI hm ⊢;split at Aq
 · cases Aq
 rename_i a;rw[AA9 a]at BI hm ⊢;split at Aq
 · cases Aq
 rename_i b;rw[AA9 b]at BI hm ⊢;split at Aq
 · cases Aq
 rename_i d;rw[AA9 d]at BI hm ⊢;split at BI
 · cases BI
 rename_i e;rw[AA9 e]at hm ⊢;clear Aq BI a b;have C_:∀m∈M,m.Ap=c->m.As<q:=fun m Qn Oo=>by
  have Bm:(FU M c).2=true/\(FU M c).1=m:=by
   have Ag:G9 (·.Ap) AGn c M=true:=(br N1 (Rl.1 h.mp).2 c).2 ⟨m,Qn,Oo⟩;obtain⟨x,y⟩:=ZX N1 (Rl.1 h.mp).2 Ag;have Fb:FU M c=(M.getD (Cz (·.Ap) AGn c M) default,true):=(by rw[FU,AA9 (by rw[h.mp];decide),AA9 (by rw[Ag];decide)]);rw[Fb];exact⟨rfl,Asa h.mp (Hl x) Qn (y.trans Oo.symm)⟩
  rw[Bm.1,Bm.2]at d e;simp only[Bool.true_and,ABa]at d e;omega
 generalize Ao:(⟨c,q,true,⟨0,0,0,0⟩⟩:BL)=n at hm ⊢;have HG:n.Ap=c:=by rw[<-Ao]
 have MF:n.As=q:=by rw[<-Ao]
 have rE:n.HV=true:=by rw[<-Ao]
 have up:∀m∈M,m.Ap=c->n∈LP M n:=fun _ _ _=>(Ar8 h.mp).2 (.inl rfl);refine⟨hm,fun e he k=>?_,h.DC,fun p AH=>?_,fun p AH e he k=>?_,?_⟩
 · obtain⟨m,Qn,Oo,B'⟩:=h.B4 e he k;by_cases z:m.Ap=c
   · have:=C_ m Qn z;exact⟨n,up m Qn z,by rw[HG,<-z];exact Oo,.inl (by rw[MF];rcases B' with B'|B'<;>omega)⟩
   exact⟨m,(Ar8 h.mp).2 (.inr ⟨Qn,by rw[HG];exact z⟩),Oo,B'⟩
 · rcases ABf.1 AH with rfl|AH
   · exact⟨n,(Ar8 h.mp).2 (.inl rfl),HG,.inr ⟨MF.symm,.inl rE⟩⟩
   obtain⟨m,Qn,Oo,B'⟩:=h.Rn p AH;by_cases z:m.Ap=c
   · have:=C_ m Qn z;exact⟨n,up m Qn z,by rw[HG,<-z];exact Oo,.inl (by rw[MF];rcases B' with B'|B'<;>omega)⟩
   exact⟨m,(Ar8 h.mp).2 (.inr ⟨Qn,by rw[HG];exact z⟩),Oo,B'⟩
 · rcases ABf.1 AH with rfl|AH
   · rintro⟨x,y⟩;obtain⟨m,Qn,Oo,B'⟩:=h.B4 e he k;have:=C_ m Qn (Oo.trans x);have y:e.As=q:=y;rcases B' with B'|B'<;>omega
   exact h.WY p AH e he k
 refine ADq.2 ⟨fun AH=>?_,h.AGm⟩;obtain⟨m,Qn,Oo,B'⟩:=h.Rn _ AH;have:=C_ m Qn Oo;have B':q<m.As\/q=m.As/\_:=B';rcases B' with B'|B'<;>omega
theorem As3{M:List BL}(h:Fg M=true){m:BL}(hm:m∈M):FU M m.Ap=(m,true):=by
 have Ag:G9 (·.Ap) AGn m.Ap M=true:=(br N1 (Rl.1 h).2 m.Ap).2 ⟨m,hm,rfl⟩;obtain⟨x,y⟩:=ZX N1 (Rl.1 h).2 Ag;rw[FU,AA9 (by rw[h];decide),AA9 (by rw[Ag];decide),Asa h (Hl x) hm y]
section
section
variable{E:List FE}
theorem AtI{d:Bx}{m i:Bool}:((TT d m i).2=true->d.C3=0/\¬(TT d m i).1.C3=0)/\((TT d m i).2=false->((TT d m i).1.C3=0↔d.C3=0))/\(TT d m i).1.Ap=d.Ap/\(TT d m i).1.As=d.As:=by
 by_cases Bm:(!decide (d.C3=0)|| !decide ((if m=true then d.DN else d.DO)=0))=true
 · rw[TT,AA_ Bm];exact⟨fun h=>(by cases h),fun _=>Iff.rfl,rfl,rfl⟩
 rw[TT,AA9 Bm];have Bw:d.C3=0:=by
  simp only[ABk,ABe,ABl,ABN,ACD]at Bm;exact Bm.1
 simp only;refine⟨fun q=>⟨Bw,by simpa using q⟩,fun q=>⟨fun _=>Bw,fun _=>by simpa using q⟩,?_,?_⟩<;>split<;>rfl
end
end
section
section
variable{E:List FE}
theorem Ata(S:Bv):(LG S).Bz=S.Bz/\(LG S).AA=S.AA/\(LG S).Bj=S.Bj:=by
 unfold LG;split
 · exact⟨rfl,rfl,rfl⟩
 split
 · exact⟨rfl,rfl,rfl⟩
 simp only;split<;>exact⟨rfl,rfl,rfl⟩
end
end
-- lists of deals
theorem AG4{l:List Bx}(h:l.Pairwise (fun a b=>¬fX a b)){d e:Bx}(AJ:d∈l)(he:e∈l)(hs:fX d e):d=e:=by
 obtain⟨i,Ag,rfl⟩:=AC8 AJ;obtain⟨j,Ay,rfl⟩:=AC8 he;rcases Nat.lt_trichotomy i j with q|q|q
 · exact absurd hs (ACW.1 h i j Ag Ay q)
 · subst q;rfl
 exact absurd ⟨hs.1.symm,hs.2.symm⟩ (ACW.1 h j i Ay Ag q)
theorem AI6{l:List Bx}(h:l.Pairwise (fun a b=>¬fX a b)){i:Nat}(Ag:i<l.length){d:Bx}(hs:fX d (l.getD i default)):(l.set i d).Pairwise (fun a b=>¬fX a b):=by
 refine ACW.2 fun a b AK Aq Abh=>?_;rw[ABj]at AK Aq;rw[G3 Ag]at hs;have:=ACW.1 h a b AK Aq Abh;rw[ADQ,ADQ];split
 · rename_i e;subst e;rw[AA9 AMT];exact fun q=>this ⟨hs.1.symm.trans q.1,hs.2.symm.trans q.2⟩
 split
 · rename_i e;subst e;exact fun q=>this ⟨q.1.trans hs.1,q.2.trans hs.2⟩
 exact this
theorem AHA{l:List Bx}(h:l.Pairwise (fun a b=>¬fX a b)){i:Nat}(Ag:i<l.length){d x:Bx}(hs:fX d (l.getD i default)):x∈l.set i d↔x=d\/x∈l/\¬fX x d:=by
 constructor
 · intro Ab;rcases List.mem_or_eq_of_mem_set Ab with q|q
   · by_cases e:fX x d
     · refine .inl (AG4 (AI6 h Ag hs) Ab (AR5.2 ⟨i,by rw[ABj];exact Ag,by rw[List.getElem_set_self]⟩) e)
     exact .inr ⟨q,e⟩
   exact .inl q
 rintro(rfl|⟨Ab,Ao⟩)
 · exact AR5.2 ⟨i,by rw[ABj];exact Ag,by rw[List.getElem_set_self]⟩
 obtain⟨j,Ay,rfl⟩:=AC8 Ab;refine AR5.2 ⟨j,by rw[ABj];exact Ay,?_⟩;rw[ADQ,AA9];intro e;subst e;rw[G3 Ag]at hs;exact Ao ⟨hs.1.symm,hs.2.symm⟩
theorem AMf{l:List Bx}(h:l.Pairwise (fun a b=>¬fX a b)){d:Bx}(AJ:d∈l):∃j,Kt l d.Ap d.As=some j/\j<l.length/\l.getD j default=d:=by
 cases e:Kt l d.Ap d.As with
 |none=>exact absurd ⟨rfl,rfl⟩ (Ahp.1 e d AJ)
 |some j=>
  obtain⟨a,b,_⟩:=kQ.1 e;exact⟨j,rfl,a,AG4 h (Hl a) AJ b⟩
theorem AIT{l:List Bx}(h:Is l=true):l.Pairwise (fun a b=>¬fX a b):=(UB.1 h).2.2
theorem AIV{l:List Bx}(h:Is l=true){d:Bx}(AJ:d∈l):findD l d.Ap d.As=d/\Tz l d.Ap d.As=true:=by
 obtain⟨j,e,Ay,AG5⟩:=AMf (AIT h) AJ;have q:(decide (HI (Kt l d.Ap d.As)<0)|| !decide (IA (Is l)=0))=false:=by
  rw[e,h,ABM (show ¬HI (some j)<0 by show ¬(j:Int)<0;omega)];rfl
 rw[findD,Tz,q,AA9 ARp,AA9 ARp,e];exact⟨AG5,rfl⟩
theorem ANP{l:List Bx}{c q:Int}(h:∀d∈l,¬YB c q d):findD l c q=AlT:=by
 rw[findD,Ahp.2 h];rfl
theorem AJ5{l:List Bx}(h:Is l=true){d:Bx}(AJ:d∈l):∃j:Nat,F1 l d.Ap d.As=((j:Int),0)/\j<l.length/\l.getD j default=d:=by
 obtain⟨j,e,Ay,AG5⟩:=AMf (AIT h) AJ;refine⟨j,?_,Ay,AG5⟩;rw[F1,AA9 (by rw[h];decide),e,AA9 (by show ¬(j:Int)<0;omega)];rfl
def AGB(l:List Bx)(c q:Int):Bool:=l.any fun d=>decide (d.Ap=c)&&decide (d.As=q)&&decide (d.C3=1)
theorem AHZ{l:List Bx}{c q:Int}:AGB l c q=true↔∃d∈l,YB c q d/\d.C3=1:=by
 unfold AGB YB;rw[List.any_eq_true];simp only[ABb,ABa]
theorem ALj{l:List Bx}(h:Is l=true)(c q:Int):AGB l c q=decide ((findD l c q).C3=1):=by
 rw[ACy,AHZ,ABa];constructor
 · rintro⟨d,AJ,⟨rfl,rfl⟩,BI⟩;rw[(AIV h AJ).1];exact BI
 intro BI;cases e:Kt l c q with
 |none=>
  rw[ANP (Ahp.1 e)]at BI;cases BI
 |some j=>
  obtain⟨a,b,_⟩:=kQ.1 e;obtain⟨rfl,rfl⟩:=b;rw[(AIV h (Hl a)).1]at BI;exact⟨_,Hl a,⟨rfl,rfl⟩,BI⟩
-- what counters have together
def AGH(S F:Bv)(h:Int):List Bx:=if h=S.CZ then S.Bj else if h=F.CZ then F.Bj else[]
def AGz(S F:Bv)(a:AD):Int:=a.BT+if(G_ a&&AGB (AGH S F a.BG.DH) a.BG.Ap a.BG.As)=true then a.BG.B2 else 0
def tZ(S F:Bv):Int:=(S.Aj.map (AGz S F)).sum+(F.Aj.map (AGz S F)).sum
theorem ANr{S F:Bv}(h:¬S.CZ=F.CZ):AGH S F=AGH F S:=by
 funext x;unfold AGH;by_cases a:x=S.CZ
 · rw[AA_ a,AA9 AMT,AA_ a]
 rw[AA9 a,AA9 a]
theorem AME{S F:Bv}(h:¬S.CZ=F.CZ):tZ S F=tZ F S:=by
 have e:AGz S F=AGz F S:=by
  funext a;unfold AGz;rw[ANr h]
 unfold tZ;rw[e];omega
theorem AMy{l:List AD}(h:H6 (·.Al) Ds l):l.Nodup:=by
 refine List.Pairwise.imp (fun{a b} q=>?_) h;rintro rfl;rw[Pa.Si]at q;cases q
theorem AHm{l:List AD}{g g':AD->Int}(h:∀y∈l,g' y=g y):(l.map g').sum=(l.map g).sum:=by rw[ART h]
theorem AKG{x:AD}{g g':AD->Int}{n:Int}(Af:g' x=g x+n):∀{l:List AD},l.Nodup->x∈l->(∀y∈l,¬y=x->g' y=g y)->(l.map g').sum=(l.map g).sum+n
 |[],_,Ab,_=>absurd Ab ABh
 |y::l,Ao,Ab,h2=>by
  obtain⟨HG,MF⟩:=ADq.1 Ao;rw[AB8,AB8,ADr,ADr];by_cases e:y=x
  · subst e;rw[Af,AHm (l:=l) (g:=g) (g':=g') fun z Cu=>h2 z (ABR _ Cu) fun q=>HG (q▸Cu)];omega
  rw[h2 y (ABx ..) e,AKG Af MF ((ABf.1 Ab).resolve_left fun q=>e q.symm) fun z Cu=>h2 z (ABR _ Cu)];omega
theorem AMh{l:List AD}(h:H6 (·.Al) Ds l){a:AD}(Ab:∃x∈l,x.Al=a.Al):FQ (·.Al) Ds a l=l.map fun y=>if y.Al=a.Al then a else y:=by
 have AE:∀y∈l,(if y.Al=a.Al then a else y).Al=y.Al:=fun y _=>by
  split
  · rename_i e;exact e.symm
  rfl
 refine tz Pa (W4 Pa h) (tA AE h) fun y=>?_;rw[PJ Pa h,AB6];constructor
 · rintro(rfl|⟨Bf,Ao⟩)
   · obtain⟨x,Ab,e⟩:=Ab;exact⟨x,Ab,AA_ e⟩
   exact⟨y,Bf,AA9 Ao⟩
 rintro⟨x,Ab,e⟩;split at e
 · exact .inl e.symm
 rename_i Ao;subst e;exact .inr ⟨Ab,Ao⟩
-- what is kept
def AHv(S:Bv)(k:ByteArray)(c q:Int):Prop:=∃a∈S.Aj,a.Al=k/\a.BG.Ap=c/\a.BG.As=q
structure AGp (S F:Bv):Prop where
 ne:¬S.CZ=F.CZ
 aE:¬S.CZ=0
 AG1:H6 (·.Al) Ds S.Aj
 ac:∀a∈S.Aj,a.A0=[]/\a.Cs=⟨0,20⟩
 AGs:S.Bj.Pairwise (fun a b=>¬fX a b)
 hH:∀d∈S.Bj,d.Ap=S.CZ
 AGO:∀d∈S.Bj,∃m∈S.Bz,m.Ap=S.CZ/\d.As<=m.As
 AN:∀a∈S.Aj,a.BG.Ap=S.CZ->a.BG.DH=S.CZ/\∃d∈S.Bj,d.As=a.BG.As/\d.Al=a.Al/\d.B2= -a.BG.B2/\d.DN=1/\d.C3=0
 RX:∀a∈S.Aj,¬a.BG.Ap=0->¬a.BG.Ap=S.CZ->a.BG.DH=F.CZ/\a.BG.Ap=F.CZ/\∃d∈F.Bj,d.As=a.BG.As/\d.EL=a.Al/\d.B2=a.BG.B2
 AGK:∀x∈S.AA,x.Ca=2/\∃a∈S.Aj,a.Al=x.AM.Al
 hw:∀x∈S.AA,x.Ap=S.CZ->x.DH=S.CZ/\∃d∈S.Bj,d.As=x.As/\d.Al=x.AM.Al/\d.B2= -x.AM.B2/\d.C3=0
 AG7:∀x∈S.AA,¬x.Ap=S.CZ->x.DH=F.CZ/\x.Ap=F.CZ/\((∃d∈F.Bj,d.As=x.As/\d.EL=x.AM.Al/\d.B2=x.AM.B2)\/fx S.CX x.Ap x.As=true)
 AGU:∀d∈S.Bj,(d.C3=0/\d.DO=1\/d.C3=1)->AHv F d.EL d.Ap d.As\/d.C3=1/\fx F.CX d.Ap d.As=true
 AG3:∀d∈S.Bj,d.C3=0->d.DN=1->AHv S d.Al d.Ap d.As
 AGR:∀d∈S.Bj,d.EL∈F.Aj.map (·.Al)
def AHf(d e:Bx):Prop:=e.Ap=d.Ap/\e.As=d.As/\e.Al=d.Al/\e.EL=d.EL/\e.B2=d.B2/\(¬d.DO=0->¬e.DO=0)/\(¬d.C3=0->e.C3=d.C3)
theorem AHf.refl(d:Bx):AHf d d:=⟨rfl,rfl,rfl,rfl,rfl,id,fun _=>rfl⟩
theorem AHf.trans{d e f:Bx}(h:AHf d e)(k:AHf e f):AHf d f:=by
 obtain⟨DP,EK,FR,Iz,Lv,KY,OH⟩:=h;obtain⟨CY,Dh,DQ,En,E',Hg,Jo⟩:=k;exact⟨CY.trans DP,Dh.trans EK,DQ.trans FR,En.trans Iz,E'.trans Lv,fun q=>Hg (KY q),fun q=>(Jo (by rw[OH q];exact q)).trans (OH q)⟩
structure AHw (S T F:Bv):Prop where
 g:T.CZ=S.CZ
 AGS:∀c q,fx S.CX c q=true->fx T.CX c q=true
 AIE:∀m∈S.Bz,∃n∈T.Bz,n.Ap=m.Ap/\m.As<=n.As
 dl:∀e∈T.Bj,(∃d∈S.Bj,AHf d e)\/(∀m∈S.Bz,m.Ap=S.CZ->m.As<e.As)/\e.B2<=9223372036854775807
 AJ7:∀d∈S.Bj,(∃e∈T.Bj,AHf d e)\/fx F.CX d.Ap d.As=true
 C1:∀c q,¬c=0->fx S.CX c q=true->∀a∈T.Aj,a.BG.Ap=c->a.BG.As=q->∃b∈S.Aj,b.BG.Ap=c/\b.BG.As=q
 ks:T.Aj.map (·.Al)=S.Aj.map (·.Al)
theorem AHw.refl(S F:Bv):AHw S S F:=⟨rfl,fun _ _ h=>h,fun m hm=>⟨m,hm,rfl,ADn _⟩,fun e he=>.inl ⟨e,he,.refl e⟩,fun d AJ=>.inl ⟨d,AJ,.refl d⟩,fun _ _ _ _ a AK x y=>⟨a,AK,x,y⟩,rfl⟩
theorem AHw.trans{S T hb F:Bv}(h:AHw S T F)(k:AHw T hb F):AHw S hb F:=by
 refine⟨k.g.trans h.g,fun c q a=>k.AGS c q (h.AGS c q a),fun m hm=>?_,fun e he=>?_,fun d AJ=>?_,fun c q GD p a AK x y=>?_,k.ks.trans h.ks⟩
 · obtain⟨n,Ao,HG,MF⟩:=h.AIE m hm;obtain⟨o,A7,o1,o2⟩:=k.AIE n Ao;exact⟨o,A7,o1.trans HG,AMT⟩
 · rcases k.dl e he with⟨d,AJ,s⟩|q
   · rcases h.dl d AJ with⟨b,Aq,t⟩|q
     · exact .inl ⟨b,Aq,t.trans s⟩
     exact .inr ⟨fun m hm Oo=>by rw[s.2.1];exact q.1 m hm Oo,by rw[s.2.2.2.2.1];exact q.2⟩
   refine .inr ⟨fun m hm Oo=>?_,q.2⟩;obtain⟨n,Ao,HG,MF⟩:=h.AIE m hm;have:=q.1 n Ao (by rw[HG,Oo,h.g]);omega
 · rcases h.AJ7 d AJ with⟨e,he,s⟩|q
   · rcases k.AJ7 e he with⟨f,BI,t⟩|q
     · exact .inl ⟨f,BI,s.trans t⟩
     rw[s.1,s.2.1]at q;exact .inr q
   exact .inr q
 obtain⟨b,Aq,CY,Dh⟩:=k.C1 c q GD (h.AGS c q p) a AK x y;exact h.C1 c q GD p b Aq CY Dh
structure AGI (S T F:Bv):Prop where
 Af:AGp T F
 h2:AGp F T
 t:tZ T F=tZ S F
 s:AHw S T F
theorem AGI.trans{S T hb F:Bv}(h:AGI S T F)(k:AGI T hb F):AGI S hb F:=⟨k.Af,k.h2,k.t.trans h.t,h.s.trans k.s⟩
theorem AGI.refl{S F:Bv}(Af:AGp S F)(h2:AGp F S):AGI S S F:=⟨Af,h2,rfl,.refl S F⟩
theorem AIc{S T F:Bv}(_:T.CZ=S.CZ){a b:AD}(Aq:b.BT=a.BT)(AN:b.BG=a.BG)(Bm:G_ a=true->AGB (AGH T F a.BG.DH) a.BG.Ap a.BG.As=AGB (AGH S F a.BG.DH) a.BG.Ap a.BG.As):AGz T F b=AGz S F a:=by
 unfold AGz;rw[show G_ b=G_ a by unfold G_;rw[AN],AN,Aq];cases e:G_ a with
 |false=>rfl
 |true=>rw[Bm e]
theorem AIe{S F:Bv}(h:AGp S F){a b:AD}(AK:a∈S.Aj)(Aq:b∈S.Aj)(e:a.Al=b.Al):a=b:=lX Pa h.AG1 AK Aq e
theorem soft{S T F:Bv}(h:AGp S F)(k:AGp F S)(CK:T.CZ=S.CZ)(AJ:T.Bj=S.Bj)(hm:∀m∈S.Bz,∃n∈T.Bz,n.Ap=m.Ap/\m.As<=n.As)(he:∀c q,fx S.CX c q=true->fx T.CX c q=true)
 (hw:∀x∈T.AA,x∈S.AA){f:AD->AD}(AK:T.Aj=S.Aj.map f)(BI:∀a∈S.Aj,(f a).Al=a.Al/\(f a).BT=a.BT/\(f a).BG=a.BG/\(f a).A0=a.A0/\(f a).Cs=a.Cs):AGI S T F:=by
 have Cl:∀a∈T.Aj,∃b∈S.Aj,a.Al=b.Al/\a.BG=b.BG/\a.A0=b.A0/\a.Cs=b.Cs:=fun a AIA=>by
  rw[AK]at AIA;obtain⟨b,Aq,rfl⟩:=AB6.1 AIA;obtain⟨x,_,y,z,u⟩:=BI b Aq;exact⟨b,Aq,x,y,z,u⟩
 have Ew:∀b∈S.Aj,∃a∈T.Aj,a.Al=b.Al/\a.BG=b.BG:=fun b Aq=>by
  obtain⟨x,_,y,_⟩:=BI b Aq;exact⟨f b,by rw[AK];exact AB6.2 ⟨b,Aq,rfl⟩,x,y⟩
 have Dv:∀k c q,AHv S k c q->AHv T k c q:=fun k c q ⟨b,Aq,x,y,z⟩=>by
  obtain⟨a,AK,u,v⟩:=Ew b Aq;exact⟨a,AK,u.trans x,by rw[v];exact y,by rw[v];exact z⟩
 have DK:AGH T F=AGH S F:=by
  funext x;unfold AGH;rw[CK,AJ]
 have AHr:T.Aj.map (·.Al)=S.Aj.map (·.Al):=by
  rw[AK,ARS];exact ART fun a q=>(BI a q).1
 refine⟨⟨by rw[CK];exact h.ne,by rw[CK];exact h.aE,by rw[AK];exact tA (fun a q=>(BI a q).1) h.AG1,fun a q=>?_,by rw[AJ];exact h.AGs,by rw[AJ,CK];exact h.hH,fun d q=>?_,fun a q c=>?_,fun a q c hB=>?_,fun x q=>?_,fun x q c=>?_,fun x q c=>?_,fun d q=>?_,fun d q x y=>?_,by rw[AJ];exact h.AGR⟩,⟨by rw[CK];exact k.ne,k.aE,k.AG1,k.ac,k.AGs,k.hH,k.AGO,k.AN,fun a q c hB=>?_,k.AGK,k.hw,fun x q c=>?_,fun d q e=>?_,k.AG3,by rw[AHr];exact k.AGR⟩,?_,⟨CK,he,hm,fun e q=>.inl ⟨e,by rw[AJ]at q;exact q,.refl e⟩,fun d q=>.inl ⟨d,by rw[AJ];exact q,.refl d⟩,fun c q _ _ a AIA x y=>?_,AHr⟩⟩
 · obtain⟨b,Aq,_,_,x,y⟩:=Cl a q;rw[x,y];exact h.ac b Aq
 · rw[AJ]at q;obtain⟨m,Anx,Kq,YQ⟩:=h.AGO d q;obtain⟨n,Ao,HG,MF⟩:=hm m Anx;exact⟨n,Ao,by rw[HG,Kq,CK],AMT⟩
 · obtain⟨b,Aq,x,y,_⟩:=Cl a q;rw[y,CK]at c;rw[x,y,CK,AJ];exact h.AN b Aq c
 · obtain⟨b,Aq,x,y,_⟩:=Cl a q;rw[y]at c;rw[y,CK]at hB;rw[x,y];exact h.RX b Aq c hB
 · obtain⟨SJ,b,Aq,Ug⟩:=h.AGK x (hw x q);obtain⟨a,AIA,u,_⟩:=Ew b Aq;exact⟨SJ,a,AIA,u.trans Ug⟩
 · rw[CK]at c;rw[CK,AJ];exact h.hw x (hw x q) c
 · rw[CK]at c;obtain⟨a,b,d⟩:=h.AG7 x (hw x q) c;exact⟨a,b,d.imp id (he _ _)⟩
 · rw[AJ]at q;exact h.AGU d q
 · rw[AJ]at q;exact Dv _ _ _ (h.AG3 d q x y)
 · rw[CK,AJ];exact k.RX a q c hB
 · rw[CK,AJ];exact k.AG7 x q c
 · exact(k.AGU d q e).imp (Dv _ _ _) (And.imp id (he _ _))
 · unfold tZ;rw[AK,ARS];congr 1
   · exact AHm fun a q=>by
      obtain⟨_,x,y,_⟩:=BI a q;exact AIc CK x y fun _=>by rw[DK]
   exact AHm fun a q=>AIc CK rfl rfl fun _=>by rw[DK]
 obtain⟨b,Aq,_,z,_⟩:=Cl a AIA;rw[z]at x y;exact⟨b,Aq,x,y⟩
end Go.Apw
