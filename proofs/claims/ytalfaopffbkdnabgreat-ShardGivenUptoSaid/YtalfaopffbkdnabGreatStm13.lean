/- Part 13 of shardGiven_holds. -/
import Derived.Test.YtalfaopffbkdnabGreatStm12

set_option maxRecDepth 20000
set_option maxHeartbeats 1000000
open List renaming any_eq_true→ADZ,append_assoc→ACN,append_nil→AB7,cons_append→ABU,filter_cons→AJH,filter_eq_self→AEd,find?_range_eq_none→AEe,foldl_cons→ACO,foldl_nil→AJS,length_append→ABP,length_drop→ACt,length_filter_le→ADR,length_nil→ABo,map_append→ADF,mem_filter→ABZ,nil_append→ABK,pairwise_cons→AJN,pairwise_singleton→AJT
open List.Pairwise renaming filter→AJL
open Go.A_
namespace Go.Apw
theorem fm:∀(k i v v0:Nat) (r:List UInt8),(GN v).length=k->i<=9->v*2^(7*i)<2^64->(i=0\/0<v)->HH i v0 (GN v++r)=(v0+v*2^(7*i),i+k,0)
 |0,i,v,v0,r,AE,_,_,_=>by
  exfalso;by_cases h:v<128
  ·
   rw[ec h]at AE;simp at AE
  ·
   rw[eb AJv]at AE;simp at AE
 |k+1,i,v,v0,r,AE,Ag,BC,Bw=>by
  by_cases h:v<128
  ·
   rw[ec h]at AE ⊢;have AE:k=0:=(by simpa using AE.symm);subst AE;have Bm:(UInt8.ofNat v).toNat=v:=toNat_ofNat AJv;have EO:i=9->v<=1:=by
    rintro rfl;simp only[Nat.reduceMul,Nat.reducePow]at BC;omega
   simp only[ABU,ABK,HH,Bm];rw[AA9 AJv,AA9 AJv,AA9 AJv,Nat.mod_eq_of_lt h]
  ·
   have Aq:128<=v:=AJv;rw[eb Aq]at AE ⊢;have AE:(GN (v / 128)).length=k:=(by simpa using AE);have Bm:(UInt8.ofNat (v % 128+128)).toNat=v % 128+128:=toNat_ofNat AJv;have EO:i≠9:=by
    rintro rfl;simp only[Nat.reduceMul,Nat.reducePow]at BC;omega
   have e:2^(7*(i+1))=128*2^(7*i):=(by rw[Nat.mul_add,Nat.pow_add,Nat.mul_comm]);have jK:v / 128*2^(7*(i+1))+v % 128*2^(7*i)=v*2^(7*i):=by
    rw[e,<-Nat.mul_assoc,<-Nat.add_mul];congr 1;omega
   simp only[ABU,HH,Bm];rw[AA9 AJv,AA_ AJv,show(v % 128+128) % 128=v % 128 by omega];rw[fm k (i+1) (v / 128) _ r AE AJv AJv (.inr AJv)];rw[ADs v0,Nat.add_comm (v % 128*2^(7*i)),jK];congr 2;omega
def MX(J:List UInt8)(s:Bb)(r:List UInt8):Prop:=s.fault=0/\s.pos<=J.length/\J.drop s.pos=r
theorem MX.next{α:Type}{J:List UInt8}{s:Bb}{a r:List UInt8}(h:MX J s (a++r)){d x:α}{f:List UInt8->α×Nat×Nat}(BI:f (a++r)=(x,a.length,0)):
  ∃DR,Lj J d f s=(x,DR)/\MX J DR r:=by
 obtain⟨Af,h2,Bo⟩:=h;have AN:a.length+r.length+s.pos=J.length:=by
  have:=ABE List.length Bo;simp only[ACt,ABP]at this;omega
 refine⟨⟨s.pos+a.length,s.fault⟩,?_,Af,by show s.pos+a.length<=_;omega,?_⟩
 ·
  simp only[Lj,Bo,BI,Bb.val,Bb.step];rw[AA9 AJv,AA9 AJv,AA9 AJv,AA9 AJv]
 ·
  show J.drop (s.pos+a.length)=r;rw[<-List.drop_drop,Bo,List.drop_left]
theorem Ah'{J:List UInt8}{s:Bb}{v:Nat}{r:List UInt8}(BC:v<2^64)(h:MX J s (GN v++r)):∃DR,rdNum J s=(v,DR)/\MX J DR r:=
 h.next (by rw[fm _ 0 v 0 r rfl AJx (by simpa using BC) (.inl rfl)];simp)
theorem Ah7{J:List UInt8}{s:Bb}{x:Int}{r:List UInt8}(Ab:A' x)(h:MX J s (QZ x++r)):∃DR,D6 J s=(x,DR)/\MX J DR r:=by
 obtain⟨DR,Af,h2⟩:=Ah' (AlY Ab) h;exact⟨DR,by simp only[D6,Af,AlS],h2⟩
theorem Ah2{J:List UInt8}{m:Int}{s:Bb}{v:Nat}{r:List UInt8}(Bw:(v:Int)<=m)(BC:v<2^64)(h:MX J s (GN v++r)):∃DR,DT J m s=(v,DR)/\MX J DR r:=
 h.next (by
  have e:=fm _ 0 v 0 r rfl AJx (by simpa using BC) (.inl rfl);rw[S7 e,AA9 (by simp;omega),AA9 (by simp)];simp)
theorem Aie{J:List UInt8}{m:Int}{s:Bb}{b r:List UInt8}(Bw:(b.length:Int)<=m)(Aq:b.length<2^64)(h:MX J s (RS b++r)):∃DR,Gm J m s=(b,DR)/\MX J DR r:=
 h.next (by
  have e:=fm _ 0 b.length 0 (b++r) rfl AJx (by simpa using Aq) (.inl rfl);simp only[AB0,Nat.mul_zero,Nat.pow_zero,Nat.mul_one]at e;have B4:L9 (RS b++r) m=(b.length,(GN b.length).length,0):=by
   unfold RS;rw[ACN,S7 e,AA9 AJv,AA9 AJv]
  rw[l7 B4,AA9 AJv,AA9 (by unfold RS;simp only[List.length_append];omega)];unfold RS;rw[ACN,List.drop_left,List.take_left,ABP])
theorem Ah4{J:List UInt8}{s:Bb}{b:Bool}{r:List UInt8}(h:MX J s ([if b=true then 1 else 0]++r)):∃DR,Kw J s=(b,DR)/\MX J DR r:=
 h.next (by cases b<;>rfl)
def HU{α:Type}(W:Cc->Cc)(rd:List UInt8->Bb->α×Bb)(x:α):Prop:=
 ∀w,(W w).E6=false->w.E6=false/\(w.out.length<=65536->(W w).out.length<=65536)/\∃e,(W w).out=w.out++e/\∀J s r,MX J s (e++r)->∃DR,rd J s=(x,DR)/\MX J DR r
theorem fG{α:Type}{b:List UInt8}{rd:List UInt8->Bb->α×Bb}{x:α}(h:∀J s r,MX J s (b++r)->∃DR,rd J s=(x,DR)/\MX J DR r):HU (H4 b) rd x:=by
 intro w AN;unfold H4 at AN ⊢;split at AN
 ·
  cases AN
 ·
  rename_i Ao;rw[AA9 Ao];simp only[ABk,ABN,ABa,ACH]at Ao;exact⟨Ao.1,fun _=>by show(w.out++b).length<=_;rw[ABP];omega,b,G,h⟩
theorem tF{α:Type}{W:Cc->Cc}{rd:List UInt8->Bb->α×Bb}{x:α}(h:HU W rd x):HU (fun w=>if w.E6=true then w else W w) rd x:=by
 intro w AN;simp only at AN ⊢;split at AN
 ·
  rename_i e;rw[e]at AN;cases AN
 ·
  rename_i e;rw[AA9 e];exact h w AN
theorem F7{v:Int}(h:A' v):HU (E2 v) D6 v:=tF (fG fun _ _ _ hs=>Ah7 h hs)
theorem oZ{b:Bool}:HU (Gy b) Kw b:=tF (fG fun _ _ _ hs=>Ah4 hs)
theorem nL{b:List UInt8}:HU (KT b) (fun J=>Gm J 65535) b:=by
 intro w AN;unfold KT at AN ⊢;split at AN
 ·
  rename_i e;rw[e]at AN;cases AN
 ·
  rename_i e;split at AN
  ·
   cases AN
  ·
   rename_i Aq;rw[AA9 e,AA9 Aq];exact fG (fun _ _ _ hs=>Aie AJv AJv hs) w AN
def c1(s:ByteArray)(w:Cc):Cc:=if s.size>65535 then{w with E6:=true}else KT s.data.toList w
theorem T3{s:ByteArray}:HU (c1 s) (fun J=>Gm J 65535) s.data.toList:=by
 intro w AN;unfold c1 at AN ⊢;split at AN
 ·
  cases AN
 ·
  rename_i e;rw[AA9 e];exact nL w AN
def Jz(l:List (Cc->Cc))(w:Cc):Cc:=l.foldl (fun w f=>f w) w
theorem Qy{β:Type}{y z:β}(h:z=y):HU (Jz []) (fun _ s=>(z,s)) y:=by
 intro w AN;subst h;exact⟨AN,fun h=>h,[],(AB7 _).symm,fun _ s _ hs=>⟨s,G,hs⟩⟩
theorem D'{α β:Type}{W:Cc->Cc}{l:List (Cc->Cc)}{rd:List UInt8->Bb->α×Bb}{x:α}{k:α->List UInt8->Bb->β×Bb}{y:β}(h:HU W rd x)(g:HU (Jz l) (k x) y):HU (Jz (W::l)) (fun J s=>Di (rd J s) fun a t=>k a J t) y:=by
 intro w AN;obtain⟨Hj,G1,DC,Jt,NI⟩:=g (W w) AN;obtain⟨Af,h2,B4,Bo,BB⟩:=h w Hj;refine⟨Af,fun q=>G1 (h2 q),B4++DC,by show(Jz l (W w)).out=_;rw[Jt,Bo,ACN],fun J s r hs=>?_⟩;rw[ACN]at hs;obtain⟨s1,NY,hs⟩:=BB J s _ hs;obtain⟨s2,MK,hs⟩:=NI J s1 _ hs;exact⟨s2,by simp only[Di,NY,MK],hs⟩
theorem T4{α:Type}{s:ByteArray}{r:List ByteArray}{l:List (Cc->Cc)}{rd:List UInt8->Bb->α×Bb}{x:α}(h:HU (Jz (c1 s::KD r::l)) rd x):HU (Jz (KD (s::r)::l)) rd x:=by
 intro w AN;have e:Jz (KD (s::r)::l) w=Jz l (if s.size>65535 then{w with E6:=true}else KD r (KT s.data.toList w)):=by
  show Jz l (KD (s::r) w)=_;rw[KD]
 have IV:Jz (c1 s::KD r::l) w=Jz l (KD r (if s.size>65535 then{w with E6:=true}else KT s.data.toList w)):=rfl;have Dv:∀(r:List ByteArray) (w:Cc),w.E6=true->KD r w=w:=by
  intro r;induction r with
  |nil=>intro w _;rfl
  |cons a r Cg=>
   intro w hw;rw[KD];split
   ·
    cases w;simp only at hw;subst hw;rfl
   ·
    rw[show KT a.data.toList w=w by rw[KT,AA_ hw]];exact Cg w hw
 have DC:Jz (KD (s::r)::l) w=Jz (c1 s::KD r::l) w:=by
  rw[e,IV];split
  ·
   rw[Dv r {w with E6:=true} rfl]
  · rfl
 rw[DC]at AN ⊢;exact h w AN
theorem cM{α:Type}{l:List (Cc->Cc)}{rd:List UInt8->Bb->α×Bb}{x:α}(h:HU (Jz l) rd x):HU (Jz (KD []::l)) rd x:=h
theorem rm{α:Type}{one:α->Cc->Cc}{rd:List UInt8->Bb->α×Bb}:∀{l:List α},(∀x∈l,HU (one x) rd x)->HU (MS one l) (fun J=>GI (rd J) l.length) l
 |[],_=>fun w AN=>⟨AN,fun h=>h,[],(AB7 _).symm,fun _ s _ hs=>⟨s,rfl,hs⟩⟩
 |x::r,h=>by
  intro w AN;unfold MS at AN ⊢;split at AN
  ·
   rename_i e;rw[e]at AN;cases AN
  ·
   rename_i e;rw[AA9 e];obtain⟨Hj,G1,DC,Jt,NI⟩:=rm (fun y Bf=>h y (ABR _ Bf)) (one x w) AN;obtain⟨Af,h2,B4,Bo,BB⟩:=h x (ABx ..) w Hj;refine⟨Af,fun q=>G1 (h2 q),B4++DC,by rw[Jt,Bo,ACN],fun J s fI hs=>?_⟩;rw[ACN]at hs;obtain⟨s1,NY,jD⟩:=BB J s _ hs;obtain⟨s2,MK,jE⟩:=NI J s1 _ jD;refine⟨s2,?_,jE⟩;show GI (rd J) (r.length+1) s=_;have MK:GI (rd J) r.length s1=(r,s2):=MK;simp only[sJ hs.1,NY,MK]
theorem YL{α:Type}{one:α->Cc->Cc}{rd:List UInt8->Bb->α×Bb}{l:List α}(h:∀x∈l,HU (one x) rd x):HU (CH one l) (fun J=>CS J (rd J)) l:=by
 intro w AN;unfold CH at AN ⊢;split at AN
 ·
  rename_i e;rw[e]at AN;cases AN
 ·
  rename_i e;split at AN
  ·
   cases AN
  ·
   rename_i Aq;rw[AA9 e,AA9 Aq];obtain⟨Hj,G1,DC,Jt,NI⟩:=rm h _ AN;obtain⟨Af,h2,B4,Bo,BB⟩:=fG (rd:=fun J=>DT J 1024) (x:=l.length) (fun _ _ _ hs=>Ah2 AJv AJv hs) w Hj;refine⟨Af,fun q=>G1 (h2 q),B4++DC,by rw[Jt,Bo,ACN],fun J s fI hs=>?_⟩;rw[ACN]at hs;obtain⟨s1,NY,jD⟩:=BB J s _ hs;obtain⟨s2,MK,jE⟩:=NI J s1 _ jD;refine⟨s2,?_,jE⟩;have NY:DT J 1024 s=(l.length,s1):=NY;have MK:GI (rd J) l.length s1=(l,s2):=MK;simp only[CS,NY,MK]
-- each kind of thing
theorem Z1(s:ByteArray):(⟨s.data.toList.toArray⟩:ByteArray)=s:=by cases s;rfl
theorem Afw{o:FL}(h:o.wf):HU (Zv o) Wc o:=by
 obtain⟨Af,_,_,BB,C',F4⟩:=h;exact D' (l:=[KD [o.Al,o.EL],E2 o.B2,E2 o.A6,E2 o.Bc]) (F7 Af) (T4 (D' T3 (T4 (D' T3 (cM (D' (F7 BB) (D' (F7 C') (D' (F7 F4) (Qy (by simp only[Z1]))))))))))
theorem si{o:Fs}(h:o.wf):HU (Lq o) L_ o:=by
 obtain⟨Af,h2,Bo,_,_,BB,C'⟩:=h;exact D' (l:=[E2 o.Hi,E2 o.IX,KD [o.A6,o.Bc],E2 o.Ap,E2 o.As]) (F7 Af) (D' (F7 h2) (D' (F7 Bo) (T4 (D' T3 (T4 (D' T3 (cM (D' (F7 BB) (D' (F7 C') (Qy (by simp only[Z1])))))))))))
theorem Ab3{o:BD}(h:o.wf):HU (PY o) Iu o:=by
 obtain⟨Af,h2,Bo,BB⟩:=h;exact D' (l:=[E2 o.G0,E2 o.DV,E2 o.Fc]) (F7 Af) (D' (F7 h2) (D' (F7 Bo) (D' (F7 BB) (Qy G))))
theorem yZ{o:Df}(h:o.wf):HU (Mq o) HF o:=by
 obtain⟨Af,h2⟩:=h;exact D' (l:=[E2 o.As]) (F7 Af) (D' (F7 h2) (Qy G))
theorem w3{o:De}(h:o.wf){α:Type}{l:List (Cc->Cc)}{k:De->List UInt8->Bb->α×Bb}{y:α}(g:HU (Jz l) (k o) y):
  HU (Jz (KU [o.Jd]::KU [o.JM,o.JJ,o.JK]::l)) (fun J s=>Di (UL J s) fun a t=>k a J t) y:=by
 obtain⟨Af,h2,Bo,BB⟩:=h;have q:HU (Jz [E2 o.Jd,E2 o.JM,E2 o.JJ,E2 o.JK]) UL o:=D' (F7 Af) (D' (F7 h2) (D' (F7 Bo) (D' (F7 BB) (Qy rfl))));exact D' (W:=Jz [E2 o.Jd,E2 o.JM,E2 o.JJ,E2 o.JK]) (l:=l) q g
theorem Aea{o:BL}(h:o.wf):HU (Kc o) GG o:=by
 obtain⟨Af,h2,_,Bo⟩:=h;exact D' (l:=[E2 o.As,Gy o.HV,KU [o.Cm.Jd],KU [o.Cm.JM,o.Cm.JJ,o.Cm.JK]]) (F7 Af) (D' (F7 h2) (D' oZ (w3 Bo (Qy G))))
theorem Ak4{o:BX}(h:o.wf):HU (KV o) GX o:=by
 obtain⟨Af,h2,Bo,BB,C',F4⟩:=h;exact D' (l:=[E2 o.Ap,E2 o.As,E2 o.Bn,E2 o.DH,Zv o.AM]) (F7 Af) (D' (F7 h2) (D' (F7 Bo) (D' (F7 BB) (D' (F7 C') (D' (Afw F4) (Qy G))))))
theorem yu{o:Bx}(h:o.wf):HU (LO o) Hk o:=by
 obtain⟨Af,h2,_,_,Bo,BB,C',F4⟩:=h;exact D' (l:=[E2 o.As,KD [o.Al,o.EL],E2 o.B2,E2 o.DN,E2 o.DO,E2 o.C3]) (F7 Af) (D' (F7 h2) (T4 (D' T3 (T4 (D' T3 (cM (D' (F7 Bo) (D' (F7 BB) (D' (F7 C') (D' (F7 F4) (Qy (by simp only[Z1]))))))))))))
theorem wM{o:AD}(h:o.wf)(hh:∀x∈o.A0,x.wf):HU (I_ o) F2 o:=by
 obtain⟨_,⟨s1,s2⟩,Af,h2,_,⟨Om,Sl,On,qX⟩⟩:=h;have AhU:HU (Jz [E2 o.Cs.A6,E2 o.Cs.Bc]) UO o.Cs:=D' (F7 s1) (D' (F7 s2) (Qy rfl));have AhT:HU (Jz [E2 o.BG.Ap,E2 o.BG.As,E2 o.BG.DH,E2 o.BG.B2]) UM o.BG:=D' (F7 Om) (D' (F7 Sl) (D' (F7 On) (D' (F7 qX) (Qy rfl))));have e:I_ o=Jz [KD [o.Al],Jz [E2 o.Cs.A6,E2 o.Cs.Bc],E2 o.BT,E2 o.Cn,CH PY o.A0,Jz [E2 o.BG.Ap,E2 o.BG.As,E2 o.BG.DH,E2 o.BG.B2]]:=by
  funext w;simp only[I_,KU,Jz,ACO,AJS]
 rw[e];exact T4 (D' T3 (cM (D' AhU (D' (F7 Af) (D' (F7 h2) (D' (YL fun x Ab=>Ab3 (hh x Ab)) (D' AhT (Qy (by simp only[Z1])))))))))
structure hc (S:Bv):Prop where
 wf:S.wf
 ac:∀x∈S.Aj,x.wf/\∀y∈x.A0,y.wf
 O8:∀x∈S.Bz,x.wf
 PZ:∀x∈S.AA,x.wf
 yr:∀x∈S.Bj,x.wf
 h4:∀x∈S.CX,x.wf
theorem AjO{S:Bv}(h:hc S):HU (N7 S) FC S:=by
 obtain⟨Af,h2,_,_,_,F4,_,_,_,_,_,EM,Dp,_,Ft,CR,DA⟩:=h.wf;have e:N7 S=Jz [E2 S.CZ,E2 S.DX,Gy S.Du,KD [S.A6,S.Bc],E2 S.Dn,CH I_ S.Aj,CH Kc S.Bz,CH KV S.AA,CH LO S.Bj,CH Mq S.CX,Lq S.Bt,Lq S.CW,KT S.Cf,E2 S.Jc,E2 S.JL,E2 S.GW]:=by
  funext w;simp only[N7,KU,Jz,ACO,AJS]
 rw[e];refine D' (F7 Af) (D' (F7 h2) (D' oZ (T4 (D' T3 (T4 (D' T3 (cM (D' (F7 F4) (D' (YL fun x Ab=>wM (h.ac x Ab).1 (h.ac x Ab).2) ?_)))))))));refine D' (YL fun x Ab=>Aea (h.O8 x Ab)) (D' (YL fun x Ab=>Ak4 (h.PZ x Ab)) (D' (YL fun x Ab=>yu (h.yr x Ab)) (D' (YL fun x Ab=>yZ (h.h4 x Ab)) ?_)));exact D' (si EM) (D' (si Dp) (D' nL (D' (F7 Ft) (D' (F7 CR) (D' (F7 DA) (Qy (by simp only[Z1])))))))
theorem back{S:Bv}(h:hc S)(he:(IW S).2=0):Er (IW S).1=(S,0):=by
 unfold IW at he ⊢;split at he
 ·
  cases he
 ·
  rename_i AN;rw[AA9 AN];obtain⟨_,h2,e,Bo,BB⟩:=AjO h ⟨[],false⟩ (by simpa using AN);have h2:=h2 (ABg _);simp only[ABK]at Bo;obtain⟨DR,r,hs,AH,AJ⟩:=BB (N7 S ⟨[],false⟩).out ⟨0,0⟩ [] ⟨rfl,ABg _,by rw[Bo];simp⟩;have La:¬DR.pos<(N7 S ⟨[],false⟩).out.length:=by
   have:=ABE List.length AJ;simp only[ACt,ABo]at this;omega
  have Fb:NF (N7 S ⟨[],false⟩).out=0:=by
   rw[oM AJv,r];simp only[Q0];rw[AA9 (fun x=>La x.2),hs];rfl
  rw[fN Fb,gn AJv,r]
theorem Aed{m:BL}(Bw:0<m.Ap)(h:dq m)(hw:m.Cm.wf):m.wf:=by
 have Af:=h.hH;have h2:=h.L3;have Bo:=h.Ey;have BI:EW=4611686018427387904:=rfl;exact⟨⟨AJv,AJv⟩,⟨AJv,AJv⟩,trivial,hw⟩
theorem Aee{l:List BL}(h:Fg l=true)(hw:∀m∈l,m.Cm.wf):∀m∈l,m.wf:=fun m hm=>Aed ((Rl.1 h).1 m hm).1 ((Rl.1 h).1 m hm).2 (hw m hm)
theorem y7{l:List Df}(h:HE l=true):∀e∈l,e.wf:=fun e he=>by
 have:=((au.1 h).1 e he).2;simp only[Jj,ABb,ABa]at this;have BI:EW=4611686018427387904:=rfl;exact⟨⟨AJv,AJv⟩,⟨AJv,AJv⟩⟩
theorem Ad5(b:List BL):∀{l:List BL},Fg l=true->(∀m∈l,m.Cm.wf)->Fg (b.foldl (fun l m=>if(G' l m.Ap m.As).2=0 then(G' l m.Ap m.As).1 else l) l)=true/\∀m∈b.foldl (fun l m=>if(G' l m.Ap m.As).2=0 then(G' l m.Ap m.As).1 else l) l,m.Cm.wf:=by
 induction b with
 |nil=>exact fun h hw=>⟨h,hw⟩
 |cons x r Cg=>
  intro l h hw;rw[ACO];split
  · rename_i e;exact Cg (rj e) (rk hw)
  · exact Cg h hw
theorem sb{S:Bv}(h:Ce S)(BQ Ag:ByteArray):hc (Gl S BQ Ag):=by
 obtain⟨Kq,YQ⟩:=Ad5 S.Bz h.marks h.Me;refine⟨dd,fun x Ab=>?_,Aee Kq YQ,fun x Ab=>absurd Ab ABh,fun x Ab=>absurd Ab ABh,y7 h.ends⟩;obtain⟨Ab,_⟩:=ABZ.1 Ab;obtain⟨a,AK,rfl⟩:=AB6.1 Ab;have:=k_ (h.acc a AK).2.1 DW;exact⟨this.wf,this.A7⟩
theorem Akv{S:Bv}(k:ByteArray)(h:S.Bt=FP):Ef S k=false:=by
 unfold Ef;rw[h];rfl
theorem b6{S:Bv}{k:ByteArray}:F' S k=true↔S.Du=true/\within S.A6 S.Bc k=true:=by rw[F',ABb]
theorem jc{S:Bv}(h:Ce S):Ce (LG S)/\(LG S).CZ=S.CZ/\(LG S).DX=S.DX:=by
 unfold LG;split
 · exact⟨h,rfl,rfl⟩
 · rename_i Ew;split
   · exact⟨h,rfl,rfl⟩
   · rename_i he;have he:=ACD.1 he;have ql:=back (sb h S.Bt.A6 S.Bt.Bc) he;generalize (IW (Gl S S.Bt.A6 S.Bt.Bc)).1=jQ at ql;have qi:(Er jQ).2=0:=(by rw[ql]);have Cu:¬S.Bt=FP:=fun e=>Ew (by simp[Py,e]);obtain⟨AH,BI,hh,A7⟩:LK S.Bt=true/\S.Bt.Hi=S.CZ/\S.Bt.Bc=S.Bc/\F' S S.Bt.A6=true:=h.Hc.resolve_left Cu;obtain⟨bb,Kp⟩:=b6.1 A7;obtain⟨B4,sp⟩:=h.own.yes bb;have HG:¬S.Bt.Ev=0:=by
      simp only[LK,ABb,ABa]at AH;omega
     have NM:∀k,Ef S k=within S.Bt.A6 S.Bc k:=fun k=>by rw[Ef,ABM HG,hh];rfl
     have qc:∀x∈S.AA,within S.A6 S.Bc x.AM.Al=true/\Ef S x.AM.Al=false:=fun x Ab=>by
      obtain⟨_,_,c,d,_⟩:=SF.1 (h.wt x Ab);exact⟨(b6.1 c).2,d⟩
     have pq:∀a∈S.Aj,within S.A6 S.Bc a.Al=true:=fun a AK=>(b6.1 (h.acc a AK).2.2).2;simp only;split
     · rename_i el;have Cl:S.Aj.filter (fun a=> !Ef S a.Al)=[]:=List.filter_eq_nil_iff.2 fun a AK=>by
        rw[NM,el,pq a AK];decide
       have F5:S.AA=[]:=List.eq_nil_iff_forall_not_mem.2 fun x Ab=>by
        obtain⟨a,b⟩:=qc x Ab;rw[NM,el,a]at b;cases b
       refine⟨{h with own:=⟨fun _=>⟨rfl,rfl,Cl,F5,rfl⟩,fun q=>by cases q⟩,len:=?_,acc:=?_,Ll:=?_,wt:=?_,Hc:=.inl rfl,out:=.inr ⟨AH,BI,qi⟩},rfl,rfl⟩
       · show(S.Aj.filter _).length<=12;rw[Cl];decide
       · show ∀a∈S.Aj.filter _,_;rw[Cl];exact fun a AK=>absurd AK ABh
       · show H6 _ _ (S.Aj.filter _);rw[Cl];exact List.Pairwise.nil
       · show ∀x∈S.AA,_;rw[F5];exact fun a AK=>absurd AK ABh
     · rename_i el;obtain⟨Ua,Ub⟩:=within_iff.1 Kp;have Ad6:Ds S.A6 S.Bt.A6=true:=Pa.tZ _ _ Ua el;obtain⟨s1,s2,IK⟩:=Vm.1 (kT AH);obtain⟨t1,t2,t3⟩:=Vm.1 sp;have DY:∀k,within S.A6 S.Bc k=true->Ef S k=false->within S.A6 S.Bt.A6 k=true:=fun k a b=>by
        obtain⟨DP,EK⟩:=within_iff.1 a;refine within_iff.2 ⟨DP,.inr ?_⟩;rw[NM]at b;cases q:Ds k S.Bt.A6 with
        |true=>rfl
        |false=>rw[within_iff.2 ⟨q,EK⟩]at b;cases b
       refine⟨{h with own:=⟨fun q=>(by rw[show S.Du=false from q]at bb;cases bb),fun _=>⟨B4,Vm.2 ⟨t1,s1,.inr Ad6⟩⟩⟩,len:=ABB (ADR ..) h.len,acc:=?_,Ll:=AJL _ h.Ll,wt:=?_,Hc:=.inl rfl,out:=.inr ⟨AH,BI,qi⟩},rfl,rfl⟩
       · intro a AK;obtain⟨AK,hs⟩:=ABZ.1 AK;exact⟨(h.acc a AK).1,(h.acc a AK).2.1,b6.2 ⟨bb,DY _ (pq a AK) (by simpa using hs)⟩⟩
       · intro x Ab;obtain⟨a,b⟩:=qc x Ab;exact c2 (h.wt x Ab) (b6.2 ⟨bb,DY _ a b⟩) (Akv _ rfl)
theorem jP{S:Bv}{ix:Int}{a:AD}(Af:1<=ix)(h2:ix<=EW)(AK:Fw a)(w:D3 a):Fw (Jv S ix a)/\D3 (Jv S ix a)/\(Jv S ix a).Al=a.Al:=by
 unfold Jv;split
 · obtain⟨x,y,z⟩:=ig w AK Af h2;exact⟨y,z,by rw[x]⟩
 · obtain⟨x,y,z⟩:=l8 w AK;exact⟨y,z,by rw[x]⟩
theorem fe{w:Ah}{x:JE}(h:Ce w.S):CE w (w.Iv x):=by
 unfold Ah.Iv;split
 · exact CE.refl h
 · rename_i Af;have BI:(BF w.S.Aj x.Al).2=true:=(by simpa using Af);split
   · rename_i h2;obtain⟨m,k⟩:=Q2 BI;obtain⟨_,y,z⟩:=h.acc _ m;obtain⟨_,_,_,_,_,_,_,_,p,q,r⟩:=iv y h2;exact TL h q r (by rw[p];exact z) (.inl (by rw[p];show(BF w.S.Aj (BF w.S.Aj x.Al).1.Al).2=true;rw[k];exact BI))
   · exact CE.refl h
theorem lg{w:Ah}(h:Ce w.S)(Af:1<=w.ix)(h2:w.ix<=EW):CE w w.rest/\∀a∈w.rest.S.Aj,FT a=false:=by
 unfold Ah.rest;simp only;obtain⟨DP,EK,FR⟩:=jc h;have CY:CE w {w with S:={LG w.S with Aj:=(LG w.S).Aj.map (Jv (LG w.S) w.ix)}}:=⟨DP.bE fun a AK=>jP Af h2 (DP.acc a AK).1 (DP.acc a AK).2.1,EK,FR,rfl,rfl⟩;have Dh:=CY.trans (Yd (fun u d hu=>fe (x:=d) hu) w.BQ CY.ws);generalize w.BQ.foldl Ah.Iv _=v at Dh;have hs:=Dh.ws;refine⟨⟨hs.mA (ABB (ADR ..) hs.len) (fun a AK=>hs.acc a (ABZ.1 AK).1) (AJL _ hs.Ll) (fun e=>by rw[(hs.own.no e).2.2.1];rfl),Dh.g,Dh.i,Dh.x,Dh.n⟩,fun a AK=>?_⟩;have:=(ABZ.1 AK).2;simpa using this
structure VB (S:Bv):Prop where
 ac:∀a∈S.Aj,D3 a
 PZ:∀x∈S.AA,x.wf
 O8:∀m∈S.Bz,m.Cm.wf
theorem Ce.ints{S:Bv}(h:Ce S):VB S:=⟨fun a AK=>(h.acc a AK).2.1,h.ww,h.Me⟩
theorem w5{S:Bv}{c:Dg}{ix nd:Int}(Ag:VB S)(Bm:c.wf)(h:(Gc S c ix nd).2.2=0):
 LN S=true/\LN (Gc S c ix nd).1=true/\VB (Gc S c ix nd).1/\(Gc S c ix nd).1.CZ=S.CZ/\(Gc S c ix nd).1.DX=ix:=by
 unfold Gc at h ⊢;split at h
 · cases h
 · rename_i Bh;rw[AA9 Bh];have Bh:LN S=true:=(by simpa using Bh);split at h
   · cases h
   · rename_i Ao;rw[AA9 Ao];split at h
     · cases h
     · rename_i Ab;rw[AA9 Ab];simp only[ABk,ABa,ABN]at Ao Ab;obtain⟨BO,_⟩:=(Zc Ag.ac Ag.PZ Ag.O8).1 Bh;have Fx:=BO.ix;obtain⟨Sp,HG⟩:=Fx;have Bw:Ce {S with DX:=ix}:={BO with ix:=⟨by show 0<=ix;omega,by show ix<=EW;omega⟩,own:=⟨BO.own.no,BO.own.yes⟩,acc:=BO.acc,wt:=BO.wt,Hc:=BO.Hc};have A1:=dO (w:={S:={S with DX:=ix},ix:=ix,nd:=nd,EF:=[],BQ:=[]}) (c:=c) Bw Bm (by show nd<=5;omega);simp only;generalize ({S:={S with DX:=ix},ix:=ix,nd:=nd,EF:=[],BQ:=[]}:Ah).cmd c=w at A1;have AY:=gH w.S.AA.length A1.ws;generalize Ah.waits w.S.AA.length w=v at AY;have TB:v.ix=ix:=AY.x.trans A1.x;obtain⟨A9,Ba⟩:=lg AY.ws AJv AJv;refine⟨Bh,(Zc (A9.ws.ints).ac (A9.ws.ints).PZ (A9.ws.ints).O8).2 ⟨A9.ws,Ba⟩,A9.ws.ints,?_,?_⟩
       · rw[A9.g,AY.g,A1.g]
       · rw[A9.i,AY.i,A1.i]
theorem w7{S:Bv}{c:Dg}{ix nd:Int}(Bh:LN S=true)(Af:1<=nd)(h2:nd<=5)(Bo:S.DX<ix)(BB:ix<=EW):(Gc S c ix nd).2.2=0:=by
 unfold Gc;rw[AA9 (by rw[Bh];decide),AA9 (by simp only[ABk,ABa];omega),AA9 (by simp only[ABk,ABa];omega)]
theorem tz{β GA:Type}[DecidableEq GA]{key:β->GA}{lt:GA->GA->Bool}(o:QL lt):∀{l m:List β},H6 key lt l->H6 key lt m->(∀x,x∈l↔x∈m)->l=m
 |[],[],_,_,_=>rfl
 |[],y::m,_,_,h=>absurd ((h y).2 (ABx ..)) ABh
 |x::l,[],_,_,h=>absurd ((h x).1 (ABx ..)) ABh
 |x::l,y::m,AN,hm,h=>by
  obtain⟨Om,Sl⟩:=AJN.1 AN;obtain⟨Kq,YQ⟩:=AJN.1 hm;have e:x=y:=by
   rcases ABf.1 ((h x).1 (ABx ..))with e|e
   · exact e
   · rcases ABf.1 ((h y).2 (ABx ..))with IV|IV
     · exact IV.symm
     · have:=o.mb _ _ _ (Om _ IV) (Kq _ e);rw[o.Si]at this;cases this
  subst e;rw[tz o Sl YQ fun z=>⟨fun Cu=>?_,fun Cu=>?_⟩]
  · rcases ABf.1 ((h z).1 (ABR _ Cu))with rfl|e
    · have:=Om _ Cu;rw[o.Si]at this;cases this
    · exact e
  · rcases ABf.1 ((h z).2 (ABR _ Cu))with rfl|e
    · have:=Kq _ Cu;rw[o.Si]at this;cases this
    · exact e
theorem lX{β GA:Type}[DecidableEq GA]{key:β->GA}{lt:GA->GA->Bool}(o:QL lt):∀{l:List β},H6 key lt l->∀{a b:β},a∈l->b∈l->key a=key b->a=b
 |[],_,_,_,h,_,_=>absurd h ABh
 |x::l,AN,a,b,AK,Aq,e=>by
  obtain⟨Om,Sl⟩:=AJN.1 AN;rcases ABf.1 AK with X9|o7
  · rcases ABf.1 Aq with h1|HO
    · rw[X9,h1]
    · have:=Om _ HO;rw[<-e,X9,o.Si]at this;cases this
  · rcases ABf.1 Aq with h1|HO
    · have:=Om _ o7;rw[e,h1,o.Si]at this;cases this
    · exact lX o Sl o7 HO e
theorem zO{l:List AD}(hs:H6 (·.Al) Ds l){a:AD}(AK:a∈l):(BF l a.Al).1=a:=by
 cases e:(BF l a.Al).2 with
 |true=>exact lX Pa hs (Q2 e).1 AK (Q2 e).2
 |false=>exact absurd rfl ((UH e).1 a AK)
theorem l'{a:AD}:(Io a).2=true↔E4 a=true/\G_ a=false/\a.A0=[]:=by
 unfold Io;split
 · rename_i h;simp only[ABk,ABe,ABa]at h;refine⟨fun q=>(by cases q),fun⟨x,y,z⟩=>?_⟩;rw[x,y,z]at h;simp at h
 · rename_i h;simp only[ABk,ABe,ABa,ABN,AB_,ACH]at h;refine⟨fun _=>⟨h.1.1,h.1.2,ADd.1 AJv⟩,fun _=>rfl⟩
structure VK (S:Bv):Prop where
 Aij:KS S=none
 hand:Py S=false\/¬(IW (Gl S S.Bt.A6 S.Bt.Bc)).2=0
 Tx:∀ix,1<=ix->ix<=EW->S.Aj.map (Jv S ix)=S.Aj
 plain:∀a∈S.Aj,FT a=false
-- waits: the rounds are enough
theorem ot(w:Ah)(c q:Int)(a:De):(w.done c q a).S.AA=w.S.AA:=by
 unfold Ah.done;simp only;split<;>rfl
theorem Ajp(w:Ah)(c q n:Int)(k:ByteArray)(a:De):(w.served c q n k a).S.AA=w.S.AA:=by
 unfold Ah.served;simp only;split<;>exact ot ..
theorem sG(w:Ah)(c q:Int):(w.raise c q).S.AA=w.S.AA:=by
 unfold Ah.raise;split<;>rfl
theorem y6(w:Ah)(c q e:Int):(w.ends c q e).S.AA.length<=w.S.AA.length:=by
 unfold Ah.ends;simp only;rw[sG];refine ABB (ADR ..) ?_;show(w.done c q (HN e)).S.AA.length<=_;rw[ot];exact ABW _
theorem AjV(w:Ah)(o:FL):(H3 w o).1.S.AA=w.S.AA:=by
 unfold H3;simp only;repeat' split
 all_goals rfl
theorem AdY(w:Ah)(x:BX):(w.Lf x).S.AA.length<=w.S.AA.length:=by
 unfold Ah.Lf;split
 · exact ABW _
 · simp only;generalize KA _ _=r;have BC:(if r.2=0 then w.put r.1 else w.tell 3 x.Ap x.As GS).S.AA=w.S.AA:=(by split<;>rfl);generalize (if r.2=0 then w.put r.1 else w.tell 3 x.Ap x.As GS)=v at BC;rw[<-BC];split
   · split
     · rw[sG];exact ABW _
     · exact ABW _
   · split
     · split<;>exact ABW _
     · split
       · exact y6 ..
       · exact ABW _
theorem uH{w:Ah}{i:Nat}(h:i<w.S.AA.length):(w.L6 i).S.AA.length<w.S.AA.length:=by
 have he:(w.S.AA.eraseIdx i).length<w.S.AA.length:=by rw[List.length_eraseIdx_of_lt h];omega
 unfold Ah.L6;simp only;split
 · rw[Ajp,AjV];exact he
 · exact Nat.lt_of_le_of_lt (AdY ..) he
theorem lb{S:Bv}{i:Nat}(h:KS S=some i):i<S.AA.length:=Q4 h
theorem uK:∀(n:Nat) (w:Ah),w.S.AA.length<=n->KS (Ah.waits n w).S=none
 |0,w,h=>by
  rw[Ah.waits];cases e:KS w.S with
  |none=>rfl
  |some i=>exact absurd (lb e) AJv
 |n+1,w,h=>by
  rw[Ah.waits];cases e:KS w.S with
  |none=>exact e
  |some i=>exact uK n _ (by have:=uH (lb e);show((w.L6 i).S.AA).length<=n;omega)
-- what is lent
def Up(a b:AD):Prop:=a.Al=b.Al/\a.Cn=b.Cn/\a.BG=b.BG/\(a=b\/b.Cn=0/\a.A0≠[])
theorem q7(a:AD):Up a a:=⟨rfl,rfl,rfl,.inl rfl⟩
structure AGm (l m:List AD):Prop where
 to:∀a∈m,∃b∈l,Up a b
 of:∀b∈l,∃a∈m,Up a b
structure Acc (w v:Ah):Prop where
 s:v.S={w.S with Aj:=v.S.Aj}
 e:v.EF=w.EF
 l:v.BQ=w.BQ
theorem AhH{β GA:Type}[Inhabited β][DecidableEq GA]{key:β->GA}{lt:GA->GA->Bool}(x:β)(l:List β):FQ key lt x l≠[]:=by
 intro e;have h:=ABE List.length e;rw[FQ]at h;split at h
 · rename_i Ag;rw[G9,ABb,ABa]at Ag;rw[List.length_set,ABo]at h;omega
 · rw[FO,ABP,List.length_cons,ABo]at h;omega
theorem Adt{l:List AD}{w:Ah}{x:JE}(h:Ce w.S)(g:AGm l w.S.Aj):AGm l (w.Iv x).S.Aj/\Acc w (w.Iv x):=by
 unfold Ah.Iv;split
 · exact⟨g,rfl,rfl,rfl⟩
 · rename_i Af;have BI:(BF w.S.Aj x.Al).2=true:=(by simpa using Af);split
   · rename_i h2;obtain⟨m,k⟩:=Q2 BI;obtain⟨_,y,_⟩:=h.acc _ m;obtain⟨_,_,cg,_,_,_,_,_,p,_,_⟩:=iv y h2;refine⟨?_,rfl,rfl,rfl⟩;show AGm l (FQ (·.Al) Ds _ w.S.Aj);generalize (BF w.S.Aj x.Al).1=f at m k cg p;generalize Ano:(Kl f x.Bn w.ix w.nd).1=Jq at p;have Ey:Jq.Al=f.Al:=(by rw[p]);have Ez:Jq.Cn=f.Cn:=(by rw[p]);have AhN:Jq.BG=f.BG:=(by rw[p]);have PM:Jq.A0≠[]:=(by rw[p];exact AhH _ _);have step:∀b,Up f b->Up Jq b:=fun b r=>⟨Ey.trans r.1,Ez.trans r.2.1,AhN.trans r.2.2.1,.inr ⟨by rw[<-r.2.1];exact cg,PM⟩⟩;refine⟨fun a AK=>?_,fun b Aq=>?_⟩
     · rcases(PJ Pa h.Ll).1 AK with e|⟨AK,_⟩
       · obtain⟨b,Aq,r⟩:=g.to f m;exact⟨b,Aq,by rw[e];exact step b r⟩
       · exact g.to a AK
     · obtain⟨a,AK,r⟩:=g.of b Aq;by_cases e:a.Al=Jq.Al
       · have:a=f:=lX Pa h.Ll AK m (e.trans Ey);subst this;exact⟨Jq,(PJ Pa h.Ll).2 (.inl rfl),step b r⟩
       · exact⟨a,(PJ Pa h.Ll).2 (.inr ⟨AK,e⟩),r⟩
   · exact⟨g,rfl,rfl,rfl⟩
theorem q5{l:List AD}:∀(BQ:List JE) {w:Ah},Ce w.S->AGm l w.S.Aj->AGm l (BQ.foldl Ah.Iv w).S.Aj/\Acc w (BQ.foldl Ah.Iv w)
 |[],_,_,g=>⟨g,rfl,rfl,rfl⟩
 |x::r,w,h,g=>by
  obtain⟨a,b⟩:=Adt (x:=x) h g;obtain⟨c,d⟩:=q5 r (fe (x:=x) h).ws a;refine⟨c,?_,d.e.trans b.e,d.l.trans b.l⟩;have:=d.s;rw[b.s]at this;exact this
theorem Abp{S:Bv}:(LG S=S/\(Py S=false\/¬(IW (Gl S S.Bt.A6 S.Bt.Bc)).2=0))\/
 ((LG S).Bt=FP/\(LG S).AA=S.AA/\(LG S).Aj=S.Aj.filter (fun a=> !Ef S a.Al)):=by
 unfold LG;split
 · rename_i h;exact .inl ⟨rfl,.inl h⟩
 · split
   · rename_i h;exact .inl ⟨rfl,.inr h⟩
   · refine .inr ?_;simp only;split<;>exact⟨rfl,rfl,rfl⟩
theorem qh{S:Bv}{ix:Int}{a:AD}(Af:1<=ix)(h2:ix<=EW)(AK:Fw a)(w:D3 a):Jv S ix a={a with Cn:=if(SG S.AA a.Al||Ef S a.Al)=true then(if a.Cn=0 then ix else a.Cn)else 0}:=by
 unfold Jv;split
 · exact(ig w AK Af h2).1
 · exact(l8 w AK).1
theorem tA{l:List AD}{f:AD->AD}(BI:∀a∈l,(f a).Al=a.Al)(h:H6 (·.Al) Ds l):H6 (·.Al) Ds (l.map f):=by
 unfold H6 at h ⊢;rw[List.pairwise_map];refine h.imp_of_mem fun{a b} AK Aq q=>?_;show Ds (f a).Al (f b).Al=true;rw[BI a AK,BI b Aq];exact q
theorem fB{a:AD}:FT a=true↔E4 a=true/\a.Cs=⟨0,0⟩/\a.BT=0/\a.A0=[]/\a.Cn=0/\G_ a=false:=by
 simp only[FT,ABb,ABe,ABa];constructor
 · rintro⟨⟨⟨⟨⟨a,b⟩,c⟩,d⟩,e⟩,f⟩;exact⟨a,b,c,ADd.1 AJv,e,f⟩
 · rintro⟨a,b,c,d,e,f⟩;exact⟨⟨⟨⟨⟨a,b⟩,c⟩,by rw[d];rfl⟩,e⟩,f⟩
theorem AdZ{a b:AD}(h:a.BG=b.BG):G_ a=G_ b:=by unfold G_;rw[h]
theorem Aiv{w:Ah}(h:Ce w.S)(Af:1<=w.ix)(h2:w.ix<=EW)(Bh:KS w.S=none):VK w.rest.S:=by
 have AH:=(lg h Af h2).2;have Ri:=(lg h Af h2).1.ws;unfold Ah.rest at AH Ri ⊢;simp only at AH Ri ⊢;have Vv:=(jc h).1;have Bm:=Abp (S:=w.S);generalize AmZ:LG w.S=EB at AH Ri Vv Bm ⊢;have CY:Ce {EB with Aj:=EB.Aj.map (Jv EB w.ix)}:=Vv.bE fun a AK=>jP Af h2 (Vv.acc a AK).1 (Vv.acc a AK).2.1;obtain⟨Jt,ac⟩:=q5 (l:=EB.Aj.map (Jv EB w.ix)) w.BQ (w:={w with S:={EB with Aj:=EB.Aj.map (Jv EB w.ix)}}) CY ⟨fun a AK=>⟨a,AK,q7 a⟩,fun a AK=>⟨a,AK,q7 a⟩⟩;have uR:=(Yd (fun u d hu=>fe (x:=d) hu) w.BQ (w:={w with S:={EB with Aj:=EB.Aj.map (Jv EB w.ix)}}) CY).ws;generalize w.BQ.foldl Ah.Iv {w with S:={EB with Aj:=EB.Aj.map (Jv EB w.ix)}}=v at AH Ri Jt ac uR ⊢;have Kk:v.S={EB with Aj:=v.S.Aj}:=ac.s;generalize v.S.Aj=On at AH Ri Jt Kk ⊢;rw[Kk]at uR Ri ⊢;clear ac Kk;simp only at AH Ri ⊢
 -- what an account was
 have back:∀a∈On,∃c∈EB.Aj,Up a (Jv EB w.ix c):=fun a AK=>by
  obtain⟨b,Aq,r⟩:=Jt.to a AK;obtain⟨c,Bm,rfl⟩:=AB6.1 Aq;exact⟨c,Bm,r⟩
 have fwd:∀c∈EB.Aj,∃a∈On,Up a (Jv EB w.ix c):=fun c Bm=>Jt.of _ (AB6.2 ⟨c,Bm,rfl⟩);have Tx:∀c∈EB.Aj,Jv EB w.ix c={c with Cn:=if(SG EB.AA c.Al||Ef EB c.Al)=true then(if c.Cn=0 then w.ix else c.Cn)else 0}:=fun c Bm=>qh Af h2 (Vv.acc c Bm).1 (Vv.acc c Bm).2.1;have DY:∀a∈On,FT a=false->a∈On.filter (fun a=> !FT a):=fun a AK q=>ABZ.2 ⟨AK,by rw[q];rfl⟩;have Acr:EB.AA=w.S.AA:=by
  rcases Bm with⟨e,_⟩|⟨_,e,_⟩
  · rw[e]
  · exact e
 refine⟨?_,?_,?_,AH⟩
 · -- nothing is ready
   unfold KS at Bh ⊢;simp only;rw[Acr];refine AEe.2 fun i Ag=>?_;have Bw:=AEe.1 Bh i Ag;have hm:=Hl (l:=w.S.AA) Ag;obtain⟨_,NP,Adc,ks,_⟩:=SF.1 (h.wt _ hm);generalize (w.S.AA.getD i default).AM.Al=k at Bw NP Adc ks ⊢;simp only[ABe,ACu]at Bw ⊢;refine Bw.imp id fun Bw=>?_;rw[<-ACH]at Bw ⊢;refine fun q=>Bw ?_;cases Fb:(BF w.S.Aj k).2 with
   |false=>
    obtain⟨z,y,x,_⟩:=YR NP;rw[(UH Fb).2,l'];exact⟨y.acc x,by rw[z];rfl,by rw[z];rfl⟩
   |true=>
    obtain⟨NS,AS⟩:=Q2 Fb;generalize (BF w.S.Aj k).1=c at NS AS ⊢;have Kq:c∈EB.Aj:=by
     rcases Bm with⟨e,_⟩|⟨_,_,e⟩
     · rw[e];exact NS
     · rw[e];exact ABZ.2 ⟨NS,by rw[AS,ks];rfl⟩
    obtain⟨a,O8,FA⟩:=fwd c Kq;rw[Tx c Kq]at FA;have hold:a.A0=[]/\G_ a=false:=by
     cases pl:FT a with
     |true=>exact⟨(fB.1 pl).2.2.2.1,(fB.1 pl).2.2.2.2.2⟩
     |false=>
      have:=zO Ri.Ll (DY a O8 pl);have I2:a.Al=k:=FA.1.trans AS;rw[I2]at this;have q:=q;rw[this,l']at q;exact⟨q.2.2,q.2.1⟩
    rw[l'];refine⟨(h.acc c NS).1.acc (h.acc c NS).2.1,?_,?_⟩
    · rw[<-hold.2];exact(AdZ FA.2.2.1).symm
    · rcases FA.2.2.2 with e|⟨_,e⟩
      · have:=ABE AD.A0 e;exact this.symm.trans hold.1
      · exact absurd hold.1 e
 · -- nothing is to be handed on
   show Py {EB with Aj:=On.filter (fun a=> !FT a)}=false\/¬(IW (Gl {EB with Aj:=On.filter (fun a=> !FT a)} EB.Bt.A6 EB.Bt.Bc)).2=0;rcases Bm with⟨e,A7|A7⟩|⟨e,_,_⟩
   · refine .inl ?_;rw[<-e]at A7;simp only[Py,ABI,ABk,ADZ,ABb,ABe,ABa,ABl]at A7 ⊢;refine A7.imp id ?_;rintro⟨c,Oo,s_,AJ⟩;obtain⟨a,O8,FA⟩:=fwd c Oo;rw[Tx c Oo]at FA;have OT:(a.A0.length:Int)>0\/¬a.BG.Ap=0:=by
      refine AJ.imp (fun q=>?_) (fun q=>by rw[FA.2.2.1];exact q);rcases FA.2.2.2 with e|⟨_,e⟩
      · rw[e];exact q
      · have:=List.length_pos_iff.2 e;omega
     have AbY:FT a=false:=by
      rw[<-ACH,fB];rintro⟨_,_,_,p,_,r⟩;rcases OT with q|q
      · rw[p]at q;exact absurd q AJx
      · exact q (gy r)
     exact⟨a,DY a O8 AbY,by rw[show a.Al=c.Al from FA.1];exact s_,OT⟩
   · by_cases Cu:EB.Bt=FP
     · exact .inl (by simp[Py,Cu])
     refine .inr ?_;rw[<-e]at A7;have Yv:LK EB.Bt=true:=(Vv.Hc.resolve_left Cu).1;have HG:¬EB.Bt.Ev=0:=by
      simp only[LK,ABb,ABa]at Yv;omega
     have rd:∀c∈EB.Aj,within EB.Bt.A6 EB.Bt.Bc c.Al=true->∀a,Up a (Jv EB w.ix c)->a=Jv EB w.ix c/\¬a.Cn=0:=fun c Oo c5 a FA=>by
      have hs:Ef EB c.Al=true:=(by rw[Ef,ABM HG,c5];rfl);have Cu:¬(Jv EB w.ix c).Cn=0:=by
       rw[Tx c Oo,AA_ (by rw[hs,Bool.or_true])];show ¬(if c.Cn=0 then w.ix else c.Cn)=0;split<;>omega
      rcases FA.2.2.2 with q|⟨q,_⟩
      · exact⟨q,by rw[q];exact Cu⟩
      · exact absurd q Cu
     have zd:((On.filter (fun a=> !FT a)).map fun a=>{a with Cn:=0}).filter (fun a=>within EB.Bt.A6 EB.Bt.Bc a.Al&& !FT a)=(EB.Aj.map fun a=>{a with Cn:=0}).filter (fun a=>within EB.Bt.A6 EB.Bt.Bc a.Al&& !FT a):=by
      refine tz (key:=fun a:AD=>a.Al) Pa (AJL _ (tA (fun _ _=>rfl) Ri.Ll)) (AJL _ (tA (fun _ _=>rfl) Vv.Ll)) fun x=>?_;constructor
      · intro Ab;obtain⟨Ab,W5⟩:=ABZ.1 Ab;obtain⟨a,AK,rfl⟩:=AB6.1 Ab;obtain⟨AK,_⟩:=ABZ.1 AK;obtain⟨c,Oo,FA⟩:=back a AK;have bu:a.Al=c.Al:=(by have:=FA.1;rw[Tx c Oo]at this;exact this);have c5:within EB.Bt.A6 EB.Bt.Bc c.Al=true:=(by rw[ABb]at W5;rw[<-bu];exact W5.1);have X9:=(rd c Oo c5 a FA).1;have h_:({a with Cn:=0}:AD)={c with Cn:=0}:=(by rw[X9,Tx c Oo]);refine ABZ.2 ⟨?_,W5⟩;rw[h_];exact AB6.2 ⟨c,Oo,rfl⟩
      · intro Ab;obtain⟨Ab,W5⟩:=ABZ.1 Ab;obtain⟨c,Oo,rfl⟩:=AB6.1 Ab;obtain⟨a,O8,FA⟩:=fwd c Oo;have c5:within EB.Bt.A6 EB.Bt.Bc c.Al=true:=(by rw[ABb]at W5;exact W5.1);obtain⟨X9,Aej⟩:=rd c Oo c5 a FA;have h_:({a with Cn:=0}:AD)={c with Cn:=0}:=(by rw[X9,Tx c Oo]);refine ABZ.2 ⟨?_,W5⟩;rw[<-h_];refine AB6.2 ⟨a,DY a O8 ?_,rfl⟩;rw[<-ACH,fB];exact fun p=>Aej p.2.2.2.2.1
     have ON:Gl {EB with Aj:=On.filter (fun a=> !FT a)} EB.Bt.A6 EB.Bt.Bc=Gl EB EB.Bt.A6 EB.Bt.Bc:=by
      unfold Gl;simp only;rw[zd]
     rw[ON];exact A7
   · exact .inl (by simp[Py,e])
 · -- rounds stay
   intro ix i1 i2;show(On.filter fun a=> !FT a).map (Jv {EB with Aj:=On.filter (fun a=> !FT a)} ix)=_
   conv=>rhs;rw[<-List.map_id (On.filter fun a=> !FT a)]
   refine List.map_congr_left fun a AK=>?_;rw[qh i1 i2 (Ri.acc a AK).1 (Ri.acc a AK).2.1];obtain⟨c,Oo,FA⟩:=back a (ABZ.1 AK).1;rw[Tx c Oo]at FA;have bu:a.Al=c.Al:=FA.1;have rc:a.Cn=(if(SG EB.AA c.Al||Ef EB c.Al)=true then(if c.Cn=0 then w.ix else c.Cn)else 0):=FA.2.1;rw[show SG ({EB with Aj:=On.filter (fun a=> !FT a)}:Bv).AA a.Al=SG EB.AA c.Al by rw[bu],show Ef {EB with Aj:=On.filter (fun a=> !FT a)} a.Al=Ef EB c.Al by rw[bu];rfl];have:(if(SG EB.AA c.Al||Ef EB c.Al)=true then(if a.Cn=0 then ix else a.Cn)else 0)=a.Cn:=by
    split
    · rename_i q;rw[AA_ q]at rc;rw[AA9];rw[rc];split<;>omega
    · rename_i q;rw[AA9 q]at rc;exact rc.symm
   rw[this];rfl
theorem VK.at{S:Bv}(h:VK S)(i:Int):VK {S with DX:=i}:=⟨h.Aij,h.hand,h.Tx,h.plain⟩
theorem Ak_{w:Ah}(h:KS w.S=none):∀n,Ah.waits n w=w
 |0=>rfl
 |n+1=>by rw[Ah.waits,h]
theorem w6{S:Bv}{c:Dg}{ix nd:Int}(Ag:VB S)(Bm:c.wf)(h:(Gc S c ix nd).2.2=0):VK (Gc S c ix nd).1:=by
 unfold Gc at h ⊢;split at h
 · cases h
 · rename_i Bh;rw[AA9 Bh];have Bh:LN S=true:=(by simpa using Bh);split at h
   · cases h
   · rename_i Ao;rw[AA9 Ao];split at h
     · cases h
     · rename_i Ab;rw[AA9 Ab];simp only[ABk,ABa,ABN]at Ao Ab;obtain⟨BO,_⟩:=(Zc Ag.ac Ag.PZ Ag.O8).1 Bh;have Fx:=BO.ix;obtain⟨Sp,HG⟩:=Fx;have Bw:Ce {S with DX:=ix}:={BO with ix:=⟨by show 0<=ix;omega,by show ix<=EW;omega⟩,own:=⟨BO.own.no,BO.own.yes⟩,acc:=BO.acc,wt:=BO.wt,Hc:=BO.Hc};have A1:=dO (w:={S:={S with DX:=ix},ix:=ix,nd:=nd,EF:=[],BQ:=[]}) (c:=c) Bw Bm (by show nd<=5;omega);simp only;generalize ({S:={S with DX:=ix},ix:=ix,nd:=nd,EF:=[],BQ:=[]}:Ah).cmd c=w at A1;have AY:=gH w.S.AA.length A1.ws;have A9:=uK w.S.AA.length w (ABW _);generalize Ah.waits w.S.AA.length w=v at AY A9;have TB:v.ix=ix:=AY.x.trans A1.x;exact Aiv AY.ws AJv AJv A9
-- from a new state on
theorem Aeu{g:Int}(h:Ih g=true):Ce (F8 g)/\(F8 g).Aj=[]:=by
 have z:L7 0:=⟨AJx,AJx⟩;refine⟨{RZ:=?_,ix:=z,ON:=?_,hf:=z,TO:=z,un:=z,own:=⟨fun _=>⟨rfl,rfl,rfl,rfl,rfl⟩,fun q=>⟨?_,rfl⟩⟩,len:=ABg _,acc:=fun a AK=>absurd AK ABh,Ll:=List.Pairwise.nil,marks:=rfl,Me:=fun a AK=>absurd AK ABh,VZ:=rfl,ends:=rfl,wl:=ABg _,wt:=fun a AK=>absurd AK ABh,ww:=fun a AK=>absurd AK ABh,Hc:=.inl rfl,out:=.inl ⟨rfl,rfl⟩},rfl⟩
 · show Ih (if Ih g=true then g else 0)=true;rw[AA_ h];exact h
 · show L7 (if Ih g=true then(if g=1 then 1 else 0)else 0);rw[AA_ h];split<;>exact⟨AJx,AJx⟩
 · have q:(Ih g&&decide (g=1))=true:=q;rw[ABb,ABa]at q;show 1<=(if Ih g=true then(if g=1 then 1 else 0)else 0);rw[AA_ h,AA_ q.2];exact Int.le_refl _
theorem Aet(g:Int):VK (F8 g):=⟨rfl,.inl (by simp[Py,F8,FP]),fun _ _ _=>rfl,fun a AK=>absurd AK ABh⟩
structure XO (S T:Bv) (i:Nat):Prop where
 right:LN T=true
 ints:VB T
 set:VK T
 ix:T.DX=i
 g:T.CZ=S.CZ
theorem fJ{g:Int}(h:Ih g=true):XO (F8 g) (F8 g) 0:=by
 obtain⟨a,b⟩:=Aeu h;exact⟨(Zc a.ints.ac a.ints.PZ a.ints.O8).2 ⟨a,fun x Ab=>by rw[b]at Ab;exact absurd Ab ABh⟩,a.ints,Aet g,rfl,rfl⟩
theorem Ah0{S T:Bv}{i:Nat}{c:Dg}{nd:Int}(h:XO S T i)(Bm:c.wf)(HG:1<=nd)(MF:nd<=5)(Ag:(i:Int)+1<=EW):(Gc T c ((i:Int)+1) nd).2.2=0/\XO S (Gc T c ((i:Int)+1) nd).1 (i+1):=by
 have Bw:=w7 (c:=c) h.right HG MF (by rw[h.ix];show(i:Int)<(i:Int)+1;omega) Ag;obtain⟨_,a,b,d,e⟩:=w5 h.ints Bm Bw;exact⟨Bw,a,b,w6 h.ints Bm Bw,by rw[e];omega,d.trans h.g⟩
theorem Aj9{S:Bv}(h:Ce S){k:ByteArray}(AE:Ix k=true){l:F_}(AN:l.wf)(Ao:¬l.B2=0)(e:(KA (BF S.Aj k).1 l).2=0):(BF S.Aj k).2=true/\(KA (BF S.Aj k).1 l).1.Al=k:=by
 obtain⟨f1,f2,f3⟩:=V9 h AE;obtain⟨p,_,_,Qj,CY,Dh,q,s⟩:=gu f2 AN e;refine⟨?_,by rw[p];exact f3⟩;cases S_:(BF S.Aj k).2 with
 |true=>rfl
 |false=>
  exfalso;have Cu:(BF S.Aj k).1={Fj with Al:=k}:=(by rw[(UH S_).2];exact(YR AE).1);rw[Cu]at CY Dh;have CY:(0:Int)<=0+l.B2:=CY;have Dh:(0:Int)+l.B2<=0:=Dh;omega
theorem AE5{w:Ah}{c:Dg}(h:c.Ca=1):w.cmd c=w.op c:=by simp[Ah.cmd,h]
def AGC(c:Dg):BX:={Ca:=1,Ap:=c.Ap,As:=c.As,Bn:=c.Bn,DH:=0,AM:=c.AM}
def AGM(S:Bv)(c:Dg)(ix:Int):Bv:={S with DX:=ix,Bz:=(IS S.Bz c.Ap c.As).1,AA:=S.AA++[AGC c]}
theorem AIQ{S:Bv}{c:Dg}{ix nd:Int}(Bh:LN S=true)(O1:VK S)(Cu:S.Bt=FP)(HG:1<=nd)(MF:nd<=5)(i1:S.DX<ix)(i2:ix<=EW)
 (AE:c.Ca=1)(AK:NA c nd=true)(Aq:(IS S.Bz c.Ap c.As).2.2=0)(BI:(IS S.Bz c.Ap c.As).2.1=true)(A7:F' S c.AM.Al=true)(he:c.Dn=S.Dn)
 (F4:¬c.AM.Ca=6)(Rc:c.AM.Ca>2\/SG S.AA c.AM.Al=true)(hw:S.AA.length<8)(Ao:(Io (BF S.Aj c.AM.Al).1).2=false):
 Gc S c ix nd=({AGM S c ix with Aj:=(S.Aj.map (Jv (AGM S c ix) ix)).filter (fun a=> !FT a)},[],0):=by
 have hs:=Akv c.AM.Al Cu;have AGW:({S:={S with DX:=ix},ix:=ix,nd:=nd,EF:=[],BQ:=[]}:Ah).cmd c={S:=AGM S c ix,ix:=ix,nd:=nd,EF:=[],BQ:=[]}:=by
  rw[AE5 AE];unfold Ah.op;rw[AA9 (by show ¬NA c nd=false;rw[AK];decide)];simp only;rw[AA9 (not_not_intro Aq),AA9 (by rw[BI];decide),AA9 (by
   show ¬(!F' S c.AM.Al||Ef S c.AM.Al|| !decide (c.Dn=S.Dn))=true;rw[A7,hs,ABG he];decide),AA9 F4]
  have Abu:Mu {S:={S with DX:=ix,Bz:=(IS S.Bz c.Ap c.As).1},ix:=ix,nd:=nd,EF:=[],BQ:=[]} c=false:=by
   have:(decide (c.AM.Ca>2)||SG S.AA c.AM.Al)=true:=by
    rw[ABk,ABa];exact Rc
   show(!(decide (c.AM.Ca>2)||SG S.AA c.AM.Al)&&_&&_)=false;rw[this];rfl
  rw[AA9 (by rw[Abu];decide),AA9 (by show ¬((S.AA.length:Int)>=8);omega)];rfl
 have Ep:KS (AGM S c ix)=none:=by
  have Bw:=O1.Aij;unfold KS at Bw ⊢;refine AEe.2 fun i Ag=>?_;have Ag:i<(S.AA++[AGC c]).length:=Ag;rw[ABP,List.length_singleton]at Ag;by_cases AN:i<S.AA.length
  · have Af:=AEe.1 Bw i AN;have o7:∀j,j<=i->(S.AA++[AGC c]).getD j default=S.AA.getD j default:=fun j Ay=>by
     rw[ACn,ACn,List.getElem?_append_left AJv]
    show(!(allI i (fun j=> !decide (((S.AA++[AGC c]).getD j default).AM.Al=((S.AA++[AGC c]).getD i default).AM.Al))&&(Io (BF S.Aj ((S.AA++[AGC c]).getD i default).AM.Al).1).2))=true;rw[o7 i (ABW _)];have:allI i (fun j=> !decide (((S.AA++[AGC c]).getD j default).AM.Al=(S.AA.getD i default).AM.Al))=allI i (fun j=> !decide ((S.AA.getD j default).AM.Al=(S.AA.getD i default).AM.Al)):=by
     rw[ACy,Nz,Nz];exact forall_congr' fun j=>imp_congr_right fun Ay=>by rw[o7 j AJv]
    rw[this];exact Af
  · have:i=S.AA.length:=AJv;subst this;have AIr:(S.AA++[AGC c]).getD S.AA.length default=AGC c:=by
     rw[ACn,List.getElem?_append_right (ABW _),ADI];rfl
    show(!(allI _ _&&(Io (BF S.Aj ((S.AA++[AGC c]).getD S.AA.length default).AM.Al).1).2))=true;rw[AIr];show(!(_&&(Io (BF S.Aj c.AM.Al).1).2))=true;rw[Ao,Bool.and_false];rfl
 unfold Gc;rw[AA9 (by rw[Bh];decide),AA9 (by simp only[ABk,ABa];omega),AA9 (by simp only[ABk,ABa];omega)];simp only[AGW];rw[Ak_ Ep];have hh:LG (AGM S c ix)=AGM S c ix:=by
  unfold LG;rw[AA_];show(!(decide (S.Bt=FP)||_))=false;rw[ABG Cu];rfl
 unfold Ah.rest;simp only[hh,AJS];rfl
def AGq:ByteArray:=⟨#[97]⟩
def AGI:Dg:={Ca:=1,Ap:=1,As:=1,Dn:=1,Bn:=1,DH:=0,Al:=ByteArray.empty,G0:=0,Cn:=0,It:=0,Jr:=false,AM:={mV with Ca:=5,Al:=AGq,A6:=0,Bc:=20},Dj:=FP,Cf:=[]}
def AGo(r:Int):AD:={Fj with Al:=AGq,Cs:=⟨0,20⟩,Cn:=r,A0:=[⟨1,1,5,0⟩]}
def AGt:Bv:={F8 1 with DX:=1,Aj:=[AGo 0],Bz:=[⟨1,1,false,GS⟩]}
theorem AHX:Gc (F8 1) AGI 1 3=(AGt,[⟨1,1,1,GS⟩],0):=AJw
def AGx(os:List FL)(i:Nat):Dg:={AGI with Ap:=2+(i:Int),Bn:=2,AM:=os.getD i default}
def AHl(i:Nat):BL:=⟨2+(i:Int),1,true,GS⟩
def AGB(k:Nat):List BL:=⟨1,1,false,GS⟩::(List.range k).map AHl
def AGu(os:List FL)(k:Nat):List BX:=(List.range k).map fun i=>AGC (AGx os i)
def AGw(k:Nat):AD:=AGo (if k=0 then 0 else 2)
def AGr(os:List FL)(k:Nat):Bv:={AGt with DX:=1+(k:Int),Aj:=[AGw k],Bz:=AGB k,AA:=AGu os k}
theorem AH0(k:Nat):AGB (k+1)=AGB k++[AHl k]:=by
 unfold AGB;rw[List.range_succ,ADF];rfl
theorem AHI(os:List FL)(k:Nat):AGu os (k+1)=AGu os k++[AGC (AGx os k)]:=by
 unfold AGu;rw[List.range_succ,ADF];rfl
theorem AHC{k:Nat}{m:BL}(h:m∈AGB k):m.Ap<2+(k:Int):=by
 rcases ABf.1 h with rfl|h
 · show(1:Int)<2+(k:Int);omega
 · obtain⟨i,Ag,rfl⟩:=AB6.1 h;have:=ABw.1 Ag;show 2+(i:Int)<2+(k:Int);omega
theorem AH'{k:Nat}(AE:k<7)(hm:Fg (AGB k)=true):IS (AGB k) (2+(k:Int)) 1=(AGB (k+1),true,0):=by
 have hs:=(Rl.1 hm).2;have Ag:G9 (·.Ap) AGl (2+(k:Int)) (AGB k)=false:=by
  rw[<-ACH,br N1 hs];rintro⟨x,Ab,e⟩;have:=AHC Ab;omega
 have BI:FU (AGB k) (2+(k:Int))=(gT,false):=by rw[FU,AA9 (by rw[hm];decide),AA_ Ag]
 have hw:LP (AGB k) (AHl k)=AGB (k+1):=by
  refine tz N1 (W4 N1 hs) ?_ fun x=>?_
  · rw[AH0];refine List.pairwise_append.2 ⟨hs,AJT ..,fun a AK b Aq=>?_⟩;rw[ADe.1 Aq];exact ABG (AHC AK)
  · rw[AH0,ABm,ADe];refine(PJ N1 hs).trans ⟨fun h=>h.elim .inr fun h=>.inl h.1,fun h=>h.elim (fun h=>.inr ⟨h,fun e=>?_⟩) .inl⟩;have:=AHC h;have e:x.Ap=2+(k:Int):=e;omega
 rw[IS,AA9 (by rw[hm];decide),AA9 (by simp only[ABk,ABa];have:EW=4611686018427387904:=rfl;omega),BI,AA9 AJx,AA9 AJx];show(LP (AGB k) (AHl k),true,0)=_;rw[hw]
structure AGS (o:FL):Prop where
 key:o.Al=AGq
 A1:1<=o.Ca
 Bd:o.Ca<=5
 n:o.Ca=1\/o.Ca=2->1<=o.B2
theorem AIb{os:List FL}{k:Nat}(AE:k<7)(h:AGS (os.getD k default)):NA (AGx os k) 3=true:=by
 have B4:Jj (2+(k:Int)) 1=true:=by
  simp only[Jj,ABb,ABa];have:EW=4611686018427387904:=rfl;omega
 have DC:Ix (os.getD k default).Al=true:=by rw[h.key];decide
 have a:=h.A1;have b:=h.Bd;unfold NA;rw[AA9 (by
  show ¬(!Jj (2+(k:Int)) 1||decide ((2:Int)<1)||decide ((2:Int)>3)||decide ((os.getD k default).Ca<1)||decide ((os.getD k default).Ca>6)|| !Ix (os.getD k default).Al)=true;rw[B4,DC,ABM (show ¬(os.getD k default).Ca<1 by omega),ABM (show ¬(os.getD k default).Ca>6 by omega)];decide)]
 show(if(decide ((os.getD k default).Ca=1)||decide ((os.getD k default).Ca=2))=true then decide ((os.getD k default).B2>=1)else if(os.getD k default).Ca=6 then _ else true)=true;split
 · rename_i q;simp only[ABk,ABa]at q;exact ABG (h.n q)
 · rw[AA9 AJv]
theorem AHZ{os:List FL}{k:Nat}(AE:k<7)(h:AGS (os.getD k default))(Bw:(os.getD 0 default).Ca=4)(AIx:(os.getD 0 default).Al=AGq)(Fy:XO (F8 1) (AGr os k) (k+1)):Gc (AGr os k) (AGx os k) (2+(k:Int)) 3=(AGr os (k+1),[],0):=by
 have ws:=((Zc Fy.ints.ac Fy.ints.PZ Fy.ints.O8).1 Fy.right).1;have Aq:=AH' AE ws.marks;have key:(AGx os k).AM.Al=AGq:=h.key;have Anp:EW=4611686018427387904:=rfl;have pz:(BF [AGw k] AGq).1=AGw k:=zO (l:=[AGw k]) (AJT ..) (ADe.2 rfl);rw[AIQ Fy.right Fy.set rfl AJx AJx (by show 1+(k:Int)<2+(k:Int);omega) AJv rfl (AIb AE h) (by show(IS (AGB k) (2+(k:Int)) 1).2.2=0;rw[Aq]) (by show(IS (AGB k) (2+(k:Int)) 1).2.1=true;rw[Aq])
  (by rw[key];show(true&&within ByteArray.empty ByteArray.empty AGq)=true;kernel_rfl) rfl (by show ¬(os.getD k default).Ca=6;have:=h.Bd;omega) ?_ (by show((List.range k).map _).length<8;rw[List.length_map,List.length_range];omega) ?_]
 · have AN:AGM (AGr os k) (AGx os k) (2+(k:Int))={AGr os (k+1)with Aj:=[AGw k]}:=by
    show({AGr os k with DX:=_,Bz:=(IS (AGB k) (2+(k:Int)) 1).1,AA:=AGu os k++[AGC (AGx os k)]}:Bv)=_;rw[Aq,<-AHI];show({AGt with DX:=2+(k:Int),Aj:=[AGw k],Bz:=AGB (k+1),AA:=AGu os (k+1)}:Bv)={AGt with DX:=1+((k+1:Nat):Int),Aj:=[AGw k],Bz:=AGB (k+1),AA:=AGu os (k+1)};rw[show 1+((k+1:Nat):Int)=2+(k:Int)by omega]
   have Cl:([AGw k].map (Jv (AGM (AGr os k) (AGx os k) (2+(k:Int))) (2+(k:Int)))).filter (fun a=> !FT a)=[AGw (k+1)]:=by
    have AK:=ws.acc (AGw k) (ADe.2 rfl);rw[List.map_singleton,qh AJv AJv AK.1 AK.2.1];have Tv:SG (AGM (AGr os k) (AGx os k) (2+(k:Int))).AA (AGw k).Al=true:=by
     show(AGu os k++[AGC (AGx os k)]).any _=true;rw[List.any_append,ABk];refine .inr ?_;show(decide ((os.getD k default).Al=AGq)||false)=true;rw[ABG h.key];rfl
    rw[Tv,Bool.true_or,AA_ rfl];have e:({AGw k with Cn:=if(AGw k).Cn=0 then 2+(k:Int)else(AGw k).Cn}:AD)=AGw (k+1):=by
     by_cases z:k=0
     · subst z;rfl
     · have:(AGw k).Cn=2:=(by show(if k=0 then(0:Int)else 2)=2;rw[AA9 z]);rw[this,AA9 AJx];show({AGo _ with Cn:=2}:AD)=AGo (if k+1=0 then 0 else 2);rw[AA9 AJv];rfl
    rw[e];have AHD:FT (AGw (k+1))=false:=by
     rw[<-ACH,fB];intro q;exact absurd q.2.2.2.1 (by show ¬[(⟨1,1,5,0⟩:BD)]=[];simp)
    rw[AJH,AHD];rfl
   have AIu:((AGr os k).Aj.map (Jv (AGM (AGr os k) (AGx os k) (2+(k:Int))) (2+(k:Int)))).filter (fun a=> !FT a)=[AGw (k+1)]:=Cl;rw[AIu,AN];rfl
 · by_cases z:k=0
   · refine .inl ?_;subst z;show(os.getD 0 default).Ca>2;omega
   · refine .inr ?_;rw[key];show(AGu os k).any _=true;exact ADZ.2 ⟨AGC (AGx os 0),AB6.2 ⟨0,ABw.2 AJv,rfl⟩,ABG AIx⟩
 · rw[key];show(Io (BF [AGw k] AGq).1).2=false;rw[pz,<-ACH,l'];intro q;exact absurd q.2.2 (by show ¬[(⟨1,1,5,0⟩:BD)]=[];simp)
theorem AHL:AGI.wf:=by
 have z:A' 0:=DW;have o:A' 1:=⟨AJx,AJx⟩;exact⟨o,o,o,o,o,z,AJx,z,z,z,trivial,⟨⟨AJx,AJx⟩,AJx,AJx,z,z,⟨AJx,AJx⟩⟩,⟨z,z,z,AJx,AJx,z,z⟩,trivial⟩
theorem AHM{os:List FL}{i:Nat}(Ag:i<7)(h:(os.getD i default).wf):(AGx os i).wf:=by
 have z:A' 0:=DW;have o:A' 1:=⟨AJx,AJx⟩;exact⟨o,⟨by show _<=2+(i:Int);omega,by show 2+(i:Int)<=_;omega⟩,o,o,⟨by show _<=(2:Int);decide,by show(2:Int)<=_;decide⟩,z,by show ByteArray.empty.size<=_;decide,z,z,z,trivial,h,⟨z,z,z,by show ByteArray.empty.size<=_;decide,by show ByteArray.empty.size<=_;decide,z,z⟩,trivial⟩
theorem AHi:XO (F8 1) AGt 1:=by
 have:=(Ah0 (c:=AGI) (nd:=3) (i:=0) (fJ (g:=1) rfl) AHL AJx AJx AJx).2;have e:Gc (F8 1) AGI (((0:Nat):Int)+1) 3=(AGt,[⟨1,1,1,GS⟩],0):=AHX;rw[e]at this;exact this
theorem AHB{os:List FL}(h:∀i,i<os.length->AGS (os.getD i default)/\(os.getD i default).wf)(Bw:(os.getD 0 default).Ca=4)(AN:os.length<=7):∀k,k<=os.length->XO (F8 1) (AGr os k) (k+1)
 |0,_=>AHi
 |k+1,AE=>by
  have Fy:=AHB h Bw AN k AJv;have hs:=AHZ AJv (h k AJv).1 Bw (h 0 AJv).1.key Fy;have:=(Ah0 (c:=AGx os k) (nd:=3) Fy (AHM AJv (h k AJv).2) AJx AJx (by have:EW=4611686018427387904:=rfl;omega)).2;rw[show(((k+1:Nat):Int)+1)=2+(k:Int)by omega,hs]at this;exact this
theorem AHO:∀{l:List BX} {i:Nat} {c:Int},l.Pairwise (fun a b=>¬a.Ap=b.Ap)->i<l.length->(l.getD i default).Ap=c->l.eraseIdx i=l.filter (fun x=> !decide (x.Ap=c))
 |[],_,_,_,h,_=>absurd h (AB2 _)
 |x::l,0,c,AH,_,e=>by
  have e:x.Ap=c:=e;obtain⟨Af,h2⟩:=AJN.1 AH;rw[AJH,ABG e];show l=l.filter _;refine(AEd.2 fun y Bf=>?_).symm;have:=Af y Bf;rw[ABM (fun q=>this (e.trans q.symm))];rfl
 |x::l,i+1,c,AH,Ag,e=>by
  obtain⟨Af,h2⟩:=AJN.1 AH;have Ag:i<l.length:=(by simpa using Ag);have e:(l.getD i default).Ap=c:=e;have Ab:=Af _ (Hl (l:=l) Ag);rw[e]at Ab;rw[AJH,ABM Ab];show x::l.eraseIdx i=x::l.filter _;rw[AHO h2 Ag e]
theorem AI5(os:List FL)(n:Nat):(AGu os n).Pairwise (fun a b=>¬a.Ap=b.Ap):=by
 unfold AGu;rw[List.pairwise_map];refine(List.pairwise_lt_range (n:=n)).imp fun{a b} h e=>?_;have e:2+(a:Int)=2+(b:Int):=e;omega
structure AGN (os:List FL) (n:Nat) (P:Int->Bool) (S:Bv):Prop where
 acc:S.Aj=[AGo (if S.AA=[]then 0 else 2)]
 wt:S.AA=(AGu os n).filter (fun x=> !P x.Ap)
 dl:S.Bj=[]
 Hc:S.Bt=FP
def AGA(k:Nat):Dg:={AGI with Ca:=3,Ap:=2+(k:Int),Dn:=0,Bn:=0,AM:=mV}
theorem AHR{w:Ah}(h:w.S.Bj=[])(c q:Int):w.OR c q=w:=by
 have e:NJ [] c q=([],false,60):=rfl;unfold Ah.OR;simp only;rw[h,e,AA9 AJx]
theorem AIc{w:Ah}{c:Dg}(h:c.Ca=3):w.cmd c=w.UQ c:=by simp[Ah.cmd,h]
theorem AIv{S:Bv}{r:Int}(AK:S.Aj=[AGo r])(AE:∀x∈S.AA,x.AM.Al=AGq):KS S=none:=by
 unfold KS;refine AEe.2 fun i Ag=>?_;rw[AE _ (Hl Ag)];have BI:(BF [AGo r] AGq).1=AGo r:=zO (l:=[AGo r]) (AJT ..) (ADe.2 rfl);have Av:(Io (AGo r)).2=false:=by
  rw[<-ACH,l'];intro q;exact absurd q.2.2 (by show ¬[(⟨1,1,5,0⟩:BD)]=[];simp)
 rw[AK,BI,Av,Bool.and_false];rfl
theorem AIw{u:Ah}{r:Int}(hu:Ce u.S)(AK:u.S.Aj=[AGo r])(hs:u.S.Bt=FP)(AN:u.BQ=[])(Af:1<=u.ix)(h2:u.ix<=EW)(AE:∀x∈u.S.AA,x.AM.Al=AGq)(Bh:¬u.S.AA=[]->r=2):
 u.rest={u with S:={u.S with Aj:=[AGo (if u.S.AA=[]then 0 else 2)]},BQ:=[]}:=by
 have hh:LG u.S=u.S:=by
  unfold LG;rw[AA_ (by simp[Py,hs])]
 have hf:=hu.acc (AGo r) (by rw[AK];exact ADe.2 rfl);have Ag:u.S.Aj.map (Jv u.S u.ix)=[AGo (if u.S.AA=[]then 0 else 2)]:=by
  rw[AK,List.map_singleton,qh Af h2 hf.1 hf.2.1,Akv _ hs,Bool.or_false];by_cases z:u.S.AA=[]
  · rw[AA_ z,z];rfl
  · have hw:SG u.S.AA (AGo r).Al=true:=by
     obtain⟨x,Ab⟩:=List.exists_mem_of_ne_nil _ z;exact ADZ.2 ⟨x,Ab,ABG (AE x Ab)⟩
    rw[AA9 z,hw,AA_ rfl,Bh z];rfl
 have AHD:∀q,FT (AGo q)=false:=fun q=>by
  rw[<-ACH,fB];intro p;exact absurd p.2.2.2.1 (by show ¬[(⟨1,1,5,0⟩:BD)]=[];simp)
 unfold Ah.rest;simp only[hh,AN,AJS,Ag];rw[AJH,AHD];rfl
theorem AHw{k:Nat}(AE:k<7):(AGA k).wf:=by
 have z:A' 0:=DW;have o:A' 1:=⟨AJx,AJx⟩;exact⟨by show A' 3;exact⟨AJx,AJx⟩,⟨by show _<=2+(k:Int);omega,by show 2+(k:Int)<=_;omega⟩,o,z,z,z,by show ByteArray.empty.size<=_;decide,z,z,z,trivial,⟨z,by show ByteArray.empty.size<=_;decide,by show ByteArray.empty.size<=_;decide,z,z,z⟩,⟨z,z,z,by show ByteArray.empty.size<=_;decide,by show ByteArray.empty.size<=_;decide,z,z⟩,trivial⟩
theorem AIk{os:List FL}{n:Nat}{P:Int->Bool}(h:∀i,i<n->(os.getD i default).Al=AGq):∀x∈(AGu os n).filter (fun x=> !P x.Ap),x.AM.Al=AGq:=fun x Ab=>by
 obtain⟨Ab,_⟩:=ABZ.1 Ab;obtain⟨i,Ag,rfl⟩:=AB6.1 Ab;exact h i (ABw.1 Ag)
theorem AIp{os:List FL}{n k i:Nat}{P:Int->Bool}{Ei S:Bv}(jy:∀j,j<n->(os.getD j default).Al=AGq)(Ao:n<=7)(AE:k<n)(Fy:XO Ei S i)(g:AGN os n P S)(Ag:(i:Int)+1<=EW):
 (Gc S (AGA k) ((i:Int)+1) 3).2.2=0/\(Gc S (AGA k) ((i:Int)+1) 3).2.1=(if P (2+(k:Int))=true then[]else[⟨1,2+(k:Int),1,HN 190⟩])/\
  XO Ei (Gc S (AGA k) ((i:Int)+1) 3).1 (i+1)/\AGN os n (fun c=>P c||decide (c=2+(k:Int))) (Gc S (AGA k) ((i:Int)+1) 3).1:=by
 obtain⟨s1,s2⟩:=Ah0 (c:=AGA k) (nd:=3) Fy (AHw AJv) AJx AJx Ag;refine⟨s1,?_⟩;have AG0:=((Zc Fy.ints.ac Fy.ints.PZ Fy.ints.O8).1 Fy.right).1;have Ab:S.DX=i:=Fy.ix;have AIz:Ce {S with DX:=(i:Int)+1}:={AG0 with ix:=⟨by show 0<=(i:Int)+1;omega,Ag⟩,own:=⟨AG0.own.no,AG0.own.yes⟩,acc:=AG0.acc,wt:=AG0.wt,Hc:=AG0.Hc};have AGW:=dO (w:={S:={S with DX:=(i:Int)+1},ix:=(i:Int)+1,nd:=3,EF:=[],BQ:=[]}) (c:=AGA k) AIz (AHw AJv) (by show(3:Int)<=5;decide);have AHv:(AGu os n).filter (fun x=> !(P x.Ap||decide (x.Ap=2+(k:Int))))=((AGu os n).filter (fun x=> !P x.Ap)).filter (fun x=> !decide (x.Ap=2+(k:Int))):=by
  rw[List.filter_filter];refine List.filter_congr fun x _=>?_;cases P x.Ap<;>cases decide (x.Ap=2+(k:Int))<;>rfl
 -- what the command makes
 have key:∃M,({S:={S with DX:=(i:Int)+1},ix:=(i:Int)+1,nd:=3,EF:=[],BQ:=[]}:Ah).cmd (AGA k)={S:={S with DX:=(i:Int)+1,Bz:=M,AA:=(AGu os n).filter (fun x=> !(P x.Ap||decide (x.Ap=2+(k:Int))))},ix:=(i:Int)+1,nd:=3,EF:=(if P (2+(k:Int))=true then[]else[⟨1,2+(k:Int),1,HN 190⟩]),BQ:=[]}:=by
  rw[AIc rfl];unfold Ah.UQ;simp only;cases PA:Gd S.AA.length (fun j=>decide ((S.AA.getD j default).Ca=1)&&decide ((S.AA.getD j default).Ap=(AGA k).Ap)&&decide ((S.AA.getD j default).As=(AGA k).As))with
  |some j=>
   have Ay:j<S.AA.length:=Q4 PA;have AH:=(List.find?_range_eq_some.1 PA).1;simp only[ABb,ABa]at AH;have Bm:(S.AA.getD j default).Ap=2+(k:Int):=AH.1.2;have CC:P (2+(k:Int))=false:=by
    have:=Hl Ay;rw[g.wt]at this;have:=(ABZ.1 this).2;rw[<-g.wt,Bm]at this;simpa using this
   have he:S.AA.eraseIdx j=(AGu os n).filter (fun x=> !(P x.Ap||decide (x.Ap=2+(k:Int)))):=by
    rw[AHv,<-g.wt];exact AHO (by rw[g.wt];exact(AI5 os n).filter _) Ay Bm
   rw[CC,AA9 AJx];rw[AHR (by
    show(Ah.done _ _ _ _).S.Bj=[];unfold Ah.done;simp only;split<;>exact g.dl)]
   unfold Ah.done;simp only;split
   · exact⟨_,by rw[he];rfl⟩
   · exact⟨S.Bz,by rw[he];rfl⟩
  |none=>
   have O0:=AEe.1 PA;have CC:P (2+(k:Int))=true:=by
    cases z:P (2+(k:Int))with
    |true=>rfl
    |false=>
     exfalso;have hm:AGC (AGx os k)∈S.AA:=by
      rw[g.wt];refine ABZ.2 ⟨AB6.2 ⟨k,ABw.2 AE,rfl⟩,?_⟩;show(!P (2+(k:Int)))=true;rw[z];rfl
     obtain⟨j,Ay,e⟩:=UP hm;have:=O0 j Ay;rw[e]at this;simp[AGC,AGx,AGA,AGI]at this
   rw[CC,AA_ rfl];rw[AHR (by exact g.dl)];refine⟨S.Bz,?_⟩;have:(AGu os n).filter (fun x=> !(P x.Ap||decide (x.Ap=2+(k:Int))))=S.AA:=by
    rw[AHv,<-g.wt];refine AEd.2 fun x Ab=>?_;rw[g.wt]at Ab;have h2:=(ABZ.1 Ab).2;rw[ABe]at h2 ⊢;refine ABM fun q=>?_;rw[q,CC]at h2;cases h2
   rw[this]
 obtain⟨M,key⟩:=key;rw[key]at AGW;have hu:=AGW.ws;have AHy:∀x∈(AGu os n).filter (fun x=> !(P x.Ap||decide (x.Ap=2+(k:Int)))),x.AM.Al=AGq:=AIk (P:=fun c=>P c||decide (c=2+(k:Int))) jy;have Lc:¬(AGu os n).filter (fun x=> !(P x.Ap||decide (x.Ap=2+(k:Int))))=[]->(if S.AA=[]then(0:Int)else 2)=2:=fun z=>by
  refine AA9 fun q=>z ?_;rw[AHv,<-g.wt,q];rfl
 generalize F5:(AGu os n).filter (fun x=> !(P x.Ap||decide (x.Ap=2+(k:Int))))=W at key AGW hu AHy Lc;generalize Dv:(if P (2+(k:Int))=true then[]else[(⟨1,2+(k:Int),1,HN 190⟩:FE)])=L at key AGW hu ⊢;generalize Aa2:({S:={S with DX:=(i:Int)+1,Bz:=M,AA:=W},ix:=(i:Int)+1,nd:=3,EF:=L,BQ:=[]}:Ah)=u at key AGW hu;have Zp:u.S.Aj=[AGo (if S.AA=[]then 0 else 2)]:=by rw[<-Aa2];exact g.acc
 have mg:u.S.AA=W:=by rw[<-Aa2]
 have Aqc:u.S.Bt=FP:=by rw[<-Aa2];exact g.Hc
 have Aqd:u.BQ=[]:=by rw[<-Aa2]
 have AoB:u.ix=(i:Int)+1:=by rw[<-Aa2]
 have Ep:KS u.S=none:=AIv Zp (by rw[mg];exact AHy);have jC:=AIw hu Zp Aqc Aqd (by rw[AoB];omega) (by rw[AoB];exact Ag) (by rw[mg];exact AHy) (by rw[mg];exact Lc);have AvR:Gc S (AGA k) ((i:Int)+1) 3=(u.rest.S,u.rest.EF,0):=by
  unfold Gc;rw[AA9 (by rw[Fy.right];decide),AA9 AJx,AA9 (by simp only[ABk,ABa];omega)];simp only[key];rw[Ak_ Ep]
 rw[jC]at AvR;have B4:({u with S:={u.S with Aj:=[AGo (if u.S.AA=[]then 0 else 2)]},BQ:=[]}:Ah).EF=L:=by rw[<-Aa2]
 have DC:({u with S:={u.S with Aj:=[AGo (if u.S.AA=[]then 0 else 2)]},BQ:=[]}:Ah).S.Bj=[]:=by rw[<-Aa2];exact g.dl
 rw[AvR]at s2 ⊢;exact⟨B4,s2,rfl,mg.trans F5.symm,DC,Aqc⟩
theorem AIo(os:List FL)(n:Nat):AGN os n (fun _=>false) (AGr os n):=by
 refine⟨?_,?_,rfl,rfl⟩
 · show[AGw n]=[AGo (if AGu os n=[]then 0 else 2)];cases n with
   |zero=>rfl
   |succ m=>
    have:¬AGu os (m+1)=[]:=(by rw[AHI];simp);rw[AA9 this];rfl
 · show AGu os n=_;exact(AEd.2 fun _ _=>rfl).symm
end Go.Apw
