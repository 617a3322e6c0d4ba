/- Part 5 of shardGiven_holds. -/
import Derived.Test.YtalfaopffbkdnabGreatStm4

set_option maxRecDepth 20000
set_option maxHeartbeats 1000000
namespace Go
theorem ACu:∀{x y:Bool},(x&&y)=false↔x=false∨y=false:=@Bool.and_eq_false_iff
theorem ABz:∀{α:Type _} {i:Nat} {l:List α},List.length (List.take i l)=min i (List.length l):=@List.length_take
theorem ABh:∀{α:Type _} {a:α},¬a∈[]:=@List.not_mem_nil
theorem ACw:∀{n m:Nat} (k:Nat),n≤m→n*k≤m*k:=@Nat.mul_le_mul_right
end Go
open Int renaming fdiv_eq_ediv_of_nonneg→AD_
open List renaming all_eq_true→ABq,drop_eq_getElem_cons→AC1,find?_range_eq_some→ADz,length_cons→ABv,length_drop→ACt
open List.cons renaming injEq→ACj
open Nat renaming and_two_pow_sub_one_eq_mod→AJW,mod_eq_of_lt→ACJ,two_pow_add_eq_or_of_lt→AEo
open Option.some renaming injEq→ABX
open Prod.mk renaming injEq→ACg
open Go.A_
namespace Go.A_
section
def uj:List Nat->List Value->Nat->Value
 |i::h,v::vs,k=>bif Nat.beq i k then v else uj h vs k
 |_,_,_=>undef
def RG(gs:List (Nat×(Own->(Nat->Value)->Own)))(L:Own)(h:List Nat)(vs:List Value):Own:=h.foldl (fun L i=>match Ex gs i with
 |some g=>g L (uj h vs)
 |none=>L) L
def dm(gs:List (Nat×(Own->(Nat->Value)->Own)))(L:Own)(V:Nat->Value)(h:List Nat):Own:=h.foldl (fun L i=>match Ex gs i with
 |some g=>g L V
 |none=>L) L
def NZ(p:Nat)(q:C4):Own->Own
 |[]=>[]
 |x::r=>bif Nat.beq r.length p then q::r else x::NZ p q r
structure QF where
 u:Option Value
 at_:Value->List Atom
 e:Bool
def N5(vs:List (Nat×Value))(hs:List (Nat×QF))(i:Nat):Option Value:=match Ex hs i with
 |some k=>k.u
 |none=>Ex vs i
def hl(hs:List (Nat×QF))(i:Nat)(u:Value):List Atom:=match Ex hs i with
 |some k=>k.at_ u
 |none=>[]
def X_(hs:List (Nat×QF)):List Nat:=(hs.filter (·.2.e)).map (·.1)
def fr(Gk:List (Nat×(Value->Prop)))(i:Nat)(u:Value):Prop:=match Ex Gk i with
 |some p=>p u
 |none=>True
@[reducible] def HT(es:List Nat)(CA:List (List Nat))(Gk:List (Nat×(Value->Prop)))(l:List Oper)(vs:List (Nat×Value))(hs:List (Nat×QF))(Hp:List Nat->List Value->Own):Iq:=
 ⟨GF l,fr Gk,hl hs,N5 vs hs,Hp,es,CA⟩
def hj{β:Type 1}:List Atom->List Atom->(List Atom->Option β)->Option β
 |[],B,k=>k B
 |a::r,B,k=>hj r B fun x=>k (a::x)
def rl{β:Type 1}:Own->(Own->Option β)->Option β
 |[],k=>k []
 |q::r,k=>rl r fun x=>k (q::x)
structure wk where
 es:List Nat
 CA:List (List Nat)
 vs:List (Nat×Value)
 L:Own
 E:Env
 A:List Atom
def tq{β:Type 1}:List Nat->Nat->(List Nat->Option β)->Option β
 |[],i,k=>k [i]
 |j::r,i,k=>tq r i fun x=>k (j::x)
def tr{β:Type 1}:List (List Nat)->List Nat->(List (List Nat)->Option β)->Option β
 |[],i,k=>k [i]
 |j::r,i,k=>tr r i fun x=>k (j::x)
def AjK{β:Type 1}(e:Bool)(h:List Nat)(i:Nat)(CA:List (List Nat))(z:List Nat->List (List Nat)->Option β):Option β:=match e with
 |true=>tq h i fun DI=>tr CA DI fun SQ=>z DI SQ
 |false=>z h CA
def Zd{P:Program}(B1:List (Nat×List Nat))(rs:List (Nat×Nat))(ks:List (Nat×Oa P))(hs:List (Nat×QF))(xs:List (List Nat))(QG:List Nat->Own)(V:Nat->Value)(ops:Array Oper):List Oper->Nat->List Nat->List (List Nat)->List (Nat×Value)->Env->Option wk
 |[],_,h,CA,vs,E=>rl (QG h) fun L=>some ⟨h,match xs with
  |[]=>CA
  |_=>xs,vs,L,E,[]⟩
 |o::r,i,h,CA,vs,E=>match Ex hs i with
  |some k=>AjK k.e h i CA fun DI SQ=>match o.dst with
   |some d=>match k.u with
    |some u=>match Zd B1 rs ks hs xs QG V ops r (i+1) DI SQ vs ((d,u)::E)with
     |some ⟨h8,SQ,cV,DZ,SP,Vx⟩=>hj (k.at_ u) Vx fun A=>some ⟨h8,SQ,cV,DZ,SP,A⟩
     |none=>none
    |none=>match Zd B1 rs ks hs xs QG V ops r (i+1) DI SQ vs ((d,V i)::E)with
     |some ⟨h8,SQ,cV,DZ,SP,Vx⟩=>hj (k.at_ (V i)) Vx fun A=>some ⟨h8,SQ,cV,DZ,SP,A⟩
     |none=>none
   |none=>Zd B1 rs ks hs xs QG V ops r (i+1) DI SQ vs E
  |none=>match o.dst with
   |none=>none
   |some d=>match(match o.guard with
    |none=>some true
    |some (j,b)=>R0 ops E j b)with
    |some true=>match uk B1 rs (TB ks i) E (QG h) o.op with
     |some u=>Zd B1 rs ks hs xs QG V ops r (i+1) h CA ((i,u)::vs) ((d,u)::E)
     |none=>none
    |some false=>Zd B1 rs ks hs xs QG V ops r (i+1) h CA ((i,undef)::vs) ((d,undef)::E)
    |none=>none
def hP{β:Type 1}(l:List Oper):Env->(Env->Option β)->Option β
 |[],k=>k []
 |(d,v)::r,k=>bif YC l d then hP l r k else hP l r fun e=>k ((d,v)::e)
def Ot{P:Program}(B1:List (Nat×List Nat))(os:List Nat)(rs:List (Nat×Nat))(ks:List (Nat×Oa P))(hs:List (Nat×QF))(V:Nat->Value)(env:Env)(D:List Atom)(l:List Oper)(s:Iq):List Oper->Nat->Option (List (Jl×Jl))
 |[],_=>some []
 |o::r,i=>match Ex hs i with
  |some _=>Ot B1 os rs ks hs V env D l s r (i+1)
  |none=>match kA B1 os rs l.toArray (Eo l (EC s.Eb V) (GF l i)++env) ((Ro l s i).map fun h=>s.L h (h.map V)) D (TB ks i) none (s.Eb i) o with
   |some a=>match Ot B1 os rs ks hs V env D l s r (i+1)with
    |some b=>some (a++b)
    |none=>none
   |none=>none
def XL(c:Cj)(hs:List (Nat×QF))(l:List Oper)(s:Iq)(env:Env)(D:List Atom):List Oper->Nat->Prop
 |[],_=>True
 |o::r,i=>match Ex hs i with
  |some _=>(∀(V:Nat->Value) (Az:List Atom),E7 (fun k=>s.Eb k=none->s.ok k (V k)) (s.E8 i)->
   E7 (fun h=>Cb (Nf c l s (D++Az) i h (h.map V)) c l.toArray [o] (Eo l (EC s.Eb V) (s.E8 i)++env) (s.L h (h.map V)) (FM s.rs (EC s.Eb V) (s.E8 i)++(D++Az))) (Ro l s i))/\XL c hs l s env D r (i+1)
  |none=>XL c hs l s env D r (i+1)
theorem yT{hs:List (Nat×QF)}{i:Nat}(h:Ex hs i=none):(X_ hs).contains i=false:=by
 have Af:(hs.map (·.1)).contains i=false:=by rw[q9,h];rfl
 rw[<-ACH]at Af ⊢;intro h2;apply Af;simp only[X_,List.contains_eq_mem,ABa]at h2 ⊢;obtain⟨p,AH,rfl⟩:=AB6.1 h2;exact AB6.2 ⟨p,(List.mem_filter.1 AH).1,rfl⟩
section
variable{c:Cj} {l:List Oper} {env:Env} {L:Own} {D:List Atom} {vs:List (Nat×Value)} {ks:List (Nat×Oa c.P)} {hs:List (Nat×QF)} {Hp:List Nat->List Value->Own} {Gk:List (Nat×(Value->Prop))} {es:List Nat} {CA:List (List Nat)}
theorem Afu[Cr:J7 c.P]{V:Nat->Value}{i:Nat}{o:Oper}{A:List (Jl×Jl)}(Bw:l[i]? =some o)(EY:LX l c.n=true)(he:∀p∈A,p.1=p.2)(Ag:Ex hs i=none)(aV:X_ hs=es)
 (h:kA Cr.B1 Cr.os Cr.rs l.toArray (Eo l (EC (N5 vs hs) V) (GF l i)++env) ((Ro l (HT es CA Gk l vs hs Hp) i).map fun h=>Hp h (h.map V)) D (TB ks i) none (N5 vs hs i) o=some A)(Az:List Atom):
 ∀h∈Ro l (HT es CA Gk l vs hs Hp) i,Cb (Nf c l (HT es CA Gk l vs hs Hp) (D++Az) i h (h.map V)) c l.toArray [o] (Eo l (EC (N5 vs hs) V) (GF l i)++env) (Hp h (h.map V)) (FM (HT es CA Gk l vs hs Hp).rs (EC (N5 vs hs) V) (GF l i)++(D++Az)):=by
 intro hh hm;have AaY:Hp hh (hh.map V)∈(Ro l (HT es CA Gk l vs hs Hp) i).map fun h=>Hp h (h.map V):=AB6.2 ⟨hh,hm,rfl⟩;have Abx:(HT es CA Gk l vs hs Hp).Eu.contains i=false:=aV▸yT Ag;have Wi:Bg D (FM (HT es CA Gk l vs hs Hp).rs (EC (N5 vs hs) V) (GF l i)++(D++Az)):=fun t Av=>ABm.2 (.inr (ABm.2 (.inl Av)));obtain⟨dst,op,t,p,af,g⟩:=o;have Abz:CN l i=dst:=by simp[CN,Bw]
 have Ts:∀d,dst=some d->Nat.blt d c.n=true:=fun d e=>gh EY Bw e;have La:∀{d:Nat} {u:Value},dst=some d->N5 vs hs i=some u->Cb (Nf c l (HT es CA Gk l vs hs Hp) (D++Az) i hh (hh.map V)) c l.toArray [] ((d,u)::(Eo l (EC (N5 vs hs) V) (GF l i)++env)) (Hp hh (hh.map V)) (FM (HT es CA Gk l vs hs Hp).rs (EC (N5 vs hs) V) (GF l i)++(D++Az)):=fun{d u} e hu=>
  nl (Ig (d:=d) (u:=u) (Abz.trans e) (by simp[C1]) (by
   unfold Qp;rw[Abx];rfl) (by show(match N5 vs hs i with|some v=>u=v|none=>fr Gk i u);rw[hu]) (by
   show Bg (hl hs i u) _;unfold hl;rw[Ag];exact Bg.nil) l1)
 unfold kA at h;simp only at h;split at h
 · rename_i CK;unfold rT at h;split at h
   · rename_i d An8 Aj0 p' Al6 Fb;simp only[Oper.mk.injEq]at Fb;obtain⟨rfl,rfl,rfl,rfl,rfl,_⟩:=Fb;simp only at h;split at h
     · rename_i u hu;have k:=Aih (c:=c) (ops:=l.toArray) (t:=t) (p:=p) (af:=af) (Ts _ rfl) h he AaY Wi (La rfl hu);cases g with
       |none=>exact k
       |some g=>exact iy CK k
     · cases h
   · cases h
   · cases h
 · rename_i CK;split at h
   · rename_i d;split at h
     · rename_i u hu;injection h with h;subst h;have B4:=he _ (ABx ..);simp only[Jl.v.injEq,ACj,ACs]at B4;subst B4;cases g with
       |none=>cases CK
       |some g=>exact iu CK (Ts _ rfl) (La rfl hu)
     · cases h
   · cases h
 · cases h
theorem kx[Cr:J7 c.P](EY:LX l c.n=true)(aV:X_ hs=es):∀{r:List Oper} {i:Nat} {A:(Nat->Value)->List (Jl×Jl)},(∀k,r[k]? =l[i+k]?)->(∀V,Ot Cr.B1 Cr.os Cr.rs ks hs V env D l (HT es CA Gk l vs hs Hp) r i=some (A V))->(∀V,∀p∈A V,p.1=p.2)->XL c hs l (HT es CA Gk l vs hs Hp) env D r i->OG c l (HT es CA Gk l vs hs Hp) env D r i
 |[],_,_,_,_,_,_=>trivial
 |o::r,i,A,Bh,h,he,Dk=>by
  have NL:∀k,r[k]? =l[i+1+k]? :=fun k=>by
   have:=Bh (k+1);simp only[ABC]at this;rw[this];congr 1;omega
  have Bw:l[i]? =some o:=(by have:=Bh 0;simpa using this.symm);simp only[XL]at Dk;simp only[Ot]at h;cases Ag:Ex hs i with
  |some k=>
   rw[Ag]at Dk;simp only[Ag]at h;exact⟨Dk.1,kx EY aV NL h he Dk.2⟩
  |none=>
   rw[Ag]at Dk;simp only[Ag]at h;refine⟨fun V Az _=>E7.intro fun hh hm=>?_,?_⟩
   · have h:=h V;split at h
     · rename_i a AK;split at h
       · rename_i b Aq;injection h with h;exact Afu Bw EY (fun p AH=>he V p (h▸ABm.2 (.inl AH))) Ag aV AK Az hh hm
       · cases h
     · cases h
   · refine kx EY aV NL (A:=fun V=>(Ot Cr.B1 Cr.os Cr.rs ks hs V env D l (HT es CA Gk l vs hs Hp) r (i+1)).getD []) (fun V=>?_) (fun V p AH=>?_) Dk
     · have h:=h V;split at h
       · split at h
         · rename_i b Aq;rw[Aq];rfl
         · cases h
       · cases h
     · have h:=h V;split at h
       · split at h
         · rename_i b Aq;rw[Aq]at AH;injection h with h;exact he V p (h▸ABm.2 (.inr AH))
         · cases h
       · cases h
theorem y'{V:Nat->Value}{i:Nat}{v:Value}(h2:Pv l env=true)(Ag:C1 (Eo l V (List.range l.length).reverse++env) i=some v):C1 (Eo l V (List.range l.length)++env) i=some v:=by
 have Re:∀{k d:Nat},CN l k=some d->k<l.length/\Qi env d=false/\∀Gh,CN l Gh=some d->Gh=k:=by
  intro k d AJ;have Lb:∀{k d:Nat},CN l k=some d->k<l.length:=fun{k d} AJ=>by
   rcases ACq k l.length with h|h
   · exact h
   · simp[CN,ACd h]at AJ
  have:=ABq.1 h2 k (ABw.2 (Lb AJ));rw[AJ]at this;simp only[ABb,ABe]at this;refine⟨Lb AJ,this.1,fun Gh MC=>?_⟩;have Bo:=ABq.1 this.2 Gh (ABw.2 (Lb MC));rw[MC]at Bo;simpa using Eq.symm (by simpa using Bo)
 rcases YO Ag with h|⟨Ao,h⟩
 · obtain⟨k,AE,AJ,rfl⟩:=U' h;obtain⟨F4,_,GY⟩:=Re AJ;exact q' (j5 AJ GY (ABw.2 F4))
 · rw[ra,h];cases Ab:C1 (Eo l V (List.range l.length)) i with
   |none=>rfl
   |some u=>
    obtain⟨k,_,AJ,_⟩:=U' Ab;have:=(Re AJ).2.1;rw[bw h]at this;cases this
theorem AiC[Cr:J7 c.P]{Q:AuE}{id:Nat}(ks:List (Nat×Oa c.P))(hs:List (Nat×QF))(Gk:List (Nat×(Value->Prop)))(_:List (List Nat))(Hp:List Nat->List Value->Own){Ob:(Nat->Value)->Own}{E:(Nat->Value)->Env}{XI:(Nat->Value)->List Atom}
 (h:∀V,(kz l (Gv l env) (HT es CA Gk l vs hs Hp) c.n,Hp [] [],X_ hs,(Ot Cr.B1 Cr.os Cr.rs ks hs V (Gv l env) D l (HT es CA Gk l vs hs Hp) l 0).isSome,(Ot Cr.B1 Cr.os Cr.rs ks hs V (Gv l env) D l (HT es CA Gk l vs hs Hp) l 0).map (fun A=>A.map Prod.fst),(Q6 (HT es CA Gk l vs hs Hp)).map (fun h=>Hp h (h.map V)),Eo l (EC (N5 vs hs) V) (List.range l.length).reverse++Gv l env,FM (HT es CA Gk l vs hs Hp).rs (EC (N5 vs hs) V) ((List.range l.length).filter fun i=>(CN l i).isSome))=(true,L,es,true,(Ot Cr.B1 Cr.os Cr.rs ks hs V (Gv l env) D l (HT es CA Gk l vs hs Hp) l 0).map (fun A=>A.map Prod.snd),(Q6 (HT es CA Gk l vs hs Hp)).map (fun _=>Ob V),E V,XI V))
 (Dk:XL c hs l (HT es CA Gk l vs hs Hp) (Gv l env) D l 0)(k:∀V:Nat->Value,E7 (fun i=>(CN l i).isSome=true->N5 vs hs i=none->fr Gk i (V i)) (List.range l.length)->Eg c Q .normal (E V) (Ob V) (XI V++D)):CF c (.region id l.toArray true) Q env L D:=by
 simp only[ACg]at h
 suffices hw:CF c (.region id l.toArray true) Q (Gv l env) L D from fun a w f=>hw a w ⟨f.size,f.GV,fun i v Ag=>f.at_ i v (ah Ag)⟩
 generalize Gv l env=env at*;have Ab0:∀V,Ot Cr.B1 Cr.os Cr.rs ks hs V env D l (HT es CA Gk l vs hs Hp) l 0=some ((Ot Cr.B1 Cr.os Cr.rs ks hs V env D l (HT es CA Gk l vs hs Hp) l 0).getD []):=fun V=>by
  obtain⟨A,Cl⟩:=ACC.1 (h V).2.2.2.1;rw[Cl];rfl
 have AK:∀V,((Ot Cr.B1 Cr.os Cr.rs ks hs V env D l (HT es CA Gk l vs hs Hp) l 0).getD []).map Prod.fst=((Ot Cr.B1 Cr.os Cr.rs ks hs V env D l (HT es CA Gk l vs hs Hp) l 0).getD []).map Prod.snd:=fun V=>by
  obtain⟨A,Cl⟩:=ACC.1 (h V).2.2.2.1;have:=(h V).2.2.2.2.1;rw[Cl]at this ⊢;simpa using this
 have CM:=(h fun _=>undef).1;have AaX:=(h fun _=>undef).2.1;simp only[kz,ABb]at CM;obtain⟨⟨⟨h2,C'⟩,EY⟩,BB⟩:=CM;refine lh (HT es CA Gk l vs hs Hp) Ob Cr.fq (by
  simp only[fP,ABb];exact⟨⟨⟨⟨nY,h2⟩,C'⟩,EY⟩,BB⟩) AaX (E7.intro fun hh hm V=>?_) (kx EY (h fun _=>undef).2.2.1 (fun k=>by simp) Ab0 (fun V=>eqs (AK V)) Dk) fun V LC=>?_
 · exact List.map_inj_left.1 (h V).2.2.2.2.2.1 hh hm
 · obtain⟨_,_,_,_,_,_,D2,EO⟩:=h V;rw[EO];intro a w f st AR;refine k V LC a w ⟨f.size,f.GV,fun i v Ag=>f.at_ i v ?_⟩ st AR;rw[<-D2]at Ag;exact y' h2 Ag
theorem Vh[Cr:J7 c.P]{Q:AuE}{id:Nat}(ks:List (Nat×Oa c.P))(hs:List (Nat×QF))(Gk:List (Nat×(Value->Prop)))(xs:List (List Nat))(gs:List (Nat×(Own->(Nat->Value)->Own))){Ob:(Nat->Value)->Own}{E:(Nat->Value)->Env}{XI:(Nat->Value)->List Atom}
 (_:∀V,(hP l env fun e=>Zd Cr.B1 Cr.rs ks hs xs (dm gs L V) V l.toArray l 0 [] [[]] [] e)=some ⟨es,CA,vs,Ob V,E V,XI V⟩)
 (h:∀V,(kz l (Gv l env) (HT es CA Gk l vs hs (RG gs L)) c.n,X_ hs,(Ot Cr.B1 Cr.os Cr.rs ks hs V (Gv l env) D l (HT es CA Gk l vs hs (RG gs L)) l 0).isSome,(Ot Cr.B1 Cr.os Cr.rs ks hs V (Gv l env) D l (HT es CA Gk l vs hs (RG gs L)) l 0).map (fun A=>A.map Prod.fst),(Q6 (HT es CA Gk l vs hs (RG gs L))).map (fun h=>RG gs L h (h.map V)),Eo l (EC (N5 vs hs) V) (List.range l.length).reverse++Gv l env,FM (HT es CA Gk l vs hs (RG gs L)).rs (EC (N5 vs hs) V) ((List.range l.length).filter fun i=>(CN l i).isSome))=(true,es,true,(Ot Cr.B1 Cr.os Cr.rs ks hs V (Gv l env) D l (HT es CA Gk l vs hs (RG gs L)) l 0).map (fun A=>A.map Prod.snd),(Q6 (HT es CA Gk l vs hs (RG gs L))).map (fun _=>Ob V),E V,XI V))
 (Dk:XL c hs l (HT es CA Gk l vs hs (RG gs L)) (Gv l env) D l 0)(k:∀V:Nat->Value,E7 (fun i=>(CN l i).isSome=true->N5 vs hs i=none->fr Gk i (V i)) (List.range l.length)->Eg c Q .normal (E V) (Ob V) (XI V++D)):CF c (.region id l.toArray true) Q env L D:=by
 refine AiC ks hs Gk xs (RG gs L) (fun V=>?_) Dk k;have h:=h V;simp only[ACg]at h ⊢;exact⟨h.1,rfl,h.2⟩
theorem dt{α:Type}{q:α->Prop}{x:α}{r:List α}(h:q x)(k:E7 q r):E7 q (x::r):=⟨h,k⟩
def b8(D:List Atom):List Nat->Option (List Atom)
 |[]=>some []
 |i::r=>match D[i]? with
  |some a=>match b8 D r with
   |some B=>some (a::B)
   |none=>none
  |none=>none
theorem sg:∀{ix:List Nat} {Dd:List Atom},b8 D ix=some Dd->Bg Dd D
 |[],Dd,h=>by
  simp only[b8,ABX]at h;subst h;exact Bg.nil
 |i::r,Dd,h=>by
  simp only[b8]at h;split at h
  · rename_i a AK;split at h
    · rename_i B Ew;injection h with h;subst h;intro t Av;rcases ABf.1 Av with rfl|Av
      · exact AA' AK
      · exact sg Ew t Av
    · cases h
  · cases h
theorem Vu{Q:AuE}{x:Exit}{Dd:List Atom}(ix:List Nat)(h:b8 D ix=some Dd)(k:Eg c Q x env L Dd):Eg c Q x env L D:=fun a w f st AR=>k a w f st (AR.sub (sg h))
end
end
section
section
variable{c:Cj} {ops:Array Oper} {AP:Cj->Array Oper->List Oper->Env->Own->List Atom->Prop} [Dr:Ip AP] {env Jb ay Ta:Env} {L:Own} {D:List Atom} {l rest:List Oper} {d:Nat} {t u:Bool}
include Dr
theorem D4[Cr:J7 c.P](i n:Nat)(Im:List Nat)
 (h:(C1 env i,run c.n Cr.B1 Cr.os ops L n [] l ((i,.bool false)::env))=(some (.bool t),some (rest,(d,.bool false)::Ta,[])))(he:res Im Ta=some Jb)
 (hw:t=true->(∀{e:Env} {Dd:List Atom},res Im e=some Jb->Bg D Dd->AP c ops rest ((d,.bool u)::e) L Dd)->AP c ops l ((i,.bool true)::env) L D)
 (K:AP c ops rest ((d,.bool (t&&u))::Jb) L D):AP c ops l env L D:=by
 simp only[ACg]at h;exact ts h.1 (fun Av=>hw Av fun Af DK=>qv K Av (TP Af) DK) (fun Av=>TR Cr.okF Cr.Qq n h.2 rfl (qw K Av (TP he) Bg.refl))
theorem DE[Cr:J7 c.P](i n:Nat)(Im:List Nat)
 (h:(C1 env i,run c.n Cr.B1 Cr.os ops L n [] l ((i,.bool true)::env))=(some (.bool t),some (rest,(d,.bool true)::Ta,[])))(he:res Im Ta=some Jb)
 (hw:t=false->(∀{e:Env} {Dd:List Atom},res Im e=some Jb->Bg D Dd->AP c ops rest ((d,.bool u)::e) L Dd)->AP c ops l ((i,.bool false)::env) L D)
 (K:AP c ops rest ((d,.bool (t||u))::Jb) L D):AP c ops l env L D:=by
 simp only[ACg]at h;exact tt h.1 (fun Av=>hw Av fun Af DK=>qx K Av (TP Af) DK) (fun Av=>TR Cr.okF Cr.Qq n h.2 rfl (qy K Av (TP he) Bg.refl))
theorem Cp{α:Type}{r:Be α}(i:Nat){v:Value}{xs:List α}(Ag:D[i]? =some (@Atom.mk (List α) (@FI α r) v xs))(k:v.oneCell'=true->AP c ops l env L D):AP c ops l env L D:=
 GO (fun _ _ h=>Fh (h _ (AA' Ag))) k
end
def Zi:Nat->Own->Option (Own×Own)
 |0,L=>some ([],L)
 |n+1,q::L=>match Zi n L with
  |some (A,B)=>some (q::A,B)
  |none=>none
 |_+1,[]=>none
theorem lU:∀{n:Nat} {L A B:Own},Zi n L=some (A,B)->L=A++B
 |0,L,A,B,h=>by
  simp only[Zi,ABX,ACg]at h;obtain⟨rfl,rfl⟩:=h;rfl
 |n+1,q::L,A,B,h=>by
  simp only[Zi]at h;split at h
  · rename_i Vx AlZ e;simp only[ABX,ACg]at h;obtain⟨rfl,rfl⟩:=h;rw[lU e];rfl
  · cases h
section
variable{c:Cj} {ops:Array Oper} {Q:AuE} {env:Env} {L:Own} {D:List Atom} {rest:List Oper} {d:Nat} {t:TypeId} {p:String} {af:Array Edge}
theorem Hs(n:Nat){L0 Lr:Own}{f:FuncId}{vs:List Value}{DB:List Atom}{β:Type}{R:β->Value->Prop}{DM:β->Value->Own}{out:β->Value->List Atom}(h:Aw c.P f vs L0 DB R DM out)(CM:GU c.P f)(Dv:Zi n L=some (L0,Lr)){xs:List Operand}{ats:Array TypeId}
 (Hm:Gq env xs=some vs)(Cl:Bg DB D)(Ao:Nat.blt d c.n=true)(k:∀y v,R y v->Cb Q c ops rest ((d,v)::env) (DM y v++Lr) (out y v++D)):
 Cb Q c ops (⟨some d,.call {callee:=.value (.func f),args:=xs.toArray,argTypes:=ats},t,p,af,none⟩::rest) env L D:=XY h CM (lU Dv) Hm Cl Ao k
theorem VX(n:Nat){L0 Lr:Own}{f:FuncId}{vs us:List Value}{DB:List Atom}{β:Type}{R:β->Value->Prop}{DM:β->Value->Own}{out:β->Value->List Atom}{first cap:Array Value}{x:Operand}(h:Aw c.P f us L0 DB R DM out)(CM:GU c.P f)(Dv:Zi n L=some (L0,Lr)){xs:List Operand}{ats:Array TypeId}
 (Ab:AL env x=some (.func (.func f) first cap))(Hm:Gq env xs=some vs)(I1:first.toList++vs++cap.toList=us)(Cl:Bg DB D)(Ao:Nat.blt d c.n=true)(k:∀y v,R y v->Cb Q c ops rest ((d,v)::env) (DM y v++Lr) (out y v++D)):
 Cb Q c ops (⟨some d,.call {callee:=.value x,args:=xs.toArray,argTypes:=ats},t,p,af,none⟩::rest) env L D:=hD h CM (lU Dv) Ab Hm I1 Cl Ao k
end
theorem Da{a b:Nat}(h:Nat.ble (a+1) b=true):a<b:=ABy h
theorem JP{α:Type}[Inhabited α]{l:List α}{i:Nat}(h:i<l.length:=by omega):l[i]? =some (l.getD i default):=Ly h
end
end Go.A_
namespace Go.Apw
theorem wrap_u8(u:Nat):IntKind.u8.wrap (u:Int)=((u % 256:Nat):Int):=by simp[IntKind.wrap,IntKind.signed,IntKind.bits]
theorem wrap_u64(u:Nat):IntKind.u64.wrap (u:Int)=((u % 18446744073709551616:Nat):Int):=by simp[IntKind.wrap,IntKind.signed,IntKind.bits]
theorem Vb(n a:Nat):(BitVec.ofInt n (a:Int)).toNat=a % 2^n:=by simp
theorem AfS{a b:Nat}(AK:a<256)(Aq:b<256):MY .or .u8 (a:Int) (b:Int)=((a|||b:Nat):Int):=by
 have h:a|||b<2^8:=Nat.or_lt_two_pow AK Aq;show IntKind.u8.wrap ((BitVec.ofInt 8 (a:Int)|||BitVec.ofInt 8 (b:Int)).toNat:Int)=_;rw[BitVec.toNat_or,Vb,Vb];rw[ACJ (show a<2^8 from AK),ACJ (show b<2^8 from Aq),wrap_u8,ACJ h]
theorem w1{a b:Nat}(AK:a<256)(Aq:b<256):MY .and .u8 (a:Int) (b:Int)=((a&&& b:Nat):Int):=by
 have h:a&&& b<2^8:=Nat.and_lt_two_pow a Aq;show IntKind.u8.wrap ((BitVec.ofInt 8 (a:Int)&&& BitVec.ofInt 8 (b:Int)).toNat:Int)=_;rw[BitVec.toNat_and,Vb,Vb];rw[ACJ (show a<2^8 from AK),ACJ (show b<2^8 from Aq),wrap_u8,ACJ h]
theorem rX{a b:Nat}(AK:a<2^64)(Aq:b<2^64):MY .or .u64 (a:Int) (b:Int)=((a|||b:Nat):Int):=by
 have h:a|||b<2^64:=Nat.or_lt_two_pow AK Aq;show IntKind.u64.wrap ((BitVec.ofInt 64 (a:Int)|||BitVec.ofInt 64 (b:Int)).toNat:Int)=_;rw[BitVec.toNat_or,Vb,Vb];rw[ACJ AK,ACJ Aq,wrap_u64,ACJ h]
theorem w0{a b:Nat}(AK:a<2^64)(Aq:b<2^64):MY .and .u64 (a:Int) (b:Int)=((a&&& b:Nat):Int):=by
 have h:a&&& b<2^64:=Nat.and_lt_two_pow a Aq;show IntKind.u64.wrap ((BitVec.ofInt 64 (a:Int)&&& BitVec.ofInt 64 (b:Int)).toNat:Int)=_;rw[BitVec.toNat_and,Vb,Vb];rw[ACJ AK,ACJ Aq,wrap_u64,ACJ h]
theorem AfQ(u:Nat):MY .or .u8 (IntKind.u8.wrap (u:Int)) 128=((u % 128+128:Nat):Int):=by
 rw[wrap_u8];have h:=AfS (a:=u % 256) (b:=128) AJv AJx;rw[show((128:Int))=((128:Nat):Int)from rfl,h];congr 1;have e:u % 256=128*(u % 256 / 128)+u % 128:=AJv;have Bh:u % 128<2^7:=AJv;have Af:u % 256 / 128=0\/u % 256 / 128=1:=AJv;have k:128|||u % 128=128+u % 128:=by
  have:=AEo Bh 1;simpa using this.symm
 rcases Af with Af|Af
 · rw[Af]at e;rw[e,Nat.mul_zero,AB0,Nat.or_comm,k];omega
 · rw[Af]at e;rw[e,Nat.mul_one,<-k,Nat.or_comm,<-Nat.or_assoc,Nat.or_self,k];omega
theorem nf(c:UInt8):MY .and .u8 (c.toNat:Int) 127=((c.toNat % 128:Nat):Int):=by
 rw[show((127:Int))=((127:Nat):Int)from rfl,w1 c.toNat_lt AJx];congr 1;exact AJW c.toNat 7
theorem AjB(u:Nat):((u:Int)).fdiv (2^min (7:Int).toNat IntKind.u64.bits)=((u / 128:Nat):Int):=by
 rw[AD_ _ AJx];rfl
theorem th(u:Nat):((u:Int)).fdiv (2^min (1:Int).toNat IntKind.u64.bits)=((u / 2:Nat):Int):=by
 rw[AD_ _ AJx];rfl
theorem lN(a k:Nat)(h:a*2^k<2^64)(AE:k<=63):IntKind.u64.wrap ((a:Int)*2^min ((k:Nat):Int).toNat IntKind.u64.bits)=((a*2^k:Nat):Int):=by
 have e:min ((k:Nat):Int).toNat IntKind.u64.bits=k:=by simp only[Int.toNat_natCast];show min k 64=k;omega
 rw[e,show(a:Int)*2^k=((a*2^k:Nat):Int)by push_cast;rfl,wrap_u64,ACJ h]
theorem rW{v a k:Nat}(BC:v<2^k)(h:a*2^k<2^64)(AE:k<=63):MY .or .u64 (v:Int) ((a*2^k:Nat):Int)=((v+a*2^k:Nat):Int):=by
 have Acm:v<2^64:=ACp BC (Nat.pow_le_pow_right AJx AJv);rw[rX Acm h,Nat.or_comm,Nat.mul_comm a,<-AEo BC];congr 1;omega
theorem and_1{v:Nat}(BC:v<2^64):MY .and .u64 (v:Int) 1=((v % 2:Nat):Int):=by
 rw[show((1:Int))=((1:Nat):Int)from rfl,w0 BC AJx];congr 1;exact AJW v 1
theorem AfP{v:Nat}(BC:v<2^63):MY .or .u64 ((v*2:Nat):Int) 1=((v*2+1:Nat):Int):=by
 rw[show((1:Int))=((1:Nat):Int)from rfl,rX AJv AJx];congr 1;have:=AEo (i:=1) (b:=1) AJx v;rw[Nat.mul_comm v 2];simpa using this.symm
theorem n'{x:Int}(h:A' x):MY .xor .i64 (if IntKind.i64.signed then-1 else IntKind.i64.max) x= -x-1:=by
 obtain⟨Af,h2⟩:=h;have e:(BitVec.ofInt 64 (-1)^^^BitVec.ofInt 64 x)=BitVec.ofInt 64 (-x-1):=by
  have a:BitVec.ofInt 64 (-1)=BitVec.allOnes 64:=AJx;rw[a,BitVec.allOnes_xor];have:BitVec.ofInt 64 (-x-1)= ~~~ BitVec.ofInt 64 x:=by
   apply BitVec.eq_of_toInt_eq;rw[BitVec.toInt_not,BitVec.toInt_ofInt];have t:(BitVec.ofInt 64 x).toNat=(x % 2^64).toNat:=(by simp[BitVec.toNat_ofInt]);rw[t];simp only[Int.bmod];omega
  rw[this]
 show IntKind.i64.wrap _=_;have:∀y:Int,A' y->IntKind.i64.wrap ((BitVec.ofInt 64 y).toNat:Int)=y:=by
  intro y Bf;obtain⟨Bo,BB⟩:=Bf;have t:(BitVec.ofInt 64 y).toNat=(y % 2^64).toNat:=(by simp[BitVec.toNat_ofInt]);rw[t];simp only[IntKind.wrap,IntKind.signed,IntKind.bits];simp;omega
 rw[<-this (-x-1) ⟨AJv,AJv⟩,<-e];rfl
theorem bq{v:Nat}(h:v<9223372036854775808):IntKind.i64.wrap (v:Int)=(v:Int):=Uf ⟨AJv,AJv⟩
def GN(v:Nat):List UInt8:=
 if h:v<128 then[UInt8.ofNat v]else UInt8.ofNat (v % 128+128)::GN (v / 128)
termination_by v
decreasing_by omega
def XF(x:Int):Nat:=if x<0 then(-x-1).toNat*2+1 else x.toNat*2
def Ul(v:Nat):Int:=if v % 2=1 then-((v / 2:Nat):Int)-1 else((v / 2:Nat):Int)
theorem AlS(x:Int):Ul (XF x)=x:=by
 unfold XF Ul;split<;>split<;>omega
theorem AlY{x:Int}(h:A' x):XF x<2^64:=by
 obtain⟨Af,h2⟩:=h;unfold XF;split<;>omega
theorem AlR{v:Nat}(h:v<2^64):A' (Ul v):=by
 unfold Ul;split<;>constructor<;>omega
def HH(i v:Nat):List UInt8->Nat×Nat×Nat
 |[]=>(0,0,20)
 |c::r=>
  if i=9/\1<c.toNat then(0,0,21)
  else if 128<=c.toNat then HH (i+1) (v+c.toNat % 128*2^(7*i)) r
  else if c.toNat=0/\0<i then(0,0,21)
  else(v+c.toNat % 128*2^(7*i),i+1,0)
structure Bb where
 pos:Nat
 fault:Nat
def Bb.step(s:Bb)(n e:Nat):Bb:=if s.fault≠0 then s else if e≠0 then{s with fault:=e}else{s with pos:=s.pos+n}
def Bb.val{α:Type}(s:Bb)(d x:α)(e:Nat):α:=if s.fault≠0 then d else if e≠0 then d else x
def L9(J:List UInt8)(most:Int):Nat×Nat×Nat:=
 let(v,n,e):=HH 0 0 J
 if e=0/\max most 0<(v:Int)then(0,0,22)else if e≠0 then(0,0,e)else(v,n,0)
def N3(J:List UInt8)(most:Int):List UInt8×Nat×Nat:=
 let(v,n,e):=L9 J most
 if e≠0 then([],0,e)else if J.length<n+v then([],0,20)else((J.drop n).take v,n+v,0)
def xO:List UInt8->UInt8×Nat×Nat
 |[]=>(0,0,20)
 |c::_=>(c,1,0)
abbrev VJ(α:Type):=Bb->α×Bb
def Lj{α:Type}(J:List UInt8)(d:α)(f:List UInt8->α×Nat×Nat):VJ α:=fun s=>
 let(x,n,e):=f (J.drop s.pos)
 (s.val d x e,s.step n e)
def rdNum(J:List UInt8):VJ Nat:=Lj J 0 (HH 0 0)
def D6(J:List UInt8):VJ Int:=fun s=>(Ul (rdNum J s).1,(rdNum J s).2)
def k5(J:List UInt8):VJ UInt8:=Lj J 0 xO
def DT(J:List UInt8)(most:Int):VJ Nat:=Lj J 0 (fun l=>L9 l most)
def Gm(J:List UInt8)(most:Int):VJ (List UInt8):=Lj J [] (fun l=>N3 l most)
def QZ(x:Int):List UInt8:=GN (XF x)
def RS(b:List UInt8):List UInt8:=GN b.length++b
@[reducible] def TF(p:Nat×Nat×Nat):Value:=.tuple #[.int .u64 (p.1:Int),.int .i64 (p.2.1:Int),.int .i64 (p.2.2:Int)]
@[reducible] def WI(p:Nat×Nat×Nat):Value:=.tuple #[.int .i64 (p.1:Int),.int .i64 (p.2.1:Int),.int .i64 (p.2.2:Int)]
theorem mB{u:Nat}(h:u<2^64):IntKind.u64.wrap (u:Int)=(u:Int):=by rw[wrap_u64,ACJ h]
theorem gf{i c:Nat}(Ag:i<=9)(Bm:i=9->c<=1):c % 128*2^(7*i)<2^64:=by
 have h:i=0\/i=1\/i=2\/i=3\/i=4\/i=5\/i=6\/i=7\/i=8\/i=9:=AJv;rcases h with rfl|rfl|rfl|rfl|rfl|rfl|rfl|rfl|rfl|rfl<;>simp only[Nat.reduceMul,Nat.reducePow]<;>omega
theorem gd{i c v:Nat}(BC:v<2^(7*i)):v+c % 128*2^(7*i)<2^(7*(i+1)):=by
 have h:c % 128<128:=Nat.mod_lt _ AJx;have e:2^(7*(i+1))=128*2^(7*i):=by rw[Nat.mul_add,Nat.pow_add,Nat.mul_comm]
 rw[e];have:c % 128*2^(7*i)<=127*2^(7*i):=ACw _ AJv;omega
theorem yD{α:Type}{J:List α}{i:Nat}{c:α}(h:J[i]? =some c):J.drop i=c::J.drop (i+1):=by
 obtain⟨Ag,rfl⟩:=ABF.1 h;exact AC1 Ag
theorem AhB{i:Nat}(h:i<=9):2^(7*i)<=2^63:=Nat.pow_le_pow_right AJx AJv
theorem YV:∀(J:List UInt8) (i v:Nat),i<=9->v<2^(7*i)->(HH i v J).1<2^64/\(HH i v J).2.1<=i+J.length/\((HH i v J).2.2≠0->(HH i v J).1=0/\(HH i v J).2.1=0)
 |[],i,v,_,_=>by simp[HH]
 |c::r,i,v,Ag,BC=>by
  have Bm:=c.toNat_lt;simp only[HH];split
  · exact⟨AJx,ABg _,fun _=>⟨rfl,rfl⟩⟩
  · rename_i Af;split
    · have Gf:i+1<=9:=AJv;have h:=YV r (i+1) (v+c.toNat % 128*2^(7*i)) Gf (gd BC);refine⟨h.1,?_,h.2.2⟩;have:=h.2.1;simp only[ABv];omega
    · split
      · exact⟨AJx,ABg _,fun _=>⟨rfl,rfl⟩⟩
      · refine⟨?_,by simp only[ABv];omega,fun h=>absurd rfl h⟩;show v+c.toNat % 128*2^(7*i)<2^64;by_cases EO:i=9
        · subst EO;have:c.toNat % 128<=1:=AJv;simp only[Nat.reduceMul,Nat.reducePow]at BC ⊢;omega
        · have h:=gd (c:=c.toNat) BC;have:=AhB (i:=i+1) AJv;omega
theorem S7{J:List UInt8}{most:Int}{v n e:Nat}(h:HH 0 0 J=(v,n,e)):L9 J most=if e=0/\max most 0<(v:Int)then(0,0,22)else if e≠0 then(0,0,e)else(v,n,0):=by
 simp only[L9,h]
theorem aa(J:List UInt8)(most:Int):((L9 J most).1:Int)<=max most 0/\(L9 J most).2.1<=J.length/\((L9 J most).2.2≠0->(L9 J most).1=0/\(L9 J most).2.1=0):=by
 have Aq:=YV J 0 0 AJx AJx;rcases h:HH 0 0 J with⟨v,n,e⟩;rw[h]at Aq;simp only[AB0]at Aq;rw[S7 h];split
 · exact⟨by show(0:Int)<=_;omega,ABg _,fun _=>⟨rfl,rfl⟩⟩
 · split
   · exact⟨by show(0:Int)<=_;omega,ABg _,fun _=>⟨rfl,rfl⟩⟩
   · rename_i Af h2;have:e=0:=AJv;exact⟨by show(v:Int)<=_;omega,Aq.2.1,fun h=>absurd rfl h⟩
theorem l7{J:List UInt8}{most:Int}{v n e:Nat}(h:L9 J most=(v,n,e)):N3 J most=if e≠0 then([],0,e)else if J.length<n+v then([],0,20)else((J.drop n).take v,n+v,0):=by
 simp only[N3,h]
theorem l6(J:List UInt8)(most:Int):(N3 J most).2.1<=J.length/\((N3 J most).2.2≠0->(N3 J most).1=[]/\(N3 J most).2.1=0)/\((N3 J most).1.length:Int)<=max most 0:=by
 have Aq:=aa J most;rcases h:L9 J most with⟨v,n,e⟩;rw[h]at Aq;rw[l7 h];simp only at Aq;split
 · exact⟨ABg _,fun _=>⟨rfl,rfl⟩,by show(0:Int)<=_;omega⟩
 · split
   · exact⟨ABg _,fun _=>⟨rfl,rfl⟩,by show(0:Int)<=_;omega⟩
   · exact⟨by show n+v<=_;omega,fun h=>absurd rfl h,by simp only[ABz,ACt];omega⟩
theorem SI{x:Int}(Bw:0<=x)(Af:x<18446744073709551616):IntKind.u64.wrap x=x:=by
 have:=mB (u:=x.toNat) AJv
 rwa [Int.toNat_of_nonneg Bw]at this
theorem rr{x:Int}(h:A' x):0<=max x 0/\max x 0<9223372036854775808:=by
 obtain⟨Af,h2⟩:=h;omega
theorem step_pos{J:List UInt8}{s:Bb}{n e:Nat}(AH:s.pos<=J.length)(Ao:n<=(J.drop s.pos).length):(s.step n e).pos<=J.length:=by
 rw[ACt]at Ao;unfold Bb.step;split
 · exact AH
 · split
   · exact AH
   · show s.pos+n<=_;omega
theorem fL{α:Type}{J:List UInt8}{d:α}{f:List UInt8->α×Nat×Nat}{s:Bb}(AH:s.pos<=J.length)(BI:∀l,(f l).2.1<=l.length):(Lj J d f s).2.pos<=J.length:=by
 rcases h:f (J.drop s.pos)with⟨x,n,e⟩;have:=BI (J.drop s.pos);rw[h]at this;simp only[Lj,h];exact step_pos AH this
theorem Aia{J:List UInt8}{s:Bb}(AH:s.pos<=J.length):(rdNum J s).2.pos<=J.length:=fL AH fun l=>by have:=(YV l 0 0 AJx AJx).2.1;omega
theorem Hb{J:List UInt8}{s:Bb}(AH:s.pos<=J.length):(D6 J s).2.pos<=J.length:=Aia AH
theorem W_{J:List UInt8}{most:Int}{s:Bb}(AH:s.pos<=J.length):(DT J most s).2.pos<=J.length:=fL AH fun l=>(aa l most).2.1
theorem Vf{J:List UInt8}{most:Int}{s:Bb}(AH:s.pos<=J.length):(Gm J most s).2.pos<=J.length:=fL AH fun l=>(l6 l most).1
theorem sM(J:List UInt8)(s:Bb):(rdNum J s).1<2^64:=by
 have:=(YV (J.drop s.pos) 0 0 AJx AJx).1;simp only[rdNum,Lj,Bb.val];split
 · decide
 · split
   · decide
   · exact this
theorem HL(J:List UInt8)(s:Bb):A' (D6 J s).1:=AlR (sM J s)
theorem toNat_ofNat{n:Nat}(h:n<256):(UInt8.ofNat n).toNat=n:=by simp;omega
theorem AfR(v:Nat):MY .or .u8 (IntKind.u8.wrap (v:Int)) 128=((UInt8.ofNat (v % 128+128)).toNat:Int):=by rw[AfQ,toNat_ofNat AJv]
theorem wrap_u8'{v:Nat}(h:v<256):IntKind.u8.wrap (v:Int)=((UInt8.ofNat v).toNat:Int):=by rw[wrap_u8,toNat_ofNat h,ACJ h]
theorem tg{y:Int}(Bw:0<=y)(Af:y<9223372036854775808):IntKind.u64.wrap (y*2^min (1:Int).toNat IntKind.u64.bits)=((y.toNat*2:Nat):Int):=by
 have:=lN y.toNat 1 AJv AJx;rw[Int.toNat_of_nonneg Bw]at this;exact this
theorem ec{v:Nat}(h:v<128):GN v=[UInt8.ofNat v]:=by rw[GN];simp[h]
theorem eb{v:Nat}(h:128<=v):GN v=UInt8.ofNat (v % 128+128)::GN (v / 128):=by
 rw[GN];rw[dif_neg AJv]
theorem sm{v n:Nat}(h:128<=v)(Ao:n<=9)(BC:v<2^(64-7*n)):n+1<=9/\v / 128<2^(64-7*(n+1)):=by
 have h:n=0\/n=1\/n=2\/n=3\/n=4\/n=5\/n=6\/n=7\/n=8\/n=9:=AJv;rcases h with rfl|rfl|rfl|rfl|rfl|rfl|rfl|rfl|rfl|rfl<;>simp only[Nat.reduceMul,Nat.reduceAdd,Nat.reduceSub,Nat.reducePow]at BC ⊢ <;>omega
theorem oC:∀(n v:Nat),n<=9->v<2^(64-7*(9-n))->(GN v).length<=n+1
 |n,v,Ao,BC=>by
  by_cases h:v<128
  · rw[ec h];simp
  · have q:=sm (v:=v) (n:=9-n) AJv AJv BC;obtain⟨m,rfl⟩:∃m,n=m+1:=⟨n-1,AJv⟩;have:=oC m (v / 128) AJv (by rw[show 9-m=9-(m+1)+1 by omega];exact q.2);rw[eb AJv];simp only[ABv];omega
theorem yU{v:Nat}(h:v<2^64):(GN v).length<=10:=oC 9 v AJx h
@[reducible] def CG(p:Nat)(bv:Value)(s:Bb):C4:=AO p 249 [bv,.int .i64 (s.pos:Int),.int .i64 (s.fault:Int)]
@[reducible] def Pb(n e:Nat):Value:=.tuple #[.int .i64 (n:Int),.int .i64 (e:Int)]
structure Fs where
 Ev:Int
 Hi:Int
 IX:Int
 A6:ByteArray
 Bc:ByteArray
 Ap:Int
 As:Int
 deriving DecidableEq,Inhabited
@[reducible] def ED(x:Fs):List Value:=[.int .i64 x.Ev,.int .i64 x.Hi,.int .i64 x.IX,.string x.A6,.string x.Bc,.int .i64 x.Ap,.int .i64 x.As]
def Fs.wf(x:Fs):Prop:=A' x.Ev/\A' x.Hi/\A' x.IX/\x.A6.size<=9223372036854775807/\x.Bc.size<=9223372036854775807/\A' x.Ap/\A' x.As
@[reducible] def Ai2:Shape Fs where
 H:=Unit
 size:=7
 cells x h:=ED x
 sub x h:=[]
 wf:=Fs.wf
 len _ _:=rfl
 one:=by
  intro S w x h Av u hu;simp only[ED,ABf,ABh,ABi]at hu;rcases hu with rfl|rfl|rfl|rfl|rfl|rfl|rfl<;>first|rfl
@[reducible] instance Ru:Be Fs:=Be.D5 Ai2
theorem sa{x:Fs}:AuF Ru E_ 0 1 x x.Ev:=by
 rintro S w cs ⟨h,rfl,hs,hw⟩;exact⟨rfl,hw.1⟩
theorem AgK{x:Fs}:AuF Ru E_ 1 1 x x.Hi:=by
 rintro S w cs ⟨h,rfl,hs,hw⟩;exact⟨rfl,hw.2.1⟩
theorem AgL{x:Fs}:AuF Ru E_ 2 1 x x.IX:=by
 rintro S w cs ⟨h,rfl,hs,hw⟩;exact⟨rfl,hw.2.2.1⟩
theorem AgM{x:Fs}:AuF Ru Nl 3 1 x x.A6:=by
 rintro S w cs ⟨h,rfl,hs,hw⟩;exact⟨rfl,hw.2.2.2.1⟩
theorem AgN{x:Fs}:AuF Ru Nl 4 1 x x.Bc:=by
 rintro S w cs ⟨h,rfl,hs,hw⟩;exact⟨rfl,hw.2.2.2.2.1⟩
theorem AgO{x:Fs}:AuF Ru E_ 5 1 x x.Ap:=by
 rintro S w cs ⟨h,rfl,hs,hw⟩;exact⟨rfl,hw.2.2.2.2.2.1⟩
theorem AgP{x:Fs}:AuF Ru E_ 6 1 x x.As:=by
 rintro S w cs ⟨h,rfl,hs,hw⟩;exact⟨rfl,hw.2.2.2.2.2.2⟩
structure FL where
 Ca:Int
 Al:ByteArray
 EL:ByteArray
 B2:Int
 A6:Int
 Bc:Int
 deriving DecidableEq,Inhabited
@[reducible] def MZ(x:FL):List Value:=[.int .i64 x.Ca,.string x.Al,.string x.EL,.int .i64 x.B2,.int .i64 x.A6,.int .i64 x.Bc]
def FL.wf(x:FL):Prop:=A' x.Ca/\x.Al.size<=9223372036854775807/\x.EL.size<=9223372036854775807/\A' x.B2/\A' x.A6/\A' x.Bc
@[reducible] def Ai1:Shape FL where
 H:=Unit
 size:=6
 cells x h:=MZ x
 sub x h:=[]
 wf:=FL.wf
 len _ _:=rfl
 one:=by
  intro S w x h Av u hu;simp only[MZ,ABf,ABh,ABi]at hu;rcases hu with rfl|rfl|rfl|rfl|rfl|rfl<;>first|rfl
@[reducible] instance Ve:Be FL:=Be.D5 Ai1
theorem AgE{x:FL}:AuF Ve E_ 0 1 x x.Ca:=by
 rintro S w cs ⟨h,rfl,hs,hw⟩;exact⟨rfl,hw.1⟩
theorem AgF{x:FL}:AuF Ve Nl 1 1 x x.Al:=by
 rintro S w cs ⟨h,rfl,hs,hw⟩;exact⟨rfl,hw.2.1⟩
theorem AgG{x:FL}:AuF Ve Nl 2 1 x x.EL:=by
 rintro S w cs ⟨h,rfl,hs,hw⟩;exact⟨rfl,hw.2.2.1⟩
theorem AgH{x:FL}:AuF Ve E_ 3 1 x x.B2:=by
 rintro S w cs ⟨h,rfl,hs,hw⟩;exact⟨rfl,hw.2.2.2.1⟩
theorem AgI{x:FL}:AuF Ve E_ 4 1 x x.A6:=by
 rintro S w cs ⟨h,rfl,hs,hw⟩;exact⟨rfl,hw.2.2.2.2.1⟩
theorem AgJ{x:FL}:AuF Ve E_ 5 1 x x.Bc:=by
 rintro S w cs ⟨h,rfl,hs,hw⟩;exact⟨rfl,hw.2.2.2.2.2⟩
structure GC where
 A6:Int
 Bc:Int
 deriving DecidableEq,Inhabited
@[reducible] def Od(x:GC):List Value:=[.int .i64 x.A6,.int .i64 x.Bc]
def GC.wf(x:GC):Prop:=A' x.A6/\A' x.Bc
@[reducible] def Ai3:Shape GC where
 H:=Unit
 size:=2
 cells x h:=Od x
 sub x h:=[]
 wf:=GC.wf
 len _ _:=rfl
 one:=by
  intro S w x h Av u hu;simp only[Od,ABf,ABh,ABi]at hu;rcases hu with rfl|rfl<;>first|rfl
@[reducible] instance k0:Be GC:=Be.D5 Ai3
theorem Ag'{x:GC}:AuF k0 E_ 0 1 x x.A6:=by
 rintro S w cs ⟨h,rfl,hs,hw⟩;exact⟨rfl,hw.1⟩
theorem Aha{x:GC}:AuF k0 E_ 1 1 x x.Bc:=by
 rintro S w cs ⟨h,rfl,hs,hw⟩;exact⟨rfl,hw.2⟩
structure F_ where
 Ap:Int
 As:Int
 DH:Int
 B2:Int
 deriving DecidableEq,Inhabited
@[reducible] def Lx(x:F_):List Value:=[.int .i64 x.Ap,.int .i64 x.As,.int .i64 x.DH,.int .i64 x.B2]
def F_.wf(x:F_):Prop:=A' x.Ap/\A' x.As/\A' x.DH/\A' x.B2
@[reducible] def Ai0:Shape F_ where
 H:=Unit
 size:=4
 cells x h:=Lx x
 sub x h:=[]
 wf:=F_.wf
 len _ _:=rfl
 one:=by
  intro S w x h Av u hu;simp only[Lx,ABf,ABh,ABi]at hu;rcases hu with rfl|rfl|rfl|rfl<;>first|rfl
@[reducible] instance ck:Be F_:=Be.D5 Ai0
theorem Agx{x:F_}:AuF ck E_ 0 1 x x.Ap:=by
 rintro S w cs ⟨h,rfl,hs,hw⟩;exact⟨rfl,hw.1⟩
theorem Agy{x:F_}:AuF ck E_ 1 1 x x.As:=by
 rintro S w cs ⟨h,rfl,hs,hw⟩;exact⟨rfl,hw.2.1⟩
theorem Agz{x:F_}:AuF ck E_ 2 1 x x.DH:=by
 rintro S w cs ⟨h,rfl,hs,hw⟩;exact⟨rfl,hw.2.2.1⟩
theorem AgA{x:F_}:AuF ck E_ 3 1 x x.B2:=by
 rintro S w cs ⟨h,rfl,hs,hw⟩;exact⟨rfl,hw.2.2.2⟩
structure BD where
 Bn:Int
 G0:Int
 DV:Int
 Fc:Int
 deriving DecidableEq,Inhabited
@[reducible] def JH(x:BD):List Value:=[.int .i64 x.Bn,.int .i64 x.G0,.int .i64 x.DV,.int .i64 x.Fc]
def BD.wf(x:BD):Prop:=A' x.Bn/\A' x.G0/\A' x.DV/\A' x.Fc
@[reducible] def MN:Shape BD where
 H:=Unit
 size:=4
 cells x h:=JH x
 sub x h:=[]
 wf:=BD.wf
 len _ _:=rfl
 one:=by
  intro S w x h Av u hu;simp only[JH,ABf,ABh,ABi]at hu;rcases hu with rfl|rfl|rfl|rfl<;>first|rfl
@[reducible] instance Mj:Be BD:=Be.D5 MN
theorem Agt{x:BD}:AuF Mj E_ 0 1 x x.Bn:=by
 rintro S w cs ⟨h,rfl,hs,hw⟩;exact⟨rfl,hw.1⟩
theorem Agu{x:BD}:AuF Mj E_ 1 1 x x.G0:=by
 rintro S w cs ⟨h,rfl,hs,hw⟩;exact⟨rfl,hw.2.1⟩
theorem Agv{x:BD}:AuF Mj E_ 2 1 x x.DV:=by
 rintro S w cs ⟨h,rfl,hs,hw⟩;exact⟨rfl,hw.2.2.1⟩
theorem Agw{x:BD}:AuF Mj E_ 3 1 x x.Fc:=by
 rintro S w cs ⟨h,rfl,hs,hw⟩;exact⟨rfl,hw.2.2.2⟩
structure De where
 Jd:Int
 JM:Int
 JJ:Int
 JK:Int
 deriving DecidableEq,Inhabited
@[reducible] def GM(x:De):List Value:=[.int .i64 x.Jd,.int .i64 x.JM,.int .i64 x.JJ,.int .i64 x.JK]
def De.wf(x:De):Prop:=A' x.Jd/\A' x.JM/\A' x.JJ/\A' x.JK
@[reducible] def AiX:Shape De where
 H:=Unit
 size:=4
 cells x h:=GM x
 sub x h:=[]
 wf:=De.wf
 len _ _:=rfl
 one:=by
  intro S w x h Av u hu;simp only[GM,ABf,ABh,ABi]at hu;rcases hu with rfl|rfl|rfl|rfl<;>first|rfl
@[reducible] instance ch:Be De:=Be.D5 AiX
theorem Agf{x:De}:AuF ch E_ 0 1 x x.Jd:=by
 rintro S w cs ⟨h,rfl,hs,hw⟩;exact⟨rfl,hw.1⟩
theorem Agg{x:De}:AuF ch E_ 1 1 x x.JM:=by
 rintro S w cs ⟨h,rfl,hs,hw⟩;exact⟨rfl,hw.2.1⟩
theorem Agh{x:De}:AuF ch E_ 2 1 x x.JJ:=by
 rintro S w cs ⟨h,rfl,hs,hw⟩;exact⟨rfl,hw.2.2.1⟩
theorem Agi{x:De}:AuF ch E_ 3 1 x x.JK:=by
 rintro S w cs ⟨h,rfl,hs,hw⟩;exact⟨rfl,hw.2.2.2⟩
structure Df where
 Ap:Int
 As:Int
 deriving DecidableEq,Inhabited
@[reducible] def QT(x:Df):List Value:=[.int .i64 x.Ap,.int .i64 x.As]
def Df.wf(x:Df):Prop:=A' x.Ap/\A' x.As
@[reducible] def Ze:Shape Df where
 H:=Unit
 size:=2
 cells x h:=QT x
 sub x h:=[]
 wf:=Df.wf
 len _ _:=rfl
 one:=by
  intro S w x h Av u hu;simp only[QT,ABf,ABh,ABi]at hu;rcases hu with rfl|rfl<;>first|rfl
@[reducible] instance Y9:Be Df:=Be.D5 Ze
theorem Ags{x:Df}:AuF Y9 E_ 0 1 x x.Ap:=by
 rintro S w cs ⟨h,rfl,hs,hw⟩;exact⟨rfl,hw.1⟩
theorem r'{x:Df}:AuF Y9 E_ 1 1 x x.As:=by
 rintro S w cs ⟨h,rfl,hs,hw⟩;exact⟨rfl,hw.2⟩
structure BL where
 Ap:Int
 As:Int
 HV:Bool
 Cm:De
 deriving DecidableEq,Inhabited
@[reducible] def H9(x:BL):List Value:=[.int .i64 x.Ap,.int .i64 x.As,.bool x.HV,.int .i64 x.Cm.Jd,.int .i64 x.Cm.JM,.int .i64 x.Cm.JJ,.int .i64 x.Cm.JK]
def BL.wf(x:BL):Prop:=A' x.Ap/\A' x.As/\True/\x.Cm.wf
@[reducible] def cy:Shape BL where
 H:=Unit
 size:=7
 cells x h:=H9 x
 sub x h:=[]
 wf:=BL.wf
 len _ _:=rfl
 one:=by
  intro S w x h Av u hu;simp only[H9,ABf,ABh,ABi]at hu;rcases hu with rfl|rfl|rfl|rfl|rfl|rfl|rfl<;>first|rfl
@[reducible] instance W8:Be BL:=Be.D5 cy
theorem AgB{x:BL}:AuF W8 E_ 0 1 x x.Ap:=by
 rintro S w cs ⟨h,rfl,hs,hw⟩;exact⟨rfl,hw.1⟩
theorem AgC{x:BL}:AuF W8 E_ 1 1 x x.As:=by
 rintro S w cs ⟨h,rfl,hs,hw⟩;exact⟨rfl,hw.2.1⟩
theorem AgD{x:BL}:AuF W8 cr 2 1 x x.HV:=by
 rintro S w cs ⟨h,rfl,hs,hw⟩;exact⟨rfl,trivial⟩
theorem fw{x:BL}:AuF W8 ch 3 4 x x.Cm:=by
 rintro S w cs ⟨h,rfl,hs,hw⟩;exact⟨(),rfl,by simp,hw.2.2.2⟩
structure Bx where
 Ap:Int
 As:Int
 Al:ByteArray
 EL:ByteArray
 B2:Int
 DN:Int
 DO:Int
 C3:Int
 deriving DecidableEq,Inhabited
@[reducible] def H8(x:Bx):List Value:=[.int .i64 x.Ap,.int .i64 x.As,.string x.Al,.string x.EL,.int .i64 x.B2,.int .i64 x.DN,.int .i64 x.DO,.int .i64 x.C3]
def Bx.wf(x:Bx):Prop:=A' x.Ap/\A' x.As/\x.Al.size<=9223372036854775807/\x.EL.size<=9223372036854775807/\A' x.B2/\A' x.DN/\A' x.DO/\A' x.C3
@[reducible] def Kx:Shape Bx where
 H:=Unit
 size:=8
 cells x h:=H8 x
 sub x h:=[]
 wf:=Bx.wf
 len _ _:=rfl
 one:=by
  intro S w x h Av u hu;simp only[H8,ABf,ABh,ABi]at hu;rcases hu with rfl|rfl|rfl|rfl|rfl|rfl|rfl|rfl<;>first|rfl
@[reducible] instance ML:Be Bx:=Be.D5 Kx
theorem Agl{x:Bx}:AuF ML E_ 0 1 x x.Ap:=by
 rintro S w cs ⟨h,rfl,hs,hw⟩;exact⟨rfl,hw.1⟩
theorem Agm{x:Bx}:AuF ML E_ 1 1 x x.As:=by
 rintro S w cs ⟨h,rfl,hs,hw⟩;exact⟨rfl,hw.2.1⟩
theorem Agn{x:Bx}:AuF ML Nl 2 1 x x.Al:=by
 rintro S w cs ⟨h,rfl,hs,hw⟩;exact⟨rfl,hw.2.2.1⟩
theorem Ago{x:Bx}:AuF ML Nl 3 1 x x.EL:=by
 rintro S w cs ⟨h,rfl,hs,hw⟩;exact⟨rfl,hw.2.2.2.1⟩
theorem Agp{x:Bx}:AuF ML E_ 4 1 x x.B2:=by
 rintro S w cs ⟨h,rfl,hs,hw⟩;exact⟨rfl,hw.2.2.2.2.1⟩
theorem Agq{x:Bx}:AuF ML E_ 5 1 x x.DN:=by
 rintro S w cs ⟨h,rfl,hs,hw⟩;exact⟨rfl,hw.2.2.2.2.2.1⟩
theorem Agr{x:Bx}:AuF ML E_ 6 1 x x.DO:=by
 rintro S w cs ⟨h,rfl,hs,hw⟩;exact⟨rfl,hw.2.2.2.2.2.2.1⟩
theorem r_{x:Bx}:AuF ML E_ 7 1 x x.C3:=by
 rintro S w cs ⟨h,rfl,hs,hw⟩;exact⟨rfl,hw.2.2.2.2.2.2.2⟩
structure BX where
 Ca:Int
 Ap:Int
 As:Int
 Bn:Int
 DH:Int
 AM:FL
 deriving DecidableEq,Inhabited
@[reducible] def Hh(x:BX):List Value:=[.int .i64 x.Ca,.int .i64 x.Ap,.int .i64 x.As,.int .i64 x.Bn,.int .i64 x.DH,.int .i64 x.AM.Ca,.string x.AM.Al,.string x.AM.EL,.int .i64 x.AM.B2,.int .i64 x.AM.A6,.int .i64 x.AM.Bc]
def BX.wf(x:BX):Prop:=A' x.Ca/\A' x.Ap/\A' x.As/\A' x.Bn/\A' x.DH/\x.AM.wf
@[reducible] def Zf:Shape BX where
 H:=Unit
 size:=11
 cells x h:=Hh x
 sub x h:=[]
 wf:=BX.wf
 len _ _:=rfl
 one:=by
  intro S w x h Av u hu;simp only[Hh,ABf,ABh,ABi]at hu;rcases hu with rfl|rfl|rfl|rfl|rfl|rfl|rfl|rfl|rfl|rfl|rfl<;>first|rfl
@[reducible] instance Ha:Be BX:=Be.D5 Zf
theorem Ahb{x:BX}:AuF Ha E_ 0 1 x x.Ca:=by
 rintro S w cs ⟨h,rfl,hs,hw⟩;exact⟨rfl,hw.1⟩
theorem Ahc{x:BX}:AuF Ha E_ 1 1 x x.Ap:=by
 rintro S w cs ⟨h,rfl,hs,hw⟩;exact⟨rfl,hw.2.1⟩
theorem Ahd{x:BX}:AuF Ha E_ 2 1 x x.As:=by
 rintro S w cs ⟨h,rfl,hs,hw⟩;exact⟨rfl,hw.2.2.1⟩
theorem Ahe{x:BX}:AuF Ha E_ 3 1 x x.Bn:=by
 rintro S w cs ⟨h,rfl,hs,hw⟩;exact⟨rfl,hw.2.2.2.1⟩
theorem Ahf{x:BX}:AuF Ha E_ 4 1 x x.DH:=by
 rintro S w cs ⟨h,rfl,hs,hw⟩;exact⟨rfl,hw.2.2.2.2.1⟩
theorem Ahg{x:BX}:AuF Ha Ve 5 6 x x.AM:=by
 rintro S w cs ⟨h,rfl,hs,hw⟩;exact⟨(),rfl,by simp,hw.2.2.2.2.2⟩
structure ZR where
 CZ:Int
 Hi:ByteArray
 Dn:Int
 deriving DecidableEq,Inhabited
structure QM where
 CZ:Int
 Al:ByteArray
 G0:Int
 It:Int
 deriving DecidableEq,Inhabited
structure AD where
 Al:ByteArray
 Cs:GC
 BT:Int
 Cn:Int
 A0:List BD
 BG:F_
 deriving DecidableEq,Inhabited
@[reducible] def A3(x:AD)(AS:Value):List Value:=[.string x.Al,.int .i64 x.Cs.A6,.int .i64 x.Cs.Bc,.int .i64 x.BT,.int .i64 x.Cn,AS,.int .i64 x.BG.Ap,.int .i64 x.BG.As,.int .i64 x.BG.DH,.int .i64 x.BG.B2]
def AD.wf(x:AD):Prop:=x.Al.size<=9223372036854775807/\x.Cs.wf/\A' x.BT/\A' x.Cn/\True/\x.BG.wf
@[reducible] def Nn:Shape AD where
 H:=Value
 size:=10
 cells x h:=A3 x h
 sub x h:=[⟨h,x.A0⟩]
 wf:=AD.wf
 len _ _:=rfl
 one:=by
  intro S w x h Av u hu;have JZ:=Fh (Av _ (ABx ..));simp only[A3,ABf,ABh,ABi]at hu;rcases hu with rfl|rfl|rfl|rfl|rfl|rfl|rfl|rfl|rfl|rfl<;>first|rfl|exact JZ
@[reducible] instance GR:Be AD:=Be.D5 Nn
theorem kM{x:AD}:AuF GR Nl 0 1 x x.Al:=by
 rintro S w cs ⟨h,rfl,hs,hw⟩;exact⟨rfl,hw.1⟩
theorem r9{x:AD}:AuF GR k0 1 2 x x.Cs:=by
 rintro S w cs ⟨h,rfl,hs,hw⟩;exact⟨(),rfl,by simp,hw.2.1⟩
theorem Agc{x:AD}:AuF GR E_ 3 1 x x.BT:=by
 rintro S w cs ⟨h,rfl,hs,hw⟩;exact⟨rfl,hw.2.2.1⟩
theorem Agd{x:AD}:AuF GR E_ 4 1 x x.Cn:=by
 rintro S w cs ⟨h,rfl,hs,hw⟩;exact⟨rfl,hw.2.2.2.1⟩
theorem Age{x:AD}:AuF GR (@FI BD Mj) 5 1 x x.A0:=by
 rintro S w cs ⟨h,rfl,hs,hw⟩;exact j4 (hs _ (ABx ..))
theorem fv{x:AD}:AuF GR ck 6 4 x x.BG:=by
 rintro S w cs ⟨h,rfl,hs,hw⟩;exact⟨(),rfl,by simp,hw.2.2.2.2.2⟩
structure Bv where
 CZ:Int
 DX:Int
 Du:Bool
 A6:ByteArray
 Bc:ByteArray
 Dn:Int
 Aj:List AD
 Bz:List BL
 AA:List BX
 Bj:List Bx
 CX:List Df
 Bt:Fs
 CW:Fs
 Cf:List UInt8
 Jc:Int
 JL:Int
 GW:Int
 deriving DecidableEq,Inhabited
@[reducible] def BY(x:Bv)(AS A1 AY A9 Ba Bd:Value):List Value:=[.int .i64 x.CZ,.int .i64 x.DX,.bool x.Du,.string x.A6,.string x.Bc,.int .i64 x.Dn,AS,A1,AY,A9,Ba,.int .i64 x.Bt.Ev,.int .i64 x.Bt.Hi,.int .i64 x.Bt.IX,.string x.Bt.A6,.string x.Bt.Bc,.int .i64 x.Bt.Ap,.int .i64 x.Bt.As,.int .i64 x.CW.Ev,.int .i64 x.CW.Hi,.int .i64 x.CW.IX,.string x.CW.A6,.string x.CW.Bc,.int .i64 x.CW.Ap,.int .i64 x.CW.As,Bd,.int .i64 x.Jc,.int .i64 x.JL,.int .i64 x.GW]
def Bv.wf(x:Bv):Prop:=A' x.CZ/\A' x.DX/\True/\x.A6.size<=9223372036854775807/\x.Bc.size<=9223372036854775807/\A' x.Dn/\True/\True/\True/\True/\True/\x.Bt.wf/\x.CW.wf/\True/\A' x.Jc/\A' x.JL/\A' x.GW
@[reducible] def DL:Shape Bv where
 H:=Value×Value×Value×Value×Value×Value
 size:=29
 cells x h:=BY x h.1 h.2.1 h.2.2.1 h.2.2.2.1 h.2.2.2.2.1 h.2.2.2.2.2
 sub x h:=[⟨h.1,x.Aj⟩,⟨h.2.1,x.Bz⟩,⟨h.2.2.1,x.AA⟩,⟨h.2.2.2.1,x.Bj⟩,⟨h.2.2.2.2.1,x.CX⟩,⟨h.2.2.2.2.2,x.Cf⟩]
 wf:=Bv.wf
 len _ _:=rfl
 one:=by
  intro S w x h Av u hu;have JZ:=Fh (Av _ (ABx ..));have Ie:=Fh (Av _ (Qm 1 G));have II:=Fh (Av _ (Qm 2 G));have IJ:=Fh (Av _ (Qm 3 G));have J0:=Fh (Av _ (Qm 4 G));have Ks:=Fh (Av _ (Qm 5 G));simp only[BY,ABf,ABh,ABi]at hu;rcases hu with rfl|rfl|rfl|rfl|rfl|rfl|rfl|rfl|rfl|rfl|rfl|rfl|rfl|rfl|rfl|rfl|rfl|rfl|rfl|rfl|rfl|rfl|rfl|rfl|rfl|rfl|rfl|rfl|rfl<;>first|rfl|exact JZ|exact Ie|exact II|exact IJ|exact J0|exact Ks
structure Dg where
 Ca:Int
 Ap:Int
 As:Int
 Dn:Int
 Bn:Int
 DH:Int
 Al:ByteArray
 G0:Int
 Cn:Int
 It:Int
 Jr:Bool
 AM:FL
 Dj:Fs
 Cf:List UInt8
 deriving DecidableEq,Inhabited
@[reducible] def IT(x:Dg)(AS:Value):List Value:=[.int .i64 x.Ca,.int .i64 x.Ap,.int .i64 x.As,.int .i64 x.Dn,.int .i64 x.Bn,.int .i64 x.DH,.string x.Al,.int .i64 x.G0,.int .i64 x.Cn,.int .i64 x.It,.bool x.Jr,.int .i64 x.AM.Ca,.string x.AM.Al,.string x.AM.EL,.int .i64 x.AM.B2,.int .i64 x.AM.A6,.int .i64 x.AM.Bc,.int .i64 x.Dj.Ev,.int .i64 x.Dj.Hi,.int .i64 x.Dj.IX,.string x.Dj.A6,.string x.Dj.Bc,.int .i64 x.Dj.Ap,.int .i64 x.Dj.As,AS]
def Dg.wf(x:Dg):Prop:=A' x.Ca/\A' x.Ap/\A' x.As/\A' x.Dn/\A' x.Bn/\A' x.DH/\x.Al.size<=9223372036854775807/\A' x.G0/\A' x.Cn/\A' x.It/\True/\x.AM.wf/\x.Dj.wf/\True
@[reducible] def s7:Shape Dg where
 H:=Value
 size:=25
 cells x h:=IT x h
 sub x h:=[⟨h,x.Cf⟩]
 wf:=Dg.wf
 len _ _:=rfl
 one:=by
  intro S w x h Av u hu;have JZ:=Fh (Av _ (ABx ..));simp only[IT,ABf,ABh,ABi]at hu;rcases hu with rfl|rfl|rfl|rfl|rfl|rfl|rfl|rfl|rfl|rfl|rfl|rfl|rfl|rfl|rfl|rfl|rfl|rfl|rfl|rfl|rfl|rfl|rfl|rfl|rfl<;>first|rfl|exact JZ
@[reducible] instance W7:Be Dg:=Be.D5 s7
theorem Sr{x:Dg}:AuF W7 E_ 1 1 x x.Ap:=by
 rintro S w cs ⟨h,rfl,hs,hw⟩;exact⟨rfl,hw.2.1⟩
theorem Ss{x:Dg}:AuF W7 E_ 2 1 x x.As:=by
 rintro S w cs ⟨h,rfl,hs,hw⟩;exact⟨rfl,hw.2.2.1⟩
theorem Agj{x:Dg}:AuF W7 E_ 5 1 x x.DH:=by
 rintro S w cs ⟨h,rfl,hs,hw⟩;exact⟨rfl,hw.2.2.2.2.2.1⟩
theorem kN{x:Dg}:AuF W7 Nl 6 1 x x.Al:=by
 rintro S w cs ⟨h,rfl,hs,hw⟩;exact⟨rfl,hw.2.2.2.2.2.2.1⟩
theorem Agk{x:Dg}:AuF W7 E_ 9 1 x x.It:=by
 rintro S w cs ⟨h,rfl,hs,hw⟩;exact⟨rfl,hw.2.2.2.2.2.2.2.2.2.1⟩
@[reducible] def Gs:Fs:=⟨0,0,0,ByteArray.empty,ByteArray.empty,0,0⟩
@[reducible] def cz:GC:=⟨0,0⟩
@[reducible] def PF:F_:=⟨0,0,0,0⟩
@[reducible] def FX:AD:=⟨ByteArray.empty,cz,0,0,[],PF⟩
@[reducible] def Np:Bv:=⟨0,0,false,ByteArray.empty,ByteArray.empty,0,[],[],[],[],[],Gs,Gs,[],0,0,0⟩
@[reducible] def fg(x:BX):F_:=⟨x.Ap,x.As,x.DH,x.AM.B2⟩
@[reducible] def IA(b:Bool):Int:=if b=true then 0 else 21
theorem aA(b:Bool):decide (IA b=0)=b:=by cases b<;>rfl
def EW:Int:=4611686018427387904
def Ih(g:Int):Bool:=decide (g>=1)&&decide (g<8)
def Jj(c q:Int):Bool:=decide (c>=1)&&decide (c<=8)&&decide (q>=1)&&decide (q<=EW)
def Ix(k:ByteArray):Bool:=decide ((k.size:Int)>=1)&&decide ((k.size:Int)<=16)
def fc(x y:ByteArray):Bool:=Ds x y||decide (x=y)
def isNil(k:ByteArray):Bool:=decide (k=ByteArray.empty)
def within(BQ Ag key:ByteArray):Bool:=(Ds BQ key||decide (BQ=key))&&(isNil Ag||Ds key Ag)
def PQ(BQ Ag:ByteArray):Bool:=decide ((BQ.size:Int)<=16)&&decide ((Ag.size:Int)<=16)&&(isNil Ag||Ds BQ Ag)
def Rb(s:GC)(v:Int):Bool:=decide (s.A6<=v)&&decide (v<=s.Bc)
def F'(s:Bv)(key:ByteArray):Bool:=s.Du&&within s.A6 s.Bc key
def Ef(s:Bv)(key:ByteArray):Bool:=(!decide (s.Bt.Ev=0))&&within s.Bt.A6 s.Bt.Bc key
def LK(p:Fs):Bool:=decide (p.Ev>=1)&&decide (p.Ev<=EW)&&Ih p.Hi&&Ih p.IX&&(!decide (p.Hi=p.IX))&&PQ p.A6 p.Bc
def Sk(l:F_):Bool:=decide (l.Ap>=1)&&decide (l.As>=1)&&decide (l.DH>=1)&&decide (l.DH<8)
def JN(m t:Int):Int:=if decide (m=2)||decide (t=2)then 2 else if decide (m=1)&&decide (t=1)then 1 else 0
def G_(a:AD):Bool:= !decide (a.BG.Ap=0)
def yY(l:List ZR)(i:Int):ByteArray:=if decide (i<0)||decide (i>=(l.length:Int)-1)then ByteArray.empty else(l.getD (i+1).toNat default).Hi
def AdU(r:QM):Bool:=Ih r.CZ&&decide ((r.Al.size:Int)>=1)&&decide ((r.Al.size:Int)<=16)&&decide (r.G0>=1)
def Gd(n:Nat)(p:Nat->Bool):Option Nat:=(List.range n).find? p
theorem Tc{n j:Nat}{p:Nat->Bool}(Ay:j<n)(Bw:∀k,k<j->p k=false)(h:p j=true):Gd n p=some j:=
 ADz.2 ⟨h,ABw.2 Ay,fun k AE=>by simp[Bw k AE]⟩
theorem Tb{n:Nat}{p:Nat->Bool}(h:∀k,k<n->p k=false):Gd n p=none:=
 List.find?_range_eq_none.2 fun k AE=>by simp[h k AE]
theorem YT{b:Bool}(h:b=false):(!b)=true:=by rw[h];rfl
theorem YU{b:Bool}(h:b=true):(!b)=false:=by rw[h];rfl
def Nh(f:Nat->Int):Nat->Int
 |0=>0
 |i+1=>f i
def X1(l:List Int):Bool:=allI l.length (fun j=> !(decide (l.getD j default<0)||decide (l.getD j default>EW)))
def fk(p:Int)(m:BL):Bool:=decide (m.Ap<=p)||decide (m.Ap>8)||decide (m.As<0)||decide (m.As>EW)||(m.HV&&(decide (m.As=0)|| !decide (m.Cm=⟨0,0,0,0⟩)))
def Fg(l:List BL):Bool:=allI l.length (fun j=> !fk (Nh (fun k=>(l.getD k default).Ap) j) (l.getD j default))
def HE(l:List Df):Bool:=allI l.length (fun j=> !(decide ((l.getD j default).Ap<=Nh (fun k=>(l.getD k default).Ap) j)|| !Jj (l.getD j default).Ap (l.getD j default).As))
def V2(d:Bx):Bool:= !Jj d.Ap d.As||decide (d.B2<1)||decide (d.Al=d.EL)||decide (d.DN<0)||decide (d.DN>2)||decide (d.DO<0)||decide (d.DO>2)
def ae(d:Bx):Bool:=decide ((d.Al.size:Int)<1)||decide ((d.Al.size:Int)>16)||decide ((d.EL.size:Int)<1)||decide ((d.EL.size:Int)>16)
def M1(d:Bx):Bool:=if V2 d=true then false else if ae d=true then false else decide (d.C3=JN d.DN d.DO)||(decide (JN d.DN d.DO=0)&&decide (d.C3=2))
def YZ(s:Bv):Bool:=if(!s.Du)=true then(isNil s.A6&&isNil s.Bc&&decide ((s.Aj.length:Int)=0)&&decide ((s.AA.length:Int)=0)&&decide (s.Bt=⟨0,0,0,ByteArray.empty,ByteArray.empty,0,0⟩))else decide (s.Dn>=1)&&PQ s.A6 s.Bc
def Zx(s:Bv)(w:BX):Bool:= !Jj w.Ap w.As|| !Ix w.AM.Al|| !F' s w.AM.Al||Ef s w.AM.Al
def Xu(w:BX):Bool:=decide (w.Bn>=1)&&decide (w.Bn<=5)&&decide (w.DH=0)&&decide (w.AM.Ca>=1)&&decide (w.AM.Ca<=5)&&(decide (w.AM.Ca>2)||decide (w.AM.B2>=1))
def Xv(w:BX):Bool:=decide (w.Bn=0)&&Ih w.DH&&(!decide (w.AM.B2=0))&&decide (w.AM=⟨0,w.AM.Al,ByteArray.empty,w.AM.B2,0,0⟩)
def Mr(s:Bv)(w:BX):Bool:=if Zx s w=true then false else if decide (w.Ca=1)=true then Xu w else if decide (w.Ca=2)=true then Xv w else false
def eU(p:Int)(h:BD):Bool:=decide (h.Bn<=p)||decide (h.Bn>5)||decide (h.G0<1)||decide (h.DV<0)||decide (h.Fc<0)
def LI(l:List BD):Bool:=allI l.length (fun j=> !eU (Nh (fun k=>(l.getD k default).Bn) j) (l.getD j default))
def Kt(l:List Bx)(c q:Int):Option Nat:=Gd l.length (fun j=>decide ((l.getD j default).Ap=c)&&decide ((l.getD j default).As=q))
def HI:Option Nat->Int
 |some j=>(j:Int)
 |none=> -1
theorem OE(v:Int):IntKind.u64.wrap v=v % 18446744073709551616:=by simp[IntKind.wrap,IntKind.signed,IntKind.bits]
theorem mC(v:Int):IntKind.i64.wrap v=(v+9223372036854775808) % 18446744073709551616-9223372036854775808:=by
 simp only[IntKind.wrap,IntKind.signed,IntKind.bits];simp;omega
def Vk(x:Int):Int:=if x<0 then-1 else 0
theorem lM(x:Int):Vk x= -1/\x<0\/Vk x=0/\0<=x:=by unfold Vk;split<;>omega
theorem ti{x:Int}(h:A' x):x.fdiv (2^min (63:Int).toNat IntKind.i64.bits)=Vk x:=by
 have e:(2:Int)^min (63:Int).toNat IntKind.i64.bits=9223372036854775808:=AJx;rw[e,AD_ _ AJx];obtain⟨Af,h2⟩:=h;have:=lM x;omega
def nb(l:List Int):Prop:=∀x∈l,A' x
theorem Aau{l:List Int}(h:nb l){i:Nat}(Ag:i<l.length):A' (l.getD i default):=by
 have:l.getD i default=l[i]:=by simp[List.getD,ABs Ag]
 rw[this];exact h _ (ACF Ag)
theorem AjZ{l:List Int}{i:Nat}(Ag:i<l.length):(l.take (i+1)).sum=(l.take i).sum+l.getD i default:=by
 have e:l.getD i default=l[i]:=by simp[List.getD,ABs Ag]
 rw[e,List.take_add_one,ABs Ag];rw[List.sum_append_int];simp
def J3(s:Int):Bool:=decide (-9223372036854775808<=s)&&decide (s<=9223372036854775807)
def Lo(s:Int):Int:=if J3 s=true then s else 0
def No(s:Int):Int:=if J3 s=true then 0 else 10
@[reducible] def SA(s:Int):Value:=.tuple #[.int .i64 (Lo s),.int .i64 (No s)]
theorem AjY{S Ag BQ x:Int}(Af:Ag=S / 18446744073709551616 % 18446744073709551616)(h2:BQ=S % 18446744073709551616)(Ab:A' x):
 (Ag+Vk x % 18446744073709551616+(BQ+x % 18446744073709551616+0) / 18446744073709551616) % 18446744073709551616=(S+x) / 18446744073709551616 % 18446744073709551616/\
 (BQ+x % 18446744073709551616+0) % 18446744073709551616=(S+x) % 18446744073709551616:=by
 obtain⟨Bo,BB⟩:=Ab;have:=lM x;omega
theorem AjX{S Ag BQ:Int}(Af:Ag=S / 18446744073709551616 % 18446744073709551616)(h2:BQ=S % 18446744073709551616)(Aq: -85070591730234615856620279821087277056<=S/\S<=85070591730234615856620279821087277056):
 (Ag=Vk (IntKind.i64.wrap BQ) % 18446744073709551616↔J3 S=true)/\(J3 S=true->IntKind.i64.wrap BQ=S):=by
 rw[mC];have:=lM ((BQ+9223372036854775808) % 18446744073709551616-9223372036854775808);simp only[J3,ABb,ABa];omega
theorem hg{x y:Int}(Ab:A' x)(Bf:A' y):((decide (x>=0)&&decide (y>=0)&&decide (IntKind.i64.wrap (x+y)<0))||(decide (x<0)&&decide (y<0)&&decide (IntKind.i64.wrap (x+y)>=0)))= !J3 (x+y)/\(J3 (x+y)=true->IntKind.i64.wrap (x+y)=x+y):=by
 rw[mC];obtain⟨DP,EK⟩:=Ab;obtain⟨CY,Dh⟩:=Bf;constructor
 · rw[ACy];simp only[J3,ABk,ABb,ABa,ABe,ACu,ABl];omega
 · simp only[J3,ABb,ABa];omega
def UJ(a:AD)(l:F_):Bool:=decide (No (a.BT+l.B2)=0)&&Rb a.Cs (Lo (a.BT+l.B2))
def I7(a:AD):Int:=a.BT+(a.A0.map (·.DV)).sum
def IU(a:AD):Int:=a.BT-(a.A0.map (·.Fc)).sum
@[reducible] def Adv(a:AD):Value:=.tuple #[.int .i64 (Lo (I7 a)),.int .i64 (Lo (IU a)),.bool (decide (No (I7 a)=0)&&decide (No (IU a)=0))]
def VO(a:AD):Bool:=decide ((a.Al.size:Int)<1)||decide ((a.Al.size:Int)>16)|| !Rb a.Cs a.BT||decide (a.Cn<0)|| !LI a.A0
def XQ(a:AD):Bool:= !(decide (No (I7 a)=0)&&decide (No (IU a)=0))||decide (Lo (I7 a)>a.Cs.Bc)||decide (Lo (IU a)<a.Cs.A6)
def E4(a:AD):Bool:=if VO a=true then false else if XQ a=true then false else if decide (a.BG.Ap=0)=true then decide (a.BG=⟨0,0,0,0⟩)else Sk a.BG&&decide ((a.A0.length:Int)=0)&&UJ a a.BG
def FT(a:AD):Bool:=E4 a&&decide (a.Cs=⟨0,0⟩)&&decide (a.BT=0)&&decide ((a.A0.length:Int)=0)&&decide (a.Cn=0)&& !G_ a
def AfT(x y:QM):Int:=if(!decide (x.CZ=y.CZ))=true then(if decide (x.CZ<y.CZ)=true then-1 else 1)else RO x.Al y.Al
def Adr(l:List QM)(j:Nat):Bool:= !AdU (l.getD j default)||(decide ((j:Int)>0)&&decide (AfT (l.getD ((j:Int)-1).toNat default) (l.getD j default)>=0))
def Adq(l:List QM):Bool:=allI l.length (fun j=> !Adr l j)
theorem Alo(v:Int):A' (IntKind.i64.wrap v):=by
 rw[mC];constructor<;>omega
theorem AjW(s:Int):A' (Lo s):=by
 unfold Lo;split
 · rename_i h;simp only[J3,ABb,ABa]at h;exact h
 · exact⟨AJx,AJx⟩
def dv(s:Bv)(j:Nat):Bool:= !decide (IA (E4 (s.Aj.getD j default))=0)||FT (s.Aj.getD j default)|| !F' s (s.Aj.getD j default).Al||(decide ((j:Int)>0)&&fc (s.Aj.getD j default).Al (s.Aj.getD ((j:Int)-1).toNat default).Al)
def VP(s:Bv):Bool:=if decide ((s.Aj.length:Int)>12)=true then false else allI s.Aj.length (fun j=> !dv s j)
def ab(l:List Bx)(j:Nat):Bool:= !M1 (l.getD j default)|| !decide (HI (Kt l (l.getD j default).Ap (l.getD j default).As)=(j:Int))
def Is(l:List Bx):Bool:=if decide ((l.length:Int)>4)=true then false else allI l.length (fun j=> !ab l j)
theorem Q4{n j:Nat}{p:Nat->Bool}(h:Gd n p=some j):j<n:=ABw.1 (ADz.1 h).2.1
structure JD where
 v:Value
instance Qx:Be JD where
 size:=1
 agg:=false
 rd S w cs x:=cs=[x.v]/\x.v.oneCell'=true
 len:=by rintro S w cs x ⟨rfl,_⟩;rfl
 one:=by
  rintro S w cs x ⟨rfl,h⟩ u hu;simp only[ABf,ABh,ABi]at hu;subst hu;exact h
 DY:=by
  rintro S Fq w AT cs x h _ _;exact h
@[reducible] instance AmN:Vz Qx:=⟨fun x=>x.v,fun x=>x.v.oneCell'=true,fun h=>h⟩
structure Gb where
 r:Nat
@[reducible] def Gb.zC(x:Gb):JD:=⟨.pointer (some ⟨x.r,0,none⟩)⟩
@[reducible] def Gb.zB(_:Gb):Int:=0
@[reducible] def AjG:Shape Gb where
 H:=Unit
 size:=4
 cells x _:=[.pointer (some ⟨x.r,0,none⟩),.slice none 0 0,.bool false,.int .i64 0]
 sub _ _:=[]
 wf _:=True
 len _ _:=rfl
 one:=by
  intro S w x h Av u hu;simp only[ABf,ABh,ABi]at hu;rcases hu with rfl|rfl|rfl|rfl<;>rfl
@[reducible] instance sU:Be Gb:=Be.D5 AjG
theorem Ku{x:Gb}:AuF sU Qx 0 1 x x.zC:=by
 rintro S w cs ⟨h,rfl,hs,hw⟩;exact⟨rfl,rfl⟩
theorem sn{x:Gb}:AuF sU E_ 3 1 x x.zB:=by
 rintro S w cs ⟨h,rfl,hs,hw⟩;exact⟨rfl,(by decide:(-9223372036854775808:Int)<=0),(by decide:(0:Int)<=9223372036854775807)⟩
def Ml(s:Bb):Bool:= !decide ((s.fault:Int)=0)|| !decide ((0:Int)=0)
theorem N2(s:Bb):Ml s=true↔s.fault≠0:=by
 unfold Ml;simp
theorem Xf(s:Bb):Ml s=false↔s.fault=0:=by
 rw[<-ACH,N2];simp
def NG:List UInt8->Bool×Nat×Nat
 |[]=>(false,0,20)
 |c::_=>if 1<c.toNat then(false,0,21)else(decide (c=1),1,0)
def Kw(J:List UInt8):VJ Bool:=Lj J false NG
theorem AjS{s:Bb}(h:s.fault≠0)(n e:Nat):s.step n e=s:=by unfold Bb.step;rw[if_pos h]
theorem fM{α:Type}{J:List UInt8}{d:α}{f:List UInt8->α×Nat×Nat}{s:Bb}(h:s.fault≠0):(Lj J d f s).2=s:=by
 rcases Fx:f (J.drop s.pos)with⟨x,n,e⟩;simp only[Lj,Fx,AjS h]
theorem Ah8{J:List UInt8}{s:Bb}(h:s.fault≠0):(D6 J s).2=s:=fM (d:=0) (f:=HH 0 0) h
theorem Aif{J:List UInt8}{m:Int}{s:Bb}(h:s.fault≠0):(Gm J m s).2=s:=fM (d:=[]) (f:=fun l=>N3 l m) h
theorem Ah5{J:List UInt8}{s:Bb}(h:s.fault≠0):(Kw J s).2=s:=fM (d:=false) (f:=NG) h
theorem oY(J:List UInt8):(NG J).2.1<=J.length/\((NG J).2.2≠0->(NG J).1=false/\(NG J).2.1=0):=by
 cases J with
 |nil=>simp[NG]
 |cons c r=>
  simp only[NG];by_cases h:1<c.toNat
  · rw[AA_ h];simp
  · rw[AA9 h];simp
theorem sI{J:List UInt8}{s:Bb}(AH:s.pos<=J.length):(Kw J s).2.pos<=J.length:=fL AH fun l=>(oY l).1
def Q0(J:List UInt8)(s:Bb):Int:=if s.fault=0/\s.pos<J.length then 24 else(s.fault:Int)
def CO(J:List UInt8):List Nat->List Value×Bb->List Value×Bb
 |[],p=>p
 |o::r,p=>CO J r (p.1.set o (.int .i64 (D6 J p.2).1),(D6 J p.2).2)
def Ea(J:List UInt8):List Nat->List Value×Bb->List Value×Bb
 |[],p=>p
 |o::r,p=>Ea J r (p.1.set o (.string ⟨(Gm J 65535 p.2).1.toArray⟩),(Gm J 65535 p.2).2)
def gQ(cells:List Value)(offs:List Nat):Prop:=∀o∈offs,cells[o]? =some (.int .i64 0)
def gR(cells:List Value)(offs:List Nat):Prop:=∀o∈offs,cells[o]? =some (.string ByteArray.empty)
def NW(b:Nat)(offs:List Nat):List JD:=offs.map fun o=>⟨.pointer (some ⟨b,o,none⟩)⟩
theorem Y4{b:Nat}{offs:List Nat}:(NW b offs).length=offs.length:=List.length_map _
theorem sr{b:Nat}{offs:List Nat}{i:Nat}(h:i<offs.length):(NW b offs)[i]? =some ⟨.pointer (some ⟨b,offs.getD i 0,none⟩)⟩:=by
 simp[NW,List.getD,ABs h]
theorem Hw{J:List UInt8}:∀{offs:List Nat} {p:List Value×Bb},p.2.pos<=J.length->(CO J offs p).2.pos<=J.length
 |[],_,h=>h
 |_::r,_,h=>Hw (offs:=r) (Hb h)
theorem MP{J:List UInt8}:∀{offs:List Nat} {p:List Value×Bb},p.2.pos<=J.length->(Ea J offs p).2.pos<=J.length
 |[],_,h=>h
 |_::r,_,h=>MP (offs:=r) (Vf h)
theorem TW{cells:List Value}{o:Nat}{v:Value}(h:cells[o]? =some v):cells.set o v=cells:=by
 refine List.ext_getElem? fun n=>?_;rw[List.getElem?_set];split
 · rename_i e;subst e;have:=(ABF.1 h).1;rw[AA_ this,h]
 · rfl
theorem Rj{cells:List Value}{o:Nat}{v:Value}(h:cells[o]? =some v):o<cells.length:=(ABF.1 h).1
theorem drop_cons{offs:List Nat}{i:Nat}(h:i<offs.length):offs.drop i=offs.getD i 0::offs.drop (i+1):=by
 rw[AC1 h];simp[List.getD,ABs h]
theorem Ah9{J:List UInt8}{s:Bb}(h:s.fault≠0):(D6 J s).1=0:=by
 have:(rdNum J s).1=0:=by
  simp only[rdNum,Lj,Bb.val];rw[AA_ h]
 show Ul (rdNum J s).1=0;rw[this];rfl
theorem Aig{J:List UInt8}{m:Int}{s:Bb}(h:s.fault≠0):(Gm J m s).1=[]:=by
 simp only[Gm,Lj,Bb.val];rw[AA_ h]
theorem Ah6{J:List UInt8}{s:Bb}(h:s.fault≠0):(Kw J s).1=false:=by
 simp only[Kw,Lj,Bb.val];rw[AA_ h]
theorem AcN{J:List UInt8}{o:Nat}{r:List Nat}{c:List Value}{s:Bb}(h:s.fault≠0)(Bm:c[o]? =some (.int .i64 0)):CO J (o::r) (c,s)=CO J r (c,s):=by
 simp only[CO,Ah9 h,Ah8 h];rw[TW Bm]
theorem vu{α:Type}{c:List Value}{o:Nat}{r:List Nat}{u z:Value}(Ao:(o::r).Nodup)(h:∀x∈r,c[x]? =some z):∀x∈r,(c.set o u)[x]? =some z:=by
 intro x Ab;rw[List.getElem?_set_ne]
 · exact h x Ab
 · rintro rfl;exact(List.nodup_cons.1 Ao).1 Ab
theorem Y5{b:Nat}(S:Nat->Prop)(w:World):∀offs:List Nat,Go.A_.HM S w (offs.map fun o=>[.pointer (some ⟨b,o,none⟩)]) (NW b offs)
 |[]=>trivial
 |_::r=>⟨⟨rfl,rfl⟩,Y5 S w r⟩
def GI{α:Type}(rd:Bb->α×Bb):Nat->Bb->List α×Bb
 |0,s=>([],s)
 |n+1,s=>if s.fault=0 then((rd s).1::(GI rd n (rd s).2).1,(GI rd n (rd s).2).2)else([],s)
def CS{α:Type}(J:List UInt8)(rd:Bb->α×Bb)(s:Bb):List α×Bb:=GI rd (DT J 1024 s).1 (DT J 1024 s).2
def B2(J:List UInt8)(s:Bb):Bb:=(Kw J s).2
end Go.Apw
