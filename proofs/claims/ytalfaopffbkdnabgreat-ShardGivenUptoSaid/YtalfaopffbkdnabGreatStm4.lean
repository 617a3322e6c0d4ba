/- Part 4 of shardGiven_holds. -/
import Derived.StillTail
import Derived.Test.YtalfaopffbkdnabGreatStm3

set_option maxRecDepth 20000
set_option maxHeartbeats 1000000
namespace Go
theorem AB6:∀{α:Type _} {β:Type _} {b:β} {f:α→β} {l:List α},b∈List.map f l↔∃a,a∈l∧f a=b:=@List.mem_map
theorem ADe:∀{α:Type _} {a b:α},a∈[b]↔a=b:=@List.mem_singleton
theorem ABE:∀{α:Sort _} {β:Sort _} {a₁ a₂:α} (f:α→β),a₁=a₂→f a₁=f a₂:=@congrArg
theorem ABl:∀{p:Prop} {_:Decidable p},decide p=false↔¬p:=@decide_eq_false_iff_not
theorem ABi:∀(p:Prop),(p∨False)=p:=@or_false
end Go
open Array renaming getElem?_setIfInBounds_ne→ADA
open Go renaming mem_ready→ACz
open Go.Sem renaming run_bind→ABY
open List renaming all_eq_true→ABq,cons_append→ABU,length_cons→ABv,map_append→ADF,mem_filter→ABZ
open List.cons renaming injEq→ACj
open Nat renaming eq_of_beq_eq_true→ACI
open Option.some renaming injEq→ABX
open Prod.mk renaming injEq→ACg
namespace Go.A_
section
section
variable{P:Program} {ops:Array Oper} {md:Region.Mode} {C:World->Prop}
def aT(P:Program)(md:Region.Mode)(ops:Array Oper)(C:World->Prop)(n:Nat)(L:Array Bool->Act->Prop):Nat->Array Bool->Act->Prop
 |0,A8,a=>L A8 a
 |f+1,A8,a=>
  Region.ready md ops A8≠[]/\∀i∈Region.ready md ops A8,i<n/\qOp P ops C i (aT P md ops C n L f (A8.setIfInBounds i true)) a
theorem nh{n g:Nat}{L:Array Bool->Act->Prop}{Q':AuE}(Dv:∀A8 a w,C w->L A8 a->wpAny P md ops Q' g A8 a w):
 ∀(f:Nat) (A8:Array Bool) (a:Act) (w:World),C w->aT P md ops C n L f A8 a->wpAny P md ops Q' (f+g) A8 a w
 |0,A8,a,w,hw,h=>by rw[AB0];exact Dv _ _ _ hw h
 |f+1,A8,a,w,hw,h=>by
  rw[show f+1+g=(f+g)+1 by omega];exact⟨fun Bw=>absurd Bw h.1,fun i Ag=>wpOp_of_qOp hw (fun Dx AT NN DI=>nh Dv f _ Dx AT NN DI) (h.2 i Ag).2⟩
theorem AbD{n i:Nat}{YX:Oper}{v:Value}{L:Array Bool->Act->Prop}(Ag:ops[i]? =some YX)(WD:∀(j:Nat) (o:Oper) cs b,ops[j]? =some o->o.op≠.select cs b)
 (hs:Region.sinkB md ops n=true)(Bm:Region.chainB md ops n=true)(Ao:n<ops.size)(Kp:i<n)
 (AbB:∀A8 a,L A8 a->∀j∈Region.ready md ops A8,n<=j):
 ∀(f:Nat) (A8:Array Bool) (a:Act),HeadInv md ops n A8->
  (∀j NV,ops[j]? =some NV->j≠i->A8.getD j true=false->(∀e∈NV.after,Region.binds md e=true->e.on≠i)->YX.apart ops NV=true)->
  i∈Region.ready md ops A8->YieldsIn P ops C YX v a->
  aT P md ops C n L f (A8.setIfInBounds i true) (a.put YX.dst v)->aT P md ops C n L (f+1) A8 a:=by
 intro f;induction f with
 |zero=>
  intro A8 a inv _ Bh Bf H;have Ib:=(ACz.1 Bh).1;refine⟨fun h=>(by rw[h]at Bh;cases Bh),fun j Ay=>?_⟩;have a1:j<n:=by
   rcases ACq j n with h|h
   · exact h
   · exact absurd Ay (tail_waits hs Bm Ao inv _ i rfl Kp Ib j h)
  refine⟨a1,?_⟩;by_cases U3:j=i
  · subst U3;exact Bf.qOp Ag H
  · have:=AbB _ _ H j (ready_mono Ay U3);omega
 |succ f Cg=>
  intro A8 a inv pC Bh Bf H;have Ib:=(ACz.1 Bh).1;refine⟨fun h=>(by rw[h]at Bh;cases Bh),fun j Ay=>?_⟩;have a1:j<n:=by
   rcases ACq j n with h|h
   · exact h
   · exact absurd Ay (tail_waits hs Bm Ao inv _ i rfl Kp Ib j h)
  refine⟨a1,?_⟩;by_cases U3:j=i
  · subst U3;exact Bf.qOp Ag H
  · have Af:=(H.2 j (ready_mono Ay U3)).2;obtain⟨pH,NV,ju,C0⟩:=ACz.1 Ay;have a8:∀e∈NV.after,Region.binds md e=true->e.on≠i:=fun e he Aq heq=>by
     have Af:=C0 e he Aq;rw[heq,getD_both Ib]at Af;cases Af
    have h2:=qOp_put ju (pC j NV ju U3 pH a8) (fun cs b=>WD i YX cs b Ag) (fun cs b=>WD j NV cs b ju) Bf Af;have AbG:∀k ok,ops[k]? =some ok->k≠i->(A8.setIfInBounds j true).getD k true=false->
     (∀e∈ok.after,Region.binds md e=true->e.on≠i)->YX.apart ops ok=true:=fun k ok AE J_ Ib O0=>by
     refine pC k ok AE J_ ?_ O0;by_cases Tq:j=k
     · subst Tq;exact pH
     · rw[getD_set_ne true Tq]at Ib;exact Ib
    refine qOp_mono (fun Dx Bo=>Cg (A8.setIfInBounds j true) Dx (inv.set Ay a1) AbG (ready_mono Bh (Ne.symm U3)) Bo.1 ?_) h2;rw[Array.setIfInBounds_comm _ _ U3];exact Bo.2
theorem px{n g:Nat}{QG:Act->Prop}(WD:Region.noSelect ops=true)(hs:Region.sinkB md ops n=true)(Bm:Region.chainB md ops n=true)(Ao:n<ops.size):
 ∀(l:List Oper) (k:Nat) (A8:Array Bool) (a:Act),(∀j,j<l.length->l[j]? =ops[k+j]?)->k+l.length=n->HeadInv md ops n A8->
 Region.lexHead md ops g l.length k A8=true->wpQuiet P ops C QG l a->
 aT P md ops C n (fun q8 Dx=>Region.seqB md ops g n q8=true/\QG Dx) l.length A8 a
 |[],k,A8,a,_,AE,_,Ew,h=>by
  have:k=n:=(by simpa using AE);subst this;exact⟨by simpa[Region.lexHead]using Ew,h⟩
 |o::l,k,A8,a,AN,AE,inv,Ew,h=>by
  have Bw:ops[k]? =some o:=(by simpa using(AN 0 (by simp)).symm);simp only[ABv,Region.lexHead,ABb]at Ew;obtain⟨⟨Bh,BI⟩,AaU⟩:=Ew;have eN:k<n:=(by simp only[ABv]at AE;omega);have NL:k∈Region.ready md ops A8:=(by simpa using Bh);have Gg:qOp P ops C k (wpQuiet P ops C QG l) a:=(by unfold qOp;simp only[Bw];exact h);obtain⟨v,Bf,Je⟩:=yieldsIn_of_qOp Bw Gg;exact AbD Bw (Region.noSelect_spec WD) hs Bm Ao eN (fun q8 Dx Dv=>seqB_ready Dv.1) l.length A8 a inv (Region.free_spec Bw BI) NL Bf
   (px WD hs Bm Ao l (k+1) _ _ (fun j Ay=>by have:=AN (j+1) (by simp;omega);simpa[ADs,Nat.add_comm 1 j]using this) (by simp only[ABv]at AE;omega) (inv.set NL eN) AaU Je)
theorem All{id:Nat}{Q:AuE}{a:Act}{w:World}{l:List Oper}(n:Nat)(hm:P.follows .mixedOrders=true)(Ew:Region.lexTailB .any l.toArray n=true)(eB:C {w with drawn:=w.drawn+1})
 (h:wpQuiet P l.toArray C (fun Dx=>∀AT,C AT->wpList P l.toArray Q (l.drop n) Dx AT) (l.take n) a):(Code.region id l.toArray true).wp P Q a w:=by
 simp only[Region.lexTailB,ABb,ABa]at Ew;obtain⟨⟨⟨⟨WD,Ao⟩,hs⟩,Bm⟩,AbU⟩:=Ew;have eO:n<l.length:=by simpa using Ao
 have eZ:(l.take n).length=n:=by simp;omega
 have LH:(l.drop n).length=l.toArray.size-n:=by simp
 have AcP:HeadInv .any l.toArray n (Array.replicate l.toArray.size false):=
  ⟨by simp,fun j NV _ AN=>(by rw[getD_replicate_false]at AN;cases AN),fun t _ Av=>getD_in (by simpa using Av) (getD_replicate_false _ _)⟩
 have H:=px (md:=.any) (g:=l.toArray.size-n) WD hs Bm Ao (l.take n) 0 _ a (fun j Ay=>by
  have J9:j<n:=(by rw[eZ]at Ay;exact Ay);simp[J9]) (by simpa using eZ) AcP (by rw[eZ];exact AbU) h
 refine wp_region_any hm ?_;have:=nh (Q':=Q) (g:=l.toArray.size-n) (fun A8 Dx AT NN Dv=>by
  have:=wpAny_of_seq (md:=.any) (Q':=Q) (l.drop n) n A8 Dx AT (fun j=>by simp[List.getElem?_drop]) (by rw[LH];exact Dv.1) (Dv.2 AT NN)
  rwa [LH]at this) _ _ _ _ eB H
 rw[eZ,show n+(l.toArray.size-n)=l.toArray.size by omega]at this;exact this
end
theorem Ow{c:Cj}{Q:AuE}{env:Env}{L:Own}{D:List Atom}{id:Nat}{l:List Oper}(n:Nat)(hm:c.P.follows .mixedOrders=true)(Ew:Region.lexTailB .any l.toArray n=true)
 (h:SZ (fun _ a w=>wpList c.P l.toArray Q (l.drop n) a w) c l.toArray (l.take n) env L D):CF c (.region id l.toArray true) Q env L D:=
 fun a w f st AR=>All (C:=fun AT=>C8 [] w AT) n hm Ew (C8.drew [] w) (h a w f st AR)
theorem Oq{c:Cj}{Q:AuE}{ops:Array Oper}{tY:List Oper}{env:Env}{L:Own}{D:List Atom}(h:Cb Q c ops tY env L D):SZ (fun _ a w=>wpList c.P ops Q tY a w) c ops [] env L D:=Gj h
theorem CI.X5{BW w:World}{M:List Nat}{L:Own}:∀{A:Own},CI BW M w (A++L)->CI BW M w L
 |[],h=>h
 |_::_,h=>CI.X5 h.drop
theorem BP.X5{D:List Atom}{w:World}{L:Own}:∀{A:Own},BP D w (A++L)->BP D w L
 |[],h=>h
 |_::_,h=>BP.X5 h.drop
section
variable{env:Env} {L:Own} {D:List Atom} {fn:Func} {X:List Nat} {L0:Own} {β:Type} {R:β->Value->Prop} {DM:β->Value->Own} {out:β->Value->List Atom} {P:Program} {n:Nat} {BW:World} {M:List Nat}
def dr(P:Program)(n:Nat)(BW:World)(M:List Nat)(fn:Func)(env:Env)(L:Own)(v:Value):Prop:=∀a w,Fr n a env->CI BW M w L->(results fn a.tmps).run P w=.ok v w
theorem D8(y:β)(A:Own){v:Value}(Ek:dr P n BW (L0.J++X) fn env L v)(Fy:R y v)(Dv:L=A++(DM y v++[CL X BW]))(DK:Bg (out y v) D):
 Eg ⟨P,n,BW,L0.J++X⟩ (XN P fn X BW L0 R DM out) .ret env L D:=by
 intro a w f st AR;refine bodyPost_ret (Ek a w f st) f.GV ⟨_,rfl,?_⟩;subst Dv;exact Aw.post y Fy rfl DK st.X5 AR.X5 (YS (X:=X) (w:=w) st.X5)
theorem kH{w:World}{b:Nat}{T:TypeId}{cs:List Value}(i:Nat)(Ag:L[i]? =some (AO b T cs))(st:CI BW M w L):w.heap[b]? =some (.cells cs.toArray T (0,0)):=st.own _ (AA' Ag)
theorem Qv{t:Nat}{T Pr:TypeId}{b:Nat}{cs:List Value}(i:Nat)(Bh:fn.results= #[.cell t T])(Af:C1 env t=some (.pointer (some ⟨b,0,none⟩)))(Ag:L[i]? =some (AO b Pr cs))(Av:Oc P T cs.length):dr P n BW M fn env L (.agg cs.toArray):=fun a w f st=>by
 simp[results,Bh,f.at_ t _ Af,asAddr,lr Av (kH i Ag st)]
theorem Fp{t u:Nat}{T Pr:TypeId}{b:Nat}{cs:List Value}{v2:Value}(i:Nat)(Bh:fn.results= #[.cell t T,.tmp u])(Af:C1 env t=some (.pointer (some ⟨b,0,none⟩)))(h2:C1 env u=some v2)
 (Ag:L[i]? =some (AO b Pr cs))(Av:Oc P T cs.length):dr P n BW M fn env L (.tuple #[.agg cs.toArray,v2]):=fun a w f st=>by
 simp[results,Bh,f.at_ t _ Af,f.at_ u _ h2,asAddr,lr Av (kH i Ag st)]
end
end
section
section
variable{c:Cj} {ops:Array Oper} {AP:Cj->Array Oper->List Oper->Env->Own->List Atom->Prop} [Dr:Ip AP] {env:Env} {L:Own} {D:List Atom} {rest:List Oper} {d:Nat} {v:Value} {t:TypeId} {p:String} {af:Array Edge}
theorem Ql{fn:Fn}{xs ys:List Operand}{vs us:List Value}(Bf:Gq env ys=some us)(Ab:Gq env xs=some vs)(Ao:Nat.blt d c.n=true)(k:AP c ops rest ((d,.func fn us.toArray vs.toArray)::env) L D):AP c ops (⟨some d,.makeFunc fn ys.toArray xs.toArray,t,p,af,none⟩::rest) env L D:=
 pu rfl rfl Ao (fun a w f=>by simp[execOp,Instr.makeFunc,f.Gq Ab,f.Gq Bf]) k
variable{x y:Operand} {q:IntKind} {m n:Int} {Ec FK:TypeId} {T:TypeId}
include Dr
end
end
section
def FH:Value->Nat
 | .pointer (some p)=>p.block
 |_=>0
structure Iq where
 E8:Nat->List Nat
 ok:Nat->Value->Prop
 at_:Nat->Value->List Atom
 Eb:Nat->Option Value
 L:List Nat->List Value->Own
 Eu:List Nat
 hs:List (List Nat)
@[reducible] def Iq.rs(s:Iq):MV:=⟨s.E8,s.ok,s.at_,fun _=>[],[]⟩
@[reducible] def Iq.Rm(s:Iq)(i:Nat)(u:Value):Prop:=match s.Eb i with
 |some v=>u=v
 |none=>s.ok i u
def Ro(l:List Oper)(s:Iq)(i:Nat):List (List Nat):=s.hs.filter fun h=>(!(s.Eu.contains i)|| !(h.contains i))&&s.Eu.all fun x=>(!(Gp l x i)||h.contains x)&&(!(Gp l i x)|| !(h.contains x))
def OL(l:List Oper)(s:Iq):Bool:=s.hs.contains []&&s.Eu.all (fun x=>Nat.blt x l.length)&&s.hs.all fun h=>s.Eu.all fun i=>h.contains i|| !(s.Eu.all fun x=> !(Gp l x i)||h.contains x)||s.hs.contains (h++[i])
def fP(l:List Oper)(env:Env)(s:Iq)(n:Nat):Bool:=S6 l s.E8&&Pv l env&&ND l&&LX l n&&OL l s
def Q6(s:Iq):List (List Nat):=s.hs.filter fun h=>s.Eu.all fun x=>h.contains x
def Qp(s:Iq)(h:List Nat)(vs:List Value)(i:Nat)(u:Value):Own:=if s.Eu.contains i then s.L (h++[i]) (vs++[u])else s.L h vs
def Nf(c:Cj)(l:List Oper)(s:Iq)(D:List Atom)(i:Nat)(h:List Nat)(vs:List Value):AuE:=fun e a w=>
 e=.normal/\a.defers=[]/\CI c.BW c.M w (Qp s h vs i (Il l a i))/\BP D w (Qp s h vs i (Il l a i))/\∀d,CN l i=some d->s.Rm i (a.tmps.getD d undef)/\BP (s.at_ i (a.tmps.getD d undef)) w (Qp s h vs i (Il l a i))
def OG(c:Cj)(l:List Oper)(s:Iq)(env:Env)(D:List Atom):List Oper->Nat->Prop
 |[],_=>True
 |o::r,i=>(∀(V:Nat->Value) (Az:List Atom),E7 (fun k=>s.Eb k=none->s.ok k (V k)) (s.E8 i)->
  E7 (fun h=>Cb (Nf c l s (D++Az) i h (h.map V)) c l.toArray [o] (Eo l (EC s.Eb V) (s.E8 i)++env) (s.L h (h.map V)) (FM s.rs (EC s.Eb V) (s.E8 i)++(D++Az))) (Ro l s i))/\OG c l s env D r (i+1)
theorem OG.at_{c:Cj}{l:List Oper}{s:Iq}{env:Env}{D:List Atom}:∀{r:List Oper} {i:Nat},OG c l s env D r i->∀k o,r[k]? =some o->∀(V:Nat->Value) (Az:List Atom),E7 (fun k=>s.Eb k=none->s.ok k (V k)) (s.E8 (i+k))->
 E7 (fun h=>Cb (Nf c l s (D++Az) (i+k) h (h.map V)) c l.toArray [o] (Eo l (EC s.Eb V) (s.E8 (i+k))++env) (s.L h (h.map V)) (FM s.rs (EC s.Eb V) (s.E8 (i+k))++(D++Az))) (Ro l s (i+k))
 |[],_,_,k,o,AE=>by simp at AE
 |p::r,i,h,0,o,AE=>by simp at AE;subst AE;exact h.1
 |p::r,i,h,k+1,o,AE=>by
  simp only[ABC]at AE;have:=OG.at_ h.2 k o AE
  rwa [show i+1+k=i+(k+1)by omega]at this
structure Nu (c:Cj) (l:List Oper) (s:Iq) (env:Env) (D:List Atom) (A8:Array Bool) (a:Act) (w:World) (h:List Nat):Prop where
 Gw:Fr c.n a env
 st:CI c.BW c.M w (s.L h (h.map (valOf l a)))
 AR:BP D w (s.L h (h.map (valOf l a)))
 size:A8.size=l.length
 closed:∀i k,A8.getD i false=true->Gp l k i=true->A8.getD k false=true
 slot:∀i d,A8.getD i false=true->CN l i=some d->s.Rm i (a.tmps.getD d undef)/\BP (s.at_ i (a.tmps.getD d undef)) w (s.L h (h.map (valOf l a)))
 done:∀x,x∈s.Eu->(A8.getD x false=true↔x∈h)
 Kp:∀x∈h,A8.getD x false=true
 mem:h∈s.hs
section
variable{c:Cj} {l:List Oper} {s:Iq} {env:Env} {D:List Atom} {Q:AuE}
theorem Nu.frame{A8:Array Bool}{a:Act}{w:World}{h:List Nat}(m:Nu c l s env D A8 a w h)(EY:LX l c.n=true){is:List Nat}(AN:∀k∈is,k<l.length):Fr c.n a (Eo l (valOf l a) is++env):=by
 refine⟨m.Gw.size,m.Gw.GV,fun i v Ag=>?_⟩;rcases YO Ag with h|h
 · obtain⟨k,AE,AJ,BC⟩:=U' h;simp only[valOf]at BC;have Lb:=AN k AE;have C_:i<c.n:=by
    have:=ABq.1 EY (l[k]) (ACF Lb);have F6:(l[k]).dst=some i:=(by simpa[CN,ABs Lb]using AJ);rw[F6]at this;exact EU this
   have:i<a.tmps.size:=(by rw[m.Gw.size];exact C_);rw[<-BC];simp[this,Il,AJ]
 · exact m.Gw.at_ _ _ h.2
theorem bZ{V:Nat->Value}{k:Nat}(h:s.Rm k (V k)):V k=EC s.Eb V k:=by
 unfold EC;simp only[Iq.Rm]at h;split at h
 · rename_i v BC;rw[BC];exact h
 · rename_i BC;rw[BC];rfl
theorem ky{V:Nat->Value}{k:Nat}(h:s.Rm k (V k))(Ao:s.Eb k=none):s.ok k (V k):=by
 simp only[Iq.Rm,Ao]at h;exact h
def dI(l:List Oper)(env:Env)(i:Nat):Bool:=match CN l i with
 |none=>true
 |some d=> !Qi env d&&(List.range l.length).all fun j=>i==j|| !(CN l j==some d)
theorem Nu.tE{i:Nat}(Af:S6 l s.E8=true)(h2:dI l env i=true)(BB:OL l s=true)(EY:LX l c.n=true)
 {A8:Array Bool}{a:Act}{w:World}{hh:List Nat}(m:Nu c l s env D A8 a w hh)(Bh:i∈Region.ready .any l.toArray A8)
 (Dk:∀o,l[i]? =some o->∀(V:Nat->Value) (Az:List Atom),E7 (fun k=>s.Eb k=none->s.ok k (V k)) (s.E8 i)->E7 (fun h=>Cb (Nf c l s (D++Az) i h (h.map V)) c l.toArray [o] (Eo l (EC s.Eb V) (s.E8 i)++env) (s.L h (h.map V)) (FM s.rs (EC s.Eb V) (s.E8 i)++(D++Az))) (Ro l s i)){K:Act->World->Prop}
 (Je:∀Dx AT DI,Nu c l s env D (A8.setIfInBounds i true) Dx AT DI->K Dx AT):wpOp c.P l.toArray Q i K a w:=by
 obtain⟨Ib,o,A7,C0⟩:=ACz.1 Bh;have A7:l[i]? =some o:=by simpa using A7
 have Ee:i<l.length:=(ABF.1 A7).1;have IE:i<A8.size:=by rw[m.size];exact Ee
 have Jg:A8.getD i false=false:=by rw[<-OQ IE];exact Ib
 have LZ:∀k,Gp l k i=true->A8.getD k false=true:=by
  intro k AE;obtain⟨e,he,Aq,rfl⟩:=(S9 A7).1 AE;exact C0 e he Aq
 have a8:i∉hh:=fun Ag=>by
  have:=m.Kp i Ag;rw[this]at Jg;cases Jg
 have WB:∀x∈s.Eu,Gp l x i=true->x∈hh:=fun x Ab he=>(m.done x Ab).1 (LZ x he);have Yu:hh∈Ro l s i:=by
  refine ABZ.2 ⟨m.mem,?_⟩;simp only[ABb,ABk,ABe,ABq,List.contains_eq_mem,ABa,ABl];refine⟨.inr a8,fun x Ab=>⟨?_,?_⟩⟩
  · by_cases h:Gp l x i=true
    · exact .inr (WB x Ab h)
    · left;simpa using h
  · by_cases h:Gp l i x=true
    · right;intro Acw;have:=m.closed x i (m.Kp x Acw) h;rw[this]at Jg;cases Jg
    · left;simpa using h
 have Pz:∀k∈s.E8 i,Gp l k i=true/\(CN l k).isSome=true:=by
  intro k AE;have:=ABq.1 (ABq.1 Af i (ABw.2 Ee)) k AE;simpa using this
 have Wr:∀k,(CN l k).isSome=true->k<l.length:=by
  intro k AE;rcases ACq k l.length with h|h
  · exact h
  · simp[CN,ACd h]at AE
 have Se:∀k∈s.E8 i,s.Rm k (valOf l a k):=fun k AE=>by
  obtain⟨d,AJ⟩:=ACC.1 (Pz k AE).2;have:=(m.slot k d (LZ k (Pz k AE).1) AJ).1;simpa[valOf,Il,AJ]using this
 let AP:=(List.range l.length).filter fun k=>A8.getD k false&&(CN l k).isSome
 have Wl:∀k,k∈AP↔A8.getD k false=true/\(CN l k).isSome=true:=by
  intro k;simp only[AP,ABZ,ABw,ABb];exact⟨fun h=>h.2,fun h=>⟨Wr k h.2,h⟩⟩
 have aP:∀k,k∈AP->BP (s.at_ k (valOf l a k)) w (s.L hh (hh.map (valOf l a))):=by
  intro k AE;obtain⟨jr,a3⟩:=(Wl k).1 AE;obtain⟨d,AJ⟩:=ACC.1 a3;have:=(m.slot k d jr AJ).2;simpa[valOf,Il,AJ]using this
 have Fb:∀k∈s.E8 i,valOf l a k=EC s.Eb (valOf l a) k:=fun k AE=>bZ (Se k AE);have B4:Eo l (valOf l a) (s.E8 i)=Eo l (EC s.Eb (valOf l a)) (s.E8 i):=UC fun k AE _=>Fb k AE;have DC:FM s.rs (valOf l a) (s.E8 i)=FM s.rs (EC s.Eb (valOf l a)) (s.E8 i):=ZY Fb;have Jh:=(Dk o A7 (valOf l a) (FM s.rs (valOf l a) AP) (E7.intro fun k AE Ao=>ky (Se k AE) Ao));rw[<-B4,<-DC]at Jh;have Jh:=Jh.mem hh Yu a w (m.frame EY fun k AE=>Wr k (Pz k AE).2) m.st (BP.app (fun t Av=>by
  obtain⟨k,AE,Av⟩:=WR Av;exact aP k ((Wl k).2 ⟨LZ k (Pz k AE).1,(Pz k AE).2⟩) t Av) (BP.app m.AR (fun t Av=>by
  obtain⟨k,AE,Av⟩:=WR Av;exact aP k AE t Av)))
 have O0:¬LetsOut (Nf c l s (D++FM s.rs (valOf l a) AP) i hh (hh.map (valOf l a))):=by
  rintro⟨Dx,AT,h⟩;cases h.1
 -- what is left once it is done
 have G7:∀Dx AT,(∃u,Dx=a.put o.dst u)->Nf c l s (D++FM s.rs (valOf l a) AP) i hh (hh.map (valOf l a)) .normal Dx AT->K Dx AT:=by
  rintro Dx AT ⟨u,rfl⟩ ⟨_,_,Rg,OU,bg⟩;have Ws:∀d,o.dst=some d->Qi env d=false/\∀k,k≠i->CN l k≠some d:=by
   intro d AJ;have KN:CN l i=some d:=(by simp[CN,A7,AJ]);have:=h2;unfold dI at this;rw[KN]at this;simp only[ABb,ABe]at this;refine⟨this.1,fun k AE e=>?_⟩;have Lb:=Wr k (by rw[e];rfl);have:=ABq.1 this.2 k (ABw.2 Lb);simp[e,Ne.symm AE]at this
  have jL:∀k,k≠i->valOf l (a.put o.dst u) k=valOf l a k:=by
   intro k AE;simp only[valOf,Il];cases Yo:CN l k with
   |none=>rfl
   |some d=>
    cases AJ:o.dst with
    |none=>rfl
    |some d0=>
     have FG:d0≠d:=by
      rintro rfl;exact(Ws d0 AJ).2 k AE Yo
     simp[Act.put,ADA FG]
  have pO:hh.map (valOf l (a.put o.dst u))=hh.map (valOf l a):=List.map_congr_left fun x Ab=>jL x (fun e=>a8 (e▸Ab))
  let DI:=if s.Eu.contains i=true then hh++[i]else hh
  have iS:s.L DI (DI.map (valOf l (a.put o.dst u)))=Qp s hh (hh.map (valOf l a)) i (Il l (a.put o.dst u) i):=by
   unfold Qp;simp only[DI];by_cases Bm:s.Eu.contains i=true
   · rw[AA_ Bm,AA_ Bm,ADF,pO];rfl
   · rw[AA9 Bm,AA9 Bm,pO]
  rw[<-iS]at Rg OU bg;have pP:∀x,x∈DI↔x∈hh\/(x=i/\s.Eu.contains i=true):=by
   intro x;simp only[DI];by_cases Bm:s.Eu.contains i=true
   · rw[AA_ Bm];simp only[ABm,ADe,Bm,ACs]
   · rw[AA9 Bm];simp only[Bm];simp
  refine Je _ _ DI ⟨?_,Rg,fun t Av=>OU t (ABm.2 (.inl Av)),by simp[m.size],?_,?_,?_,?_,?_⟩
  · cases AJ:o.dst with
    |none=>exact m.Gw
    |some d=>
     have jl:d<c.n:=by
      have:=ABq.1 EY o (AA' A7);rw[AJ]at this;exact EU this
     have f:=m.Gw.put u jl;refine⟨f.size,f.GV,fun k v AE=>f.at_ k v ?_⟩;have FG:d≠k:=by
      rintro rfl;have:=bw AE;rw[(Ws d AJ).1]at this;cases this
     have:(d==k)=false:=(by simpa using FG);simp only[C1,this,ACx];exact AE
  · intro FV k Gf AE;rw[Ia IE]at Gf ⊢;simp only[ABk,beq_iff_eq]at Gf ⊢;rcases Gf with rfl|Gf
    · exact .inr (LZ k AE)
    · exact .inr (m.closed FV k Gf AE)
  · intro FV d Gf F6;rw[Ia IE]at Gf;simp only[ABk,beq_iff_eq]at Gf;by_cases Wt:i=FV
    · subst Wt;exact bg d F6
    · have Gf:A8.getD FV false=true:=by
       rcases Gf with h|h
       · exact absurd h Wt
       · exact h
      have PD:(a.put o.dst u).tmps.getD d undef=a.tmps.getD d undef:=by
       cases AJ:o.dst with
       |none=>rfl
       |some d0=>
        have FG:d0≠d:=by
         rintro rfl;exact(Ws d0 AJ).2 FV (Ne.symm Wt) F6
        simp[Act.put,ADA FG]
      rw[PD];refine⟨(m.slot FV d Gf F6).1,fun t Av=>OU t (ABm.2 (.inr (fp (s:=s.rs) (k:=FV) ((Wl FV).2 ⟨Gf,by rw[F6];rfl⟩) ?_)))⟩;simpa[valOf,Il,F6]using Av
  · intro x Ab;rw[Ia IE,pP x];simp only[ABk,beq_iff_eq];rw[m.done x Ab];constructor
    · rintro(rfl|h)
      · right;exact⟨rfl,by simpa using Ab⟩
      · exact .inl h
    · rintro(h|⟨rfl,_⟩)
      · exact .inr h
      · exact .inl rfl
  · intro x Ab;rw[Ia IE];simp only[ABk,beq_iff_eq];rcases(pP x).1 Ab with h|⟨rfl,_⟩
    · exact .inr (m.Kp x h)
    · exact .inl rfl
  · simp only[DI];by_cases Bm:s.Eu.contains i=true
    · rw[AA_ Bm];simp only[OL,ABb]at BB;have Sa:i∈s.Eu:=(by simpa using Bm);have:=ABq.1 (ABq.1 BB.2 hh m.mem) i Sa;simp only[ABk,ABe]at this;rcases this with(h|h)|h
      · exact absurd (by simpa using h) a8
      · exfalso;rw[<-ACH,ABq]at h;refine h fun x Ab=>?_;simp only[ABk,ABe];by_cases he:Gp l x i=true
        · right;simpa using WB x Ab he
        · left;simpa using he
      · simpa using h
    · rw[AA9 Bm];exact m.mem
 unfold wpOp;have Qc:l.toArray[i]? =some o:=by simpa using A7
 simp only[Qc];unfold wpList at Jh;by_cases hw:Region.wanted o (yielded l.toArray a.tmps)=true
 · rw[AA_ hw]at Jh ⊢;refine .inl (mj (Q:=Nf c l s (D++FM s.rs (valOf l a) AP) i hh (hh.map (valOf l a))) (fun _ _ _ h=>by cases h.1) O0 ?_);rcases Jh with h|h
   · -- the frame behind it is the one before, with a value put
     have key:∀{r:Result Next},o.upon c.P a (Nf c l s (D++FM s.rs (valOf l a) AP) i hh (hh.map (valOf l a)) .normal) (Nf c l s (D++FM s.rs (valOf l a) AP) i hh (hh.map (valOf l a))) r->o.upon c.P a K (Nf c l s (D++FM s.rs (valOf l a) AP) i hh (hh.map (valOf l a))) r:=by
      intro r h;cases r with
      |ok n AT=>
       cases n<;>simp only[Oper.upon]at h ⊢ <;>try exact h
       · exact G7 _ _ ⟨_,rfl⟩ h
       · exact G7 _ _ ⟨_,rfl⟩ h
       · exact Calls.mono h fun e Xq he=>by
          cases e with
          |returned v=>exact G7 _ _ ⟨_,rfl⟩ he
          |panicked XZ=>exact he
          |outgrown=>exact he
       · have AJ:=h.2.1;cases Re:o.dst<;>simp[Re,Act.put]at AJ
       · exact Rows.mono h fun _ _ he=>G7 _ _ ⟨_,rfl⟩ he
      |halt x AT=>cases x<;>simp only[Oper.upon]at h ⊢ <;>exact h
     exact key h
   · exact absurd h.2 O0
 · rw[AA9 hw]at Jh ⊢;exact G7 _ _ ⟨undef,rfl⟩ Jh
theorem Nu.step(Af:S6 l s.E8=true)(h2:Pv l env=true)(BB:OL l s=true)(EY:LX l c.n=true)(Dk:OG c l s env D l 0)
 {A8:Array Bool}{a:Act}{w:World}{hh:List Nat}{i:Nat}(m:Nu c l s env D A8 a w hh)(Bh:i∈Region.ready .any l.toArray A8){K:Act->World->Prop}
 (Je:∀Dx AT DI,Nu c l s env D (A8.setIfInBounds i true) Dx AT DI->K Dx AT):wpOp c.P l.toArray Q i K a w:=by
 obtain⟨_,o,A7,_⟩:=ACz.1 Bh;have Ee:i<l.length:=by
  have:=(AC_.1 A7).1;simpa using this
 exact m.tE Af (ABq.1 h2 i (ABw.2 Ee)) BB EY Bh (fun o A7 V Az LC=>by
  have:=Dk.at_ i o A7 V Az (by rw[AB0];exact LC)
  rwa [AB0]at this) Je
theorem Nu.all(Af:S6 l s.E8=true)(h2:Pv l env=true)(BB:OL l s=true)(C':ND l=true)(EY:LX l c.n=true)(Dk:OG c l s env D l 0)
 (Je:∀a w h,h∈Q6 s->Nu c l s env D (Array.replicate l.length true) a w h->Q .normal a w):
 ∀(fuel:Nat) (A8:Array Bool) (a:Act) (w:World) (h:List Nat),Nu c l s env D A8 a w h->(List.range l.length).countP (fun i=> !A8.getD i false)<=fuel->wpAny c.P .any l.toArray Q fuel A8 a w:=by
 have G7:∀(A8:Array Bool) (a:Act) (w:World) (h:List Nat),Nu c l s env D A8 a w h->Region.ready .any l.toArray A8=[]->Q .normal a w:=by
  intro A8 a w h m Bh;have C0:∀i,i<l.length->A8.getD i false=true:=by
   intro i;induction i using Nat.strongRecOn with
   |_ i Cg=>
    intro Ag;cases Tr:A8.getD i false with
    |true=>rfl
    |false=>
     exfalso;have:i∈Region.ready .any l.toArray A8:=by
      refine ACz.2 ⟨by rw[OQ (by rw[m.size];exact Ag)];exact Tr,l[i],by simp[ABs Ag],fun e he Aq=>?_⟩;have M7:=ABq.1 C' i (ABw.2 Ag);rw[ABs Ag]at M7;have:=ABq.1 M7 e (AC3.2 he);rw[Aq]at this;have C_:=EU (by simpa using this);exact Cg e.on C_ AJv
     rw[Bh]at this;cases this
  have heq:A8=Array.replicate l.length true:=by
   apply Array.ext
   · simp[m.size]
   · intro i Af h2;have:=C0 i (by rw[m.size]at Af;exact Af);simp[Af]at this;simp[this]
  have BI:h∈Q6 s:=by
   refine ABZ.2 ⟨m.mem,ABq.2 fun x Ab=>?_⟩;simp only[OL,ABb]at BB;have:=ABq.1 BB.1.2 x Ab;simpa using(m.done x Ab).1 (C0 x (EU this))
  subst heq;exact Je a w h BI m
 intro fuel;induction fuel with
 |zero=>
  intro A8 a w h m Rd;have Bh:Region.ready .any l.toArray A8=[]:=by
   apply List.eq_nil_iff_forall_not_mem.2;intro i Ag;obtain⟨Ib,o,A7,_⟩:=ACz.1 Ag;have Ee:i<l.length:=by
    have:=(AC_.1 A7).1;simpa using this
   have Jg:A8.getD i false=false:=(by rw[<-OQ (by rw[m.size];exact Ee)];exact Ib);have Bw:(List.range l.length).countP (fun i=> !A8.getD i false)=0:=AJv;have:=List.countP_eq_zero.1 Bw i (ABw.2 Ee);simp[Jg]at this
  exact⟨Bh,G7 _ _ _ _ m Bh⟩
 |succ fuel Cg=>
  intro A8 a w h m Rd;refine⟨fun Bh=>G7 _ _ _ _ m Bh,fun i Ag=>?_⟩;refine m.step Af h2 BB EY Dk Ag fun Dx AT DI WO=>Cg _ Dx AT DI WO ?_;obtain⟨Ib,o,A7,_⟩:=ACz.1 Ag;have Ee:i<l.length:=by
   have:=(AC_.1 A7).1;simpa using this
  have IE:i<A8.size:=(by rw[m.size];exact Ee);have Jg:A8.getD i false=false:=(by rw[<-OQ IE];exact Ib);have:(List.range l.length).countP (fun k=> !(A8.setIfInBounds i true).getD k false)<(List.range l.length).countP (fun k=> !A8.getD k false):=by
   refine dQ (fun k _ AE=>?_) ⟨i,ABw.2 Ee,by rw[Jg];rfl,?_⟩
   · rw[Ia IE]at AE;simp only[ABe,ABD]at AE;rw[AE.2];rfl
   · rw[Ia IE];simp
  omega
theorem lh{id:Nat}(s:Iq)(XJ:(Nat->Value)->Own)(hm:c.P.follows .mixedOrders=true)(CM:fP l env s c.n=true){L:Own}(Dv:s.L [] []=L)(Ge:E7 (fun h=>∀V:Nat->Value,s.L h (h.map V)=XJ V) (Q6 s))(Dk:OG c l s env D l 0)
 (k:∀V:Nat->Value,E7 (fun i=>(CN l i).isSome=true->s.Eb i=none->s.ok i (V i)) (List.range l.length)->Eg c Q .normal (Eo l (EC s.Eb V) (List.range l.length)++env) (XJ V) (FM s.rs (EC s.Eb V) ((List.range l.length).filter fun i=>(CN l i).isSome)++D)):CF c (.region id l.toArray true) Q env L D:=by
 intro a w f st AR;simp only[fP,ABb]at CM;obtain⟨⟨⟨⟨Af,h2⟩,C'⟩,EY⟩,BB⟩:=CM;subst Dv;refine wp_region_any hm ?_;have hs:=C8.drew [] w;have NS:Nu c l s env D (Array.replicate l.length false) a w.drew []:=by
  refine⟨f,st.step hs,AR.step hs.nil,by simp,fun i k h _=>?_,fun i d h _=>?_,fun x _=>?_,fun x Ab=>(by cases Ab),?_⟩
  · rw[Px]at h;cases h
  · rw[Px]at h;cases h
  · rw[Px];simp
  · simp only[OL,ABb]at BB;simpa using BB.1.1
 have:=Nu.all (Q:=Q) Af h2 BB C' EY Dk ?_ l.length (Array.replicate l.length false) a w.drew [] NS (by
  have:=List.countP_le_length (p:=fun i=> !(Array.replicate l.length false).getD i false) (l:=List.range l.length);simpa using this)
 · simpa using this
 · intro Dx AT h BI m;have Kp:∀i,(CN l i).isSome=true->(Array.replicate l.length true).getD i false=true:=by
    intro i Ag;have:i<l.length:=by
     rcases ACq i l.length with h|h
     · exact h
     · simp[CN,ACd h]at Ag
    simp[this]
   have AH:=Ge.mem h BI (valOf l Dx);have Gg:=m.st;have R_:=m.AR;have NM:=m.slot;rw[AH]at Gg R_ NM;have Se:∀k,(CN l k).isSome=true->s.Rm k (valOf l Dx k):=fun k AE=>by
    obtain⟨d,AJ⟩:=ACC.1 AE;have:=(NM k d (Kp k AE) AJ).1;simpa[valOf,Il,AJ]using this
   have B4:Eo l (valOf l Dx) (List.range l.length)=Eo l (EC s.Eb (valOf l Dx)) (List.range l.length):=UC fun k _ AJ=>bZ (Se k AJ);have DC:FM s.rs (valOf l Dx) ((List.range l.length).filter fun i=>(CN l i).isSome)=FM s.rs (EC s.Eb (valOf l Dx)) ((List.range l.length).filter fun i=>(CN l i).isSome):=ZY fun k AE=>bZ (Se k (by simpa using(ABZ.1 AE).2));have AE:=k (valOf l Dx) (E7.intro fun i _ AJ Ao=>ky (Se i AJ) Ao);rw[<-B4,<-DC]at AE;refine AE Dx AT (m.frame EY fun k AE=>ABw.1 AE) Gg (BP.app (fun t Av=>?_) R_);obtain⟨i,Ag,Av⟩:=WR Av;have AJ:=(ABZ.1 Ag).2;obtain⟨d,AJ⟩:=ACC.1 AJ;have:=(NM i d (Kp i (by rw[AJ];rfl)) AJ).2;simp only[valOf,Il,AJ]at Av;exact this t Av
theorem Ig{i:Nat}{h:List Nat}{vs:List Value}{env':Env}{DZ:Own}{Dd Az:List Atom}{d:Nat}{u:Value}(AJ:CN l i=some d)(BC:C1 env' d=some u)(Dv:DZ=Qp s h vs i u)(CM:s.Rm i u)(Rc:Bg (s.at_ i u) Dd)(DK:Bg Az Dd):
 Eg c (Nf c l s Az i h vs) .normal env' DZ Dd:=by
 intro a w f st AR;have e:a.tmps.getD d undef=u:=by
  have:=f.at_ d u BC;simp[this]
 have DC:Il l a i=u:=by simp only[Il,AJ,e]
 subst Dv;refine⟨rfl,f.GV,by rw[DC];exact st,by rw[DC];exact AR.sub DK,fun RQ F6=>?_⟩;rw[AJ]at F6;injection F6 with F6;subst F6;rw[e,DC];exact⟨CM,AR.sub Rc⟩
theorem YW{i:Nat}{h:List Nat}{vs:List Value}{env':Env}{DZ:Own}{Dd Az:List Atom}(AJ:CN l i=none)(Dv:DZ=Qp s h vs i undef)(DK:Bg Az Dd):
 Eg c (Nf c l s Az i h vs) .normal env' DZ Dd:=by
 intro a w f st AR;have DC:Il l a i=undef:=by simp only[Il,AJ]
 subst Dv;refine⟨rfl,f.GV,by rw[DC];exact st,by rw[DC];exact AR.sub DK,fun RQ F6=>?_⟩;rw[AJ]at F6;cases F6
end
end
section
universe Aky
theorem G{α:Sort Aky}{a:α}:a=a:=rfl
theorem Aa{D:List Atom}:Bg [] D:=Bg.nil
theorem Br{D:List Atom}:Bg D D:=Bg.refl
theorem Ad{D DB:List Atom}{t:Atom}(i:Nat)(Ag:D[i]? =some t)(h:Bg DB D):Bg (t::DB) D:=Bg.cons i Ag h
section
variable{α:Type} {q:α->Prop} {a b c d e f:α}
theorem GK(Af:q a):E7 q [a]:=⟨Af,trivial⟩
theorem m6(Af:q a)(h2:q b):E7 q [a,b]:=⟨Af,h2,trivial⟩
theorem du(Af:q a)(h2:q b)(Bo:q c):E7 q [a,b,c]:=⟨Af,h2,Bo,trivial⟩
theorem wI(Af:q a)(h2:q b)(Bo:q c)(BB:q d)(C':q e):E7 q [a,b,c,d,e]:=⟨Af,h2,Bo,BB,C',trivial⟩
end
section
variable{c:Cj} {l:List Oper} {ops:Array Oper} {env:Env} {DZ:Own} {D:List Atom} {i d:Nat} {u:Value}
theorem GH{s:Iq}{h:List Nat}{vs:List Value}(AJ:CN l i=some d)(Dv:DZ=Qp s h vs i u)(CM:s.Rm i u)(Rc:s.at_ i u=[]):Cb (Nf c l s D i h vs) c ops [] ((d,u)::env) DZ D:=
 nl (Ig AJ (by simp[C1]) Dv CM (by rw[Rc];exact Bg.nil) Bg.refl)
end
end
@[reducible] def vx:List Value:=[.int .i64 0,.int .i64 0,.int .i64 0,.int .i64 0]
@[reducible] def vy:List Value:=[.int .i64 0,.int .i64 0]
@[reducible] def XH:List Value:=[.int .i64 0,.int .i64 0,.string ByteArray.empty,.string ByteArray.empty,.int .i64 0,.int .i64 0,.int .i64 0,.int .i64 0]
@[reducible] def dh:List Value:=[.int .i64 0,.int .i64 0,.bool false,.int .i64 0,.int .i64 0,.int .i64 0,.int .i64 0]
@[reducible] def gU:List Value:=[.int .i64 0,.int .i64 0,.int .i64 0,.int .i64 0,.int .i64 0,.int .i64 0,.string ByteArray.empty,.string ByteArray.empty,.int .i64 0,.int .i64 0,.int .i64 0]
@[reducible] def N9:List Value:=[.string ByteArray.empty,.int .i64 0,.int .i64 0,.int .i64 0,.int .i64 0,.slice none 0 0,.int .i64 0,.int .i64 0,.int .i64 0,.int .i64 0]
@[reducible] def IQ:List Value:=[.int .i64 0,.int .i64 0,.bool false,.string ByteArray.empty,.string ByteArray.empty,.int .i64 0,.slice none 0 0,.slice none 0 0,.slice none 0 0,.slice none 0 0,.slice none 0 0,.int .i64 0,.int .i64 0,.int .i64 0,.string ByteArray.empty,.string ByteArray.empty,.int .i64 0,.int .i64 0,.int .i64 0,.int .i64 0,.int .i64 0,.string ByteArray.empty,.string ByteArray.empty,.int .i64 0,.int .i64 0,.slice none 0 0,.int .i64 0,.int .i64 0,.int .i64 0]
@[reducible] def AuF{α β:Type}(FA:Be α)(Kb:Be β)(o n:Nat)(x:α)(y:β):Prop:=∀(S:Nat->Prop) (w:World) (cs:List Value),FA.rd S w cs x->Kb.rd S w ((cs.drop o).take n) y
theorem BE{D DB:List Atom}(l:List Nat)(h:l.map (fun i=>D[i]?)=DB.map some):Bg DB D:=by
  induction DB generalizing l with
  |nil=>exact Bg.nil
  |cons a r Cg=>
    cases l with
    |nil=>cases h
    |cons i l=>
      simp only[AB8,ACj]at h;exact Bg.cons i h.1 (Cg l h.2)
theorem Bs{l env:Env}(h:l.map (fun p=>C1 env p.1)=l.map (fun p=>some p.2)):Sub l env:=by
  induction l with
  |nil=>trivial
  |cons p r Cg=>
    simp only[AB8,ACj]at h;exact⟨h.1,Cg h.2⟩
@[reducible] def AI:Value:=.slice none 0 0
theorem Fo{c:Cj}{ops:Array Oper}{AP:Cj->Array Oper->List Oper->Env->Own->List Atom->Prop}[Ip AP]{env:Env}{L:Own}{D:List Atom}{rest:List Oper}{d:Nat}{t:TypeId}{p:String}{af:Array Edge}{x y:Operand}{α:Type}[Inhabited α]{r:Be α}(i:Nat){xs:List α}{Bk:Value}{m:Int}{T E:TypeId}(Ab:AL env x=some Bk)(Cl:D[i]? =some (@Atom.mk (List α) (@FI α r) Bk xs))(Bf:AL env y=some (.int .i64 m))(Av:H5 c.P T E r.size)(Ao:Nat.blt d c.n=true)(k:∀u,AP c ops rest ((d,u)::env) L ((@Atom.mk (Cq α) (@F9 α r) u ⟨xs.getD m.toNat default⟩)::D))(Bw:0<=m:=by omega)(Af:m.toNat<xs.length:=by omega):AP c ops (⟨some d,.indexAddr T x y,t,p,af,none⟩::rest) env L D:=Qh i Ab Cl Bf Av Bw (Ly Af) Ao k
@[reducible] def Ak{α:Type}(x:α):Cq α:=⟨x⟩
theorem CJ{c:Cj}{ops:Array Oper}{AP:Cj->Array Oper->List Oper->Env->Own->List Atom->Prop}[Ip AP]{env:Env}{L:Own}{D:List Atom}{rest:List Oper}{d:Nat}{t:TypeId}{p:String}{af:Array Edge}{x:Operand}{α β:Type}{FA:Be α}{Kb:Be β}(i:Nat){ov:α}{iw:β}{By:Value}{s:TypeId}{j off:Nat}(CK:∀S w cs,FA.rd S w cs ov->Kb.rd S w ((cs.drop off).take Kb.size) iw)(Ab:AL env x=some By)(Cl:D[i]? =some (@Atom.mk (Cq α) (@F9 α FA) By ⟨ov⟩))(BI:QD c.P s j off)
 (Ao:Nat.blt d c.n=true)(k:∀u,AP c ops rest ((d,u)::env) L ((@Atom.mk (Cq β) (@F9 β Kb) u ⟨iw⟩)::D)):AP c ops (⟨some d,.fieldAddr s x j,t,p,af,none⟩::rest) env L D:=IY i (fun _=>iw) Ab Cl BI CK Ao k
theorem Qm{α:Type _}{l:List α}{a:α}(i:Nat)(h:l[i]? =some a):a∈l:=AA' h
theorem Ac{c:Cj}{y:Code}{Q:AuE}{Q':AuE}{ops:Array Oper}{env:Env}{L:Own}{D:List Atom}(h:CF c y Q env L D):Cb (Exit.then (Code.wp c.P y Q) Q') c ops [] env L D:=nl (A5 h)
theorem AZ{c:Cj}{y:Code}{Q:AuE}{Q':AuE}{env:Env}{L:Own}{D:List Atom}(h:CF c y Q env L D):CF c .skip (Exit.then (Code.wp c.P y Q) Q') env L D:=EG (A5 h)
theorem BA{c:Cj}{K:Act->World->Prop}{Q:AuE}{env:Env}{L:Own}{D:List Atom}(h:Eg c Q .ret env L D):CF c .ret (Exit.then K Q) env L D:=rt (Cd h)
section
def gW(P:Program)(T:TypeId)(offs:List Nat):Prop:=∃B1:Array Field,P.underlying T=some (.struct B1)/\(B1.toList.map fun f=>((P.info? f.type).map (fun j=>j.size==0),f.offset))=offs.map (fun o=>(some false,o))
theorem gW.at_{P:Program}{T:TypeId}{offs:List Nat}(h:gW P T offs){i off:Nat}(Ag:offs[i]? =some off):QD P T i off:=by
 obtain⟨B1,hu,he⟩:=h;have Af:(offs.map (fun o=>((some false:Option Bool),o)))[i]? =some (some false,off):=by simp[Ag]
 rw[<-he,List.getElem?_map]at Af;obtain⟨f,BI,h2⟩:=Option.map_eq_some_iff.1 Af;simp only[ACg]at h2;exact QD.mk hu (f:=f) (by simpa using BI) h2.1 h2.2
def Un(P:Program):List (Nat×List Nat)->Prop
 |[]=>True
 |p::r=>gW P p.1 p.2/\Un P r
def Vy(P:Program):List Nat->Prop
 |[]=>True
 |T::r=>Nv P T/\Vy P r
def ZB(P:Program):List (Nat×Nat)->Prop
 |[]=>True
 |p::r=>Oc P p.1 p.2/\ZB P r
class J7 (P:Program) where
 B1:List (Nat×List Nat)
 os:List Nat
 rs:List (Nat×Nat)
 okF:Un P B1
 Qq:Vy P os
 b0:ZB P rs
 fq:P.follows .mixedOrders=true
def aD:List (Nat×List Nat)->Nat->Nat->Option Nat
 |[],_,_=>none
 |(T,l)::r,s,i=>bif T==s then l[i]? else aD r s i
def A7:List Nat->Nat->Bool
 |[],_=>false
 |T::r,s=>bif T==s then true else A7 r s
def ro:List (Nat×Nat)->Nat->Option Nat
 |[],_=>none
 |(T,n)::r,s=>bif T==s then some n else ro r s
theorem fR{P:Program}{s n:Nat}:∀{l:List (Nat×Nat)},ZB P l->ro l s=some n->Oc P s n
 |[],_,h=>by cases h
 |(T,m)::r,AN,h=>by
  simp only[ro]at h;by_cases LY:T=s
  · subst LY;simp at h;subst h;exact AN.1
  · have:(T==s)=false:=(by simpa using LY);rw[this]at h;exact fR AN.2 h
theorem ic{P:Program}{s i off:Nat}:∀{l:List (Nat×List Nat)},Un P l->aD l s i=some off->QD P s i off
 |[],_,h=>by cases h
 |(T,l)::r,AN,h=>by
  simp only[aD]at h;by_cases LY:T=s
  · subst LY;simp at h;exact AN.1.at_ h
  · have:(T==s)=false:=(by simpa using LY);rw[this]at h;exact ic AN.2 h
theorem a9{P:Program}{s:Nat}:∀{l:List Nat},Vy P l->A7 l s=true->Nv P s
 |[],_,h=>by cases h
 |T::r,AN,h=>by
  simp only[A7]at h;by_cases LY:T=s
  · subst LY;exact AN.1
  · have:(T==s)=false:=(by simpa using LY);rw[this]at h;exact a9 AN.2 h
def R0(ops:Array Oper)(env:Env)(j:Nat)(b:Bool):Option Bool:=match ops[j]? with
 |some o=>match o.dst with
  |some d=>match C1 env d with
   |some (.bool KZ)=>some (KZ==b)
   |some (.tuple _)=>some false
   |_=>none
  |none=>none
 |none=>none
def nC:BinOp->Value->Value->Option Value
 | .lss,.int q m,.int EJ n=>if q=EJ then some (.bool (decide (m<n)))else none
 | .leq,.int q m,.int EJ n=>if q=EJ then some (.bool (decide (m<=n)))else none
 | .gtr,.int q m,.int EJ n=>if q=EJ then some (.bool (decide (n<m)))else none
 | .geq,.int q m,.int EJ n=>if q=EJ then some (.bool (decide (n<=m)))else none
 | .eql,.int q m,.int EJ n=>if q=EJ then some (.bool (decide (m=n)))else none
 | .neq,.int q m,.int EJ n=>if q=EJ then some (.bool (!decide (m=n)))else none
 | .eql,.string s,.string DR=>some (.bool (decide (s=DR)))
 | .neq,.string s,.string DR=>some (.bool (!decide (s=DR)))
 |_,_,_=>none
def By(B1:List (Nat×List Nat))(env:Env):Op->Option Value
 | .move x=>AL env x
 | .assign x=>AL env x
 | .nilCheck x=>match AL env x with
  |some (.pointer (some a))=>some (.pointer (some a))
  |_=>none
 | .extract x i=>match AL env x with
  |some (.tuple vs)=>vs[i]?
  |_=>none
 | .pick x y z=>match AL env x with
  |some (.bool true)=>AL env y
  |some (.bool false)=>AL env z
  |_=>none
 | .unOp .not _ x=>match AL env x with
  |some (.bool b)=>some (.bool (!b))
  |_=>none
 | .fieldAddr s x i=>match AL env x with
  |some (.pointer (some ⟨b,o,none⟩))=>match aD B1 s i with
   |some off=>some (.pointer (some ⟨b,o+off,none⟩))
   |none=>none
  |_=>none
 | .binOp op _ x y _=>match AL env x with
  |some u=>match AL env y with
   |some v=>nC op u v
   |none=>none
  |none=>none
 |_=>none
def pl(B1:List (Nat×List Nat))(os:List Nat)(L:Own)(env:Env)(h:List Nat):Op->Option (Value×List Nat×List (C4×C4))
 | .load E x=>match h with
  |i::DI=>match AL env x with
   |some (.pointer (some ⟨b,o,none⟩))=>match L[i]? with
    |some q=>match q.cs[o]? with
     |some v=>bif A7 os E then some (v,DI,[(q,AO b q.ty q.cs)])else none
     |none=>none
    |none=>none
   |_=>none
  |[]=>none
 |op=>match By B1 env op with
  |some v=>some (v,h,[])
  |none=>none
def run(n:Nat)(B1:List (Nat×List Nat))(os:List Nat)(ops:Array Oper)(L:Own):Nat->List Nat->List Oper->Env->Option (List Oper×Env×List (C4×C4))
 |0,_,l,env=>some (l,env,[])
 |_+1,_,[],_=>none
 |k+1,h,o::r,env=>match o.dst with
  |none=>none
  |some d=>bif Nat.blt d n then(match(match o.guard with
   |none=>some true
   |some (j,b)=>R0 ops env j b)with
   |some true=>match pl B1 os L env h o.op with
    |some (v,DI,a)=>match run n B1 os ops L k DI r ((d,v)::env)with
     |some (fI,IV,b)=>some (fI,IV,a++b)
     |none=>none
    |none=>none
   |some false=>run n B1 os ops L k h r ((d,undef)::env)
   |none=>none)else none
section
variable{c:Cj} {ops:Array Oper} {AP:Cj->Array Oper->List Oper->Env->Own->List Atom->Prop} [Dr:Ip AP] {env env':Env} {L:Own} {D:List Atom} {rest l WL:List Oper} {d:Nat} {v:Value} {t:TypeId} {p:String} {af:Array Edge}
include Dr
theorem cc{B1:List (Nat×List Nat)}(BI:Un c.P B1){op:Op}(h:By B1 env op=some v)(Ao:Nat.blt d c.n=true)(k:AP c ops rest ((d,v)::env) L D):AP c ops (⟨some d,op,t,p,af,none⟩::rest) env L D:=by
 cases op<;>simp only[By,reduceCtorEq]at h
 case move x=>exact An h Ao k
 case assign x=>exact VQ h Ao k
 case nilCheck x=>
  split at h
  · rename_i a AK;injection h with h;subst h;exact Va AK Ao k
  · cases h
 case extract x i=>
  split at h
  · rename_i vs Ab;exact Ec Ab h Ao k
  · cases h
 case pick x y z=>
  split at h
  · rename_i Ab;exact Ahk Ab h Ao k
  · rename_i Ab;exact Ahj Ab h Ao k
  · cases h
 case unOp o ty x=>
  cases o<;>simp only[reduceCtorEq]at h;split at h
  · rename_i b Ab;injection h with h;subst h;exact IH Ab Ao k
  · cases h
 case fieldAddr s x i=>
  split at h
  · rename_i b o Ab;split at h
    · rename_i off A7;injection h with h;subst h;exact UG Ab (ic BI A7) Ao k
    · cases h
  · cases h
 case binOp op Apk x y FK=>
  split at h
  · rename_i u Ab;split at h
    · rename_i Pc Bf;unfold nC at h;split at h
      · split at h
        · rename_i B';subst B';injection h with h;subst h;exact Ci Ab Bf Ao k
        · cases h
      · split at h
        · rename_i B';subst B';injection h with h;subst h;exact Adp Ab Bf Ao k
        · cases h
      · split at h
        · rename_i B';subst B';injection h with h;subst h;exact AaD Ab Bf Ao k
        · cases h
      · split at h
        · rename_i B';subst B';injection h with h;subst h;exact Aat Ab Bf Ao k
        · cases h
      · split at h
        · rename_i B';subst B';injection h with h;subst h;exact zc Ab Bf Ao k
        · cases h
      · split at h
        · rename_i B';subst B';injection h with h;subst h;exact Aem Ab Bf Ao k
        · cases h
      · injection h with h;subst h;exact ze Ab Bf Ao k
      · injection h with h;subst h;exact Aen Ab Bf Ao k
      · cases h
    · cases h
  · cases h
theorem Ahl{B1:List (Nat×List Nat)}{os:List Nat}(BI:Un c.P B1)(Qc:Vy c.P os){op:Op}{hs HW:List Nat}{a:List (C4×C4)}(h:pl B1 os L env hs op=some (v,HW,a))(AK:a.map Prod.fst=a.map Prod.snd)(Ao:Nat.blt d c.n=true)(k:AP c ops rest ((d,v)::env) L D):AP c ops (⟨some d,op,t,p,af,none⟩::rest) env L D:=by
 unfold pl at h;split at h
 · split at h
   · split at h
     · rename_i b o Ab;split at h
       · rename_i q B';split at h
         · rename_i J4 BC;cases Dk:A7 os _ with
           |false=>rw[Dk]at h;cases h
           |true=>
            rw[Dk]at h;simp only[cond_true,ABX,ACg]at h;obtain⟨rfl,rfl,rfl⟩:=h;simp only[AB8,List.map_nil,ACj,ACs]at AK;exact ME _ Ab (B'.trans (ABE some AK)) (a9 Qc Dk) BC Ao k
         · cases h
       · cases h
     · cases h
   · cases h
 · split at h
   · rename_i J4 BC;simp only[ABX,ACg]at h;obtain⟨rfl,rfl,rfl⟩:=h;exact cc BI BC Ao k
   · cases h
theorem iy{dst:Option Tmp}{op:Op}{j:Nat}{b:Bool}(h:R0 ops env j b=some true)(k:AP c ops (⟨dst,op,t,p,af,none⟩::rest) env L D):AP c ops (⟨dst,op,t,p,af,some (j,b)⟩::rest) env L D:=by
 unfold R0 at h;split at h
 · rename_i NV Ay;split at h
   · rename_i V1 U0;split at h
     · rename_i KZ Aq;simp only[ABX,beq_iff_eq]at h;subst h;exact Bl Ay U0 Aq k
     · cases h
     · cases h
   · cases h
 · cases h
theorem iu{op:Op}{j:Nat}{b:Bool}(h:R0 ops env j b=some false)(Ao:Nat.blt d c.n=true)(k:AP c ops rest ((d,undef)::env) L D):AP c ops (⟨some d,op,t,p,af,some (j,b)⟩::rest) env L D:=by
 unfold R0 at h;split at h
 · rename_i NV Ay;split at h
   · rename_i V1 U0;split at h
     · rename_i KZ Aq;simp only[ABX]at h;exact G2 Ay U0 Aq h Ao k
     · rename_i Zn Aq;exact Dr.c4 (fun a w f st AR=>by
        have:=f.at_ _ _ Aq;exact⟨by simp[Region.wanted,yielded,Ay,U0,this],f.put undef (EU Ao)⟩) k
     · cases h
   · cases h
 · cases h
theorem TR{B1:List (Nat×List Nat)}{os:List Nat}(BI:Un c.P B1)(Qc:Vy c.P os):∀(n:Nat) {hs:List Nat} {l:List Oper} {env:Env} {a:List (C4×C4)},run c.n B1 os ops L n hs l env=some (WL,env',a)->a.map Prod.fst=a.map Prod.snd->AP c ops WL env' L D->AP c ops l env L D
 |0,hs,l,env,a,h,AK,k=>by
  simp only[run,ABX,ACg]at h;obtain⟨rfl,rfl,rfl⟩:=h;exact k
 |n+1,hs,[],env,a,h,AK,k=>by simp[run]at h
 |n+1,hs,o::r,env,a,h,AK,k=>by
  have Cg:∀{hs:List Nat} {l:List Oper} {env:Env} {a:List (C4×C4)},run c.n B1 os ops L n hs l env=some (WL,env',a)->a.map Prod.fst=a.map Prod.snd->AP c ops l env L D:=fun h AK=>TR BI Qc n h AK k;obtain⟨dst,op,t,p,af,g⟩:=o;cases dst with
  |none=>simp[run]at h
  |some d=>
   simp only[run]at h;cases Ao:Nat.blt d c.n with
   |false=>rw[Ao]at h;cases h
   |true=>
    rw[Ao]at h;simp only[cond_true]at h;split at h
    · rename_i CK;split at h
      · rename_i v DI DP BC;split at h
        · rename_i fI IV b Bh;simp only[ABX,ACg]at h;obtain⟨rfl,rfl,rfl⟩:=h;simp only[ADF]at AK;have AN:=List.append_inj AK (by simp);have NP:=Ahl (t:=t) (p:=p) (af:=af) BI Qc BC AN.1 Ao (Cg Bh AN.2);cases g with
          |none=>exact NP
          |some g=>exact iy CK NP
        · cases h
      · cases h
    · rename_i CK;have NP:=Cg h AK;cases g with
      |none=>cases CK
      |some g=>exact iu CK Ao NP
    · cases h
theorem U[Cr:J7 c.P](n:Nat)(h:run c.n Cr.B1 Cr.os ops L n [] l env=some (WL,env',[]))(k:AP c ops WL env' L D):AP c ops l env L D:=TR Cr.okF Cr.Qq n h rfl k
theorem AX[Cr:J7 c.P](n:Nat)(hs:List Nat){a:List (C4×C4)}(h:run c.n Cr.B1 Cr.os ops L n hs l env=some (WL,env',a))(AK:a.map Prod.fst=a.map Prod.snd)(k:AP c ops WL env' L D):AP c ops l env L D:=TR Cr.okF Cr.Qq n h AK k
end
end
section
def res:List Nat->Env->Option Env
 |[],_=>some []
 |i::r,env=>match C1 env i with
  |some v=>match res r env with
   |some e=>some ((i,v)::e)
   |none=>none
  |none=>none
theorem TP:∀{Im:List Nat} {env e:Env},res Im env=some e->Sub e env
 |[],env,e,h=>by
  simp only[res,ABX]at h;subst h;trivial
 |i::r,env,e,h=>by
  simp only[res]at h;split at h
  · rename_i v BC;split at h
    · rename_i IV he;injection h with h;subst h;exact⟨BC,TP he⟩
    · cases h
  · cases h
section
variable{c:Cj} {ops:Array Oper} {AP:Cj->Array Oper->List Oper->Env->Own->List Atom->Prop} [Dr:Ip AP] {env Jb ay Ta:Env} {L:Own} {D:List Atom} {l rest:List Oper} {d:Nat} {t u:Bool} {a:List (C4×C4)}
include Dr
theorem Fu[Cr:J7 c.P](i n:Nat)(hs Im:List Nat)
 (h:(C1 env i,run c.n Cr.B1 Cr.os ops L n hs l ((i,.bool true)::env),run c.n Cr.B1 Cr.os ops L n [] l ((i,.bool false)::env))=(some (.bool t),some (rest,(d,.bool u)::ay,a),some (rest,(d,.bool false)::Ta,[])))
 (AK:a.map Prod.fst=a.map Prod.snd)(he:(res Im ay,res Im Ta)=(some Jb,some Jb))(K:AP c ops rest ((d,.bool (t&&u))::Jb) L D):AP c ops l env L D:=by
 simp only[ACg]at h he;exact ts h.1 (fun Av=>TR Cr.okF Cr.Qq n h.2.1 AK (qv K Av (TP he.1) Bg.refl)) (fun Av=>TR Cr.okF Cr.Qq n h.2.2 rfl (qw K Av (TP he.2) Bg.refl))
theorem ET[Cr:J7 c.P](i n:Nat)(hs Im:List Nat)
 (h:(C1 env i,run c.n Cr.B1 Cr.os ops L n hs l ((i,.bool false)::env),run c.n Cr.B1 Cr.os ops L n [] l ((i,.bool true)::env))=(some (.bool t),some (rest,(d,.bool u)::ay,a),some (rest,(d,.bool true)::Ta,[])))
 (AK:a.map Prod.fst=a.map Prod.snd)(he:(res Im ay,res Im Ta)=(some Jb,some Jb))(K:AP c ops rest ((d,.bool (t||u))::Jb) L D):AP c ops l env L D:=by
 simp only[ACg]at h he;exact tt h.1 (fun Av=>TR Cr.okF Cr.Qq n h.2.1 AK (qx K Av (TP he.1) Bg.refl)) (fun Av=>TR Cr.okF Cr.Qq n h.2.2 rfl (qy K Av (TP he.2) Bg.refl))
end
section
variable{c:Cj} {Q Q':AuE} {env env':Env} {L:Own} {D:List Atom} {l:List Oper} {y:Code} {id:Nat} {a:List (C4×C4)}
theorem FA[Cr:J7 c.P](n:Nat)(h:run c.n Cr.B1 Cr.os l.toArray L n [] l env=some ([],env',[]))(k:Eg c Q .normal env' L D):CF c (.region id l.toArray false) Q env L D:=rg (U n h (nl k))
theorem Kb[Cr:J7 c.P](n:Nat)(hs:List Nat)(h:run c.n Cr.B1 Cr.os l.toArray L n hs l env=some ([],env',a))(AK:a.map Prod.fst=a.map Prod.snd)(k:Eg c Q .normal env' L D):CF c (.region id l.toArray false) Q env L D:=rg (AX n hs h AK (nl k))
theorem AF[Cr:J7 c.P](n:Nat)(h:run c.n Cr.B1 Cr.os l.toArray L n [] l env=some ([],env',[]))(k:CF c y Q env' L D):CF c (.seq (.region id l.toArray false) y) Q env L D:=Am (FA n h (A5 k))
theorem I5[Cr:J7 c.P](n:Nat)(hs:List Nat)(h:run c.n Cr.B1 Cr.os l.toArray L n hs l env=some ([],env',a))(AK:a.map Prod.fst=a.map Prod.snd)(k:CF c y Q env' L D):CF c (.seq (.region id l.toArray false) y) Q env L D:=Am (Kb n hs h AK (A5 k))
theorem Ae(h:Cb (Exit.then (Code.wp c.P y Q) Q) c l.toArray l env L D):CF c (.seq (.region id l.toArray false) y) Q env L D:=Am (rg h)
end
end
section
structure vE (P:Program) where
 f:FuncId
 us:List Value
 DB:List Atom
 u:Value
 h:Cv P f us DB u
 ok:GU P f
theorem gh{l:List Oper}{n i d:Nat}{o:Oper}(h:LX l n=true)(Ag:l[i]? =some o)(AJ:o.dst=some d):Nat.blt d n=true:=by
 have:=ABq.1 h o (AA' Ag);rw[AJ]at this;exact this
theorem l1{di D:List Atom}:Bg D (di++D):=fun _ h=>ABm.2 (.inr h)
inductive Oa (P:Program) where
 |NQ (i:Nat)
 |st (i:Nat)
 |F0 (ix:List Nat) (x:vE P)
 |eq (u v:Value) (h:u=v)
def TB{P:Program}:List (Nat×Oa P)->Nat->Option (Oa P)
 |[],_=>none
 |(j,k)::r,i=>bif Nat.beq j i then some k else TB r i
structure VA where
 j:Nat
 b:Nat
 o:Nat
 us:List Value
def Ex{α:Type _}:List (Nat×α)->Nat->Option α
 |[],_=>none
 |(j,k)::r,i=>bif Nat.beq j i then some k else Ex r i
def rY{β:Type}:List Value->List Value->(List Value->Option β)->Option β
 |cs,[],k=>k cs
 |[],_::_,_=>none
 |_::cs,u::us,k=>rY cs us fun r=>k (u::r)
def lT{β:Type}:List Value->Nat->List Value->(List Value->Option β)->Option β
 |cs,0,us,k=>rY cs us k
 |[],_+1,_,_=>none
 |c::cs,n+1,us,k=>lT cs n us fun r=>k (c::r)
def lE{β:Type}:Own->Nat->(C4->(C4->Option β)->Option β)->(Own->Option β)->Option β
 |[],_,_,_=>none
 |q::L,0,g,k=>g q fun EJ=>k (EJ::L)
 |q::L,n+1,g,k=>lE L n g fun r=>k (q::r)
def Zm{β:Type}:List Value->Nat->(List Value->Option β)->Option β
 |_,0,k=>k []
 |[],_+1,_=>none
 |c::cs,n+1,k=>Zm cs n fun r=>k (c::r)
def uk{P:Program}(B1:List (Nat×List Nat))(rs:List (Nat×Nat))(k:Option (Oa P))(E:Env)(L:Own)(op:Op):Option Value:=match k with
 |some (.F0 _ x)=>some x.u
 |some (.eq _ v _)=>some v
 |some (.NQ j)=>match op with
  | .load T x=>match AL E x with
   |some (.pointer (some ⟨_,a,none⟩))=>match L[j]? with
    |some q=>match ro rs T with
     |some n=>Zm (q.cs.drop a) n fun us=>some (.agg us.toArray)
     |none=>q.cs[a]?
    |none=>none
   |_=>none
  |_=>none
 |_=>By B1 E op
def cu{P:Program}(B1:List (Nat×List Nat))(os:List Nat)(rs:List (Nat×Nat))(ks:List (Nat×Oa P))(ops:Array Oper):List Oper->Nat->Own->List (Nat×Value)->List (Nat×VA)->Env->Option (List (Nat×Value)×List (Nat×VA)×Own×Env)
 |[],_,L,vs,S',E=>some (vs,S',L,E)
 |o::r,i,L,vs,S',E=>match(match o.guard with
  |none=>some true
  |some (j,b)=>R0 ops E j b)with
  |some false=>match o.dst with
   |some d=>cu B1 os rs ks ops r (i+1) L ((i,undef)::vs) S' ((d,undef)::E)
   |none=>none
  |none=>none
  |some true=>match TB ks i with
  |some (.st j)=>match o.op with
   | .store _ x y=>match AL E x with
    |some (.pointer (some ⟨b,a,none⟩))=>match AL E y with
     |some (.agg us)=>lE L j (fun q k=>lT q.cs a us.toList fun cs=>k (AO b q.ty cs)) fun DZ=>cu B1 os rs ks ops r (i+1) DZ vs (S'++[(i,⟨j,b,a,us.toList⟩)]) E
     |some u=>lE L j (fun q k=>lT q.cs a [u] fun cs=>k (AO b q.ty cs)) fun DZ=>cu B1 os rs ks ops r (i+1) DZ vs (S'++[(i,⟨j,b,a,[u]⟩)]) E
     |none=>none
    |_=>none
   |_=>none
  |k=>match o.dst with
   |none=>none
   |some d=>match uk B1 rs k E L o.op with
    |some u=>cu B1 os rs ks ops r (i+1) L ((i,u)::vs) S' ((d,u)::E)
    |none=>none
def YC(l:List Oper)(d:Nat):Bool:=l.any fun o=>match o.dst with
 |some e=>Nat.beq e d
 |none=>false
def Gv(l:List Oper):Env->Env
 |[]=>[]
 |(d,v)::r=>bif YC l d then Gv l r else(d,v)::Gv l r
def hO{β:Type}(l:List Oper):Env->(Env->Option β)->Option β
 |[],k=>k []
 |(d,v)::r,k=>bif YC l d then hO l r k else hO l r fun e=>k ((d,v)::e)
inductive Jl where
 |v (l:List Value)
 |o (q:C4)
 |a (l:List (Option Atom))
def GF(l:List Oper)(i:Nat):List Nat:=match l[i]? with
 |some o=>(o.after.toList.filter fun e=>Region.binds .any e&&((match e.ground with
  | .data=>true
  | .guard=>true
  |_=>false)||(match o.guard with
  |some (j,_)=>Nat.beq j e.on
  |none=>false))&&(CN l e.on).isSome).map (·.on)
 |none=>[]
def bF{α:Type}{β:Type 1}(f:α->Option (List β)):List α->Option (List β)
 |[]=>some []
 |x::r=>match f x with
  |some a=>match bF f r with
   |some b=>some (a++b)
   |none=>none
  |none=>none
def q1(os:List Nat)(rs:List (Nat×Nat))(T b a j:Nat)(u:Value)(L:Own):Option (List (Jl×Jl)):=match L[j]? with
 |some q=>match ro rs T with
  |some n=>bif Nat.beq ((q.cs.drop a).take n).length n then some [(.o q,.o (AO b q.ty q.cs)),(.v [u],.v [.agg ((q.cs.drop a).take n).toArray])]else none
  |none=>bif A7 os T then(match q.cs[a]? with
   |some v=>some [(.o q,.o (AO b q.ty q.cs)),(.v [u],.v [v])]
   |none=>none)else none
 |none=>none
def AjM(os:List Nat)(rs:List (Nat×Nat))(T b a:Nat)(u:Value)(e:VA)(L:Own):Option (List (Jl×Jl)):=match L[e.j]? with
 |some q=>match u with
  | .agg us=>match ro rs T with
   |some n=>bif Nat.beq us.toList.length n&&us.toList.all (·.oneCell')&&Nat.ble (a+us.toList.length) q.cs.length then some [(.o q,.o (AO b q.ty q.cs)),(.v (.pointer (some ⟨b,a,none⟩)::us.toList),.v (.pointer (some ⟨e.b,e.o,none⟩)::e.us))]else none
   |none=>none
  |u=>bif A7 os T&&u.oneCell'&&Nat.blt a q.cs.length then some [(.o q,.o (AO b q.ty q.cs)),(.v [.pointer (some ⟨b,a,none⟩),u],.v (.pointer (some ⟨e.b,e.o,none⟩)::e.us))]else none
 |none=>none
def k9{P:Program}(B1:List (Nat×List Nat))(os:List Nat)(rs:List (Nat×Nat))(env:Env)(SV:List Own)(D:List Atom)(k:Option (Oa P))(u:Value)(op:Op):Option (List (Jl×Jl)):=match k with
 |some (.F0 ix x)=>match op with
  | .call ⟨.value (.func f),xs,_⟩=>match Gq env xs.toList with
   |some us=>bif Nat.beq f x.f then some [(.v (u::us),.v (x.u::x.us)),(.a (x.DB.map some),.a (ix.map fun i=>D[i]?))]else none
   |none=>none
  |_=>none
 |some (.NQ j)=>match op with
  | .load T x=>match AL env x with
   |some (.pointer (some ⟨b,a,none⟩))=>bF (q1 os rs T b a j u) SV
   |_=>none
  |_=>none
 |some (.st _)=>none
 |some (.eq v w _)=>match By B1 env op with
  |some J4=>some [(.v [u,J4],.v [w,v])]
  |none=>none
 |none=>match By B1 env op with
  |some v=>some [(.v [u],.v [v])]
  |none=>none
def rT{P:Program}(B1:List (Nat×List Nat))(os:List Nat)(rs:List (Nat×Nat))(env:Env)(SV:List Own)(D:List Atom)(k:Option (Oa P))(S_:Option VA)(val:Option Value):Oper->Option (List (Jl×Jl))
 |⟨some _,op,_,_,_,none⟩=>match S_ with
  |some _=>none
  |none=>match val with
   |some u=>k9 B1 os rs env SV D k u op
   |none=>none
 |⟨none,.store T x y,_,_,_,none⟩=>match S_ with
  |some e=>match AL env x with
   |some (.pointer (some ⟨b,a,none⟩))=>match AL env y with
    |some u=>bF (AjM os rs T b a u e) SV
    |none=>none
   |_=>none
  |none=>none
 |_=>none
def kA{P:Program}(B1:List (Nat×List Nat))(os:List Nat)(rs:List (Nat×Nat))(ops:Array Oper)(env:Env)(SV:List Own)(D:List Atom)(k:Option (Oa P))(S_:Option VA)(val:Option Value)(o:Oper):Option (List (Jl×Jl)):=match(match o.guard with
 |none=>some true
 |some (j,b)=>R0 ops env j b)with
 |some true=>rT B1 os rs env SV D k S_ val ⟨o.dst,o.op,o.type,o.pos,o.after,none⟩
 |some false=>match o.dst with
  |some _=>match S_ with
   |some _=>none
   |none=>match val with
    |some u=>some [(.v [u],.v [undef])]
    |none=>none
  |none=>none
 |none=>none
def UD(l:List Oper)(vs:List (Nat×Value)):List Nat->Env
 |[]=>[]
 |i::r=>match CN l i with
  |some d=>match Ex vs i with
   |some u=>(d,u)::UD l vs r
   |none=>UD l vs r
  |none=>UD l vs r
def kz(l:List Oper)(env:Env)(s:Iq)(n:Nat):Bool:=Pv l env&&ND l&&LX l n&&OL l s
theorem eqs{α:Type 1}{A:List (α×α)}(h:A.map Prod.fst=A.map Prod.snd):∀p∈A,p.1=p.2:=fun p AH=>List.map_inj_left.1 h p AH
theorem rn{α:Type}{β:Type 1}{f:α->Option (List β)}:∀{l:List α} {A:List β},bF f l=some A->∀x∈l,∃B,f x=some B/\∀p∈B,p∈A
 |y::r,A,h,x,Ab=>by
  simp only[bF]at h;split at h
  · rename_i a AK;split at h
    · rename_i b Aq;injection h with h;subst h;rcases ABf.1 Ab with rfl|Ab
      · exact⟨a,AK,fun p AH=>ABm.2 (.inl AH)⟩
      · obtain⟨B,Af,h2⟩:=rn Aq x Ab;exact⟨B,Af,fun p AH=>ABm.2 (.inr (h2 p AH))⟩
    · cases h
  · cases h
theorem q9{α:Type _}{i:Nat}:∀{l:List (Nat×α)},(l.map (·.1)).contains i=(Ex l i).isSome
 |[]=>rfl
 |(j,a)::r=>by
  have Cg:=q9 (i:=i) (l:=r);simp only[Ex,AB8,List.contains_cons];by_cases h:j=i
  · subst h;simp
  · have Af:Nat.beq j i=false:=ACH _▸fun e=>h (ACI e);have h2:(i==j)=false:=(by simpa using Ne.symm h);rw[Af,h2,Cg];rfl
section
variable{c:Cj} {l:List Oper} {env:Env} {L:Own} {D:List Atom} {vs:List (Nat×Value)} {S':List (Nat×VA)} {ks:List (Nat×Oa c.P)}
theorem Aih[Cr:J7 c.P]{Q:AuE}{ops:Array Oper}{rest:List Oper}{E:Env}{SV:List Own}{Dd:List Atom}{k:Option (Oa c.P)}{u:Value}{op:Op}{d:Nat}{t:TypeId}{p:String}{af:Array Edge}{A:List (Jl×Jl)}(Ao:Nat.blt d c.n=true)(h:k9 Cr.B1 Cr.os Cr.rs E SV D k u op=some A)(he:∀p∈A,p.1=p.2)(Dv:L∈SV)(DK:Bg D Dd)
 (La:Cb Q c ops rest ((d,u)::E) L Dd):Cb Q c ops (⟨some d,op,t,p,af,none⟩::rest) E L Dd:=by
 unfold k9 at h;split at h
 · rename_i ix x;split at h
   · rename_i f xs ats;split at h
     · rename_i us I1;cases BI:Nat.beq f x.f with
       |false=>rw[BI]at h;cases h
       |true=>
        rw[BI]at h;simp only[cond_true,ABX]at h;subst h;have B4:=he _ (ABx ..);have DC:=he _ (ABR _ (ABx ..));simp only[Jl.v.injEq,ACj,Jl.a.injEq]at B4 DC;obtain⟨rfl,rfl⟩:=B4;have BI:=ACI BI;subst BI;have:=B0 (Q:=Q) (ops:=ops) (rest:=rest) (d:=d) (t:=t) (p:=p) (af:=af) (env:=E) (L:=L) (D:=Dd) (ats:=ats) (xs:=xs.toList) x.h x.ok I1 (fun a AK=>by
         have Af:some a∈x.DB.map some:=AB6.2 ⟨a,AK,rfl⟩;rw[DC]at Af;obtain⟨q,_,B'⟩:=AB6.1 Af;exact DK _ (AA' B')) Ao La
        simpa using this
     · cases h
   · cases h
 · rename_i j;split at h
   · rename_i T x;split at h
     · rename_i b a Ab;obtain⟨B,Ew,eA⟩:=rn h _ Dv;unfold q1 at Ew;split at Ew
       · rename_i q B';split at Ew
         · rename_i n Bh;cases Qb:Nat.beq ((q.cs.drop a).take n).length n with
           |false=>rw[Qb]at Ew;cases Ew
           |true=>
            rw[Qb]at Ew;simp only[cond_true,ABX]at Ew;subst Ew;have B4:=he _ (eA _ (ABx ..));have DC:=he _ (eA _ (ABR _ (ABx ..)));simp only[Jl.v.injEq,ACj,Jl.o.injEq,ACs]at B4 DC;subst DC;have Qb:=ACI Qb;exact BJ j ((q.cs.drop a).take n) Ab (B'.trans (ABE some B4)) (by rw[Qb];exact fR Cr.b0 Bh) (by rw[Qb]) Ao La
         · cases Dk:A7 Cr.os T with
           |false=>rw[Dk]at Ew;cases Ew
           |true=>
            rw[Dk]at Ew;simp only[cond_true]at Ew;split at Ew
            · rename_i v BC;injection Ew with Ew;subst Ew;have B4:=he _ (eA _ (ABx ..));have DC:=he _ (eA _ (ABR _ (ABx ..)));simp only[Jl.v.injEq,ACj,Jl.o.injEq,ACs]at B4 DC;subst DC;exact ME j Ab (B'.trans (ABE some B4)) (a9 Cr.Qq Dk) BC Ao La
            · cases Ew
       · cases Ew
     · cases h
   · cases h
 · cases h
 · rename_i v w Acp;split at h
   · rename_i J4 BC;injection h with h;subst h;have B4:=he _ (ABx ..);simp only[Jl.v.injEq,ACj,ACs]at B4;obtain⟨rfl,rfl⟩:=B4;subst Acp;exact cc Cr.okF BC Ao La
   · cases h
 · split at h
   · rename_i v BC;injection h with h;subst h;have B4:=he _ (ABx ..);simp only[Jl.v.injEq,ACj,ACs]at B4;subst B4;exact cc Cr.okF BC Ao La
   · cases h
theorem nY:S6 l (GF l)=true:=ABq.2 fun i Ag=>ABq.2 fun k AE=>by
 unfold GF at AE;split at AE
 · rename_i o A7;obtain⟨e,he,rfl⟩:=AB6.1 AE;obtain⟨Af,h2⟩:=ABZ.1 he;simp only[ABb]at h2;simp only[ABb];exact⟨(S9 A7).2 ⟨e,AC3.1 Af,h2.1.1,rfl⟩,h2.2⟩
 · cases AE
theorem oI{i:Nat}{v:Value}:∀{is:List Nat},C1 (UD l vs is) i=some v->∃k∈is,CN l k=some i/\Ex vs k=some v
 |[],h=>by cases h
 |k::r,h=>by
  have Cg:C1 (UD l vs r) i=some v->∃Gh∈k::r,CN l Gh=some i/\Ex vs Gh=some v:=fun h=>by
   obtain⟨Gh,Bw,Af⟩:=oI h;exact⟨Gh,ABR _ Bw,Af⟩
  simp only[UD]at h;split at h
  · rename_i d AJ;split at h
    · rename_i u hu;simp only[C1]at h;by_cases KN:d=i
      · subst KN;simp at h;subst h;exact⟨k,by simp,AJ,hu⟩
      · have:(d==i)=false:=(by simpa using KN);rw[this]at h;exact Cg h
    · exact Cg h
  · exact Cg h
theorem j5{V:Nat->Value}{k d:Nat}(AJ:CN l k=some d)(hu:∀Gh,CN l Gh=some d->Gh=k):∀{is:List Nat},k∈is->C1 (Eo l V is) d=some (V k)
 |Gh::r,h=>by
  simp only[Eo];by_cases AE:Gh=k
  · subst AE;rw[AJ];simp[C1]
  · have Cg:=j5 (V:=V) AJ hu (is:=r) ((ABf.1 h).resolve_left (Ne.symm AE));split
    · rename_i RQ F6;have FG:RQ≠d:=fun e=>AE (hu Gh (e▸F6));have:(RQ==d)=false:=(by simpa using FG);simp only[C1,this,ACx];exact Cg
    · exact Cg
theorem q'{A B:Env}{i:Nat}{v:Value}(h:C1 A i=some v):C1 (A++B) i=some v:=by
 induction A with
 |nil=>cases h
 |cons p r Cg=>
  obtain⟨j,u⟩:=p;simp only[ABU,C1]at h ⊢;by_cases Ay:j=i
  · subst Ay;simpa using h
  · have J9:(j==i)=false:=(by simpa using Ay);rw[J9]at h ⊢;exact Cg h
theorem ra{A B:Env}{i:Nat}(h:C1 A i=none):C1 (A++B) i=C1 B i:=by
 induction A with
 |nil=>rfl
 |cons p r Cg=>
  obtain⟨j,u⟩:=p;simp only[ABU,C1]at h ⊢;by_cases Ay:j=i
  · subst Ay;simp at h
  · have J9:(j==i)=false:=(by simpa using Ay);rw[J9]at h ⊢;exact Cg h
theorem ah{i:Nat}{v:Value}:∀{env:Env},C1 (Gv l env) i=some v->C1 env i=some v
 |[],h=>by cases h
 |(d,u)::r,h=>by
  simp only[Gv]at h;by_cases AJ:d=i
  · subst AJ;cases DK:YC l d with
    |false=>rw[DK]at h;simpa[C1]using h
    |true=>
     rw[DK]at h;simp only[cond_true]at h;exfalso;have no:∀{r:Env} {v:Value},C1 (Gv l r) d=some v->False:=by
      intro r;induction r with
      |nil=>intro v h;cases h
      |cons p r Cg=>
       intro v h;obtain⟨e,u⟩:=p;simp only[Gv]at h;cases Ge:YC l e with
       |true=>rw[Ge]at h;exact Cg h
       |false=>
        rw[Ge]at h;simp only[ACx,C1]at h;have FG:e≠d:=fun IV=>by rw[IV,DK]at Ge;cases Ge
        rw[show(e==d)=false by simpa using FG]at h;exact Cg h
     exact no h
  · have F6:(d==i)=false:=(by simpa using AJ);simp only[C1,F6,ACx];cases DK:YC l d with
    |true=>rw[DK]at h;exact ah h
    |false=>
     rw[DK]at h;simp only[ACx,C1,F6]at h;exact ah h
theorem y_{V:Nat->Value}{i:Nat}{v:Value}(h2:Pv l env=true)(Ag:C1 (UD l vs (List.range l.length).reverse++env) i=some v):C1 (Eo l (EC (Ex vs) V) (List.range l.length)++env) i=some v:=by
 have Re:∀{k d:Nat},CN l k=some d->k<l.length/\Qi env d=false/\∀Gh,CN l Gh=some d->Gh=k:=by
  intro k d AJ;have Lb:∀{k d:Nat},CN l k=some d->k<l.length:=fun{k d} AJ=>by
   rcases ACq k l.length with h|h
   · exact h
   · simp[CN,ACd h]at AJ
  have:=ABq.1 h2 k (ABw.2 (Lb AJ));rw[AJ]at this;simp only[ABb,ABe]at this;refine⟨Lb AJ,this.1,fun Gh MC=>?_⟩;have Bo:=ABq.1 this.2 Gh (ABw.2 (Lb MC));rw[MC]at Bo;simpa using Eq.symm (by simpa using Bo)
 rcases YO Ag with h|⟨Ao,h⟩
 · obtain⟨k,AE,AJ,BC⟩:=oI h;obtain⟨F4,_,GY⟩:=Re AJ;have:=q' (B:=env) (j5 (V:=EC (Ex vs) V) AJ GY (ABw.2 F4));rw[show EC (Ex vs) V k=v by simp[EC,BC]]at this;exact this
 · rw[ra,h];cases Ab:C1 (Eo l (EC (Ex vs) V) (List.range l.length)) i with
   |none=>rfl
   |some u=>
    obtain⟨k,_,AJ,_⟩:=U' Ab;have:=(Re AJ).2.1;rw[bw h]at this;cases this
end
end
end Go.A_
