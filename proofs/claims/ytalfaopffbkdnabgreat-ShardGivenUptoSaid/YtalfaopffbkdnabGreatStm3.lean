/- Part 3 of shardGiven_holds. -/
import Derived.Scope
import Derived.Great.BuildSlice
import Derived.Laws.Cover3
import Derived.Laws.Externs
import Derived.Lib.Bytealg
import Derived.Test.YtalfaopffbkdnabGreatStm2

set_option maxRecDepth 20000
set_option maxHeartbeats 1000000
namespace Go
theorem AC3:∀{α:Type _} {a:α} {xs:Array α},a∈xs.toList↔a∈xs:=@Array.mem_toList_iff
theorem ABb:∀(a b:Bool),((a&&b)=true)=(a=true∧b=true):=@Bool.and_eq_true
theorem ACy:∀{a b:Bool},a=b↔(a=true↔b=true):=@Bool.eq_iff_iff
theorem AB_:∀(b:Bool),(¬b=false)=(b=true):=@Bool.not_eq_false
theorem ACH:∀(b:Bool),(¬b=true)=(b=false):=@Bool.not_eq_true
theorem ABe:∀(b:Bool),((!b)=true)=(b=false):=@Bool.not_eq_true'
theorem ABD:∀{x y:Bool},(x||y)=false↔x=false∧y=false:=@Bool.or_eq_false_iff
theorem ABk:∀(a b:Bool),((a||b)=true)=(a=true∨b=true):=@Bool.or_eq_true
theorem ACd:∀{α:Type _} {l:List α} {i:Nat},List.length l≤i→l[i]? =none:=@List.getElem?_eq_none
theorem ACF:∀{α:Type _} {l:List α} {n:Nat} (h:n<List.length l),l[n]∈l:=@List.getElem_mem
theorem ABw:∀{m n:Nat},m∈List.range n↔m<n:=@List.mem_range
theorem ACq:∀(n m:Nat),n<m∨n≥m:=@Nat.lt_or_ge
theorem ADI:∀(n:Nat),n-n=0:=@Nat.sub_self
theorem ACC:∀{α:Type _} {x:Option α},Option.isSome x=true↔∃a,x=some a:=@Option.isSome_iff_exists
theorem ABa:∀{p:Prop} [Decidable p],(decide p=true)=p:=@decide_eq_true_eq
end Go
open Array renaming getElem?_setIfInBounds_ne→ADA
open Go renaming mem_ready→ACz
open Go.ByteArray renaming toList_eq→AD8
open Go.Result renaming andThen_ok→AB'
open Go.Sem renaming run_bind→ABY,run_pure→ACk
open List renaming all_eq_true→ABq,append_assoc→ACN,countP_cons_of_neg→AEk,countP_cons_of_pos→AEa,getElem?_of_mem→ADc,length_append→ABP,map_nil→ACU,map_toArray→ACQ,mem_filter→ABZ,nil_append→ABK,nodup_append→ACv
open Nat renaming lt_trichotomy→AD5
open Option.some renaming injEq→ABX
open UInt8 renaming lt_iff_toNat_lt→ACG
namespace Go.A_
section
section
variable{c:Cj} {ops:Array Oper} {Q:AuE} {env:Env} {L:Own} {D:List Atom} {rest:List Oper} {d:Nat} {v:Value} {t:TypeId} {p:String} {af:Array Edge}
theorem nK{L DZ:Own}(h:L.Perm DZ):(Dt L).Perm (Dt DZ):=by
 induction h with
 |nil=>exact .refl _
 |cons x _ Cg=>exact(List.Perm.append_left x.J Cg)
 |swap x y l=>
  simp only[Dt,<-ACN];exact List.Perm.append_right _ List.perm_append_comm
 |trans _ _ Af h2=>exact Af.trans h2
theorem CI.perm{BW w:World}{M:List Nat}{L DZ:Own}(h:CI BW M w L)(AH:L.Perm DZ):CI BW M w DZ:=by
 have Aq:=nK AH;refine⟨h.Ln,fun q B'=>q.DY (h.own q (AH.mem_iff.2 B')) (fun b Ab=>⟨Ab.1,fun Bf=>Ab.2 (Aq.mem_iff.2 Bf)⟩) (fun _ _=>rfl),Aq.nodup_iff.1 h.nd,fun b Ab=>h.new b (Aq.mem_iff.2 Ab)⟩
theorem BP.perm{w:World}{L DZ:Own}(h:BP D w L)(AH:L.Perm DZ):BP D w DZ:=by
 have Aq:=nK AH;exact fun t Av=>Atom.DY (h t Av) (fun b Ab=>⟨Ab.1,fun Bf=>Ab.2 (Aq.mem_iff.2 Bf)⟩) (fun _ _=>rfl)
theorem V7:∀{L:Own} {i:Nat} {q:C4},L[i]? =some q->L.Perm (q::L.eraseIdx i)
 |[],i,q,h=>by simp at h
 |p::r,0,q,h=>by simp at h;subst h;exact .refl _
 |p::r,i+1,q,h=>by
  simp only[ABC]at h;exact((V7 h).cons p).trans (.swap _ _ _)
theorem D9(i:Nat){q:C4}{l:List Oper}(Ag:L[i]? =some q)(k:Cb Q c ops l env (q::L.eraseIdx i) D):Cb Q c ops l env L D:=
 fun a w f st AR=>k a w f (st.perm (V7 Ag)) (AR.perm (V7 Ag))
theorem B8(i:Nat){q:C4}{x:Code}(Ag:L[i]? =some q)(k:CF c x Q env (q::L.eraseIdx i) D):CF c x Q env L D:=
 fun a w f st AR=>k a w f (st.perm (V7 Ag)) (AR.perm (V7 Ag))
theorem Au(i:Nat){q:C4}{e:Exit}(Ag:L[i]? =some q)(k:Eg c Q e env (q::L.eraseIdx i) D):Eg c Q e env L D:=
 fun a w f st AR=>k a w f (st.perm (V7 Ag)) (AR.perm (V7 Ag))
theorem nW{L0 Lr:Own}{f:FuncId}{us:List Value}{DB:List Atom}{β:Type}{R:β->Value->Prop}{DM:β->Value->Own}{out:β->Value->List Atom}(h:Aw c.P f us L0 DB R DM out)(Cl:Bg DB D):
 ∀w,CI c.BW c.M w (L0++Lr)->BP D w (L0++Lr)->QK c.P f us w (fun v AT=>∃y,R y v/\CI c.BW c.M AT (DM y v++Lr)/\BP (out y v++D) AT (DM y v++Lr)):=by
 intro w st AR;have Hu:∀A:Own,Own.J (A++Lr)=A.J++Lr.J:=fun A=>by simp[Own.J,OJ]
 have OZ:=st.nd;rw[Hu]at OZ;have C_:∀b,b∈L0.J\/b∈Lr.J->b<w.heap.size:=fun b Aq=>st.lt b (by rw[Hu];exact ABm.2 Aq);refine(h Lr.J w OZ (fun b Aq=>C_ b (.inr Aq)) (fun q B'=>?_) (fun t Av=>?_)).mono fun v AT AH=>?_
 · have:=st.own q (ABm.2 (.inl B'))
   rwa [Hu]at this
 · have:=AR t (Cl t Av)
   rwa [Hu]at this
 · obtain⟨hs,y,Fy,Dv,Ao,Aq,A7⟩:=AH;have Hv:∀b,b∈Own.J (DM y v++Lr)->b∈Own.J (L0++Lr)\/w.heap.size<=b:=by
    intro b Ab;rw[Hu]at Ab ⊢;rcases ABm.1 Ab with Ab|Ab
    · exact(Aq b Ab).imp (fun h=>ABm.2 (.inl h)) id
    · exact .inl (ABm.2 (.inr Ab))
   have Lc:∀b,Et (Own.J (L0++Lr)) w b->Et (Own.J (DM y v++Lr)) AT b:=fun b Ab=>⟨ACp Ab.1 hs.size,fun Bf=>by
    rcases Hv b Bf with Af|Af
    · exact Ab.2 Af
    · have:=Ab.1;omega⟩
   have jk:=ACv.1 OZ;refine⟨y,Fy,⟨st.Ln.mc hs (fun b Ab=>st.new b (by rw[Hu];exact ABm.2 (.inl Ab))),?_,?_,?_⟩,BP.app (fun t Av=>?_) (AR.Zo (hs.mono fun b Ab=>by rw[Hu];exact ABm.2 (.inl Ab)) Hv)⟩
   · intro q B';rcases ABm.1 B' with B'|B'
     · rw[Hu];exact Dv q B'
     · refine q.DY (st.own q (ABm.2 (.inr B'))) Lc (fun b Ab=>hs.block b ?_ ?_)
       · rcases Ab with Ab|Ab
         · exact Ab.1
         · exact C_ b (.inr (FW.2 ⟨q,B',Ab⟩))
       · rcases Ab with Ab|Ab
         · exact fun Bf=>Ab.2 (by rw[Hu];exact ABm.2 (.inl Bf))
         · exact fun Bf=>jk.2.2 b Bf b (FW.2 ⟨q,B',Ab⟩) rfl
   · rw[Hu,ACv];refine⟨Ao,jk.2.1,fun a AK b EP e=>?_⟩;subst e;rcases Aq a AK with Af|Af
     · exact jk.2.2 a Af a EP rfl
     · have:=C_ a (.inr EP);omega
   · intro b Ab;rcases Hv b Ab with Af|Af
     · exact st.new b Af
     · exact .inr (ABB st.Ln.size Af)
   · rw[Hu];exact A7 t Av
theorem XY{L0 Lr:Own}{f:FuncId}{vs:List Value}{DB:List Atom}{β:Type}{R:β->Value->Prop}{DM:β->Value->Own}{out:β->Value->List Atom}(h:Aw c.P f vs L0 DB R DM out)(CM:GU c.P f)(Dv:L=L0++Lr){xs:List Operand}{ats:Array TypeId}
 (Hm:Gq env xs=some vs)(Cl:Bg DB D)(Ao:Nat.blt d c.n=true)(k:∀y v,R y v->Cb Q c ops rest ((d,v)::env) (DM y v++Lr) (out y v++D)):
 Cb Q c ops (⟨some d,.call {callee:=.value (.func f),args:=xs.toArray,argTypes:=ats},t,p,af,none⟩::rest) env L D:=by
 subst Dv;exact S4 (x:=.func f) (first:= #[]) (cap:= #[]) rfl Hm (by simp) CM _ (nW h Cl) (fun _ v=>(d,v)::env) (fun _ v a f=>f.put v (EU Ao)) k
theorem hD{L0 Lr:Own}{f:FuncId}{vs us:List Value}{DB:List Atom}{β:Type}{R:β->Value->Prop}{DM:β->Value->Own}{out:β->Value->List Atom}{first cap:Array Value}{x:Operand}(h:Aw c.P f us L0 DB R DM out)(CM:GU c.P f)(Dv:L=L0++Lr){xs:List Operand}{ats:Array TypeId}
 (Ab:AL env x=some (.func (.func f) first cap))(Hm:Gq env xs=some vs)(I1:first.toList++vs++cap.toList=us)(Cl:Bg DB D)(Ao:Nat.blt d c.n=true)(k:∀y v,R y v->Cb Q c ops rest ((d,v)::env) (DM y v++Lr) (out y v++D)):
 Cb Q c ops (⟨some d,.call {callee:=.value x,args:=xs.toArray,argTypes:=ats},t,p,af,none⟩::rest) env L D:=by
 subst Dv;exact S4 Ab Hm I1 CM _ (nW h Cl) (fun _ v=>(d,v)::env) (fun _ v a f=>f.put v (EU Ao)) k
end
structure MV where
 E8:Nat->List Nat
 ok:Nat->Value->Prop
 at_:Nat->Value->List Atom
 L:List Value->Own
 Eu:List Nat
def CN(l:List Oper)(i:Nat):Option Nat:=(l[i]?).bind (·.dst)
def Gp(l:List Oper)(k i:Nat):Bool:=match l[i]? with
 |some o=>o.after.toList.any fun e=>Region.binds .any e&&e.on==k
 |none=>false
def Qi(env:Env)(d:Nat):Bool:=env.any fun p=>p.1==d
def S6(l:List Oper)(E8:Nat->List Nat):Bool:=(List.range l.length).all fun i=>(E8 i).all fun k=>Gp l k i&&(CN l k).isSome
def ND(l:List Oper):Bool:=(List.range l.length).all fun i=>match l[i]? with
 |some o=>o.after.toList.all fun e=> !Region.binds .any e||Nat.blt e.on i
 |none=>true
def Pv(l:List Oper)(env:Env):Bool:=(List.range l.length).all fun i=>match CN l i with
 |none=>true
 |some d=> !Qi env d&&(List.range l.length).all fun j=>i==j|| !(CN l j==some d)
def RN(l:List Oper):List Nat->Bool
 |[]=>true
 |[x]=>x<l.length
 |x::y::r=>Gp l x y&&x<y&&RN l (y::r)
def LX(l:List Oper)(n:Nat):Bool:=l.all fun o=>match o.dst with
 |none=>true
 |some d=>Nat.blt d n
def fz(l:List Oper)(Eu:List Nat)(i:Nat):List Nat:=(List.range (Eu.length+1)).filter fun j=>
 (List.range Eu.length).all fun e=>match Eu[e]? with
  |none=>true
  |some x=>(!(x==i)||j==e)&&(!(Gp l i x)||Nat.ble j e)&&(!(Gp l x i)||Nat.blt e j)
def Eo(l:List Oper)(V:Nat->Value):List Nat->Env
 |[]=>[]
 |k::r=>match CN l k with
  |some d=>(d,V k)::Eo l V r
  |none=>Eo l V r
def FM(s:MV)(V:Nat->Value):List Nat->List Atom
 |[]=>[]
 |k::r=>s.at_ k (V k)++FM s V r
def E7{α:Type}(q:α->Prop):List α->Prop
 |[]=>True
 |x::r=>q x/\E7 q r
theorem E7.mem{α:Type}{q:α->Prop}:∀{l:List α},E7 q l->∀x∈l,q x
 |y::r,h,x,Ab=>by
  rcases ABf.1 Ab with rfl|Ab
  · exact h.1
  · exact E7.mem h.2 x Ab
def bK(s:MV)(i j:Nat):Nat:=if s.Eu.contains i then j+1 else j
def pre(s:MV)(V:Nat->Value)(j:Nat):List Value:=(s.Eu.take j).map V
def bL(s:MV)(vs:List Value)(i:Nat)(u:Value):Own:=if s.Eu.contains i then s.L (vs++[u])else s.L vs
def Il(l:List Oper)(a:Act)(i:Nat):Value:=match CN l i with
 |some d=>a.tmps.getD d undef
 |none=>undef
def TK(c:Cj)(l:List Oper)(s:MV)(D:List Atom)(i:Nat)(vs:List Value):AuE:=fun e a w=>
 e=.normal/\a.defers=[]/\CI c.BW c.M w (bL s vs i (Il l a i))/\BP D w (bL s vs i (Il l a i))/\∀d,CN l i=some d->s.ok i (a.tmps.getD d undef)/\BP (s.at_ i (a.tmps.getD d undef)) w (bL s vs i (Il l a i))
def VI(c:Cj)(l:List Oper)(s:MV)(env:Env)(D:List Atom):List Oper->Nat->Prop
 |[],_=>True
 |o::r,i=>(∀(V:Nat->Value) (Az:List Atom),E7 (fun k=>s.ok k (V k)) (s.E8 i)->
  E7 (fun j=>Cb (TK c l s (D++Az) i (pre s V j)) c l.toArray [o] (Eo l V (s.E8 i)++env) (s.L (pre s V j)) (FM s V (s.E8 i)++(D++Az))) (fz l s.Eu i))/\VI c l s env D r (i+1)
theorem VI.at_{c:Cj}{l:List Oper}{s:MV}{env:Env}{D:List Atom}:∀{r:List Oper} {i:Nat},VI c l s env D r i->∀k o,r[k]? =some o->∀(V:Nat->Value) (Az:List Atom),E7 (fun k=>s.ok k (V k)) (s.E8 (i+k))->
 E7 (fun j=>Cb (TK c l s (D++Az) (i+k) (pre s V j)) c l.toArray [o] (Eo l V (s.E8 (i+k))++env) (s.L (pre s V j)) (FM s V (s.E8 (i+k))++(D++Az))) (fz l s.Eu (i+k))
 |[],_,_,k,o,AE=>by simp at AE
 |p::r,i,h,0,o,AE=>by simp at AE;subst AE;exact h.1
 |p::r,i,h,k+1,o,AE=>by
  simp only[ABC]at AE;have:=VI.at_ h.2 k o AE
  rwa [show i+1+k=i+(k+1)by omega]at this
def valOf(l:List Oper)(a:Act)(i:Nat):Value:=Il l a i
structure SW (c:Cj) (l:List Oper) (s:MV) (env:Env) (D:List Atom) (A8:Array Bool) (a:Act) (w:World) (j:Nat):Prop where
 Gw:Fr c.n a env
 st:CI c.BW c.M w (s.L (pre s (valOf l a) j))
 AR:BP D w (s.L (pre s (valOf l a) j))
 size:A8.size=l.length
 closed:∀i k,A8.getD i false=true->Gp l k i=true->A8.getD k false=true
 slot:∀i d,A8.getD i false=true->CN l i=some d->s.ok i (a.tmps.getD d undef)/\BP (s.at_ i (a.tmps.getD d undef)) w (s.L (pre s (valOf l a) j))
 done:∀e x,s.Eu[e]? =some x->(A8.getD x false=true↔e<j)
 le:j<=s.Eu.length
section
variable{c:Cj} {l:List Oper} {s:MV} {env:Env} {D:List Atom} {Q:AuE}
theorem mj{P:Program}{o:Oper}{a:Act}{w:World}{K:Act->World->Prop}{Q Q':AuE}(AH:∀XZ a w,¬Q (.panic XZ) a w)(A7:¬LetsOut Q)(h:o.wp P a w K Q):o.wp P a w K Q':=by
 unfold Oper.wp at*;generalize (execOp a.eval o).run P w=r at*;cases r with
 |ok n AT=>
  cases n<;>simp only[Oper.upon]at h ⊢ <;>try exact h
  · exact Calls.mono h fun e Xq he=>by
     cases e with
     |returned v=>exact he
     |panicked XZ=>exact absurd he (AH _ _ _)
     |outgrown=>exact absurd he A7
 |halt x AT=>
  cases x<;>simp only[Oper.upon]at h ⊢ <;>try exact h
  exact absurd h (AH _ _ _)
theorem YO{A B:Env}{i:Nat}{v:Value}(h:C1 (A++B) i=some v):C1 A i=some v\/(Qi A i=false/\C1 B i=some v):=by
 induction A with
 |nil=>exact .inr ⟨rfl,h⟩
 |cons p r Cg=>
  obtain⟨j,u⟩:=p;simp only[List.cons_append,C1]at h ⊢;by_cases Ay:j=i
  · subst Ay;simp at h ⊢;exact .inl h
  · have J9:(j==i)=false:=(by simpa using Ay);rw[J9]at h ⊢;simp only[ACx]at h ⊢;rcases Cg h with Af|Af
    · exact .inl Af
    · exact .inr ⟨by simp[Qi,Ay];simpa[Qi]using Af.1,Af.2⟩
theorem U'{V:Nat->Value}:∀{is:List Nat} {i:Nat} {v:Value},C1 (Eo l V is) i=some v->∃k∈is,CN l k=some i/\V k=v
 |[],_,_,h=>by cases h
 |k::r,i,v,h=>by
  simp only[Eo]at h;split at h
  · rename_i d AJ;simp only[C1]at h;by_cases KN:d=i
    · subst KN;simp at h;exact⟨k,by simp,AJ,h⟩
    · have:(d==i)=false:=(by simpa using KN);rw[this]at h;obtain⟨Gh,MC,Af⟩:=U' h;exact⟨Gh,by simp[MC],Af⟩
  · obtain⟨Gh,MC,Af⟩:=U' h;exact⟨Gh,by simp[MC],Af⟩
theorem WR{V:Nat->Value}:∀{is:List Nat} {t:Atom},t∈FM s V is->∃k∈is,t∈s.at_ k (V k)
 |[],_,h=>by cases h
 |k::r,t,h=>by
  rcases ABm.1 h with h|h
  · exact⟨k,by simp,h⟩
  · obtain⟨Gh,MC,Af⟩:=WR h;exact⟨Gh,by simp[MC],Af⟩
theorem bw{env:Env}{i:Nat}{v:Value}(h:C1 env i=some v):Qi env i=true:=by
 induction env with
 |nil=>cases h
 |cons p r Cg=>
  obtain⟨j,u⟩:=p;simp only[C1]at h;by_cases Ay:j=i
  · subst Ay;simp[Qi]
  · have:(j==i)=false:=(by simpa using Ay);rw[this]at h;have:=Cg h;simp only[Qi,List.any_cons]at this ⊢;simp[this]
theorem SW.frame{A8:Array Bool}{a:Act}{w:World}{j:Nat}(m:SW c l s env D A8 a w j)(EY:LX l c.n=true){is:List Nat}(AN:∀k∈is,k<l.length):Fr c.n a (Eo l (valOf l a) is++env):=by
 refine⟨m.Gw.size,m.Gw.GV,fun i v Ag=>?_⟩;rcases YO Ag with h|h
 · obtain⟨k,AE,AJ,BC⟩:=U' h;simp only[valOf]at BC;have Lb:=AN k AE;have C_:i<c.n:=by
    have:=ABq.1 EY (l[k]) (ACF Lb);have F6:(l[k]).dst=some i:=(by simpa[CN,ABs Lb]using AJ);rw[F6]at this;exact EU this
   have:i<a.tmps.size:=(by rw[m.Gw.size];exact C_);rw[<-BC];simp[this,Il,AJ]
 · exact m.Gw.at_ _ _ h.2
theorem Z8:∀{Eu:List Nat},RN l Eu=true->∀(e IV x y:Nat),Eu[e]? =some x->Eu[IV]? =some y->e<IV->x<y
 |[],_,e,IV,x,y,h,_,_=>by simp at h
 |[z],_,e,IV,x,y,h,DI,AN=>by
  have:IV=0:=by
   have:=(ABF.1 DI).1;simp at this;omega
  omega
 |z::u::r,Bm,e,IV,x,y,h,DI,AN=>by
  simp only[RN,ABb,ABa]at Bm;cases IV with
  |zero=>omega
  |succ IV=>
   simp only[ABC]at DI;cases e with
   |succ e=>
    simp only[ABC]at h;exact Z8 Bm.2 e IV x y h DI AJv
   |zero=>
    simp at h;subst h;cases IV with
    |zero=>simp at DI;subst DI;exact Bm.1.2
    |succ IV=>
     have:=Z8 Bm.2 0 (IV+1) u y rfl DI AJv;omega
theorem nX:∀{Eu:List Nat},RN l Eu=true->∀(e x y:Nat),Eu[e]? =some x->Eu[e+1]? =some y->Gp l x y=true
 |[],_,e,x,y,h,_=>by simp at h
 |[z],_,e,x,y,_,DI=>by simp at DI
 |z::u::r,Bm,e,x,y,h,DI=>by
  simp only[RN,ABb,ABa]at Bm;cases e with
  |zero=>simp at h DI;subst h DI;exact Bm.1.1
  |succ e=>
   simp only[ABC]at h DI;exact nX Bm.2 e x y h DI
theorem S9{k i:Nat}{o:Oper}(A7:l[i]? =some o):Gp l k i=true↔∃e∈o.after,Region.binds .any e=true/\e.on=k:=by
 simp only[Gp,A7,List.any_eq_true,ABb,beq_iff_eq];constructor
 · rintro⟨e,he,Af,h2⟩;exact⟨e,AC3.1 he,Af,h2⟩
 · rintro⟨e,he,Af,h2⟩;exact⟨e,AC3.2 he,Af,h2⟩
theorem E7.intro{α:Type}{q:α->Prop}:∀{l:List α},(∀x∈l,q x)->E7 q l
 |[],_=>trivial
 |y::r,h=>⟨h y (by simp),E7.intro fun x Ab=>h x (by simp[Ab])⟩
theorem fp{V:Nat->Value}{k:Nat}{t:Atom}:∀{is:List Nat},k∈is->t∈s.at_ k (V k)->t∈FM s V is
 |y::r,AE,Av=>by
  rcases ABf.1 AE with rfl|AE
  · exact ABm.2 (.inl Av)
  · exact ABm.2 (.inr (fp AE Av))
theorem OQ{A8:Array Bool}{i:Nat}(h:i<A8.size):A8.getD i true=A8.getD i false:=by simp[h]
theorem Ia{A8:Array Bool}{i k:Nat}(Ag:i<A8.size):(A8.setIfInBounds i true).getD k false=(i==k||A8.getD k false):=by
 by_cases h:i=k
 · subst h;simp[Ag]
 · have:(i==k)=false:=(by simpa using h);simp[ADA h,this]
theorem SW.step(Af:S6 l s.E8=true)(h2:Pv l env=true)(BB:RN l s.Eu=true)(EY:LX l c.n=true)(Dk:VI c l s env D l 0)
 {A8:Array Bool}{a:Act}{w:World}{j i:Nat}(m:SW c l s env D A8 a w j)(Bh:i∈Region.ready .any l.toArray A8){K:Act->World->Prop}
 (Je:∀Dx AT e7,SW c l s env D (A8.setIfInBounds i true) Dx AT e7->K Dx AT):wpOp c.P l.toArray Q i K a w:=by
 obtain⟨Ib,o,A7,C0⟩:=ACz.1 Bh;have A7:l[i]? =some o:=by simpa using A7
 have Ee:i<l.length:=(ABF.1 A7).1;have IE:i<A8.size:=by rw[m.size];exact Ee
 have Jg:A8.getD i false=false:=by rw[<-OQ IE];exact Ib
 have LZ:∀k,Gp l k i=true->A8.getD k false=true:=by
  intro k AE;obtain⟨e,he,Aq,rfl⟩:=(S9 A7).1 AE;exact C0 e he Aq
 have Yu:j∈fz l s.Eu i:=by
  refine ABZ.2 ⟨ABw.2 (by have:=m.le;omega),ABq.2 fun e _=>?_⟩;split
  · rfl
  · rename_i x Ab;simp only[ABb,ABk,ABe,beq_iff_eq,beq_eq_false_iff_ne];refine⟨⟨?_,?_⟩,?_⟩
    · by_cases Yz:x=i
      · right;subst Yz;have Ay:¬e<j:=fun h=>by
         have:=(m.done e x Ab).2 h;rw[this]at Jg;cases Jg
        cases e with
        |zero=>omega
        |succ e=>
         have C_:e<s.Eu.length:=(by have:=(ABF.1 Ab).1;omega);have Bf:s.Eu[e]? =some s.Eu[e]:=ABs C_;have:=(m.done e _ Bf).1 (LZ _ (nX BB e _ x Bf Ab));omega
      · exact .inl Yz
    · by_cases h:Gp l i x=true
      · right;refine Nat.ble_eq_true_of_le<|Nat.le_of_not_lt fun C_=>?_;have:=m.closed x i ((m.done e x Ab).2 C_) h;rw[this]at Jg;cases Jg
      · left;simpa using h
    · by_cases h:Gp l x i=true
      · right;exact Nat.ble_eq_true_of_le ((m.done e x Ab).1 (LZ x h))
      · left;simpa using h
 have Pz:∀k∈s.E8 i,Gp l k i=true/\(CN l k).isSome=true:=by
  intro k AE;have:=ABq.1 (ABq.1 Af i (ABw.2 Ee)) k AE;simpa using this
 have Wr:∀k,(CN l k).isSome=true->k<l.length:=by
  intro k AE;rcases ACq k l.length with h|h
  · exact h
  · simp[CN,ACd h]at AE
 have CM:E7 (fun k=>s.ok k (valOf l a k)) (s.E8 i):=E7.intro fun k AE=>by
  obtain⟨d,AJ⟩:=ACC.1 (Pz k AE).2;have:=(m.slot k d (LZ k (Pz k AE).1) AJ).1;simpa[valOf,Il,AJ]using this
 let AP:=(List.range l.length).filter fun k=>A8.getD k false&&(CN l k).isSome
 have Wl:∀k,k∈AP↔A8.getD k false=true/\(CN l k).isSome=true:=by
  intro k;simp only[AP,ABZ,ABw,ABb];exact⟨fun h=>h.2,fun h=>⟨Wr k h.2,h⟩⟩
 have aP:∀k,k∈AP->BP (s.at_ k (valOf l a k)) w (s.L (pre s (valOf l a) j)):=by
  intro k AE;obtain⟨jr,a3⟩:=(Wl k).1 AE;obtain⟨d,AJ⟩:=ACC.1 a3;have:=(m.slot k d jr AJ).2;simpa[valOf,Il,AJ]using this
 have Jh:=(Dk.at_ i o A7 (valOf l a) (FM s (valOf l a) AP) (by rw[AB0];exact CM));rw[AB0]at Jh;have Jh:=Jh.mem j Yu a w (m.frame EY fun k AE=>Wr k (Pz k AE).2) m.st (BP.app (fun t Av=>by
  obtain⟨k,AE,Av⟩:=WR Av;exact aP k ((Wl k).2 ⟨LZ k (Pz k AE).1,(Pz k AE).2⟩) t Av) (BP.app m.AR (fun t Av=>by
  obtain⟨k,AE,Av⟩:=WR Av;exact aP k AE t Av)))
 have O0:¬LetsOut (TK c l s (D++FM s (valOf l a) AP) i (pre s (valOf l a) j)):=by
  rintro⟨Dx,AT,h⟩;cases h.1
 -- what is left once it is done
 have G7:∀Dx AT,(∃u,Dx=a.put o.dst u)->TK c l s (D++FM s (valOf l a) AP) i (pre s (valOf l a) j) .normal Dx AT->K Dx AT:=by
  rintro Dx AT ⟨u,rfl⟩ ⟨_,_,Rg,OU,bg⟩;have Ws:∀d,o.dst=some d->Qi env d=false/\∀k,k≠i->CN l k≠some d:=by
   intro d AJ;have KN:CN l i=some d:=(by simp[CN,A7,AJ]);have:=ABq.1 h2 i (ABw.2 Ee);rw[KN]at this;simp only[ABb,ABe]at this;refine⟨this.1,fun k AE e=>?_⟩;have Lb:=Wr k (by rw[e];rfl);have:=ABq.1 this.2 k (ABw.2 Lb);simp[e,Ne.symm AE]at this
  have jL:∀k,k≠i->valOf l (a.put o.dst u) k=valOf l a k:=by
   intro k AE;simp only[valOf,Il];cases Yo:CN l k with
   |none=>rfl
   |some d=>
    cases AJ:o.dst with
    |none=>rfl
    |some d0=>
     have FG:d0≠d:=by
      rintro rfl;exact(Ws d0 AJ).2 k AE Yo
     simp[Act.put,ADA FG]
  have iS:s.L (pre s (valOf l (a.put o.dst u)) (bK s i j))=bL s (pre s (valOf l a) j) i (Il l (a.put o.dst u) i):=by
   unfold bL bK;have WB:∀m,(∀x∈s.Eu.take m,x≠i)->pre s (valOf l (a.put o.dst u)) m=pre s (valOf l a) m:=fun m hm=>List.map_congr_left fun x Ab=>jL x (hm x Ab);by_cases Bm:s.Eu.contains i=true
   · rw[AA_ Bm,AA_ Bm];have Sa:i∈s.Eu:=(by simpa using Bm);obtain⟨Fb,OV⟩:=ADc Sa;have Yr:j=Fb:=by
      have:=ABq.1 (ABZ.1 Yu).2 Fb (ABw.2 (ABF.1 OV).1);rw[OV]at this;simp at this;exact this.1.1
     subst Yr;have B4:pre s (valOf l (a.put o.dst u)) (j+1)=pre s (valOf l (a.put o.dst u)) j++[valOf l (a.put o.dst u) i]:=by
      simp[pre,List.take_add_one,OV]
     rw[B4,WB j fun x Ab Yz=>?_]
     · rfl
     · subst Yz;obtain⟨B4,eL⟩:=ADc Ab;rw[ACl]at eL;split at eL
       · rename_i C_;have:=Z8 BB B4 j x x eL OV C_;omega
       · cases eL
   · rw[AA9 Bm,AA9 Bm,WB j fun x Ab Yz=>?_];subst Yz;exact Bm (by simpa using List.mem_of_mem_take Ab)
  rw[<-iS]at Rg OU bg;refine Je _ _ (bK s i j) ⟨?_,Rg,fun t Av=>OU t (ABm.2 (.inl Av)),by simp[m.size],?_,?_,?_,?_⟩
  · cases AJ:o.dst with
    |none=>exact m.Gw
    |some d=>
     have jl:d<c.n:=by
      have:=ABq.1 EY o (AA' A7);rw[AJ]at this;exact EU this
     have f:=m.Gw.put u jl;refine⟨f.size,f.GV,fun k v AE=>f.at_ k v ?_⟩;have FG:d≠k:=by
      rintro rfl;have:=bw AE;rw[(Ws d AJ).1]at this;cases this
     have:(d==k)=false:=(by simpa using FG);simp only[C1,this,ACx];exact AE
  · intro FV k Gf AE;rw[Ia IE]at Gf ⊢;simp only[ABk,beq_iff_eq]at Gf ⊢;rcases Gf with rfl|Gf
    · exact .inr (LZ k AE)
    · exact .inr (m.closed FV k Gf AE)
  · intro FV d Gf F6;rw[Ia IE]at Gf;simp only[ABk,beq_iff_eq]at Gf;by_cases Wt:i=FV
    · subst Wt;exact bg d F6
    · have Gf:A8.getD FV false=true:=by
       rcases Gf with h|h
       · exact absurd h Wt
       · exact h
      have PD:(a.put o.dst u).tmps.getD d undef=a.tmps.getD d undef:=by
       cases AJ:o.dst with
       |none=>rfl
       |some d0=>
        have FG:d0≠d:=by
         rintro rfl;exact(Ws d0 AJ).2 FV (Ne.symm Wt) F6
        simp[Act.put,ADA FG]
      rw[PD];refine⟨(m.slot FV d Gf F6).1,fun t Av=>OU t (ABm.2 (.inr (fp (k:=FV) ((Wl FV).2 ⟨Gf,by rw[F6];rfl⟩) ?_)))⟩;simpa[valOf,Il,F6]using Av
  · intro e x Ab;rw[Ia IE];simp only[ABk,beq_iff_eq,bK];by_cases Sa:i∈s.Eu
    · obtain⟨Fb,OV⟩:=ADc Sa;have Yr:j=Fb:=by
       have:=ABq.1 (ABZ.1 Yu).2 Fb (ABw.2 (ABF.1 OV).1);rw[OV]at this;simp at this;exact this.1.1
      subst Yr;have Bm:s.Eu.contains i=true:=(by simpa using Sa);rw[AA_ Bm];by_cases Wu:i=x
      · subst Wu;have Anm:e=j:=by
         rcases AD5 e j with h|h|h
         · have:=Z8 BB e j i i Ab OV h;omega
         · exact h
         · have:=Z8 BB j e i i OV Ab h;omega
        simp only[true_or,true_iff];omega
      · have Ann:e≠j:=by
         rintro rfl;rw[OV]at Ab;injection Ab with Ab;exact Wu Ab
        rw[m.done e x Ab];constructor
        · rintro(h|h)
          · exact absurd h Wu
          · omega
        · intro h;right;omega
    · have Bm:s.Eu.contains i=false:=(by simpa using Sa);rw[Bm];simp only[ADJ,if_false];have Wu:¬i=x:=(by rintro rfl;exact Sa (AA' Ab));rw[m.done e x Ab];simp[Wu]
  · simp only[bK];split
    · rename_i Bm;have Sa:i∈s.Eu:=(by simpa using Bm);obtain⟨Fb,OV⟩:=ADc Sa;have:=ABq.1 (ABZ.1 Yu).2 Fb (ABw.2 (ABF.1 OV).1);rw[OV]at this;simp at this;have:=(ABF.1 OV).1;omega
    · exact m.le
 unfold wpOp;have Qc:l.toArray[i]? =some o:=by simpa using A7
 simp only[Qc];unfold wpList at Jh;by_cases hw:Region.wanted o (yielded l.toArray a.tmps)=true
 · rw[AA_ hw]at Jh ⊢;refine .inl (mj (Q:=TK c l s (D++FM s (valOf l a) AP) i (pre s (valOf l a) j)) (fun _ _ _ h=>by cases h.1) O0 ?_);rcases Jh with h|h
   · -- the frame behind it is the one before, with a value put
     have key:∀{r:Result Next},o.upon c.P a (TK c l s (D++FM s (valOf l a) AP) i (pre s (valOf l a) j) .normal) (TK c l s (D++FM s (valOf l a) AP) i (pre s (valOf l a) j)) r->o.upon c.P a K (TK c l s (D++FM s (valOf l a) AP) i (pre s (valOf l a) j)) r:=by
      intro r h;cases r with
      |ok n AT=>
       cases n<;>simp only[Oper.upon]at h ⊢ <;>try exact h
       · exact G7 _ _ ⟨_,rfl⟩ h
       · exact G7 _ _ ⟨_,rfl⟩ h
       · exact Calls.mono h fun e Xq he=>by
          cases e with
          |returned v=>exact G7 _ _ ⟨_,rfl⟩ he
          |panicked XZ=>exact he
          |outgrown=>exact he
       · have AJ:=h.2.1;cases Re:o.dst<;>simp[Re,Act.put]at AJ
       · exact Rows.mono h fun _ _ he=>G7 _ _ ⟨_,rfl⟩ he
      |halt x AT=>cases x<;>simp only[Oper.upon]at h ⊢ <;>exact h
     exact key h
   · exact absurd h.2 O0
 · rw[AA9 hw]at Jh ⊢;exact G7 _ _ ⟨undef,rfl⟩ Jh
theorem dQ{α:Type}{p q:α->Bool}:∀{L:List α},(∀x∈L,q x=true->p x=true)->(∃x∈L,p x=true/\q x=false)->L.countP q<L.countP p
 |[],_,h=>by obtain⟨x,Ab,_⟩:=h;cases Ab
 |y::r,h,Ab=>by
  have hle:r.countP q<=r.countP p:=List.countP_mono_left fun x Ab=>h x (by simp[Ab]);by_cases Bf:p y=true/\q y=false
  · rw[AEa Bf.1,AEk (by simp[Bf.2])];omega
  · obtain⟨x,Ab,AH,B'⟩:=Ab;have Acy:x∈r:=by
     rcases ABf.1 Ab with rfl|Ab
     · exact absurd ⟨AH,B'⟩ Bf
     · exact Ab
    have Cg:=dQ (fun x Ab=>h x (by simp[Ab])) ⟨x,Acy,AH,B'⟩;by_cases B':q y=true
    · rw[AEa B',AEa (h y (by simp) B')];omega
    · rw[AEk B'];by_cases AH:p y=true
      · rw[AEa AH];omega
      · rw[AEk AH];exact Cg
theorem hF:∀{Eu:List Nat},RN l Eu=true->∀(e x:Nat),Eu[e]? =some x->x<l.length
 |[],_,e,x,h=>by simp at h
 |[z],Bm,e,x,h=>by
  have:e=0:=by
   have:=(ABF.1 h).1;simp at this;omega
  subst this;simp at h;subst h;simpa[RN]using Bm
 |z::u::r,Bm,e,x,h=>by
  simp only[RN,ABb,ABa]at Bm;cases e with
  |succ e=>
   simp only[ABC]at h;exact hF Bm.2 e x h
  |zero=>
   simp at h;subst h;have:=hF Bm.2 0 u rfl;omega
theorem Px(m j:Nat):(Array.replicate m false).getD j false=false:=by
 rcases ACq j m with h|h
 · simp[h]
 · simp[h]
theorem SW.all(Af:S6 l s.E8=true)(h2:Pv l env=true)(BB:RN l s.Eu=true)(C':ND l=true)(EY:LX l c.n=true)(Dk:VI c l s env D l 0)
 (Je:∀a w,(∀k,k<l.length->True)->SW c l s env D (Array.replicate l.length true) a w s.Eu.length->Q .normal a w):
 ∀(fuel:Nat) (A8:Array Bool) (a:Act) (w:World) (j:Nat),SW c l s env D A8 a w j->(List.range l.length).countP (fun i=> !A8.getD i false)<=fuel->wpAny c.P .any l.toArray Q fuel A8 a w:=by
 have G7:∀(A8:Array Bool) (a:Act) (w:World) (j:Nat),SW c l s env D A8 a w j->Region.ready .any l.toArray A8=[]->Q .normal a w:=by
  intro A8 a w j m Bh;have C0:∀i,i<l.length->A8.getD i false=true:=by
   intro i;induction i using Nat.strongRecOn with
   |_ i Cg=>
    intro Ag;cases Tr:A8.getD i false with
    |true=>rfl
    |false=>
     exfalso;have:i∈Region.ready .any l.toArray A8:=by
      refine ACz.2 ⟨by rw[OQ (by rw[m.size];exact Ag)];exact Tr,l[i],by simp[ABs Ag],fun e he Aq=>?_⟩;have M7:=ABq.1 C' i (ABw.2 Ag);rw[ABs Ag]at M7;have:=ABq.1 M7 e (AC3.2 he);rw[Aq]at this;have C_:=EU (by simpa using this);exact Cg e.on C_ AJv
     rw[Bh]at this;cases this
  have heq:A8=Array.replicate l.length true:=by
   apply Array.ext
   · simp[m.size]
   · intro i Af h2;have:=C0 i (by rw[m.size]at Af;exact Af);simp[Af]at this;simp[this]
  have Ay:j=s.Eu.length:=by
   rcases ACq j s.Eu.length with h|h
   · have Ab:s.Eu[j]? =some s.Eu[j]:=ABs h;have C_:s.Eu[j]<l.length:=by
      rcases ACq s.Eu[j] l.length with DI|DI
      · exact DI
      · exfalso;have:=hF BB j _ Ab;omega
     have:=(m.done j _ Ab).1 (C0 _ C_);omega
   · have:=m.le;omega
  subst heq Ay;exact Je a w (fun _ _=>trivial) m
 intro fuel;induction fuel with
 |zero=>
  intro A8 a w j m Bm;have Bh:Region.ready .any l.toArray A8=[]:=by
   apply List.eq_nil_iff_forall_not_mem.2;intro i Ag;obtain⟨Ib,o,A7,_⟩:=ACz.1 Ag;have Ee:i<l.length:=by
    have:=(AC_.1 A7).1;simpa using this
   have Jg:A8.getD i false=false:=(by rw[<-OQ (by rw[m.size];exact Ee)];exact Ib);have Bw:(List.range l.length).countP (fun i=> !A8.getD i false)=0:=AJv;have:=List.countP_eq_zero.1 Bw i (ABw.2 Ee);simp[Jg]at this
  exact⟨Bh,G7 _ _ _ _ m Bh⟩
 |succ fuel Cg=>
  intro A8 a w j m Bm;refine⟨fun Bh=>G7 _ _ _ _ m Bh,fun i Ag=>?_⟩;refine m.step Af h2 BB EY Dk Ag fun Dx AT e7 WO=>Cg _ Dx AT e7 WO ?_;obtain⟨Ib,o,A7,_⟩:=ACz.1 Ag;have Ee:i<l.length:=by
   have:=(AC_.1 A7).1;simpa using this
  have IE:i<A8.size:=(by rw[m.size];exact Ee);have Jg:A8.getD i false=false:=(by rw[<-OQ IE];exact Ib);have:(List.range l.length).countP (fun k=> !(A8.setIfInBounds i true).getD k false)<(List.range l.length).countP (fun k=> !A8.getD k false):=by
   refine dQ (fun k _ AE=>?_) ⟨i,ABw.2 Ee,by rw[Jg];rfl,?_⟩
   · rw[Ia IE]at AE;simp only[ABe,ABD]at AE;rw[AE.2];rfl
   · rw[Ia IE];simp
  omega
end
end
section
def EC(Eb:Nat->Option Value)(V:Nat->Value)(i:Nat):Value:=(Eb i).getD (V i)
@[reducible] def Sx(s:MV)(Eb:Nat->Option Value):MV:={s with ok:=fun i u=>match Eb i with
 |some v=>u=v
 |none=>s.ok i u}
def dn(c:Cj)(l:List Oper)(s:MV)(Eb:Nat->Option Value)(env:Env)(D:List Atom):List Oper->Nat->Prop
 |[],_=>True
 |o::r,i=>(∀(V:Nat->Value) (Az:List Atom),E7 (fun k=>Eb k=none->s.ok k (V k)) (s.E8 i)->
  E7 (fun j=>Cb (TK c l (Sx s Eb) (D++Az) i (pre s V j)) c l.toArray [o] (Eo l (EC Eb V) (s.E8 i)++env) (s.L (pre s V j)) (FM s (EC Eb V) (s.E8 i)++(D++Az))) (fz l s.Eu i))/\dn c l s Eb env D r (i+1)
theorem E7.imp{α:Type}{q EJ:α->Prop}:∀{l:List α},E7 q l->(∀x∈l,q x->EJ x)->E7 EJ l
 |[],_,_=>trivial
 |x::_,h,Ag=>⟨Ag x (ABx ..) h.1,E7.imp h.2 fun y Bf=>Ag y (ABR _ Bf)⟩
theorem UC{l:List Oper}{V ZT:Nat->Value}:∀{ks:List Nat},(∀k∈ks,(CN l k).isSome=true->V k=ZT k)->Eo l V ks=Eo l ZT ks
 |[],_=>rfl
 |k::r,h=>by
  have Cg:=UC (ks:=r) fun x Ab=>h x (ABR _ Ab);have AE:=h k (ABx ..);simp only[Eo];cases AJ:CN l k with
  |none=>exact Cg
  |some d=>rw[AJ]at AE;simp only;rw[Cg,AE rfl]
theorem ZY{s:MV}{V ZT:Nat->Value}:∀{ks:List Nat},(∀k∈ks,V k=ZT k)->FM s V ks=FM s ZT ks
 |[],_=>rfl
 |k::r,h=>by
  simp only[FM];rw[h k (ABx ..),ZY fun x Ab=>h x (ABR _ Ab)]
theorem wq{s:MV}{Eb:Nat->Option Value}{V:Nat->Value}{k:Nat}(h:(Sx s Eb).ok k (V k)):V k=EC Eb V k:=by
 unfold EC;simp only[]at h;split at h
 · rename_i v BC;rw[BC];exact h
 · rename_i BC;rw[BC];rfl
theorem Afp{s:MV}{Eb:Nat->Option Value}{V:Nat->Value}{k:Nat}(h:(Sx s Eb).ok k (V k))(Ao:Eb k=none):s.ok k (V k):=by
 simp only[Ao]at h;exact h
section
variable{c:Cj} {l:List Oper} {s:MV} {Eb:Nat->Option Value} {env:Env} {D:List Atom} {Q:AuE}
theorem dn.to:∀{r:List Oper} {i:Nat},dn c l s Eb env D r i->VI c l (Sx s Eb) env D r i
 |[],_,_=>trivial
 |o::r,i,h=>⟨fun V Az LC=>by
  have Af:=h.1 V Az (LC.imp fun k _ AE=>fun Ao=>Afp AE Ao);have e:∀k∈s.E8 i,V k=EC Eb V k:=fun k AE=>wq (LC.mem k AE);have B4:Eo l V (s.E8 i)=Eo l (EC Eb V) (s.E8 i):=UC fun k AE _=>e k AE;have DC:FM (Sx s Eb) V (s.E8 i)=FM s (EC Eb V) (s.E8 i):=(ZY e).trans (by
   generalize s.E8 i=ks;induction ks with
   |nil=>rfl
   |cons k r Cg=>simp only[FM,Cg])
  rw[show(Sx s Eb).E8 i=s.E8 i from rfl,B4,DC];exact Af,dn.to h.2⟩
end
section
variable{c:Cj} {ops:Array Oper} {Q:AuE} {env:Env} {L:Own} {D:List Atom} {rest:List Oper} {d:Nat} {v:Value} {t:TypeId} {p:String} {af:Array Edge}
theorem HD{f:FuncId}{vs:List Value}{DB:List Atom}{v:Value}(h:Cv c.P f vs DB v)(CM:GU c.P f){xs:List Operand}{ats:Array TypeId}
 (Hm:Gq env xs=some vs)(Cl:Bg DB D)(Ao:Nat.blt d c.n=true)(k:SZ Q c ops rest ((d,v)::env) L D):
 SZ Q c ops (⟨some d,.call {callee:=.value (.func f),args:=xs.toArray,argTypes:=ats},t,p,af,none⟩::rest) env L D:=by
 intro a w Gw st AR;unfold wpQuiet;rw[AA_ (show Region.wanted ⟨some d,.call {callee:=.value (.func f),args:=xs.toArray,argTypes:=ats},t,p,af,none⟩ (yielded ops a.tmps)=true from rfl)];refine⟨v,fun AT NN=>?_,k _ w (Gw.put v (EU Ao)) st AR⟩;have Ek:=lp (P:=c.P) (ρ:=a.eval) (o:=⟨some d,.call {callee:=.value (.func f),args:=xs.toArray,argTypes:=ats},t,p,af,none⟩) (x:=.func f) (xs:=xs) (ats:=ats) (f:=f) (first:= #[]) (cap:= #[]) (vs:=vs) rfl rfl (Gw.Gq Hm) CM AT
 simp only[ABK,List.append_nil]at Ek;unfold Oper.quietAt;rw[Ek];refine⟨rfl,?_⟩;have Bm:=h L.J AT (by simpa[Own.J,Dt]using st.nd) (fun b Aq=>ACp (st.lt b Aq) NN.size) (by simp) (fun t Av=>by
  have:=(AR.step NN.nil) t (Cl t Av);simpa[Own.J,Dt]using this)
 refine Calls.mono Bm fun e Xq ⟨u,he,AH⟩=>?_;obtain⟨hs,y,Fy,_⟩:=AH;have iT:u=v:=Fy;subst iT;have HW:C8 [] AT Xq:=by simpa[Own.J,Dt]using hs
 exact⟨he,NN.trans HW⟩
theorem Fh{α:Type}[Be α]{S:Nat->Prop}{w:World}{v:Value}{xs:List α}(h:Atom.holds ⟨v,xs⟩ S w):v.oneCell'=true:=by
 obtain⟨AK,A,Dc,EX,_⟩:=h;simp only at EX AK;rw[NC AK]at EX;have:v=.slice A xs.length Dc:=by simpa using EX
 rw[this];rfl
theorem L1{α:Type}[Be α]{S:Nat->Prop}{w:World}{v:Value}{xs:List α}(h:Atom.holds ⟨v,xs⟩ S w):xs.length<=9223372036854775807:=by
 obtain⟨AK,A,Dc,EX,_,_,Bo,_⟩:=h;exact Bo
theorem J2{α:Type}{r:Be α}(i j:Nat){b o:Nat}{T:TypeId}{cs:List Value}{x y:Operand}{u:Value}{xs:List α}(Ab:AL env x=some (.pointer (some ⟨b,o,none⟩)))(Bf:AL env y=some u)(Ag:L[i]? =some (AO b T cs))(Ay:D[j]? =some (@Atom.mk (List α) (@FI α r) u xs)){E:TypeId}(Av:Nv c.P E)(A7:o<cs.length)(k:Cb Q c ops rest env (L.set i (AO b T (cs.set o u))) D):
 Cb Q c ops (⟨none,.store E x y,t,p,af,none⟩::rest) env L D:=
 GO (q:=u.oneCell'=true) (fun _ _ h=>Fh (h _ (AA' Ay))) fun hu=>Fi i Ab Bf Ag Av hu A7 k
theorem IL{α:Type}{r:Be α}(i j:Nat){b o:Nat}{T e:TypeId}{cs:List Value}{x y:Operand}{u:Value}{xs:List α}(Ab:AL env x=some (.pointer (some ⟨b,o,none⟩)))(Bf:AL env y=some u)(Ag:L[i]? =some (AO b T cs))(Ay:L[j]? =some (@row α r e u xs)){E:TypeId}(Av:Nv c.P E)(A7:o<cs.length)(k:Cb Q c ops rest env (L.set i (AO b T (cs.set o u))) D):
 Cb Q c ops (⟨none,.store E x y,t,p,af,none⟩::rest) env L D:=
 (AcT Q).fact (q:=u.oneCell'=true) (fun a w f st AR=>by
  obtain⟨Cy,G8,_⟩:=st.own _ (AA' Ay);rcases G8.2 with⟨rfl,_⟩|⟨g,cap,cur,rfl,_⟩<;>rfl) fun hu=>Fi i Ab Bf Ag Av hu A7 k
theorem B0{f:FuncId}{vs:List Value}{DB:List Atom}{v:Value}(h:Cv c.P f vs DB v)(CM:GU c.P f){xs:List Operand}{ats:Array TypeId}
 (Hm:Gq env xs=some vs)(Cl:Bg DB D)(Ao:Nat.blt d c.n=true)(k:Cb Q c ops rest ((d,v)::env) L D):
 Cb Q c ops (⟨some d,.call {callee:=.value (.func f),args:=xs.toArray,argTypes:=ats},t,p,af,none⟩::rest) env L D:=
 Dm h CM Hm Cl Ao fun _ u hu=>by
  have hu:u=v:=hu;subst hu;exact k
theorem s_{x:Code}(h:CF c x (Exit.noGoto Q) env L D):CF c (.scope x) Q env L D:=fun a w f s d=>wp_scope_straight (h a w f s d)
theorem w9{α:Type}{r:Be α}{AP:Cj->Array Oper->List Oper->Env->Own->List Atom->Prop}[Dr:Ip AP](j:Nat){l:List Oper}{u:Value}{xs:List α}(Ay:D[j]? =some (@Atom.mk (List α) (@FI α r) u xs))(k:(∃A Dc,u=.slice A xs.length Dc)->AP c ops l env L D):AP c ops l env L D:=
 GO (q:=∃A Dc,u=.slice A xs.length Dc) (fun S w h=>by
  obtain⟨AK,A,Dc,EX,_⟩:=h _ (AA' Ay);simp only at EX AK;rw[NC AK]at EX;exact⟨A,Dc,by simpa using EX⟩) k
end
theorem ke{α:Type}{r:Be α}(S:Nat->Prop)(w:World):Atom.holds (@Atom.mk (List α) (@FI α r) (.slice none 0 0) []) S w:=
 ⟨rfl,show cp S w _ _ from⟨none,0,rfl,ABW _,AJx,ABg _,fun h=>absurd rfl h⟩⟩
@[reducible] def Pk{α:Type}[r:Be α](b:Nat)(T:TypeId)(x:α):C4 where
 J:=[b]
 holds S w:=∃u,w.heap[b]? =some (.cells #[u] T (0,0))/\Atom.holds ⟨u,x⟩ S w
 valid:=by
  rintro S w ⟨u,h,_⟩ KZ Aq;simp at Aq;subst Aq;exact TD h
 DY:=by
  rintro S Fq w AT ⟨u,h,AK⟩ hs hw;exact⟨u,(hw b (.inr (by simp))).trans h,Atom.DY AK hs fun b Aq=>hw b (.inl Aq)⟩
section
variable{c:Cj} {ops:Array Oper} {Q:AuE} {env:Env} {L:Own} {D:List Atom} {rest:List Oper} {α:Type} {r:Be α} {b:Nat} {T:TypeId} {x:α}
theorem hz{L:Own}{i:Nat}{p q:C4}(Ag:L[i]? =some p)(Aq:q.J=p.J):Own.J (L.set i q)=L.J:=by
 induction L generalizing i with
 |nil=>simp at Ag
 |cons y r Cg=>
  cases i with
  |zero=>simp at Ag;subst Ag;simp[Own.J,Dt,Aq]
  |succ i=>simp only[ABC]at Ag;have:=Cg Ag;simp only[Own.J,List.set_cons_succ,Dt]at this ⊢;rw[this]
theorem CI.swap{BW w:World}{M:List Nat}{L:Own}{p q:C4}{i:Nat}(Ag:L[i]? =some p)(st:CI BW M w L)(Aq:q.J=p.J)(B':q.holds (Et L.J w) w):CI BW M w (L.set i q):=by
 have e:=hz Ag Aq;refine⟨st.Ln,fun y Bf=>?_,by rw[e];exact st.nd,by rw[e];exact st.new⟩;rw[e];rcases List.mem_or_eq_of_mem_set Bf with h|h
 · exact st.own y h
 · subst h;exact B'
theorem BP.swap{w:World}{D:List Atom}{L:Own}{p q:C4}{i:Nat}(Ag:L[i]? =some p)(AR:BP D w L)(Aq:q.J=p.J):BP D w (L.set i q):=by
 intro t Av;rw[hz Ag Aq];exact AR t Av
theorem AfA(i:Nat){BW w:World}{M:List Nat}(Ag:L[i]? =some (@Pk α r b T x))(st:CI BW M w L)(AR:BP D w L):∃u,CI BW M w (L.set i (AO b T [u]))/\BP (⟨u,x⟩::D) w (L.set i (AO b T [u])):=by
 obtain⟨u,h,AK⟩:=st.own _ (AA' Ag);refine⟨u,st.swap Ag rfl h,BP.cons ?_ (AR.swap Ag rfl)⟩;rw[hz Ag (q:=AO b T [u]) rfl];exact AK
theorem rS(i:Nat){l:List Oper}(Ag:L[i]? =some (@Pk α r b T x))(k:∀u,Cb Q c ops l env (L.set i (AO b T [u])) (⟨u,x⟩::D)):Cb Q c ops l env L D:=fun a w f st AR=>by
 obtain⟨u,DR,RQ⟩:=AfA i Ag st AR;exact k u a w f DR RQ
theorem x2(i j:Nat){u:Value}{l:List Oper}(Ag:L[i]? =some (AO b T [u]))(Ay:D[j]? =some ⟨u,x⟩)(k:Cb Q c ops l env (L.set i (@Pk α r b T x)) D):Cb Q c ops l env L D:=
 fun a w f st AR=>k a w f (st.swap Ag rfl ⟨u,st.own _ (AA' Ag),AR.at_ j Ay⟩) (AR.swap Ag rfl)
theorem x3(i j:Nat){u:Value}{e:Exit}(Ag:L[i]? =some (AO b T [u]))(Ay:D[j]? =some ⟨u,x⟩)(k:Eg c Q e env (L.set i (@Pk α r b T x)) D):Eg c Q e env L D:=
 fun a w f st AR=>k a w f (st.swap Ag rfl ⟨u,st.own _ (AA' Ag),AR.at_ j Ay⟩) (AR.swap Ag rfl)
end
section
variable{c:Cj} {ops:Array Oper} {AP:Cj->Array Oper->List Oper->Env->Own->List Atom->Prop} [Dr:Ip AP] {env:Env} {L:Own} {D:List Atom} {rest:List Oper} {d:Nat} {v:Value} {t:TypeId} {p:String} {af:Array Edge} {x y:Operand} {m n:Int} {Ec FK:TypeId}
include Dr
theorem rD(Ab:AL env x=some (.int .i64 m))(Bf:AL env y=some (.int .i64 n))(Aq:A' (m*n))(Ao:Nat.blt d c.n=true)(k:AP c ops rest ((d,.int .i64 (m*n))::env) L D):
 AP c ops (⟨some d,.binOp .mul Ec x y FK,t,p,af,none⟩::rest) env L D:=
 pu rfl rfl Ao (fun a w f=>by simp[execOp,f.AL Ab,f.AL Bf,eqGuard,binOp,Op.intArith,Uf Aq]) k
theorem ka{q:IntKind}{ats:Array TypeId}(Ab:AL env x=some (.int q m))(Bf:AL env y=some (.int q n)){r:Int}(Bh:max m n=r)(Ao:Nat.blt d c.n=true)(k:AP c ops rest ((d,.int q r)::env) L D):
 AP c ops (⟨some d,.call {callee:=.builtin .max,args:= #[x,y],argTypes:=ats},t,p,af,none⟩::rest) env L D:=
 pu rfl rfl Ao (fun a w f=>by
  subst Bh;have e:max m n=if n>m then n else m:=AJv;simp[execOp,resolve,invoke,builtin,f.AL Ab,f.AL Bf,Builtin.max_,Builtin.max2,e]) k
theorem oA{α:Type}[r:Be α]{l:List Oper}(k:AP c ops l env L ((@Atom.mk (List α) (@FI α r) (.slice none 0 0) [])::D)):AP c ops l env L D:=
 XR _ (fun S w _=>ke S w) k
end
theorem DJ{c:Cj}{Q:AuE}{env:Env}{L:Own}{D:List Atom}{α:Type}[r:Be α]{x:Code}(k:CF c x Q env L ((@Atom.mk (List α) (@FI α r) (.slice none 0 0) [])::D)):CF c x Q env L D:=
 m9 _ (fun S w _=>ke S w) k
theorem lr{P:Program}{T:TypeId}{b:Nat}{cs:List Value}(h:Oc P T cs.length){w:World}{Pr:TypeId}(hh:w.heap[b]? =some (.cells cs.toArray Pr (0,0))):(loadVar T ⟨b,0,none⟩).run P w=.ok (.agg cs.toArray) w:=by
 have:=fU (P:=P) (T:=T) (b:=b) (o:=0) (cs:=cs) h (w:=w) (fun j u hu=>by
  rw[cell_of_row w b _ _ Pr (0,0) hh];simpa using hu)
 simpa only[Instr.loadAt,Instr.sureAddr,ABY,ACk,AB']using this
end
section
section
variable{c:Cj} {ops:Array Oper} {Q:AuE} {env:Env} {L:Own} {D:List Atom} {rest:List Oper} {d:Nat} {v:Value} {t:TypeId} {p:String} {af:Array Edge} {x y z:Operand} {T:TypeId} {b o:Nat} {cs:List Value}
theorem AiJ{P:Program}{T E:TypeId}{size bytes:Nat}(Av:EH P T E size bytes)(w:World):
 (Instr.buildSlice T 0 #[]).run P w=.ok (.slice (some ⟨w.heap.size,0,none⟩) 0 0) (w.alloc (.cells #[] E)):=by
 obtain⟨Oh,i,z,Ag,Cu,hs,Aq,Oj,_⟩:=Av;simp[Instr.buildSlice,ABQ Oh,sizeOf,typeInfo,Ag,Instr.fill,newRow,show Array.range 0= #[]from rfl]
theorem NB{E:TypeId}{size bytes:Nat}(Av:EH c.P T E size bytes)(Ao:Nat.blt d c.n=true)(k:∀b,Cb Q c ops rest ((d,.slice (some ⟨b,0,none⟩) 0 0)::env) (AO b E []::L) D):
 Cb Q c ops (⟨some d,.buildSlice T 0 #[],t,p,af,none⟩::rest) env L D:=by
 refine Ue (σ:=Nat) rfl rfl (fun b=>(d,.slice (some ⟨b,0,none⟩) 0 0)::env) (fun b=>AO b E []::L) (fun _=>D) (fun a w f st AR=>?_) k;refine⟨w.heap.size,.slice (some ⟨w.heap.size,0,none⟩) 0 0,w.alloc (.cells #[] E),?_,f.put _ (EU Ao),Z3 (cs:=[]) st AR⟩;simp only[execOp,ACQ,ACU,ABY,AiJ Av,AB',ACk]
theorem AiL{P:Program}{T E:TypeId}{size bytes:Nat}(Av:EH P T E size bytes){us:List Value}(AN:us.length=size)(_:us.length≠0)(Aq:us.length<=1000)(w:World):
 (Instr.buildSlice T 1 #[(0,.agg us.toArray)]).run P w=.ok (.slice (some ⟨w.heap.size,0,none⟩) 1 1) (w.alloc (.cells us.toArray E)):=by
 subst AN;obtain⟨Oh,i,z,Ag,Cu,hs,EP,Oj,_⟩:=Av;refine run_buildSlice w T E 1 _ us.toArray i z Oh Ag Cu (by rw[hs];omega) (by rw[hs];omega) ?_;rw[hs];have Bm:(Value.agg us.toArray).cells=us.toArray:=rfl;simp only[Instr.fill,Bm,Nat.zero_mul];have key:∀(l:List Value) (pre post:List Value),l.length=post.length->((l.zipIdx pre.length).foldl (fun(cs:Array Value) (x:Value×Nat)=>cs.setIfInBounds (0+x.2) x.1) (pre++post).toArray)=(pre++l).toArray:=by
  intro l;induction l with
  |nil=>intro pre post h;have:post=[]:=ADo (by simpa using h.symm);subst this;rfl
  |cons u l Cg=>
   intro pre post h;obtain⟨q,post,rfl⟩:∃q r,post=q::r:=by
    cases post with
    |nil=>simp at h
    |cons q r=>exact⟨q,r,rfl⟩
   simp only[List.zipIdx_cons,List.foldl_cons];have e:((pre++q::post).toArray.setIfInBounds (0+pre.length) u)=((pre++[u])++post).toArray:=(by simp);rw[e];have:=Cg (pre++[u]) post (by simpa using h);simp only[ABP,List.length_singleton]at this;rw[this];simp
 have Cu:((Array.range (1*us.length)).map (z.cells[· % z.cells.size]!)).size=us.length:=by simp
 generalize ((Array.range (1*us.length)).map (z.cells[· % z.cells.size]!))=arr at Cu;have AE:=key us [] arr.toList (by simp[Cu]);rw[AA9 (by simp[Cu])];simp only[List.length_nil,ABK,Array.toArray_toList]at AE;rw[<-Array.foldl_toList,Array.toList_zipIdx];simpa using AE
theorem Lw{us:List Value}{E:TypeId}{size bytes:Nat}(Ab:AL env x=some (.agg us.toArray))(Av:EH c.P T E size bytes)(hs:us.length=size)(Bw:us.isEmpty=false)(AN:Nat.ble us.length 1000=true)(Ao:Nat.blt d c.n=true)
 (k:∀b,Cb Q c ops rest ((d,.slice (some ⟨b,0,none⟩) 1 1)::env) (AO b E us::L) D):
 Cb Q c ops (⟨some d,.buildSlice T 1 #[(0,x)],t,p,af,none⟩::rest) env L D:=by
 refine Ue (σ:=Nat) rfl rfl (fun b=>(d,.slice (some ⟨b,0,none⟩) 1 1)::env) (fun b=>AO b E us::L) (fun _=>D) (fun a w f st AR=>?_) k;refine⟨w.heap.size,.slice (some ⟨w.heap.size,0,none⟩) 1 1,w.alloc (.cells us.toArray E),?_,f.put _ (EU Ao),Z3 st AR⟩;have FG:us.length≠0:=fun e=>by rw[ADo e]at Bw;cases Bw
 simp only[execOp,ACQ,AB8,ACU,f.AL Ab,ABY,AiL Av hs FG (ABy AN),AB',ACk]
theorem Nm{α:Type}[r:Be α]{l:List Oper}{E:TypeId}(xs:List α)(Cy:List (List Value)){n:Nat}(Ao:xs.length=n)(I0:Cy.flatten=cs)(Bh:∀S w,(∀u∈D,u.holds S w)->HM S w Cy xs)(AN:Nat.ble xs.length 1000=true)
 (k:Cb Q c ops l env (@row α r E (.slice (some ⟨b,0,none⟩) n n) xs::L) D):Cb Q c ops l env (AO b E cs::L) D:=by
 subst Ao;intro a w f st AR;have AN:=ABy AN;have hh:w.heap[b]? =some (.cells cs.toArray E (0,0)):=st.own _ (ABx ..);have Ep:HM (Et (Own.J (AO b E cs::L)) w) w Cy xs:=Bh _ _ AR;have hlen:=Ep.len;rw[I0]at hlen;refine k a w f (st.swap (i:=0) (p:=AO b E cs) (q:=row E (.slice (some ⟨b,0,none⟩) xs.length xs.length) xs) rfl rfl ⟨Cy,⟨?_,.inr ⟨b,xs.length,cs.toArray,rfl,ABg _,hh,ABW _,by simp only[maxLen];omega,by simpa using hlen,?_⟩⟩,Ep,AJv⟩) (AR.swap (i:=0) (p:=AO b E cs) rfl rfl)
 · rw[I0];exact hlen
 · rw[I0,List.take_of_length_le (by simp only[];omega)]
theorem Db{ps:List (Nat×Operand)}{us:List Value}{cs:List Value}(Ab:Gq env (ps.map (·.2))=some us)(Aq:c.P.built T ((ps.map (·.1)).zip us)=some cs.toArray)(Ao:Nat.blt d c.n=true)(k:Cb Q c ops rest ((d,.agg cs.toArray)::env) L D):
 Cb Q c ops (⟨some d,.build T ps.toArray,t,p,af,none⟩::rest) env L D:=
 pu rfl rfl Ao (fun a w f=>by
  have e:=f.Gq Ab;subst e;have h2:(ps.toArray.map fun(i,x)=>(i,a.eval x)).toList=(ps.map (·.1)).zip ((ps.map (·.2)).map a.eval):=by
   simp only[ACQ];clear Ab Aq;induction ps with
   |nil=>rfl
   |cons q r Cg=>simp only[AB8,List.zip_cons_cons,Cg]
  have:=run_build (P:=c.P) w T (ps.toArray.map fun(i,x)=>(i,a.eval x)) cs.toArray (by rw[h2];exact Aq);simp only[execOp,ABY,this,AB',ACk]) k
end
section
variable{c:Cj} {ops:Array Oper} {AP:Cj->Array Oper->List Oper->Env->Own->List Atom->Prop} [Dr:Ip AP] {env:Env} {L:Own} {D:List Atom} {rest:List Oper} {d:Nat} {v:Value} {t:TypeId} {p:String} {af:Array Edge} {x y:Operand} {Ec FK:TypeId}
include Dr
theorem RT{α:Type}{r:Be α}(i:Nat){xs:List α}{Bk:Value}{E:TypeId}(hu:c.P.underlying Ec=some (.slice E))(Ab:AL env x=some Bk)(Cl:D[i]? =some (@Atom.mk (List α) (@FI α r) Bk xs))(Bf:AL env y=some (.slice none 0 0))(Ao:Nat.blt d c.n=true)
 (k:∀b:Bool,(b=true->xs=[])->AP c ops rest ((d,.bool b)::env) L D):AP c ops (⟨some d,.binOp .eql Ec x y FK,t,p,af,none⟩::rest) env L D:=by
 refine Dr.fact (q:=∃A Dc,Bk=.slice A xs.length Dc/\(A=none->xs=[])) (fun a w f st AR=>?_) ?_
 · obtain⟨AK,A,Dc,EX,Af,h2,Bo,BB⟩:=AR.at_ i Cl;simp only at EX AK;rw[NC AK]at EX;refine⟨A,Dc,by simpa using EX,fun Cl=>?_⟩;by_cases he:xs=[]
   · exact he
   · obtain⟨b,o,h,_⟩:=BB he;rw[h]at Cl;cases Cl
 · rintro⟨A,Dc,rfl,h⟩;refine pu rfl rfl Ao (fun a w f=>?_) (k A.isNone fun Cl=>h (by simpa using Cl));simp[execOp,f.AL Ab,f.AL Bf,eqGuard,binOp,run_equal_slice_nil w Ec E A xs.length Dc hu]
end
theorem za{P:Program}{d:Nat}{f:Field}{B1:List Field}{xs ys:Array Value}{a b:Value}{r s:Bool}(Ao:(f.name== "_")=false){Cx:TypeDesc}(hu:P.underlying f.type=some Cx)(Bh:Cx.isRow=false)(AK:xs[f.offset]? =some a)(Aq:ys[f.offset]? =some b)
 (he:∀w,(Op.equalIn d f.type a b).run P w=.ok r w)(bd:∀w,(Op.eqFields d xs ys B1).run P w=.ok s w)(w:World):(Op.eqFields d xs ys (f::B1)).run P w=.ok (r&&s) w:=by
 have eO:f.name≠ "_" :=by simpa using Ao
 have AH:∀(zs:Array Value) (z:Value),zs[f.offset]? =some z->∀w,(part f.type zs f.offset).run P w=.ok z w:=by
  intro zs z Cu w;unfold part;rw[ABY,lq hu,AB',Bh];simp[Cu]
 unfold Op.eqFields;rw[AA_ eO];simp only[ABY,AH xs a AK,AH ys b Aq,he,AB'];cases r with
 |false=>simp
 |true=>simpa using bd w
theorem OO{P:Program}{d:Nat}{xs ys:Array Value}(w:World):(Op.eqFields d xs ys []).run P w=.ok true w:=by simp[Op.eqFields]
theorem Fk{P:Program}{d:Nat}{T:TypeId}{k Gh:IntKind}(hu:P.underlying T=some (.int Gh))(a b:Int)(w:World):(Op.equalIn (d+1) T (.int k a) (.int k b)).run P w=.ok (decide (a=b)) w:=by
 rw[run_equalIn_int w d T k Gh a b hu];by_cases h:a=b<;>simp[h]
theorem UF{P:Program}{d:Nat}{T:TypeId}(hu:P.underlying T=some .string)(a b:ByteArray)(w:World):(Op.equalIn (d+1) T (.string a) (.string b)).run P w=.ok (decide (a=b)) w:=by
 rw[run_equalIn_string w d T a b hu,XU]
end
section
section
variable{c:Cj} {ops:Array Oper} {AP:Cj->Array Oper->List Oper->Env->Own->List Atom->Prop} [Dr:Ip AP] {env Jb env':Env} {L:Own} {D Dd:List Atom} {l rest:List Oper} {d:Nat} {v:Value}
include Dr
omit Dr in
theorem AnJ{T:Bool}(Jb:Env)(_:Sub Jb env)(CK:AP c ops rest ((d,.bool T)::Jb) L D->AP c ops l env L D)(AE:AP c ops rest ((d,.bool T)::Jb) L D):AP c ops l env L D:=CK AE
theorem e8{b:Bool}(K:AP c ops rest ((d,.bool b)::Jb) L D)(hs:Sub Jb env')(DK:Bg D Dd):AP c ops rest ((d,.bool b)::env') L Dd:=
 Dr.mono (fun a w f st AR=>⟨⟨f.size,f.GV,fun i u hu=>by
  simp only[C1]at hu;by_cases h:d=i
  · subst h;simp only[beq_self_eq_true,cond_true]at hu;exact f.at_ _ _ (by simpa only[C1,beq_self_eq_true,cond_true]using hu)
  · have Aq:(d==i)=false:=(by simpa using h);rw[Aq]at hu;have:=rh hs _ _ hu;exact f.at_ _ _ (by simp only[C1,Aq,ACx];exact this)⟩,AR.sub DK⟩) K
theorem qv{B X:Bool}(K:AP c ops rest ((d,.bool (B&&X))::Jb) L D)(Ew:B=true)(hs:Sub Jb env')(DK:Bg D Dd):AP c ops rest ((d,.bool X)::env') L Dd:=by
 subst Ew;exact e8 K hs DK
theorem qw{B X:Bool}(K:AP c ops rest ((d,.bool (B&&X))::Jb) L D)(Ew:B=false)(hs:Sub Jb env')(DK:Bg D Dd):AP c ops rest ((d,.bool false)::env') L Dd:=by
 subst Ew;exact e8 K hs DK
theorem qx{B X:Bool}(K:AP c ops rest ((d,.bool (B||X))::Jb) L D)(Ew:B=false)(hs:Sub Jb env')(DK:Bg D Dd):AP c ops rest ((d,.bool X)::env') L Dd:=by
 subst Ew;exact e8 K hs DK
theorem qy{B X:Bool}(K:AP c ops rest ((d,.bool (B||X))::Jb) L D)(Ew:B=true)(hs:Sub Jb env')(DK:Bg D Dd):AP c ops rest ((d,.bool true)::env') L Dd:=by
 subst Ew;exact e8 K hs DK
theorem ts{i:Nat}{t:Bool}(h:C1 env i=some (.bool t))(Af:t=true->AP c ops l ((i,.bool true)::env) L D)(h2:t=false->AP c ops l ((i,.bool false)::env) L D):AP c ops l env L D:=lS h Af h2
theorem tt{i:Nat}{t:Bool}(h:C1 env i=some (.bool t))(h2:t=false->AP c ops l ((i,.bool false)::env) L D)(Af:t=true->AP c ops l ((i,.bool true)::env) L D):AP c ops l env L D:=lS h Af h2
def AGQ(n:Nat)(ops:Array Oper):List Oper->Env->Option Env
 |[],env=>some env
 |o::r,env=>
  match o.guard,o.dst with
  |some (j,b),some d=>
   match(ops[j]?).bind (·.dst)with
   |some V1=>
    match C1 env V1 with
    |some (.bool KZ)=>if KZ==b|| !Nat.blt d n then none else AGQ n ops r ((d,undef)::env)
    |some (.tuple _)=>if Nat.blt d n then AGQ n ops r ((d,undef)::env)else none
    |_=>none
   |none=>none
  |_,_=>none
theorem AGV:∀{g:List Oper} {env:Env},AGQ c.n ops g env=some env'->AP c ops rest env' L D->AP c ops (g++rest) env L D
 |[],env,h,k=>by
  simp only[AGQ,ABX]at h;subst h;exact k
 |o::r,env,h,k=>by
  obtain⟨dst,op,t,p,af,g⟩:=o;cases g with
  |none=>simp[AGQ]at h
  |some g=>
   obtain⟨j,b⟩:=g;cases dst with
   |none=>simp[AGQ]at h
   |some d=>
    simp only[AGQ]at h;cases U0:(ops[j]?).bind (·.dst)with
    |none=>simp[U0]at h
    |some V1=>
     simp only[U0]at h;cases BC:C1 env V1 with
     |none=>simp[BC]at h
     |some u=>
      simp only[BC]at h;have key:(∀a w,Fr c.n a env->CI c.BW c.M w L->BP D w L->Region.wanted ⟨some d,op,t,p,af,some (j,b)⟩ (yielded ops a.tmps)=false)->Nat.blt d c.n=true->AGQ c.n ops r ((d,undef)::env)=some env'->
       AP c ops (⟨some d,op,t,p,af,some (j,b)⟩::(r++rest)) env L D:=fun hw Ao hs=>
       Dr.c4 (env':=(d,undef)::env) (fun a w f st AR=>⟨hw a w f st AR,f.put undef (EU Ao)⟩) (AGV hs k)
      cases u with
      |bool KZ=>
       simp only at h;split at h
       · cases h
       · rename_i Ao;simp only[ABk,ABe,ABN,ACH,AB_]at Ao;refine key (fun a w f st AR=>?_) Ao.2 h;have:=f.at_ _ _ BC;have FG:¬KZ=b:=(by simpa using Ao.1);simp[Region.wanted,yielded,U0,this,FG]
      |tuple Zn=>
       simp only at h;split at h
       · rename_i Ao;refine key (fun a w f st AR=>?_) Ao h;have:=f.at_ _ _ BC;simp[Region.wanted,yielded,U0,this]
       · cases h
      |_=>cases h
end
section
variable{c:Cj} {Q:AuE} {env:Env} {L:Own} {D:List Atom} {x:Code}
theorem Hx{σ:Type}(C:Env)(Dw:List Atom)(V:σ->Env->Env)(LL:σ->Own)(DD:σ->List Atom->List Atom)(I:σ->Prop)(N_:σ->Nat)(B3:σ)(_:Sub C env)(_:Bg Dw D)(AU:I B3)
 (Ge:Sub (V B3 C) env)(Dv:LL B3=L)(DK:Bg (DD B3 Dw) D)
 (body:∀s,I s->CF c x (Exit.then (dk c (fun s=>V s C) LL (fun s=>DD s Dw) I N_ s) Q) (V s C) (LL s) (DD s Dw)):CF c (.loop x) Q env L D:=
 j9 (fun s=>V s C) LL (fun s=>DD s Dw) I N_ B3 AU Ge Dv DK body
theorem Ji{σ:Type}(C:Env)(Dw:List Atom)(V:σ->Env->Env)(I:σ->Prop)(N_:σ->Nat)(B3:σ)(_:Sub C env)(Bm:Bg Dw D)(AU:I B3)
 (Ge:Sub (V B3 C) env)
 (body:∀s,I s->CF c x (Exit.then (dk c (fun s=>V s C) (fun _=>L) (fun _=>Dw) I N_ s) Q) (V s C) L Dw):CF c (.loop x) Q env L D:=
 j9 (fun s=>V s C) (fun _=>L) (fun _=>Dw) I N_ B3 AU Ge rfl Bm body
theorem Ki{P:Nat->Prop}{i:Nat}(h:∀j,j<i->P j)(Ag:P i):∀j,j<i+1->P j:=fun j Ay=>by
 by_cases e:j=i
 · subst e;exact Ag
 · exact h j AJv
end
def allI(n:Nat)(p:Nat->Bool):Bool:=(List.range n).all p
theorem Us{n:Nat}{p:Nat->Bool}(h:∀j,j<n->p j=true):allI n p=true:=ABq.2 fun j Ay=>h j (ABw.1 Ay)
theorem Ur{n:Nat}{p:Nat->Bool}(j:Nat)(Ay:j<n)(h:p j=false):allI n p=false:=by
 rw[<-ACH];intro e;have:=ABq.1 e j (ABw.2 Ay);rw[h]at this;cases this
theorem Nz{n:Nat}{p:Nat->Bool}:allI n p=true↔∀j,j<n->p j=true:=by simp[allI]
theorem j4{α:Type}[r:Be α]{S:Nat->Prop}{w:World}{k:Value}{l:List α}(h:Atom.holds ⟨k,l⟩ S w):(@FI α r).rd S w [k] l:=by
 obtain⟨AK,Bh⟩:=h
 rwa [NC AK]at Bh
theorem Ly{α:Type}{l:List α}{i:Nat}{d:α}(h:i<l.length):l[i]? =some (l.getD i d):=by simp[List.getD,ABs h]
end
theorem ny:∀a b:List UInt8,(Op.bytesLess a b||decide (a=b))= !Op.bytesLess b a
 |[],[]=>rfl
 |[],b::y=>by simp[Op.bytesLess]
 |a::x,[]=>by simp[Op.bytesLess]
 |a::x,b::y=>by
  have Cg:=ny x y;simp only[Op.bytesLess];rcases AD5 a.toNat b.toNat with h|h|h
  · have Af:a<b:=ACG.2 h;have h2:¬b<a:=fun e=>by have:=ACG.1 e;omega
    have Bo:¬b=a:=fun e=>by subst e;omega
    simp[Af,h2,Bo]
  · obtain rfl:=UInt8.toNat_inj.1 h;have Af:¬a<a:=fun e=>by have:=ACG.1 e;omega
    simpa[Af]using Cg
  · have Af:¬a<b:=fun e=>by have:=ACG.1 e;omega
    have h2:b<a:=ACG.2 h;have Bo:¬a=b:=fun e=>by subst e;omega
    simp[Af,h2,Bo]
theorem bA(a b:ByteArray):(Ds a b||decide (a=b))= !Ds b a:=by
 have:=ny a.toList b.toList;have e:decide (a=b)=decide (a.toList=b.toList):=by
  rw[<-XU];exact ACy.2 (by simp)
 rw[e];exact this
theorem nz:∀a:List UInt8,Op.bytesLess a a=false
 |[]=>rfl
 |a::x=>by
  have Af:¬a<a:=fun e=>by have:=ACG.1 e;omega
  simp[Op.bytesLess,Af,nz x]
theorem lt_irrefl(a:ByteArray):Ds a a=false:=nz a.toList
theorem nA:∀a b c:List UInt8,Op.bytesLess a b=true->Op.bytesLess b c=true->Op.bytesLess a c=true
 |_,_,[],_,h=>by simp[Op.bytesLess]at h
 |_,[],_::_,h,_=>by simp[Op.bytesLess]at h
 |[],_::_,_::_,_,_=>rfl
 |a::x,b::y,c::z,Af,h2=>by
  simp only[Op.bytesLess,ABk,ABb,ABa,beq_iff_eq]at Af h2 ⊢;rcases Af with Af|⟨rfl,Af⟩
  · rcases h2 with h2|⟨rfl,_⟩
    · exact .inl (ACG.2 (Nat.lt_trans (ACG.1 Af) (ACG.1 h2)))
    · exact .inl Af
  · rcases h2 with h2|⟨rfl,h2⟩
    · exact .inl h2
    · exact .inr ⟨rfl,nA x y z Af h2⟩
theorem lt_trans{a b c:ByteArray}(Af:Ds a b=true)(h2:Ds b c=true):Ds a c=true:=nA _ _ _ Af h2
theorem Ad_{a b:ByteArray}(h:Ds a b=false):Ds b a=true\/a=b:=by
 have:=bA b a;rw[h]at this;simp only[Bool.not_false,ABk,ABa]at this;exact this.imp id Eq.symm
theorem Ad9{a b:ByteArray}(h:Ds a b=true):a≠b:=by
 rintro rfl;rw[lt_irrefl]at h;cases h
theorem AcO{S:Nat->Prop}{w:World}{v:Value}{xs:List Int}(h:Atom.holds ⟨v,xs⟩ S w):∀x∈xs,A' x:=by
 intro x Ab;obtain⟨AK,A,Dc,EX,_,_,Bo,BB⟩:=h;obtain⟨b,o,_,_,Ag⟩:=BB (List.ne_nil_of_mem Ab);obtain⟨i,Jf,rfl⟩:=List.getElem_of_mem Ab;obtain⟨cs,Bm,_⟩:=Ag i _ (ABs Jf);exact Bm.2
theorem EI{P:Program}{d:Nat}{f:Field}{B1:List Field}{xs ys:Array Value}{a b:Value}{r s:Bool}{w:World}(Ao:(f.name== "_")=false){Cx:TypeDesc}(hu:P.underlying f.type=some Cx)(Bh:Cx.isRow=false)(AK:xs[f.offset]? =some a)(Aq:ys[f.offset]? =some b)
 (he:∀w,(Op.equalIn d f.type a b).run P w=.ok r w)(bd:∀w,(Op.eqFields d xs ys B1).run P w=.ok s w):(Op.eqFields d xs ys (f::B1)).run P w=.ok (r&&s) w:=za Ao hu Bh AK Aq he bd w
section
structure Ext (P:Program) (f:FuncId) (e:Array Value->Sem Value):Prop where
 ok:∃fn,P.funcs[f]? =some fn/\(fn.name== "runtime.NumGoroutine")=false/\fn.body.isNone=true/\Extern.findNext fn=none/\Extern.find fn=some e
section
variable{c:Cj} {ops:Array Oper} {AP:Cj->Array Oper->List Oper->Env->Own->List Atom->Prop} [Dr:Ip AP] {env:Env} {L:Own} {D:List Atom} {rest:List Oper} {d:Nat} {v:Value} {t:TypeId} {p:String} {af:Array Edge} {x y:Operand} {T:TypeId} {b o:Nat}
include Dr
theorem hL{f:FuncId}{e:Array Value->Sem Value}(BI:Ext c.P f e){vs:List Value}(Ek:∀w,(e vs.toArray).run c.P w=.ok v w){xs:List Operand}{ats:Array TypeId}(Hm:Gq env xs=some vs)(Ao:Nat.blt d c.n=true)
 (k:AP c ops rest ((d,v)::env) L D):AP c ops (⟨some d,.call {callee:=.value (.func f),args:=xs.toArray,argTypes:=ats},t,p,af,none⟩::rest) env L D:=
 pu rfl rfl Ao (fun a w Gw=>by
  obtain⟨fn,Af,h2,Bo,BB,C'⟩:=BI.ok;have hm:xs.map a.eval=vs:=Gw.Gq Hm;have JU:a.eval (.func f)=.func (.func f) #[] #[]:=rfl;simp only[execOp,resolve,Deferred.ofValue,JU,invoke,ACQ,hm,ABY,ACk,AB'];have:=run_callFunc_extern Af h2 Bo BB C' (vs.toArray) w;rw[Ek w]at this;simpa using this) k
end
section
variable{c:Cj} {ops:Array Oper} {Q:AuE} {env:Env} {L:Own} {D:List Atom} {b:Nat} {cs:List Value}
theorem M4{α:Type}[r:Be α]{l:List Oper}{T:TypeId}(KE:α)(Bh:∀S w,(∀u∈D,u.holds S w)->r.rd S w cs KE)
 (k:Cb Q c ops l env L ((@Atom.mk (Cq α) (@F9 α r) (.pointer (some ⟨b,0,none⟩)) ⟨KE⟩)::D)):Cb Q c ops l env (AO b T cs::L) D:=by
 intro a w f st AR;refine k a w f st.drop (BP.cons ?_ AR.drop);have hh:w.heap[b]? =some (.cells cs.toArray T (0,0)):=st.own _ (ABx ..);have Ao:=st.nd;simp only[Own.J,Dt,ACv]at Ao;have BO:Et L.J w b:=⟨TD hh,fun Ab=>Ao.2.2 b (by simp) b Ab rfl⟩;refine⟨rfl,b,0,cs,rfl,BO,Bh _ _ fun u hu=>AR.drop u hu,fun j u hu=>?_⟩;rw[AB0,cell_of_row w b _ _ T (0,0) hh];simpa using hu
end
theorem tv:∀(us pre cs:List Value),us.length=cs.length->MO (pre++cs) pre.length us=pre++us
 |[],pre,cs,h=>by
  obtain rfl:cs=[]:=ADo h.symm;rfl
 |v::r,pre,[],h=>by cases h
 |v::r,pre,c::cs,h=>by
  have Cg:=tv r (pre++[v]) cs (by simpa using h);simp only[ACN,List.singleton_append,ABP,List.length_singleton]at Cg;unfold MO;rw[List.set_append_right _ _ (ABW _),ADI];exact Cg
theorem AjH{cs us:List Value}(h:us.length=cs.length):MO cs 0 us=us:=by simpa using tv us [] cs h
theorem BZ{c:Cj}{ops:Array Oper}{Q:AuE}{env:Env}{L:Own}{D:List Atom}{rest:List Oper}{t:TypeId}{p:String}{af:Array Edge}{x y:Operand}{T E:TypeId}{b:Nat}{cs us:List Value}(i:Nat)
 (Ab:AL env x=some (.pointer (some ⟨b,0,none⟩)))(Bf:AL env y=some (.agg us.toArray))(Ag:L[i]? =some (AO b T cs))(Av:Oc c.P E us.length)(hu:us.all (·.oneCell')=true)(AN:us.length=cs.length)(k:Cb Q c ops rest env (L.set i (AO b T us)) D):
 Cb Q c ops (⟨none,.store E x y,t,p,af,none⟩::rest) env L D:=
 stM i Ab Bf Ag Av hu AJv (by rw[AjH AN];exact k)
theorem m_{P:Program}(x y c:Int)(Ab:0<=x)(Bf:0<=y)(Rd:0<=c)(Bm:c<=1)(w:World):
 (add64Entry [.int .u64 x,.int .u64 y,.int .u64 c].toArray).run P w=.ok (.tuple #[.int .u64 ((x+y+c) % 18446744073709551616),.int .u64 ((x+y+c) / 18446744073709551616)]) w:=run_add64 x y c Ab Bf Rd Bm w
def RO(a b:ByteArray):Int:=Go.Lib.compareBytes a.data.toList b.data.toList
theorem yc{P:Program}(a b:ByteArray)(w:World):(Extern.BytealgCompare.compare [.string a,.string b].toArray).run P w=.ok (.int .i64 (RO a b)) w:=Go.Lib.run_compareString a b w
theorem n4:∀a b:List UInt8,(decide (Go.Lib.compareBytes a b<0))=Op.bytesLess a b
 |[],[]=>rfl
 |[],b::y=>rfl
 |a::x,[]=>rfl
 |a::x,b::y=>by
  have Cg:=n4 x y;simp only[Go.Lib.compareBytes,Op.bytesLess];rcases AD5 a.toNat b.toNat with h|h|h
  · have Af:a<b:=ACG.2 h;simp[Af]
  · obtain rfl:=UInt8.toNat_inj.1 h;have Af:¬a<a:=fun e=>by have:=ACG.1 e;omega
    simpa[Af]using Cg
  · have Af:¬a<b:=fun e=>by have:=ACG.1 e;omega
    have h2:b<a:=ACG.2 h;have Bo:¬a=b:=fun e=>by subst e;omega
    simp[Af,h2,Bo]
theorem yb(a b:ByteArray):(decide (RO a b<0))=Ds a b:=by
 unfold RO Ds;rw[n4,AD8,AD8]
end
end Go.A_
