/- Part 1 of shardWhole_holds. -/
import Derived.KernelRfl
import Derived.WalkKit
import Derived.WalkSpells
import Derived.WalkLawsBesides
import Derived.Orders
import Derived.Deep.MidRow

set_option maxRecDepth 20000
set_option maxHeartbeats 1000000
namespace Go
theorem ADJ:(false=true)=False:=@Bool.false_eq_true
theorem ABQ:∀{P:Go.Program} {t:Go.TypeId} {d:Go.TypeDesc},Go.Program.underlying P t=some d→∀(w:Go.World),Go.Sem.run P (Go.underlying t) w=Go.Result.ok d w:=@Go.run_underlying
theorem ABC:∀{α:Type _} {a:α} {i:Nat} {l:List α},(a::l)[i+1]? =l[i]?:=@List.getElem?_cons_succ
theorem ABF:∀{α:Type _} {i:Nat} {a:α} {l:List α},l[i]? =some a↔∃h,l[i]=a:=@List.getElem?_eq_some_iff
theorem ACP:∀{α:Type _} {l:List α} {i:Nat} {a:α},i<List.length l→(List.set l i a)[i]? =some a:=@List.getElem?_set_self
theorem ABm:∀{α:Type _} {a:α} {s t:List α},a∈s++t↔a∈s∨a∈t:=@List.mem_append
theorem ABf:∀{α:Type _} {b:α} {l:List α} {a:α},a∈b::l↔a=b∨a∈l:=@List.mem_cons
theorem ABR:∀{α:Type _} (y:α) {a:α} {l:List α},a∈l→a∈y::l:=@List.mem_cons_of_mem
theorem ABx:∀{α:Type _} {a:α} {l:List α},a∈a::l:=@List.mem_cons_self
theorem AA':∀{α:Type _} {l:List α} {i:Nat} {a:α},l[i]? =some a→a∈l:=@List.mem_of_getElem?
theorem ABy:∀{n m:Nat},Nat.ble n m=true→n≤m:=@Nat.le_of_ble_eq_true
theorem ABW:∀(n:Nat),n≤n:=@Nat.le_refl
theorem ABB:∀{n m k:Nat},n≤m→m≤k→n≤k:=@Nat.le_trans
theorem ACp:∀{n m k:Nat},n<m→m≤k→n<k:=@Nat.lt_of_lt_of_le
theorem ACX:∀(n m:Nat),Nat.succ n*m=n*m+m:=@Nat.succ_mul
theorem ACx:∀{α:Sort _} (a b:α),(bif false then a else b)=b:=@cond_false
theorem AA_:∀{c:Prop} {_:Decidable c},c→∀{α:Sort _} {t e:α},(if c then t else e)=t:=@if_pos
theorem ABN:∀{p q:Prop},¬(p∨q)↔¬p∧¬q:=@not_or
theorem ACe:∀{p:Prop} [Decidable p],decide p=false→¬p:=@of_decide_eq_false
theorem ABA:∀{p:Prop} [Decidable p],decide p=true→p:=@of_decide_eq_true
end Go
open Array renaming getElem?_eq_some_iff→AC_
open Go.Sem renaming run_bind→ABY
open List renaming getElem?_of_mem→ADc,getElem?_set_ne→ACT,nodup_append→ACv
open Option.some renaming injEq→ABX
namespace Go.A_
theorem AMT{p:Prop}(h:p:=by omega):p:=h
theorem ARp{p:Prop}(h:p:=by decide):p:=h
theorem ARs{p:Prop}(h:p:=by kernel_rfl):p:=h
theorem ARz{p:Prop}(h:p:=by rfl):p:=h
section
@[reducible] def AuE:=Exit->Act->World->Prop
theorem EU{a b:Nat}(h:Nat.blt a b=true):a<b:=ABy h
abbrev Env:=List (Nat×Value)
def C1:Env->Nat->Option Value
 |[],_=>none
 |(j,v)::r,i=>bif j==i then some v else C1 r i
def AL(env:Env):Operand->Option Value
 | .tmp t=>C1 env t
 | .const v=>some v
 | .global g=>some (.pointer (some ⟨g,0,none⟩))
 | .func f=>some (.func (.func f) #[] #[])
def Gq(env:Env):List Operand->Option (List Value)
 |[]=>some []
 |x::r=>match AL env x,Gq env r with
  |some v,some vs=>some (v::vs)
  |_,_=>none
def Sub:Env->Env->Prop
 |[],_=>True
 |(i,v)::r,e=>C1 e i=some v/\Sub r e
structure Fr (n:Nat) (a:Act) (env:Env):Prop where
 size:a.tmps.size=n
 GV:a.defers=[]
 at_:∀i v,C1 env i=some v->a.tmps[i]? =some v
theorem Fr.AL{n:Nat}{a:Act}{env:Env}(h:Fr n a env){x:Operand}{v:Value}(Ab:AL env x=some v):a.eval x=v:=by
 cases x with
 |tmp t=>
  have:=h.at_ t v Ab;simp[Act.eval,this]
 |const u=>simpa[A_.AL,Act.eval]using Ab
 |global g=>simpa[A_.AL,Act.eval]using Ab
 |func f=>simpa[A_.AL,Act.eval]using Ab
theorem Fr.Gq{n:Nat}{a:Act}{env:Env}(h:Fr n a env):∀{l:List Operand} {vs:List Value},Gq env l=some vs->l.map a.eval=vs
 |[],vs,Ab=>by simpa[A_.Gq]using Ab
 |x::r,vs,Ab=>by
  simp only[A_.Gq]at Ab;split at Ab
  · rename_i v us Af h2;have:=h.Gq h2;simp only[ABX]at Ab;subst Ab;simp[h.AL Af,this]
  cases Ab
theorem Fr.put{n:Nat}{a:Act}{env:Env}(h:Fr n a env){d:Nat}(v:Value)(AJ:d<n):Fr n (a.put (some d) v) ((d,v)::env):=by
 refine⟨by simp[Act.put,h.size],h.GV,fun i u Ag=>?_⟩;simp only[C1]at Ag;by_cases KN:d=i
 · subst KN;simp at Ag;subst Ag;have:d<a.tmps.size:=(by rw[h.size];exact AJ);simp[Act.put,this]
 have:(d==i)=false:=by simpa using KN
 rw[this]at Ag;simp only[ACx]at Ag;have:=h.at_ i u Ag;simp[Act.put,Array.getElem?_setIfInBounds_ne KN,this]
theorem Fr.Su{n:Nat}{a:Act}{env:Env}(h:Fr n a env)(v:Value):Fr n (a.put none v) env:=h
theorem rh{env env':Env}:Sub env' env->∀i v,C1 env' i=some v->C1 env i=some v:=by
 intro h;induction env' with
 |nil=>intro i v Ag;cases Ag
 |cons p r Cg=>
  obtain⟨j,u⟩:=p;obtain⟨Af,h2⟩:=h;intro i v Ag;simp only[C1]at Ag;by_cases Ay:j=i
  · subst Ay;simp at Ag;subst Ag;exact Af
  have:(j==i)=false:=(by simpa using Ay);rw[this]at Ag;exact Cg h2 i v Ag
theorem Fr.sub{n:Nat}{a:Act}{env env':Env}(h:Fr n a env)(hs:Sub env' env):Fr n a env':=
 ⟨h.size,h.GV,fun i v Ag=>h.at_ i v (rh hs i v Ag)⟩
structure C8 (X:List Nat) (w AT:World):Prop where
 os:AT.os=w.os
 tape:AT.tape=w.tape
 output:AT.output=w.output
 size:w.heap.size<=AT.heap.size
 block:∀k,k<w.heap.size->k∉X->AT.heap[k]? =w.heap[k]?
theorem C8.refl(X:List Nat)(w:World):C8 X w w:=⟨rfl,rfl,rfl,ABW _,fun _ _ _=>rfl⟩
theorem C8.trans{X:List Nat}{a b c:World}(h:C8 X a b)(k:C8 X b c):C8 X a c:=
 ⟨k.os.trans h.os,k.tape.trans h.tape,k.output.trans h.output,ABB h.size k.size,fun i Ag Ab=>(k.block i (ACp Ag h.size) Ab).trans (h.block i Ag Ab)⟩
theorem C8.mono{X Y:List Nat}{a b:World}(h:C8 X a b)(Ab:∀k,k∈X->k∈Y):C8 Y a b:=
 ⟨h.os,h.tape,h.output,h.size,fun i Ag Bf=>h.block i Ag (fun AE=>Bf (Ab i AE))⟩
theorem C8.nil{Y:List Nat}{a b:World}(h:C8 [] a b):C8 Y a b:=h.mono (by simp)
theorem C8.drew(X:List Nat)(w:World):C8 X w w.drew:=⟨rfl,rfl,rfl,ABW _,fun _ _ _=>rfl⟩
theorem C8.alloc(X:List Nat)(w:World)(o:Obj):C8 X w (w.alloc o):=
 ⟨rfl,rfl,rfl,by simp,fun k AE _=>heap_alloc_old w o AE⟩
theorem C8.mc{X Y:List Nat}{a b c:World}(h:C8 X a b)(k:C8 Y b c)(Ao:∀i,i∈Y->i∈X\/a.heap.size<=i):C8 X a c:=
 ⟨k.os.trans h.os,k.tape.trans h.tape,k.output.trans h.output,ABB h.size k.size,fun i Ag Ab=>
  (k.block i (ACp Ag h.size) (fun Bf=>by rcases Ao i Bf with Af|Af;exact Ab Af;omega)).trans (h.block i Ag Ab)⟩
theorem C8.below{w AT:World}(h:C8 [] w AT):RowKit.Below w.heap.size w AT:=⟨h.os,h.tape,h.output,h.size,fun k AE=>h.block k AE (by simp)⟩
theorem TD{w:World}{b:Nat}{o:Obj}(h:w.heap[b]? =some o):b<w.heap.size:=(AC_.1 h).1
class Be (α:Type) where
 size:Nat
 agg:Bool
 rd:(Nat->Prop)->World->List Value->α->Prop
 len:∀{S w cs x},rd S w cs x->cs.length=size
 one:∀{S w cs x},rd S w cs x->∀u∈cs,u.oneCell'=true
 DY:∀{S Fq:Nat->Prop} {w AT:World} {cs x},rd S w cs x->(∀b,S b->Fq b)->(∀b,S b->AT.heap[b]? =w.heap[b]?)->rd Fq AT cs x
structure C4 where
 nd:List Nat
 holds:(Nat->Prop)->World->Prop
 valid:∀{S w},holds S w->∀b∈nd,b<w.heap.size
 DY:∀{S Fq:Nat->Prop} {w AT:World},holds S w->(∀b,S b->Fq b)->(∀b,S b\/b∈nd->AT.heap[b]? =w.heap[b]?)->holds Fq AT
 ty:TypeId:=0
 cs:List Value:=[]
abbrev Own:=List C4
def Dt:Own->List Nat
 |[]=>[]
 |p::r=>p.nd++Dt r
abbrev Own.nd(L:Own):List Nat:=Dt L
theorem FW{L:Own}{b:Nat}:b∈Dt L↔∃p∈L,b∈p.nd:=by
 induction L with
 |nil=>simp[Dt]
 |cons p r Cg=>simp[Dt,Cg]
def Et(X:List Nat)(w:World):Nat->Prop:=fun b=>b<w.heap.size/\b∉X
structure CI (BW:World) (M:List Nat) (w:World) (L:Own):Prop where
 Ln:C8 M BW w
 own:∀p∈L,p.holds (Et L.nd w) w
 AGm:L.nd.Nodup
 new:∀b∈L.nd,b∈M\/BW.heap.size<=b
theorem CI.lt{BW w:World}{M:List Nat}{L:Own}(h:CI BW M w L):∀b∈L.nd,b<w.heap.size:=by
 intro b Aq;obtain⟨p,AH,Sf⟩:=FW.1 Aq;exact p.valid (h.own p AH) b Sf
structure Atom where
 {α:Type}
 [r:Be α]
 v:Value
 x:α
def YA:Value->Bool
 | .agg _=>true
 |_=>false
def Atom.holds(t:Atom)(S:Nat->Prop)(w:World):Prop:=YA t.v=t.r.agg/\t.r.rd S w t.v.cells.toList t.x
theorem NC{v:Value}(h:YA v=false):v.cells= #[v]:=by cases v<;>first|rfl|cases h
theorem Atom.DY{t:Atom}{S Fq:Nat->Prop}{w AT:World}(h:t.holds S w)(hs:∀b,S b->Fq b)(hw:∀b,S b->AT.heap[b]? =w.heap[b]?):t.holds Fq AT:=
 ⟨h.1,t.r.DY h.2 hs hw⟩
def BP(D:List Atom)(w:World)(L:Own):Prop:=∀t∈D,t.holds (Et L.nd w) w
theorem BP.cons{t:Atom}{D:List Atom}{w:World}{L:Own}(h:t.holds (Et L.nd w) w)(AJ:BP D w L):BP (t::D) w L:=by
 intro u hu;rcases ABf.1 hu with rfl|hu
 · exact h
 exact AJ u hu
theorem BP.app{di mX:List Atom}{w:World}{L:Own}(h:BP di w L)(AJ:BP mX w L):BP (di++mX) w L:=by
 intro u hu;rcases ABm.1 hu with hu|hu
 · exact h u hu
 exact AJ u hu
def Bg(Dd D:List Atom):Prop:=∀t∈Dd,t∈D
theorem Bg.nil{D:List Atom}:Bg [] D:=by intro t h;cases h
theorem Bg.refl{D:List Atom}:Bg D D:=fun _ h=>h
theorem Bg.tail{Dd D:List Atom}{t:Atom}(h:Bg Dd D):Bg Dd (t::D):=fun u hu=>ABR _ (h u hu)
theorem Bg.cons{Dd D:List Atom}{t:Atom}(i:Nat)(Av:D[i]? =some t)(h:Bg Dd D):Bg (t::Dd) D:=by
 intro u hu;rcases ABf.1 hu with rfl|hu
 · exact AA' Av
 exact h u hu
theorem BP.sub{D Dd:List Atom}{w:World}{L:Own}(AJ:BP D w L)(h:Bg Dd D):BP Dd w L:=fun t Av=>AJ t (h t Av)
theorem BP.at_{D:List Atom}{w:World}{L:Own}(AJ:BP D w L)(i:Nat){t:Atom}(Av:D[i]? =some t):t.holds (Et L.nd w) w:=AJ t (AA' Av)
theorem BP.Zo{D:List Atom}{w AT:World}{L L':Own}(AJ:BP D w L)(hs:C8 L.nd w AT)(AN:∀b∈L'.nd,b∈L.nd\/w.heap.size<=b):BP D AT L':=fun t Av=>
 t.DY (AJ t Av) (fun b Aq=>⟨ACp Aq.1 hs.size,fun h=>by
  rcases AN b h with h|h
  · exact Aq.2 h
  have:=Aq.1;omega⟩) (fun b Aq=>hs.block b Aq.1 Aq.2)
theorem BP.step{D:List Atom}{w AT:World}{L:Own}(AJ:BP D w L)(hs:C8 L.nd w AT):BP D AT L:=AJ.Zo hs fun _ h=>.inl h
theorem CI.step{BW w AT:World}{M:List Nat}{L:Own}(h:CI BW M w L)(hs:C8 [] w AT):CI BW M AT L:=
 ⟨h.Ln.trans hs.nil,fun p AH=>p.DY (h.own p AH) (fun b Aq=>⟨ACp Aq.1 hs.size,Aq.2⟩) (fun b Aq=>by
  refine hs.block b ?_ (by simp);rcases Aq with Aq|Aq
  · exact Aq.1
  exact h.lt b (FW.2 ⟨p,AH,Aq⟩)),h.AGm,h.new⟩
theorem CI.push{BW w AT:World}{M:List Nat}{L:Own}{p:C4}(h:CI BW M w L)(hs:C8 [] w AT)(AH:p.holds (Et (Own.nd (p::L)) AT) AT)
 (Ao:p.nd.Nodup)(Aq:∀b∈p.nd,w.heap.size<=b):CI BW M AT (p::L):=by
 have DI:=h.step hs;refine⟨DI.Ln,?_,?_,?_⟩
 · intro q B';rcases ABf.1 B' with rfl|B'
   · exact AH
   refine q.DY (h.own q B') (fun b EP=>⟨ACp EP.1 hs.size,?_⟩) (fun b EP=>?_)
   · simp only[Own.nd,Dt,ABm,ABN];exact⟨fun Ab=>by have:=Aq b Ab;have:=EP.1;omega,EP.2⟩
   refine hs.block b ?_ (by simp);rcases EP with EP|EP
   · exact EP.1
   exact h.lt b (FW.2 ⟨q,B',EP⟩)
 · simp only[Own.nd,Dt,ACv];refine⟨Ao,h.AGm,fun a AK b EP=>?_⟩;have:=Aq a AK;have:=h.lt b EP;omega
 intro b EP;simp only[Own.nd,Dt,ABm]at EP;rcases EP with EP|EP
 · exact .inr (ABB h.Ln.size (Aq b EP))
 exact h.new b EP
theorem BP.push{D:List Atom}{w AT:World}{L:Own}{p:C4}(AJ:BP D w L)(hs:C8 [] w AT)(Aq:∀b∈p.nd,w.heap.size<=b):BP D AT (p::L):=
 AJ.Zo hs.nil fun b h=>by
  simp only[Own.nd,Dt,ABm]at h;rcases h with h|h
  · exact .inr (Aq b h)
  exact .inl h
theorem OK{L:Own}{i:Nat}{p p':C4}(_:L[i]? =some p):∀b∈Own.nd (L.set i p'),b∈p'.nd\/b∈L.nd:=by
 intro b Aq;obtain⟨q,B',p2⟩:=FW.1 Aq;rcases List.mem_or_eq_of_mem_set B' with h|h
 · exact .inr (FW.2 ⟨q,h,p2⟩)
 subst h;exact .inl p2
theorem kg:∀{L:Own} {i:Nat} {p p':C4},L[i]? =some p->L.nd.Nodup->p'.nd.Nodup->(∀b∈p'.nd,b∈p.nd\/b∉L.nd)->(Own.nd (L.set i p')).Nodup
 |[],i,p,p',Ag,_,_,_=>by simp at Ag
 |q::r,0,p,p',Ag,Ao,AH,Aq=>by
  simp at Ag;subst Ag;simp only[List.set_cons_zero,Own.nd,Dt,ACv]at Ao ⊢;refine⟨AH,Ao.2.1,fun a AK b EP e=>?_⟩;subst e;rcases Aq a AK with h|h
  · exact Ao.2.2 a h a EP rfl
  exact h (by simp[Dt,EP])
 |q::r,i+1,p,p',Ag,Ao,AH,Aq=>by
  simp only[ABC]at Ag;simp only[List.set_cons_succ,Own.nd,Dt,ACv]at Ao ⊢;refine⟨Ao.1,kg Ag Ao.2.1 AH (fun b EP=>?_),fun a AK b EP e=>?_⟩
  · rcases Aq b EP with h|h
    · exact .inl h
    exact .inr (fun Ab=>h (by simp[Dt];exact .inr Ab))
  subst e;rcases OK Ag a EP with h|h
  · rcases Aq a h with h|h
    · exact Ao.2.2 a AK a (FW.2 ⟨p,AA' Ag,h⟩) rfl
    exact h (by simp[Dt,AK])
  exact Ao.2.2 a AK a h rfl
theorem CI.KB{BW w AT:World}{M:List Nat}{L:Own}{p p':C4}(i:Nat)(Ag:L[i]? =some p)(h:CI BW M w L)(hs:C8 p.nd w AT)
 (AH:p'.holds (Et (Own.nd (L.set i p')) AT) AT)(Ao:p'.nd.Nodup)(Aq:∀b∈p'.nd,b∈p.nd\/w.heap.size<=b):CI BW M AT (L.set i p'):=by
 have Sf:∀b∈p.nd,b∈L.nd:=fun b Ab=>FW.2 ⟨p,AA' Ag,Ab⟩;have Lc:∀b,Et L.nd w b->Et (Own.nd (L.set i p')) AT b:=fun b Ab=>⟨ACp Ab.1 hs.size,fun Bf=>by
  rcases OK Ag b Bf with Af|Af
  · rcases Aq b Af with h2|h2
    · exact Ab.2 (Sf b h2)
    have:=Ab.1;omega
  exact Ab.2 Af⟩
 refine⟨h.Ln.mc hs (fun b Ab=>h.new b (Sf b Ab)),?_,?_,?_⟩
 · intro q B';obtain⟨j,Ay⟩:=ADc B';by_cases GQ:i=j
   · subst GQ;have C_:i<L.length:=(ABF.1 Ag).1;rw[ACP C_]at Ay;injection Ay with Ay;subst Ay;exact AH
   rw[ACT GQ]at Ay;have p3:=AA' Ay;refine q.DY (h.own q p3) Lc (fun b Ab=>hs.block b ?_ ?_)
   · rcases Ab with Ab|Ab
     · exact Ab.1
     exact h.lt b (FW.2 ⟨q,p3,Ab⟩)
   rcases Ab with Ab|Ab
   · exact fun Bf=>Ab.2 (Sf b Bf)
   exact fun Bf=>XX Ag Ay GQ h.AGm b Bf Ab
 · exact kg Ag h.AGm Ao (fun b Ab=>(Aq b Ab).imp id (fun Af h2=>by have:=h.lt b h2;omega))
 intro b Ab;rcases OK Ag b Ab with Af|Af
 · rcases Aq b Af with h2|h2
   · exact h.new b (Sf b h2)
   exact .inr (ABB h.Ln.size h2)
 exact h.new b Af
where
 XX {L:Own} {i j:Nat} {p q:C4} (Ag:L[i]? =some p) (Ay:L[j]? =some q) (GQ:i≠j) (Ao:L.nd.Nodup):∀b∈p.nd,b∉q.nd:=by
  intro b Af h2;induction L generalizing i j with
  |nil=>simp at Ag
  |cons x r Cg=>
   simp only[Own.nd,Dt,ACv]at Ao;cases i with
   |zero=>
    cases j with
    |zero=>exact GQ rfl
    |succ j=>
     simp at Ag Ay;subst Ag;exact Ao.2.2 b Af b (FW.2 ⟨q,AA' Ay,h2⟩) rfl
   |succ i=>
    cases j with
    |zero=>
     simp at Ag Ay;subst Ay;exact Ao.2.2 b h2 b (FW.2 ⟨p,AA' Ag,Af⟩) rfl
    |succ j=>
     simp at Ag Ay;exact Cg Ag Ay AMT Ao.2.1
theorem BP.KB{D:List Atom}{w AT:World}{L:Own}{p p':C4}(i:Nat)(Ag:L[i]? =some p)(AJ:BP D w L)(hs:C8 p.nd w AT)(Aq:∀b∈p'.nd,b∈p.nd\/w.heap.size<=b):BP D AT (L.set i p'):=
 AJ.Zo (hs.mono fun b Ab=>FW.2 ⟨p,AA' Ag,Ab⟩) fun b h=>by
  rcases OK Ag b h with Af|Af
  · exact(Aq b Af).imp (fun Ab=>FW.2 ⟨p,AA' Ag,Ab⟩) id
  exact .inl Af
theorem CI.drop{BW w:World}{M:List Nat}{p:C4}{L:Own}(h:CI BW M w (p::L)):CI BW M w L:=by
 have Ao:=h.AGm;simp only[Own.nd,Dt,ACv]at Ao;refine⟨h.Ln,fun q B'=>q.DY (h.own q (ABR _ B')) (fun b Aq=>⟨Aq.1,fun Ab=>Aq.2 (by simp[Dt];exact .inr Ab)⟩) (fun _ _=>rfl),Ao.2.1,fun b Aq=>h.new b (by simp[Dt];exact .inr Aq)⟩
theorem BP.drop{D:List Atom}{w:World}{p:C4}{L:Own}(AJ:BP D w (p::L)):BP D w L:=fun t Av=>
 t.DY (AJ t Av) (fun b Aq=>⟨Aq.1,fun h=>Aq.2 (by simp[Dt];exact .inr h)⟩) (fun _ _=>rfl)
theorem CI.freeze{BW w:World}{M:List Nat}{p:C4}{L:Own}{t:Atom}(h:CI BW M w (p::L))(Av:∀S,(∀b∈p.nd,S b)->(∀b,Et (Own.nd (p::L)) w b->S b)->p.holds (Et (Own.nd (p::L)) w) w->t.holds S w):t.holds (Et L.nd w) w:=by
 have Ao:=h.AGm;simp only[Own.nd,Dt,ACv]at Ao;refine Av _ (fun b Aq=>⟨h.lt b (by simp[Dt,Aq]),fun Ab=>Ao.2.2 b Aq b Ab rfl⟩) (fun b Aq=>⟨Aq.1,fun Ab=>Aq.2 (by simp[Dt];exact .inr Ab)⟩) (h.own p (ABx ..))
structure Cj where
 P:Program
 n:Nat
 BW:World
 M:List Nat
def Cb(Q:AuE)(c:Cj)(ops:Array Oper)(l:List Oper)(env:Env)(L:Own)(D:List Atom):Prop:=
 ∀a w,Fr c.n a env->CI c.BW c.M w L->BP D w L->wpList c.P ops Q l a w
def CF(c:Cj)(x:Code)(Q:AuE)(env:Env)(L:Own)(D:List Atom):Prop:=
 ∀a w,Fr c.n a env->CI c.BW c.M w L->BP D w L->Code.wp c.P x Q a w
def Eg(c:Cj)(Q:AuE)(e:Exit)(env:Env)(L:Own)(D:List Atom):Prop:=
 ∀a w,Fr c.n a env->CI c.BW c.M w L->BP D w L->Q e a w
section
variable{c:Cj} {ops:Array Oper} {Q Q':AuE} {env env':Env} {L L':Own} {D Dd:List Atom} {x y:Code} {rest:List Oper}
theorem Am(h:CF c x (Exit.then (Code.wp c.P y Q) Q) env L D):CF c (.seq x y) Q env L D:=fun a w f s d=>wp_seq (h a w f s d)
theorem A5(h:CF c y Q env L D):Eg c (Exit.then (Code.wp c.P y Q) Q') .normal env L D:=h
theorem rg{id:Nat}{l:List Oper}(h:Cb Q c l.toArray l env L D):CF c (.region id l.toArray false) Q env L D:=fun a w f s d=>wp_region_lit (h a w f s d)
theorem nl(h:Eg c Q .normal env L D):Cb Q c ops [] env L D:=fun a w f s d=>wpList_nil (h a w f s d)
theorem B5{id:Nat}(h:CF c x (Exit.inBlock id Q) env L D):CF c (.block id x) Q env L D:=fun a w f s d=>wp_block (h a w f s d)
theorem ex{id:Nat}(h:Eg c Q (.exit id) env L D):CF c (.exit id) Q env L D:=fun a w f s d=>wp_exit (h a w f s d)
theorem rt(h:Eg c Q .ret env L D):CF c .ret Q env L D:=fun a w f s d=>wp_ret (h a w f s d)
theorem EG(h:Eg c Q .normal env L D):CF c .skip Q env L D:=fun a w f s d=>wp_skip (h a w f s d)
theorem Cd{K:Act->World->Prop}(h:Eg c Q .ret env L D):Eg c (Exit.then K Q) .ret env L D:=h
theorem Ck{K:Act->World->Prop}{id:Nat}(h:Eg c Q (.exit id) env L D):Eg c (Exit.then K Q) (.exit id) env L D:=h
theorem C9{id:Nat}(h:Eg c Q .ret env L D):Eg c (Exit.inBlock id Q) .ret env L D:=h
theorem CU{id:Nat}(h:Eg c Q .normal env L D):Eg c (Exit.inBlock id Q) .normal env L D:=h
theorem D7{id:Nat}(h:Eg c Q .normal env L D):Eg c (Exit.inBlock id Q) (.exit id) env L D:=fun a w f s d=>by
 simp only[Exit.inBlock,if_true];exact h a w f s d
theorem ALr{p:C4}(h:CF c x Q env L D):CF c x Q env (p::L) D:=fun a w f s d=>h a w f s.drop d.drop
theorem AQ{e:Exit}{p:C4}(h:Eg c Q e env L D):Eg c Q e env (p::L) D:=fun a w f s d=>h a w f s.drop d.drop
theorem BN{o:Operand}{t:Bool}(Bm:AL env o=some (.bool t))(Af:t=true->CF c x Q env L D)(h2:t=false->CF c y Q env L D):CF c (.cond o x y) Q env L D:=
 fun a w f s d=>wp_cond_split (f.AL Bm) (fun h=>Af h a w f s d) (fun h=>h2 h a w f s d)
theorem Mv{o:Operand}(Bm:AL env o=some (.bool true))(Af:CF c x Q env L D):CF c (.cond o x y) Q env L D:=
 fun a w f s d=>wp_cond_true (f.AL Bm) (Af a w f s d)
theorem LW{o:Operand}(Bm:AL env o=some (.bool false))(Af:CF c y Q env L D):CF c (.cond o x y) Q env L D:=
 fun a w f s d=>wp_cond_false (f.AL Bm) (Af a w f s d)
theorem B9{o:Operand}{p:Prop}[Decidable p](Bm:AL env o=some (.bool (decide p)))(Af:p->CF c x Q env L D)(h2:¬p->CF c y Q env L D):CF c (.cond o x y) Q env L D:=
 BN Bm (fun h=>Af (ABA h)) (fun h=>h2 (ACe h))
theorem Fa{o:Operand}{p:Prop}[Decidable p](Bm:AL env o=some (.bool (!decide p)))(Af:¬p->CF c x Q env L D)(h2:p->CF c y Q env L D):CF c (.cond o x y) Q env L D:=
 BN Bm (fun h=>Af (by simpa using h)) (fun h=>h2 (by simpa using h))
def dk(c:Cj){σ:Type}(E:σ->Env)(LL:σ->Own)(DD:σ->List Atom)(I:σ->Prop)(N_:σ->Nat)(s:σ):Act->World->Prop:=
 fun a w=>∃DR,I DR/\N_ DR<N_ s/\Fr c.n a (E DR)/\CI c.BW c.M w (LL DR)/\BP (DD DR) w (LL DR)
theorem j9{σ:Type}(E:σ->Env)(LL:σ->Own)(DD:σ->List Atom)(I:σ->Prop)(N_:σ->Nat)(B3:σ)(AU:I B3)
 (Ge:Sub (E B3) env)(Dv:LL B3=L)(DK:Bg (DD B3) D)
 (body:∀s,I s->CF c x (Exit.then (dk c E LL DD I N_ s) Q) (E s) (LL s) (DD s)):CF c (.loop x) Q env L D:=by
 intro a w f st d;subst Dv
 -- the measure has to be read off the frame and the world: it is chosen
 have key:∀(m:Nat) (s:σ),N_ s=m->I s->∀a w,Fr c.n a (E s)->CI c.BW c.M w (LL s)->BP (DD s) w (LL s)->
  ∀(b:Frame) (k:List Item) (cs:List Frame),∃e Dx AT,Q e Dx AT/\Arrives c.P (lone (b.at a (.code x::.inLoop x::k)) cs w) b k cs e Dx AT:=by
  intro m;induction m using Nat.strongRecOn with
  |_ m Cg=>
   intro s hm AU a w f st d b k cs;obtain⟨e,XS,Zy,B',UY⟩:=body s AU a w f st d b (.inLoop x::k) cs;cases e with
   |normal=>
    obtain⟨DR,AaW,C_,Jq,Kz,RQ⟩:=B';obtain⟨zz,xi,Alr,Ab_,Abs⟩:=Cg (N_ DR) (hm▸C_) DR rfl AaW XS Zy Jq Kz RQ b k cs;exact⟨zz,xi,Alr,Ab_,.of_steps (Steps.trans UY (.one step_inLoop)) Abs⟩
   |exit id=>exact⟨_,XS,Zy,B',.pass (x:=.inLoop x) rfl (fun _ _=>.inl (by simp)) UY⟩
   |goto l=>exact⟨_,XS,Zy,B',.pass (x:=.inLoop x) rfl (fun _ _=>.inl (by simp)) UY⟩
   |ret=>exact⟨_,XS,Zy,B',.pass (x:=.inLoop x) rfl (fun _ _=>.inl (by simp)) UY⟩
   |panic XZ=>exact⟨_,XS,Zy,B',.pass (x:=.inLoop x) rfl (fun _ _=>.inl (by simp)) UY⟩
   |outgrown=>exact⟨_,XS,Zy,B',.pass (x:=.inLoop x) rfl (fun _ _=>.inl (by simp)) UY⟩
 intro b k cs;obtain⟨e,Dx,AT,B',UY⟩:=key _ B3 rfl AU a w (f.sub Ge) st (d.sub DK) b k cs;exact⟨e,Dx,AT,B',.of_steps (.one step_loop) UY⟩
theorem Dy{σ:Type}{E:σ->Env}{LL:σ->Own}{DD:σ->List Atom}{I:σ->Prop}{N_:σ->Nat}{s:σ}(DR:σ)(AU:I DR)(AcA:N_ DR<N_ s)
 (Ge:Sub (E DR) env)(Dv:LL DR=L)(DK:Bg (DD DR) D):Eg c (Exit.then (dk c E LL DD I N_ s) Q) .normal env L D:=by
 intro a w f st d;subst Dv;exact⟨DR,AU,AcA,f.sub Ge,st,d.sub DK⟩
def gX(c:Cj){σ:Type}(E:σ->Env)(LL:σ->Own)(DD:σ->List Atom)(I:σ->Prop):Act->World->Prop:=
 fun a w=>∃DR,I DR/\Fr c.n a (E DR)/\CI c.BW c.M w (LL DR)/\BP (DD DR) w (LL DR)
theorem AcY{σ:Type}(E:σ->Env)(LL:σ->Own)(DD:σ->List Atom)(I:σ->Prop)
 (Af:CF c x (Exit.then (gX c E LL DD I) Q) env L D)(h2:∀s,I s->Eg c Q .normal (E s) (LL s) (DD s)):CF c x Q env L D:=by
 intro a w f st d;refine wp_mono (Af a w f st d) ?_;intro e Dx AT B';cases e with
 |normal=>obtain⟨s,AU,Jq,Kz,RQ⟩:=B';exact h2 s AU Dx AT Jq Kz RQ
 |_=>exact B'
theorem e9{σ:Type}{E:σ->Env}{LL:σ->Own}{DD:σ->List Atom}{I:σ->Prop}(DR:σ)(AU:I DR)
 (Ge:Sub (E DR) env)(Dv:LL DR=L)(DK:Bg (DD DR) D):Eg c (Exit.then (gX c E LL DD I) Q) .normal env L D:=by
 intro a w f st d;subst Dv;exact⟨DR,AU,f.sub Ge,st,d.sub DK⟩
end
def QK(P:Program)(f:FuncId)(args:List Value)(w:World)(LR:Value->World->Prop):Prop:=
 Calls P f args.toArray w fun e AT=>∃v,e=.returned v/\LR v AT
theorem QK.mono{P:Program}{f:FuncId}{args:List Value}{w:World}{LR vz:Value->World->Prop}(h:QK P f args w LR)(hm:∀v AT,LR v AT->vz v AT):QK P f args w vz:=
 Calls.mono h fun _ AT ⟨v,he,BC⟩=>⟨v,he,hm v AT BC⟩
def ax:Nat->List Value->Env
 |_,[]=>[]
 |i,v::r=>(i,v)::ax (i+1) r
theorem rb:∀(l:List Value) (i j:Nat) (v:Value),C1 (ax i l) j=some v->i<=j/\l[j-i]? =some v
 |[],_,_,_,h=>by cases h
 |u::r,i,j,v,h=>by
  simp only[ax,C1]at h;by_cases GQ:i=j
  · subst GQ;simp at h;subst h;simp
  have:(i==j)=false:=(by simpa using GQ);rw[this]at h;have:=rb r (i+1) j v h;refine⟨AMT,?_⟩;rw[show j-i=(j-(i+1))+1 by omega];simpa using this.2
theorem enter{P:Program}{f:FuncId}{fn:Func}{x:Code}{args:List Value}{w:World}{LR:Value->World->Prop}(M:List Nat)(L:Own)(D:List Atom)
 (BI:P.funcs[f]? =some fn)(Aq:fn.body=some x)(n:Nat)(Ao:n=fn.ntmps)(eI:args.length<=n)(Gg:CI w M w L)(AJ:BP D w L)
 (h:CF ⟨P,n,w,M⟩ x (bodyPost P fn fun e AT=>∃v,e=.returned v/\LR v AT) (ax 0 args) L D):QK P f args w LR:=by
 subst Ao;refine calls_of_wp BI Aq (h _ w ⟨?_,rfl,?_⟩ Gg AJ)
 · simp;omega
 intro i v Ag;obtain⟨_,Ag⟩:=rb args 0 i v Ag;have:i<args.length:=(ABF.1 Ag).1;simp only[Nat.sub_zero]at Ag;rw[Array.getElem?_append_left (by simpa using this)];simpa using Ag
section
variable{c:Cj} {env:Env} {L:Own} {D:List Atom} {fn:Func} {LR:Value->World->Prop}
theorem Aiy{t:Nat}{v:Value}(Bh:fn.results= #[.tmp t])(BC:C1 env t=some v)
 (h:∀w,CI c.BW c.M w L->BP D w L->LR v w):Eg c (bodyPost c.P fn fun e AT=>∃v,e=.returned v/\LR v AT) .ret env L D:=by
 intro a w f st d;refine bodyPost_ret (results_tmp Bh _ _ _) f.GV ⟨_,rfl,?_⟩;have:=f.at_ t v BC;simpa[this]using h w st d
theorem Aiz{t u:Nat}{v1 v2:Value}(Bh:fn.results= #[.tmp t,.tmp u])(Af:C1 env t=some v1)(h2:C1 env u=some v2)
 (h:∀w,CI c.BW c.M w L->BP D w L->LR (.tuple #[v1,v2]) w):Eg c (bodyPost c.P fn fun e AT=>∃v,e=.returned v/\LR v AT) .ret env L D:=by
 intro a w f st d;refine bodyPost_ret (results_tmp2 Bh _ _ _) f.GV ⟨_,rfl,?_⟩;have B4:=f.at_ t v1 Af;have DC:=f.at_ u v2 h2;simpa[B4,DC]using h w st d
theorem AiA{t u s:Nat}{v1 v2 Ph:Value}(Bh:fn.results= #[.tmp t,.tmp u,.tmp s])(Af:C1 env t=some v1)(h2:C1 env u=some v2)(Bo:C1 env s=some Ph)
 (h:∀w,CI c.BW c.M w L->BP D w L->LR (.tuple #[v1,v2,Ph]) w):Eg c (bodyPost c.P fn fun e AT=>∃v,e=.returned v/\LR v AT) .ret env L D:=by
 intro a w f st d;refine bodyPost_ret (results_tmp3 Bh _ _ _) f.GV ⟨_,rfl,?_⟩;have B4:=f.at_ t v1 Af;have DC:=f.at_ u v2 h2;have Kk:=f.at_ s Ph Bo;simpa[B4,DC,Kk]using h w st d
theorem Aix(Bh:fn.results= #[])
 (h:∀w,CI c.BW c.M w L->BP D w L->LR (.tuple #[]) w):Eg c (bodyPost c.P fn fun e AT=>∃v,e=.returned v/\LR v AT) .normal env L D:=by
 intro a w f st d;exact bodyPost_end (results_none Bh _ _ _) f.GV ⟨_,rfl,h w st d⟩
theorem Aiw(Bh:fn.results= #[])
 (h:∀w,CI c.BW c.M w L->BP D w L->LR (.tuple #[]) w):Eg c (bodyPost c.P fn fun e AT=>∃v,e=.returned v/\LR v AT) .ret env L D:=by
 intro a w f st d;exact bodyPost_ret (results_none Bh _ _ _) f.GV ⟨_,rfl,h w st d⟩
end
end
section
def A'(x:Int):Prop:= -9223372036854775808<=x/\x<=9223372036854775807
@[reducible] def Be.cell{α:Type}(f:α->Value)(wf:α->Prop)(Af:∀x,(f x).oneCell'=true:=by intro x;rfl):Be α where
 size:=1
 agg:=false
 rd _ _ cs x:=cs=[f x]/\wf x
 len h:=by rw[h.1];rfl
 one h:=by rw[h.1];intro u hu;simp at hu;rw[hu];exact Af _
 DY h _ _:=h
instance E_:Be Int:=Be.cell (fun x=>.int .i64 x) A'
instance cr:Be Bool:=Be.cell (fun x=>.bool x) (fun _=>True)
instance Rv:Be UInt8:=Be.cell (fun x=>.int .u8 (x.toNat:Int)) (fun _=>True)
instance Nl:Be ByteArray:=Be.cell (fun x=>.string x) (fun x=>x.size<=9223372036854775807)
instance Aov:Be UInt64:=Be.cell (fun x=>.int .u64 (x.toNat:Int)) (fun _=>True)
instance Aou:Be UInt32:=Be.cell (fun x=>.int .u32 (x.toNat:Int)) (fun _=>True)
class Vz {α:Type} (r:Be α) where
 g:α->Value
 wf:α->Prop
 h:∀{S w cs x},r.rd S w cs x->cs=[g x]/\wf x
@[reducible] instance AmM:Vz E_:=⟨fun x=>.int .i64 x,A',fun h=>h⟩
@[reducible] instance AmK:Vz cr:=⟨fun x=>.bool x,fun _=>True,fun h=>h⟩
@[reducible] instance AmL:Vz Rv:=⟨fun x=>.int .u8 (x.toNat:Int),fun _=>True,fun h=>h⟩
@[reducible] instance AmO:Vz Nl:=⟨fun x=>.string x,fun x=>x.size<=9223372036854775807,fun h=>h⟩
def Lt(w:World)(b o:Nat)(cs:List Value):Prop:=∀j u,cs[j]? =some u->w.cell? ⟨b,o+j,none⟩=some u
theorem Lt.DY{w AT:World}{b o:Nat}{cs:List Value}(h:Lt w b o cs)(hw:AT.heap[b]? =w.heap[b]?):Lt AT b o cs:=
 fun j u hu=>(World.cell?_of_block (w:=w) (a:=⟨b,o+j,none⟩) hw).trans (h j u hu)
def cp{α:Type}[Be α](S:Nat->Prop)(w:World)(cs:List Value)(xs:List α):Prop:=
 ∃A c,cs=[.slice A xs.length c]/\xs.length<=c/\c<=9223372036854775807/\xs.length<=9223372036854775807/\
  (xs≠[]->∃b o,A=some ⟨b,o,none⟩/\S b/\∀i x,xs[i]? =some x->∃Cx,Be.rd S w Cx x/\Lt w b (o+i*Be.size α) Cx)
instance FI {α:Type} [Be α]:Be (List α) where
 size:=1
 agg:=false
 rd:=cp
 len:=by rintro S w cs x ⟨A,c,rfl,_⟩;rfl
 one:=by rintro S w cs x ⟨A,c,rfl,_⟩ u hu;simp at hu;rw[hu];rfl
 DY:=by
  rintro S Fq w AT cs xs ⟨A,c,rfl,Af,h2,Bo,BB⟩ hs hw;refine⟨A,c,rfl,Af,h2,Bo,fun Ab=>?_⟩;obtain⟨b,o,Cl,Aq,Ag⟩:=BB Ab;refine⟨b,o,Cl,hs b Aq,fun i x Ab=>?_⟩;obtain⟨Cx,AJ,AN⟩:=Ag i x Ab;exact⟨Cx,Be.DY AJ hs hw,AN.DY (hw b Aq)⟩
structure Shape (α:Type) where
 H:Type
 size:Nat
 cells:α->H->List Value
 sub:α->H->List Atom
 wf:α->Prop
 len:∀x h,(cells x h).length=size
 one:∀{S w} x h,(∀t∈sub x h,t.holds S w)->∀u∈cells x h,u.oneCell'=true
@[reducible] def Be.D5{α:Type}(s:Shape α):Be α where
 size:=s.size
 agg:=true
 rd S w cs x:=∃h,cs=s.cells x h/\(∀t∈s.sub x h,t.holds S w)/\s.wf x
 len:=by rintro S w cs x ⟨h,rfl,_⟩;exact s.len x h
 one:=by rintro S w cs x ⟨h,rfl,Af,_⟩;exact s.one x h Af
 DY:=by
  rintro S Fq w AT cs x ⟨h,rfl,Af,h2⟩ hs hw;exact⟨h,rfl,fun t Av=>Atom.DY (Af t Av) hs hw,h2⟩
structure Cq (α:Type) where
 x:α
instance F9 {α:Type} [Be α]:Be (Cq α) where
 size:=1
 agg:=false
 rd S w cs p:=∃b o Cx,cs=[.pointer (some ⟨b,o,none⟩)]/\S b/\Be.rd S w Cx p.x/\Lt w b o Cx
 len:=by rintro S w cs x ⟨b,o,Cx,rfl,_⟩;rfl
 one:=by rintro S w cs x ⟨b,o,Cx,rfl,_⟩ u hu;simp at hu;rw[hu];rfl
 DY:=by
  rintro S Fq w AT cs p ⟨b,o,Cx,rfl,Af,h2,Bo⟩ hs hw;exact⟨b,o,Cx,rfl,hs b Af,Be.DY h2 hs hw,Bo.DY (hw b Af)⟩
@[reducible] def AO(b:Nat)(T:TypeId)(cs:List Value):C4 where
 nd:=[b]
 ty:=T
 cs:=cs
 holds _ w:=w.heap[b]? =some (.cells cs.toArray T (0,0))
 valid h KZ Aq:=by simp at Aq;subst Aq;exact TD h
 DY h _ hw:=(hw b (.inr (by simp))).trans h
def HM{α:Type}[Be α](S:Nat->Prop)(w:World):List (List Value)->List α->Prop
 |[],[]=>True
 |c::cs,x::xs=>Be.rd S w c x/\HM S w cs xs
 |_,_=>False
theorem HM.len{α:Type}[Be α]{S:Nat->Prop}{w:World}:∀{Cy:List (List Value)} {xs:List α},HM S w Cy xs->Cy.flatten.length=xs.length*Be.size α
 |[],[],_=>by simp
 |c::cs,_::xs,h=>by
  have Af:=Be.len h.1;have h2:=HM.len h.2;rw[List.flatten_cons,List.length_append,Af,h2,List.length_cons,ACX];omega
 |[],_::_,h=>h.elim
 |_::_,[],h=>h.elim
theorem HM.one{α:Type}[Be α]{S:Nat->Prop}{w:World}:∀{Cy:List (List Value)} {xs:List α},HM S w Cy xs->∀u∈Cy.flatten,u.oneCell'=true
 |[],[],_,u,hu=>by simp at hu
 |c::cs,_::xs,h,u,hu=>by
  rw[List.flatten_cons]at hu;rcases ABm.1 hu with hu|hu
  · exact Be.one h.1 u hu
  exact HM.one h.2 u hu
 |[],_::_,h,_,_=>h.elim
 |_::_,[],h,_,_=>h.elim
theorem HM.app{α:Type}[Be α]{S:Nat->Prop}{w:World}:∀{Cy dss:List (List Value)} {xs ys:List α},HM S w Cy xs->HM S w dss ys->HM S w (Cy++dss) (xs++ys)
 |[],_,[],_,_,h=>h
 |_::_,_,_::_,_,h,DI=>⟨h.1,HM.app h.2 DI⟩
 |[],_,_::_,_,h,_=>h.elim
 |_::_,_,[],_,h,_=>h.elim
theorem HM.DY{α:Type}[Be α]{S Fq:Nat->Prop}{w AT:World}:∀{Cy:List (List Value)} {xs:List α},HM S w Cy xs->(∀b,S b->Fq b)->(∀b,S b->AT.heap[b]? =w.heap[b]?)->HM Fq AT Cy xs
 |[],[],_,_,_=>trivial
 |_::_,_::_,h,hs,hw=>⟨Be.DY h.1 hs hw,HM.DY h.2 hs hw⟩
 |[],_::_,h,_,_=>h.elim
 |_::_,[],h,_,_=>h.elim
@[reducible] def CL(X:List Nat)(BW:World):C4 where
 nd:=X
 holds _ w:=(∀b∈X,w.heap[b]? =BW.heap[b]?)/\(∀b∈X,b<w.heap.size)
 valid h:=h.2
 DY:=by
  intro S Fq w AT h _ hw;have e:∀b∈X,AT.heap[b]? =w.heap[b]? :=fun b Aq=>hw b (.inr Aq);refine⟨fun b Aq=>(e b Aq).trans (h.1 b Aq),fun b Aq=>?_⟩;have Af:=e b Aq;rw[Array.getElem?_eq_getElem (h.2 b Aq)]at Af;exact(AC_.1 Af).1
theorem AfV{v:Value}{w:World}{e:TypeId}{size n:Nat}{xs:List Value}(h:w.ownsRow 0 e size v n xs):∀b∈v.ownBlock.toList,b<w.heap.size:=by
 intro b Aq;have:v.ownBlock=some b:=by simpa using Aq
 exact(World.ownsRow.lt h b this).2
@[reducible] def row{α:Type}[Be α](e:TypeId)(v:Value)(xs:List α):C4 where
 nd:=v.ownBlock.toList
 holds S w:=∃Cy,w.ownsRow 0 e (Be.size α) v xs.length Cy.flatten/\HM S w Cy xs/\xs.length<=140737488355328
 valid:=by rintro S w ⟨Cy,h,_⟩;exact AfV h
 DY:=by
  rintro S Fq w AT ⟨Cy,Af,h2,Bo⟩ hs hw;refine⟨Cy,⟨Af.1,?_⟩,h2.DY hs (fun b Aq=>hw b (.inl Aq)),Bo⟩;rcases Af.2 with Ao|⟨g,cap,cur,rfl,Aq,CK,rest⟩
  · exact .inl Ao
  exact .inr ⟨g,cap,cur,rfl,Aq,(hw g (.inr (by simp[Value.ownBlock]))).trans CK,rest⟩
class Ip (J:Cj->Array Oper->List Oper->Env->Own->List Atom->Prop):Prop where
 read:∀{c:Cj} {ops:Array Oper} {env:Env} {L:Own} {D:List Atom} {rest:List Oper} {o:Oper} {dst:Option Tmp} {σ:Type},o.guard=none->o.dst=dst->∀(env':σ->Env) (Dd:σ->List Atom),
  (∀a w,Fr c.n a env->CI c.BW c.M w L->BP D w L->∃s u,(∀AT,C8 [] w AT->(execOp a.eval o).run c.P AT=.ok (.value u) AT)/\Fr c.n (a.put dst u) (env' s)/\BP (Dd s) w L)->
  (∀s,J c ops rest (env' s) L (Dd s))->J c ops (o::rest) env L D
 gI:∀{c:Cj} {ops:Array Oper} {env:Env} {L:Own} {D:List Atom} {rest:List Oper} {dst:Option Tmp} {op:Op} {t:TypeId} {p:String} {af:Array Edge} {g:Option (Nat×Bool)},
  (∀a w,Fr c.n a env->CI c.BW c.M w L->BP D w L->Region.wanted ⟨dst,op,t,p,af,g⟩ (yielded ops a.tmps)=true)->J c ops (⟨dst,op,t,p,af,none⟩::rest) env L D->J c ops (⟨dst,op,t,p,af,g⟩::rest) env L D
 c4:∀{c:Cj} {ops:Array Oper} {env env':Env} {L:Own} {D:List Atom} {rest:List Oper} {o:Oper},
  (∀a w,Fr c.n a env->CI c.BW c.M w L->BP D w L->Region.wanted o (yielded ops a.tmps)=false/\Fr c.n (a.put o.dst undef) env')->J c ops rest env' L D->J c ops (o::rest) env L D
 mono:∀{c:Cj} {ops:Array Oper} {env env':Env} {L:Own} {D Dd:List Atom} {l:List Oper},(∀a w,Fr c.n a env->CI c.BW c.M w L->BP D w L->Fr c.n a env'/\BP Dd w L)->J c ops l env' L Dd->J c ops l env L D
 fact:∀{c:Cj} {ops:Array Oper} {env:Env} {L:Own} {D:List Atom} {l:List Oper} {q:Prop},(∀a w,Fr c.n a env->CI c.BW c.M w L->BP D w L->q)->(q->J c ops l env L D)->J c ops l env L D
instance AcT (Q:AuE):Ip (Cb Q) where
 read:=by
  intro c ops env L D rest o dst σ CK AJ env' Dd Ek k a w f st AR;refine wpList_plain CK fun K Je=>?_;obtain⟨s,u,Bh,Jq,KI⟩:=Ek a w f st AR;unfold Oper.wp;rw[Bh w (C8.refl _ _)];simp only[Oper.upon,AJ];exact Je _ _ (k s _ _ Jq st KI)
 gI:=by
  intro c ops env L D rest dst op t p af g hw k a w f st AR;have:=k a w f st AR;unfold wpList at this ⊢;rw[AA_ (hw a w f st AR)];rw[AA_ (show Region.wanted ⟨dst,op,t,p,af,none⟩ (yielded ops a.tmps)=true from rfl)]at this;exact this
 c4:=by
  intro c ops env env' L D rest o hw k a w f st AR;obtain⟨Af,h2⟩:=hw a w f st AR;unfold wpList;rw[Af];simp only[ADJ,if_false];exact k _ _ h2 st AR
 mono:=by
  intro c ops env env' L D Dd l h k a w f st AR;obtain⟨Af,h2⟩:=h a w f st AR;exact k a w Af st h2
 fact:=by
  intro c ops env L D l q h k a w f st AR;exact k (h a w f st AR) a w f st AR
theorem Uf{n:Int}(h:A' n):IntKind.i64.wrap n=n:=by
 rw[IntKind.wrap_i64];unfold A' at h;omega
section
variable{c:Cj} {ops:Array Oper} {J:Cj->Array Oper->List Oper->Env->Own->List Atom->Prop} [Dr:Ip J] {env:Env} {L:Own} {D:List Atom} {rest:List Oper} {d:Nat} {v:Value} {t:TypeId} {p:String} {af:Array Edge}
include Dr
theorem pu{o:Oper}(CK:o.guard=none)(AJ:o.dst=some d)(Ao:Nat.blt d c.n=true)(Ek:∀a w,Fr c.n a env->(execOp a.eval o).run c.P w=.ok (.value v) w)
 (k:J c ops rest ((d,v)::env) L D):J c ops (o::rest) env L D:=
 Dr.read (σ:=Unit) CK AJ (fun _=>(d,v)::env) (fun _=>D) (fun a _ f _ AR=>⟨(),v,fun AT _=>Ek a AT f,f.put v (EU Ao),AR⟩) (fun _=>k)
theorem Bl{NV:Oper}{j V1:Nat}{b:Bool}(Ay:ops[j]? =some NV)(U0:NV.dst=some V1)(Aq:C1 env V1=some (.bool b)){op:Op}{dst:Option Tmp}
 (k:J c ops (⟨dst,op,t,p,af,none⟩::rest) env L D):J c ops (⟨dst,op,t,p,af,some (j,b)⟩::rest) env L D:=
 Dr.gI (fun a w f st AR=>by
  have:=f.at_ _ _ Aq;simp[Region.wanted,yielded,Ay,U0,this]) k
theorem G2{NV:Oper}{j V1:Nat}{b KZ:Bool}(Ay:ops[j]? =some NV)(U0:NV.dst=some V1)(Aq:C1 env V1=some (.bool KZ))(P_:(KZ==b)=false){op:Op}(Ao:Nat.blt d c.n=true)
 (k:J c ops rest ((d,undef)::env) L D):J c ops (⟨some d,op,t,p,af,some (j,b)⟩::rest) env L D:=
 Dr.c4 (fun a w f st AR=>by
  have:=f.at_ _ _ Aq;have FG:¬KZ=b:=(by simpa using P_);exact⟨by simp[Region.wanted,yielded,Ay,U0,this,FG],f.put undef (EU Ao)⟩) k
theorem An{x:Operand}(BC:AL env x=some v)(Ao:Nat.blt d c.n=true)(k:J c ops rest ((d,v)::env) L D):J c ops (⟨some d,.move x,t,p,af,none⟩::rest) env L D:=
 pu rfl rfl Ao (fun a w f=>by simp[execOp,f.AL BC]) k
theorem VQ{x:Operand}(BC:AL env x=some v)(Ao:Nat.blt d c.n=true)(k:J c ops rest ((d,v)::env) L D):J c ops (⟨some d,.assign x,t,p,af,none⟩::rest) env L D:=
 pu rfl rfl Ao (fun a w f=>by simp[execOp,f.AL BC]) k
theorem Ahk{x y z:Operand}(Ab:AL env x=some (.bool true))(BC:AL env y=some v)(Ao:Nat.blt d c.n=true)(k:J c ops rest ((d,v)::env) L D):J c ops (⟨some d,.pick x y z,t,p,af,none⟩::rest) env L D:=
 pu rfl rfl Ao (fun a w f=>by simp[execOp,f.AL Ab,f.AL BC,asBool]) k
theorem Ahj{x y z:Operand}(Ab:AL env x=some (.bool false))(BC:AL env z=some v)(Ao:Nat.blt d c.n=true)(k:J c ops rest ((d,v)::env) L D):J c ops (⟨some d,.pick x y z,t,p,af,none⟩::rest) env L D:=
 pu rfl rfl Ao (fun a w f=>by simp[execOp,f.AL Ab,f.AL BC,asBool]) k
theorem Ec{x:Operand}{vs:Array Value}{i:Nat}(Ab:AL env x=some (.tuple vs))(BC:vs[i]? =some v)(Ao:Nat.blt d c.n=true)(k:J c ops rest ((d,v)::env) L D):J c ops (⟨some d,.extract x i,t,p,af,none⟩::rest) env L D:=
 pu rfl rfl Ao (fun a w f=>by simp[execOp,f.AL Ab,Instr.extract,BC]) k
theorem Nd{fn:Fn}{xs:List Operand}{vs:List Value}(Ab:Gq env xs=some vs)(Ao:Nat.blt d c.n=true)(k:J c ops rest ((d,.func fn #[] vs.toArray)::env) L D):J c ops (⟨some d,.makeFunc fn #[] xs.toArray,t,p,af,none⟩::rest) env L D:=
 pu rfl rfl Ao (fun a w f=>by simp[execOp,Instr.makeFunc,f.Gq Ab]) k
variable{x y:Operand} {q:IntKind} {m n:Int} {Ec FK:TypeId}
theorem C5(Ab:AL env x=some (.int .i64 m))(Bf:AL env y=some (.int .i64 n))(Aq:A' (m+n))(Ao:Nat.blt d c.n=true)(k:J c ops rest ((d,.int .i64 (m+n))::env) L D):
 J c ops (⟨some d,.binOp .add Ec x y FK,t,p,af,none⟩::rest) env L D:=
 pu rfl rfl Ao (fun a w f=>by simp[execOp,f.AL Ab,f.AL Bf,eqGuard,binOp,Op.intArith,Uf Aq]) k
theorem TU(Ab:AL env x=some (.int .i64 m))(Bf:AL env y=some (.int .i64 n))(Aq:A' (m-n))(Ao:Nat.blt d c.n=true)(k:J c ops rest ((d,.int .i64 (m-n))::env) L D):
 J c ops (⟨some d,.binOp .sub Ec x y FK,t,p,af,none⟩::rest) env L D:=
 pu rfl rfl Ao (fun a w f=>by simp[execOp,f.AL Ab,f.AL Bf,eqGuard,binOp,Op.intArith,Uf Aq]) k
theorem Jm(Ab:AL env x=some (.int q m))(Bf:AL env y=some (.int q n))(Ao:Nat.blt d c.n=true)(k:J c ops rest ((d,.int q (q.wrap (m+n)))::env) L D):
 J c ops (⟨some d,.binOp .add Ec x y FK,t,p,af,none⟩::rest) env L D:=
 pu rfl rfl Ao (fun a w f=>by simp[execOp,f.AL Ab,f.AL Bf,eqGuard,binOp,Op.intArith]) k
theorem Ajg(Ab:AL env x=some (.int q m))(Bf:AL env y=some (.int q n))(Ao:Nat.blt d c.n=true)(k:J c ops rest ((d,.int q (q.wrap (m-n)))::env) L D):
 J c ops (⟨some d,.binOp .sub Ec x y FK,t,p,af,none⟩::rest) env L D:=
 pu rfl rfl Ao (fun a w f=>by simp[execOp,f.AL Ab,f.AL Bf,eqGuard,binOp,Op.intArith]) k
theorem AhW(Ab:AL env x=some (.int q m))(Bf:AL env y=some (.int q n))(Bw:n≠0)(Ao:Nat.blt d c.n=true)(k:J c ops rest ((d,.int q (q.wrap (m.tdiv n)))::env) L D):
 J c ops (⟨some d,.binOp .quo Ec x y FK,t,p,af,none⟩::rest) env L D:=
 pu rfl rfl Ao (fun a w f=>by simp[execOp,f.AL Ab,f.AL Bf,eqGuard,binOp,Op.intDiv,Bw]) k
theorem Aik(Ab:AL env x=some (.int q m))(Bf:AL env y=some (.int q n))(Bw:n≠0)(Ao:Nat.blt d c.n=true)(k:J c ops rest ((d,.int q (m.tmod n))::env) L D):
 J c ops (⟨some d,.binOp .rem Ec x y FK,t,p,af,none⟩::rest) env L D:=
 pu rfl rfl Ao (fun a w f=>by simp[execOp,f.AL Ab,f.AL Bf,eqGuard,binOp,Op.intDiv,Bw]) k
def MY(op:BinOp)(k:IntKind)(x y:Int):Int:=
 let a:=BitVec.ofInt k.bits x
 let b:=BitVec.ofInt k.bits y
 match op with
 | .and=>k.wrap (a&&& b).toNat
 | .or=>k.wrap (a|||b).toNat
 | .xor=>k.wrap (a^^^b).toNat
 | .andNot=>k.wrap (a&&& ~~~b).toNat
 |_=>0
theorem hA(Ab:AL env x=some (.int q m))(Bf:AL env y=some (.int q n)){r:Int}(Bh:MY .and q m n=r)(Ao:Nat.blt d c.n=true)(k:J c ops rest ((d,.int q r)::env) L D):
 J c ops (⟨some d,.binOp .and Ec x y FK,t,p,af,none⟩::rest) env L D:=
 pu rfl rfl Ao (fun a w f=>by subst Bh;simp[execOp,f.AL Ab,f.AL Bf,eqGuard,binOp,Op.intBits,MY]) k
theorem dF(Ab:AL env x=some (.int q m))(Bf:AL env y=some (.int q n)){r:Int}(Bh:MY .or q m n=r)(Ao:Nat.blt d c.n=true)(k:J c ops rest ((d,.int q r)::env) L D):
 J c ops (⟨some d,.binOp .or Ec x y FK,t,p,af,none⟩::rest) env L D:=
 pu rfl rfl Ao (fun a w f=>by subst Bh;simp[execOp,f.AL Ab,f.AL Bf,eqGuard,binOp,Op.intBits,MY]) k
theorem gb{EJ:IntKind}(Ab:AL env x=some (.int q m))(Bf:AL env y=some (.int EJ n))(Bw:0<=n){r:Int}(Bh:q.wrap (m*2^min n.toNat q.bits)=r)(Ao:Nat.blt d c.n=true)(k:J c ops rest ((d,.int q r)::env) L D):
 J c ops (⟨some d,.binOp .shl Ec x y FK,t,p,af,none⟩::rest) env L D:=
 pu rfl rfl Ao (fun a w f=>by subst Bh;simp[execOp,f.AL Ab,f.AL Bf,eqGuard,binOp,Op.shift,Int.not_lt.2 Bw]) k
theorem Vl{EJ:IntKind}(Ab:AL env x=some (.int q m))(Bf:AL env y=some (.int EJ n))(Bw:0<=n){r:Int}(Bh:m.fdiv (2^min n.toNat q.bits)=r)(Ao:Nat.blt d c.n=true)(k:J c ops rest ((d,.int q r)::env) L D):
 J c ops (⟨some d,.binOp .shr Ec x y FK,t,p,af,none⟩::rest) env L D:=
 pu rfl rfl Ao (fun a w f=>by subst Bh;simp[execOp,f.AL Ab,f.AL Bf,eqGuard,binOp,Op.shift,Int.not_lt.2 Bw]) k
theorem Ci(Ab:AL env x=some (.int q m))(Bf:AL env y=some (.int q n))(Ao:Nat.blt d c.n=true)(k:J c ops rest ((d,.bool (decide (m<n)))::env) L D):
 J c ops (⟨some d,.binOp .lss Ec x y FK,t,p,af,none⟩::rest) env L D:=
 pu rfl rfl Ao (fun a w f=>by simp[execOp,f.AL Ab,f.AL Bf,eqGuard,binOp,Op.intCmp]) k
theorem Adp(Ab:AL env x=some (.int q m))(Bf:AL env y=some (.int q n))(Ao:Nat.blt d c.n=true)(k:J c ops rest ((d,.bool (decide (m<=n)))::env) L D):
 J c ops (⟨some d,.binOp .leq Ec x y FK,t,p,af,none⟩::rest) env L D:=
 pu rfl rfl Ao (fun a w f=>by simp[execOp,f.AL Ab,f.AL Bf,eqGuard,binOp,Op.intCmp]) k
theorem AaD(Ab:AL env x=some (.int q m))(Bf:AL env y=some (.int q n))(Ao:Nat.blt d c.n=true)(k:J c ops rest ((d,.bool (decide (n<m)))::env) L D):
 J c ops (⟨some d,.binOp .gtr Ec x y FK,t,p,af,none⟩::rest) env L D:=
 pu rfl rfl Ao (fun a w f=>by simp[execOp,f.AL Ab,f.AL Bf,eqGuard,binOp,Op.intCmp]) k
theorem Aat(Ab:AL env x=some (.int q m))(Bf:AL env y=some (.int q n))(Ao:Nat.blt d c.n=true)(k:J c ops rest ((d,.bool (decide (n<=m)))::env) L D):
 J c ops (⟨some d,.binOp .geq Ec x y FK,t,p,af,none⟩::rest) env L D:=
 pu rfl rfl Ao (fun a w f=>by simp[execOp,f.AL Ab,f.AL Bf,eqGuard,binOp,Op.intCmp]) k
theorem zc(Ab:AL env x=some (.int q m))(Bf:AL env y=some (.int q n))(Ao:Nat.blt d c.n=true)(k:J c ops rest ((d,.bool (decide (m=n)))::env) L D):
 J c ops (⟨some d,.binOp .eql Ec x y FK,t,p,af,none⟩::rest) env L D:=
 pu rfl rfl Ao (fun a w f=>by simp[execOp,f.AL Ab,f.AL Bf,eqGuard,binOp,Op.intCmp];rfl) k
theorem Aem(Ab:AL env x=some (.int q m))(Bf:AL env y=some (.int q n))(Ao:Nat.blt d c.n=true)(k:J c ops rest ((d,.bool (!decide (m=n)))::env) L D):
 J c ops (⟨some d,.binOp .neq Ec x y FK,t,p,af,none⟩::rest) env L D:=
 pu rfl rfl Ao (fun a w f=>by simp[execOp,f.AL Ab,f.AL Bf,eqGuard,binOp,Op.intCmp];rfl) k
theorem IH{b:Bool}(Ab:AL env x=some (.bool b))(Ao:Nat.blt d c.n=true)(k:J c ops rest ((d,.bool (!b))::env) L D):
 J c ops (⟨some d,.unOp .not Ec x,t,p,af,none⟩::rest) env L D:=
 pu rfl rfl Ao (fun a w f=>by simp[execOp,f.AL Ab,Op.unary]) k
theorem fl(Ab:AL env x=some (.int .i64 m))(Aq:A' (-m))(Ao:Nat.blt d c.n=true)(k:J c ops rest ((d,.int .i64 (-m))::env) L D):
 J c ops (⟨some d,.unOp .neg Ec x,t,p,af,none⟩::rest) env L D:=
 pu rfl rfl Ao (fun a w f=>by
  simp[execOp,f.AL Ab,Op.unary,Op.intArith,Uf Aq]) k
theorem Aew(Ab:AL env x=some (.int q m))(Ao:Nat.blt d c.n=true)(k:J c ops rest ((d,.int q (q.wrap (0-m)))::env) L D):
 J c ops (⟨some d,.unOp .neg Ec x,t,p,af,none⟩::rest) env L D:=
 pu rfl rfl Ao (fun a w f=>by simp[execOp,f.AL Ab,Op.unary,Op.intArith]) k
theorem n_(Ab:AL env x=some (.int q m)){r:Int}(Bh:MY .xor q (if q.signed then-1 else q.max) m=r)(Ao:Nat.blt d c.n=true)(k:J c ops rest ((d,.int q r)::env) L D):
 J c ops (⟨some d,.unOp .xor Ec x,t,p,af,none⟩::rest) env L D:=
 pu rfl rfl Ao (fun a w f=>by subst Bh;simp[execOp,f.AL Ab,Op.unary,Op.intBits,MY]) k
theorem F0{src dst:TypeId}{EJ:IntKind}{Cx:TypeDesc}(hs:c.P.underlying src=some Cx)(AJ:c.P.underlying dst=some (.int EJ))(Ab:AL env x=some (.int q m)){r:Int}(Bh:EJ.wrap m=r)(Ao:Nat.blt d c.n=true)
 (k:J c ops rest ((d,.int EJ r)::env) L D):J c ops (⟨some d,.convert src dst x,t,p,af,none⟩::rest) env L D:=
 pu rfl rfl Ao (fun a w f=>by
  subst Bh;simp[execOp,f.AL Ab,convert,ABQ hs,ABQ AJ,Conv.intToInt]) k
end
end
section
theorem OJ(A B:Own):Dt (A++B)=Dt A++Dt B:=by
 induction A with
 |nil=>rfl
 |cons p r Cg=>simp[Dt,Cg]
def dj(X:List Nat)(w:World)(L0:Own){β:Type}(R:β->Value->Prop)(DM:β->Value->Own)(out:β->Value->List Atom)(v:Value)(AT:World):Prop:=
 C8 L0.nd w AT/\∃y,R y v/\(∀p∈DM y v,p.holds (Et ((DM y v).nd++X) AT) AT)/\(DM y v).nd.Nodup/\(∀b∈(DM y v).nd,b∈L0.nd\/w.heap.size<=b)/\
  ∀t∈out y v,t.holds (Et ((DM y v).nd++X) AT) AT
def Aw(P:Program)(f:FuncId)(args:List Value)(L0:Own)(DB:List Atom){β:Type}(R:β->Value->Prop)(DM:β->Value->Own)(out:β->Value->List Atom):Prop:=
 ∀(X:List Nat) (w:World),(L0.nd++X).Nodup->(∀b∈X,b<w.heap.size)->(∀p∈L0,p.holds (Et (L0.nd++X) w) w)->(∀t∈DB,t.holds (Et (L0.nd++X) w) w)->
  QK P f args w (dj X w L0 R DM out)
abbrev Cv(P:Program)(f:FuncId)(args:List Value)(DB:List Atom)(v:Value):Prop:=Aw P f args [] DB (fun(_:Unit) u=>u=v) (fun _ _=>[]) (fun _ _=>[])
theorem Aw.proof{P:Program}{f:FuncId}{fn:Func}{x:Code}{args:List Value}{L0:Own}{DB:List Atom}{β:Type}{R:β->Value->Prop}{DM:β->Value->Own}{out:β->Value->List Atom}
 (BI:P.funcs[f]? =some fn)(Aq:fn.body=some x)(n:Nat)(Ao:n=fn.ntmps)(eI:Nat.ble args.length n=true)
 (h:∀X w,CF ⟨P,n,w,L0.nd++X⟩ x (bodyPost P fn fun e AT=>∃v,e=.returned v/\dj X w L0 R DM out v AT) (ax 0 args) (L0++[CL X w]) DB):Aw P f args L0 DB R DM out:=by
 intro X w OZ Ab Bw Cl;have Hu:Own.nd (L0++[CL X w])=L0.nd++X:=by simp[Own.nd,OJ,Dt]
 refine enter (L0.nd++X) (L0++[CL X w]) DB BI Aq n Ao (ABy eI) ⟨C8.refl _ _,?_,?_,?_⟩ ?_ (h X w)
 · intro p AH;rw[Hu];rcases ABm.1 AH with AH|AH
   · exact Bw p AH
   have:p=CL X w:=(by simpa using AH);subst this;exact⟨fun _ _=>rfl,Ab⟩
 · rw[Hu];exact OZ
 · rw[Hu];exact fun b Aq=>.inl Aq
 intro t Av;rw[Hu];exact Cl t Av
theorem Aw.post{X:List Nat}{BW w:World}{L0 L:Own}{D:List Atom}{β:Type}{R:β->Value->Prop}{DM:β->Value->Own}{out:β->Value->List Atom}{v:Value}
 (y:β)(Fy:R y v)(Dv:L=DM y v++[CL X BW])(DK:Bg (out y v) D)(st:CI BW (L0.nd++X) w L)(d:BP D w L)(Aq:∀b∈(DM y v).nd,b∈L0.nd\/BW.heap.size<=b):dj X BW L0 R DM out v w:=by
 subst Dv;have Hu:Own.nd (DM y v++[CL X BW])=(DM y v).nd++X:=by simp[Own.nd,OJ,Dt]
 have Cu:=st.own (CL X BW) (by simp);refine⟨⟨st.Ln.os,st.Ln.tape,st.Ln.output,st.Ln.size,fun k AE Ab=>?_⟩,y,Fy,?_,?_,Aq,?_⟩
 · by_cases pI:k∈X
   · exact Cu.1 k pI
   exact st.Ln.block k AE (by simp only[ABm,ABN];exact⟨Ab,pI⟩)
 · intro p AH;have:=st.own p (ABm.2 (.inl AH))
   rwa [Hu]at this
 · have:=st.AGm;rw[Hu]at this;exact(ACv.1 this).1
 intro t Av;have:=d t (DK t Av)
 rwa [Hu]at this
section
variable{c:Cj} {env:Env} {L:Own} {D:List Atom} {fn:Func} {X:List Nat} {L0:Own} {β:Type} {R:β->Value->Prop} {DM:β->Value->Own} {out:β->Value->List Atom} {P:Program} {n:Nat} {BW:World}
abbrev XN(P:Program)(fn:Func)(X:List Nat)(w:World)(L0:Own){β:Type}(R:β->Value->Prop)(DM:β->Value->Own)(out:β->Value->List Atom):AuE:=
 bodyPost P fn fun e AT=>∃v,e=.returned v/\dj X w L0 R DM out v AT
theorem YS{w:World}{A:Own}(st:CI BW (L0.nd++X) w (A++[CL X BW])):∀b∈A.nd,b∈L0.nd\/BW.heap.size<=b:=by
 intro b Aq;have Hu:Own.nd (A++[CL X BW])=A.nd++X:=by simp[Own.nd,OJ,Dt]
 have Ao:=st.AGm;have h:=st.new b;rw[Hu]at Ao h;rcases h (by simp[Aq])with h|h
 · rcases ABm.1 h with h|h
   · exact .inl h
   exact absurd rfl ((ACv.1 Ao).2.2 b Aq b h)
 exact .inr h
theorem Bq(y:β){t:Nat}{v:Value}(Bh:fn.results= #[.tmp t])(BC:C1 env t=some v)(Fy:R y v)(Dv:L=DM y v++[CL X BW])(DK:Bg (out y v) D):
 Eg ⟨P,n,BW,L0.nd++X⟩ (XN P fn X BW L0 R DM out) .ret env L D:=
 Aiy (c:=⟨P,n,BW,L0.nd++X⟩) Bh BC fun w st d=>Aw.post y Fy Dv DK st d (YS (X:=X) (w:=w) (Dv▸st))
theorem Fl(y:β){t u:Nat}{v1 v2:Value}(Bh:fn.results= #[.tmp t,.tmp u])(Af:C1 env t=some v1)(h2:C1 env u=some v2)(Fy:R y (.tuple #[v1,v2]))(Dv:L=DM y (.tuple #[v1,v2])++[CL X BW])(DK:Bg (out y (.tuple #[v1,v2])) D):
 Eg ⟨P,n,BW,L0.nd++X⟩ (XN P fn X BW L0 R DM out) .ret env L D:=
 A_.Aiz (c:=⟨P,n,BW,L0.nd++X⟩) Bh Af h2 fun w st d=>Aw.post y Fy Dv DK st d (YS (X:=X) (w:=w) (Dv▸st))
theorem IB(y:β){t u s:Nat}{v1 v2 Ph:Value}(Bh:fn.results= #[.tmp t,.tmp u,.tmp s])(Af:C1 env t=some v1)(h2:C1 env u=some v2)(Bo:C1 env s=some Ph)(Fy:R y (.tuple #[v1,v2,Ph]))(Dv:L=DM y (.tuple #[v1,v2,Ph])++[CL X BW])(DK:Bg (out y (.tuple #[v1,v2,Ph])) D):
 Eg ⟨P,n,BW,L0.nd++X⟩ (XN P fn X BW L0 R DM out) .ret env L D:=
 A_.AiA (c:=⟨P,n,BW,L0.nd++X⟩) Bh Af h2 Bo fun w st d=>Aw.post y Fy Dv DK st d (YS (X:=X) (w:=w) (Dv▸st))
theorem Ej(y:β)(Bh:fn.results= #[])(Fy:R y (.tuple #[]))(Dv:L=DM y (.tuple #[])++[CL X BW])(DK:Bg (out y (.tuple #[])) D):
 Eg ⟨P,n,BW,L0.nd++X⟩ (XN P fn X BW L0 R DM out) .ret env L D:=
 A_.Aiw (c:=⟨P,n,BW,L0.nd++X⟩) Bh fun w st d=>Aw.post y Fy Dv DK st d (YS (X:=X) (w:=w) (Dv▸st))
theorem Dz(y:β)(Bh:fn.results= #[])(Fy:R y (.tuple #[]))(Dv:L=DM y (.tuple #[])++[CL X BW])(DK:Bg (out y (.tuple #[])) D):
 Eg ⟨P,n,BW,L0.nd++X⟩ (XN P fn X BW L0 R DM out) .normal env L D:=
 A_.Aix (c:=⟨P,n,BW,L0.nd++X⟩) Bh fun w st d=>Aw.post y Fy Dv DK st d (YS (X:=X) (w:=w) (Dv▸st))
end
structure GU (P:Program) (f:FuncId):Prop where
 ok:∃fn,P.funcs[f]? =some fn/\(fn.name== "runtime.NumGoroutine")=false/\fn.body.isNone=false
theorem AiM{P:Program}{f:FuncId}(h:GU P f)(args:Array Value)(w:World):(callFunc f args).run P w=.ok (.enter f args) w:=by
 obtain⟨fn,Af,h2,Bo⟩:=h.ok;have iI:¬fn.name= "runtime.NumGoroutine" :=by simpa using h2
 have AaK:¬fn.body=none:=by intro h;rw[h]at Bo;cases Bo
 simp[callFunc,program,Sem.run,ABY,Af,iI,AaK]
section
variable{c:Cj} {ops:Array Oper} {Q:AuE} {env:Env} {L:Own} {D:List Atom} {rest:List Oper} {d:Nat} {v:Value} {t:TypeId} {p:String} {af:Array Edge}
theorem Alk{o:Oper}{a:Act}{w:World}{K:Act->World->Prop}{Q:AuE}{f:FuncId}{vs:List Value}{P:Program}(Ek:(execOp a.eval o).run P w=.ok (.enter f vs.toArray) w){LR:Value->World->Prop}
 (h:QK P f vs w LR)(AE:∀v AT,LR v AT->K (a.put o.dst v) AT):o.wp P a w K Q:=by
 unfold Oper.wp;rw[Ek];simp only[Oper.upon];exact Calls.mono h fun e AT ⟨v,he,BC⟩=>by subst he;exact AE v AT BC
theorem lp{P:Program}{ρ:Operand->Value}{o:Oper}{x:Operand}{xs:List Operand}{ats:Array TypeId}{f:FuncId}{first cap:Array Value}{vs:List Value}(A7:o.op=.call {callee:=.value x,args:=xs.toArray,argTypes:=ats})
 (Ab:ρ x=.func (.func f) first cap)(Hm:xs.map ρ=vs)(CM:GU P f)(w:World):(execOp ρ o).run P w=.ok (.enter f (first.toList++vs++cap.toList).toArray) w:=by
 subst Hm;simp only[execOp,A7,resolve,Deferred.ofValue,Ab,invoke,List.map_toArray,ABY,Sem.run_pure,Result.andThen_ok,AiM CM];congr 2;simp
theorem S4{x:Operand}{xs:List Operand}{ats:Array TypeId}{f:FuncId}{first cap:Array Value}{vs us:List Value}{β:Type}{R:β->Value->Prop}{out:β->Value->List Atom}{dst:Option Tmp}
 (Ab:AL env x=some (.func (.func f) first cap))(Hm:Gq env xs=some vs)(I1:first.toList++vs++cap.toList=us)(CM:GU c.P f)
 (L':β->Value->Own)
 (Bm:∀w,CI c.BW c.M w L->BP D w L->QK c.P f us w (fun v AT=>∃y,R y v/\CI c.BW c.M AT (L' y v)/\BP (out y v) AT (L' y v)))
 (env':β->Value->Env)(he:∀y v a,Fr c.n a env->Fr c.n (a.put dst v) (env' y v))
 (k:∀y v,R y v->Cb Q c ops rest (env' y v) (L' y v) (out y v)):
 Cb Q c ops (⟨dst,.call {callee:=.value x,args:=xs.toArray,argTypes:=ats},t,p,af,none⟩::rest) env L D:=by
 intro a w Jq st AR;refine wpList_plain rfl fun K Je=>?_;have Ek:=lp (P:=c.P) (ρ:=a.eval) (o:=⟨dst,.call {callee:=.value x,args:=xs.toArray,argTypes:=ats},t,p,af,none⟩) rfl (Jq.AL Ab) (Jq.Gq Hm) CM w;rw[I1]at Ek;exact Alk Ek (Bm w st AR) fun v AT ⟨y,Fy,Kz,KI⟩=>Je _ _ (k y v Fy _ _ (he y v a Jq) Kz KI)
theorem CI.many{BW w AT:World}{M:List Nat}{L A:Own}(h:CI BW M w L)(hs:C8 [] w AT)(Cl:∀q∈A,q.holds (Et (A.nd++L.nd) AT) AT)(Ao:A.nd.Nodup)(Aq:∀b∈A.nd,w.heap.size<=b):CI BW M AT (A++L):=by
 have DI:=h.step hs;have Hu:Own.nd (A++L)=A.nd++L.nd:=by simp[Own.nd,OJ]
 refine⟨DI.Ln,?_,?_,?_⟩
 · rw[Hu];intro q B';rcases ABm.1 B' with B'|B'
   · exact Cl q B'
   refine q.DY (h.own q B') (fun b EP=>⟨ACp EP.1 hs.size,?_⟩) (fun b EP=>?_)
   · simp only[ABm,ABN];exact⟨fun Ab=>by have:=Aq b Ab;have:=EP.1;omega,EP.2⟩
   refine hs.block b ?_ (by simp);rcases EP with EP|EP
   · exact EP.1
   exact h.lt b (FW.2 ⟨q,B',EP⟩)
 · rw[Hu,ACv];refine⟨Ao,h.AGm,fun a AK b EP=>?_⟩;have:=Aq a AK;have:=h.lt b EP;omega
 rw[Hu];intro b EP;rcases ABm.1 EP with EP|EP
 · exact .inr (ABB h.Ln.size (Aq b EP))
 exact h.new b EP
theorem BP.many{D:List Atom}{w AT:World}{L A:Own}(AJ:BP D w L)(hs:C8 [] w AT)(Aq:∀b∈A.nd,w.heap.size<=b):BP D AT (A++L):=
 AJ.Zo hs.nil fun b h=>by
  simp only[Own.nd,OJ,ABm]at h;rcases h with h|h
  · exact .inr (Aq b h)
  exact .inl h
theorem nU{f:FuncId}{us:List Value}{DB:List Atom}{β:Type}{R:β->Value->Prop}{DM:β->Value->Own}{out:β->Value->List Atom}(h:Aw c.P f us [] DB R DM out)(Cl:Bg DB D):
 ∀w,CI c.BW c.M w L->BP D w L->QK c.P f us w (fun v AT=>∃y,R y v/\CI c.BW c.M AT (DM y v++L)/\BP (out y v++D) AT (DM y v++L)):=by
 intro w st AR;refine(h L.nd w (by simpa[Own.nd,Dt]using st.AGm) st.lt (by simp) (fun t Av=>?_)).mono fun v AT AH=>?_
 · have:=AR t (Cl t Av);simpa[Own.nd,Dt]using this
 obtain⟨hs,y,Fy,Dv,Ao,Aq,A7⟩:=AH;have HW:C8 [] w AT:=by simpa[Own.nd,Dt]using hs
 have EP:∀b∈(DM y v).nd,w.heap.size<=b:=fun b Ab=>(Aq b Ab).resolve_left (by simp[Own.nd,Dt]);have Hu:Own.nd (DM y v++L)=(DM y v).nd++L.nd:=by simp[Own.nd,OJ]
 refine⟨y,Fy,st.many HW Dv Ao EP,?_⟩;refine BP.app ?_ (AR.many HW EP);intro t Av;rw[Hu];exact A7 t Av
theorem Dm{f:FuncId}{vs:List Value}{DB:List Atom}{β:Type}{R:β->Value->Prop}{DM:β->Value->Own}{out:β->Value->List Atom}(h:Aw c.P f vs [] DB R DM out)(CM:GU c.P f){xs:List Operand}{ats:Array TypeId}
 (Hm:Gq env xs=some vs)(Cl:Bg DB D)(Ao:Nat.blt d c.n=true)(k:∀y v,R y v->Cb Q c ops rest ((d,v)::env) (DM y v++L) (out y v++D)):
 Cb Q c ops (⟨some d,.call {callee:=.value (.func f),args:=xs.toArray,argTypes:=ats},t,p,af,none⟩::rest) env L D:=
 S4 (x:=.func f) (first:= #[]) (cap:= #[]) rfl Hm (by simp) CM _ (nU h Cl) (fun _ v=>(d,v)::env) (fun _ v a f=>f.put v (EU Ao)) k
theorem QV{f:FuncId}{vs us:List Value}{DB:List Atom}{β:Type}{R:β->Value->Prop}{DM:β->Value->Own}{out:β->Value->List Atom}{first cap:Array Value}{x:Operand}(h:Aw c.P f us [] DB R DM out)(CM:GU c.P f){xs:List Operand}{ats:Array TypeId}
 (Ab:AL env x=some (.func (.func f) first cap))(Hm:Gq env xs=some vs)(I1:first.toList++vs++cap.toList=us)(Cl:Bg DB D)(Ao:Nat.blt d c.n=true)(k:∀y v,R y v->Cb Q c ops rest ((d,v)::env) (DM y v++L) (out y v++D)):
 Cb Q c ops (⟨some d,.call {callee:=.value x,args:=xs.toArray,argTypes:=ats},t,p,af,none⟩::rest) env L D:=
 S4 Ab Hm I1 CM _ (nU h Cl) (fun _ v=>(d,v)::env) (fun _ v _ f=>f.put v (EU Ao)) k
theorem CI.Akw{BW w AT:World}{M:List Nat}{L A:Own}{q EJ:C4}(i:Nat)(Ag:L[i]? =some q)(h:CI BW M w L)(hs:C8 q.nd w AT)
 (X:List Nat)(eG:∀b,b∈L.nd↔b∈q.nd++X)(Aa3:(q.nd++X).Nodup)
 (Cl:∀r∈EJ::A,r.holds (Et (Own.nd (EJ::A)++X) AT) AT)(Ao:(Own.nd (EJ::A)).Nodup)(Aq:∀b∈Own.nd (EJ::A),b∈q.nd\/w.heap.size<=b):CI BW M AT (A++L.set i EJ):=by
 have eX:∀b∈q.nd,b∈L.nd:=fun b Ab=>FW.2 ⟨q,AA' Ag,Ab⟩;have C_:=h.lt;have iO:Own.nd (EJ::A)=EJ.nd++A.nd:=rfl;rw[iO]at Ao Aq;have eS:=ACv.1 Ao;have Hv:∀b,b∈Own.nd (A++L.set i EJ)↔b∈Own.nd (EJ::A)++X:=by
  intro b;simp only[Own.nd,OJ,ABm,Dt];constructor
  · rintro(Ab|Ab)
    · exact .inl (.inr Ab)
    obtain⟨r,Bh,Qe⟩:=FW.1 Ab;obtain⟨j,Ay⟩:=ADc Bh;by_cases GQ:i=j
    · subst GQ;have:i<L.length:=(ABF.1 Ag).1;rw[ACP this]at Ay;injection Ay with Ay;subst Ay;exact .inl (.inl Qe)
    rw[ACT GQ]at Ay;have je:b∈L.nd:=FW.2 ⟨r,AA' Ay,Qe⟩;rcases ABm.1 ((eG b).1 je)with Af|Af
    · exact absurd Qe (CI.KB.XX Ag Ay GQ h.AGm b Af)
    exact .inr Af
  rintro((Ab|Ab)|Ab)
  · refine .inr (FW.2 ⟨EJ,?_,Ab⟩);have:i<L.length:=(ABF.1 Ag).1;exact AA' (ACP this)
  · exact .inl Ab
  have je:b∈L.nd:=(eG b).2 (ABm.2 (.inr Ab));obtain⟨r,Bh,Qe⟩:=FW.1 je;obtain⟨j,Ay⟩:=ADc Bh;by_cases GQ:i=j
  · subst GQ;rw[Ag]at Ay;injection Ay with Ay;subst Ay;exact absurd rfl ((ACv.1 Aa3).2.2 b Qe b Ab)
  refine .inr (FW.2 ⟨r,?_,Qe⟩);exact AA' (by rw[ACT GQ];exact Ay)
 have pf:∀b,Et (Own.nd (EJ::A)++X) AT b->Et (Own.nd (A++L.set i EJ)) AT b:=fun b Ab=>⟨Ab.1,fun Bf=>Ab.2 ((Hv b).1 Bf)⟩;have Lc:∀b,Et L.nd w b->Et (Own.nd (A++L.set i EJ)) AT b:=fun b Ab=>⟨ACp Ab.1 hs.size,fun Bf=>by
  have Bf:=(Hv b).1 Bf;rcases ABm.1 Bf with Bf|Bf
  · rcases Aq b (by rw[iO]at Bf;exact Bf)with Af|Af
    · exact Ab.2 (eX b Af)
    have:=Ab.1;omega
  exact Ab.2 ((eG b).2 (ABm.2 (.inr Bf)))⟩
 refine⟨h.Ln.mc hs (fun b Ab=>h.new b (eX b Ab)),?_,?_,?_⟩
 · intro r Bh;rcases ABm.1 Bh with Bh|Bh
   · exact r.DY (Cl r (ABR _ Bh)) pf (fun _ _=>rfl)
   obtain⟨j,Ay⟩:=ADc Bh;by_cases GQ:i=j
   · subst GQ;have:i<L.length:=(ABF.1 Ag).1;rw[ACP this]at Ay;injection Ay with Ay;subst Ay;exact EJ.DY (Cl EJ (ABx ..)) pf (fun _ _=>rfl)
   rw[ACT GQ]at Ay;have p6:=AA' Ay;refine r.DY (h.own r p6) Lc (fun b Ab=>hs.block b ?_ ?_)
   · rcases Ab with Ab|Ab
     · exact Ab.1
     exact C_ b (FW.2 ⟨r,p6,Ab⟩)
   rcases Ab with Ab|Ab
   · exact fun Bf=>Ab.2 (eX b Bf)
   exact fun Bf=>CI.KB.XX Ag Ay GQ h.AGm b Bf Ab
 · have Af:=kg (p':=EJ) Ag h.AGm eS.1 (fun b Ab=>(Aq b (ABm.2 (.inl Ab))).imp id (fun Af h2=>by have:=C_ b h2;omega));simp only[Own.nd,OJ,ACv];refine⟨eS.2.1,Af,fun a AK b EP e=>?_⟩;subst e;rcases OK Ag a EP with h2|h2
   · exact eS.2.2 a h2 a AK rfl
   rcases Aq a (ABm.2 (.inr AK))with Bo|Bo
   · -- a block of q that A has, and L.set too
     have Bf:=(Hv a).1 (by simp only[Own.nd,OJ,ABm];exact .inr EP);obtain⟨r,Bh,Qe⟩:=FW.1 EP;obtain⟨j,Ay⟩:=ADc Bh;by_cases GQ:i=j
     · subst GQ;have:i<L.length:=(ABF.1 Ag).1;rw[ACP this]at Ay;injection Ay with Ay;subst Ay;exact eS.2.2 a Qe a AK rfl
     rw[ACT GQ]at Ay;exact CI.KB.XX Ag Ay GQ h.AGm a Bo Qe
   have:=C_ a h2;omega
 intro b Ab;have Ab:=(Hv b).1 Ab;rcases ABm.1 Ab with Ab|Ab
 · rcases Aq b (by rw[iO]at Ab;exact Ab)with Af|Af
   · exact h.new b (eX b Af)
   exact .inr (ABB h.Ln.size Af)
 exact h.new b ((eG b).2 (ABm.2 (.inr Ab)))
def S3:Nat->Own->List Nat
 |_,[]=>[]
 |0,_::r=>Dt r
 |i+1,p::r=>p.nd++S3 i r
theorem j':∀{L:Own} {i:Nat} {q:C4},L[i]? =some q->∀b,b∈Dt L↔b∈q.nd++S3 i L
 |[],i,q,h=>by simp at h
 |p::r,0,q,h=>by simp at h;subst h;intro b;simp[Dt,S3]
 |p::r,i+1,q,h=>by
  simp only[ABC]at h;intro b;have:=j' h b;simp only[Dt,S3,ABm]at this ⊢;rw[this];constructor
  · rintro(h|h|h)
    · exact .inr (.inl h)
    · exact .inl h
    exact .inr (.inr h)
  rintro(h|h|h)
  · exact .inr (.inl h)
  · exact .inl h
  exact .inr (.inr h)
theorem kf:∀{L:Own} {i:Nat} {q:C4},L[i]? =some q->(Dt L).Nodup->(q.nd++S3 i L).Nodup
 |[],i,q,h,_=>by simp at h
 |p::r,0,q,h,Ao=>by simp at h;subst h;exact Ao
 |p::r,i+1,q,h,Ao=>by
  simp only[ABC]at h;simp only[Dt,ACv]at Ao;have Cg:=kf h Ao.2.1;have hm:=j' h;simp only[S3,ACv]at Cg ⊢;refine⟨Cg.1,⟨Ao.1,Cg.2.1,fun a AK b Aq=>Ao.2.2 a AK b ((hm b).2 (by simp[Aq]))⟩,fun a AK b Aq e=>?_⟩;subst e;rcases ABm.1 Aq with Aq|Aq
  · exact Ao.2.2 a Aq a ((hm a).2 (by simp[AK])) rfl
  exact Cg.2.2 a AK a Aq rfl
theorem nV(i:Nat){q:C4}{f:FuncId}{us:List Value}{DB:List Atom}{β:Type}{R:β->Value->Prop}{EJ:β->Value->C4}{A:β->Value->Own}{out:β->Value->List Atom}(Ag:L[i]? =some q)(h:Aw c.P f us [q] DB R (fun y v=>EJ y v::A y v) out)(Cl:Bg DB D):
 ∀w,CI c.BW c.M w L->BP D w L->QK c.P f us w (fun v AT=>∃y,R y v/\CI c.BW c.M AT (A y v++L.set i (EJ y v))/\BP (out y v++D) AT (A y v++L.set i (EJ y v))):=by
 intro w st AR;have hm:=j' Ag;have p8:∀b,Et L.nd w b->Et (Own.nd [q]++S3 i L) w b:=fun b Ab=>⟨Ab.1,fun Bf=>Ab.2 ((hm b).2 (by simpa[Own.nd,Dt]using Bf))⟩;refine(h (S3 i L) w (by simpa[Own.nd,Dt]using kf Ag st.AGm) (fun b Aq=>st.lt b ((hm b).2 (by simp[Aq]))) (fun p AH=>?_) (fun t Av=>?_)).mono fun v AT AH=>?_
 · have:p=q:=(by simpa using AH);subst this;exact p.DY (st.own p (AA' Ag)) p8 (fun _ _=>rfl)
 · exact Atom.DY (AR t (Cl t Av)) p8 (fun _ _=>rfl)
 obtain⟨hs,y,Fy,Dv,Ao,Aq,A7⟩:=AH;have HW:C8 q.nd w AT:=by simpa[Own.nd,Dt]using hs
 have EP:∀b∈Own.nd (EJ y v::A y v),b∈q.nd\/w.heap.size<=b:=fun b Ab=>(Aq b Ab).imp (fun h=>by simpa[Own.nd,Dt]using h) id;have Kz:=st.Akw (A:=A y v) i Ag HW (S3 i L) hm (kf Ag st.AGm) Dv Ao EP;refine⟨y,Fy,Kz,BP.app (fun t Av=>?_) (AR.Zo (HW.mono fun b Ab=>FW.2 ⟨q,AA' Ag,Ab⟩) fun b Ab=>?_)⟩
 · refine Atom.DY (A7 t Av) (fun b Ab=>⟨Ab.1,fun Bf=>Ab.2 ?_⟩) (fun _ _=>rfl);simp only[Own.nd,OJ,ABm]at Bf;rcases Bf with Bf|Bf
   · simp[Own.nd,Dt,Bf]
   rcases OK Ag b Bf with Af|Af
   · simp[Own.nd,Dt,Af]
   rcases ABm.1 ((hm b).1 Af)with h2|h2
   · -- a block of q that still stands in L.set: only through q'
     obtain⟨r,Bh,Qe⟩:=FW.1 Bf;obtain⟨j,Ay⟩:=ADc Bh;by_cases GQ:i=j
     · subst GQ;have:i<L.length:=(ABF.1 Ag).1;rw[ACP this]at Ay;injection Ay with Ay;subst Ay;simp[Own.nd,Dt,Qe]
     rw[ACT GQ]at Ay;exact absurd Qe (CI.KB.XX Ag Ay GQ st.AGm b h2)
   simp[h2]
 simp only[Own.nd,OJ,ABm]at Ab;rcases Ab with Ab|Ab
 · rcases EP b (by simp[Own.nd,Dt,Ab])with Af|Af
   · exact .inl (FW.2 ⟨q,AA' Ag,Af⟩)
   exact .inr Af
 rcases OK Ag b Ab with Af|Af
 · rcases EP b (by simp[Own.nd,Dt,Af])with h2|h2
   · exact .inl (FW.2 ⟨q,AA' Ag,h2⟩)
   exact .inr h2
 exact .inl Af
theorem Ch(i:Nat){q:C4}{f:FuncId}{vs:List Value}{DB:List Atom}{β:Type}{R:β->Value->Prop}{EJ:β->Value->C4}{A:β->Value->Own}{out:β->Value->List Atom}(h:Aw c.P f vs [q] DB R (fun y v=>EJ y v::A y v) out)(CM:GU c.P f)
 (Ag:L[i]? =some q){xs:List Operand}{ats:Array TypeId}(Hm:Gq env xs=some vs)(Cl:Bg DB D)(Ao:Nat.blt d c.n=true)(k:∀y v,R y v->Cb Q c ops rest ((d,v)::env) (A y v++L.set i (EJ y v)) (out y v++D)):
 Cb Q c ops (⟨some d,.call {callee:=.value (.func f),args:=xs.toArray,argTypes:=ats},t,p,af,none⟩::rest) env L D:=
 S4 (x:=.func f) (first:= #[]) (cap:= #[]) rfl Hm (by simp) CM _ (nV i Ag h Cl) (fun _ v=>(d,v)::env) (fun _ v a f=>f.put v (EU Ao)) k
theorem Uv(i:Nat){q:C4}{f:FuncId}{vs us:List Value}{DB:List Atom}{β:Type}{R:β->Value->Prop}{EJ:β->Value->C4}{A:β->Value->Own}{out:β->Value->List Atom}{first cap:Array Value}{x:Operand}(h:Aw c.P f us [q] DB R (fun y v=>EJ y v::A y v) out)(CM:GU c.P f)
 (Ag:L[i]? =some q){xs:List Operand}{ats:Array TypeId}(Ab:AL env x=some (.func (.func f) first cap))(Hm:Gq env xs=some vs)(I1:first.toList++vs++cap.toList=us)(Cl:Bg DB D)(Ao:Nat.blt d c.n=true)(k:∀y v,R y v->Cb Q c ops rest ((d,v)::env) (A y v++L.set i (EJ y v)) (out y v++D)):
 Cb Q c ops (⟨some d,.call {callee:=.value x,args:=xs.toArray,argTypes:=ats},t,p,af,none⟩::rest) env L D:=
 S4 Ab Hm I1 CM _ (nV i Ag h Cl) (fun _ v=>(d,v)::env) (fun _ v _ f=>f.put v (EU Ao)) k
end
end
end Go.A_
