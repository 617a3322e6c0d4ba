/- Part 5 of shardStays_holds. -/
import Derived.Test.YtalfaopffbkdnaaGreatSen4

set_option maxRecDepth 20000
set_option maxHeartbeats 1000000
namespace Go
theorem ACS:∀(n:Nat),Int.toNat ↑n=n:=@Int.toNat_natCast
theorem ACt:∀{α:Type _} {i:Nat} {l:List α},List.length (List.drop i l)=List.length l-i:=@List.length_drop
theorem ABz:∀{α:Type _} {i:Nat} {l:List α},List.length (List.take i l)=min i (List.length l):=@List.length_take
theorem AB6:∀{α:Type _} {β:Type _} {b:β} {f:α→β} {l:List α},b∈List.map f l↔∃a,a∈l∧f a=b:=@List.mem_map
theorem ACw:∀{n m:Nat} (k:Nat),n≤m→n*k≤m*k:=@Nat.mul_le_mul_right
end Go
open BitVec renaming toNat_ofInt→AD7
open Go.Value.pointer renaming injEq→AGx
open List renaming cons_append→ABU,length_cons→ABv,map_inj_left→ADS,mem_filter→ABZ
open List.cons renaming injEq→ACj
open Nat renaming and_two_pow_sub_one_eq_mod→AGz,eq_of_beq_eq_true→ACI,mod_eq_of_lt→ACJ,two_pow_add_eq_or_of_lt→AEo
open Option.some renaming injEq→ABX
open Prod.mk renaming injEq→ACg
open Go.A_
namespace Go.A_
section
structure vE (P:Program) where
 f:FuncId
 us:List Value
 DB:List Atom
 u:Value
 h:Cv P f us DB u
 ok:GU P f
theorem gh{l:List Oper}{n i d:Nat}{o:Oper}(h:LX l n=true)(Ag:l[i]? =some o)(AJ:o.dst=some d):Nat.blt d n=true:=by
 have:=ABq.1 h o (AA' Ag);rw[AJ]at this;exact this
theorem l1{di D:List Atom}:Bg D (di++D):=fun _ h=>ABm.2 (.inr h)
inductive Oa (P:Program) where
 |NQ (i:Nat)
 |st (i:Nat)
 |F0 (ix:List Nat) (x:vE P)
 |eq (u v:Value) (h:u=v)
def TB{P:Program}:List (Nat×Oa P)->Nat->Option (Oa P)
 |[],_=>none
 |(j,k)::r,i=>bif Nat.beq j i then some k else TB r i
structure VA where
 j:Nat
 b:Nat
 o:Nat
 us:List Value
def Ex{α:Type _}:List (Nat×α)->Nat->Option α
 |[],_=>none
 |(j,k)::r,i=>bif Nat.beq j i then some k else Ex r i
def Avu(L:Own)(e:VA):Own:=match L[e.j]? with
 |some q=>L.set e.j (AO e.b q.ty (MO q.cs e.o e.us))
 |none=>L
def AuU(S':List (Nat×VA))(L:Own)(h:List Nat):Own:=h.foldl (fun L i=>match Ex S' i with
 |some e=>Avu L e
 |none=>L) L
theorem AxP{S':List (Nat×VA)}{L:Own}{h:List Nat}{i:Nat}{e:VA}(he:Ex S' i=some e):AuU S' L (h++[i])=Avu (AuU S' L h) e:=by
 simp only[AuU,List.foldl_append,List.foldl_cons,List.foldl_nil,he]
def rY{β:Type}:List Value->List Value->(List Value->Option β)->Option β
 |cs,[],k=>k cs
 |[],_::_,_=>none
 |_::cs,u::us,k=>rY cs us fun r=>k (u::r)
def lT{β:Type}:List Value->Nat->List Value->(List Value->Option β)->Option β
 |cs,0,us,k=>rY cs us k
 |[],_+1,_,_=>none
 |c::cs,n+1,us,k=>lT cs n us fun r=>k (c::r)
def lE{β:Type}:Own->Nat->(C4->(C4->Option β)->Option β)->(Own->Option β)->Option β
 |[],_,_,_=>none
 |q::L,0,g,k=>g q fun EJ=>k (EJ::L)
 |q::L,n+1,g,k=>lE L n g fun r=>k (q::r)
def Zm{β:Type}:List Value->Nat->(List Value->Option β)->Option β
 |_,0,k=>k []
 |[],_+1,_=>none
 |c::cs,n+1,k=>Zm cs n fun r=>k (c::r)
def uk{P:Program}(B1:List (Nat×List Nat))(rs:List (Nat×Nat))(k:Option (Oa P))(E:Env)(L:Own)(op:Op):Option Value:=match k with
 |some (.F0 _ x)=>some x.u
 |some (.eq _ v _)=>some v
 |some (.NQ j)=>match op with
  | .load T x=>match AL E x with
   |some (.pointer (some ⟨_,a,none⟩))=>match L[j]? with
    |some q=>match ro rs T with
     |some n=>Zm (q.cs.drop a) n fun us=>some (.agg us.toArray)
     |none=>q.cs[a]?
    |none=>none
   |_=>none
  |_=>none
 |_=>By B1 E op
def cu{P:Program}(B1:List (Nat×List Nat))(os:List Nat)(rs:List (Nat×Nat))(ks:List (Nat×Oa P))(ops:Array Oper):List Oper->Nat->Own->List (Nat×Value)->List (Nat×VA)->Env->Option (List (Nat×Value)×List (Nat×VA)×Own×Env)
 |[],_,L,vs,S',E=>some (vs,S',L,E)
 |o::r,i,L,vs,S',E=>match(match o.guard with
  |none=>some true
  |some (j,b)=>R0 ops E j b)with
  |some false=>match o.dst with
   |some d=>cu B1 os rs ks ops r (i+1) L ((i,undef)::vs) S' ((d,undef)::E)
   |none=>none
  |none=>none
  |some true=>match TB ks i with
  |some (.st j)=>match o.op with
   | .store _ x y=>match AL E x with
    |some (.pointer (some ⟨b,a,none⟩))=>match AL E y with
     |some (.agg us)=>lE L j (fun q k=>lT q.cs a us.toList fun cs=>k (AO b q.ty cs)) fun DZ=>cu B1 os rs ks ops r (i+1) DZ vs (S'++[(i,⟨j,b,a,us.toList⟩)]) E
     |some u=>lE L j (fun q k=>lT q.cs a [u] fun cs=>k (AO b q.ty cs)) fun DZ=>cu B1 os rs ks ops r (i+1) DZ vs (S'++[(i,⟨j,b,a,[u]⟩)]) E
     |none=>none
    |_=>none
   |_=>none
  |k=>match o.dst with
   |none=>none
   |some d=>match uk B1 rs k E L o.op with
    |some u=>cu B1 os rs ks ops r (i+1) L ((i,u)::vs) S' ((d,u)::E)
    |none=>none
def YC(l:List Oper)(d:Nat):Bool:=l.any fun o=>match o.dst with
 |some e=>Nat.beq e d
 |none=>false
def Gv(l:List Oper):Env->Env
 |[]=>[]
 |(d,v)::r=>bif YC l d then Gv l r else(d,v)::Gv l r
def hO{β:Type}(l:List Oper):Env->(Env->Option β)->Option β
 |[],k=>k []
 |(d,v)::r,k=>bif YC l d then hO l r k else hO l r fun e=>k ((d,v)::e)
inductive Jl where
 |v (l:List Value)
 |o (q:C4)
 |a (l:List (Option Atom))
def GF(l:List Oper)(i:Nat):List Nat:=match l[i]? with
 |some o=>(o.after.toList.filter fun e=>Region.binds .any e&&((match e.ground with
  | .data=>true
  | .guard=>true
  |_=>false)||(match o.guard with
  |some (j,_)=>Nat.beq j e.on
  |none=>false))&&(CN l e.on).isSome).map (·.on)
 |none=>[]
def Aw4(l:List Oper)(Eu:List Nat):Nat->List (List Nat)->List (List Nat)
 |0,_=>[]
 |n+1,Aw8=>Aw8++Aw4 l Eu n (Aw8.flatMap fun h=>(Eu.filter fun i=> !h.contains i&&Eu.all fun x=> !Gp l x i||h.contains x).map fun i=>h++[i])
@[reducible] def AuO(l:List Oper)(L:Own)(vs:List (Nat×Value))(S':List (Nat×VA)):Iq:=
 ⟨GF l,fun _ _=>True,fun _ _=>[],Ex vs,fun h _=>AuU S' L h,S'.map (·.1),Aw4 l (S'.map (·.1)) (S'.length+1) [[]]⟩
def bF{α:Type}{β:Type 1}(f:α->Option (List β)):List α->Option (List β)
 |[]=>some []
 |x::r=>match f x with
  |some a=>match bF f r with
   |some b=>some (a++b)
   |none=>none
  |none=>none
def q1(os:List Nat)(rs:List (Nat×Nat))(T b a j:Nat)(u:Value)(L:Own):Option (List (Jl×Jl)):=match L[j]? with
 |some q=>match ro rs T with
  |some n=>bif Nat.beq ((q.cs.drop a).take n).length n then some [(.o q,.o (AO b q.ty q.cs)),(.v [u],.v [.agg ((q.cs.drop a).take n).toArray])]else none
  |none=>bif A7 os T then(match q.cs[a]? with
   |some v=>some [(.o q,.o (AO b q.ty q.cs)),(.v [u],.v [v])]
   |none=>none)else none
 |none=>none
def AjM(os:List Nat)(rs:List (Nat×Nat))(T b a:Nat)(u:Value)(e:VA)(L:Own):Option (List (Jl×Jl)):=match L[e.j]? with
 |some q=>match u with
  | .agg us=>match ro rs T with
   |some n=>bif Nat.beq us.toList.length n&&us.toList.all (·.oneCell')&&Nat.ble (a+us.toList.length) q.cs.length then some [(.o q,.o (AO b q.ty q.cs)),(.v (.pointer (some ⟨b,a,none⟩)::us.toList),.v (.pointer (some ⟨e.b,e.o,none⟩)::e.us))]else none
   |none=>none
  |u=>bif A7 os T&&u.oneCell'&&Nat.blt a q.cs.length then some [(.o q,.o (AO b q.ty q.cs)),(.v [.pointer (some ⟨b,a,none⟩),u],.v (.pointer (some ⟨e.b,e.o,none⟩)::e.us))]else none
 |none=>none
def k9{P:Program}(B1:List (Nat×List Nat))(os:List Nat)(rs:List (Nat×Nat))(env:Env)(SV:List Own)(D:List Atom)(k:Option (Oa P))(u:Value)(op:Op):Option (List (Jl×Jl)):=match k with
 |some (.F0 ix x)=>match op with
  | .call ⟨.value (.func f),xs,_⟩=>match Gq env xs.toList with
   |some us=>bif Nat.beq f x.f then some [(.v (u::us),.v (x.u::x.us)),(.a (x.DB.map some),.a (ix.map fun i=>D[i]?))]else none
   |none=>none
  |_=>none
 |some (.NQ j)=>match op with
  | .load T x=>match AL env x with
   |some (.pointer (some ⟨b,a,none⟩))=>bF (q1 os rs T b a j u) SV
   |_=>none
  |_=>none
 |some (.st _)=>none
 |some (.eq v w _)=>match By B1 env op with
  |some J4=>some [(.v [u,J4],.v [w,v])]
  |none=>none
 |none=>match By B1 env op with
  |some v=>some [(.v [u],.v [v])]
  |none=>none
def rT{P:Program}(B1:List (Nat×List Nat))(os:List Nat)(rs:List (Nat×Nat))(env:Env)(SV:List Own)(D:List Atom)(k:Option (Oa P))(S_:Option VA)(val:Option Value):Oper->Option (List (Jl×Jl))
 |⟨some _,op,_,_,_,none⟩=>match S_ with
  |some _=>none
  |none=>match val with
   |some u=>k9 B1 os rs env SV D k u op
   |none=>none
 |⟨none,.store T x y,_,_,_,none⟩=>match S_ with
  |some e=>match AL env x with
   |some (.pointer (some ⟨b,a,none⟩))=>match AL env y with
    |some u=>bF (AjM os rs T b a u e) SV
    |none=>none
   |_=>none
  |none=>none
 |_=>none
def kA{P:Program}(B1:List (Nat×List Nat))(os:List Nat)(rs:List (Nat×Nat))(ops:Array Oper)(env:Env)(SV:List Own)(D:List Atom)(k:Option (Oa P))(S_:Option VA)(val:Option Value)(o:Oper):Option (List (Jl×Jl)):=match(match o.guard with
 |none=>some true
 |some (j,b)=>R0 ops env j b)with
 |some true=>rT B1 os rs env SV D k S_ val ⟨o.dst,o.op,o.type,o.pos,o.after,none⟩
 |some false=>match o.dst with
  |some _=>match S_ with
   |some _=>none
   |none=>match val with
    |some u=>some [(.v [u],.v [undef])]
    |none=>none
  |none=>none
 |none=>none
def Avo{P:Program}(B1:List (Nat×List Nat))(os:List Nat)(rs:List (Nat×Nat))(ks:List (Nat×Oa P))(env:Env)(D:List Atom)(l:List Oper)(s:Iq)(S':List (Nat×VA)):List Oper->Nat->Option (List (Jl×Jl))
 |[],_=>some []
 |o::r,i=>match kA B1 os rs l.toArray (Eo l (EC s.Eb fun _=>undef) (GF l i)++env) ((Ro l s i).map fun h=>s.L h []) D (TB ks i) (Ex S' i) (s.Eb i) o with
  |some a=>match Avo B1 os rs ks env D l s S' r (i+1)with
   |some b=>some (a++b)
   |none=>none
  |none=>none
def Av6(l:List Oper)(vs:List (Nat×Value)):Bool:=(List.range l.length).all fun i=> !(CN l i).isSome||(Ex vs i).isSome
def UD(l:List Oper)(vs:List (Nat×Value)):List Nat->Env
 |[]=>[]
 |i::r=>match CN l i with
  |some d=>match Ex vs i with
   |some u=>(d,u)::UD l vs r
   |none=>UD l vs r
  |none=>UD l vs r
def kz(l:List Oper)(env:Env)(s:Iq)(n:Nat):Bool:=Pv l env&&ND l&&LX l n&&OL l s
theorem eqs{α:Type 1}{A:List (α×α)}(h:A.map Prod.fst=A.map Prod.snd):∀p∈A,p.1=p.2:=fun p AH=>ADS.1 h p AH
theorem rn{α:Type}{β:Type 1}{f:α->Option (List β)}:∀{l:List α} {A:List β},bF f l=some A->∀x∈l,∃B,f x=some B/\∀p∈B,p∈A
 |y::r,A,h,x,Ab=>by
  simp only[bF]at h;split at h
  · rename_i a AK;split at h
    · rename_i b Aq;injection h with h;subst h;rcases ABf.1 Ab with rfl|Ab
      · exact⟨a,AK,fun p AH=>ABm.2 (.inl AH)⟩
      · obtain⟨B,Af,h2⟩:=rn Aq x Ab;exact⟨B,Af,fun p AH=>ABm.2 (.inr (h2 p AH))⟩
    · cases h
  · cases h
theorem q9{α:Type _}{i:Nat}:∀{l:List (Nat×α)},(l.map (·.1)).contains i=(Ex l i).isSome
 |[]=>rfl
 |(j,a)::r=>by
  have Cg:=q9 (i:=i) (l:=r);simp only[Ex,AB8,List.contains_cons];by_cases h:j=i
  · subst h;simp
  · have Af:Nat.beq j i=false:=ACH _▸fun e=>h (ACI e);have h2:(i==j)=false:=(by simpa using Ne.symm h);rw[Af,h2,Cg];rfl
section
variable{c:Cj} {l:List Oper} {env:Env} {L:Own} {D:List Atom} {vs:List (Nat×Value)} {S':List (Nat×VA)} {ks:List (Nat×Oa c.P)}
theorem Av7{V:Nat->Value}:∀{is:List Nat},FM (AuO l L vs S').rs V is=[]
 |[]=>rfl
 |_::r=>Av7 (is:=r)
theorem Ayp(AK:Av6 l vs=true)(V:Nat->Value)(is:List Nat):Eo l (EC (Ex vs) V) is=Eo l (EC (Ex vs) fun _=>undef) is:=UC fun k _ AE=>by
 have Lb:k<l.length:=by
  rcases ACq k l.length with h|h
  · exact h
  · simp[CN,ACd h]at AE
 have:=ABq.1 AK k (ABw.2 Lb);rw[AE]at this;obtain⟨v,BC⟩:=ACC.1 (by simpa using this);simp[EC,BC]
theorem Aih[Cr:J7 c.P]{Q:AuE}{ops:Array Oper}{rest:List Oper}{E:Env}{SV:List Own}{Dd:List Atom}{k:Option (Oa c.P)}{u:Value}{op:Op}{d:Nat}{t:TypeId}{p:String}{af:Array Edge}{A:List (Jl×Jl)}(Ao:Nat.blt d c.n=true)(h:k9 Cr.B1 Cr.os Cr.rs E SV D k u op=some A)(he:∀p∈A,p.1=p.2)(Dv:L∈SV)(DK:Bg D Dd)
 (La:Cb Q c ops rest ((d,u)::E) L Dd):Cb Q c ops (⟨some d,op,t,p,af,none⟩::rest) E L Dd:=by
 unfold k9 at h;split at h
 · rename_i ix x;split at h
   · rename_i f xs ats;split at h
     · rename_i us I1;cases BI:Nat.beq f x.f with
       |false=>rw[BI]at h;cases h
       |true=>
        rw[BI]at h;simp only[ACK,ABX]at h;subst h;have B4:=he _ (ABx ..);have DC:=he _ (ABR _ (ABx ..));simp only[Jl.v.injEq,ACj,Jl.a.injEq]at B4 DC;obtain⟨rfl,rfl⟩:=B4;have BI:=ACI BI;subst BI;have:=B0 (Q:=Q) (ops:=ops) (rest:=rest) (d:=d) (t:=t) (p:=p) (af:=af) (env:=E) (L:=L) (D:=Dd) (ats:=ats) (xs:=xs.toList) x.h x.ok I1 (fun a AK=>by
         have Af:some a∈x.DB.map some:=AB6.2 ⟨a,AK,rfl⟩;rw[DC]at Af;obtain⟨q,_,B'⟩:=AB6.1 Af;exact DK _ (AA' B')) Ao La
        simpa using this
     · cases h
   · cases h
 · rename_i j;split at h
   · rename_i T x;split at h
     · rename_i b a Ab;obtain⟨B,Ew,eA⟩:=rn h _ Dv;unfold q1 at Ew;split at Ew
       · rename_i q B';split at Ew
         · rename_i n Bh;cases Qb:Nat.beq ((q.cs.drop a).take n).length n with
           |false=>rw[Qb]at Ew;cases Ew
           |true=>
            rw[Qb]at Ew;simp only[ACK,ABX]at Ew;subst Ew;have B4:=he _ (eA _ (ABx ..));have DC:=he _ (eA _ (ABR _ (ABx ..)));simp only[Jl.v.injEq,ACj,Jl.o.injEq,ACs]at B4 DC;subst DC;have Qb:=ACI Qb;exact BJ j ((q.cs.drop a).take n) Ab (B'.trans (ABE some B4)) (by rw[Qb];exact fR Cr.b0 Bh) (by rw[Qb]) Ao La
         · cases Dk:A7 Cr.os T with
           |false=>rw[Dk]at Ew;cases Ew
           |true=>
            rw[Dk]at Ew;simp only[ACK]at Ew;split at Ew
            · rename_i v BC;injection Ew with Ew;subst Ew;have B4:=he _ (eA _ (ABx ..));have DC:=he _ (eA _ (ABR _ (ABx ..)));simp only[Jl.v.injEq,ACj,Jl.o.injEq,ACs]at B4 DC;subst DC;exact ME j Ab (B'.trans (ABE some B4)) (a9 Cr.Qq Dk) BC Ao La
            · cases Ew
       · cases Ew
     · cases h
   · cases h
 · cases h
 · rename_i v w Acp;split at h
   · rename_i J4 BC;injection h with h;subst h;have B4:=he _ (ABx ..);simp only[Jl.v.injEq,ACj,ACs]at B4;obtain⟨rfl,rfl⟩:=B4;subst Acp;exact cc Cr.okF BC Ao La
   · cases h
 · split at h
   · rename_i v BC;injection h with h;subst h;have B4:=he _ (ABx ..);simp only[Jl.v.injEq,ACj,ACs]at B4;subst B4;exact cc Cr.okF BC Ao La
   · cases h
theorem Azd[Cr:J7 c.P]{i:Nat}{o:Oper}(CK:o.guard=none){A:List (Jl×Jl)}(Abz:CN l i=o.dst)(Ts:∀d,o.dst=some d->Nat.blt d c.n=true)(he:∀p∈A,p.1=p.2)
 (h:rT Cr.B1 Cr.os Cr.rs (Eo l (EC (Ex vs) fun _=>undef) (GF l i)++env) ((Ro l (AuO l L vs S') i).map fun h=>(AuO l L vs S').L h []) D (TB ks i) (Ex S' i) (Ex vs i) o=some A)(Az:List Atom)(ws:List Value):
 ∀h∈Ro l (AuO l L vs S') i,Cb (Nf c l (AuO l L vs S') (D++Az) i h ws) c l.toArray [o] (Eo l (EC (Ex vs) fun _=>undef) (GF l i)++env) (AuU S' L h) (D++Az):=by
 generalize Ge:Eo l (EC (Ex vs) fun _=>undef) (GF l i)++env=E at h ⊢;intro hh hm;have AaY:AuU S' L hh∈(Ro l (AuO l L vs S') i).map fun h=>(AuO l L vs S').L h []:=AB6.2 ⟨hh,hm,rfl⟩;have Abx:(AuO l L vs S').Eu.contains i=(Ex S' i).isSome:=q9;obtain⟨dst,op,t,p,af,g⟩:=o;simp only at Abz Ts;unfold rT at h;split at h
 · rename_i d An8 Aj0 p' Al6 Fb;simp only[Oper.mk.injEq]at Fb;obtain⟨rfl,rfl,rfl,rfl,rfl,rfl⟩:=Fb;have Ao:=Ts _ rfl;split at h
   · cases h
   · rename_i AbE;split at h
     · rename_i u hu;have La:Cb (Nf c l (AuO l L vs S') (D++Az) i hh ws) c l.toArray [] ((d,u)::E) (AuU S' L hh) (D++Az):=nl (Ig (d:=d) (u:=u) Abz (by simp[C1]) (by
        unfold Qp;rw[Abx,AbE];rfl) (by show(match Ex vs i with|some v=>u=v|none=>True);rw[hu]) Bg.nil Bg.refl)
       exact Aih Ao h he AaY (fun a AK=>ABm.2 (.inl AK)) La
     · cases h
 · rename_i T x y Aj0 p' Al6 Fb;simp only[Oper.mk.injEq]at Fb;obtain⟨rfl,rfl,rfl,rfl,rfl,rfl⟩:=Fb;split at h
   · rename_i e AbE;split at h
     · rename_i b a Ab;split at h
       · rename_i u Bf;obtain⟨B,Ew,eA⟩:=rn h _ AaY;unfold AjM at Ew;split at Ew
         · rename_i q B';have La:∀{cs:List Value},Avu (AuU S' L hh) e=(AuU S' L hh).set e.j (AO b q.ty cs)->Cb (Nf c l (AuO l L vs S') (D++Az) i hh ws) c l.toArray [] E ((AuU S' L hh).set e.j (AO b q.ty cs)) (D++Az):=fun I0=>nl (YW Abz (by
            unfold Qp;rw[Abx,AbE];simp only[Option.isSome_some,if_true];exact I0.symm.trans (AxP AbE).symm) Bg.refl)
           have AvR:Avu (AuU S' L hh) e=(AuU S' L hh).set e.j (AO e.b q.ty (MO q.cs e.o e.us)):=by
            unfold Avu;simp only[show(AuU S' L hh)[e.j]? =some q from B']
           split at Ew
           · rename_i us;split at Ew
             · rename_i n Bh;cases CK:(Nat.beq us.toList.length n&&us.toList.all (·.oneCell')&&Nat.ble (a+us.toList.length) q.cs.length)with
               |false=>rw[CK]at Ew;cases Ew
               |true=>
                rw[CK]at Ew;simp only[ACK,ABX]at Ew;subst Ew;have B4:=he _ (eA _ (ABx ..));have DC:=he _ (eA _ (ABR _ (ABx ..)));simp only[Jl.v.injEq,ACj,Jl.o.injEq,AGx,ABX,Addr.mk.injEq,ACs]at B4 DC;obtain⟨⟨h1,az⟩,Awg⟩:=DC;simp only[ABb]at CK;obtain⟨⟨Hj,G1⟩,Jt⟩:=CK;have Hj:=ACI Hj;have Jt:=ABy Jt;rw[<-h1,<-az,<-Awg]at AvR;exact stM e.j Ab (us:=us.toList) (by simpa using Bf) (B'.trans (ABE some B4)) (by rw[Hj];exact fR Cr.b0 Bh) G1 Jt (La AvR)
             · cases Ew
           · cases CK:(A7 Cr.os T&&u.oneCell'&&Nat.blt a q.cs.length)with
             |false=>rw[CK]at Ew;cases Ew
             |true=>
              rw[CK]at Ew;simp only[ACK,ABX]at Ew;subst Ew;have B4:=he _ (eA _ (ABx ..));have DC:=he _ (eA _ (ABR _ (ABx ..)));simp only[Jl.v.injEq,ACj,Jl.o.injEq,AGx,ABX,Addr.mk.injEq,ACs]at B4 DC;obtain⟨⟨h1,az⟩,Awg⟩:=DC;simp only[ABb]at CK;obtain⟨⟨Hj,G1⟩,Jt⟩:=CK;rw[<-h1,<-az,<-Awg]at AvR;exact Fi e.j Ab Bf (B'.trans (ABE some B4)) (a9 Cr.Qq Hj) G1 (EU Jt) (La AvR)
         · cases Ew
       · cases h
     · cases h
   · cases h
 · cases h
theorem Aze[Cr:J7 c.P]{i:Nat}{o:Oper}{A:List (Jl×Jl)}(Bw:l[i]? =some o)(EY:LX l c.n=true)(he:∀p∈A,p.1=p.2)
 (h:kA Cr.B1 Cr.os Cr.rs l.toArray (Eo l (EC (Ex vs) fun _=>undef) (GF l i)++env) ((Ro l (AuO l L vs S') i).map fun h=>(AuO l L vs S').L h []) D (TB ks i) (Ex S' i) (Ex vs i) o=some A)(Az:List Atom)(ws:List Value):
 ∀h∈Ro l (AuO l L vs S') i,Cb (Nf c l (AuO l L vs S') (D++Az) i h ws) c l.toArray [o] (Eo l (EC (Ex vs) fun _=>undef) (GF l i)++env) (AuU S' L h) (D++Az):=by
 obtain⟨dst,op,t,p,af,g⟩:=o;have Abz:CN l i=dst:=by simp[CN,Bw]
 have Ts:∀d,dst=some d->Nat.blt d c.n=true:=fun d e=>gh EY Bw e;unfold kA at h;simp only at h;split at h
 · rename_i CK;intro hh hm;have k:=Azd (o:=⟨dst,op,t,p,af,none⟩) rfl Abz Ts he h Az ws hh hm;cases g with
   |none=>exact k
   |some g=>exact iy CK k
 · rename_i CK;split at h
   · rename_i d;split at h
     · cases h
     · rename_i AbE;split at h
       · rename_i u hu;injection h with h;subst h;have B4:=he _ (ABx ..);simp only[Jl.v.injEq,ACj,ACs]at B4;subst B4;intro hh hm;have Abx:(AuO l L vs S').Eu.contains i=(Ex S' i).isSome:=q9;cases g with
         |none=>cases CK
         |some g=>
          refine iu CK (Ts _ rfl) (nl (Ig (d:=d) (u:=undef) Abz (by simp[C1]) (by
           unfold Qp;rw[Abx,AbE];rfl) (by show(match Ex vs i with|some v=>undef=v|none=>True);rw[hu]) Bg.nil Bg.refl))
       · cases h
   · cases h
 · cases h
theorem Axc[Cr:J7 c.P](EY:LX l c.n=true)(AvQ:Av6 l vs=true):∀{r:List Oper} {i:Nat} {A:List (Jl×Jl)},(∀k,r[k]? =l[i+k]?)->Avo Cr.B1 Cr.os Cr.rs ks env D l (AuO l L vs S') S' r i=some A->(∀p∈A,p.1=p.2)->OG c l (AuO l L vs S') env D r i
 |[],_,_,_,_,_=>trivial
 |o::r,i,A,Bh,h,he=>by
  have NL:∀k,r[k]? =l[i+1+k]? :=fun k=>by
   have:=Bh (k+1);simp only[ABC]at this;rw[this];congr 1;omega
  have Bw:l[i]? =some o:=(by have:=Bh 0;simpa using this.symm);simp only[Avo]at h;split at h
  · rename_i a AK;split at h
    · rename_i b Aq;injection h with h;subst h;refine⟨fun V Az _=>E7.intro fun hh hm=>?_,Axc EY AvQ NL Aq fun p AH=>he p (ABm.2 (.inr AH))⟩;have:=Aze Bw EY (fun p AH=>he p (ABm.2 (.inl AH))) AK Az (hh.map V) hh hm;rw[show(AuO l L vs S').E8=GF l from rfl,show(AuO l L vs S').Eb=Ex vs from rfl,Ayp AvQ V,Av7];exact this
    · cases h
  · cases h
theorem nY:S6 l (GF l)=true:=ABq.2 fun i Ag=>ABq.2 fun k AE=>by
 unfold GF at AE;split at AE
 · rename_i o A7;obtain⟨e,he,rfl⟩:=AB6.1 AE;obtain⟨Af,h2⟩:=ABZ.1 he;simp only[ABb]at h2;simp only[ABb];exact⟨(S9 A7).2 ⟨e,AC3.1 Af,h2.1.1,rfl⟩,h2.2⟩
 · cases AE
theorem oI{i:Nat}{v:Value}:∀{is:List Nat},C1 (UD l vs is) i=some v->∃k∈is,CN l k=some i/\Ex vs k=some v
 |[],h=>by cases h
 |k::r,h=>by
  have Cg:C1 (UD l vs r) i=some v->∃Gh∈k::r,CN l Gh=some i/\Ex vs Gh=some v:=fun h=>by
   obtain⟨Gh,Bw,Af⟩:=oI h;exact⟨Gh,ABR _ Bw,Af⟩
  simp only[UD]at h;split at h
  · rename_i d AJ;split at h
    · rename_i u hu;simp only[C1]at h;by_cases KN:d=i
      · subst KN;simp at h;subst h;exact⟨k,by simp,AJ,hu⟩
      · have:(d==i)=false:=(by simpa using KN);rw[this]at h;exact Cg h
    · exact Cg h
  · exact Cg h
theorem j5{V:Nat->Value}{k d:Nat}(AJ:CN l k=some d)(hu:∀Gh,CN l Gh=some d->Gh=k):∀{is:List Nat},k∈is->C1 (Eo l V is) d=some (V k)
 |Gh::r,h=>by
  simp only[Eo];by_cases AE:Gh=k
  · subst AE;rw[AJ];simp[C1]
  · have Cg:=j5 (V:=V) AJ hu (is:=r) ((ABf.1 h).resolve_left (Ne.symm AE));split
    · rename_i RQ F6;have FG:RQ≠d:=fun e=>AE (hu Gh (e▸F6));have:(RQ==d)=false:=(by simpa using FG);simp only[C1,this,ACx];exact Cg
    · exact Cg
theorem q'{A B:Env}{i:Nat}{v:Value}(h:C1 A i=some v):C1 (A++B) i=some v:=by
 induction A with
 |nil=>cases h
 |cons p r Cg=>
  obtain⟨j,u⟩:=p;simp only[ABU,C1]at h ⊢;by_cases Ay:j=i
  · subst Ay;simpa using h
  · have J9:(j==i)=false:=(by simpa using Ay);rw[J9]at h ⊢;exact Cg h
theorem ra{A B:Env}{i:Nat}(h:C1 A i=none):C1 (A++B) i=C1 B i:=by
 induction A with
 |nil=>rfl
 |cons p r Cg=>
  obtain⟨j,u⟩:=p;simp only[ABU,C1]at h ⊢;by_cases Ay:j=i
  · subst Ay;simp at h
  · have J9:(j==i)=false:=(by simpa using Ay);rw[J9]at h ⊢;exact Cg h
theorem ah{i:Nat}{v:Value}:∀{env:Env},C1 (Gv l env) i=some v->C1 env i=some v
 |[],h=>by cases h
 |(d,u)::r,h=>by
  simp only[Gv]at h;by_cases AJ:d=i
  · subst AJ;cases DK:YC l d with
    |false=>rw[DK]at h;simpa[C1]using h
    |true=>
     rw[DK]at h;simp only[ACK]at h;exfalso;have no:∀{r:Env} {v:Value},C1 (Gv l r) d=some v->False:=by
      intro r;induction r with
      |nil=>intro v h;cases h
      |cons p r Cg=>
       intro v h;obtain⟨e,u⟩:=p;simp only[Gv]at h;cases Ge:YC l e with
       |true=>rw[Ge]at h;exact Cg h
       |false=>
        rw[Ge]at h;simp only[ACx,C1]at h;have FG:e≠d:=fun IV=>by rw[IV,DK]at Ge;cases Ge
        rw[show(e==d)=false by simpa using FG]at h;exact Cg h
     exact no h
  · have F6:(d==i)=false:=(by simpa using AJ);simp only[C1,F6,ACx];cases DK:YC l d with
    |true=>rw[DK]at h;exact ah h
    |false=>
     rw[DK]at h;simp only[ACx,C1,F6]at h;exact ah h
theorem y_{V:Nat->Value}{i:Nat}{v:Value}(h2:Pv l env=true)(Ag:C1 (UD l vs (List.range l.length).reverse++env) i=some v):C1 (Eo l (EC (Ex vs) V) (List.range l.length)++env) i=some v:=by
 have Re:∀{k d:Nat},CN l k=some d->k<l.length/\Qi env d=false/\∀Gh,CN l Gh=some d->Gh=k:=by
  intro k d AJ;have Lb:∀{k d:Nat},CN l k=some d->k<l.length:=fun{k d} AJ=>by
   rcases ACq k l.length with h|h
   · exact h
   · simp[CN,ACd h]at AJ
  have:=ABq.1 h2 k (ABw.2 (Lb AJ));rw[AJ]at this;simp only[ABb,ABe]at this;refine⟨Lb AJ,this.1,fun Gh MC=>?_⟩;have Bo:=ABq.1 this.2 Gh (ABw.2 (Lb MC));rw[MC]at Bo;simpa using Eq.symm (by simpa using Bo)
 rcases YO Ag with h|⟨Ao,h⟩
 · obtain⟨k,AE,AJ,BC⟩:=oI h;obtain⟨F4,_,GY⟩:=Re AJ;have:=q' (B:=env) (j5 (V:=EC (Ex vs) V) AJ GY (ABw.2 F4));rw[show EC (Ex vs) V k=v by simp[EC,BC]]at this;exact this
 · rw[ra,h];cases Ab:C1 (Eo l (EC (Ex vs) V) (List.range l.length)) i with
   |none=>rfl
   |some u=>
    obtain⟨k,_,AJ,_⟩:=U' Ab;have:=(Re AJ).2.1;rw[bw h]at this;cases this
theorem AzQ[Cr:J7 c.P]{Q:AuE}{id:Nat}(ks:List (Nat×Oa c.P)){Ob:Own}{E:Env}
 (_:(hO l env fun e=>cu Cr.B1 Cr.os Cr.rs ks l.toArray l 0 L [] [] e)=some (vs,S',Ob,E))
 (h:(kz l (Gv l env) (AuO l L vs S') c.n,Av6 l vs,(Avo Cr.B1 Cr.os Cr.rs ks (Gv l env) D l (AuO l L vs S') S' l 0).isSome,(Avo Cr.B1 Cr.os Cr.rs ks (Gv l env) D l (AuO l L vs S') S' l 0).map (fun A=>A.map Prod.fst),(Q6 (AuO l L vs S')).map (AuU S' L),UD l vs (List.range l.length).reverse++Gv l env)=(true,true,true,(Avo Cr.B1 Cr.os Cr.rs ks (Gv l env) D l (AuO l L vs S') S' l 0).map (fun A=>A.map Prod.snd),(Q6 (AuO l L vs S')).map (fun _=>Ob),E))
 (k:Eg c Q .normal E Ob D):CF c (.region id l.toArray true) Q env L D:=by
 simp only[ACg]at h;obtain⟨CM,AvQ,Ab0,AK,BI,rfl⟩:=h;obtain⟨A,Ab0⟩:=ACC.1 Ab0;simp only[Ab0,Option.map_some,ABX]at AK
 suffices hw:CF c (.region id l.toArray true) Q (Gv l env) L D from fun a w f=>hw a w ⟨f.size,f.GV,fun i v Ag=>f.at_ i v (ah Ag)⟩
 generalize Gv l env=env at*;simp only[kz,ABb]at CM;obtain⟨⟨⟨h2,C'⟩,EY⟩,BB⟩:=CM;refine lh (AuO l L vs S') (fun _=>Ob) Cr.fq (by
  simp only[fP,ABb];exact⟨⟨⟨⟨nY,h2⟩,C'⟩,EY⟩,BB⟩) rfl (E7.intro fun hh hm _=>?_) (Axc EY AvQ (fun k=>by simp) Ab0 (eqs AK)) fun V _=>?_
 · exact ADS.1 BI hh hm
 · rw[Av7];intro a w f st AR;refine k a w ⟨f.size,f.GV,fun i v Ag=>f.at_ i v ?_⟩ st AR;exact y_ h2 Ag
end
end
section
def uj:List Nat->List Value->Nat->Value
 |i::h,v::vs,k=>bif Nat.beq i k then v else uj h vs k
 |_,_,_=>undef
def RG(gs:List (Nat×(Own->(Nat->Value)->Own)))(L:Own)(h:List Nat)(vs:List Value):Own:=h.foldl (fun L i=>match Ex gs i with
 |some g=>g L (uj h vs)
 |none=>L) L
def dm(gs:List (Nat×(Own->(Nat->Value)->Own)))(L:Own)(V:Nat->Value)(h:List Nat):Own:=h.foldl (fun L i=>match Ex gs i with
 |some g=>g L V
 |none=>L) L
def NZ(p:Nat)(q:C4):Own->Own
 |[]=>[]
 |x::r=>bif Nat.beq r.length p then q::r else x::NZ p q r
def Aw7(p:Nat)(q:C4):Own->Own
 |[]=>[q]
 |x::r=>bif Nat.beq (r.length+1) p then q::x::r else x::Aw7 p q r
structure QF where
 u:Option Value
 at_:Value->List Atom
 e:Bool
def N5(vs:List (Nat×Value))(hs:List (Nat×QF))(i:Nat):Option Value:=match Ex hs i with
 |some k=>k.u
 |none=>Ex vs i
def hl(hs:List (Nat×QF))(i:Nat)(u:Value):List Atom:=match Ex hs i with
 |some k=>k.at_ u
 |none=>[]
def X_(hs:List (Nat×QF)):List Nat:=(hs.filter (·.2.e)).map (·.1)
def fr(Gk:List (Nat×(Value->Prop)))(i:Nat)(u:Value):Prop:=match Ex Gk i with
 |some p=>p u
 |none=>True
@[reducible] def HT(es:List Nat)(CA:List (List Nat))(Gk:List (Nat×(Value->Prop)))(l:List Oper)(vs:List (Nat×Value))(hs:List (Nat×QF))(Hp:List Nat->List Value->Own):Iq:=
 ⟨GF l,fr Gk,hl hs,N5 vs hs,Hp,es,CA⟩
def hj{β:Type 1}:List Atom->List Atom->(List Atom->Option β)->Option β
 |[],B,k=>k B
 |a::r,B,k=>hj r B fun x=>k (a::x)
def rl{β:Type 1}:Own->(Own->Option β)->Option β
 |[],k=>k []
 |q::r,k=>rl r fun x=>k (q::x)
structure wk where
 es:List Nat
 CA:List (List Nat)
 vs:List (Nat×Value)
 L:Own
 E:Env
 A:List Atom
def tq{β:Type 1}:List Nat->Nat->(List Nat->Option β)->Option β
 |[],i,k=>k [i]
 |j::r,i,k=>tq r i fun x=>k (j::x)
def tr{β:Type 1}:List (List Nat)->List Nat->(List (List Nat)->Option β)->Option β
 |[],i,k=>k [i]
 |j::r,i,k=>tr r i fun x=>k (j::x)
def AjK{β:Type 1}(e:Bool)(h:List Nat)(i:Nat)(CA:List (List Nat))(z:List Nat->List (List Nat)->Option β):Option β:=match e with
 |true=>tq h i fun DI=>tr CA DI fun SQ=>z DI SQ
 |false=>z h CA
def Zd{P:Program}(B1:List (Nat×List Nat))(rs:List (Nat×Nat))(ks:List (Nat×Oa P))(hs:List (Nat×QF))(xs:List (List Nat))(QG:List Nat->Own)(V:Nat->Value)(ops:Array Oper):List Oper->Nat->List Nat->List (List Nat)->List (Nat×Value)->Env->Option wk
 |[],_,h,CA,vs,E=>rl (QG h) fun L=>some ⟨h,match xs with
  |[]=>CA
  |_=>xs,vs,L,E,[]⟩
 |o::r,i,h,CA,vs,E=>match Ex hs i with
  |some k=>AjK k.e h i CA fun DI SQ=>match o.dst with
   |some d=>match k.u with
    |some u=>match Zd B1 rs ks hs xs QG V ops r (i+1) DI SQ vs ((d,u)::E)with
     |some ⟨h8,SQ,cV,DZ,SP,Vx⟩=>hj (k.at_ u) Vx fun A=>some ⟨h8,SQ,cV,DZ,SP,A⟩
     |none=>none
    |none=>match Zd B1 rs ks hs xs QG V ops r (i+1) DI SQ vs ((d,V i)::E)with
     |some ⟨h8,SQ,cV,DZ,SP,Vx⟩=>hj (k.at_ (V i)) Vx fun A=>some ⟨h8,SQ,cV,DZ,SP,A⟩
     |none=>none
   |none=>Zd B1 rs ks hs xs QG V ops r (i+1) DI SQ vs E
  |none=>match o.dst with
   |none=>none
   |some d=>match(match o.guard with
    |none=>some true
    |some (j,b)=>R0 ops E j b)with
    |some true=>match uk B1 rs (TB ks i) E (QG h) o.op with
     |some u=>Zd B1 rs ks hs xs QG V ops r (i+1) h CA ((i,u)::vs) ((d,u)::E)
     |none=>none
    |some false=>Zd B1 rs ks hs xs QG V ops r (i+1) h CA ((i,undef)::vs) ((d,undef)::E)
    |none=>none
def hP{β:Type 1}(l:List Oper):Env->(Env->Option β)->Option β
 |[],k=>k []
 |(d,v)::r,k=>bif YC l d then hP l r k else hP l r fun e=>k ((d,v)::e)
def Ot{P:Program}(B1:List (Nat×List Nat))(os:List Nat)(rs:List (Nat×Nat))(ks:List (Nat×Oa P))(hs:List (Nat×QF))(V:Nat->Value)(env:Env)(D:List Atom)(l:List Oper)(s:Iq):List Oper->Nat->Option (List (Jl×Jl))
 |[],_=>some []
 |o::r,i=>match Ex hs i with
  |some _=>Ot B1 os rs ks hs V env D l s r (i+1)
  |none=>match kA B1 os rs l.toArray (Eo l (EC s.Eb V) (GF l i)++env) ((Ro l s i).map fun h=>s.L h (h.map V)) D (TB ks i) none (s.Eb i) o with
   |some a=>match Ot B1 os rs ks hs V env D l s r (i+1)with
    |some b=>some (a++b)
    |none=>none
   |none=>none
def XL(c:Cj)(hs:List (Nat×QF))(l:List Oper)(s:Iq)(env:Env)(D:List Atom):List Oper->Nat->Prop
 |[],_=>True
 |o::r,i=>match Ex hs i with
  |some _=>(∀(V:Nat->Value) (Az:List Atom),E7 (fun k=>s.Eb k=none->s.ok k (V k)) (s.E8 i)->
   E7 (fun h=>Cb (Nf c l s (D++Az) i h (h.map V)) c l.toArray [o] (Eo l (EC s.Eb V) (s.E8 i)++env) (s.L h (h.map V)) (FM s.rs (EC s.Eb V) (s.E8 i)++(D++Az))) (Ro l s i))/\XL c hs l s env D r (i+1)
  |none=>XL c hs l s env D r (i+1)
theorem yT{hs:List (Nat×QF)}{i:Nat}(h:Ex hs i=none):(X_ hs).contains i=false:=by
 have Af:(hs.map (·.1)).contains i=false:=by rw[q9,h];rfl
 rw[<-ACH]at Af ⊢;intro h2;apply Af;simp only[X_,List.contains_eq_mem,ABa]at h2 ⊢;obtain⟨p,AH,rfl⟩:=AB6.1 h2;exact AB6.2 ⟨p,(ABZ.1 AH).1,rfl⟩
section
variable{c:Cj} {l:List Oper} {env:Env} {L:Own} {D:List Atom} {vs:List (Nat×Value)} {ks:List (Nat×Oa c.P)} {hs:List (Nat×QF)} {Hp:List Nat->List Value->Own} {Gk:List (Nat×(Value->Prop))} {es:List Nat} {CA:List (List Nat)}
theorem Afu[Cr:J7 c.P]{V:Nat->Value}{i:Nat}{o:Oper}{A:List (Jl×Jl)}(Bw:l[i]? =some o)(EY:LX l c.n=true)(he:∀p∈A,p.1=p.2)(Ag:Ex hs i=none)(aV:X_ hs=es)
 (h:kA Cr.B1 Cr.os Cr.rs l.toArray (Eo l (EC (N5 vs hs) V) (GF l i)++env) ((Ro l (HT es CA Gk l vs hs Hp) i).map fun h=>Hp h (h.map V)) D (TB ks i) none (N5 vs hs i) o=some A)(Az:List Atom):
 ∀h∈Ro l (HT es CA Gk l vs hs Hp) i,Cb (Nf c l (HT es CA Gk l vs hs Hp) (D++Az) i h (h.map V)) c l.toArray [o] (Eo l (EC (N5 vs hs) V) (GF l i)++env) (Hp h (h.map V)) (FM (HT es CA Gk l vs hs Hp).rs (EC (N5 vs hs) V) (GF l i)++(D++Az)):=by
 intro hh hm;have AaY:Hp hh (hh.map V)∈(Ro l (HT es CA Gk l vs hs Hp) i).map fun h=>Hp h (h.map V):=AB6.2 ⟨hh,hm,rfl⟩;have Abx:(HT es CA Gk l vs hs Hp).Eu.contains i=false:=aV▸yT Ag;have Wi:Bg D (FM (HT es CA Gk l vs hs Hp).rs (EC (N5 vs hs) V) (GF l i)++(D++Az)):=fun t Av=>ABm.2 (.inr (ABm.2 (.inl Av)));obtain⟨dst,op,t,p,af,g⟩:=o;have Abz:CN l i=dst:=by simp[CN,Bw]
 have Ts:∀d,dst=some d->Nat.blt d c.n=true:=fun d e=>gh EY Bw e;have La:∀{d:Nat} {u:Value},dst=some d->N5 vs hs i=some u->Cb (Nf c l (HT es CA Gk l vs hs Hp) (D++Az) i hh (hh.map V)) c l.toArray [] ((d,u)::(Eo l (EC (N5 vs hs) V) (GF l i)++env)) (Hp hh (hh.map V)) (FM (HT es CA Gk l vs hs Hp).rs (EC (N5 vs hs) V) (GF l i)++(D++Az)):=fun{d u} e hu=>
  nl (Ig (d:=d) (u:=u) (Abz.trans e) (by simp[C1]) (by
   unfold Qp;rw[Abx];rfl) (by show(match N5 vs hs i with|some v=>u=v|none=>fr Gk i u);rw[hu]) (by
   show Bg (hl hs i u) _;unfold hl;rw[Ag];exact Bg.nil) l1)
 unfold kA at h;simp only at h;split at h
 · rename_i CK;unfold rT at h;split at h
   · rename_i d An8 Aj0 p' Al6 Fb;simp only[Oper.mk.injEq]at Fb;obtain⟨rfl,rfl,rfl,rfl,rfl,_⟩:=Fb;simp only at h;split at h
     · rename_i u hu;have k:=Aih (c:=c) (ops:=l.toArray) (t:=t) (p:=p) (af:=af) (Ts _ rfl) h he AaY Wi (La rfl hu);cases g with
       |none=>exact k
       |some g=>exact iy CK k
     · cases h
   · cases h
   · cases h
 · rename_i CK;split at h
   · rename_i d;split at h
     · rename_i u hu;injection h with h;subst h;have B4:=he _ (ABx ..);simp only[Jl.v.injEq,ACj,ACs]at B4;subst B4;cases g with
       |none=>cases CK
       |some g=>exact iu CK (Ts _ rfl) (La rfl hu)
     · cases h
   · cases h
 · cases h
theorem kx[Cr:J7 c.P](EY:LX l c.n=true)(aV:X_ hs=es):∀{r:List Oper} {i:Nat} {A:(Nat->Value)->List (Jl×Jl)},(∀k,r[k]? =l[i+k]?)->(∀V,Ot Cr.B1 Cr.os Cr.rs ks hs V env D l (HT es CA Gk l vs hs Hp) r i=some (A V))->(∀V,∀p∈A V,p.1=p.2)->XL c hs l (HT es CA Gk l vs hs Hp) env D r i->OG c l (HT es CA Gk l vs hs Hp) env D r i
 |[],_,_,_,_,_,_=>trivial
 |o::r,i,A,Bh,h,he,Dk=>by
  have NL:∀k,r[k]? =l[i+1+k]? :=fun k=>by
   have:=Bh (k+1);simp only[ABC]at this;rw[this];congr 1;omega
  have Bw:l[i]? =some o:=(by have:=Bh 0;simpa using this.symm);simp only[XL]at Dk;simp only[Ot]at h;cases Ag:Ex hs i with
  |some k=>
   rw[Ag]at Dk;simp only[Ag]at h;exact⟨Dk.1,kx EY aV NL h he Dk.2⟩
  |none=>
   rw[Ag]at Dk;simp only[Ag]at h;refine⟨fun V Az _=>E7.intro fun hh hm=>?_,?_⟩
   · have h:=h V;split at h
     · rename_i a AK;split at h
       · rename_i b Aq;injection h with h;exact Afu Bw EY (fun p AH=>he V p (h▸ABm.2 (.inl AH))) Ag aV AK Az hh hm
       · cases h
     · cases h
   · refine kx EY aV NL (A:=fun V=>(Ot Cr.B1 Cr.os Cr.rs ks hs V env D l (HT es CA Gk l vs hs Hp) r (i+1)).getD []) (fun V=>?_) (fun V p AH=>?_) Dk
     · have h:=h V;split at h
       · split at h
         · rename_i b Aq;rw[Aq];rfl
         · cases h
       · cases h
     · have h:=h V;split at h
       · split at h
         · rename_i b Aq;rw[Aq]at AH;injection h with h;exact he V p (h▸ABm.2 (.inr AH))
         · cases h
       · cases h
theorem y'{V:Nat->Value}{i:Nat}{v:Value}(h2:Pv l env=true)(Ag:C1 (Eo l V (List.range l.length).reverse++env) i=some v):C1 (Eo l V (List.range l.length)++env) i=some v:=by
 have Re:∀{k d:Nat},CN l k=some d->k<l.length/\Qi env d=false/\∀Gh,CN l Gh=some d->Gh=k:=by
  intro k d AJ;have Lb:∀{k d:Nat},CN l k=some d->k<l.length:=fun{k d} AJ=>by
   rcases ACq k l.length with h|h
   · exact h
   · simp[CN,ACd h]at AJ
  have:=ABq.1 h2 k (ABw.2 (Lb AJ));rw[AJ]at this;simp only[ABb,ABe]at this;refine⟨Lb AJ,this.1,fun Gh MC=>?_⟩;have Bo:=ABq.1 this.2 Gh (ABw.2 (Lb MC));rw[MC]at Bo;simpa using Eq.symm (by simpa using Bo)
 rcases YO Ag with h|⟨Ao,h⟩
 · obtain⟨k,AE,AJ,rfl⟩:=U' h;obtain⟨F4,_,GY⟩:=Re AJ;exact q' (j5 AJ GY (ABw.2 F4))
 · rw[ra,h];cases Ab:C1 (Eo l V (List.range l.length)) i with
   |none=>rfl
   |some u=>
    obtain⟨k,_,AJ,_⟩:=U' Ab;have:=(Re AJ).2.1;rw[bw h]at this;cases this
theorem AiC[Cr:J7 c.P]{Q:AuE}{id:Nat}(ks:List (Nat×Oa c.P))(hs:List (Nat×QF))(Gk:List (Nat×(Value->Prop)))(_:List (List Nat))(Hp:List Nat->List Value->Own){Ob:(Nat->Value)->Own}{E:(Nat->Value)->Env}{XI:(Nat->Value)->List Atom}
 (h:∀V,(kz l (Gv l env) (HT es CA Gk l vs hs Hp) c.n,Hp [] [],X_ hs,(Ot Cr.B1 Cr.os Cr.rs ks hs V (Gv l env) D l (HT es CA Gk l vs hs Hp) l 0).isSome,(Ot Cr.B1 Cr.os Cr.rs ks hs V (Gv l env) D l (HT es CA Gk l vs hs Hp) l 0).map (fun A=>A.map Prod.fst),(Q6 (HT es CA Gk l vs hs Hp)).map (fun h=>Hp h (h.map V)),Eo l (EC (N5 vs hs) V) (List.range l.length).reverse++Gv l env,FM (HT es CA Gk l vs hs Hp).rs (EC (N5 vs hs) V) ((List.range l.length).filter fun i=>(CN l i).isSome))=(true,L,es,true,(Ot Cr.B1 Cr.os Cr.rs ks hs V (Gv l env) D l (HT es CA Gk l vs hs Hp) l 0).map (fun A=>A.map Prod.snd),(Q6 (HT es CA Gk l vs hs Hp)).map (fun _=>Ob V),E V,XI V))
 (Dk:XL c hs l (HT es CA Gk l vs hs Hp) (Gv l env) D l 0)(k:∀V:Nat->Value,E7 (fun i=>(CN l i).isSome=true->N5 vs hs i=none->fr Gk i (V i)) (List.range l.length)->Eg c Q .normal (E V) (Ob V) (XI V++D)):CF c (.region id l.toArray true) Q env L D:=by
 simp only[ACg]at h
 suffices hw:CF c (.region id l.toArray true) Q (Gv l env) L D from fun a w f=>hw a w ⟨f.size,f.GV,fun i v Ag=>f.at_ i v (ah Ag)⟩
 generalize Gv l env=env at*;have Ab0:∀V,Ot Cr.B1 Cr.os Cr.rs ks hs V env D l (HT es CA Gk l vs hs Hp) l 0=some ((Ot Cr.B1 Cr.os Cr.rs ks hs V env D l (HT es CA Gk l vs hs Hp) l 0).getD []):=fun V=>by
  obtain⟨A,Cl⟩:=ACC.1 (h V).2.2.2.1;rw[Cl];rfl
 have AK:∀V,((Ot Cr.B1 Cr.os Cr.rs ks hs V env D l (HT es CA Gk l vs hs Hp) l 0).getD []).map Prod.fst=((Ot Cr.B1 Cr.os Cr.rs ks hs V env D l (HT es CA Gk l vs hs Hp) l 0).getD []).map Prod.snd:=fun V=>by
  obtain⟨A,Cl⟩:=ACC.1 (h V).2.2.2.1;have:=(h V).2.2.2.2.1;rw[Cl]at this ⊢;simpa using this
 have CM:=(h fun _=>undef).1;have AaX:=(h fun _=>undef).2.1;simp only[kz,ABb]at CM;obtain⟨⟨⟨h2,C'⟩,EY⟩,BB⟩:=CM;refine lh (HT es CA Gk l vs hs Hp) Ob Cr.fq (by
  simp only[fP,ABb];exact⟨⟨⟨⟨nY,h2⟩,C'⟩,EY⟩,BB⟩) AaX (E7.intro fun hh hm V=>?_) (kx EY (h fun _=>undef).2.2.1 (fun k=>by simp) Ab0 (fun V=>eqs (AK V)) Dk) fun V LC=>?_
 · exact ADS.1 (h V).2.2.2.2.2.1 hh hm
 · obtain⟨_,_,_,_,_,_,D2,EO⟩:=h V;rw[EO];intro a w f st AR;refine k V LC a w ⟨f.size,f.GV,fun i v Ag=>f.at_ i v ?_⟩ st AR;rw[<-D2]at Ag;exact y' h2 Ag
theorem AA1[Cr:J7 c.P]{Q:AuE}{id:Nat}(ks:List (Nat×Oa c.P))(hs:List (Nat×QF))(Gk:List (Nat×(Value->Prop)))(xs:List (List Nat))(Hp:List Nat->List Value->Own){Ob:(Nat->Value)->Own}{E:(Nat->Value)->Env}{XI:(Nat->Value)->List Atom}
 (_:∀V,(hP l env fun e=>Zd Cr.B1 Cr.rs ks hs xs (fun h=>Hp h (h.map V)) V l.toArray l 0 [] [[]] [] e)=some ⟨es,CA,vs,Ob V,E V,XI V⟩)
 (h:∀V,(kz l (Gv l env) (HT es CA Gk l vs hs Hp) c.n,Hp [] [],X_ hs,(Ot Cr.B1 Cr.os Cr.rs ks hs V (Gv l env) D l (HT es CA Gk l vs hs Hp) l 0).isSome,(Ot Cr.B1 Cr.os Cr.rs ks hs V (Gv l env) D l (HT es CA Gk l vs hs Hp) l 0).map (fun A=>A.map Prod.fst),(Q6 (HT es CA Gk l vs hs Hp)).map (fun h=>Hp h (h.map V)),Eo l (EC (N5 vs hs) V) (List.range l.length).reverse++Gv l env,FM (HT es CA Gk l vs hs Hp).rs (EC (N5 vs hs) V) ((List.range l.length).filter fun i=>(CN l i).isSome))=(true,L,es,true,(Ot Cr.B1 Cr.os Cr.rs ks hs V (Gv l env) D l (HT es CA Gk l vs hs Hp) l 0).map (fun A=>A.map Prod.snd),(Q6 (HT es CA Gk l vs hs Hp)).map (fun _=>Ob V),E V,XI V))
 (Dk:XL c hs l (HT es CA Gk l vs hs Hp) (Gv l env) D l 0)(k:∀V:Nat->Value,E7 (fun i=>(CN l i).isSome=true->N5 vs hs i=none->fr Gk i (V i)) (List.range l.length)->Eg c Q .normal (E V) (Ob V) (XI V++D)):CF c (.region id l.toArray true) Q env L D:=AiC ks hs Gk xs Hp h Dk k
theorem Vh[Cr:J7 c.P]{Q:AuE}{id:Nat}(ks:List (Nat×Oa c.P))(hs:List (Nat×QF))(Gk:List (Nat×(Value->Prop)))(xs:List (List Nat))(gs:List (Nat×(Own->(Nat->Value)->Own))){Ob:(Nat->Value)->Own}{E:(Nat->Value)->Env}{XI:(Nat->Value)->List Atom}
 (_:∀V,(hP l env fun e=>Zd Cr.B1 Cr.rs ks hs xs (dm gs L V) V l.toArray l 0 [] [[]] [] e)=some ⟨es,CA,vs,Ob V,E V,XI V⟩)
 (h:∀V,(kz l (Gv l env) (HT es CA Gk l vs hs (RG gs L)) c.n,X_ hs,(Ot Cr.B1 Cr.os Cr.rs ks hs V (Gv l env) D l (HT es CA Gk l vs hs (RG gs L)) l 0).isSome,(Ot Cr.B1 Cr.os Cr.rs ks hs V (Gv l env) D l (HT es CA Gk l vs hs (RG gs L)) l 0).map (fun A=>A.map Prod.fst),(Q6 (HT es CA Gk l vs hs (RG gs L))).map (fun h=>RG gs L h (h.map V)),Eo l (EC (N5 vs hs) V) (List.range l.length).reverse++Gv l env,FM (HT es CA Gk l vs hs (RG gs L)).rs (EC (N5 vs hs) V) ((List.range l.length).filter fun i=>(CN l i).isSome))=(true,es,true,(Ot Cr.B1 Cr.os Cr.rs ks hs V (Gv l env) D l (HT es CA Gk l vs hs (RG gs L)) l 0).map (fun A=>A.map Prod.snd),(Q6 (HT es CA Gk l vs hs (RG gs L))).map (fun _=>Ob V),E V,XI V))
 (Dk:XL c hs l (HT es CA Gk l vs hs (RG gs L)) (Gv l env) D l 0)(k:∀V:Nat->Value,E7 (fun i=>(CN l i).isSome=true->N5 vs hs i=none->fr Gk i (V i)) (List.range l.length)->Eg c Q .normal (E V) (Ob V) (XI V++D)):CF c (.region id l.toArray true) Q env L D:=by
 refine AiC ks hs Gk xs (RG gs L) (fun V=>?_) Dk k;have h:=h V;simp only[ACg]at h ⊢;exact⟨h.1,rfl,h.2⟩
theorem Aw9{l:List Nat}{a:Nat}(h:l.elem a=true):a∈l:=List.mem_of_elem_eq_true h
theorem dt{α:Type}{q:α->Prop}{x:α}{r:List α}(h:q x)(k:E7 q r):E7 q (x::r):=⟨h,k⟩
def b8(D:List Atom):List Nat->Option (List Atom)
 |[]=>some []
 |i::r=>match D[i]? with
  |some a=>match b8 D r with
   |some B=>some (a::B)
   |none=>none
  |none=>none
theorem sg:∀{ix:List Nat} {Dd:List Atom},b8 D ix=some Dd->Bg Dd D
 |[],Dd,h=>by
  simp only[b8,ABX]at h;subst h;exact Bg.nil
 |i::r,Dd,h=>by
  simp only[b8]at h;split at h
  · rename_i a AK;split at h
    · rename_i B Ew;injection h with h;subst h;intro t Av;rcases ABf.1 Av with rfl|Av
      · exact AA' AK
      · exact sg Ew t Av
    · cases h
  · cases h
theorem Vu{Q:AuE}{x:Exit}{Dd:List Atom}(ix:List Nat)(h:b8 D ix=some Dd)(k:Eg c Q x env L Dd):Eg c Q x env L D:=fun a w f st AR=>k a w f st (AR.sub (sg h))
end
end
section
section
variable{c:Cj} {ops:Array Oper} {AP:Cj->Array Oper->List Oper->Env->Own->List Atom->Prop} [Dr:Ip AP] {env Jb ay Ta:Env} {L:Own} {D:List Atom} {l rest:List Oper} {d:Nat} {t u:Bool}
include Dr
theorem D4[Cr:J7 c.P](i n:Nat)(Im:List Nat)
 (h:(C1 env i,run c.n Cr.B1 Cr.os ops L n [] l ((i,.bool false)::env))=(some (.bool t),some (rest,(d,.bool false)::Ta,[])))(he:res Im Ta=some Jb)
 (hw:t=true->(∀{e:Env} {Dd:List Atom},res Im e=some Jb->Bg D Dd->AP c ops rest ((d,.bool u)::e) L Dd)->AP c ops l ((i,.bool true)::env) L D)
 (K:AP c ops rest ((d,.bool (t&&u))::Jb) L D):AP c ops l env L D:=by
 simp only[ACg]at h;exact ts h.1 (fun Av=>hw Av fun Af DK=>qv K Av (TP Af) DK) (fun Av=>TR Cr.okF Cr.Qq n h.2 rfl (qw K Av (TP he) Bg.refl))
theorem DE[Cr:J7 c.P](i n:Nat)(Im:List Nat)
 (h:(C1 env i,run c.n Cr.B1 Cr.os ops L n [] l ((i,.bool true)::env))=(some (.bool t),some (rest,(d,.bool true)::Ta,[])))(he:res Im Ta=some Jb)
 (hw:t=false->(∀{e:Env} {Dd:List Atom},res Im e=some Jb->Bg D Dd->AP c ops rest ((d,.bool u)::e) L Dd)->AP c ops l ((i,.bool false)::env) L D)
 (K:AP c ops rest ((d,.bool (t||u))::Jb) L D):AP c ops l env L D:=by
 simp only[ACg]at h;exact tt h.1 (fun Av=>hw Av fun Af DK=>qx K Av (TP Af) DK) (fun Av=>TR Cr.okF Cr.Qq n h.2 rfl (qy K Av (TP he) Bg.refl))
theorem Cp{α:Type}{r:Be α}(i:Nat){v:Value}{xs:List α}(Ag:D[i]? =some (@Atom.mk (List α) (@FI α r) v xs))(k:v.oneCell'=true->AP c ops l env L D):AP c ops l env L D:=
 GO (fun _ _ h=>Fh (h _ (AA' Ag))) k
end
def Zi:Nat->Own->Option (Own×Own)
 |0,L=>some ([],L)
 |n+1,q::L=>match Zi n L with
  |some (A,B)=>some (q::A,B)
  |none=>none
 |_+1,[]=>none
theorem lU:∀{n:Nat} {L A B:Own},Zi n L=some (A,B)->L=A++B
 |0,L,A,B,h=>by
  simp only[Zi,ABX,ACg]at h;obtain⟨rfl,rfl⟩:=h;rfl
 |n+1,q::L,A,B,h=>by
  simp only[Zi]at h;split at h
  · rename_i Vx AlZ e;simp only[ABX,ACg]at h;obtain⟨rfl,rfl⟩:=h;rw[lU e];rfl
  · cases h
section
variable{c:Cj} {ops:Array Oper} {Q:AuE} {env:Env} {L:Own} {D:List Atom} {rest:List Oper} {d:Nat} {t:TypeId} {p:String} {af:Array Edge}
theorem Hs(n:Nat){L0 Lr:Own}{f:FuncId}{vs:List Value}{DB:List Atom}{β:Type}{R:β->Value->Prop}{DM:β->Value->Own}{out:β->Value->List Atom}(h:Aw c.P f vs L0 DB R DM out)(CM:GU c.P f)(Dv:Zi n L=some (L0,Lr)){xs:List Operand}{ats:Array TypeId}
 (Hm:Gq env xs=some vs)(Cl:Bg DB D)(Ao:Nat.blt d c.n=true)(k:∀y v,R y v->Cb Q c ops rest ((d,v)::env) (DM y v++Lr) (out y v++D)):
 Cb Q c ops (⟨some d,.call {callee:=.value (.func f),args:=xs.toArray,argTypes:=ats},t,p,af,none⟩::rest) env L D:=XY h CM (lU Dv) Hm Cl Ao k
theorem VX(n:Nat){L0 Lr:Own}{f:FuncId}{vs us:List Value}{DB:List Atom}{β:Type}{R:β->Value->Prop}{DM:β->Value->Own}{out:β->Value->List Atom}{first cap:Array Value}{x:Operand}(h:Aw c.P f us L0 DB R DM out)(CM:GU c.P f)(Dv:Zi n L=some (L0,Lr)){xs:List Operand}{ats:Array TypeId}
 (Ab:AL env x=some (.func (.func f) first cap))(Hm:Gq env xs=some vs)(I1:first.toList++vs++cap.toList=us)(Cl:Bg DB D)(Ao:Nat.blt d c.n=true)(k:∀y v,R y v->Cb Q c ops rest ((d,v)::env) (DM y v++Lr) (out y v++D)):
 Cb Q c ops (⟨some d,.call {callee:=.value x,args:=xs.toArray,argTypes:=ats},t,p,af,none⟩::rest) env L D:=hD h CM (lU Dv) Ab Hm I1 Cl Ao k
end
theorem Da{a b:Nat}(h:Nat.ble (a+1) b=true):a<b:=ABy h
theorem JP{α:Type}[Inhabited α]{l:List α}{i:Nat}(h:i<l.length:=by omega):l[i]? =some (l.getD i default):=Ly h
end
end Go.A_
namespace Go.Apw
theorem wrap_u8(u:Nat):IntKind.u8.wrap (u:Int)=((u % 256:Nat):Int):=by simp[IntKind.wrap,IntKind.signed,IntKind.bits]
theorem wrap_u64(u:Nat):IntKind.u64.wrap (u:Int)=((u % 18446744073709551616:Nat):Int):=by simp[IntKind.wrap,IntKind.signed,IntKind.bits]
theorem Vb(n a:Nat):(BitVec.ofInt n (a:Int)).toNat=a % 2^n:=by simp
theorem AfS{a b:Nat}(AK:a<256)(Aq:b<256):MY .or .u8 (a:Int) (b:Int)=((a|||b:Nat):Int):=by
 have h:a|||b<2^8:=Nat.or_lt_two_pow AK Aq;show IntKind.u8.wrap ((BitVec.ofInt 8 (a:Int)|||BitVec.ofInt 8 (b:Int)).toNat:Int)=_;rw[BitVec.toNat_or,Vb,Vb];rw[ACJ (show a<2^8 from AK),ACJ (show b<2^8 from Aq),wrap_u8,ACJ h]
theorem w1{a b:Nat}(AK:a<256)(Aq:b<256):MY .and .u8 (a:Int) (b:Int)=((a&&& b:Nat):Int):=by
 have h:a&&& b<2^8:=Nat.and_lt_two_pow a Aq;show IntKind.u8.wrap ((BitVec.ofInt 8 (a:Int)&&& BitVec.ofInt 8 (b:Int)).toNat:Int)=_;rw[BitVec.toNat_and,Vb,Vb];rw[ACJ (show a<2^8 from AK),ACJ (show b<2^8 from Aq),wrap_u8,ACJ h]
theorem rX{a b:Nat}(AK:a<2^64)(Aq:b<2^64):MY .or .u64 (a:Int) (b:Int)=((a|||b:Nat):Int):=by
 have h:a|||b<2^64:=Nat.or_lt_two_pow AK Aq;show IntKind.u64.wrap ((BitVec.ofInt 64 (a:Int)|||BitVec.ofInt 64 (b:Int)).toNat:Int)=_;rw[BitVec.toNat_or,Vb,Vb];rw[ACJ AK,ACJ Aq,wrap_u64,ACJ h]
theorem w0{a b:Nat}(AK:a<2^64)(Aq:b<2^64):MY .and .u64 (a:Int) (b:Int)=((a&&& b:Nat):Int):=by
 have h:a&&& b<2^64:=Nat.and_lt_two_pow a Aq;show IntKind.u64.wrap ((BitVec.ofInt 64 (a:Int)&&& BitVec.ofInt 64 (b:Int)).toNat:Int)=_;rw[BitVec.toNat_and,Vb,Vb];rw[ACJ AK,ACJ Aq,wrap_u64,ACJ h]
theorem AfQ(u:Nat):MY .or .u8 (IntKind.u8.wrap (u:Int)) 128=((u % 128+128:Nat):Int):=by
 rw[wrap_u8];have h:=AfS (a:=u % 256) (b:=128) AGn AGp;rw[show((128:Int))=((128:Nat):Int)from rfl,h];congr 1;have e:u % 256=128*(u % 256 / 128)+u % 128:=AGn;have Bh:u % 128<2^7:=AGn;have Af:u % 256 / 128=0\/u % 256 / 128=1:=AGn;have k:128|||u % 128=128+u % 128:=by
  have:=AEo Bh 1;simpa using this.symm
 rcases Af with Af|Af
 · rw[Af]at e;rw[e,Nat.mul_zero,AB0,Nat.or_comm,k];omega
 · rw[Af]at e;rw[e,Nat.mul_one,<-k,Nat.or_comm,<-Nat.or_assoc,Nat.or_self,k];omega
theorem nf(c:UInt8):MY .and .u8 (c.toNat:Int) 127=((c.toNat % 128:Nat):Int):=by
 rw[show((127:Int))=((127:Nat):Int)from rfl,w1 c.toNat_lt AGp];congr 1;exact AGz c.toNat 7
theorem AjB(u:Nat):((u:Int)).fdiv (2^min (7:Int).toNat IntKind.u64.bits)=((u / 128:Nat):Int):=by
 rw[Int.fdiv_eq_ediv_of_nonneg _ AGp];rfl
theorem th(u:Nat):((u:Int)).fdiv (2^min (1:Int).toNat IntKind.u64.bits)=((u / 2:Nat):Int):=by
 rw[Int.fdiv_eq_ediv_of_nonneg _ AGp];rfl
theorem lN(a k:Nat)(h:a*2^k<2^64)(AE:k<=63):IntKind.u64.wrap ((a:Int)*2^min ((k:Nat):Int).toNat IntKind.u64.bits)=((a*2^k:Nat):Int):=by
 have e:min ((k:Nat):Int).toNat IntKind.u64.bits=k:=by simp only[ACS];show min k 64=k;omega
 rw[e,show(a:Int)*2^k=((a*2^k:Nat):Int)by push_cast;rfl,wrap_u64,ACJ h]
theorem rW{v a k:Nat}(BC:v<2^k)(h:a*2^k<2^64)(AE:k<=63):MY .or .u64 (v:Int) ((a*2^k:Nat):Int)=((v+a*2^k:Nat):Int):=by
 have Acm:v<2^64:=ACp BC (Nat.pow_le_pow_right AGp AGn);rw[rX Acm h,Nat.or_comm,Nat.mul_comm a,<-AEo BC];congr 1;omega
theorem and_1{v:Nat}(BC:v<2^64):MY .and .u64 (v:Int) 1=((v % 2:Nat):Int):=by
 rw[show((1:Int))=((1:Nat):Int)from rfl,w0 BC AGp];congr 1;exact AGz v 1
theorem AfP{v:Nat}(BC:v<2^63):MY .or .u64 ((v*2:Nat):Int) 1=((v*2+1:Nat):Int):=by
 rw[show((1:Int))=((1:Nat):Int)from rfl,rX AGn AGp];congr 1;have:=AEo (i:=1) (b:=1) AGp v;rw[Nat.mul_comm v 2];simpa using this.symm
theorem n'{x:Int}(h:A' x):MY .xor .i64 (if IntKind.i64.signed then-1 else IntKind.i64.max) x= -x-1:=by
 obtain⟨Af,h2⟩:=h;have e:(BitVec.ofInt 64 (-1)^^^BitVec.ofInt 64 x)=BitVec.ofInt 64 (-x-1):=by
  have a:BitVec.ofInt 64 (-1)=BitVec.allOnes 64:=AGp;rw[a,BitVec.allOnes_xor];have:BitVec.ofInt 64 (-x-1)= ~~~ BitVec.ofInt 64 x:=by
   apply BitVec.eq_of_toInt_eq;rw[BitVec.toInt_not,BitVec.toInt_ofInt];have t:(BitVec.ofInt 64 x).toNat=(x % 2^64).toNat:=(by simp[AD7]);rw[t];simp only[Int.bmod];omega
  rw[this]
 show IntKind.i64.wrap _=_;have:∀y:Int,A' y->IntKind.i64.wrap ((BitVec.ofInt 64 y).toNat:Int)=y:=by
  intro y Bf;obtain⟨Bo,BB⟩:=Bf;have t:(BitVec.ofInt 64 y).toNat=(y % 2^64).toNat:=(by simp[AD7]);rw[t];simp only[IntKind.wrap,IntKind.signed,IntKind.bits];simp;omega
 rw[<-this (-x-1) ⟨AGn,AGn⟩,<-e];rfl
theorem bq{v:Nat}(h:v<9223372036854775808):IntKind.i64.wrap (v:Int)=(v:Int):=Uf ⟨AGn,AGn⟩
def GN(v:Nat):List UInt8:=
 if h:v<128 then[UInt8.ofNat v]else UInt8.ofNat (v % 128+128)::GN (v / 128)
termination_by v
decreasing_by omega
def XF(x:Int):Nat:=if x<0 then(-x-1).toNat*2+1 else x.toNat*2
def Ul(v:Nat):Int:=if v % 2=1 then-((v / 2:Nat):Int)-1 else((v / 2:Nat):Int)
theorem AlS(x:Int):Ul (XF x)=x:=by
 unfold XF Ul;split<;>split<;>omega
theorem AlY{x:Int}(h:A' x):XF x<2^64:=by
 obtain⟨Af,h2⟩:=h;unfold XF;split<;>omega
theorem AlR{v:Nat}(h:v<2^64):A' (Ul v):=by
 unfold Ul;split<;>constructor<;>omega
def HH(i v:Nat):List UInt8->Nat×Nat×Nat
 |[]=>(0,0,20)
 |c::r=>
  if i=9/\1<c.toNat then(0,0,21)
  else if 128<=c.toNat then HH (i+1) (v+c.toNat % 128*2^(7*i)) r
  else if c.toNat=0/\0<i then(0,0,21)
  else(v+c.toNat % 128*2^(7*i),i+1,0)
structure Bb where
 pos:Nat
 fault:Nat
def Bb.step(s:Bb)(n e:Nat):Bb:=if s.fault≠0 then s else if e≠0 then{s with fault:=e}else{s with pos:=s.pos+n}
def Bb.val{α:Type}(s:Bb)(d x:α)(e:Nat):α:=if s.fault≠0 then d else if e≠0 then d else x
def L9(J:List UInt8)(most:Int):Nat×Nat×Nat:=
 let(v,n,e):=HH 0 0 J
 if e=0/\max most 0<(v:Int)then(0,0,22)else if e≠0 then(0,0,e)else(v,n,0)
def N3(J:List UInt8)(most:Int):List UInt8×Nat×Nat:=
 let(v,n,e):=L9 J most
 if e≠0 then([],0,e)else if J.length<n+v then([],0,20)else((J.drop n).take v,n+v,0)
def xO:List UInt8->UInt8×Nat×Nat
 |[]=>(0,0,20)
 |c::_=>(c,1,0)
abbrev VJ(α:Type):=Bb->α×Bb
def Lj{α:Type}(J:List UInt8)(d:α)(f:List UInt8->α×Nat×Nat):VJ α:=fun s=>
 let(x,n,e):=f (J.drop s.pos)
 (s.val d x e,s.step n e)
def rdNum(J:List UInt8):VJ Nat:=Lj J 0 (HH 0 0)
def D6(J:List UInt8):VJ Int:=fun s=>(Ul (rdNum J s).1,(rdNum J s).2)
def k5(J:List UInt8):VJ UInt8:=Lj J 0 xO
def DT(J:List UInt8)(most:Int):VJ Nat:=Lj J 0 (fun l=>L9 l most)
def Gm(J:List UInt8)(most:Int):VJ (List UInt8):=Lj J [] (fun l=>N3 l most)
def QZ(x:Int):List UInt8:=GN (XF x)
def RS(b:List UInt8):List UInt8:=GN b.length++b
@[reducible] def TF(p:Nat×Nat×Nat):Value:=.tuple #[.int .u64 (p.1:Int),.int .i64 (p.2.1:Int),.int .i64 (p.2.2:Int)]
@[reducible] def WI(p:Nat×Nat×Nat):Value:=.tuple #[.int .i64 (p.1:Int),.int .i64 (p.2.1:Int),.int .i64 (p.2.2:Int)]
theorem mB{u:Nat}(h:u<2^64):IntKind.u64.wrap (u:Int)=(u:Int):=by rw[wrap_u64,ACJ h]
theorem gf{i c:Nat}(Ag:i<=9)(Bm:i=9->c<=1):c % 128*2^(7*i)<2^64:=by
 have h:i=0\/i=1\/i=2\/i=3\/i=4\/i=5\/i=6\/i=7\/i=8\/i=9:=AGn;rcases h with rfl|rfl|rfl|rfl|rfl|rfl|rfl|rfl|rfl|rfl<;>simp only[Nat.reduceMul,Nat.reducePow]<;>omega
theorem gd{i c v:Nat}(BC:v<2^(7*i)):v+c % 128*2^(7*i)<2^(7*(i+1)):=by
 have h:c % 128<128:=Nat.mod_lt _ AGp;have e:2^(7*(i+1))=128*2^(7*i):=by rw[Nat.mul_add,Nat.pow_add,Nat.mul_comm]
 rw[e];have:c % 128*2^(7*i)<=127*2^(7*i):=ACw _ AGn;omega
theorem yD{α:Type}{J:List α}{i:Nat}{c:α}(h:J[i]? =some c):J.drop i=c::J.drop (i+1):=by
 obtain⟨Ag,rfl⟩:=ABF.1 h;exact List.drop_eq_getElem_cons Ag
theorem AhB{i:Nat}(h:i<=9):2^(7*i)<=2^63:=Nat.pow_le_pow_right AGp AGn
theorem YV:∀(J:List UInt8) (i v:Nat),i<=9->v<2^(7*i)->(HH i v J).1<2^64/\(HH i v J).2.1<=i+J.length/\((HH i v J).2.2≠0->(HH i v J).1=0/\(HH i v J).2.1=0)
 |[],i,v,_,_=>by simp[HH]
 |c::r,i,v,Ag,BC=>by
  have Bm:=c.toNat_lt;simp only[HH];split
  · exact⟨AGp,ABg _,fun _=>⟨rfl,rfl⟩⟩
  · rename_i Af;split
    · have Gf:i+1<=9:=AGn;have h:=YV r (i+1) (v+c.toNat % 128*2^(7*i)) Gf (gd BC);refine⟨h.1,?_,h.2.2⟩;have:=h.2.1;simp only[ABv];omega
    · split
      · exact⟨AGp,ABg _,fun _=>⟨rfl,rfl⟩⟩
      · refine⟨?_,by simp only[ABv];omega,fun h=>absurd rfl h⟩;show v+c.toNat % 128*2^(7*i)<2^64;by_cases EO:i=9
        · subst EO;have:c.toNat % 128<=1:=AGn;simp only[Nat.reduceMul,Nat.reducePow]at BC ⊢;omega
        · have h:=gd (c:=c.toNat) BC;have:=AhB (i:=i+1) AGn;omega
theorem S7{J:List UInt8}{most:Int}{v n e:Nat}(h:HH 0 0 J=(v,n,e)):L9 J most=if e=0/\max most 0<(v:Int)then(0,0,22)else if e≠0 then(0,0,e)else(v,n,0):=by
 simp only[L9,h]
theorem aa(J:List UInt8)(most:Int):((L9 J most).1:Int)<=max most 0/\(L9 J most).2.1<=J.length/\((L9 J most).2.2≠0->(L9 J most).1=0/\(L9 J most).2.1=0):=by
 have Aq:=YV J 0 0 AGp AGp;rcases h:HH 0 0 J with⟨v,n,e⟩;rw[h]at Aq;simp only[AB0]at Aq;rw[S7 h];split
 · exact⟨by show(0:Int)<=_;omega,ABg _,fun _=>⟨rfl,rfl⟩⟩
 · split
   · exact⟨by show(0:Int)<=_;omega,ABg _,fun _=>⟨rfl,rfl⟩⟩
   · rename_i Af h2;have:e=0:=AGn;exact⟨by show(v:Int)<=_;omega,Aq.2.1,fun h=>absurd rfl h⟩
theorem l7{J:List UInt8}{most:Int}{v n e:Nat}(h:L9 J most=(v,n,e)):N3 J most=if e≠0 then([],0,e)else if J.length<n+v then([],0,20)else((J.drop n).take v,n+v,0):=by
 simp only[N3,h]
theorem l6(J:List UInt8)(most:Int):(N3 J most).2.1<=J.length/\((N3 J most).2.2≠0->(N3 J most).1=[]/\(N3 J most).2.1=0)/\((N3 J most).1.length:Int)<=max most 0:=by
 have Aq:=aa J most;rcases h:L9 J most with⟨v,n,e⟩;rw[h]at Aq;rw[l7 h];simp only at Aq;split
 · exact⟨ABg _,fun _=>⟨rfl,rfl⟩,by show(0:Int)<=_;omega⟩
 · split
   · exact⟨ABg _,fun _=>⟨rfl,rfl⟩,by show(0:Int)<=_;omega⟩
   · exact⟨by show n+v<=_;omega,fun h=>absurd rfl h,by simp only[ABz,ACt];omega⟩
theorem SI{x:Int}(Bw:0<=x)(Af:x<18446744073709551616):IntKind.u64.wrap x=x:=by
 have:=mB (u:=x.toNat) AGn
 rwa [Int.toNat_of_nonneg Bw]at this
theorem rr{x:Int}(h:A' x):0<=max x 0/\max x 0<9223372036854775808:=by
 obtain⟨Af,h2⟩:=h;omega
theorem step_pos{J:List UInt8}{s:Bb}{n e:Nat}(AH:s.pos<=J.length)(Ao:n<=(J.drop s.pos).length):(s.step n e).pos<=J.length:=by
 rw[ACt]at Ao;unfold Bb.step;split
 · exact AH
 · split
   · exact AH
   · show s.pos+n<=_;omega
theorem fL{α:Type}{J:List UInt8}{d:α}{f:List UInt8->α×Nat×Nat}{s:Bb}(AH:s.pos<=J.length)(BI:∀l,(f l).2.1<=l.length):(Lj J d f s).2.pos<=J.length:=by
 rcases h:f (J.drop s.pos)with⟨x,n,e⟩;have:=BI (J.drop s.pos);rw[h]at this;simp only[Lj,h];exact step_pos AH this
theorem Aia{J:List UInt8}{s:Bb}(AH:s.pos<=J.length):(rdNum J s).2.pos<=J.length:=fL AH fun l=>by have:=(YV l 0 0 AGp AGp).2.1;omega
theorem Hb{J:List UInt8}{s:Bb}(AH:s.pos<=J.length):(D6 J s).2.pos<=J.length:=Aia AH
theorem W_{J:List UInt8}{most:Int}{s:Bb}(AH:s.pos<=J.length):(DT J most s).2.pos<=J.length:=fL AH fun l=>(aa l most).2.1
theorem Vf{J:List UInt8}{most:Int}{s:Bb}(AH:s.pos<=J.length):(Gm J most s).2.pos<=J.length:=fL AH fun l=>(l6 l most).1
theorem sM(J:List UInt8)(s:Bb):(rdNum J s).1<2^64:=by
 have:=(YV (J.drop s.pos) 0 0 AGp AGp).1;simp only[rdNum,Lj,Bb.val];split
 · decide
 · split
   · decide
   · exact this
theorem HL(J:List UInt8)(s:Bb):A' (D6 J s).1:=AlR (sM J s)
theorem toNat_ofNat{n:Nat}(h:n<256):(UInt8.ofNat n).toNat=n:=by simp;omega
theorem AfR(v:Nat):MY .or .u8 (IntKind.u8.wrap (v:Int)) 128=((UInt8.ofNat (v % 128+128)).toNat:Int):=by rw[AfQ,toNat_ofNat AGn]
theorem wrap_u8'{v:Nat}(h:v<256):IntKind.u8.wrap (v:Int)=((UInt8.ofNat v).toNat:Int):=by rw[wrap_u8,toNat_ofNat h,ACJ h]
theorem tg{y:Int}(Bw:0<=y)(Af:y<9223372036854775808):IntKind.u64.wrap (y*2^min (1:Int).toNat IntKind.u64.bits)=((y.toNat*2:Nat):Int):=by
 have:=lN y.toNat 1 AGn AGp;rw[Int.toNat_of_nonneg Bw]at this;exact this
theorem ec{v:Nat}(h:v<128):GN v=[UInt8.ofNat v]:=by rw[GN];simp[h]
theorem eb{v:Nat}(h:128<=v):GN v=UInt8.ofNat (v % 128+128)::GN (v / 128):=by
 rw[GN];rw[dif_neg AGn]
theorem sm{v n:Nat}(h:128<=v)(Ao:n<=9)(BC:v<2^(64-7*n)):n+1<=9/\v / 128<2^(64-7*(n+1)):=by
 have h:n=0\/n=1\/n=2\/n=3\/n=4\/n=5\/n=6\/n=7\/n=8\/n=9:=AGn;rcases h with rfl|rfl|rfl|rfl|rfl|rfl|rfl|rfl|rfl|rfl<;>simp only[Nat.reduceMul,Nat.reduceAdd,Nat.reduceSub,Nat.reducePow]at BC ⊢ <;>omega
theorem oC:∀(n v:Nat),n<=9->v<2^(64-7*(9-n))->(GN v).length<=n+1
 |n,v,Ao,BC=>by
  by_cases h:v<128
  · rw[ec h];simp
  · have q:=sm (v:=v) (n:=9-n) AGn AGn BC;obtain⟨m,rfl⟩:∃m,n=m+1:=⟨n-1,AGn⟩;have:=oC m (v / 128) AGn (by rw[show 9-m=9-(m+1)+1 by omega];exact q.2);rw[eb AGn];simp only[ABv];omega
theorem yU{v:Nat}(h:v<2^64):(GN v).length<=10:=oC 9 v AGp h
@[reducible] def CG(p:Nat)(bv:Value)(s:Bb):C4:=AO p 337 [bv,.int .i64 (s.pos:Int),.int .i64 (s.fault:Int)]
@[reducible] def Pb(n e:Nat):Value:=.tuple #[.int .i64 (n:Int),.int .i64 (e:Int)]
end Go.Apw
