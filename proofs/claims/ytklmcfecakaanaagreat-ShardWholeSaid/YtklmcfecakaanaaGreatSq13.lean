/- Part 13 of shardWhole_holds. -/
import Derived.Test.YtklmcfecakaanaaGreatSq12

set_option maxRecDepth 20000
set_option maxHeartbeats 1000000
namespace Go
theorem ACo:∀{n m:Nat},n=m→n≤m:=@Nat.le_of_eq
end Go
open Array renaming getD_eq_getD_getElem?→ASf,getElem?_eq_some_iff→AC_,mem_toList_iff→AC3
open Bool renaming false_or→ACZ
open List renaming all_eq_true→ABq,append_nil→AB7,length_cons→ABv,length_nil→ABo,mem_append_left→AC9,mem_append_right→ACV,mem_filter→ABZ,mem_singleton_self→AEm,nil_append→ABK,nodup_cons→ADq
open List.Pairwise renaming filter→AR4
open Nat renaming eq_of_beq_eq_true→ACI
open Option renaming isSome_iff_exists→ACC
open Option.some renaming injEq→ABX
open Prod.mk renaming injEq→ACg
open Go.A_ Go.Proofs Go.Proofs.YtklmcfecakaanaaGreat
namespace Go.A_
section
variable{ω:Type}
structure HA (ω:Type) where
 R:List Nat
 val:ω->Option Value
 at_:ω->List Atom
 PK:List Prop
def LS:List Prop->Prop
 |[]=>True
 |p::r=>p/\LS r
theorem LS.app:∀{A B:List Prop},LS A->LS B->LS (A++B)
 |[],_,_,h=>h
 |_::_,_,h,k=>⟨h.1,LS.app h.2 k⟩
@[reducible] def Ff(R:List Nat)(val:(Nat->Value)->Option Value)(at_:(Nat->Value)->List Atom):HA (Nat->Value):=⟨R,val,at_,[]⟩
def Zb(R:Own):C4 where
 nd:=Dt R
 holds S w:=∀p∈R,p.holds S w
 valid:=by
  intro S w h b Aq;obtain⟨p,AH,Sf⟩:=FW.1 Aq;exact p.valid (h p AH) b Sf
 DY:=by
  intro S Fq w AT h hs hw p AH;exact p.DY (h p AH) hs fun b Aq=>hw b (Aq.imp id fun Aq=>FW.2 ⟨p,AH,Aq⟩)
def K':List C4->Option C4
 |[q]=>some q
 |_=>none
inductive GB (ω:Type) where
 |f0 (q:C4)
 |f1 (a:Nat) (f:ω->List C4)
 |f2 (a b:Nat) (f:ω->ω->List C4)
 |f3 (a b c:Nat) (f:ω->ω->ω->List C4)
 |f5 (a b c d e:Nat) (f:ω->ω->ω->ω->ω->List C4)
def GB.at_(Y:Nat->ω):GB ω->Option C4
 |f0 q=>some q
 |f1 a f=>K' (f (Y a))
 |f2 a b f=>K' (f (Y a) (Y b))
 |f3 a b c f=>K' (f (Y a) (Y b) (Y c))
 |f5 a b c d e f=>K' (f (Y a) (Y b) (Y c) (Y d) (Y e))
def GB.as:GB ω->List Nat
 |f0 _=>[]
 |f1 a _=>[a]
 |f2 a b _=>[a,b]
 |f3 a b c _=>[a,b,c]
 |f5 a b c d e _=>[a,b,c,d,e]
structure J6 (ω:Type) where
 L3:Option C4
 st:List (Nat×GB ω)
theorem GB.congr{Y Ny:Nat->ω}:∀{f:GB ω},(∀x∈f.as,Y x=Ny x)->f.at_ Y=f.at_ Ny
 |f0 _,_=>rfl
 |f1 a _,h=>by simp only[GB.at_,h a (by simp[GB.as])]
 |f2 a b _,h=>by simp only[GB.at_,h a (by simp[GB.as]),h b (by simp[GB.as])]
 |f3 a b c _,h=>by simp only[GB.at_,h a (by simp[GB.as]),h b (by simp[GB.as]),h c (by simp[GB.as])]
 |f5 a b c d e _,h=>by simp only[GB.at_,h a (by simp[GB.as]),h b (by simp[GB.as]),h c (by simp[GB.as]),h d (by simp[GB.as]),h e (by simp[GB.as])]
def TX(S:Nat->Bool)(Y:Nat->ω):List (Nat×GB ω)->Option C4->Option C4
 |[],q=>q
 |(j,f)::r,q=>TX S Y r (bif S j then f.at_ Y else q)
def T1(S:Nat->Bool)(Y:Nat->ω)(Ir:J6 ω):Option C4:=TX S Y Ir.st Ir.L3
def OB(Y:Nat->ω)(i:Nat)(y:ω):Nat->ω:=fun n=>bif Nat.beq n i then y else Y n
def fK(l:List Oper):Nat->Nat->Nat->Bool
 |0,_,_=>false
 |f+1,j,i=>match l[i]? with
  |some o=>o.after.toList.any fun e=>Region.binds .any e&&Nat.ble j e.on&&(Nat.beq e.on j||fK l f j e.on)
  |none=>false
@[reducible] def H0(l:List Oper)(j i:Nat):Bool:=fK l l.length j i
def Ou{α:Type}:List (Option α)->List α
 |[]=>[]
 |some q::r=>q::Ou r
 |none::r=>Ou r
theorem b4{α:Type}(l:List (Option α)):Ou l=l.filterMap id:=by
 induction l with
 |nil=>rfl
 |cons a r Cg=>cases a<;>simp[Ou,Cg]
def L8(cs:List (J6 ω))(S:Nat->Bool)(Y:Nat->ω)(k:Nat):Option C4:=match cs[k]? with
 |some Ir=>T1 S Y Ir
 |none=>none
def Mg(cs:List (J6 ω))(S:Nat->Bool)(Y:Nat->ω)(R:List Nat):Own:=Ou (R.map (L8 cs S Y))
def Lh(cs:List (J6 ω))(S:Nat->Bool)(Y:Nat->ω):Own:=Ou (cs.map (T1 S Y))
def Ut(l:List Oper)(Y:Nat->ω)(i:Nat):List (Nat×HA ω)->List Atom
 |[]=>[]
 |(k,h)::r=>bif H0 l k i then h.at_ (Y k)++Ut l Y i r else Ut l Y i r
def Y3(l:List Oper)(i:Nat):List (Nat×HA ω)->List Prop
 |[]=>[]
 |(k,h)::r=>bif H0 l k i then h.PK++Y3 l i r else Y3 l i r
def fE:List (Nat×HA ω)->List Prop
 |[]=>[]
 |(_,h)::r=>h.PK++fE r
theorem sq{l:List Oper}{i:Nat}:∀{hs:List (Nat×HA ω)},(∀p∈hs,H0 l p.1 i=true->LS p.2.PK)->LS (Y3 l i hs)
 |[],_=>trivial
 |(k,h)::r,AH=>by
  have Cg:=sq (l:=l) (i:=i) (hs:=r) fun p B'=>AH p (ABR _ B');simp only[Y3];cases Bh:H0 l k i with
  |true=>exact LS.app (AH (k,h) (ABx ..) Bh) Cg
  |false=>exact Cg
theorem so:∀{hs:List (Nat×HA ω)},(∀p∈hs,LS p.2.PK)->LS (fE hs)
 |[],_=>trivial
 |(k,h)::_,AH=>LS.app (AH (k,h) (ABx ..)) (so fun p B'=>AH p (ABR _ B'))
def ZW(Y:Nat->ω):List (Nat×HA ω)->List Atom
 |[]=>[]
 |(k,h)::r=>h.at_ (Y k)++ZW Y r
def fb(os:List Nat)(rs:List (Nat×Nat))(E:Env)(q:C4):Op->Option Value
 | .load T x=>match AL E x with
  |some (.pointer (some ⟨_,a,none⟩))=>match ro rs T with
   |some n=>Zm (q.cs.drop a) n fun us=>some (.agg us.toArray)
   |none=>bif A7 os T then q.cs[a]? else none
  |_=>none
 |_=>none
def hq(E:Env):Op->Nat
 | .load _ x=>match AL E x with
  |some (.pointer (some ⟨b,_,none⟩))=>b
  |_=>0
 |_=>0
def il(ops:Array Oper)(E:Env)(o:Oper):Option Bool:=match o.guard with
 |some (j,b)=>R0 ops E j b
 |none=>some true
def Oy(B1:List (Nat×List Nat))(os:List Nat)(rs:List (Nat×Nat))(l:List Oper)(base:Env)(cs:List (J6 ω))(hs:List (Nat×HA ω))(ks:List (Nat×Nat))(Y:Nat->ω)(look:Nat->Value)(i:Nat)(o:Oper):Option Value:=match Ex hs i with
 |some h=>h.val (Y i)
 |none=>bif o.dst.isNone then none else match il l.toArray (Eo l look (GF l i)++base) o with
  |some true=>match Ex ks i with
   |some k=>match L8 cs (fun j=>H0 l j i) Y k with
    |some q=>fb os rs (Eo l look (GF l i)++base) q o.op
    |none=>none
   |none=>By B1 (Eo l look (GF l i)++base) o.op
  |some false=>some undef
  |none=>none
def runN(st:(Nat->Value)->Nat->Oper->Option Value):List Oper->Nat->List Value->Option (List Value)
 |[],_,_=>some []
 |o::r,i,acc=>match st (fun k=>acc.getD k undef) i o with
  |some u=>match runN st r (i+1) (acc++[u])with
   |some t=>some (u::t)
   |none=>none
  |none=>none
def PG(l:List Oper)(base:Env)(cs:List (J6 ω))(Y:Nat->ω)(look:Nat->Value):List (Nat×Nat)->List (C4×C4)
 |[]=>[]
 |(i,k)::r=>match l[i]? with
  |some o=>match L8 cs (fun j=>H0 l j i) Y k with
   |some q=>(q,AO (hq (Eo l look (GF l i)++base) o.op) q.ty q.cs)::PG l base cs Y look r
   |none=>PG l base cs Y look r
  |none=>PG l base cs Y look r
def Z_(l:List Oper)(cs:List (J6 ω))(i:Nat)(R:List Nat):Bool:=R.all fun k=>match cs[k]? with
 |some Ir=>Ir.st.all fun p=>Nat.beq p.1 i||H0 l p.1 i||H0 l i p.1
 |none=>false
def Z9(R:List Nat):Bool:=match R with
 |[]=>true
 |k::r=> !r.contains k&&Z9 r
def x1(l:List Oper)(cs:List (J6 ω))(hs:List (Nat×HA ω)):Bool:=(List.range cs.length).all fun k=>match cs[k]? with
 |some Ir=>Ir.st.all fun p=>(match Ex hs p.1 with
  |some h=>h.R.contains k
  |none=>false)&&p.2.as.all fun x=>Nat.beq x p.1||H0 l x p.1
 |none=>true
def dJ(l:List Oper)(env:Env)(n:Nat)(cs:List (J6 ω))(hs:List (Nat×HA ω))(ks:List (Nat×Nat)):Bool:=
 Pv l env&&ND l&&LX l n&&Z9 (hs.map (·.1))&&hs.all (fun p=>Z_ l cs p.1 p.2.R&&Z9 p.2.R)&&ks.all (fun p=>Z_ l cs p.1 [p.2])&&x1 l cs hs
def UE:List Oper->List Value->Env
 |o::r,v::t=>match o.dst with
  |some d=>(d,v)::UE r t
  |none=>UE r t
 |_,_=>[]
theorem re{i:Nat}{v:Value}:∀{r:List Oper} {t:List Value},C1 (UE r t) i=some v->∃k,CN r k=some i/\t[k]? =some v
 |o::r,u::t,h=>by
  have rc:C1 (UE r t) i=some v->∃k,CN (o::r) k=some i/\(u::t)[k]? =some v:=fun h=>by
   obtain⟨k,Af,h2⟩:=re h;exact⟨k+1,by simpa[CN]using Af,by simpa using h2⟩
  simp only[UE]at h;split at h
  · rename_i d AJ;simp only[C1]at h;by_cases e:d=i
    · subst e;simp at h;exact⟨0,by simp[CN,AJ],by simp[h]⟩
    rw[show(d==i)=false by simpa using e,ACx]at h;exact rc h
  exact rc h
 |[],_,h=>by cases h
 |_::_,[],h=>by cases h
def Y1:List Nat->Env->Option Env
 |[],_=>some []
 |i::r,E=>match C1 E i with
  |some v=>match Y1 r E with
   |some t=>some ((i,v)::t)
   |none=>none
  |none=>none
theorem Uu(A R:Own):Own.nd (A++[Zb R])=Own.nd (A++R):=by
 simp only[Own.nd,OJ,Dt,AB7];rfl
theorem CI.l_{BW w:World}{M:List Nat}{A R:Own}(h:CI BW M w (A++R)):CI BW M w (A++[Zb R]):=by
 refine⟨h.Ln,fun p AH=>?_,by rw[Uu];exact h.AGm,by rw[Uu];exact h.new⟩;rw[Uu];rcases ABm.1 AH with AH|AH
 · exact h.own p (AC9 _ AH)
 obtain rfl:=ADe.1 AH;exact fun q B'=>h.own q (ACV _ B')
theorem CI.fo{BW w:World}{M:List Nat}{A R:Own}(h:CI BW M w (A++[Zb R])):CI BW M w (A++R):=by
 refine⟨h.Ln,fun p AH=>?_,by rw[<-Uu];exact h.AGm,by rw[<-Uu];exact h.new⟩;rw[<-Uu];rcases ABm.1 AH with AH|AH
 · exact h.own p (AC9 _ AH)
 exact h.own _ (ACV _ (AEm _)) p AH
theorem BP.l_{D:List Atom}{w:World}{A R:Own}(h:BP D w (A++R)):BP D w (A++[Zb R]):=fun t Av=>by rw[Uu];exact h t Av
theorem BP.fo{D:List Atom}{w:World}{A R:Own}(h:BP D w (A++[Zb R])):BP D w (A++R):=fun t Av=>by rw[<-Uu];exact h t Av
def Y2(c:Cj)(l:List Oper)(h:HA ω)(i:Nat)(A:ω->Own)(f:C4)(Az:List Atom):AuE:=fun e a w=>
 e=.normal/\a.defers=[]/\∃y,CI c.BW c.M w (A y++[f])/\BP Az w (A y++[f])/\(∀d,CN l i=some d->h.val y=some (a.tmps.getD d undef))/\BP (h.at_ y) w (A y++[f])/\LS h.PK
def QI(c:Cj)(l:List Oper)(cs:List (J6 ω))(hs:List (Nat×HA ω))(env:Env)(D:List Atom)(vs:(Nat->ω)->List Value):List (Nat×HA ω)->Prop
 |[]=>True
 |(i,h)::r=>(match l[i]? with
  |some o=>∀(Y:Nat->ω) (f:C4) (Az:List Atom),LS (Y3 l i hs)->Cb (Y2 c l h i (fun y=>Mg cs (fun j=>H0 l j i||Nat.beq j i) (OB Y i y) h.R) f (D++Az)) c l.toArray [o] (Eo l (fun k=>(vs Y).getD k undef) (GF l i)++env) (Mg cs (fun j=>H0 l j i) Y h.R++[f]) (Ut l Y i hs++(D++Az))
  |none=>False)/\QI c l cs hs env D vs r
section
variable{l:List Oper}
theorem cm{A8:Array Bool}(E5:∀i k,A8.getD i false=true->Gp l k i=true->A8.getD k false=true){j:Nat}:∀(f i:Nat),(∀k,Gp l k i=true->A8.getD k false=true)->fK l f j i=true->A8.getD j false=true
 |0,_,_,h=>by cases h
 |f+1,i,Ag,h=>by
  unfold fK at h;split at h
  · rename_i o A7;obtain⟨e,he,Aq⟩:=List.any_eq_true.1 h;simp only[ABb,ABk]at Aq;have AE:=Ag e.on ((S9 A7).2 ⟨e,AC3.1 he,Aq.1.1,rfl⟩);rcases Aq.2 with h2|h2
    · rw[<-ACI h2];exact AE
    exact cm E5 f e.on (fun q B'=>E5 e.on q AE B') h2
  cases h
theorem sH{A8:Array Bool}(E5:∀i k,A8.getD i false=true->Gp l k i=true->A8.getD k false=true){j i:Nat}(Ag:A8.getD i false=true)(h:H0 l j i=true):A8.getD j false=true:=
 cm E5 l.length i (fun k AE=>E5 i k Ag AE) h
theorem ad{i k:Nat}(h:k∈GF l i):Gp l k i=true/\(CN l k).isSome=true:=by
 unfold GF at h;split at h
 · rename_i o A7;obtain⟨e,he,rfl⟩:=AB6.1 h;obtain⟨he,Aq⟩:=ABZ.1 he;simp only[ABb]at Aq;exact⟨(S9 A7).2 ⟨e,AC3.1 he,Aq.1.1,rfl⟩,Aq.2⟩
 cases h
theorem td{S Fq:Nat->Bool}{Y Ny:Nat->ω}:∀{st:List (Nat×GB ω)} {q:Option C4},(∀p∈st,S p.1=Fq p.1/\(S p.1=true->∀x∈p.2.as,Y x=Ny x))->TX S Y st q=TX Fq Ny st q
 |[],_,_=>rfl
 |(j,f)::r,q,h=>by
  obtain⟨Af,h2⟩:=h (j,f) (ABx ..);simp only at Af h2;simp only[TX];have e:(bif S j then f.at_ Y else q)=bif Fq j then f.at_ Ny else q:=by
   rw[<-Af];cases hs:S j with
   |true=>simp only[cond_true];rw[GB.congr (h2 hs)]
   |false=>rfl
  rw[e];exact td fun p AH=>h p (ABR _ AH)
theorem cF{S Fq:Nat->Bool}{Y Ny:Nat->ω}{Ir:J6 ω}(h:∀p∈Ir.st,S p.1=Fq p.1/\(S p.1=true->∀x∈p.2.as,Y x=Ny x)):T1 S Y Ir=T1 Fq Ny Ir:=td h
theorem hG:∀{R:List Nat},Z9 R=true->R.Nodup
 |[],_=>List.nodup_nil
 |k::r,h=>by
  simp only[Z9,ABb,ABe,List.contains_eq_mem,ABl]at h;exact ADq.2 ⟨h.1,hG h.2⟩
theorem range_split{n:Nat}{R:List Nat}(Ao:R.Nodup)(AN:∀k∈R,k<n):(List.range n).Perm (R++(List.range n).filter fun k=> !R.contains k):=by
 refine(List.perm_ext_iff_of_nodup List.nodup_range (List.nodup_append.2 ⟨Ao,AR4 _ List.nodup_range,fun a AK b Aq e=>?_⟩)).2 fun a=>?_
 · subst e;have:=(ABZ.1 Aq).2;simp[AK]at this
 simp only[ABm,ABZ,ABw,ABe,List.contains_eq_mem,ABl];by_cases h:a∈R
 · simp[h,AN a h]
 simp[h]
theorem AfU{α:Type}{a b:List (Option α)}(h:a.Perm b):(Ou a).Perm (Ou b):=by
 rw[b4,b4];exact h.filterMap _
theorem rZ{α:Type}(a b:List (Option α)):Ou (a++b)=Ou a++Ou b:=by
 rw[b4,b4,b4,List.filterMap_append]
theorem b3(cs:List (J6 ω))(S:Nat->Bool)(Y:Nat->ω):Lh cs S Y=Mg cs S Y (List.range cs.length):=by
 unfold Lh Mg;congr 1;apply List.ext_getElem
 · simp
 intro i Af h2;simp at Af;simp[L8,ABs Af]
theorem kI{cs:List (J6 ω)}{R:List Nat}(Ao:R.Nodup)(AN:∀k∈R,k<cs.length)(S:Nat->Bool)(Y:Nat->ω):(Lh cs S Y).Perm (Mg cs S Y R++Mg cs S Y ((List.range cs.length).filter fun k=> !R.contains k)):=by
 rw[b3];unfold Mg;rw[<-rZ,<-List.map_append];exact AfU ((range_split Ao AN).map _)
theorem b5{cs:List (J6 ω)}{S Fq:Nat->Bool}{Y Ny:Nat->ω}{R:List Nat}(h:∀k∈R,L8 cs S Y k=L8 cs Fq Ny k):Mg cs S Y R=Mg cs Fq Ny R:=by
 unfold Mg;rw[List.map_congr_left h]
theorem ARJ{Y:Nat->ω}{i:Nat}{t:Atom}:∀{hs:List (Nat×HA ω)},t∈Ut l Y i hs->∃k h,(k,h)∈hs/\H0 l k i=true/\t∈h.at_ (Y k)
 |[],h=>by cases h
 |(k,h)::r,Av=>by
  have rc:t∈Ut l Y i r->∃Gh DI,(Gh,DI)∈(k,h)::r/\H0 l Gh i=true/\t∈DI.at_ (Y Gh):=fun Av=>by
   obtain⟨Gh,DI,a,b⟩:=ARJ Av;exact⟨Gh,DI,ABR _ a,b⟩
  simp only[Ut]at Av;cases Bh:H0 l k i with
  |true=>
   rw[Bh,cond_true]at Av;rcases ABm.1 Av with Av|Av
   · exact⟨k,h,ABx ..,Bh,Av⟩
   exact rc Av
  |false=>
   rw[Bh,ACx]at Av;exact rc Av
theorem ru{Y:Nat->ω}{t:Atom}:∀{hs:List (Nat×HA ω)},t∈ZW Y hs->∃k h,(k,h)∈hs/\t∈h.at_ (Y k)
 |[],h=>by cases h
 |(k,h)::r,Av=>by
  rcases ABm.1 Av with Av|Av
  · exact⟨k,h,ABx ..,Av⟩
  obtain⟨Gh,DI,a,b⟩:=ru Av;exact⟨Gh,DI,ABR _ a,b⟩
theorem YN{α:Type _}{i:Nat}{a:α}:∀{hs:List (Nat×α)},Ex hs i=some a->(i,a)∈hs
 |(j,k)::r,h=>by
  simp only[Ex]at h;cases Aq:Nat.beq j i with
  |true=>
   rw[Aq,cond_true,ABX]at h;rw[<-ACI Aq,h];exact ABx ..
  |false=>
   rw[Aq,ACx]at h;exact ABR _ (YN h)
theorem lo{st:(Nat->Value)->Nat->Oper->Option Value}:∀{r:List Oper} {i:Nat} {acc t:List Value},acc.length=i->runN st r i acc=some t->t.length=r.length/\∀j o,r[j]? =some o->st (fun k=>((acc++t).take (i+j)).getD k undef) (i+j) o=t[j]?
 |[],i,acc,t,_,h=>by
  simp only[runN,ABX]at h;subst h;exact⟨rfl,fun j o Ay=>by simp at Ay⟩
 |o::r,i,acc,t,AN,h=>by
  simp only[runN]at h;split at h
  · rename_i u hu;split at h
    · rename_i Aj0 Av;simp only[ABX]at h;subst h;obtain⟨Af,h2⟩:=lo (by simp[AN]) Av;refine⟨by simp[Af],fun j Lg Ay=>?_⟩;cases j with
      |zero=>
       simp only[List.getElem?_cons_zero,ABX]at Ay;subst Ay;rw[Nat.add_zero,List.take_append_of_le_length (ACo AN.symm),List.take_of_length_le (ACo AN)];simpa using hu
      |succ j=>
       simp only[ABC]at Ay ⊢;have:=h2 j Lg Ay;rw[show i+1+j=i+(j+1)by omega,List.append_assoc]at this;exact this
    cases h
  cases h
end
structure Pp (c:Cj) (l:List Oper) (cs:List (J6 ω)) (hs:List (Nat×HA ω)) (ks:List (Nat×Nat)) (B1:List (Nat×List Nat)) (os:List Nat) (rs:List (Nat×Nat)) (env:Env) (D:List Atom) (A8:Array Bool) (a:Act) (w:World) (Y:Nat->ω):Prop where
 Gw:Fr c.n a env
 st:CI c.BW c.M w (Lh cs (fun j=>A8.getD j false) Y)
 AR:BP D w (Lh cs (fun j=>A8.getD j false) Y)
 size:A8.size=l.length
 closed:∀i k,A8.getD i false=true->Gp l k i=true->A8.getD k false=true
 val:∀i o,A8.getD i false=true->l[i]? =some o->o.dst.isSome=true->Oy B1 os rs l env cs hs ks Y (valOf l a) i o=some (valOf l a i)
 at_:∀i h,A8.getD i false=true->Ex hs i=some h->BP (h.at_ (Y i)) w (Lh cs (fun j=>A8.getD j false) Y)
 PK:∀i h,A8.getD i false=true->Ex hs i=some h->LS h.PK
section
variable{c:Cj} {l:List Oper} {cs:List (J6 ω)} {hs:List (Nat×HA ω)} {ks:List (Nat×Nat)} {B1:List (Nat×List Nat)} {os:List Nat} {rs:List (Nat×Nat)} {env:Env} {D:List Atom} {Q:AuE}
theorem ai{i d:Nat}(h:CN l i=some d):i<l.length:=by
 rcases ACq i l.length with q|q
 · exact q
 simp[CN,ACd q]at h
theorem dX{i d n:Nat}(EY:LX l n=true)(h:CN l i=some d):d<n:=by
 have Ag:=ai h;have:=ABq.1 EY l[i] (ACF Ag);have F6:(l[i]).dst=some d:=by simpa[CN,ABs Ag]using h
 rw[F6]at this;exact EU this
theorem y8{n:Nat}{a:Act}(EY:LX l n=true)(f:Fr n a env){look:Nat->Value}(is:List Nat)(AN:∀k∈is,(CN l k).isSome=true->look k=valOf l a k):Fr n a (Eo l look is++env):=by
 rw[UC AN];refine⟨f.size,f.GV,fun i v Ag=>?_⟩;rcases YO Ag with h|h
 · obtain⟨k,AE,AJ,BC⟩:=U' h;simp only[valOf]at BC;have C_:=dX EY AJ;have:i<a.tmps.size:=(by rw[f.size];exact C_);rw[<-BC];simp[this,Il,AJ]
 exact f.at_ _ _ h.2
theorem gp{Y:Nat->ω}{look look':Nat->Value}{i:Nat}{o:Oper}(h:∀k∈GF l i,(CN l k).isSome=true->look k=look' k):Oy B1 os rs l env cs hs ks Y look i o=Oy B1 os rs l env cs hs ks Y look' i o:=by
 unfold Oy;rw[UC h]
theorem Pp.Eb(Aq:ND l=true){A8:Array Bool}{a:Act}{w:World}{Y:Nat->ω}(m:Pp c l cs hs ks B1 os rs env D A8 a w Y){t:List Value}(Av:runN (Oy B1 os rs l env cs hs ks Y) l 0 []=some t):
 ∀k,A8.getD k false=true->(CN l k).isSome=true->t.getD k undef=valOf l a k:=by
 obtain⟨hlen,Rc⟩:=lo (i:=0) (acc:=[]) rfl Av;intro k;induction k using Nat.strongRecOn with
 |_ k Cg=>
  intro AE AJ;obtain⟨d,F6⟩:=ACC.1 AJ;have Lb:=ai F6;have A7:l[k]? =some l[k]:=ABs Lb;have Af:=Rc k l[k] A7;simp only[AB0,ABK]at Af;have h2:=m.val k l[k] AE A7 (by simpa[CN,A7]using AJ);rw[gp (look':=valOf l a) fun j Ay jq=>?_]at Af
  · rw[h2]at Af;rw[ACn,<-Af];rfl
  obtain⟨he,_⟩:=ad Ay;have Tq:j<k:=h3 Aq he;have a0:=m.closed k j AE he;have:=Cg j Tq a0 jq;rw[ACn,ACl,AA_ Tq,<-ACn];exact this
where
 h3 (C':ND l=true) {k i:Nat} (h:Gp l k i=true):k<i:=by
  rcases ACq i l.length with Ee|Ee
  · have A7:l[i]? =some l[i]:=ABs Ee;obtain⟨e,he,Aq,rfl⟩:=(S9 A7).1 h;have M7:=ABq.1 C' i (ABw.2 Ee);rw[A7]at M7;have:=ABq.1 M7 e (AC3.2 he);rw[Aq]at this;exact EU (by simpa using this)
  rw[Gp,ACd Ee]at h;cases h
theorem uP{i:Nat}{o:Oper}(A7:l[i]? =some o){Pq:AuE}{env':Env}{L':Own}{Dd:List Atom}{a:Act}{w:World}(Jh:Cb Pq c l.toArray [o] env' L' Dd)(f:Fr c.n a env')(st:CI c.BW c.M w L')(AR:BP Dd w L')
 (Ao:∀e a w,Pq e a w->e=.normal/\a.defers=[]){K:Act->World->Prop}(Je:∀u AT,Pq .normal (a.put o.dst u) AT->K (a.put o.dst u) AT):wpOp c.P l.toArray Q i K a w:=by
 have Jh:=Jh a w f st AR;have O0:¬LetsOut Pq:=by
  rintro⟨Dx,AT,h⟩;cases(Ao _ _ _ h).1
 have G7:∀Dx AT,(∃u,Dx=a.put o.dst u)->Pq .normal Dx AT->K Dx AT:=by
  rintro Dx AT ⟨u,rfl⟩ h;exact Je u AT h
 unfold wpOp;have Qc:l.toArray[i]? =some o:=by simpa using A7
 simp only[Qc];unfold wpList at Jh;by_cases hw:Region.wanted o (yielded l.toArray a.tmps)=true
 · rw[AA_ hw]at Jh ⊢;refine .inl (mj (Q:=Pq) (fun _ _ _ h=>by cases(Ao _ _ _ h).1) O0 ?_);rcases Jh with h|h
   · have key:∀{r:Result Next},o.upon c.P a (Pq .normal) Pq r->o.upon c.P a K Pq r:=by
      intro r h;cases r with
      |ok n AT=>
       cases n<;>simp only[Oper.upon]at h ⊢ <;>try exact h
       · exact G7 _ _ ⟨_,rfl⟩ h
       · exact G7 _ _ ⟨_,rfl⟩ h
       · exact Calls.mono h fun e Xq he=>by
          cases e with
          |returned v=>exact G7 _ _ ⟨_,rfl⟩ he
          |panicked XZ=>exact he
          |outgrown=>exact he
       · have AJ:=(Ao _ _ _ h).2;cases Re:o.dst<;>simp[Re,Act.put]at AJ
       exact Rows.mono h fun _ _ he=>G7 _ _ ⟨_,rfl⟩ he
      |halt x AT=>cases x<;>simp only[Oper.upon]at h ⊢ <;>exact h
     exact key h
   exact absurd h.2 O0
 rw[AA9 hw]at Jh ⊢;exact G7 _ _ ⟨undef,rfl⟩ Jh
theorem QI.at_{vs:(Nat->ω)->List Value}:∀{r:List (Nat×HA ω)},QI c l cs hs env D vs r->∀p∈r,∀o,l[p.1]? =some o->∀(Y:Nat->ω) (f:C4) (Az:List Atom),LS (Y3 l p.1 hs)->Cb (Y2 c l p.2 p.1 (fun y=>Mg cs (fun j=>H0 l j p.1||Nat.beq j p.1) (OB Y p.1 y) p.2.R) f (D++Az)) c l.toArray [o] (Eo l (fun k=>(vs Y).getD k undef) (GF l p.1)++env) (Mg cs (fun j=>H0 l j p.1) Y p.2.R++[f]) (Ut l Y p.1 hs++(D++Az))
 |(i,h)::r,Dk,p,AH,o,A7=>by
  rcases ABf.1 AH with rfl|AH
  · have:=Dk.1;simp only at A7;rw[A7]at this;exact this
  exact QI.at_ Dk.2 p AH o A7
theorem QI.lt{vs:(Nat->ω)->List Value}:∀{r:List (Nat×HA ω)},QI c l cs hs env D vs r->∀p∈r,p.1<l.length
 |(i,h)::r,Dk,p,AH=>by
  rcases ABf.1 AH with rfl|AH
  · have:=Dk.1;rcases ACq i l.length with q|q
    · exact q
    rw[ACd q]at this;exact this.elim
  exact QI.lt Dk.2 p AH
theorem YM{α:Type _}:∀{hs:List (Nat×α)},(hs.map (·.1)).Nodup->∀p∈hs,Ex hs p.1=some p.2
 |(j,k)::r,Ao,p,AH=>by
  simp only[Ex];rcases ABf.1 AH with rfl|AH
  · rw[show Nat.beq j j=true from Nat.beq_refl j];rfl
  have Ao:=ADq.1 Ao;have:Nat.beq j p.1=false:=by
   cases h:Nat.beq j p.1 with
   |false=>rfl
   |true=>exact absurd (AB6.2 ⟨p,AH,(ACI h).symm⟩) Ao.1
  rw[this,ACx];exact YM Ao.2 p AH
def P4(S:Nat->Bool)(Y:Nat->ω):List (Nat×HA ω)->List Atom
 |[]=>[]
 |(k,h)::r=>bif S k then h.at_ (Y k)++P4 S Y r else P4 S Y r
theorem WQ{S:Nat->Bool}{Y:Nat->ω}{t:Atom}:∀{r:List (Nat×HA ω)},t∈P4 S Y r↔∃p∈r,S p.1=true/\t∈p.2.at_ (Y p.1)
 |[]=>by simp[P4]
 |(k,h)::r=>by
  simp only[P4];cases AE:S k with
  |true=>simp[WQ (r:=r),AE]
  |false=>simp[WQ (r:=r),AE]
theorem cQ{Y:Nat->ω}{i n:Nat}{y:ω}(h:n≠i):OB Y i y n=Y n:=by
 have:Nat.beq n i=false:=by
  cases Aq:Nat.beq n i with
  |false=>rfl
  |true=>exact absurd (ACI Aq) h
 simp only[OB,this,ACx]
theorem mi{Y:Nat->ω}{i:Nat}{y:ω}:OB Y i y i=y:=by
 simp only[OB,show Nat.beq i i=true from Nat.beq_refl i,cond_true]
theorem mo{a:Act}{o:Oper}{i k:Nat}{u:Value}{e:Env}(h2:Pv l e=true)(A7:l[i]? =some o)(AE:k≠i):valOf l (a.put o.dst u) k=valOf l a k:=by
 simp only[valOf,Il];cases Yo:CN l k with
 |none=>rfl
 |some d=>
  cases AJ:o.dst with
  |none=>rfl
  |some d0=>
   have FG:d0≠d:=by
    rintro rfl;have Ee:=(ABF.1 A7).1;have:=ABq.1 h2 i (ABw.2 Ee);rw[show CN l i=some d0 by simp[CN,A7,AJ]]at this;simp only[ABb]at this;have:=ABq.1 this.2 k (ABw.2 (ai Yo));simp[Yo,Ne.symm AE]at this
   simp[Act.put,Array.getElem?_setIfInBounds_ne FG]
theorem o5{a:Act}{o:Oper}{i:Nat}{u:Value}(h2:Pv l env=true)(EY:LX l c.n=true)(A7:l[i]? =some o)(f:Fr c.n a env):Fr c.n (a.put o.dst u) env:=by
 cases AJ:o.dst with
 |none=>exact f
 |some d=>
  have KN:CN l i=some d:=(by simp[CN,A7,AJ]);have g:=f.put u (dX EY KN);refine⟨g.size,g.GV,fun k v AE=>g.at_ k v ?_⟩;have FG:d≠k:=by
   rintro rfl;have:=bw AE;have Bo:=ABq.1 h2 i (ABw.2 (ai KN));rw[KN]at Bo;simp only[ABb,ABe]at Bo;rw[Bo.1]at this;cases this
  have:(d==k)=false:=(by simpa using FG);simp only[C1,this,ACx];exact AE
theorem xw{a b:Nat}(h:a<b):Nat.blt a b=true:=Nat.ble_eq_true_of_le h
theorem tX{β:Type}:∀{cs:List Value} {n:Nat} {k:List Value->Option β} {r:β},Zm cs n k=some r->(cs.take n).length=n/\k (cs.take n)=some r
 |_,0,_,_,h=>by
  simp only[Zm]at h;exact⟨by simp,by simpa using h⟩
 |[],_+1,_,_,h=>by cases h
 |c::cs,n+1,k,r,h=>by
  simp only[Zm]at h;obtain⟨Af,h2⟩:=tX h;exact⟨by simp[Af],by simpa using h2⟩
theorem ry{Y:Nat->ω}{look:Nat->Value}{i k:Nat}{o:Oper}{q:C4}:∀{r:List (Nat×Nat)},(i,k)∈r->l[i]? =some o->L8 cs (fun j=>H0 l j i) Y k=some q->(q,AO (hq (Eo l look (GF l i)++env) o.op) q.ty q.cs)∈PG l env cs Y look r
 |(FV,Gh)::r,h,A7,Bm=>by
  rcases ABf.1 h with e|h
  · simp only[ACg]at e;obtain⟨rfl,rfl⟩:=e;simp only[PG,A7,Bm];exact ABx ..
  have Cg:=ry (look:=look) h A7 Bm;simp only[PG];split
  · split
    · exact ABR _ Cg
    exact Cg
  exact Cg
structure ha (l:List Oper) (env:Env) (n:Nat) (cs:List (J6 ω)) (hs:List (Nat×HA ω)) (ks:List (Nat×Nat)):Prop where
 dst:Pv l env=true
 back:ND l=true
 size:LX l n=true
 key:(hs.map (·.1)).Nodup
 ord:∀p∈hs,Z_ l cs p.1 p.2.R=true/\p.2.R.Nodup
 Adn:∀p∈ks,Z_ l cs p.1 [p.2]=true
 st:∀k Ir,cs[k]? =some Ir->∀p∈Ir.st,(∃h,Ex hs p.1=some h/\k∈h.R)/\∀x∈p.2.as,x=p.1\/H0 l x p.1=true
theorem Afo{n:Nat}(h:dJ l env n cs hs ks=true):ha l env n cs hs ks:=by
 simp only[dJ,ABb]at h;obtain⟨⟨⟨⟨⟨⟨Af,h2⟩,Bo⟩,BB⟩,C'⟩,F4⟩,GY⟩:=h;refine⟨Af,h2,Bo,hG BB,fun p AH=>?_,fun p AH=>ABq.1 F4 p AH,fun k Ir AE p AH=>?_⟩
 · have:=ABq.1 C' p AH;simp only[ABb]at this;exact⟨this.1,hG this.2⟩
 have C_:=(ABF.1 AE).1;have:=ABq.1 GY k (ABw.2 C_);rw[AE]at this;have:=ABq.1 this p AH;simp only[ABb]at this;obtain⟨a,b⟩:=this;refine⟨?_,fun x Ab=>?_⟩
 · split at a
   · rename_i h he;exact⟨h,he,by simpa using a⟩
   cases a
 have:=ABq.1 b x Ab;simp only[ABk]at this;exact this.imp ACI id
section
variable{A8:Array Bool} {a:Act} {w:World} {Y:Nat->ω} {i:Nat}
theorem kF(E5:∀i k,A8.getD i false=true->Gp l k i=true->A8.getD k false=true)(Ib:A8.getD i false=false)(LZ:∀k,Gp l k i=true->A8.getD k false=true){R:List Nat}(Fy:Z_ l cs i R=true)(Y:Nat->ω)(b:Bool):
 ∀k∈R,L8 cs (fun j=>(i==j&&b)||A8.getD j false) Y k=L8 cs (fun j=>H0 l j i||(Nat.beq j i&&b)) Y k:=by
 intro k AE;have:=ABq.1 Fy k AE;unfold L8;split
 · rename_i Ir To;rw[To]at this;refine cF fun p AH=>⟨?_,fun _ _ _=>rfl⟩;have:=ABq.1 this p AH;simp only[ABk]at this;have Dv:H0 l p.1 i=true->A8.getD p.1 false=true:=cm E5 l.length i LZ;by_cases e:i=p.1
   · have:H0 l p.1 i=false:=by
      cases h:H0 l p.1 i with
      |false=>rfl
      |true=>
       have:=Dv h;rw[<-e,Ib]at this;cases this
     rw[this,<-e,Ib,show Nat.beq i i=true from Nat.beq_refl i];simp
   have B4:(i==p.1)=false:=(by simpa using e);have DC:Nat.beq p.1 i=false:=by
    cases h:Nat.beq p.1 i with
    |false=>rfl
    |true=>exact absurd (ACI h).symm e
   rw[B4,DC];simp only[Bool.false_and,ACZ,Bool.or_false];rw[DC]at this;rcases this with(h|h)|h
   · cases h
   · rw[h,Dv h]
   have Af:A8.getD p.1 false=false:=by
    cases q:A8.getD p.1 false with
    |false=>rfl
    |true=>rw[sH E5 q h]at Ib;cases Ib
   have h2:H0 l p.1 i=false:=by
    cases q:H0 l p.1 i with
    |false=>rfl
    |true=>rw[Dv q]at Af;cases Af
   rw[Af,h2]
 rfl
theorem Pp.step(ok:ha l env c.n cs hs ks)(BI:Un c.P B1)(jy:Vy c.P os)(jC:ZB c.P rs){vs:(Nat->ω)->List Value}(BC:∀Y,runN (Oy B1 os rs l env cs hs ks Y) l 0 []=some (vs Y))
 (B':∀Y,∀p∈PG l env cs Y (fun k=>(vs Y).getD k undef) ks,p.1=p.2)(Dk:QI c l cs hs env D vs hs)(m:Pp c l cs hs ks B1 os rs env D A8 a w Y)(Bh:i∈Region.ready .any l.toArray A8){K:Act->World->Prop}
 (Je:∀Dx AT Ny,Pp c l cs hs ks B1 os rs env D (A8.setIfInBounds i true) Dx AT Ny->K Dx AT):wpOp c.P l.toArray Q i K a w:=by
 obtain⟨Ib,o,A7,C0⟩:=mem_ready.1 Bh;have A7:l[i]? =some o:=by simpa using A7
 have Ee:i<l.length:=(ABF.1 A7).1;have IE:i<A8.size:=by rw[m.size];exact Ee
 have Jg:A8.getD i false=false:=by rw[<-OQ IE];exact Ib
 have LZ:∀k,Gp l k i=true->A8.getD k false=true:=by
  intro k AE;obtain⟨e,he,Aq,rfl⟩:=(S9 A7).1 AE;exact C0 e he Aq
 have O1:∀k,(A8.setIfInBounds i true).getD k false=(i==k||A8.getD k false):=fun k=>Ia IE;have Aco:=m.Eb ok.back (BC Y);have LH:∀k∈GF l i,A8.getD k false=true:=fun k AE=>LZ k (ad AE).1;have pL:∀k∈GF l i,(CN l k).isSome=true->(vs Y).getD k undef=valOf l a k:=fun k AE AJ=>Aco k (LH k AE) AJ;have eM:=y8 ok.size m.Gw (look:=fun k=>(vs Y).getD k undef) (GF l i) pL;have eR:∀k,A8.getD k false=true->k≠i:=fun k AE e=>by
  rw[e,Jg]at AE;cases AE
 have jB:∀{x k:Nat},A8.getD k false=true->H0 l x k=true->A8.getD x false=true:=fun AE h=>sH m.closed AE h
 -- what holds of the others, behind it
 have p7:(A8.setIfInBounds i true).size=l.length:=by simp[m.size]
 have pv:∀j k,(A8.setIfInBounds i true).getD j false=true->Gp l k j=true->(A8.setIfInBounds i true).getD k false=true:=by
  intro j k Ay AE;rw[O1]at Ay ⊢;simp only[ABk,beq_iff_eq]at Ay ⊢;rcases Ay with rfl|Ay
  · exact .inr (LZ k AE)
  exact .inr (m.closed j k Ay AE)
 have Abw:∀(y:ω) (k NP:Nat),A8.getD k false=true->L8 cs (fun j=>H0 l j k) (OB Y i y) NP=L8 cs (fun j=>H0 l j k) Y NP:=by
  intro y k NP AE;unfold L8;split
  · rename_i Ir To;refine cF fun p AH=>⟨rfl,fun bc x Ab=>cQ (eR x ?_)⟩;have Yv:=jB AE bc;rcases(ok.st NP Ir To p AH).2 x Ab with rfl|h
    · exact Yv
    exact jB Yv h
  rfl
 have PD:∀(u:Value) (y:ω) (k:Nat) (Lg:Oper),k≠i->A8.getD k false=true->l[k]? =some Lg->Lg.dst.isSome=true->Oy B1 os rs l env cs hs ks (OB Y i y) (valOf l (a.put o.dst u)) k Lg=some (valOf l (a.put o.dst u) k):=by
  intro u y k Lg J_ AE CM AJ;rw[gp (look':=valOf l a) fun j Ay _=>mo ok.dst A7 (eR j (m.closed k j AE (ad Ay).1)),mo ok.dst A7 J_,<-m.val k Lg AE CM AJ];unfold Oy;rw[cQ J_];split
  · rfl
  simp only[Abw y k _ AE]
 cases hh:Ex hs i with
 |some h=>
  have Hv:=YN hh;obtain⟨Fy,iU⟩:=ok.ord _ Hv;simp only at Fy iU;have eD:∀k∈h.R,k<cs.length:=fun k AE=>by
   have:=ABq.1 Fy k AE;rcases ACq k cs.length with q|q
   · exact q
   rw[ACd q]at this;cases this
  have B4:Mg cs (fun j=>A8.getD j false) Y h.R=Mg cs (fun j=>H0 l j i) Y h.R:=b5 fun k AE=>by
   have:=kF (cs:=cs) m.closed Jg LZ Fy Y false k AE;simpa using this
  have jz:=kI iU eD (fun j=>A8.getD j false) Y;rw[B4]at jz;have Gg:=(m.st.perm jz).l_;have jj:BP (D++P4 (fun j=>A8.getD j false) Y hs) w (Lh cs (fun j=>A8.getD j false) Y):=BP.app m.AR fun t Av=>by
   obtain⟨p,AH,Af,h2⟩:=WQ.1 Av;exact m.at_ p.1 p.2 Af (YM ok.key p AH) t h2
  have R_:=(BP.perm jj jz).l_;have eK:BP (Ut l Y i hs++(D++P4 (fun j=>A8.getD j false) Y hs)) w _:=BP.app (fun t Av=>by
   obtain⟨k,DI,AE,NL,h2⟩:=ARJ Av;have Lb:A8.getD k false=true:=cm m.closed l.length i LZ NL;exact R_ t (ACV _ (WQ.2 ⟨(k,DI),AE,Lb,h2⟩))) R_
  refine uP A7 (Dk.at_ (i,h) Hv o A7 Y (Zb _) _ (sq fun p AH NL=>m.PK p.1 p.2 (cm m.closed l.length i LZ NL) (YM ok.key p AH))) eM Gg eK (fun e a w h=>⟨h.1,h.2.1⟩) fun u AT ⟨_,_,y,Rg,OU,jH,Abu,Ab9⟩=>?_;have Rg:=Rg.fo;have OU:=OU.fo;have DC:Mg cs (fun j=>(A8.setIfInBounds i true).getD j false) (OB Y i y) h.R=Mg cs (fun j=>H0 l j i||Nat.beq j i) (OB Y i y) h.R:=b5 fun k AE=>by
   have:=kF (cs:=cs) m.closed Jg LZ Fy (OB Y i y) true k AE;simp only[O1];simpa using this
  have Kk:Mg cs (fun j=>(A8.setIfInBounds i true).getD j false) (OB Y i y) ((List.range cs.length).filter fun k=> !h.R.contains k)=Mg cs (fun j=>A8.getD j false) Y ((List.range cs.length).filter fun k=> !h.R.contains k):=b5 fun k AE=>by
   have AbP:=(ABZ.1 AE).2;unfold L8;split
   · rename_i Ir To;refine cF fun p AH=>?_;obtain⟨⟨DI,aS,MC⟩,has⟩:=ok.st k Ir To p AH;have eW:p.1≠i:=fun e=>by
      rw[e,hh,ABX]at aS;subst aS;simp[MC]at AbP
     refine⟨?_,fun bc x Ab=>cQ (eR x ?_)⟩
     · rw[O1,show(i==p.1)=false by simpa using Ne.symm eW,ACZ]
     rw[O1,show(i==p.1)=false by simpa using Ne.symm eW,ACZ]at bc;rcases has x Ab with rfl|q
     · exact bc
     exact jB bc q
   rfl
  have eV:=kI iU eD (fun j=>(A8.setIfInBounds i true).getD j false) (OB Y i y);rw[DC,Kk]at eV;have Aci:=Rg.perm eV.symm;have eK:=BP.perm OU eV.symm;refine Je _ _ (OB Y i y) ⟨o5 ok.dst ok.size A7 m.Gw,Aci,fun t Av=>eK t (AC9 _ Av),p7,pv,fun k Lg AE CM AJ=>?_,fun k DI AE he=>?_,fun k DI AE he=>?_⟩
  · by_cases J_:k=i
    · subst J_;rw[A7,ABX]at CM;subst CM;obtain⟨d,ji⟩:=ACC.1 AJ;have KN:CN l k=some d:=(by simp[CN,A7,ji]);have:=jH d KN;unfold Oy;rw[hh];simp only[mi,valOf,Il,KN];exact this
    rw[O1,show(i==k)=false by simpa using Ne.symm J_,ACZ]at AE;exact PD u y k Lg J_ AE CM AJ
  · by_cases J_:k=i
    · subst J_;rw[hh,ABX]at he;subst he;rw[mi];exact BP.perm Abu.fo eV.symm
    rw[O1,show(i==k)=false by simpa using Ne.symm J_,ACZ]at AE;rw[cQ J_];exact fun t Av=>eK t (ACV _ (WQ.2 ⟨(k,DI),YN he,AE,Av⟩))
  by_cases J_:k=i
  · subst J_;rw[hh,ABX]at he;subst he;exact Ab9
  rw[O1,show(i==k)=false by simpa using Ne.symm J_,ACZ]at AE;exact m.PK k DI AE he
 |none=>
  obtain⟨hlen,Rc⟩:=lo (i:=0) (acc:=[]) rfl (BC Y);have Af:=Rc i o A7;simp only[AB0,ABK]at Af;rw[gp (look':=fun k=>(vs Y).getD k undef) fun k AE _=>by
   have:=Pp.Eb.h3 ok.back (ad AE).1;rw[ACn,ACl,AA_ this,<-ACn]]at Af
  obtain⟨u,hu⟩:∃u,(vs Y)[i]? =some u:=⟨_,ABs (by rw[hlen];exact Ee)⟩;rw[hu]at Af;have Acj:=Af;unfold Oy at Af;rw[hh]at Af;simp only at Af;have jI:Lh cs (fun j=>(A8.setIfInBounds i true).getD j false) Y=Lh cs (fun j=>A8.getD j false) Y:=by
   rw[b3,b3];refine b5 fun k AE=>?_;unfold L8;split
   · rename_i Ir To;refine cF fun p AH=>⟨?_,fun _ _ _=>rfl⟩;obtain⟨⟨DI,aS,_⟩,_⟩:=ok.st k Ir To p AH;have eW:i≠p.1:=fun e=>by
      rw[<-e,hh]at aS;cases aS
     rw[O1,show(i==p.1)=false by simpa using eW,ACZ]
   rfl
  cases AJ:o.dst with
  |none=>
   rw[AJ]at Af;cases Af
  |some d=>
   have KN:CN l i=some d:=(by simp[CN,A7,AJ]);have Ao:Nat.blt d c.n=true:=xw (dX ok.size KN);rw[AJ]at Af;simp only[Option.isNone_some,ACx]at Af;have jj:BP (D++P4 (fun j=>A8.getD j false) Y hs) w (Lh cs (fun j=>A8.getD j false) Y):=BP.app m.AR fun t Av=>by
    obtain⟨p,AH,Af,h2⟩:=WQ.1 Av;exact m.at_ p.1 p.2 Af (YM ok.key p AH) t h2
   let Pq:AuE:=fun e Dx AT=>e=.normal/\Dx.defers=[]/\CI c.BW c.M AT (Lh cs (fun j=>A8.getD j false) Y)/\BP (D++P4 (fun j=>A8.getD j false) Y hs) AT (Lh cs (fun j=>A8.getD j false) Y)/\Dx.tmps.getD d undef=u
   have La:Cb Pq c l.toArray [] ((d,u)::(Eo l (fun k=>(vs Y).getD k undef) (GF l i)++env)) (Lh cs (fun j=>A8.getD j false) Y) (D++P4 (fun j=>A8.getD j false) Y hs):=nl fun a w f st AR=>⟨rfl,f.GV,st,AR,by
    have:=f.at_ d u (by simp[C1]);rw[ASf,this];rfl⟩
   have Jh:Cb Pq c l.toArray [o] (Eo l (fun k=>(vs Y).getD k undef) (GF l i)++env) (Lh cs (fun j=>A8.getD j false) Y) (D++P4 (fun j=>A8.getD j false) Y hs):=by
    have AbW:∀k q,(i,k)∈ks->L8 cs (fun j=>H0 l j i) Y k=some q->q∈Lh cs (fun j=>A8.getD j false) Y:=fun k q AE Bm=>by
     have Fy:=ok.Adn _ AE;simp only at Fy;have eD:k<cs.length:=by
      have:=ABq.1 Fy k (AEm _);rcases ACq k cs.length with q|q
      · exact q
      rw[ACd q]at this;cases this
     have e:=kF (cs:=cs) m.closed Jg LZ Fy Y false k (AEm _);simp only[Bool.and_false,ACZ,Bool.or_false]at e;have AH:=kI (R:=[k]) (ADq.2 ⟨by simp,List.nodup_nil⟩) (fun Gh MC=>by rw[ADe.1 MC];exact eD) (fun j=>A8.getD j false) Y;refine AH.mem_iff.2 (AC9 _ ?_);unfold Mg;rw[AB8,List.map_nil,e,Bm];exact ABx ..
    obtain⟨dst,op,t,p,af,o8⟩:=o;simp only at AJ Af;subst AJ;have key:(match Ex ks i with
     |some k=>match L8 cs (fun j=>H0 l j i) Y k with
      |some q=>fb os rs (Eo l (fun k=>(vs Y).getD k undef) (GF l i)++env) q op
      |none=>none
     |none=>By B1 (Eo l (fun k=>(vs Y).getD k undef) (GF l i)++env) op)=some u->Cb Pq c l.toArray [⟨some d,op,t,p,af,none⟩] (Eo l (fun k=>(vs Y).getD k undef) (GF l i)++env) (Lh cs (fun j=>A8.getD j false) Y) (D++P4 (fun j=>A8.getD j false) Y hs):=by
     intro Af;split at Af
     · rename_i k AE;split at Af
       · rename_i q pw;have pR:=YN AE;have heq:=B' Y _ (ry pR A7 pw);simp only at heq;obtain⟨idx,pG⟩:=List.getElem?_of_mem (AbW k q pR pw);cases op<;>simp only[fb,reduceCtorEq]at Af
         case load T x=>
          split at Af
          · rename_i b Dx Ab;simp only[hq,Ab]at heq;split at Af
            · rename_i n Acd;obtain⟨AN,p_⟩:=tX Af;simp only[ABX]at p_;subst p_;exact BJ idx _ Ab (pG.trans (ABE some heq)) (by rw[AN];exact fR jC Acd) (by rw[AN]) Ao La
            revert Af;generalize AaZ:Go.A_.A7 os _=xt;intro Af;cases xt with
            |false=>cases Af
            |true=>exact ME idx Ab (pG.trans (ABE some heq)) (a9 jy AaZ) Af Ao La
          cases Af
       cases Af
     exact cc BI Af Ao La
    split at Af
    · rename_i CK;cases o8 with
      |none=>exact key Af
      |some g=>exact iy CK (key Af)
    · rename_i CK;injection Af with Af;subst Af;cases o8 with
      |none=>cases CK
      |some g=>exact iu CK Ao La
    cases Af
   refine uP A7 Jh eM m.st jj (fun e a w h=>⟨h.1,h.2.1⟩) fun Pc AT ⟨_,_,Rg,OU,jH⟩=>Je _ _ Y ⟨o5 ok.dst ok.size A7 m.Gw,by rw[jI];exact Rg,by rw[jI];exact fun t Av=>OU t (AC9 _ Av),p7,pv,fun k Lg AE CM ji=>?_,fun k DI AE he=>?_,fun k DI AE he=>?_⟩
   · by_cases J_:k=i
     · subst J_;rw[A7,ABX]at CM;subst CM;have FG:∀j∈GF l k,(CN l j).isSome=true->(vs Y).getD j undef=valOf l (a.put o.dst Pc) j:=fun j Ay jq=>by
        rw[pL j Ay jq,mo ok.dst A7 (eR j (LH j Ay))]
       rw[<-gp FG,Acj];simp only[valOf,Il,KN];rw[jH]
     rw[O1,show(i==k)=false by simpa using Ne.symm J_,ACZ]at AE;have:=PD Pc (Y i) k Lg J_ AE CM ji
     rwa [show OB Y i (Y i)=Y from funext fun n=>by
      by_cases e:n=i
      · subst e;exact mi
      exact cQ e]at this
   · have J_:k≠i:=fun e=>by
      rw[e,hh]at he;cases he
     rw[O1,show(i==k)=false by simpa using Ne.symm J_,ACZ]at AE;rw[jI];exact fun t Av=>OU t (ACV _ (WQ.2 ⟨(k,DI),YN he,AE,Av⟩))
   have J_:k≠i:=fun e=>by
    rw[e,hh]at he;cases he
   rw[O1,show(i==k)=false by simpa using Ne.symm J_,ACZ]at AE;exact m.PK k DI AE he
end
theorem Pp.all(ok:ha l env c.n cs hs ks)(BI:Un c.P B1)(jy:Vy c.P os)(jC:ZB c.P rs){vs:(Nat->ω)->List Value}(BC:∀Y,runN (Oy B1 os rs l env cs hs ks Y) l 0 []=some (vs Y))
 (B':∀Y,∀p∈PG l env cs Y (fun k=>(vs Y).getD k undef) ks,p.1=p.2)(Dk:QI c l cs hs env D vs hs)
 (Je:∀a w Y,Pp c l cs hs ks B1 os rs env D (Array.replicate l.length true) a w Y->Q .normal a w):
 ∀(fuel:Nat) (A8:Array Bool) (a:Act) (w:World) (Y:Nat->ω),Pp c l cs hs ks B1 os rs env D A8 a w Y->(List.range l.length).countP (fun i=> !A8.getD i false)<=fuel->wpAny c.P .any l.toArray Q fuel A8 a w:=by
 have G7:∀(A8:Array Bool) (a:Act) (w:World) (Y:Nat->ω),Pp c l cs hs ks B1 os rs env D A8 a w Y->Region.ready .any l.toArray A8=[]->Q .normal a w:=by
  intro A8 a w Y m Bh;have C0:∀i,i<l.length->A8.getD i false=true:=by
   intro i;induction i using Nat.strongRecOn with
   |_ i Cg=>
    intro Ag;cases Tr:A8.getD i false with
    |true=>rfl
    |false=>
     exfalso;have:i∈Region.ready .any l.toArray A8:=by
      refine mem_ready.2 ⟨by rw[OQ (by rw[m.size];exact Ag)];exact Tr,l[i],by simp[ABs Ag],fun e he Aq=>?_⟩;have M7:=ABq.1 ok.back i (ABw.2 Ag);rw[ABs Ag]at M7;have:=ABq.1 M7 e (AC3.2 he);rw[Aq]at this;have C_:=EU (by simpa using this);exact Cg e.on C_ AMT
     rw[Bh]at this;cases this
  have heq:A8=Array.replicate l.length true:=by
   apply Array.ext
   · simp[m.size]
   intro i Af h2;have:=C0 i (by rw[m.size]at Af;exact Af);simp[Af]at this;simp[this]
  subst heq;exact Je a w Y m
 intro fuel;induction fuel with
 |zero=>
  intro A8 a w Y m Rd;have Bh:Region.ready .any l.toArray A8=[]:=by
   apply List.eq_nil_iff_forall_not_mem.2;intro i Ag;obtain⟨Ib,o,A7,_⟩:=mem_ready.1 Ag;have Ee:i<l.length:=by
    have:=(AC_.1 A7).1;simpa using this
   have Jg:A8.getD i false=false:=(by rw[<-OQ (by rw[m.size];exact Ee)];exact Ib);have Bw:(List.range l.length).countP (fun i=> !A8.getD i false)=0:=AMT;have:=List.countP_eq_zero.1 Bw i (ABw.2 Ee);simp[Jg]at this
  exact⟨Bh,G7 _ _ _ _ m Bh⟩
 |succ fuel Cg=>
  intro A8 a w Y m Rd;refine⟨fun Bh=>G7 _ _ _ _ m Bh,fun i Ag=>?_⟩;refine m.step ok BI jy jC BC B' Dk Ag fun Dx AT Ny WO=>Cg _ Dx AT Ny WO ?_;obtain⟨Ib,o,A7,_⟩:=mem_ready.1 Ag;have Ee:i<l.length:=by
   have:=(AC_.1 A7).1;simpa using this
  have IE:i<A8.size:=(by rw[m.size];exact Ee);have Jg:A8.getD i false=false:=(by rw[<-OQ IE];exact Ib);have:(List.range l.length).countP (fun k=> !(A8.setIfInBounds i true).getD k false)<(List.range l.length).countP (fun k=> !A8.getD k false):=by
   refine dQ (fun k _ AE=>?_) ⟨i,ABw.2 Ee,by rw[Jg];rfl,?_⟩
   · rw[Ia IE]at AE;simp only[ABe,ABD]at AE;rw[AE.2];rfl
   rw[Ia IE];simp
  omega
def dP(ms:List (Nat×List (Nat×GB ω))):Own->Nat->List (J6 ω)
 |[],_=>[]
 |q::r,i=>⟨some q,(Ex ms i).getD []⟩::dP ms r (i+1)
def M0(JY:List (List (Nat×GB ω)))(ms:List (Nat×List (Nat×GB ω)))(L:Own):List (J6 ω):=JY.map (fun s=>⟨none,s⟩)++dP ms L JY.length
theorem lL{Y:Nat->ω}:∀{st:List (Nat×GB ω)} {q:Option C4},TX (fun _=>false) Y st q=q
 |[],_=>rfl
 |(_,_)::r,q=>by simp only[TX,ACx];exact lL
theorem n5{JY:List (List (Nat×GB ω))}{ms:List (Nat×List (Nat×GB ω))}{L:Own}{Y:Nat->ω}:Lh (M0 JY ms L) (fun _=>false) Y=L:=by
 unfold Lh M0;rw[List.map_append,rZ];have Af:∀JY:List (List (Nat×GB ω)),Ou ((JY.map fun s=>(⟨none,s⟩:J6 ω)).map (T1 (fun _=>false) Y))=[]:=fun JY=>by
  induction JY with
  |nil=>rfl
  |cons s r Cg=>simp only[AB8,T1,lL,Ou];exact Cg
 have h2:∀(L:Own) (i:Nat),Ou ((dP ms L i).map (T1 (fun _=>false) Y))=L:=fun L=>by
  induction L with
  |nil=>exact fun _=>rfl
  |cons q r Cg=>exact fun i=>by simp only[dP,AB8,T1,lL,Ou,Cg]
 rw[Af,h2];rfl
def b1{β:Type 1}(k:C4->Option β)(AS:Option β):List C4->Option β
 |[q]=>k q
 |_=>AS
def ARH{β:Type 1}(Y:Nat->ω)(k:C4->Option β)(AS:Option β):GB ω->Option β
 | .f0 q=>k q
 | .f1 a f=>b1 k AS (f (Y a))
 | .f2 a b f=>b1 k AS (f (Y a) (Y b))
 | .f3 a b c f=>b1 k AS (f (Y a) (Y b) (Y c))
 | .f5 a b c d e f=>b1 k AS (f (Y a) (Y b) (Y c) (Y d) (Y e))
def fa:List (Nat×GB ω)->Option (GB ω)
 |[]=>none
 |[(_,f)]=>some f
 |_::r=>fa r
def Wa{β:Type 1}(Y:Nat->ω):List (J6 ω)->(Own->Option β)->Option β
 |[],k=>k []
 |Ir::r,k=>match fa Ir.st with
  |some f=>ARH Y (fun q=>Wa Y r fun t=>k (q::t)) (Wa Y r k) f
  |none=>match Ir.L3 with
   |some q=>Wa Y r fun t=>k (q::t)
   |none=>Wa Y r k
theorem tc{Y:Nat->ω}:∀{st:List (Nat×GB ω)} {q:Option C4},TX (fun _=>true) Y st q=(match fa st with|some f=>f.at_ Y|none=>q)
 |[],_=>rfl
 |[(_,f)],_=>rfl
 |(_,f)::p::r,q=>by
  simp only[TX,cond_true];exact tc (st:=p::r)
theorem Afs{β:Type 1}{k:C4->Option β}{AS:Option β}:∀{l:List C4},b1 k AS l=(match K' l with|some q=>k q|none=>AS)
 |[]=>rfl
 |[_]=>rfl
 |_::_::_=>rfl
theorem zT{β:Type 1}{Y:Nat->ω}{f:GB ω}{k:C4->Option β}{AS:Option β}:ARH Y k AS f=match f.at_ Y with
 |some q=>k q
 |none=>AS:=by
 cases f with
 |f0 q=>rfl
 |_=>exact Afs
theorem ih{β:Type 1}{Y:Nat->ω}:∀{cs:List (J6 ω)} {k:Own->Option β},Wa Y cs k=k (Lh cs (fun _=>true) Y)
 |[],_=>rfl
 |Ir::r,k=>by
  unfold Wa Lh;simp only[AB8,T1,tc];cases AN:fa Ir.st with
  |some f=>
   simp only[zT,ih];cases f.at_ Y<;>rfl
  |none=>
   cases B':Ir.L3<;>simp only[ih]<;>rfl
def hk{β:Type 1}:List Atom->List Atom->(List Atom->Option β)->Option β
 |[],B,k=>k B
 |a::r,B,k=>hk r B fun x=>k (a::x)
theorem nj{β:Type 1}{v:β}{B:List Atom}:∀{A:List Atom} {k:List Atom->Option β},hk A B k=some v->k (A++B)=some v
 |[],_,h=>h
 |a::r,k,h=>nj (A:=r) (k:=fun x=>k (a::x)) h
def hi{β:Type 1}(Y:Nat->ω)(D:List Atom):List (Nat×HA ω)->(List Atom->Option β)->Option β
 |[],k=>k D
 |(i,h)::r,k=>hi Y D r fun B=>hk (h.at_ (Y i)) B k
theorem na{β:Type 1}{Y:Nat->ω}{D:List Atom}{v:β}:∀{hs:List (Nat×HA ω)} {k:List Atom->Option β},hi Y D hs k=some v->k (ZW Y hs++D)=some v
 |[],_,h=>h
 |(i,x)::r,k,h=>by
  have:=nj (na (hs:=r) h);simpa[ZW]using this
theorem sf:∀{Qj:List Nat} {E SP:Env},Y1 Qj E=some SP->∀i v,C1 SP i=some v->C1 E i=some v
 |[],_,SP,h,i,v,Ag=>by
  simp only[Y1,ABX]at h;subst h;cases Ag
 |j::r,E,SP,h,i,v,Ag=>by
  simp only[Y1]at h;split at h
  · rename_i u hu;split at h
    · rename_i t Av;simp only[ABX]at h;subst h;simp only[C1]at Ag;by_cases e:j=i
      · subst e;simp at Ag;subst Ag;exact hu
      rw[show(j==i)=false by simpa using e,ACx]at Ag;exact sf Av i v Ag
    cases h
  cases h
def fh{α:Type _}:List (Nat×α)->Nat->Option (Nat×α)
 |[],_=>none
 |(j,k)::r,i=>bif Nat.beq j i then some (j,k)else fh r i
theorem q_{α:Type _}{i:Nat}:∀{hs:List (Nat×α)},fh hs i=(Ex hs i).map fun h=>(i,h)
 |[]=>rfl
 |(j,k)::r=>by
  simp only[fh,Ex];cases Aq:Nat.beq j i with
  |true=>
   rw[ACI Aq];rfl
  |false=>exact q_
def kW(B1:List (Nat×List Nat))(E:Env):Op->Option Value
 | .extract x i=>match AL E x with
  |some (.tuple vs)=>vs.toList[i]?
  |_=>none
 |op=>By B1 E op
theorem AhL{B1:List (Nat×List Nat)}{E:Env}{op:Op}:kW B1 E op=By B1 E op:=by
 cases op<;>try rfl
 simp only[kW,By];split<;>simp_all
def Ya(l:List Oper)(acc:List (Nat×Value)):List Nat->Env
 |[]=>[]
 |k::r=>match CN l k with
  |some d=>match Ex acc k with
   |some v=>(d,v)::Ya l acc r
   |none=>Ya l acc r
  |none=>Ya l acc r
def aB{α:Type _}{β:Type _}:List α->List α->(List α->Option β)->Option β
 |[],B,k=>k B
 |a::r,B,k=>aB r B fun x=>k (a::x)
theorem eh{α:Type _}{β:Type _}{B:List α}:∀{A:List α} {k:List α->Option β},aB A B k=k (A++B)
 |[],_=>rfl
 |a::r,k=>eh (A:=r) (k:=fun x=>k (a::x))
def bD(acc:List (Nat×Value))(k:Nat):Value:=(Ex acc k).getD undef
theorem oH{acc:List (Nat×Value)}:∀{is:List Nat},(∀k∈is,(Ex acc k).isSome=true)->Ya l acc is=Eo l (bD acc) is
 |[],_=>rfl
 |k::r,h=>by
  obtain⟨v,BC⟩:=ACC.1 (h k (ABx ..));simp only[Ya,Eo,oH fun x Ab=>h x (ABR _ Ab),bD,BC,Option.getD_some];cases CN l k<;>rfl
def im(l:List Oper)(E:Env)(o:Oper):Option Bool:=match o.guard with
 |some (j,b)=>match CN l j with
  |some d=>match C1 E d with
   |some (.bool KZ)=>some (KZ==b)
   |some (.tuple _)=>some false
   |_=>none
  |none=>none
 |none=>some true
theorem Aas{l:List Oper}{E:Env}{o:Oper}:im l E o=il l.toArray E o:=by
 unfold im il;split
 · unfold R0 CN;simp only[List.getElem?_toArray];rename_i j b _;cases l[j]? with
   |none=>rfl
   |some Lg=>
    simp only[Option.bind_some];cases Lg.dst<;>rfl
 rfl
def tG(B1:List (Nat×List Nat))(os:List Nat)(rs:List (Nat×Nat))(l:List Oper)(cs:List (J6 ω))(ks:List (Nat×Nat))(Y:Nat->ω)(i:Nat)(o:Oper)(E:Env):Option Value:=match im l E o with
 |some true=>match Ex ks i with
  |some k=>match L8 cs (fun j=>H0 l j i) Y k with
   |some q=>fb os rs E q o.op
   |none=>none
  |none=>kW B1 E o.op
 |some false=>some undef
 |none=>none
def gq(B1:List (Nat×List Nat))(os:List Nat)(rs:List (Nat×Nat))(l:List Oper)(base:Env)(cs:List (J6 ω))(hs:List (Nat×HA ω))(ks:List (Nat×Nat))(Y:Nat->ω)(acc:List (Nat×Value))(i:Nat)(o:Oper):Option Value:=match fh hs i with
 |some (j,h)=>match h.val (Y j)with
  |some u=>some u
  |none=>none
 |none=>bif o.dst.isNone then none else aB (Ya l acc (GF l i)) base (tG B1 os rs l cs ks Y i o)
def runK{β:Type _}(st:List (Nat×Value)->Nat->Oper->Option Value):List Oper->Nat->List (Nat×Value)->(List Value->Option β)->Option β
 |[],_,_,k=>k []
 |o::r,i,acc,k=>match st acc i o with
  |some u=>runK st r (i+1) ((i,u)::acc) fun t=>k (u::t)
  |none=>none
theorem AjR(Aq:ND l=true){Y:Nat->ω}{acc:List (Nat×Value)}{i:Nat}{o:Oper}(AN:∀k,k<i->(Ex acc k).isSome=true):gq B1 os rs l env cs hs ks Y acc i o=Oy B1 os rs l env cs hs ks Y (bD acc) i o:=by
 unfold gq Oy;rw[q_,oH fun k AE=>AN k (Pp.Eb.h3 Aq (ad AE).1)];cases Ex hs i with
 |some h=>
  simp only[Option.map_some];cases h.val (Y i)<;>rfl
 |none=>simp only[Option.map_none,eh,tG,Aas,AhL]
theorem sV{β:Type _}(Aq:ND l=true){Y:Nat->ω}:∀{r:List Oper} {i:Nat} {acc:List (Nat×Value)} {ac:List Value} {k:List Value->Option β} {v:β},ac.length=i->(∀k,Ex acc k=ac[k]?)->runK (gq B1 os rs l env cs hs ks Y) r i acc k=some v->∃t,runN (Oy B1 os rs l env cs hs ks Y) r i ac=some t/\k t=some v
 |[],_,_,_,_,_,_,_,h=>⟨[],rfl,h⟩
 |o::r,i,acc,ac,k,v,h,Yn,Bh=>by
  simp only[runK]at Bh;rw[AjR Aq (fun j Ay=>by rw[Yn,ABs AMT];rfl),show bD acc=fun k=>ac.getD k undef from funext fun k=>by rw[bD,Yn,ACn]]at Bh;simp only[runN];split at Bh
  · rename_i u hu;obtain⟨t,Af,h2⟩:=sV Aq (ac:=ac++[u]) (by simp[h]) (fun k=>by
     simp only[Ex];cases e:Nat.beq i k with
     |true=>
      obtain rfl:=ACI e;simp[<-h]
     |false=>
      have:=Nat.ne_of_beq_eq_false e;simp only[ACx,Yn,List.getElem?_append];split
      · rfl
      rename_i AE;rw[ACd AMT,ACd (by simp;omega)]) Bh
    exact⟨u::t,by simp only[Af],h2⟩
  cases Bh
def kD(B1:List (Nat×List Nat))(os:List Nat)(rs:List (Nat×Nat))(l:List Oper)(env:Env)(cs:List (J6 ω))(hs:List (Nat×HA ω))(ks:List (Nat×Nat))(Qj:List Nat)(D:List Atom)(Y:Nat->ω):Option (List Value×Own×Env×List Atom):=
 aB (Gv l env) [] fun base=>aB cs [] fun cs=>runK (gq B1 os rs l base cs hs ks Y) l 0 [] fun t=>match Y1 Qj (UE l t++base)with
  |some E=>Wa Y cs fun L=>hi Y D hs fun A=>some (t,L,E,A)
  |none=>none
theorem L4[Inhabited ω][Cr:J7 c.P]{id:Nat}{L:Own}(JY:List (List (Nat×GB ω)))(ms:List (Nat×List (Nat×GB ω)))(hs:List (Nat×HA ω))(ks:List (Nat×Nat))(Qj:List Nat){vs:(Nat->ω)->List Value}{Ob:(Nat->ω)->Own}{E:(Nat->ω)->Env}{A:(Nat->ω)->List Atom}
 (BC:∀Y,kD Cr.B1 Cr.os Cr.rs l env (M0 JY ms L) hs ks Qj D Y=some (vs Y,Ob Y,E Y,A Y))
 (Bm:∀Y,(dJ l (Gv l env) c.n (M0 JY ms L) hs ks,(PG l (Gv l env) (M0 JY ms L) Y (fun k=>(vs Y).getD k undef) ks).map Prod.fst)=(true,(PG l (Gv l env) (M0 JY ms L) Y (fun k=>(vs Y).getD k undef) ks).map Prod.snd))
 (Dk:QI c l (M0 JY ms L) hs (Gv l env) D vs hs)(k:∀Y,LS (fE hs)->Eg c Q .normal (E Y) (Ob Y) (A Y)):CF c (.region id l.toArray true) Q env L D:=by
 intro a w f st AR;have ok:=Afo (Prod.mk.inj (Bm fun _=>default)).1;have Rh:∀Y,runN (Oy Cr.B1 Cr.os Cr.rs l (Gv l env) (M0 JY ms L) hs ks Y) l 0 []=some (vs Y)/\Lh (M0 JY ms L) (fun _=>true) Y=Ob Y/\Y1 Qj (UE l (vs Y)++Gv l env)=some (E Y)/\ZW Y hs++D=A Y:=fun Y=>by
  have h:=BC Y;unfold kD at h;rw[eh,AB7,eh,AB7]at h;obtain⟨t,Av,h⟩:=sV ok.back (i:=0) (acc:=[]) (ac:=[]) rfl (fun _=>rfl) h;split at h
  · rename_i SP Ge;rw[ih]at h;have h:=na h;simp only[ABX,ACg]at h;obtain⟨rfl,h2,rfl,BB⟩:=h;exact⟨Av,h2,Ge,BB⟩
  cases h
 have B':∀Y,∀p∈PG l (Gv l env) (M0 JY ms L) Y (fun k=>(vs Y).getD k undef) ks,p.1=p.2:=fun Y p AH=>List.map_inj_left.1 (Prod.mk.inj (Bm Y)).2 p AH;have f0:Fr c.n a (Gv l env):=⟨f.size,f.GV,fun i v Ag=>f.at_ i v (ah Ag)⟩;have Yx:=C8.drew [] w;have NS:Pp c l (M0 JY ms L) hs ks Cr.B1 Cr.os Cr.rs (Gv l env) D (Array.replicate l.length false) a w.drew (fun _=>default):=by
  have e:(fun j=>(Array.replicate l.length false).getD j false)=fun _=>false:=funext fun j=>Px _ _;refine⟨f0,?_,?_,by simp,fun i k h _=>?_,fun i o h _ _=>?_,fun i h Ag _=>?_,fun i h Ag _=>?_⟩
  · rw[e,n5];exact st.step Yx
  · rw[e,n5];exact AR.step Yx.nil
  · rw[Px]at h;cases h
  · rw[Px]at h;cases h
  · rw[Px]at Ag;cases Ag
  rw[Px]at Ag;cases Ag
 refine wp_region_any Cr.fq ?_;have:=Pp.all (Q:=Q) ok Cr.okF Cr.Qq Cr.b0 (fun Y=>(Rh Y).1) B' Dk ?_ l.length (Array.replicate l.length false) a w.drew _ NS (by
  have:=List.countP_le_length (p:=fun i=> !(Array.replicate l.length false).getD i false) (l:=List.range l.length);simpa using this)
 · simpa using this
 intro Dx AT Y m;have Kp:∀i,i<l.length->(Array.replicate l.length true).getD i false=true:=fun i Ag=>by simp[Ag]
 have e:Lh (M0 JY ms L) (fun j=>(Array.replicate l.length true).getD j false) Y=Ob Y:=by
  rw[<-(Rh Y).2.1,b3,b3];refine b5 fun k AE=>?_;unfold L8;split
  · rename_i Ir To;refine cF fun p AH=>⟨?_,fun _ _ _=>rfl⟩;obtain⟨⟨h,he,_⟩,_⟩:=ok.st k Ir To p AH;exact Kp p.1 (Dk.lt _ (YN he))
  rfl
 have eM:∀i v,C1 (UE l (vs Y)++Gv l env) i=some v->Dx.tmps[i]? =some v:=fun i v Ag=>by
  rcases YO Ag with h|h
  · obtain⟨k,AJ,AE⟩:=re h;have:=m.Eb ok.back (Rh Y).1 k (Kp k (ai AJ)) (by rw[AJ];rfl);rw[ACn,AE]at this;simp only[Option.getD_some,valOf,Il,AJ]at this;have C_:i<Dx.tmps.size:=(by rw[m.Gw.size];exact dX ok.size AJ);rw[this];simp[C_]
  exact m.Gw.at_ i v h.2
 refine k Y (so fun p AH=>m.PK p.1 p.2 (Kp p.1 (Dk.lt _ AH)) (YM ok.key p AH)) Dx AT ⟨m.Gw.size,m.Gw.GV,fun i v Ag=>eM i v (sf (Rh Y).2.2.1 i v Ag)⟩ (e▸m.st) (e▸(Rh Y).2.2.2▸BP.app (fun t Av=>?_) m.AR);obtain⟨Gh,DI,MC,Av⟩:=ru Av;exact m.at_ Gh DI (Kp Gh (Dk.lt _ MC)) (YM ok.key (Gh,DI) MC) t Av
instance AnF:Inhabited (Nat->Value):=⟨fun _=>undef⟩
theorem FJ[Cr:J7 c.P]{id:Nat}{L:Own}(JY:List (List (Nat×GB (Nat->Value))))(ms:List (Nat×List (Nat×GB (Nat->Value))))(hs:List (Nat×HA (Nat->Value)))(ks:List (Nat×Nat))(Qj:List Nat){vs:(Nat->Nat->Value)->List Value}{Ob:(Nat->Nat->Value)->Own}{E:(Nat->Nat->Value)->Env}{A:(Nat->Nat->Value)->List Atom}
 (BC:∀Y,kD Cr.B1 Cr.os Cr.rs l env (M0 JY ms L) hs ks Qj D Y=some (vs Y,Ob Y,E Y,A Y))
 (Bm:∀Y,(dJ l (Gv l env) c.n (M0 JY ms L) hs ks,(PG l (Gv l env) (M0 JY ms L) Y (fun k=>(vs Y).getD k undef) ks).map Prod.fst)=(true,(PG l (Gv l env) (M0 JY ms L) Y (fun k=>(vs Y).getD k undef) ks).map Prod.snd))
 (Dk:QI c l (M0 JY ms L) hs (Gv l env) D vs hs)(k:∀Y,LS (fE hs)->Eg c Q .normal (E Y) (Ob Y) (A Y)):CF c (.region id l.toArray true) Q env L D:=L4 JY ms hs ks Qj BC Bm Dk k
section
variable{A:ω->Own} {f:C4} {Az:List Atom} {ops:Array Oper} {h:HA ω} {i:Nat} {env':Env} {L':Own} {Dd:List Atom}
def RE(ys:List Value):Nat->Value:=fun n=>ys.getD n undef
theorem I4(y:ω)(ix:List Nat)(n:Nat)(AH:(match CN l i with
 |some d=>C1 env' d
 |none=>h.val y,L',Dd.drop n,(h.val y).isSome)=(h.val y,A y++[f],Az,true))(AK:ix.map (fun i=>Dd[i]?)=(h.at_ y).map some)(B':LS h.PK):Cb (Y2 c l h i A f Az) c ops [] env' L' Dd:=nl fun a w Gw st AR=>by
 simp only[ACg]at AH;obtain⟨Af,h2,Bo,BB⟩:=AH;subst h2;subst Bo;refine⟨rfl,Gw.GV,y,st,fun t Av=>AR t (List.mem_of_mem_drop Av),fun d AJ=>?_,fun t Av=>AR t ?_,B'⟩
 · obtain⟨u,hu⟩:=ACC.1 BB;rw[AJ]at Af;have:=Gw.at_ d u (Af.trans hu);rw[ASf,this];exact hu
 have hm:some t∈ix.map (fun i=>Dd[i]?):=by rw[AK];exact AB6.2 ⟨t,Av,rfl⟩
 obtain⟨j,_,Ay⟩:=AB6.1 hm;exact AA' Ay
end
section
variable{c:Cj} {l:List Oper} {A:(Nat->Value)->Own} {f:C4} {Az:List Atom} {ops:Array Oper} {h:HA (Nat->Value)} {i:Nat} {env':Env} {L':Own} {Dd:List Atom}
theorem WT(ys:List Value)(ix:List Nat)(n:Nat)(AH:(match CN l i with
 |some d=>C1 env' d
 |none=>h.val (RE ys),L',Dd.drop n,(h.val (RE ys)).isSome)=(h.val (RE ys),A (RE ys)++[f],Az,true))(AK:ix.map (fun i=>Dd[i]?)=(h.at_ (RE ys)).map some)(B':LS h.PK):Cb (Y2 c l h i A f Az) c ops [] env' L' Dd:=I4 (RE ys) ix n AH AK B'
theorem BU{R:List Nat}{T_:(Nat->Value)->Option Value}{at_:(Nat->Value)->List Atom}(ys:List Value)(ix:List Nat)(n:Nat)(AH:(match CN l i with
 |some d=>C1 env' d
 |none=>T_ (RE ys),L',Dd.drop n,(T_ (RE ys)).isSome)=(T_ (RE ys),A (RE ys)++[f],Az,true))(AK:ix.map (fun i=>Dd[i]?)=(at_ (RE ys)).map some):Cb (Y2 c l (Ff R T_ at_) i A f Az) c ops [] env' L' Dd:=WT ys ix n AH AK trivial
end
end
@[reducible] def CC{vA:Type}[Be vA](x:vA):HA (List Nat×Value):=⟨[],fun y=>some y.2,fun y=>[⟨y.2,x⟩],[]⟩
@[reducible] def K8(R:List Nat):HA (List Nat×Value):=⟨R,fun y=>some y.2,fun _=>[],[]⟩
theorem CD{c:Cj}{l:List Oper}{A:List Nat×Value->Own}{f:C4}{Az:List Atom}{ops:Array Oper}{R:List Nat}{T_:List Nat×Value->Option Value}{at_:List Nat×Value->List Atom}{i:Nat}{env':Env}{L':Own}{Dd:List Atom}{v:Value}(ix:List Nat)(n:Nat)(AH:(match CN l i with
 |some d=>C1 env' d
 |none=>T_ ([],v),L',Dd.drop n,(T_ ([],v)).isSome)=(T_ ([],v),A ([],v)++[f],Az,true))(AK:ix.map (fun i=>Dd[i]?)=(at_ ([],v)).map some):Cb (Y2 c l ⟨R,T_,at_,[]⟩ i A f Az) c ops [] env' L' Dd:=I4 ([],v) ix n AH AK trivial
@[reducible] def Ol(R:List Nat)(v:(Nat->Value)->Option Value):HA (Nat->Value):=Ff R v fun _=>[]
@[reducible] def DF(R:List Nat)(v:Value):HA (Nat->Value):=Ff R (fun _=>some v) fun _=>[]
@[reducible] def O6(R:List Nat):HA (Nat->Value):=Ff R (fun y=>some (.pointer (some ⟨FH (y 0),0,none⟩))) fun _=>[]
section
variable{ω:Type}
def AvJ(c:Cj)(l:List Oper)(cs:List (J6 ω))(hs:List (Nat×HA ω))(env:Env)(D:List Atom)(vs:(Nat->ω)->List Value):List (Nat×HA ω)->(Nat->ω)->C4->List Atom->Prop
  |[],_,_,_=>True
  |(i,h)::r,Y,f,Az=>(match l[i]? with
    |some o=>LS (Y3 l i hs)->Cb (Y2 c l h i (fun y=>Mg cs (fun j=>H0 l j i||Nat.beq j i) (OB Y i y) h.R) f (D++Az)) c l.toArray [o] (Eo l (fun k=>(vs Y).getD k undef) (GF l i)++env) (Mg cs (fun j=>H0 l j i) Y h.R++[f]) (Ut l Y i hs++(D++Az))
    |none=>False)/\AvJ c l cs hs env D vs r Y f Az
theorem Awt[Inhabited ω]{c:Cj}{l:List Oper}{cs:List (J6 ω)}{hs:List (Nat×HA ω)}{env:Env}{D:List Atom}{vs:(Nat->ω)->List Value}:∀{r:List (Nat×HA ω)},(∀Y f Az,AvJ c l cs hs env D vs r Y f Az)->QI c l cs hs env D vs r
  |[],_=>trivial
  |(i,h)::r,H=>by
    refine⟨?_,Awt fun Y f Az=>(H Y f Az).2⟩;have Af:=fun Y f Az=>(H Y f Az).1;revert Af;cases l[i]? with
    |none=>exact fun Af=>Af (fun _=>default) (AO 0 0 []) []
    |some o=>exact fun Af Y f Az=>Af Y f Az
end
section
variable{c:Cj} {l:List Oper} {Q:AuE} {env:Env} {D:List Atom}
theorem AuG[Cr:J7 c.P]{id:Nat}{L:Own}(JY:List (List (Nat×GB (Nat->Value))))(ms:List (Nat×List (Nat×GB (Nat->Value))))(hs:List (Nat×HA (Nat->Value)))(ks:List (Nat×Nat))(Qj:List Nat){vs:(Nat->Nat->Value)->List Value}{Ob:(Nat->Nat->Value)->Own}{E:(Nat->Nat->Value)->Env}{A:(Nat->Nat->Value)->List Atom}
    (BC:∀Y,kD Cr.B1 Cr.os Cr.rs l env (M0 JY ms L) hs ks Qj D Y=some (vs Y,Ob Y,E Y,A Y))
    (Bm:∀Y,(dJ l (Gv l env) c.n (M0 JY ms L) hs ks,(PG l (Gv l env) (M0 JY ms L) Y (fun k=>(vs Y).getD k undef) ks).map Prod.fst)=(true,(PG l (Gv l env) (M0 JY ms L) Y (fun k=>(vs Y).getD k undef) ks).map Prod.snd))
    (Dk:∀Y f Az,AvJ c l (M0 JY ms L) hs (Gv l env) D vs hs Y f Az)(k:∀Y,LS (fE hs)->Eg c Q .normal (E Y) (Ob Y) (A Y)):CF c (.region id l.toArray true) Q env L D:=FJ JY ms hs ks Qj BC Bm (Awt Dk) k
theorem AuR{ω:Type}[Inhabited ω][Cr:J7 c.P]{id:Nat}{L:Own}(JY:List (List (Nat×GB ω)))(ms:List (Nat×List (Nat×GB ω)))(hs:List (Nat×HA ω))(ks:List (Nat×Nat))(Qj:List Nat){vs:(Nat->ω)->List Value}{Ob:(Nat->ω)->Own}{E:(Nat->ω)->Env}{A:(Nat->ω)->List Atom}
    (BC:∀Y,kD Cr.B1 Cr.os Cr.rs l env (M0 JY ms L) hs ks Qj D Y=some (vs Y,Ob Y,E Y,A Y))
    (Bm:∀Y,(dJ l (Gv l env) c.n (M0 JY ms L) hs ks,(PG l (Gv l env) (M0 JY ms L) Y (fun k=>(vs Y).getD k undef) ks).map Prod.fst)=(true,(PG l (Gv l env) (M0 JY ms L) Y (fun k=>(vs Y).getD k undef) ks).map Prod.snd))
    (Dk:∀Y f Az,AvJ c l (M0 JY ms L) hs (Gv l env) D vs hs Y f Az)(k:∀Y,LS (fE hs)->Eg c Q .normal (E Y) (Ob Y) (A Y)):CF c (.region id l.toArray true) Q env L D:=L4 JY ms hs ks Qj BC Bm (Awt Dk) k
end
end
end Go.A_
namespace Go.Apw
theorem q6(a:AD)(Cw:Value)(C6:a.wf)(hh:LI a.A0=true):Cv AG 166 [.agg (A3 a Cw).toArray] [⟨Cw,a.A0⟩] (Adv a):=by
 refine Aw.proof Tryz.func166 G 54 G G fun X w=>HP (q:=∀x∈a.A0,x.wf) (fun S w h=>O7 (s:=MN) (h _ (AA' (i:=0) G))) fun F5=>?_;have Ys:=PC hh;refine Ae<|CV G G G fun CY=>U 3 G<|Ac<|Am<|AuG [[(5,.f1 5 fun BM=>[row 3 (.slice (some ⟨(FH (BM 0)),0,none⟩) 1 1) [a.BT]])],[(2,.f1 2 fun BM=>[row 3 (.slice (some ⟨(FH (BM 0)),0,none⟩) 1 1) [a.BT]])]] [] [(2,Ol [1] fun A4=>some ((.slice (some ⟨(FH (A4 0)),0,none⟩) 1 1))),(5,Ol [0] fun A4=>some ((.slice (some ⟨(FH (A4 0)),0,none⟩) 1 1)))] [(1,2),(4,2)] [1,5,6] (fun _=>G) (fun _=>G) (fun Ai AV Az=>⟨fun _=>BH (xs:=[.tmp 12]) (us:=[.int .i64 a.BT]) (E:=3) (bytes:=8) (n:=1) G (by exact RL) G G G G G G fun xj=>Nm (α:=Int) [a.BT] [[.int .i64 (a.BT)]] G G (fun S w h=>⟨⟨G,C6.2.2.1⟩,trivial⟩) G<|BU [ALM xj 0] [] 0 G G,fun _=>BH (xs:=[.tmp 15]) (us:=[.int .i64 a.BT]) (E:=3) (bytes:=8) (n:=1) G (by exact RL) G G G G G G fun nt=>Nm (α:=Int) [a.BT] [[.int .i64 (a.BT)]] G G (fun S w h=>⟨⟨G,C6.2.2.1⟩,trivial⟩) G<|BU [ALM nt 0] [] 0 G G,trivial⟩) fun Ai _=>?_;generalize FH (Ai 2 0)=xj,FH (Ai 5 0)=nt;refine A5<|Am<|Ae<|AX 2 [2] G G<|C2 0 G G ADN G fun U9=>An G G<|Ac<|B5<|Hx (σ:=Nat×Value×Value) [(18,_),(19,_)] _ (fun i C=>(20,.int .i64 (i.1:Int))::(5,i.2.1)::(6,i.2.2)::C) (fun i=>[row 3 i.2.2 (So (fun h=> -h.Fc) a.BT a.A0 i.1),row 3 i.2.1 (So (fun h=>h.DV) a.BT a.A0 i.1),AO CY 58 (A3 a Cw),CL X w]) (fun _ Dw=>Dw) (fun i=>i.1<=a.A0.length) (fun i=>a.A0.length-i.1) (0,.slice (some ⟨xj,0,none⟩) 1 1,.slice (some ⟨nt,0,none⟩) 1 1) (Bs G) (Ad 0 G Aa) (ABg _) (Bs G) G (Ad 0 G Aa) ?_;rintro⟨i,Mp,v6⟩ Ag;simp only at Ag;refine AF 1 G<|Am<|B9 G (fun E1=>?_) (fun E1=>?_)
 ·
  have AJ:=Wy hh (i:=i) AMT;obtain⟨Ank,Anl⟩:=(F5 _ (Hl (l:=a.A0) (i:=i) AMT)).2.2.2;refine AZ<|Am<|B5<|Ae<|Fo 0 G G G I6 G fun RB=>Gi 0 G G (At G) G fun AhM cY=>CT Um G fun K0=>BZ 0 (us:=(JH ((a.A0.getD i default)))) G G G (At G) G G<|Ac<|Ae<|AX 3 [0] G G<|BH (xs:=[.tmp 26]) (us:=[.int .i64 ((a.A0.getD i default).DV)]) (E:=3) (bytes:=8) (n:=1) G (by exact RL) G G G G G G fun Amd=>Q5 (α:=Int) [(a.A0.getD i default).DV] [[.int .i64 ((a.A0.getD i default).DV)]] G (fun S w h=>⟨⟨G,(F5 _ (Hl (l:=a.A0) (i:=i) AMT)).2.2.1⟩,trivial⟩) (ABy G)<|ap 2 0 G G G G RL (by simp only[bC,ABv,ABo];omega) (by simp only[bC,ABv,ABo];omega) G fun Pg=>U 1 G<|Ac<|rg<|AX 3 [0] G G<|fl G BV G<|BH (xs:=[.tmp 32]) (us:=[.int .i64 ((-(a.A0.getD i default).Fc))]) (E:=3) (bytes:=8) (n:=1) G (by exact RL) G G G G G G fun nv=>Q5 (α:=Int) [-(a.A0.getD i default).Fc] [[.int .i64 (-(a.A0.getD i default).Fc)]] G (fun S w h=>⟨⟨G,BV⟩,trivial⟩) (ABy G)<|ap 1 0 G G G G RL (by simp only[bC,ABv,ABo];omega) (by simp only[bC,ABv,ABo];omega) G fun Xm=>U 1 G<|nl<|CU<|A5<|rg<|C5 G G BV G<|An G G<|nl<|AQ ?_;exact Dy ((i+1,Pg,Xm):Nat×Value×Value) (by show i+1<=_;omega) (by show _-_<_-_;omega) (Bs G) G (Ad 4 G Aa)
 exact ex<|Ck<|Ck<|D7<|A5<|Ae<|An G G<|D9 1 G<|JO<|B0 (tK _ _) (Ar G) G (Ad 0 G Aa) G<|U 3 G<|U 2 G<|Ac<|Ae<|An G G<|JO<|B0 (tK _ _) (Ar G) G (Ad 0 G Aa) G<|U 5 G<|Ac<|Ae<|U 5 G<|Fu 50 3 [] [46,47] G G G<|U 3 G<|Ac<|rt<|AQ<|IB () G G G G (by have e:i=a.A0.length:=AMT;subst e;simp only[AdN a,AdM a];try rfl) G Aa
end Go.Apw
