/- Part 4 of shardWhole_holds. -/
import Derived.ProofKit
import Derived.Deep.Slices
import Derived.OpenShut
import Derived.Carry
import Derived.Laws.Small
import Derived.Test.YtklmcfecakaanaaGreatSq3
namespace Go
theorem ACu:∀{x y:Bool},(x&&y)=false↔x=false∨y=false:=@Bool.and_eq_false_iff
theorem ABe:∀(b:Bool),((!b)=true)=(b=false):=@Bool.not_eq_true'
theorem ACS:∀(n:Nat),Int.toNat ↑n=n:=@Int.toNat_natCast
theorem ABn:∀{α:Type _} {a:α} {l:List α} {f:α→Bool},List.all (a::l) f=(f a&&List.all l f):=@List.all_cons
theorem AEe:∀{n:Nat} {p:Nat→Bool},List.find? p (List.range n)=none↔∀(i:Nat),i<n→(!p i)=true:=@List.find?_range_eq_none
theorem ADz:∀{n i:Nat} {p:Nat→Bool},List.find? p (List.range n)=some i↔p i=true∧i∈List.range n∧∀(j:Nat),j<i→(!p j)=true:=@List.find?_range_eq_some
theorem ABz:∀{α:Type _} {i:Nat} {l:List α},List.length (List.take i l)=min i (List.length l):=@List.length_take
theorem ABh:∀{α:Type _} {a:α},¬a∈[]:=@List.not_mem_nil
theorem ACw:∀{n m:Nat} (k:Nat),n≤m→n*k≤m*k:=@Nat.mul_le_mul_right
theorem ABl:∀{p:Prop} {_:Decidable p},decide p=false↔¬p:=@decide_eq_false_iff_not
theorem ABi:∀(p:Prop),(p∨False)=p:=@or_false
end Go
open Int renaming fdiv_eq_ediv_of_nonneg→AD_
open List renaming append_nil→AB7,drop_eq_getElem_cons→AC1,length_cons→ABv,length_drop→ACt,mem_append_left→AC9
open Nat renaming and_two_pow_sub_one_eq_mod→ASi,mod_eq_of_lt→ACJ,two_pow_add_eq_or_of_lt→AEo
open Option.some renaming injEq→ABX
namespace Go.Apw
end Go.Apw

open Go.A_ Go.Apw
namespace Go.Apw
theorem wrap_u8(u:Nat):IntKind.u8.wrap (u:Int)=((u % 256:Nat):Int):=by simp[IntKind.wrap,IntKind.signed,IntKind.bits]
theorem wrap_u64(u:Nat):IntKind.u64.wrap (u:Int)=((u % 18446744073709551616:Nat):Int):=by simp[IntKind.wrap,IntKind.signed,IntKind.bits]
theorem Vb(n a:Nat):(BitVec.ofInt n (a:Int)).toNat=a % 2^n:=by simp
theorem AfS{a b:Nat}(AK:a<256)(Aq:b<256):MY .or .u8 (a:Int) (b:Int)=((a|||b:Nat):Int):=by
 have h:a|||b<2^8:=Nat.or_lt_two_pow AK Aq;show IntKind.u8.wrap ((BitVec.ofInt 8 (a:Int)|||BitVec.ofInt 8 (b:Int)).toNat:Int)=_;rw[BitVec.toNat_or,Vb,Vb];rw[ACJ (show a<2^8 from AK),ACJ (show b<2^8 from Aq),wrap_u8,ACJ h]
theorem w1{a b:Nat}(AK:a<256)(Aq:b<256):MY .and .u8 (a:Int) (b:Int)=((a&&& b:Nat):Int):=by
 have h:a&&& b<2^8:=Nat.and_lt_two_pow a Aq;show IntKind.u8.wrap ((BitVec.ofInt 8 (a:Int)&&& BitVec.ofInt 8 (b:Int)).toNat:Int)=_;rw[BitVec.toNat_and,Vb,Vb];rw[ACJ (show a<2^8 from AK),ACJ (show b<2^8 from Aq),wrap_u8,ACJ h]
theorem rX{a b:Nat}(AK:a<2^64)(Aq:b<2^64):MY .or .u64 (a:Int) (b:Int)=((a|||b:Nat):Int):=by
 have h:a|||b<2^64:=Nat.or_lt_two_pow AK Aq;show IntKind.u64.wrap ((BitVec.ofInt 64 (a:Int)|||BitVec.ofInt 64 (b:Int)).toNat:Int)=_;rw[BitVec.toNat_or,Vb,Vb];rw[ACJ AK,ACJ Aq,wrap_u64,ACJ h]
theorem w0{a b:Nat}(AK:a<2^64)(Aq:b<2^64):MY .and .u64 (a:Int) (b:Int)=((a&&& b:Nat):Int):=by
 have h:a&&& b<2^64:=Nat.and_lt_two_pow a Aq;show IntKind.u64.wrap ((BitVec.ofInt 64 (a:Int)&&& BitVec.ofInt 64 (b:Int)).toNat:Int)=_;rw[BitVec.toNat_and,Vb,Vb];rw[ACJ AK,ACJ Aq,wrap_u64,ACJ h]
theorem AfQ(u:Nat):MY .or .u8 (IntKind.u8.wrap (u:Int)) 128=((u % 128+128:Nat):Int):=by
 rw[wrap_u8];have h:=AfS (a:=u % 256) (b:=128) AMT ARp;rw[show((128:Int))=((128:Nat):Int)from rfl,h];congr 1;have e:u % 256=128*(u % 256 / 128)+u % 128:=AMT;have Bh:u % 128<2^7:=AMT;have Af:u % 256 / 128=0\/u % 256 / 128=1:=AMT;have k:128|||u % 128=128+u % 128:=by
  have:=AEo Bh 1;simpa using this.symm
 rcases Af with Af|Af
 · rw[Af]at e;rw[e,Nat.mul_zero,AB0,Nat.or_comm,k];omega
 rw[Af]at e;rw[e,Nat.mul_one,<-k,Nat.or_comm,<-Nat.or_assoc,Nat.or_self,k];omega
theorem nf(c:UInt8):MY .and .u8 (c.toNat:Int) 127=((c.toNat % 128:Nat):Int):=by
 rw[show((127:Int))=((127:Nat):Int)from rfl,w1 c.toNat_lt ARp];congr 1;exact ASi c.toNat 7
theorem AjB(u:Nat):((u:Int)).fdiv (2^min (7:Int).toNat IntKind.u64.bits)=((u / 128:Nat):Int):=by
 rw[AD_ _ ARp];rfl
theorem th(u:Nat):((u:Int)).fdiv (2^min (1:Int).toNat IntKind.u64.bits)=((u / 2:Nat):Int):=by
 rw[AD_ _ ARp];rfl
theorem lN(a k:Nat)(h:a*2^k<2^64)(AE:k<=63):IntKind.u64.wrap ((a:Int)*2^min ((k:Nat):Int).toNat IntKind.u64.bits)=((a*2^k:Nat):Int):=by
 have e:min ((k:Nat):Int).toNat IntKind.u64.bits=k:=by simp only[ACS];show min k 64=k;omega
 rw[e,show(a:Int)*2^k=((a*2^k:Nat):Int)by push_cast;rfl,wrap_u64,ACJ h]
theorem rW{v a k:Nat}(BC:v<2^k)(h:a*2^k<2^64)(AE:k<=63):MY .or .u64 (v:Int) ((a*2^k:Nat):Int)=((v+a*2^k:Nat):Int):=by
 have Acm:v<2^64:=ACp BC (Nat.pow_le_pow_right ARp AMT);rw[rX Acm h,Nat.or_comm,Nat.mul_comm a,<-AEo BC];congr 1;omega
theorem and_1{v:Nat}(BC:v<2^64):MY .and .u64 (v:Int) 1=((v % 2:Nat):Int):=by
 rw[show((1:Int))=((1:Nat):Int)from rfl,w0 BC ARp];congr 1;exact ASi v 1
theorem AfP{v:Nat}(BC:v<2^63):MY .or .u64 ((v*2:Nat):Int) 1=((v*2+1:Nat):Int):=by
 rw[show((1:Int))=((1:Nat):Int)from rfl,rX AMT ARp];congr 1;have:=AEo (i:=1) (b:=1) ARp v;rw[Nat.mul_comm v 2];simpa using this.symm
theorem n'{x:Int}(h:A' x):MY .xor .i64 (if IntKind.i64.signed then-1 else IntKind.i64.max) x= -x-1:=by
 obtain⟨Af,h2⟩:=h;have e:(BitVec.ofInt 64 (-1)^^^BitVec.ofInt 64 x)=BitVec.ofInt 64 (-x-1):=by
  have a:BitVec.ofInt 64 (-1)=BitVec.allOnes 64:=ARp;rw[a,BitVec.allOnes_xor];have:BitVec.ofInt 64 (-x-1)= ~~~ BitVec.ofInt 64 x:=by
   apply BitVec.eq_of_toInt_eq;rw[BitVec.toInt_not,BitVec.toInt_ofInt];have t:(BitVec.ofInt 64 x).toNat=(x % 2^64).toNat:=(by simp[BitVec.toNat_ofInt]);rw[t];simp only[Int.bmod];omega
  rw[this]
 show IntKind.i64.wrap _=_;have:∀y:Int,A' y->IntKind.i64.wrap ((BitVec.ofInt 64 y).toNat:Int)=y:=by
  intro y Bf;obtain⟨Bo,BB⟩:=Bf;have t:(BitVec.ofInt 64 y).toNat=(y % 2^64).toNat:=(by simp[BitVec.toNat_ofInt]);rw[t];simp only[IntKind.wrap,IntKind.signed,IntKind.bits];simp;omega
 rw[<-this (-x-1) ⟨AMT,AMT⟩,<-e];rfl
theorem bq{v:Nat}(h:v<9223372036854775808):IntKind.i64.wrap (v:Int)=(v:Int):=Uf ⟨AMT,AMT⟩
def GN(v:Nat):List UInt8:=
 if h:v<128 then[UInt8.ofNat v]else UInt8.ofNat (v % 128+128)::GN (v / 128)
termination_by v
decreasing_by omega
def XF(x:Int):Nat:=if x<0 then(-x-1).toNat*2+1 else x.toNat*2
def Ul(v:Nat):Int:=if v % 2=1 then-((v / 2:Nat):Int)-1 else((v / 2:Nat):Int)
theorem AlS(x:Int):Ul (XF x)=x:=by
 unfold XF Ul;split<;>split<;>omega
theorem AlY{x:Int}(h:A' x):XF x<2^64:=by
 obtain⟨Af,h2⟩:=h;unfold XF;split<;>omega
theorem AlR{v:Nat}(h:v<2^64):A' (Ul v):=by
 unfold Ul;split<;>constructor<;>omega
def HH(i v:Nat):List UInt8->Nat×Nat×Nat
 |[]=>(0,0,20)
 |c::r=>
  if i=9/\1<c.toNat then(0,0,21)
  else if 128<=c.toNat then HH (i+1) (v+c.toNat % 128*2^(7*i)) r
  else if c.toNat=0/\0<i then(0,0,21)
  else(v+c.toNat % 128*2^(7*i),i+1,0)
structure Bb where
 pos:Nat
 fault:Nat
def Bb.step(s:Bb)(n e:Nat):Bb:=if s.fault≠0 then s else if e≠0 then{s with fault:=e}else{s with pos:=s.pos+n}
def Bb.val{α:Type}(s:Bb)(d x:α)(e:Nat):α:=if s.fault≠0 then d else if e≠0 then d else x
def L9(nd:List UInt8)(most:Int):Nat×Nat×Nat:=
 let(v,n,e):=HH 0 0 nd
 if e=0/\max most 0<(v:Int)then(0,0,22)else if e≠0 then(0,0,e)else(v,n,0)
def N3(nd:List UInt8)(most:Int):List UInt8×Nat×Nat:=
 let(v,n,e):=L9 nd most
 if e≠0 then([],0,e)else if nd.length<n+v then([],0,20)else((nd.drop n).take v,n+v,0)
def xO:List UInt8->UInt8×Nat×Nat
 |[]=>(0,0,20)
 |c::_=>(c,1,0)
abbrev VJ(α:Type):=Bb->α×Bb
def Lj{α:Type}(nd:List UInt8)(d:α)(f:List UInt8->α×Nat×Nat):VJ α:=fun s=>
 let(x,n,e):=f (nd.drop s.pos)
 (s.val d x e,s.step n e)
def rdNum(nd:List UInt8):VJ Nat:=Lj nd 0 (HH 0 0)
def D6(nd:List UInt8):VJ Int:=fun s=>(Ul (rdNum nd s).1,(rdNum nd s).2)
def k5(nd:List UInt8):VJ UInt8:=Lj nd 0 xO
def DT(nd:List UInt8)(most:Int):VJ Nat:=Lj nd 0 (fun l=>L9 l most)
def Gm(nd:List UInt8)(most:Int):VJ (List UInt8):=Lj nd [] (fun l=>N3 l most)
def QZ(x:Int):List UInt8:=GN (XF x)
def RS(b:List UInt8):List UInt8:=GN b.length++b
@[reducible] def TF(p:Nat×Nat×Nat):Value:=.tuple #[.int .u64 (p.1:Int),.int .i64 (p.2.1:Int),.int .i64 (p.2.2:Int)]
@[reducible] def WI(p:Nat×Nat×Nat):Value:=.tuple #[.int .i64 (p.1:Int),.int .i64 (p.2.1:Int),.int .i64 (p.2.2:Int)]
theorem mB{u:Nat}(h:u<2^64):IntKind.u64.wrap (u:Int)=(u:Int):=by rw[wrap_u64,ACJ h]
theorem gf{i c:Nat}(Ag:i<=9)(Bm:i=9->c<=1):c % 128*2^(7*i)<2^64:=by
 have h:i=0\/i=1\/i=2\/i=3\/i=4\/i=5\/i=6\/i=7\/i=8\/i=9:=AMT;rcases h with rfl|rfl|rfl|rfl|rfl|rfl|rfl|rfl|rfl|rfl<;>simp only[Nat.reduceMul,Nat.reducePow]<;>omega
theorem gd{i c v:Nat}(BC:v<2^(7*i)):v+c % 128*2^(7*i)<2^(7*(i+1)):=by
 have h:c % 128<128:=Nat.mod_lt _ ARp;have e:2^(7*(i+1))=128*2^(7*i):=by rw[Nat.mul_add,Nat.pow_add,Nat.mul_comm]
 rw[e];have:c % 128*2^(7*i)<=127*2^(7*i):=ACw _ AMT;omega
theorem yD{α:Type}{nd:List α}{i:Nat}{c:α}(h:nd[i]? =some c):nd.drop i=c::nd.drop (i+1):=by
 obtain⟨Ag,rfl⟩:=ABF.1 h;exact AC1 Ag
theorem AhB{i:Nat}(h:i<=9):2^(7*i)<=2^63:=Nat.pow_le_pow_right ARp AMT
theorem YV:∀(nd:List UInt8) (i v:Nat),i<=9->v<2^(7*i)->(HH i v nd).1<2^64/\(HH i v nd).2.1<=i+nd.length/\((HH i v nd).2.2≠0->(HH i v nd).1=0/\(HH i v nd).2.1=0)
 |[],i,v,_,_=>by simp[HH]
 |c::r,i,v,Ag,BC=>by
  have Bm:=c.toNat_lt;simp only[HH];split
  · exact⟨ARp,ABg _,fun _=>⟨rfl,rfl⟩⟩
  rename_i Af;split
  · have Gf:i+1<=9:=AMT;have h:=YV r (i+1) (v+c.toNat % 128*2^(7*i)) Gf (gd BC);refine⟨h.1,?_,h.2.2⟩;have:=h.2.1;simp only[ABv];omega
  split
  · exact⟨ARp,ABg _,fun _=>⟨rfl,rfl⟩⟩
  refine⟨?_,by simp only[ABv];omega,fun h=>absurd rfl h⟩;show v+c.toNat % 128*2^(7*i)<2^64;by_cases EO:i=9
  · subst EO;have:c.toNat % 128<=1:=AMT;simp only[Nat.reduceMul,Nat.reducePow]at BC ⊢;omega
  have h:=gd (c:=c.toNat) BC;have:=AhB (i:=i+1) AMT;omega
theorem S7{nd:List UInt8}{most:Int}{v n e:Nat}(h:HH 0 0 nd=(v,n,e)):L9 nd most=if e=0/\max most 0<(v:Int)then(0,0,22)else if e≠0 then(0,0,e)else(v,n,0):=by
 simp only[L9,h]
theorem aa(nd:List UInt8)(most:Int):((L9 nd most).1:Int)<=max most 0/\(L9 nd most).2.1<=nd.length/\((L9 nd most).2.2≠0->(L9 nd most).1=0/\(L9 nd most).2.1=0):=by
 have Aq:=YV nd 0 0 ARp ARp;rcases h:HH 0 0 nd with⟨v,n,e⟩;rw[h]at Aq;simp only[AB0]at Aq;rw[S7 h];split
 · exact⟨by show(0:Int)<=_;omega,ABg _,fun _=>⟨rfl,rfl⟩⟩
 split
 · exact⟨by show(0:Int)<=_;omega,ABg _,fun _=>⟨rfl,rfl⟩⟩
 rename_i Af h2;have:e=0:=AMT;exact⟨by show(v:Int)<=_;omega,Aq.2.1,fun h=>absurd rfl h⟩
theorem l7{nd:List UInt8}{most:Int}{v n e:Nat}(h:L9 nd most=(v,n,e)):N3 nd most=if e≠0 then([],0,e)else if nd.length<n+v then([],0,20)else((nd.drop n).take v,n+v,0):=by
 simp only[N3,h]
theorem l6(nd:List UInt8)(most:Int):(N3 nd most).2.1<=nd.length/\((N3 nd most).2.2≠0->(N3 nd most).1=[]/\(N3 nd most).2.1=0)/\((N3 nd most).1.length:Int)<=max most 0:=by
 have Aq:=aa nd most;rcases h:L9 nd most with⟨v,n,e⟩;rw[h]at Aq;rw[l7 h];simp only at Aq;split
 · exact⟨ABg _,fun _=>⟨rfl,rfl⟩,by show(0:Int)<=_;omega⟩
 split
 · exact⟨ABg _,fun _=>⟨rfl,rfl⟩,by show(0:Int)<=_;omega⟩
 exact⟨by show n+v<=_;omega,fun h=>absurd rfl h,by simp only[ABz,ACt];omega⟩
theorem SI{x:Int}(Bw:0<=x)(Af:x<18446744073709551616):IntKind.u64.wrap x=x:=by
 have:=mB (u:=x.toNat) AMT
 rwa [Int.toNat_of_nonneg Bw]at this
theorem rr{x:Int}(h:A' x):0<=max x 0/\max x 0<9223372036854775808:=by
 obtain⟨Af,h2⟩:=h;omega
theorem step_pos{nd:List UInt8}{s:Bb}{n e:Nat}(AH:s.pos<=nd.length)(Ao:n<=(nd.drop s.pos).length):(s.step n e).pos<=nd.length:=by
 rw[ACt]at Ao;unfold Bb.step;split
 · exact AH
 split
 · exact AH
 show s.pos+n<=_;omega
theorem fL{α:Type}{nd:List UInt8}{d:α}{f:List UInt8->α×Nat×Nat}{s:Bb}(AH:s.pos<=nd.length)(BI:∀l,(f l).2.1<=l.length):(Lj nd d f s).2.pos<=nd.length:=by
 rcases h:f (nd.drop s.pos)with⟨x,n,e⟩;have:=BI (nd.drop s.pos);rw[h]at this;simp only[Lj,h];exact step_pos AH this
theorem Aia{nd:List UInt8}{s:Bb}(AH:s.pos<=nd.length):(rdNum nd s).2.pos<=nd.length:=fL AH fun l=>by have:=(YV l 0 0 ARp ARp).2.1;omega
theorem Hb{nd:List UInt8}{s:Bb}(AH:s.pos<=nd.length):(D6 nd s).2.pos<=nd.length:=Aia AH
theorem W_{nd:List UInt8}{most:Int}{s:Bb}(AH:s.pos<=nd.length):(DT nd most s).2.pos<=nd.length:=fL AH fun l=>(aa l most).2.1
theorem Vf{nd:List UInt8}{most:Int}{s:Bb}(AH:s.pos<=nd.length):(Gm nd most s).2.pos<=nd.length:=fL AH fun l=>(l6 l most).1
theorem sM(nd:List UInt8)(s:Bb):(rdNum nd s).1<2^64:=by
 have:=(YV (nd.drop s.pos) 0 0 ARp ARp).1;simp only[rdNum,Lj,Bb.val];split
 · decide
 split
 · decide
 exact this
theorem HL(nd:List UInt8)(s:Bb):A' (D6 nd s).1:=AlR (sM nd s)
theorem toNat_ofNat{n:Nat}(h:n<256):(UInt8.ofNat n).toNat=n:=by simp;omega
theorem AfR(v:Nat):MY .or .u8 (IntKind.u8.wrap (v:Int)) 128=((UInt8.ofNat (v % 128+128)).toNat:Int):=by rw[AfQ,toNat_ofNat AMT]
theorem wrap_u8'{v:Nat}(h:v<256):IntKind.u8.wrap (v:Int)=((UInt8.ofNat v).toNat:Int):=by rw[wrap_u8,toNat_ofNat h,ACJ h]
theorem tg{y:Int}(Bw:0<=y)(Af:y<9223372036854775808):IntKind.u64.wrap (y*2^min (1:Int).toNat IntKind.u64.bits)=((y.toNat*2:Nat):Int):=by
 have:=lN y.toNat 1 AMT ARp;rw[Int.toNat_of_nonneg Bw]at this;exact this
theorem ec{v:Nat}(h:v<128):GN v=[UInt8.ofNat v]:=by rw[GN];simp[h]
theorem eb{v:Nat}(h:128<=v):GN v=UInt8.ofNat (v % 128+128)::GN (v / 128):=by
 rw[GN];rw[dif_neg AMT]
theorem sm{v n:Nat}(h:128<=v)(Ao:n<=9)(BC:v<2^(64-7*n)):n+1<=9/\v / 128<2^(64-7*(n+1)):=by
 have h:n=0\/n=1\/n=2\/n=3\/n=4\/n=5\/n=6\/n=7\/n=8\/n=9:=AMT;rcases h with rfl|rfl|rfl|rfl|rfl|rfl|rfl|rfl|rfl|rfl<;>simp only[Nat.reduceMul,Nat.reduceAdd,Nat.reduceSub,Nat.reducePow]at BC ⊢ <;>omega
theorem oC:∀(n v:Nat),n<=9->v<2^(64-7*(9-n))->(GN v).length<=n+1
 |n,v,Ao,BC=>by
  by_cases h:v<128
  · rw[ec h];simp
  have q:=sm (v:=v) (n:=9-n) AMT AMT BC;obtain⟨m,rfl⟩:∃m,n=m+1:=⟨n-1,AMT⟩;have:=oC m (v / 128) AMT (by rw[show 9-m=9-(m+1)+1 by omega];exact q.2);rw[eb AMT];simp only[ABv];omega
theorem yU{v:Nat}(h:v<2^64):(GN v).length<=10:=oC 9 v ARp h
@[reducible] def CG(p:Nat)(bv:Value)(s:Bb):C4:=AO p 245 [bv,.int .i64 (s.pos:Int),.int .i64 (s.fault:Int)]
@[reducible] def Pb(n e:Nat):Value:=.tuple #[.int .i64 (n:Int),.int .i64 (e:Int)]
structure Fs where
 Ev:Int
 Hi:Int
 IX:Int
 A6:ByteArray
 Bc:ByteArray
 Ap:Int
 As:Int
 deriving DecidableEq,Inhabited
@[reducible] def ED(x:Fs):List Value:=[.int .i64 x.Ev,.int .i64 x.Hi,.int .i64 x.IX,.string x.A6,.string x.Bc,.int .i64 x.Ap,.int .i64 x.As]
def Fs.wf(x:Fs):Prop:=A' x.Ev/\A' x.Hi/\A' x.IX/\x.A6.size<=9223372036854775807/\x.Bc.size<=9223372036854775807/\A' x.Ap/\A' x.As
@[reducible] def Ai2:Shape Fs where
 H:=Unit
 size:=7
 cells x h:=ED x
 sub x h:=[]
 wf:=Fs.wf
 len _ _:=rfl
 one:=by
  intro S w x h Av u hu;simp only[ED,ABf,ABh,ABi]at hu;rcases hu with rfl|rfl|rfl|rfl|rfl|rfl|rfl<;>first|rfl
@[reducible] instance Ru:Be Fs:=Be.D5 Ai2
theorem sa{x:Fs}:AuF Ru E_ 0 1 x x.Ev:=by
 rintro S w cs ⟨h,rfl,hs,hw⟩;exact⟨rfl,hw.1⟩
theorem AgK{x:Fs}:AuF Ru E_ 1 1 x x.Hi:=by
 rintro S w cs ⟨h,rfl,hs,hw⟩;exact⟨rfl,hw.2.1⟩
theorem AgL{x:Fs}:AuF Ru E_ 2 1 x x.IX:=by
 rintro S w cs ⟨h,rfl,hs,hw⟩;exact⟨rfl,hw.2.2.1⟩
theorem AgM{x:Fs}:AuF Ru Nl 3 1 x x.A6:=by
 rintro S w cs ⟨h,rfl,hs,hw⟩;exact⟨rfl,hw.2.2.2.1⟩
theorem AgN{x:Fs}:AuF Ru Nl 4 1 x x.Bc:=by
 rintro S w cs ⟨h,rfl,hs,hw⟩;exact⟨rfl,hw.2.2.2.2.1⟩
theorem AgO{x:Fs}:AuF Ru E_ 5 1 x x.Ap:=by
 rintro S w cs ⟨h,rfl,hs,hw⟩;exact⟨rfl,hw.2.2.2.2.2.1⟩
theorem AgP{x:Fs}:AuF Ru E_ 6 1 x x.As:=by
 rintro S w cs ⟨h,rfl,hs,hw⟩;exact⟨rfl,hw.2.2.2.2.2.2⟩
structure FL where
 Ca:Int
 Al:ByteArray
 EL:ByteArray
 B2:Int
 A6:Int
 Bc:Int
 deriving DecidableEq,Inhabited
@[reducible] def MZ(x:FL):List Value:=[.int .i64 x.Ca,.string x.Al,.string x.EL,.int .i64 x.B2,.int .i64 x.A6,.int .i64 x.Bc]
def FL.wf(x:FL):Prop:=A' x.Ca/\x.Al.size<=9223372036854775807/\x.EL.size<=9223372036854775807/\A' x.B2/\A' x.A6/\A' x.Bc
@[reducible] def Ai1:Shape FL where
 H:=Unit
 size:=6
 cells x h:=MZ x
 sub x h:=[]
 wf:=FL.wf
 len _ _:=rfl
 one:=by
  intro S w x h Av u hu;simp only[MZ,ABf,ABh,ABi]at hu;rcases hu with rfl|rfl|rfl|rfl|rfl|rfl<;>first|rfl
@[reducible] instance Ve:Be FL:=Be.D5 Ai1
theorem AgE{x:FL}:AuF Ve E_ 0 1 x x.Ca:=by
 rintro S w cs ⟨h,rfl,hs,hw⟩;exact⟨rfl,hw.1⟩
theorem AgF{x:FL}:AuF Ve Nl 1 1 x x.Al:=by
 rintro S w cs ⟨h,rfl,hs,hw⟩;exact⟨rfl,hw.2.1⟩
theorem AgG{x:FL}:AuF Ve Nl 2 1 x x.EL:=by
 rintro S w cs ⟨h,rfl,hs,hw⟩;exact⟨rfl,hw.2.2.1⟩
theorem AgH{x:FL}:AuF Ve E_ 3 1 x x.B2:=by
 rintro S w cs ⟨h,rfl,hs,hw⟩;exact⟨rfl,hw.2.2.2.1⟩
theorem AgI{x:FL}:AuF Ve E_ 4 1 x x.A6:=by
 rintro S w cs ⟨h,rfl,hs,hw⟩;exact⟨rfl,hw.2.2.2.2.1⟩
theorem AgJ{x:FL}:AuF Ve E_ 5 1 x x.Bc:=by
 rintro S w cs ⟨h,rfl,hs,hw⟩;exact⟨rfl,hw.2.2.2.2.2⟩
structure GC where
 A6:Int
 Bc:Int
 deriving DecidableEq,Inhabited
@[reducible] def Od(x:GC):List Value:=[.int .i64 x.A6,.int .i64 x.Bc]
def GC.wf(x:GC):Prop:=A' x.A6/\A' x.Bc
@[reducible] def Ai3:Shape GC where
 H:=Unit
 size:=2
 cells x h:=Od x
 sub x h:=[]
 wf:=GC.wf
 len _ _:=rfl
 one:=by
  intro S w x h Av u hu;simp only[Od,ABf,ABh,ABi]at hu;rcases hu with rfl|rfl<;>first|rfl
@[reducible] instance k0:Be GC:=Be.D5 Ai3
theorem Ag'{x:GC}:AuF k0 E_ 0 1 x x.A6:=by
 rintro S w cs ⟨h,rfl,hs,hw⟩;exact⟨rfl,hw.1⟩
theorem Aha{x:GC}:AuF k0 E_ 1 1 x x.Bc:=by
 rintro S w cs ⟨h,rfl,hs,hw⟩;exact⟨rfl,hw.2⟩
structure F_ where
 Ap:Int
 As:Int
 DH:Int
 B2:Int
 deriving DecidableEq,Inhabited
@[reducible] def Lx(x:F_):List Value:=[.int .i64 x.Ap,.int .i64 x.As,.int .i64 x.DH,.int .i64 x.B2]
def F_.wf(x:F_):Prop:=A' x.Ap/\A' x.As/\A' x.DH/\A' x.B2
@[reducible] def Ai0:Shape F_ where
 H:=Unit
 size:=4
 cells x h:=Lx x
 sub x h:=[]
 wf:=F_.wf
 len _ _:=rfl
 one:=by
  intro S w x h Av u hu;simp only[Lx,ABf,ABh,ABi]at hu;rcases hu with rfl|rfl|rfl|rfl<;>first|rfl
@[reducible] instance ck:Be F_:=Be.D5 Ai0
theorem Agx{x:F_}:AuF ck E_ 0 1 x x.Ap:=by
 rintro S w cs ⟨h,rfl,hs,hw⟩;exact⟨rfl,hw.1⟩
theorem Agy{x:F_}:AuF ck E_ 1 1 x x.As:=by
 rintro S w cs ⟨h,rfl,hs,hw⟩;exact⟨rfl,hw.2.1⟩
theorem Agz{x:F_}:AuF ck E_ 2 1 x x.DH:=by
 rintro S w cs ⟨h,rfl,hs,hw⟩;exact⟨rfl,hw.2.2.1⟩
theorem AgA{x:F_}:AuF ck E_ 3 1 x x.B2:=by
 rintro S w cs ⟨h,rfl,hs,hw⟩;exact⟨rfl,hw.2.2.2⟩
structure BD where
 Bn:Int
 G0:Int
 DV:Int
 Fc:Int
 deriving DecidableEq,Inhabited
@[reducible] def JH(x:BD):List Value:=[.int .i64 x.Bn,.int .i64 x.G0,.int .i64 x.DV,.int .i64 x.Fc]
def BD.wf(x:BD):Prop:=A' x.Bn/\A' x.G0/\A' x.DV/\A' x.Fc
@[reducible] def MN:Shape BD where
 H:=Unit
 size:=4
 cells x h:=JH x
 sub x h:=[]
 wf:=BD.wf
 len _ _:=rfl
 one:=by
  intro S w x h Av u hu;simp only[JH,ABf,ABh,ABi]at hu;rcases hu with rfl|rfl|rfl|rfl<;>first|rfl
@[reducible] instance Mj:Be BD:=Be.D5 MN
theorem Agt{x:BD}:AuF Mj E_ 0 1 x x.Bn:=by
 rintro S w cs ⟨h,rfl,hs,hw⟩;exact⟨rfl,hw.1⟩
theorem Agu{x:BD}:AuF Mj E_ 1 1 x x.G0:=by
 rintro S w cs ⟨h,rfl,hs,hw⟩;exact⟨rfl,hw.2.1⟩
theorem Agv{x:BD}:AuF Mj E_ 2 1 x x.DV:=by
 rintro S w cs ⟨h,rfl,hs,hw⟩;exact⟨rfl,hw.2.2.1⟩
theorem Agw{x:BD}:AuF Mj E_ 3 1 x x.Fc:=by
 rintro S w cs ⟨h,rfl,hs,hw⟩;exact⟨rfl,hw.2.2.2⟩
structure De where
 Jd:Int
 JM:Int
 JJ:Int
 JK:Int
 deriving DecidableEq,Inhabited
@[reducible] def GM(x:De):List Value:=[.int .i64 x.Jd,.int .i64 x.JM,.int .i64 x.JJ,.int .i64 x.JK]
def De.wf(x:De):Prop:=A' x.Jd/\A' x.JM/\A' x.JJ/\A' x.JK
@[reducible] def AiX:Shape De where
 H:=Unit
 size:=4
 cells x h:=GM x
 sub x h:=[]
 wf:=De.wf
 len _ _:=rfl
 one:=by
  intro S w x h Av u hu;simp only[GM,ABf,ABh,ABi]at hu;rcases hu with rfl|rfl|rfl|rfl<;>first|rfl
@[reducible] instance ch:Be De:=Be.D5 AiX
theorem Agf{x:De}:AuF ch E_ 0 1 x x.Jd:=by
 rintro S w cs ⟨h,rfl,hs,hw⟩;exact⟨rfl,hw.1⟩
theorem Agg{x:De}:AuF ch E_ 1 1 x x.JM:=by
 rintro S w cs ⟨h,rfl,hs,hw⟩;exact⟨rfl,hw.2.1⟩
theorem Agh{x:De}:AuF ch E_ 2 1 x x.JJ:=by
 rintro S w cs ⟨h,rfl,hs,hw⟩;exact⟨rfl,hw.2.2.1⟩
theorem Agi{x:De}:AuF ch E_ 3 1 x x.JK:=by
 rintro S w cs ⟨h,rfl,hs,hw⟩;exact⟨rfl,hw.2.2.2⟩
structure Df where
 Ap:Int
 As:Int
 deriving DecidableEq,Inhabited
@[reducible] def QT(x:Df):List Value:=[.int .i64 x.Ap,.int .i64 x.As]
def Df.wf(x:Df):Prop:=A' x.Ap/\A' x.As
@[reducible] def Ze:Shape Df where
 H:=Unit
 size:=2
 cells x h:=QT x
 sub x h:=[]
 wf:=Df.wf
 len _ _:=rfl
 one:=by
  intro S w x h Av u hu;simp only[QT,ABf,ABh,ABi]at hu;rcases hu with rfl|rfl<;>first|rfl
@[reducible] instance Y9:Be Df:=Be.D5 Ze
theorem Ags{x:Df}:AuF Y9 E_ 0 1 x x.Ap:=by
 rintro S w cs ⟨h,rfl,hs,hw⟩;exact⟨rfl,hw.1⟩
theorem r'{x:Df}:AuF Y9 E_ 1 1 x x.As:=by
 rintro S w cs ⟨h,rfl,hs,hw⟩;exact⟨rfl,hw.2⟩
structure BL where
 Ap:Int
 As:Int
 HV:Bool
 Cm:De
 deriving DecidableEq,Inhabited
@[reducible] def H9(x:BL):List Value:=[.int .i64 x.Ap,.int .i64 x.As,.bool x.HV,.int .i64 x.Cm.Jd,.int .i64 x.Cm.JM,.int .i64 x.Cm.JJ,.int .i64 x.Cm.JK]
def BL.wf(x:BL):Prop:=A' x.Ap/\A' x.As/\True/\x.Cm.wf
@[reducible] def cy:Shape BL where
 H:=Unit
 size:=7
 cells x h:=H9 x
 sub x h:=[]
 wf:=BL.wf
 len _ _:=rfl
 one:=by
  intro S w x h Av u hu;simp only[H9,ABf,ABh,ABi]at hu;rcases hu with rfl|rfl|rfl|rfl|rfl|rfl|rfl<;>first|rfl
@[reducible] instance W8:Be BL:=Be.D5 cy
theorem AgB{x:BL}:AuF W8 E_ 0 1 x x.Ap:=by
 rintro S w cs ⟨h,rfl,hs,hw⟩;exact⟨rfl,hw.1⟩
theorem AgC{x:BL}:AuF W8 E_ 1 1 x x.As:=by
 rintro S w cs ⟨h,rfl,hs,hw⟩;exact⟨rfl,hw.2.1⟩
theorem AgD{x:BL}:AuF W8 cr 2 1 x x.HV:=by
 rintro S w cs ⟨h,rfl,hs,hw⟩;exact⟨rfl,trivial⟩
theorem fw{x:BL}:AuF W8 ch 3 4 x x.Cm:=by
 rintro S w cs ⟨h,rfl,hs,hw⟩;exact⟨(),rfl,by simp,hw.2.2.2⟩
structure Bx where
 Ap:Int
 As:Int
 Al:ByteArray
 EL:ByteArray
 B2:Int
 DN:Int
 DO:Int
 C3:Int
 deriving DecidableEq,Inhabited
@[reducible] def H8(x:Bx):List Value:=[.int .i64 x.Ap,.int .i64 x.As,.string x.Al,.string x.EL,.int .i64 x.B2,.int .i64 x.DN,.int .i64 x.DO,.int .i64 x.C3]
def Bx.wf(x:Bx):Prop:=A' x.Ap/\A' x.As/\x.Al.size<=9223372036854775807/\x.EL.size<=9223372036854775807/\A' x.B2/\A' x.DN/\A' x.DO/\A' x.C3
@[reducible] def Kx:Shape Bx where
 H:=Unit
 size:=8
 cells x h:=H8 x
 sub x h:=[]
 wf:=Bx.wf
 len _ _:=rfl
 one:=by
  intro S w x h Av u hu;simp only[H8,ABf,ABh,ABi]at hu;rcases hu with rfl|rfl|rfl|rfl|rfl|rfl|rfl|rfl<;>first|rfl
@[reducible] instance ML:Be Bx:=Be.D5 Kx
theorem Agl{x:Bx}:AuF ML E_ 0 1 x x.Ap:=by
 rintro S w cs ⟨h,rfl,hs,hw⟩;exact⟨rfl,hw.1⟩
theorem Agm{x:Bx}:AuF ML E_ 1 1 x x.As:=by
 rintro S w cs ⟨h,rfl,hs,hw⟩;exact⟨rfl,hw.2.1⟩
theorem Agn{x:Bx}:AuF ML Nl 2 1 x x.Al:=by
 rintro S w cs ⟨h,rfl,hs,hw⟩;exact⟨rfl,hw.2.2.1⟩
theorem Ago{x:Bx}:AuF ML Nl 3 1 x x.EL:=by
 rintro S w cs ⟨h,rfl,hs,hw⟩;exact⟨rfl,hw.2.2.2.1⟩
theorem Agp{x:Bx}:AuF ML E_ 4 1 x x.B2:=by
 rintro S w cs ⟨h,rfl,hs,hw⟩;exact⟨rfl,hw.2.2.2.2.1⟩
theorem Agq{x:Bx}:AuF ML E_ 5 1 x x.DN:=by
 rintro S w cs ⟨h,rfl,hs,hw⟩;exact⟨rfl,hw.2.2.2.2.2.1⟩
theorem Agr{x:Bx}:AuF ML E_ 6 1 x x.DO:=by
 rintro S w cs ⟨h,rfl,hs,hw⟩;exact⟨rfl,hw.2.2.2.2.2.2.1⟩
theorem r_{x:Bx}:AuF ML E_ 7 1 x x.C3:=by
 rintro S w cs ⟨h,rfl,hs,hw⟩;exact⟨rfl,hw.2.2.2.2.2.2.2⟩
structure BX where
 Ca:Int
 Ap:Int
 As:Int
 Bn:Int
 DH:Int
 AM:FL
 deriving DecidableEq,Inhabited
@[reducible] def Hh(x:BX):List Value:=[.int .i64 x.Ca,.int .i64 x.Ap,.int .i64 x.As,.int .i64 x.Bn,.int .i64 x.DH,.int .i64 x.AM.Ca,.string x.AM.Al,.string x.AM.EL,.int .i64 x.AM.B2,.int .i64 x.AM.A6,.int .i64 x.AM.Bc]
def BX.wf(x:BX):Prop:=A' x.Ca/\A' x.Ap/\A' x.As/\A' x.Bn/\A' x.DH/\x.AM.wf
@[reducible] def Zf:Shape BX where
 H:=Unit
 size:=11
 cells x h:=Hh x
 sub x h:=[]
 wf:=BX.wf
 len _ _:=rfl
 one:=by
  intro S w x h Av u hu;simp only[Hh,ABf,ABh,ABi]at hu;rcases hu with rfl|rfl|rfl|rfl|rfl|rfl|rfl|rfl|rfl|rfl|rfl<;>first|rfl
@[reducible] instance Ha:Be BX:=Be.D5 Zf
theorem Ahb{x:BX}:AuF Ha E_ 0 1 x x.Ca:=by
 rintro S w cs ⟨h,rfl,hs,hw⟩;exact⟨rfl,hw.1⟩
theorem Ahc{x:BX}:AuF Ha E_ 1 1 x x.Ap:=by
 rintro S w cs ⟨h,rfl,hs,hw⟩;exact⟨rfl,hw.2.1⟩
theorem Ahd{x:BX}:AuF Ha E_ 2 1 x x.As:=by
 rintro S w cs ⟨h,rfl,hs,hw⟩;exact⟨rfl,hw.2.2.1⟩
theorem Ahe{x:BX}:AuF Ha E_ 3 1 x x.Bn:=by
 rintro S w cs ⟨h,rfl,hs,hw⟩;exact⟨rfl,hw.2.2.2.1⟩
theorem Ahf{x:BX}:AuF Ha E_ 4 1 x x.DH:=by
 rintro S w cs ⟨h,rfl,hs,hw⟩;exact⟨rfl,hw.2.2.2.2.1⟩
theorem Ahg{x:BX}:AuF Ha Ve 5 6 x x.AM:=by
 rintro S w cs ⟨h,rfl,hs,hw⟩;exact⟨(),rfl,by simp,hw.2.2.2.2.2⟩
structure QM where
 CZ:Int
 Al:ByteArray
 G0:Int
 It:Int
 deriving DecidableEq,Inhabited
structure AD where
 Al:ByteArray
 Cs:GC
 BT:Int
 Cn:Int
 A0:List BD
 BG:F_
 deriving DecidableEq,Inhabited
@[reducible] def A3(x:AD)(AS:Value):List Value:=[.string x.Al,.int .i64 x.Cs.A6,.int .i64 x.Cs.Bc,.int .i64 x.BT,.int .i64 x.Cn,AS,.int .i64 x.BG.Ap,.int .i64 x.BG.As,.int .i64 x.BG.DH,.int .i64 x.BG.B2]
def AD.wf(x:AD):Prop:=x.Al.size<=9223372036854775807/\x.Cs.wf/\A' x.BT/\A' x.Cn/\True/\x.BG.wf
@[reducible] def Nn:Shape AD where
 H:=Value
 size:=10
 cells x h:=A3 x h
 sub x h:=[⟨h,x.A0⟩]
 wf:=AD.wf
 len _ _:=rfl
 one:=by
  intro S w x h Av u hu;have JZ:=Fh (Av _ (ABx ..));simp only[A3,ABf,ABh,ABi]at hu;rcases hu with rfl|rfl|rfl|rfl|rfl|rfl|rfl|rfl|rfl|rfl<;>first|rfl|exact JZ
@[reducible] instance GR:Be AD:=Be.D5 Nn
theorem kM{x:AD}:AuF GR Nl 0 1 x x.Al:=by
 rintro S w cs ⟨h,rfl,hs,hw⟩;exact⟨rfl,hw.1⟩
theorem r9{x:AD}:AuF GR k0 1 2 x x.Cs:=by
 rintro S w cs ⟨h,rfl,hs,hw⟩;exact⟨(),rfl,by simp,hw.2.1⟩
theorem Agc{x:AD}:AuF GR E_ 3 1 x x.BT:=by
 rintro S w cs ⟨h,rfl,hs,hw⟩;exact⟨rfl,hw.2.2.1⟩
theorem Agd{x:AD}:AuF GR E_ 4 1 x x.Cn:=by
 rintro S w cs ⟨h,rfl,hs,hw⟩;exact⟨rfl,hw.2.2.2.1⟩
theorem Age{x:AD}:AuF GR (@FI BD Mj) 5 1 x x.A0:=by
 rintro S w cs ⟨h,rfl,hs,hw⟩;exact j4 (hs _ (ABx ..))
theorem fv{x:AD}:AuF GR ck 6 4 x x.BG:=by
 rintro S w cs ⟨h,rfl,hs,hw⟩;exact⟨(),rfl,by simp,hw.2.2.2.2.2⟩
structure Bv where
 CZ:Int
 DX:Int
 Du:Bool
 A6:ByteArray
 Bc:ByteArray
 Dn:Int
 Aj:List AD
 Bz:List BL
 AA:List BX
 Bj:List Bx
 CX:List Df
 Bt:Fs
 CW:Fs
 Cf:List UInt8
 Jc:Int
 JL:Int
 GW:Int
 deriving DecidableEq,Inhabited
@[reducible] def BY(x:Bv)(AS A1 AY A9 Ba Bd:Value):List Value:=[.int .i64 x.CZ,.int .i64 x.DX,.bool x.Du,.string x.A6,.string x.Bc,.int .i64 x.Dn,AS,A1,AY,A9,Ba,.int .i64 x.Bt.Ev,.int .i64 x.Bt.Hi,.int .i64 x.Bt.IX,.string x.Bt.A6,.string x.Bt.Bc,.int .i64 x.Bt.Ap,.int .i64 x.Bt.As,.int .i64 x.CW.Ev,.int .i64 x.CW.Hi,.int .i64 x.CW.IX,.string x.CW.A6,.string x.CW.Bc,.int .i64 x.CW.Ap,.int .i64 x.CW.As,Bd,.int .i64 x.Jc,.int .i64 x.JL,.int .i64 x.GW]
def Bv.wf(x:Bv):Prop:=A' x.CZ/\A' x.DX/\True/\x.A6.size<=9223372036854775807/\x.Bc.size<=9223372036854775807/\A' x.Dn/\True/\True/\True/\True/\True/\x.Bt.wf/\x.CW.wf/\True/\A' x.Jc/\A' x.JL/\A' x.GW
@[reducible] def DL:Shape Bv where
 H:=Value×Value×Value×Value×Value×Value
 size:=29
 cells x h:=BY x h.1 h.2.1 h.2.2.1 h.2.2.2.1 h.2.2.2.2.1 h.2.2.2.2.2
 sub x h:=[⟨h.1,x.Aj⟩,⟨h.2.1,x.Bz⟩,⟨h.2.2.1,x.AA⟩,⟨h.2.2.2.1,x.Bj⟩,⟨h.2.2.2.2.1,x.CX⟩,⟨h.2.2.2.2.2,x.Cf⟩]
 wf:=Bv.wf
 len _ _:=rfl
 one:=by
  intro S w x h Av u hu;have JZ:=Fh (Av _ (ABx ..));have o1:=Fh (Av _ (Qm 1 G));have o2:=Fh (Av _ (Qm 2 G));have IJ:=Fh (Av _ (Qm 3 G));have J0:=Fh (Av _ (Qm 4 G));have Ks:=Fh (Av _ (Qm 5 G));simp only[BY,ABf,ABh,ABi]at hu;rcases hu with rfl|rfl|rfl|rfl|rfl|rfl|rfl|rfl|rfl|rfl|rfl|rfl|rfl|rfl|rfl|rfl|rfl|rfl|rfl|rfl|rfl|rfl|rfl|rfl|rfl|rfl|rfl|rfl|rfl<;>first|rfl|exact JZ|exact o1|exact o2|exact IJ|exact J0|exact Ks
structure Dg where
 Ca:Int
 Ap:Int
 As:Int
 Dn:Int
 Bn:Int
 DH:Int
 Al:ByteArray
 G0:Int
 Cn:Int
 It:Int
 Jr:Bool
 AM:FL
 Dj:Fs
 Cf:List UInt8
 deriving DecidableEq,Inhabited
@[reducible] def IT(x:Dg)(AS:Value):List Value:=[.int .i64 x.Ca,.int .i64 x.Ap,.int .i64 x.As,.int .i64 x.Dn,.int .i64 x.Bn,.int .i64 x.DH,.string x.Al,.int .i64 x.G0,.int .i64 x.Cn,.int .i64 x.It,.bool x.Jr,.int .i64 x.AM.Ca,.string x.AM.Al,.string x.AM.EL,.int .i64 x.AM.B2,.int .i64 x.AM.A6,.int .i64 x.AM.Bc,.int .i64 x.Dj.Ev,.int .i64 x.Dj.Hi,.int .i64 x.Dj.IX,.string x.Dj.A6,.string x.Dj.Bc,.int .i64 x.Dj.Ap,.int .i64 x.Dj.As,AS]
def Dg.wf(x:Dg):Prop:=A' x.Ca/\A' x.Ap/\A' x.As/\A' x.Dn/\A' x.Bn/\A' x.DH/\x.Al.size<=9223372036854775807/\A' x.G0/\A' x.Cn/\A' x.It/\True/\x.AM.wf/\x.Dj.wf/\True
@[reducible] def s7:Shape Dg where
 H:=Value
 size:=25
 cells x h:=IT x h
 sub x h:=[⟨h,x.Cf⟩]
 wf:=Dg.wf
 len _ _:=rfl
 one:=by
  intro S w x h Av u hu;have JZ:=Fh (Av _ (ABx ..));simp only[IT,ABf,ABh,ABi]at hu;rcases hu with rfl|rfl|rfl|rfl|rfl|rfl|rfl|rfl|rfl|rfl|rfl|rfl|rfl|rfl|rfl|rfl|rfl|rfl|rfl|rfl|rfl|rfl|rfl|rfl|rfl<;>first|rfl|exact JZ
@[reducible] instance W7:Be Dg:=Be.D5 s7
theorem Sr{x:Dg}:AuF W7 E_ 1 1 x x.Ap:=by
 rintro S w cs ⟨h,rfl,hs,hw⟩;exact⟨rfl,hw.2.1⟩
theorem Ss{x:Dg}:AuF W7 E_ 2 1 x x.As:=by
 rintro S w cs ⟨h,rfl,hs,hw⟩;exact⟨rfl,hw.2.2.1⟩
theorem Agj{x:Dg}:AuF W7 E_ 5 1 x x.DH:=by
 rintro S w cs ⟨h,rfl,hs,hw⟩;exact⟨rfl,hw.2.2.2.2.2.1⟩
theorem kN{x:Dg}:AuF W7 Nl 6 1 x x.Al:=by
 rintro S w cs ⟨h,rfl,hs,hw⟩;exact⟨rfl,hw.2.2.2.2.2.2.1⟩
theorem Agk{x:Dg}:AuF W7 E_ 9 1 x x.It:=by
 rintro S w cs ⟨h,rfl,hs,hw⟩;exact⟨rfl,hw.2.2.2.2.2.2.2.2.2.1⟩
@[reducible] def Gs:Fs:=⟨0,0,0,ByteArray.empty,ByteArray.empty,0,0⟩
@[reducible] def cz:GC:=⟨0,0⟩
@[reducible] def PF:F_:=⟨0,0,0,0⟩
@[reducible] def FX:AD:=⟨ByteArray.empty,cz,0,0,[],PF⟩
@[reducible] def Np:Bv:=⟨0,0,false,ByteArray.empty,ByteArray.empty,0,[],[],[],[],[],Gs,Gs,[],0,0,0⟩
@[reducible] def fg(x:BX):F_:=⟨x.Ap,x.As,x.DH,x.AM.B2⟩
@[reducible] def IA(b:Bool):Int:=if b=true then 0 else 21
theorem aA(b:Bool):decide (IA b=0)=b:=by cases b<;>rfl
def EW:Int:=4611686018427387904
def Ih(g:Int):Bool:=decide (g>=1)&&decide (g<8)
def Avp(n:Int):Bool:=decide (n>=1)&&decide (n<=8)
def Au5(n:Int):Bool:=decide (n>=1)&&decide (n<=EW)
def Jj(c q:Int):Bool:=decide (c>=1)&&decide (c<=8)&&decide (q>=1)&&decide (q<=EW)
def Ix(k:ByteArray):Bool:=decide ((k.size:Int)>=1)&&decide ((k.size:Int)<=16)
def fc(x y:ByteArray):Bool:=Ds x y||decide (x=y)
def isNil(k:ByteArray):Bool:=decide (k=ByteArray.empty)
def within(BQ Ag key:ByteArray):Bool:=(Ds BQ key||decide (BQ=key))&&(isNil Ag||Ds key Ag)
def PQ(BQ Ag:ByteArray):Bool:=decide ((BQ.size:Int)<=16)&&decide ((Ag.size:Int)<=16)&&(isNil Ag||Ds BQ Ag)
def Rb(s:GC)(v:Int):Bool:=decide (s.A6<=v)&&decide (v<=s.Bc)
def F'(s:Bv)(key:ByteArray):Bool:=s.Du&&within s.A6 s.Bc key
def Ef(s:Bv)(key:ByteArray):Bool:=(!decide (s.Bt.Ev=0))&&within s.Bt.A6 s.Bt.Bc key
def LK(p:Fs):Bool:=decide (p.Ev>=1)&&decide (p.Ev<=EW)&&Ih p.Hi&&Ih p.IX&&(!decide (p.Hi=p.IX))&&PQ p.A6 p.Bc
def Sk(l:F_):Bool:=decide (l.Ap>=1)&&decide (l.As>=1)&&decide (l.DH>=1)&&decide (l.DH<8)
def Au'(m t:Int):Int:=if decide (m=1)&&decide (t=1)then 1 else if decide (m=2)||decide (t=2)then 2 else 0
def JN(m t:Int):Int:=if decide (m=2)||decide (t=2)then 2 else if decide (m=1)&&decide (t=1)then 1 else 0
def G_(a:AD):Bool:= !decide (a.BG.Ap=0)
def AdU(r:QM):Bool:=Ih r.CZ&&decide ((r.Al.size:Int)>=1)&&decide ((r.Al.size:Int)<=16)&&decide (r.G0>=1)
def Gd(n:Nat)(p:Nat->Bool):Option Nat:=(List.range n).find? p
theorem Tc{n j:Nat}{p:Nat->Bool}(Ay:j<n)(Bw:∀k,k<j->p k=false)(h:p j=true):Gd n p=some j:=
 ADz.2 ⟨h,ABw.2 Ay,fun k AE=>by simp[Bw k AE]⟩
theorem Tb{n:Nat}{p:Nat->Bool}(h:∀k,k<n->p k=false):Gd n p=none:=
 AEe.2 fun k AE=>by simp[h k AE]
theorem YT{b:Bool}(h:b=false):(!b)=true:=by rw[h];rfl
theorem YU{b:Bool}(h:b=true):(!b)=false:=by rw[h];rfl
def Nh(f:Nat->Int):Nat->Int
 |0=>0
 |i+1=>f i
def X1(l:List Int):Bool:=allI l.length (fun j=> !(decide (l.getD j default<0)||decide (l.getD j default>EW)))
def fk(p:Int)(m:BL):Bool:=decide (m.Ap<=p)||decide (m.Ap>8)||decide (m.As<0)||decide (m.As>EW)||(m.HV&&(decide (m.As=0)|| !decide (m.Cm=⟨0,0,0,0⟩)))
def Fg(l:List BL):Bool:=allI l.length (fun j=> !fk (Nh (fun k=>(l.getD k default).Ap) j) (l.getD j default))
def HE(l:List Df):Bool:=allI l.length (fun j=> !(decide ((l.getD j default).Ap<=Nh (fun k=>(l.getD k default).Ap) j)|| !Jj (l.getD j default).Ap (l.getD j default).As))
def V2(d:Bx):Bool:= !Jj d.Ap d.As||decide (d.B2<1)||decide (d.Al=d.EL)||decide (d.DN<0)||decide (d.DN>2)||decide (d.DO<0)||decide (d.DO>2)
def ae(d:Bx):Bool:=decide ((d.Al.size:Int)<1)||decide ((d.Al.size:Int)>16)||decide ((d.EL.size:Int)<1)||decide ((d.EL.size:Int)>16)
def M1(d:Bx):Bool:=if V2 d=true then false else if ae d=true then false else decide (d.C3=JN d.DN d.DO)||(decide (JN d.DN d.DO=0)&&decide (d.C3=2))
def YZ(s:Bv):Bool:=if(!s.Du)=true then(isNil s.A6&&isNil s.Bc&&decide ((s.Aj.length:Int)=0)&&decide ((s.AA.length:Int)=0)&&decide (s.Bt=⟨0,0,0,ByteArray.empty,ByteArray.empty,0,0⟩))else decide (s.Dn>=1)&&PQ s.A6 s.Bc
def Zx(s:Bv)(w:BX):Bool:= !Jj w.Ap w.As|| !Ix w.AM.Al|| !F' s w.AM.Al||Ef s w.AM.Al
def Xu(w:BX):Bool:=decide (w.Bn>=1)&&decide (w.Bn<=5)&&decide (w.DH=0)&&decide (w.AM.Ca>=1)&&decide (w.AM.Ca<=5)&&(decide (w.AM.Ca>2)||decide (w.AM.B2>=1))
def Xv(w:BX):Bool:=decide (w.Bn=0)&&Ih w.DH&&(!decide (w.AM.B2=0))&&decide (w.AM=⟨0,w.AM.Al,ByteArray.empty,w.AM.B2,0,0⟩)
def Mr(s:Bv)(w:BX):Bool:=if Zx s w=true then false else if decide (w.Ca=1)=true then Xu w else if decide (w.Ca=2)=true then Xv w else false
def eU(p:Int)(h:BD):Bool:=decide (h.Bn<=p)||decide (h.Bn>5)||decide (h.G0<1)||decide (h.DV<0)||decide (h.Fc<0)
def LI(l:List BD):Bool:=allI l.length (fun j=> !eU (Nh (fun k=>(l.getD k default).Bn) j) (l.getD j default))
def Avm(d:Bx):Bool:= !Avp d.Ap|| !Au5 d.As|| !Ix d.Al|| !Ix d.EL||decide (d.Al=d.EL)||decide (d.B2<1)||decide (d.DN<0)||decide (d.DN>2)||decide (d.DO<0)||decide (d.DO>2)
def Ave(d:Bx):Bool:=if Avm d=true then false else decide (d.C3=Au' d.DN d.DO)||(decide (Au' d.DN d.DO=0)&&decide (d.C3=2))
def Kt(l:List Bx)(c q:Int):Option Nat:=Gd l.length (fun j=>decide ((l.getD j default).Ap=c)&&decide ((l.getD j default).As=q))
def HI:Option Nat->Int
 |some j=>(j:Int)
 |none=> -1
def AvL(l:List Bx):Bool:=allI l.length (fun j=> !(!Ave (l.getD j default)|| !decide (HI (Kt l (l.getD j default).Ap (l.getD j default).As)=(j:Int))))
def Avi(l:List Bx):Bool:=AvL l&&decide ((l.length:Int)<=4)
def Avx(l:List Df):Bool:=allI l.length (fun j=> !(decide ((l.getD j default).Ap<=Nh (fun k=>(l.getD k default).Ap) j)||decide ((l.getD j default).Ap>8)|| !Au5 (l.getD j default).As))
theorem OE(v:Int):IntKind.u64.wrap v=v % 18446744073709551616:=by simp[IntKind.wrap,IntKind.signed,IntKind.bits]
theorem mC(v:Int):IntKind.i64.wrap v=(v+9223372036854775808) % 18446744073709551616-9223372036854775808:=by
 simp only[IntKind.wrap,IntKind.signed,IntKind.bits];simp;omega
def Vk(x:Int):Int:=if x<0 then-1 else 0
theorem lM(x:Int):Vk x= -1/\x<0\/Vk x=0/\0<=x:=by unfold Vk;split<;>omega
theorem ti{x:Int}(h:A' x):x.fdiv (2^min (63:Int).toNat IntKind.i64.bits)=Vk x:=by
 have e:(2:Int)^min (63:Int).toNat IntKind.i64.bits=9223372036854775808:=ARp;rw[e,AD_ _ ARp];obtain⟨Af,h2⟩:=h;have:=lM x;omega
def nb(l:List Int):Prop:=∀x∈l,A' x
theorem Aau{l:List Int}(h:nb l){i:Nat}(Ag:i<l.length):A' (l.getD i default):=by
 have:l.getD i default=l[i]:=by simp[List.getD,ABs Ag]
 rw[this];exact h _ (ACF Ag)
theorem AjZ{l:List Int}{i:Nat}(Ag:i<l.length):(l.take (i+1)).sum=(l.take i).sum+l.getD i default:=by
 have e:l.getD i default=l[i]:=by simp[List.getD,ABs Ag]
 rw[e,List.take_add_one,ABs Ag];rw[List.sum_append_int];simp
def J3(s:Int):Bool:=decide (-9223372036854775808<=s)&&decide (s<=9223372036854775807)
def Lo(s:Int):Int:=if J3 s=true then s else 0
def No(s:Int):Int:=if J3 s=true then 0 else 10
@[reducible] def SA(s:Int):Value:=.tuple #[.int .i64 (Lo s),.int .i64 (No s)]
theorem AjY{S Ag BQ x:Int}(Af:Ag=S / 18446744073709551616 % 18446744073709551616)(h2:BQ=S % 18446744073709551616)(Ab:A' x):
 (Ag+Vk x % 18446744073709551616+(BQ+x % 18446744073709551616+0) / 18446744073709551616) % 18446744073709551616=(S+x) / 18446744073709551616 % 18446744073709551616/\
 (BQ+x % 18446744073709551616+0) % 18446744073709551616=(S+x) % 18446744073709551616:=by
 obtain⟨Bo,BB⟩:=Ab;have:=lM x;omega
theorem AjX{S Ag BQ:Int}(Af:Ag=S / 18446744073709551616 % 18446744073709551616)(h2:BQ=S % 18446744073709551616)(Aq: -85070591730234615856620279821087277056<=S/\S<=85070591730234615856620279821087277056):
 (Ag=Vk (IntKind.i64.wrap BQ) % 18446744073709551616↔J3 S=true)/\(J3 S=true->IntKind.i64.wrap BQ=S):=by
 rw[mC];have:=lM ((BQ+9223372036854775808) % 18446744073709551616-9223372036854775808);simp only[J3,ABb,ABa];omega
theorem hg{x y:Int}(Ab:A' x)(Bf:A' y):((decide (x>=0)&&decide (y>=0)&&decide (IntKind.i64.wrap (x+y)<0))||(decide (x<0)&&decide (y<0)&&decide (IntKind.i64.wrap (x+y)>=0)))= !J3 (x+y)/\(J3 (x+y)=true->IntKind.i64.wrap (x+y)=x+y):=by
 rw[mC];obtain⟨DP,EK⟩:=Ab;obtain⟨CY,Dh⟩:=Bf;constructor
 · rw[ACy];simp only[J3,ABk,ABb,ABa,ABe,ACu,ABl];omega
 simp only[J3,ABb,ABa];omega
def UJ(a:AD)(l:F_):Bool:=decide (No (a.BT+l.B2)=0)&&Rb a.Cs (Lo (a.BT+l.B2))
def I7(a:AD):Int:=a.BT+(a.A0.map (·.DV)).sum
def IU(a:AD):Int:=a.BT-(a.A0.map (·.Fc)).sum
@[reducible] def Adv(a:AD):Value:=.tuple #[.int .i64 (Lo (I7 a)),.int .i64 (Lo (IU a)),.bool (decide (No (I7 a)=0)&&decide (No (IU a)=0))]
def VO(a:AD):Bool:=decide ((a.Al.size:Int)<1)||decide ((a.Al.size:Int)>16)|| !Rb a.Cs a.BT||decide (a.Cn<0)|| !LI a.A0
def XQ(a:AD):Bool:= !(decide (No (I7 a)=0)&&decide (No (IU a)=0))||decide (Lo (I7 a)>a.Cs.Bc)||decide (Lo (IU a)<a.Cs.A6)
def E4(a:AD):Bool:=if VO a=true then false else if XQ a=true then false else if decide (a.BG.Ap=0)=true then decide (a.BG=⟨0,0,0,0⟩)else Sk a.BG&&decide ((a.A0.length:Int)=0)&&UJ a a.BG
def FT(a:AD):Bool:=E4 a&&decide (a.Cs=⟨0,0⟩)&&decide (a.BT=0)&&decide ((a.A0.length:Int)=0)&&decide (a.Cn=0)&& !G_ a
def AfT(x y:QM):Int:=if(!decide (x.CZ=y.CZ))=true then(if decide (x.CZ<y.CZ)=true then-1 else 1)else RO x.Al y.Al
def Adr(l:List QM)(j:Nat):Bool:= !AdU (l.getD j default)||(decide ((j:Int)>0)&&decide (AfT (l.getD ((j:Int)-1).toNat default) (l.getD j default)>=0))
def Adq(l:List QM):Bool:=allI l.length (fun j=> !Adr l j)
theorem Alo(v:Int):A' (IntKind.i64.wrap v):=by
 rw[mC];constructor<;>omega
theorem AjW(s:Int):A' (Lo s):=by
 unfold Lo;split
 · rename_i h;simp only[J3,ABb,ABa]at h;exact h
 exact⟨ARp,ARp⟩
def dv(s:Bv)(j:Nat):Bool:= !decide (IA (E4 (s.Aj.getD j default))=0)||FT (s.Aj.getD j default)|| !F' s (s.Aj.getD j default).Al||(decide ((j:Int)>0)&&fc (s.Aj.getD j default).Al (s.Aj.getD ((j:Int)-1).toNat default).Al)
def VP(s:Bv):Bool:=if decide ((s.Aj.length:Int)>12)=true then false else allI s.Aj.length (fun j=> !dv s j)
def ab(l:List Bx)(j:Nat):Bool:= !M1 (l.getD j default)|| !decide (HI (Kt l (l.getD j default).Ap (l.getD j default).As)=(j:Int))
def Is(l:List Bx):Bool:=if decide ((l.length:Int)>4)=true then false else allI l.length (fun j=> !ab l j)
theorem Q4{n j:Nat}{p:Nat->Bool}(h:Gd n p=some j):j<n:=ABw.1 (ADz.1 h).2.1
structure JD where
 v:Value
instance Qx:Be JD where
 size:=1
 agg:=false
 rd S w cs x:=cs=[x.v]/\x.v.oneCell'=true
 len:=by rintro S w cs x ⟨rfl,_⟩;rfl
 one:=by
  rintro S w cs x ⟨rfl,h⟩ u hu;simp only[ABf,ABh,ABi]at hu;subst hu;exact h
 DY:=by
  rintro S Fq w AT cs x h _ _;exact h
@[reducible] instance AmN:Vz Qx:=⟨fun x=>x.v,fun x=>x.v.oneCell'=true,fun h=>h⟩
structure Gb where
 r:Nat
@[reducible] def Gb.zC(x:Gb):JD:=⟨.pointer (some ⟨x.r,0,none⟩)⟩
@[reducible] def Gb.zB(_:Gb):Int:=0
@[reducible] def AjG:Shape Gb where
 H:=Unit
 size:=4
 cells x _:=[.pointer (some ⟨x.r,0,none⟩),AI,.bool false,ALu]
 sub _ _:=[]
 wf _:=True
 len _ _:=rfl
 one:=by
  intro S w x h Av u hu;simp only[ABf,ABh,ABi]at hu;rcases hu with rfl|rfl|rfl|rfl<;>rfl
@[reducible] instance sU:Be Gb:=Be.D5 AjG
theorem Ku{x:Gb}:AuF sU Qx 0 1 x x.zC:=by
 rintro S w cs ⟨h,rfl,hs,hw⟩;exact⟨rfl,rfl⟩
theorem sn{x:Gb}:AuF sU E_ 3 1 x x.zB:=by
 rintro S w cs ⟨h,rfl,hs,hw⟩;exact⟨rfl,(by decide:(-9223372036854775808:Int)<=0),(by decide:(0:Int)<=9223372036854775807)⟩
def Ml(s:Bb):Bool:= !decide ((s.fault:Int)=0)|| !decide ((0:Int)=0)
theorem N2(s:Bb):Ml s=true↔s.fault≠0:=by
 unfold Ml;simp
theorem Xf(s:Bb):Ml s=false↔s.fault=0:=by
 rw[<-ACH,N2];simp
def NG:List UInt8->Bool×Nat×Nat
 |[]=>(false,0,20)
 |c::_=>if 1<c.toNat then(false,0,21)else(decide (c=1),1,0)
def Kw(nd:List UInt8):VJ Bool:=Lj nd false NG
theorem AjS{s:Bb}(h:s.fault≠0)(n e:Nat):s.step n e=s:=by unfold Bb.step;rw[if_pos h]
theorem fM{α:Type}{nd:List UInt8}{d:α}{f:List UInt8->α×Nat×Nat}{s:Bb}(h:s.fault≠0):(Lj nd d f s).2=s:=by
 rcases Fx:f (nd.drop s.pos)with⟨x,n,e⟩;simp only[Lj,Fx,AjS h]
theorem Ah8{nd:List UInt8}{s:Bb}(h:s.fault≠0):(D6 nd s).2=s:=fM (d:=0) (f:=HH 0 0) h
theorem Aif{nd:List UInt8}{m:Int}{s:Bb}(h:s.fault≠0):(Gm nd m s).2=s:=fM (d:=[]) (f:=fun l=>N3 l m) h
theorem Ah5{nd:List UInt8}{s:Bb}(h:s.fault≠0):(Kw nd s).2=s:=fM (d:=false) (f:=NG) h
theorem oY(nd:List UInt8):(NG nd).2.1<=nd.length/\((NG nd).2.2≠0->(NG nd).1=false/\(NG nd).2.1=0):=by
 cases nd with
 |nil=>simp[NG]
 |cons c r=>
  simp only[NG];by_cases h:1<c.toNat
  · rw[AA_ h];simp
  rw[AA9 h];simp
theorem sI{nd:List UInt8}{s:Bb}(AH:s.pos<=nd.length):(Kw nd s).2.pos<=nd.length:=fL AH fun l=>(oY l).1
def Q0(nd:List UInt8)(s:Bb):Int:=if s.fault=0/\s.pos<nd.length then 24 else(s.fault:Int)
def CO(nd:List UInt8):List Nat->List Value×Bb->List Value×Bb
 |[],p=>p
 |o::r,p=>CO nd r (p.1.set o (.int .i64 (D6 nd p.2).1),(D6 nd p.2).2)
def Ea(nd:List UInt8):List Nat->List Value×Bb->List Value×Bb
 |[],p=>p
 |o::r,p=>Ea nd r (p.1.set o (.string ⟨(Gm nd 65535 p.2).1.toArray⟩),(Gm nd 65535 p.2).2)
def gQ(cells:List Value)(offs:List Nat):Prop:=∀o∈offs,cells[o]? =some (.int .i64 0)
def gR(cells:List Value)(offs:List Nat):Prop:=∀o∈offs,cells[o]? =some (.string ByteArray.empty)
def NW(b:Nat)(offs:List Nat):List JD:=offs.map fun o=>⟨ALM b o⟩
theorem Y4{b:Nat}{offs:List Nat}:(NW b offs).length=offs.length:=List.length_map _
theorem sr{b:Nat}{offs:List Nat}{i:Nat}(h:i<offs.length):(NW b offs)[i]? =some ⟨.pointer (some ⟨b,offs.getD i 0,none⟩)⟩:=by
 simp[NW,List.getD,ABs h]
theorem Hw{nd:List UInt8}:∀{offs:List Nat} {p:List Value×Bb},p.2.pos<=nd.length->(CO nd offs p).2.pos<=nd.length
 |[],_,h=>h
 |_::r,_,h=>Hw (offs:=r) (Hb h)
theorem MP{nd:List UInt8}:∀{offs:List Nat} {p:List Value×Bb},p.2.pos<=nd.length->(Ea nd offs p).2.pos<=nd.length
 |[],_,h=>h
 |_::r,_,h=>MP (offs:=r) (Vf h)
theorem TW{cells:List Value}{o:Nat}{v:Value}(h:cells[o]? =some v):cells.set o v=cells:=by
 refine List.ext_getElem? fun n=>?_;rw[List.getElem?_set];split
 · rename_i e;subst e;have:=(ABF.1 h).1;rw[AA_ this,h]
 rfl
theorem Rj{cells:List Value}{o:Nat}{v:Value}(h:cells[o]? =some v):o<cells.length:=(ABF.1 h).1
theorem drop_cons{offs:List Nat}{i:Nat}(h:i<offs.length):offs.drop i=offs.getD i 0::offs.drop (i+1):=by
 rw[AC1 h];simp[List.getD,ABs h]
theorem Ah9{nd:List UInt8}{s:Bb}(h:s.fault≠0):(D6 nd s).1=0:=by
 have:(rdNum nd s).1=0:=by
  simp only[rdNum,Lj,Bb.val];rw[AA_ h]
 show Ul (rdNum nd s).1=0;rw[this];rfl
theorem Aig{nd:List UInt8}{m:Int}{s:Bb}(h:s.fault≠0):(Gm nd m s).1=[]:=by
 simp only[Gm,Lj,Bb.val];rw[AA_ h]
theorem Ah6{nd:List UInt8}{s:Bb}(h:s.fault≠0):(Kw nd s).1=false:=by
 simp only[Kw,Lj,Bb.val];rw[AA_ h]
theorem AcN{nd:List UInt8}{o:Nat}{r:List Nat}{c:List Value}{s:Bb}(h:s.fault≠0)(Bm:c[o]? =some (.int .i64 0)):CO nd (o::r) (c,s)=CO nd r (c,s):=by
 simp only[CO,Ah9 h,Ah8 h];rw[TW Bm]
theorem vu{α:Type}{c:List Value}{o:Nat}{r:List Nat}{u z:Value}(Ao:(o::r).Nodup)(h:∀x∈r,c[x]? =some z):∀x∈r,(c.set o u)[x]? =some z:=by
 intro x Ab;rw[List.getElem?_set_ne]
 · exact h x Ab
 rintro rfl;exact(List.nodup_cons.1 Ao).1 Ab
theorem Y5{b:Nat}(S:Nat->Prop)(w:World):∀offs:List Nat,Go.A_.HM S w (offs.map fun o=>[ALM b o]) (NW b offs)
 |[]=>trivial
 |_::r=>⟨⟨rfl,rfl⟩,Y5 S w r⟩
def GI{α:Type}(rd:Bb->α×Bb):Nat->Bb->List α×Bb
 |0,s=>([],s)
 |n+1,s=>if s.fault=0 then((rd s).1::(GI rd n (rd s).2).1,(GI rd n (rd s).2).2)else([],s)
def CS{α:Type}(nd:List UInt8)(rd:Bb->α×Bb)(s:Bb):List α×Bb:=GI rd (DT nd 1024 s).1 (DT nd 1024 s).2
def B2(nd:List UInt8)(s:Bb):Bb:=(Kw nd s).2
end Go.Apw
namespace Go.A_
def MU(P:Program)(T:TypeId){α:Type}(r:Be α):Prop:=
 ∀(H:Type) (enc:TypeId×Value->H) (w:World) (fuel:Nat) (cs:List Value) (x:DataW H×List MemPlace),DataW.trod enc P w 0 (fun _=>true) true fuel T cs=some x->∃a:α,r.rd (fun b=>b<w.heap.size) w cs a
theorem AfN{P:Program}{T:TypeId}(hu:P.underlying T=some (.int .i64)):MU P T E_:=by
 intro H enc w fuel cs x h;obtain⟨n,rfl,_,hw⟩:=DataW.trod_int hu h;refine⟨n,rfl,?_⟩;simp[Lit.wf,IntKind.min,IntKind.max,IntKind.signed,IntKind.bits]at hw;exact⟨AMT,AMT⟩
theorem nT{w:World}{a:Addr}{n:Nat}{cs:List Value}(h:w.cells? 0 a n=some cs):cs.length=n/\∀j u,cs[j]? =some u->w.cell? (a.add j)=some u:=by
 unfold World.cells? at h;rw[AA_ (ABg _)]at h;have AN:cs.length=n:=by simpa using mapM_some_length h
 refine⟨AN,fun j u hu=>?_⟩;have Ay:j<n:=by rw[<-AN];exact(ABF.1 hu).1
 have Bm:=mapM_some_get h j j (by simp[Ay]);rw[hu]at Bm;exact Bm
theorem rV{P:Program}{T E:TypeId}{α:Type}{r:Be α}(hu:P.underlying T=some (.slice E))(hs:P.cellsOf E=r.size)(Bw:0<r.size)(Ge:MU P E r):MU P T (@FI α r):=by
 intro H enc w fuel cs x h;rcases Deep.open_slice hu h with⟨rfl,_⟩|⟨a,len,cap,m,n,D,wj,rfl,_,pJ,Wp,hm,_,Ag⟩
 · exact⟨[],none,0,rfl,ABW _,ARp,ABg _,fun h=>absurd rfl h⟩
 have Anx:len<=m:=by rw[hm];split<;>omega
 have key:∀i,i<len->∃e:α,∃KH,w.cells? 0 (a.add (i*P.cellsOf E)) (P.cellsOf E)=some KH/\r.rd (fun b=>b<w.heap.size) w KH e:=by
  intro i C_;obtain⟨KH,Af,h2⟩:=Ag i AMT;obtain⟨e,he⟩:=Ge H enc w n KH _ h2;exact⟨e,KH,Af,he⟩
 have:∃xs:List α,xs.length=len/\∀i e,xs[i]? =some e->∃KH,w.cells? 0 (a.add (i*P.cellsOf E)) (P.cellsOf E)=some KH/\r.rd (fun b=>b<w.heap.size) w KH e:=by
  have gen:∀k,(∀i,i<k->∃e:α,∃KH,w.cells? 0 (a.add (i*P.cellsOf E)) (P.cellsOf E)=some KH/\r.rd (fun b=>b<w.heap.size) w KH e)->∃xs:List α,xs.length=k/\∀i e,xs[i]? =some e->∃KH,w.cells? 0 (a.add (i*P.cellsOf E)) (P.cellsOf E)=some KH/\r.rd (fun b=>b<w.heap.size) w KH e:=by
   intro k key;induction k with
   |zero=>exact⟨[],rfl,by simp⟩
   |succ k Cg=>
    obtain⟨xs,Af,h2⟩:=Cg fun i C_=>key i AMT;obtain⟨e,he⟩:=key k AMT;refine⟨xs++[e],by simp[Af],fun i IV Ag=>?_⟩;rw[List.getElem?_append]at Ag;split at Ag
    · exact h2 i IV Ag
    rename_i aX;have:i=k:=by
     have:=(ABF.1 Ag).1;simp at this;omega
    subst this;simp[Af]at Ag;subst Ag;exact he
  exact gen len key
 obtain⟨xs,Sg,Ab⟩:=this;subst Sg;refine⟨xs,some a,cap,rfl,pJ,by simpa only[maxLen]using Wp,by simp only[maxLen]at Wp;omega,fun FG=>?_⟩;have WA:0<xs.length:=List.length_pos_iff.2 FG;obtain⟨KH,Af,h2⟩:=Ab 0 xs[0] (ABs WA);obtain⟨Qa,PB⟩:=nT Af;have Rd:=PB 0 KH[0] (ABs AMT);have WE:=World.cell?_spot Rd;obtain⟨b,o,spot⟩:=a;have Acg:spot=none:=by simpa[Addr.add]using WE
 subst Acg;have Aq:b<w.heap.size:=by
  unfold World.cell? at Rd;simp only[Addr.add]at Rd;split at Rd
  · rename_i hh;exact TD (by simpa using hh)
  cases Rd
 refine⟨b,o,rfl,Aq,fun i e he=>?_⟩;obtain⟨yp,Hj,G1⟩:=Ab i e he;refine⟨yp,G1,fun j u hu=>?_⟩;have:=(nT Hj).2 j u hu;rw[hs,ACm,ACm]at this;exact this
open Go.ChangeShapes Go.WideShapes Go.RowKit
theorem l0{P:Program}{H:Type}{enc:TypeId×Value->H}{w:World}{fuel:Nat}{T:TypeId}{B1:Array Field}{cs:List Value}{x:DataW H×List MemPlace}
 (hu:P.underlying T=some (.struct B1))(h:DataW.trod enc P w 0 (fun _=>true) true fuel T cs=some x):cs.length=P.cellsOf T:=by
 obtain⟨xs,m,_,_,AN,_,_⟩:=DataW.trod_struct hu h;exact AN
theorem Js{P:Program}{H:Type}{enc:TypeId×Value->H}{w:World}{fuel:Nat}{T:TypeId}{B1:Array Field}{cs:List Value}{x:DataW H×List MemPlace}
 (hu:P.underlying T=some (.struct B1))(h:DataW.trod enc P w 0 (fun _=>true) true fuel T cs=some x){α:Type}{r:Be α}(i o n:Nat){hb:TypeId}
 (BI:B1[i]?.map (fun f=>(f.type,f.offset))=some (hb,o))(Ao:P.cellsOf hb=n)(Aa2:MU P hb r):∃a:α,r.rd (fun b=>b<w.heap.size) w ((cs.drop o).take n) a:=by
 obtain⟨xs,m,_,_,_,hlen,Ab⟩:=DataW.trod_struct hu h;cases PA:B1[i]? with
 |none=>rw[PA]at BI;cases BI
 |some f=>
  rw[PA]at BI;simp only[Option.map_some,ABX,Prod.mk.injEq]at BI;obtain⟨rfl,rfl⟩:=BI;subst Ao;have Ag:i<xs.length:=(by rw[hlen];exact(Array.getElem?_eq_some_iff.1 PA).1);have:=Ab i f PA;rw[ABs Ag]at this;exact Aa2 H enc w m _ _ this
theorem w8{P:Program}{H:Type}{enc:TypeId×Value->H}{w:World}{T E:TypeId}{α:Type}{r:Be α}{v:Value}{d:DataW H}{ps:List MemPlace}{rc:Reach}{base:Nat}
 (hu:P.underlying T=some (.slice E))(Dk:MU P T (@FI α r))(BC:Value.okWide P w rc base T v)(h:DataW.Trod enc P w 0 (fun _=>true) true T v d ps):
 ∃l:List α,Atom.holds (@Atom.mk (List α) (@FI α r) v l) (Et [] w) w:=by
 obtain⟨fuel,BI⟩:=h;obtain⟨A,n,c,rfl⟩:=okWide_slice hu BC;obtain⟨l,AN⟩:=Dk H enc w fuel _ _ BI;refine⟨l,rfl,?_⟩;exact Be.DY (self:=@FI α r) AN (fun b Aq=>⟨Aq,by simp⟩) (fun _ _=>rfl)
theorem t'{H:Type}{enc:TypeId×Value->H}{P:Program}(AN:laidOutB P=true){W SY:World}(Ew:Below W.heap.size W SY):
 ∀(Zn:List TypeId) (vs:List Value) (Cx:List (DataW H)) (ps:List MemPlace),Zn.all (fun t=>P.readableRec t&&decide (t<P.types.size))=true->
  DataW.TrodAll enc P W 0 (fun _=>true) true Zn vs Cx ps->(∀x∈ps,x.block<W.heap.size)->DataW.TrodAll enc P SY 0 (fun b=>decide (b<W.heap.size)) true Zn vs Cx ps
 |[],vs,Cx,ps,_,h,_=>by
  obtain⟨rfl,rfl,rfl⟩:=trodAll_nil h;exact trodAll_mk0
 |t::Zn,vs,Cx,ps,Bh,h,C_=>by
  obtain⟨v,cV,d,ox,p,q,rfl,rfl,rfl,Af,h2⟩:=trodAll_cons h;simp only[ABn,ABb,ABa]at Bh;exact trodAll_cons_mk (Below.trod AN Bh.1.1 Bh.1.2 Af Ew (fun x Ab=>C_ x (AC9 _ Ab))) (t' AN Ew Zn cV ox q Bh.2 h2 (fun x Ab=>C_ x (List.mem_append_right _ Ab)))
theorem AhA{H:Type}{enc:TypeId×Value->H}{P:Program}{f:Func}{s:ChangeSpec}{W SY:World}{args:Array Value}{Cx:List (DataW H)}{before:List MemPlace}{T:TypeId}(AN:laidOutB P=true)
 (AH:f.params.toList.all (fun t=>P.readableRec t&&decide (t<P.types.size))=true)(EX:s.vars=[])(Bh:f.resultTypes= #[T])(LY:P.underlying T=some .bool)
 (Ko:s.fn H Cx={results:=[.lit (.bool true)],args:=Cx})(F5:DataW.Whole enc P f.params.toList s.vars false W args.toList Cx [] before)(Ew:Below W.heap.size W SY):
 s.post enc P f false true false false W args (.bool true) SY:=by
 have C_:∀x∈before,x.block<W.heap.size:=fun x Ab=>by simpa using F5.lt x Ab
 have iV:=F5;obtain⟨p,q,Cl,LC,rfl,AbI,OZ⟩:=iV;rw[EX]at LC;obtain⟨_,rfl⟩:=trodVars_none LC;refine⟨Cx,[],_,[],p,[],F5,?_,?_,?_,Ew.frame _,fun h=>by cases h⟩
 · rw[AB7,Ko,Bh];exact trodAll_mk1 (shut_bool LY true)
 · rw[AB7,Ko];exact t' AN Ew _ _ _ _ AH Cl (fun x Ab=>C_ x (AC9 _ Ab))
 rw[AB7,Ko,EX];rfl
theorem Cv.post{H:Type}{enc:TypeId×Value->H}{P:Program}{f:FuncId}{fn:Func}{s:ChangeSpec}{W:World}{args:List Value}{DB:List Atom}{Cx:List (DataW H)}{before:List MemPlace}{T:TypeId}(AN:laidOutB P=true)
 (AH:fn.params.toList.all (fun t=>P.readableRec t&&decide (t<P.types.size))=true)(EX:s.vars=[])(Bh:fn.resultTypes= #[T])(LY:P.underlying T=some .bool)
 (Ko:s.fn H Cx={results:=[.lit (.bool true)],args:=Cx})(F5:DataW.Whole enc P fn.params.toList s.vars false W args Cx [] before)
 (h:Cv P f args DB (.bool true))(Cl:∀t∈DB,t.holds (Et [] W) W):
 Calls P f args.toArray W fun e SY=>∃v,e=.returned v/\s.post enc P fn false true false false W args.toArray v SY:=by
 refine QK.mono (h [] W (by simp[Own.nd,Dt]) (by simp) (by simp) (by simpa[Own.nd,Dt]using Cl)) ?_;rintro v AT ⟨Gg,_,rfl,_⟩;exact AhA AN AH EX Bh LY Ko (by simpa using F5) Gg.below
theorem O7{α:Type}{s:Shape α}{S:Nat->Prop}{w:World}{v:Value}{xs:List α}(h:Atom.holds (@Atom.mk (List α) (@FI α (Be.D5 s)) v xs) S w):∀x∈xs,s.wf x:=by
 intro x Ab;obtain⟨AK,A,Dc,EX,_,_,Bo,BB⟩:=h;obtain⟨b,o,_,_,Ag⟩:=BB (List.ne_nil_of_mem Ab);obtain⟨i,Jf,rfl⟩:=List.getElem_of_mem Ab;obtain⟨cs,Bm,_⟩:=Ag i _ (ABs Jf);obtain⟨_,_,_,hw⟩:=Bm;exact hw
theorem Hl{α:Type}[Inhabited α]{l:List α}{i:Nat}(h:i<l.length):l.getD i default∈l:=by
 have:l.getD i default=l[i]:=by simp[List.getD,ABs h]
 rw[this];exact ACF h
open Go.ChangeShapes Go.WideShapes Go.RowKit
theorem Jp{α:Type}(cs:List α)(o n m:Nat)(h:o+n=m):cs.drop o=(cs.drop o).take n++cs.drop m:=by
 subst h;rw[<-List.drop_drop,List.take_append_drop]
end Go.A_
namespace Go.Apw
structure ZS where
 Yb:AD
 CZ:Int
 deriving DecidableEq,Inhabited
end Go.Apw
