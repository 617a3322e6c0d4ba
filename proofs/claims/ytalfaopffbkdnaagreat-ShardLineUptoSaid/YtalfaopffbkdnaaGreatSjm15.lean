/- Part 15 of shardLine_holds. -/
import Derived.Test.YtalfaopffbkdnaaGreatSjm14

set_option maxRecDepth 20000
set_option maxHeartbeats 1000000
open Go.A_ Go.Proofs Go.Proofs.YtalfaopffbkdnaaGreat
namespace Go.Apw
theorem Aj9{S:Bv}(h:Ce S){k:ByteArray}(AE:Ix k=true){l:F_}(AN:l.wf)(Ao:¬l.B2=0)(e:(KA (BF S.Aj k).1 l).2=0):(BF S.Aj k).2=true/\(KA (BF S.Aj k).1 l).1.Al=k:=by
 obtain⟨f1,f2,f3⟩:=V9 h AE;obtain⟨p,_,_,Qj,CY,Dh,q,s⟩:=gu f2 AN e;refine⟨?_,by rw[p];exact f3⟩;cases S_:(BF S.Aj k).2 with
 |true=>rfl
 |false=>
  exfalso;have Cu:(BF S.Aj k).1={Fj with Al:=k}:=(by rw[(UH S_).2];exact(YR AE).1);rw[Cu]at CY Dh;have CY:(0:Int)<=0+l.B2:=CY;have Dh:(0:Int)+l.B2<=0:=Dh;omega
theorem AE5{w:Ah}{c:Dg}(h:c.Ca=1):w.cmd c=w.op c:=by simp[Ah.cmd,h]
theorem q4:∀(l:List JE) (v:Ah),(l.foldl Ah.Iv v).EF=v.EF
 |[],_=>rfl
 |x::r,v=>by
  rw[List.foldl_cons,q4 r];unfold Ah.Iv;split
  · rfl
  · split<;>rfl
theorem Ait(w:Ah):w.rest.EF=w.EF:=by
 unfold Ah.rest;simp only;rw[q4]
section
section
variable{E:List FE}
theorem AtU(w:Ah)(o:FL):(H3 w o).1.S.Bz=w.S.Bz/\(H3 w o).1.S.AA=w.S.AA/\(H3 w o).1.S.Bj=w.S.Bj/\(H3 w o).1.EF=w.EF:=by
 unfold H3;simp only;split
 · exact⟨rfl,rfl,rfl,rfl⟩
 · split
   · exact⟨rfl,rfl,rfl,rfl⟩
   · split
     · split
       · exact⟨rfl,rfl,rfl,rfl⟩
       · split<;>exact⟨rfl,rfl,rfl,rfl⟩
     · split<;>exact⟨rfl,rfl,rfl,rfl⟩
end
end
def AGI(c:Dg):BX:={Ca:=1,Ap:=c.Ap,As:=c.As,Bn:=c.Bn,DH:=0,AM:=c.AM}
def AG2(S:Bv)(c:Dg)(ix:Int):Bv:={S with DX:=ix,Bz:=(IS S.Bz c.Ap c.As).1,AA:=S.AA++[AGI c]}
theorem AJX{S:Bv}{c:Dg}{ix nd:Int}(Bh:LN S=true)(O1:VK S)(Cu:S.Bt=FP)(HG:1<=nd)(MF:nd<=5)(i1:S.DX<ix)(i2:ix<=EW)
 (AE:c.Ca=1)(AK:NA c nd=true)(Aq:(IS S.Bz c.Ap c.As).2.2=0)(BI:(IS S.Bz c.Ap c.As).2.1=true)(A7:F' S c.AM.Al=true)(he:c.Dn=S.Dn)
 (F4:¬c.AM.Ca=6)(Rc:c.AM.Ca>2\/SG S.AA c.AM.Al=true)(hw:S.AA.length<8)(Ao:(Io (BF S.Aj c.AM.Al).1).2=false):
 Gc S c ix nd=({AG2 S c ix with Aj:=(S.Aj.map (Jv (AG2 S c ix) ix)).filter (fun a=> !FT a)},[],0):=by
 have hs:=Akv c.AM.Al Cu;have AJf:({S:={S with DX:=ix},ix:=ix,nd:=nd,EF:=[],BQ:=[]}:Ah).cmd c={S:=AG2 S c ix,ix:=ix,nd:=nd,EF:=[],BQ:=[]}:=by
  rw[AE5 AE];unfold Ah.op;rw[if_neg (by show ¬NA c nd=false;rw[AK];decide)];simp only;rw[if_neg (not_not_intro Aq),if_neg (by rw[BI];decide),if_neg (by
   show ¬(!F' S c.AM.Al||Ef S c.AM.Al|| !decide (c.Dn=S.Dn))=true;rw[A7,hs,decide_eq_true he];decide),if_neg F4]
  have Abu:Mu {S:={S with DX:=ix,Bz:=(IS S.Bz c.Ap c.As).1},ix:=ix,nd:=nd,EF:=[],BQ:=[]} c=false:=by
   have:(decide (c.AM.Ca>2)||SG S.AA c.AM.Al)=true:=by
    rw[Bool.or_eq_true,decide_eq_true_eq];exact Rc
   show(!(decide (c.AM.Ca>2)||SG S.AA c.AM.Al)&&_&&_)=false;rw[this];rfl
  rw[if_neg (by rw[Abu];decide),if_neg (by show ¬((S.AA.length:Int)>=8);omega)];rfl
 have Ep:KS (AG2 S c ix)=none:=by
  have Bw:=O1.Aij;unfold KS at Bw ⊢;refine List.find?_range_eq_none.2 fun i Ag=>?_;have Ag:i<(S.AA++[AGI c]).length:=Ag;rw[List.length_append,List.length_singleton]at Ag;by_cases AN:i<S.AA.length
  · have Af:=List.find?_range_eq_none.1 Bw i AN;have o7:∀j,j<=i->(S.AA++[AGI c]).getD j default=S.AA.getD j default:=fun j Ay=>by
     rw[List.getD_eq_getElem?_getD,List.getD_eq_getElem?_getD,List.getElem?_append_left (by omega)]
    show(!(allI i (fun j=> !decide (((S.AA++[AGI c]).getD j default).AM.Al=((S.AA++[AGI c]).getD i default).AM.Al))&&(Io (BF S.Aj ((S.AA++[AGI c]).getD i default).AM.Al).1).2))=true;rw[o7 i (Nat.le_refl _)];have:allI i (fun j=> !decide (((S.AA++[AGI c]).getD j default).AM.Al=(S.AA.getD i default).AM.Al))=allI i (fun j=> !decide ((S.AA.getD j default).AM.Al=(S.AA.getD i default).AM.Al)):=by
     rw[Bool.eq_iff_iff,Nz,Nz];exact forall_congr' fun j=>imp_congr_right fun Ay=>by rw[o7 j (by omega)]
    rw[this];exact Af
  · have:i=S.AA.length:=(by omega);subst this;have AI':(S.AA++[AGI c]).getD S.AA.length default=AGI c:=by
     rw[List.getD_eq_getElem?_getD,List.getElem?_append_right (Nat.le_refl _),Nat.sub_self];rfl
    show(!(allI _ _&&(Io (BF S.Aj ((S.AA++[AGI c]).getD S.AA.length default).AM.Al).1).2))=true;rw[AI'];show(!(_&&(Io (BF S.Aj c.AM.Al).1).2))=true;rw[Ao,Bool.and_false];rfl
 unfold Gc;rw[if_neg (by rw[Bh];decide),if_neg (by simp only[Bool.or_eq_true,decide_eq_true_eq];omega),if_neg (by simp only[Bool.or_eq_true,decide_eq_true_eq];omega)];simp only[AJf];rw[Ak_ Ep];have hh:LG (AG2 S c ix)=AG2 S c ix:=by
  unfold LG;rw[if_pos];show(!(decide (S.Bt=FP)||_))=false;rw[decide_eq_true Cu];rfl
 unfold Ah.rest;simp only[hh,List.foldl_nil];rfl
def AGp:ByteArray:=⟨#[97]⟩
def AGW:Dg:={Ca:=1,Ap:=1,As:=1,Dn:=1,Bn:=1,DH:=0,Al:=ByteArray.empty,G0:=0,Cn:=0,It:=0,Jr:=false,AM:={mV with Ca:=5,Al:=AGp,A6:=0,Bc:=20},Dj:=FP,Cf:=[]}
def AGs(r:Int):AD:={Fj with Al:=AGp,Cs:=⟨0,20⟩,Cn:=r,A0:=[⟨1,1,5,0⟩]}
def AGz:Bv:={F8 1 with DX:=1,Aj:=[AGs 0],Bz:=[⟨1,1,false,GS⟩]}
theorem AIA:Gc (F8 1) AGW 1 3=(AGz,[⟨1,1,1,GS⟩],0):=by kernel_rfl
def AGD(os:List FL)(i:Nat):Dg:={AGW with Ap:=2+(i:Int),Bn:=2,AM:=os.getD i default}
def AHF(i:Nat):BL:=⟨2+(i:Int),1,true,GS⟩
def AGK(k:Nat):List BL:=⟨1,1,false,GS⟩::(List.range k).map AHF
def AGF(os:List FL)(k:Nat):List BX:=(List.range k).map fun i=>AGI (AGD os i)
def AGy(k:Nat):AD:=AGs (if k=0 then 0 else 2)
def AGr(os:List FL)(k:Nat):Bv:={AGz with DX:=1+(k:Int),Aj:=[AGy k],Bz:=AGK k,AA:=AGF os k}
theorem AIC(k:Nat):AGK (k+1)=AGK k++[AHF k]:=by
 unfold AGK;rw[List.range_succ,List.map_append];rfl
theorem AKq(os:List FL)(k:Nat):AGF os (k+1)=AGF os k++[AGI (AGD os k)]:=by
 unfold AGF;rw[List.range_succ,List.map_append];rfl
theorem AHY{k:Nat}{m:BL}(h:m∈AGK k):m.Ap<2+(k:Int):=by
 rcases List.mem_cons.1 h with rfl|h
 · show(1:Int)<2+(k:Int);omega
 · obtain⟨i,Ag,rfl⟩:=List.mem_map.1 h;have:=List.mem_range.1 Ag;show 2+(i:Int)<2+(k:Int);omega
theorem AIZ{k:Nat}(AE:k<7)(hm:Fg (AGK k)=true):IS (AGK k) (2+(k:Int)) 1=(AGK (k+1),true,0):=by
 have hs:=(Rl.1 hm).2;have Ag:G9 (·.Ap) AGl (2+(k:Int)) (AGK k)=false:=by
  rw[<-Bool.not_eq_true,br N1 hs];rintro⟨x,Ab,e⟩;have:=AHY Ab;omega
 have BI:FU (AGK k) (2+(k:Int))=(gT,false):=by rw[FU,if_neg (by rw[hm];decide),if_pos Ag]
 have hw:LP (AGK k) (AHF k)=AGK (k+1):=by
  refine tz N1 (W4 N1 hs) ?_ fun x=>?_
  · rw[AIC];refine List.pairwise_append.2 ⟨hs,List.pairwise_singleton ..,fun a AK b Aq=>?_⟩;rw[List.mem_singleton.1 Aq];exact decide_eq_true (AHY AK)
  · rw[AIC,List.mem_append,List.mem_singleton];refine(PJ N1 hs).trans ⟨fun h=>h.elim .inr fun h=>.inl h.1,fun h=>h.elim (fun h=>.inr ⟨h,fun e=>?_⟩) .inl⟩;have:=AHY h;have e:x.Ap=2+(k:Int):=e;omega
 rw[IS,if_neg (by rw[hm];decide),if_neg (by simp only[Bool.or_eq_true,decide_eq_true_eq];have:EW=4611686018427387904:=rfl;omega),BI,if_neg (by decide),if_neg (by decide)];show(LP (AGK k) (AHF k),true,0)=_;rw[hw]
structure AGT (o:FL):Prop where
 key:o.Al=AGp
 A1:1<=o.Ca
 Bd:o.Ca<=5
 n:o.Ca=1\/o.Ca=2->1<=o.B2
theorem AI3{os:List FL}{k:Nat}(AE:k<7)(h:AGT (os.getD k default)):NA (AGD os k) 3=true:=by
 have B4:Jj (2+(k:Int)) 1=true:=by
  simp only[Jj,Bool.and_eq_true,decide_eq_true_eq];have:EW=4611686018427387904:=rfl;omega
 have DC:Ix (os.getD k default).Al=true:=by rw[h.key];decide
 have a:=h.A1;have b:=h.Bd;unfold NA;rw[if_neg (by
  show ¬(!Jj (2+(k:Int)) 1||decide ((2:Int)<1)||decide ((2:Int)>3)||decide ((os.getD k default).Ca<1)||decide ((os.getD k default).Ca>6)|| !Ix (os.getD k default).Al)=true;rw[B4,DC,decide_eq_false (show ¬(os.getD k default).Ca<1 by omega),decide_eq_false (show ¬(os.getD k default).Ca>6 by omega)];decide)]
 show(if(decide ((os.getD k default).Ca=1)||decide ((os.getD k default).Ca=2))=true then decide ((os.getD k default).B2>=1)else if(os.getD k default).Ca=6 then _ else true)=true;split
 · rename_i q;simp only[Bool.or_eq_true,decide_eq_true_eq]at q;exact decide_eq_true (h.n q)
 · rw[if_neg (by omega)]
theorem AIB{os:List FL}{k:Nat}(AE:k<7)(h:AGT (os.getD k default))(Bw:(os.getD 0 default).Ca=4)(AJg:(os.getD 0 default).Al=AGp)(Fy:XO (F8 1) (AGr os k) (k+1)):Gc (AGr os k) (AGD os k) (2+(k:Int)) 3=(AGr os (k+1),[],0):=by
 have ws:=((Zc Fy.ints.ac Fy.ints.PZ Fy.ints.O8).1 Fy.right).1;have Aq:=AIZ AE ws.marks;have key:(AGD os k).AM.Al=AGp:=h.key;have Anp:EW=4611686018427387904:=rfl;have pz:(BF [AGy k] AGp).1=AGy k:=zO (l:=[AGy k]) (List.pairwise_singleton ..) (List.mem_singleton.2 rfl);rw[AJX Fy.right Fy.set rfl (by decide) (by decide) (by show 1+(k:Int)<2+(k:Int);omega) (by omega) rfl (AI3 AE h) (by show(IS (AGK k) (2+(k:Int)) 1).2.2=0;rw[Aq]) (by show(IS (AGK k) (2+(k:Int)) 1).2.1=true;rw[Aq])
  (by rw[key];show(true&&within ByteArray.empty ByteArray.empty AGp)=true;kernel_rfl) rfl (by show ¬(os.getD k default).Ca=6;have:=h.Bd;omega) ?_ (by show((List.range k).map _).length<8;rw[List.length_map,List.length_range];omega) ?_]
 · have AN:AG2 (AGr os k) (AGD os k) (2+(k:Int))={AGr os (k+1)with Aj:=[AGy k]}:=by
    show({AGr os k with DX:=_,Bz:=(IS (AGK k) (2+(k:Int)) 1).1,AA:=AGF os k++[AGI (AGD os k)]}:Bv)=_;rw[Aq,<-AKq];show({AGz with DX:=2+(k:Int),Aj:=[AGy k],Bz:=AGK (k+1),AA:=AGF os (k+1)}:Bv)={AGz with DX:=1+((k+1:Nat):Int),Aj:=[AGy k],Bz:=AGK (k+1),AA:=AGF os (k+1)};rw[show 1+((k+1:Nat):Int)=2+(k:Int)by omega]
   have Cl:([AGy k].map (Jv (AG2 (AGr os k) (AGD os k) (2+(k:Int))) (2+(k:Int)))).filter (fun a=> !FT a)=[AGy (k+1)]:=by
    have AK:=ws.acc (AGy k) (List.mem_singleton.2 rfl);rw[List.map_singleton,qh (by omega) (by omega) AK.1 AK.2.1];have Tv:SG (AG2 (AGr os k) (AGD os k) (2+(k:Int))).AA (AGy k).Al=true:=by
     show(AGF os k++[AGI (AGD os k)]).any _=true;rw[List.any_append,Bool.or_eq_true];refine .inr ?_;show(decide ((os.getD k default).Al=AGp)||false)=true;rw[decide_eq_true h.key];rfl
    rw[Tv,Bool.true_or,if_pos rfl];have e:({AGy k with Cn:=if(AGy k).Cn=0 then 2+(k:Int)else(AGy k).Cn}:AD)=AGy (k+1):=by
     by_cases z:k=0
     · subst z;rfl
     · have:(AGy k).Cn=2:=(by show(if k=0 then(0:Int)else 2)=2;rw[if_neg z]);rw[this,if_neg (by decide)];show({AGs _ with Cn:=2}:AD)=AGs (if k+1=0 then 0 else 2);rw[if_neg (by omega)];rfl
    rw[e];have AJG:FT (AGy (k+1))=false:=by
     rw[<-Bool.not_eq_true,fB];intro q;exact absurd q.2.2.2.1 (by show ¬[(⟨1,1,5,0⟩:BD)]=[];simp)
    rw[List.filter_cons,AJG];rfl
   have AJd:((AGr os k).Aj.map (Jv (AG2 (AGr os k) (AGD os k) (2+(k:Int))) (2+(k:Int)))).filter (fun a=> !FT a)=[AGy (k+1)]:=Cl;rw[AJd,AN];rfl
 · by_cases z:k=0
   · refine .inl ?_;subst z;show(os.getD 0 default).Ca>2;omega
   · refine .inr ?_;rw[key];show(AGF os k).any _=true;exact List.any_eq_true.2 ⟨AGI (AGD os 0),List.mem_map.2 ⟨0,List.mem_range.2 (by omega),rfl⟩,decide_eq_true AJg⟩
 · rw[key];show(Io (BF [AGy k] AGp).1).2=false;rw[pz,<-Bool.not_eq_true,l'];intro q;exact absurd q.2.2 (by show ¬[(⟨1,1,5,0⟩:BD)]=[];simp)
section
@[reducible] def DG(p:Nat)(J:List Nat)(w:Cc):C4:=RW (σ:=Value) J (fun k=>[AO p 281 [.pointer none,k,.bool w.E6,.int .i64 0],@row UInt8 Rv 5 k w.out]) (fun _=>[]) (fun _=>w.out.length<=65536)
instance {α:Type} [Inhabited α]:Inhabited (Cq α):=⟨⟨default⟩⟩
section
variable{c:Cj} {ops:Array Oper} {Q:AuE} {env:Env} {L:Go.A_.Own} {D:List Atom} {p:Nat} {J:List Nat}
theorem L2{w:Cc}{x:Code}(k:∀k,w.out.length<=65536->CF c x Q env (AO p 281 [.pointer none,k,.bool w.E6,.int .i64 0]::@row UInt8 Rv 5 k w.out::L) (D)):CF c x Q env (DG p J w::L) (D):=
 rN 0 rfl fun y h=>k y h
theorem Mh(w:Cc)(k:Value){L0:Go.A_.Own}{x:Code}(Dv:L0=AO p 281 [.pointer none,k,.bool w.E6,.int .i64 0]::@row UInt8 Rv 5 k w.out::L)(AU:w.out.length<=65536)(NP:∀J,CF c x Q env (DG p J w::L) (D)):CF c x Q env (L0) (D):=
 nO (LL:=fun k:Value=>[AO p 281 [.pointer none,k,.bool w.E6,.int .i64 0],@row UInt8 Rv 5 k w.out]) (DD:=fun _=>[]) (I:=fun _=>w.out.length<=65536) [] L k Dv AU Bg.nil (NP _)
theorem Ng(w:Cc)(k:Value){L0:Go.A_.Own}{e:Exit}(Dv:L0=AO p 281 [.pointer none,k,.bool w.E6,.int .i64 0]::@row UInt8 Rv 5 k w.out::L)(AU:w.out.length<=65536)(NP:∀J,Eg c Q e env (DG p J w::L) (D)):Eg c Q e env (L0) (D):=
 nP (LL:=fun k:Value=>[AO p 281 [.pointer none,k,.bool w.E6,.int .i64 0],@row UInt8 Rv 5 k w.out]) (DD:=fun _=>[]) (I:=fun _=>w.out.length<=65536) [] L k Dv AU Bg.nil (NP _)
end
theorem AkZ{b:List UInt8}{w:Cc}(h:w.out.length<=65536):(H4 b w).out.length<=65536:=by
 unfold H4;split
 · exact h
 ·
  rename_i q;simp only[Bool.or_eq_true,decide_eq_true_eq,not_or]at q;rw[List.length_append];omega
theorem uQ{b:List UInt8}{n:Nat}(h:n<=65536):decide ((b.length:Int)>65536-(n:Int))=decide (b.length>65536-n):=by
 rw[decide_eq_decide];omega
def B_(l:List (Cq Int))(w:Cc):Cc:=l.foldl (fun w v=>E2 v.x w) w
def E0:List (Cq ByteArray)->Cc->Cc
 |[],w=>w
 |s::r,w=>if s.x.size>65535 then{w with E6:=true}else E0 r (KT s.x.data.toList w)
end
end Go.Apw
namespace Go.A_
open Go.RowKit
section
section
variable{c:Cj} {ops:Array Oper} {AP:Cj->Array Oper->List Oper->Env->Own->List Atom->Prop} [Dr:Ip AP] {env:Env} {L:Own} {D:List Atom} {rest:List Oper} {d:Nat} {t:TypeId} {p:String} {af:Array Edge} {x y:Operand} {m n:Int}
include Dr
theorem rz{q:IntKind}{ats:Array TypeId}(Ab:AL env x=some (.int q m))(Bf:AL env y=some (.int q n)){r:Int}(Bh:min m n=r)(Ao:Nat.blt d c.n=true)(k:AP c ops rest ((d,.int q r)::env) L D):
 AP c ops (⟨some d,.call {callee:=.builtin .min,args:= #[x,y],argTypes:=ats},t,p,af,none⟩::rest) env L D:=
 pu rfl rfl Ao (fun a w f=>by
  subst Bh;have e:min m n=if n<m then n else m:=(by omega);simp[execOp,resolve,invoke,builtin,f.AL Ab,f.AL Bf,Builtin.min_,Builtin.min2,e]) k
variable{Ec FK:TypeId} {q:IntKind} {r:Int}
theorem AhV(Ab:AL env x=some (.int q m))(Bf:AL env y=some (.int q n))(Bw:n≠0)(Bh:q.wrap (m.tdiv n)=r)(Ao:Nat.blt d c.n=true)(k:AP c ops rest ((d,.int q r)::env) L D):AP c ops (⟨some d,.binOp .quo Ec x y FK,t,p,af,none⟩::rest) env L D:=by subst Bh;exact AhW Ab Bf Bw Ao k
theorem k'(Ab:AL env x=some (.int q m))(Bf:AL env y=some (.int q n))(Bw:n≠0)(Bh:m.tmod n=r)(Ao:Nat.blt d c.n=true)(k:AP c ops rest ((d,.int q r)::env) L D):AP c ops (⟨some d,.binOp .rem Ec x y FK,t,p,af,none⟩::rest) env L D:=by subst Bh;exact Aik Ab Bf Bw Ao k
theorem xc(Ab:AL env x=some (.int q m))(Bf:AL env y=some (.int q n))(Bh:q.wrap (m+n)=r)(Ao:Nat.blt d c.n=true)(k:AP c ops rest ((d,.int q r)::env) L D):AP c ops (⟨some d,.binOp .add Ec x y FK,t,p,af,none⟩::rest) env L D:=by subst Bh;exact Jm Ab Bf Ao k
theorem tM(Ab:AL env x=some (.int q m))(Bf:AL env y=some (.int q n))(Bh:q.wrap (m-n)=r)(Ao:Nat.blt d c.n=true)(k:AP c ops rest ((d,.int q r)::env) L D):AP c ops (⟨some d,.binOp .sub Ec x y FK,t,p,af,none⟩::rest) env L D:=by subst Bh;exact Ajg Ab Bf Ao k
theorem Aev(Ab:AL env x=some (.int q m))(Bh:q.wrap (0-m)=r)(Ao:Nat.blt d c.n=true)(k:AP c ops rest ((d,.int q r)::env) L D):AP c ops (⟨some d,.unOp .neg Ec x,t,p,af,none⟩::rest) env L D:=by subst Bh;exact Aew Ab Ao k
theorem GZ{α:Type}{r:Be α}(i:Nat){l:List Oper}{e:TypeId}{v:Value}{xs:List α}(Ag:L[i]? =some (@row α r e v xs))(k:v.oneCell'=true->AP c ops l env L D):AP c ops l env L D:=
 Dr.fact (fun a w f st AR=>by
  obtain⟨Cy,G8,_⟩:=st.own _ (List.mem_of_getElem? Ag);rcases G8.2 with⟨rfl,_⟩|⟨g,cap,cur,rfl,_⟩<;>rfl) k
end
end
end Go.A_
namespace Go.Apw
theorem BS{b:Bool}:¬IA b=0↔b=false:=by cases b<;>simp[IA]
theorem Aex(n:Int):IntKind.u64.wrap (0-n % 18446744073709551616)=(-n) % 18446744073709551616:=by rw[OE];omega
theorem oV(n:Int)(Bw:0<=n):Cv AG 194 [.int .u64 n] [] (.int .i64 (H' n)):=by
 exact Aw.proof Tryz.func194 G 6 G G fun X w=>AF 1 G<|Ae<|An G G<|rz G G G G<|F0 Tryz.underlying136 Tryz.underlying3 G (Uf BV) G<|U 1 G<|Ac<|rt<|Bq () G G (by rfl) G Aa
theorem mD{v:Int}(Bw:0<=v)(Af:v<18446744073709551616):IntKind.u64.wrap v=v:=by rw[OE];omega
theorem AhX{n p:Int}(Bw:0<=n)(Af:n<18446744073709551616)(AH:1<=p):IntKind.u64.wrap (n.tdiv p)=n / p:=by
 rw[OE,Int.tdiv_eq_ediv_of_nonneg Bw];exact Int.emod_eq_of_lt (Int.ediv_nonneg Bw (by omega)) (Int.lt_of_le_of_lt (Int.ediv_le_self _ Bw) Af)
theorem Ail{n p:Int}(Bw:0<=n):n.tmod p=n % p:=Int.tmod_eq_emod_of_nonneg Bw
theorem Ajz{n p:Int}(Bw:0<=n)(Af:n<18446744073709551616)(AH:1<=p)(Bh:0<n % p):IntKind.u64.wrap (n / p+1)=n / p+1:=by
 rw[OE];have AJ:=Int.mul_ediv_add_emod n p;have h2:=Int.ediv_nonneg Bw (show 0<=p by omega);have Bo:n / p<=p*(n / p):=by
  have:=Int.mul_le_mul_of_nonneg_right AH h2;omega
 exact Int.emod_eq_of_lt (by omega) (by omega)
theorem te(n p i:Int)(Bw:0<=n)(Af:n<18446744073709551616)(Tm:A' p)(Aa8:A' i):Cv AG 195 [.int .u64 n,.int .i64 p,.int .i64 i] [] (.int .u64 (JA n p i)):=by
 refine Aw.proof Tryz.func195 G 35 G G fun X w=>?_;obtain⟨Am',Ana⟩:=id Tm;obtain⟨Am3,Am4⟩:=id Aa8;refine AF 1 G<|Am<|Ae<|U 3 G<|ET 11 3 [] [0,1,2] G G G<|An G G<|ET 15 4 [] [0,1,2] G G G<|Ac<|BN G (fun Fe=>?_) (fun Fe=>?_)
 · exact AF 1 G<|BA<|Bq () G G (by rw[JA,if_pos Fe]) G Aa
 ·
  have Qs:1<=p/\0<=i/\i<p:=by
   have q:=Fe;simp only[Bool.or_eq_false_iff,decide_eq_false_iff_not]at q;omega
  obtain⟨Rn,WY,r3⟩:=Qs;refine AZ<|Am<|Gx mixed (by kernel_rfl)<|U 2 G<|F0 Tryz.underlying3 Tryz.underlying136 G (mD (v:=p) (by omega) (by omega)) G<|AhV G G (by omega) (AhX Bw Af Rn) G<|U 2 G<|F0 Tryz.underlying3 Tryz.underlying136 G (mD (v:=p) (by omega) (by omega)) G<|k' G G (by omega) (Ail Bw) G<|U 2 G<|Gj<|A5<|Am<|Ae<|An G G<|F0 Tryz.underlying3 Tryz.underlying136 G (mD (v:=i) (by omega) (by omega)) G<|U 2 G<|Ac<|B9 G (fun ES=>?_) (fun ES=>?_)
  · exact rg<|An G G<|xc G G (Ajz Bw Af Rn (by omega)) G<|U 1 G<|Ac<|AF 2 G<|rt<|Bq () G G (by rw[JA,if_neg (by rw[Fe];decide),if_pos ES]) G Aa
  · exact AZ<|AF 2 G<|rt<|Bq () G G (by rw[JA,if_neg (by rw[Fe];decide),if_neg ES]) G Aa
theorem sR(a:AD)(Cw:Value)(C6:a.wf):Cv AG 189 [.agg (A3 a Cw).toArray] [⟨Cw,a.A0⟩] (.tuple #[.int .u64 (K4 a),.int .u64 (Jx a)]):=by
 refine Aw.proof Tryz.func189 G 34 G G fun X w=>Ae<|CV G G G fun CY=>U 2 G<|Ac<|Am<|Ae<|BJ 0 (A3 a Cw) G G (At G) G G<|B0 (Ps _ _ C6) (Ar G) G (Ad 0 G Aa) G<|U 2 G<|DE 10 3 [1] G G (fun Dq ZE=>Bl G G G<|BJ 0 (A3 a Cw) G G (At G) G G<|Bl G G G<|B0 (YP _ _ C6) (Ar G) G (Ad 0 G Aa) G<|U 1 G<|ZE G Br)<|Ac<|BN G (fun Dp=>?_) (fun Dp=>?_)
 · exact AF 2 G<|BA<|AQ<|Fl () G G G (by rw[K4,Jx,if_pos Dp,if_pos Dp]) G Aa
 ·
  have HJ:E4 a=true/\G_ a=false:=(by simpa[Bool.or_eq_false_iff]using Dp);have hh:LI a.A0=true:=((P3 C6.2.1).1 HJ.1).hold;exact AZ<|Ae<|BJ 0 (A3 a Cw) G G (At G) G G<|B0 (q6 _ _ C6 (by assumption)) (Ar G) G (Ad 0 G Aa) G<|U 7 G<|Ac<|Am<|Gx mixed (by kernel_rfl)<|An G G<|F0 Tryz.underlying3 Tryz.underlying136 G (OE _) G<|AX 3 [0] G G<|F0 Tryz.underlying3 Tryz.underlying136 G (OE _) G<|tM G G (OE _) G<|AX 3 [0] G G<|F0 Tryz.underlying3 Tryz.underlying136 G (OE _) G<|An G G<|F0 Tryz.underlying3 Tryz.underlying136 G (OE _) G<|tM G G (OE _) G<|U 2 G<|Gj<|A5<|rt<|AQ<|Fl () G G G (by rw[K4,Jx,if_neg (by rw[Dp];decide),if_neg (by rw[Dp];decide)]) G Aa
theorem ma(a:AD)(Cw:Value)(C6:a.wf):Cv AG 173 [.agg (A3 a Cw).toArray] [⟨Cw,a.A0⟩] (.tuple #[.int .i64 (Io a).1,.bool (Io a).2]):=by
 refine Aw.proof Tryz.func173 G 19 G G fun X w=>Ae<|CV G G G fun CY=>U 2 G<|Ac<|Am<|Ae<|BJ 0 (A3 a Cw) G G (At G) G G<|B0 (Ps _ _ C6) (Ar G) G (Ad 0 G Aa) G<|U 2 G<|DE 7 3 [1] G G (fun GY ZC=>Bl G G G<|BJ 0 (A3 a Cw) G G (At G) G G<|Bl G G G<|B0 (YP _ _ C6) (Ar G) G (Ad 0 G Aa) G<|U 1 G<|ZC G Br)<|An G G<|DE 11 5 [1] G G (fun Ct ZG=>AX 2 [0] G G<|Bl G G G<|C2 0 G G Tryz.underlying69 G fun qS=>U 2 G<|ZG G Br)<|Ac<|BN G (fun CR=>?_) (fun CR=>?_)
 · exact AF 2 G<|BA<|AQ<|Fl () G G G (by rw[Io,if_pos CR]) G Aa
 · exact AZ<|I5 4 [0] G G<|rt<|AQ<|Fl () G G G (by rw[Io,if_neg (by rw[CR];decide)]) G Aa
theorem rA(v n:Int)(ja:A' v)(MB:A' n)(Bw:0<=v)(Af:0<=n):Cv AG 193 [.int .i64 v,.int .i64 n] [] (.int .i64 (Iw v n)):=by
 refine Aw.proof Tryz.func193 G 11 G G fun X w=>?_;obtain⟨Abf,Abg⟩:=id ja;obtain⟨Yk,Yl⟩:=id MB;exact AF 1 G<|Ae<|U 3 G<|TU G G BV G<|rz G G G G<|C5 G G BV G<|U 1 G<|Ac<|rt<|Bq () G G (by rfl) G Aa
theorem qQ(a:AD)(Cw:Value)(C6:a.wf):Cv AG 254 [.agg (A3 a Cw).toArray] [⟨Cw,a.A0⟩] (.int .i64 (LJ a)):=by
 refine Aw.proof Tryz.func254 G 15 G G fun X w=>Ae<|CV G G G fun CY=>U 1 G<|Ac<|Am<|Ae<|BJ 0 (A3 a Cw) G G (At G) G G<|B0 (Ps _ _ C6) (Ar G) G (Ad 0 G Aa) G<|IH G G<|Ac<|BN G (fun GY=>?_) (fun GY=>?_)
 ·
  have Y8:E4 a=false:=(by simpa using GY);exact AF 1 G<|BA<|AQ<|Bq () G G (by rw[LJ,if_pos Y8]) G Aa
 ·
  have Y8:¬E4 a=false:=(by simpa using GY);refine AZ<|Am<|Ae<|BJ 0 (A3 a Cw) G G (At G) G G<|B0 (ma _ _ C6) (Ar G) G (Ad 0 G Aa) G<|U 5 G<|Ac<|AF 2 G<|BN G (fun Fm=>?_) (fun Fm=>?_)
  ·
   have MI:(Io a).2=false:=(by simpa using Fm);exact AF 1 G<|BA<|AQ<|Bq () G G (by rw[LJ,if_neg Y8,if_pos MI]) G Aa
  ·
   have MI:¬(Io a).2=false:=(by simpa using Fm);exact AZ<|AF 1 G<|rt<|AQ<|Bq () G G (by rw[LJ,if_neg Y8,if_neg MI]) G Aa
theorem nZ(Bk:Value)(l:List BD)(hlen:l.length<=100000):Aw AG 130 [Bk] [] [⟨Bk,l⟩] (fun(_:Unit) _=>True) (fun _ v=>[@row BD Mj 83 v l]) (fun _ _=>[]):=by
 refine Aw.proof Tryz.func130 G 8 G G fun X w=>AF 1 G<|Am<|Ae<|An G G<|RT 0 Tryz.underlying69 G G G G fun PM J'=>Ac<|BN G (fun BB=>?_) (fun BB=>?_)
 ·
  have Ab:l=[]:=J' BB;subst Ab;exact Lk BD 83<|AF 1 G<|BA<|Bq () G G trivial G Aa
 · exact AZ<|Ae<|NB S1 G fun E'=>Nm (α:=BD) [] [] G G (fun _ _ _=>trivial) G<|An G G<|ap 0 0 G G G G S1 (by simp only[List.length_nil];omega) (by simp only[List.length_nil];omega) G fun EZ=>U 1 G<|Ac<|rt<|Bq () G G trivial G Aa
theorem Uy(a:AD)(Cw:Value)(_:a.wf)(Aq:a.A0.length<=100000):Aw AG 187 [.agg (A3 a Cw).toArray] [] [⟨Cw,a.A0⟩] (fun(y:Value) u=>u=.agg (A3 a y).toArray) (fun y _=>[@row BD Mj 83 y a.A0]) (fun _ _=>[]):=by
 refine Aw.proof Tryz.func187 G 8 G G fun X w=>Ae<|CV G G G fun CY=>CT Hd G fun Dh=>Ac<|Ae<|AX 2 [1] G G<|Dm (nZ _ _ Aq) (Ar G) G (Ad 0 G Aa) G fun _ Mp _=>U 1 G<|IL 2 0 G G G G (A2 G) (Da G)<|Ac<|Ae<|BJ 2 (A3 ((⟨a.Al,(⟨a.Cs.A6,a.Cs.Bc⟩:GC),a.BT,a.Cn,a.A0,(⟨a.BG.Ap,a.BG.As,a.BG.DH,a.BG.B2⟩:F_)⟩:AD)) Mp) G G (At G) G G<|GZ 0 G fun WV=>?_;exact BZ 1 (us:=(A3 ((⟨a.Al,(⟨a.Cs.A6,a.Cs.Bc⟩:GC),a.BT,a.Cn,a.A0,(⟨a.BG.Ap,a.BG.As,a.BG.DH,a.BG.B2⟩:F_)⟩:AD)) Mp)) G G G (At G) (by simp only[List.all_cons,List.all_nil,Bool.and_true,WV];rfl) G<|Ac<|rt<|Au 2 G<|Au 2 G<|D8 Mp [_,_] (Qv 0 G G G (At G)) (by rfl) G Aa
variable(a:AD) (Cw:Value)
theorem Ada{a:AD}(h:LJ a=0):E4 a=true:=by
 unfold LJ at h;split at h
 · exact absurd h (by decide)
 ·
  rename_i q;simpa using q
theorem m'(n:Int)(Z:AD×Int)(AW:JF a n=Z)(C6:a.wf)(MB:A' n):Aw AG 176 [.agg (A3 a Cw).toArray,.int .i64 n] [] [⟨Cw,a.A0⟩] (fun(y:Value) u=>u=.tuple #[.agg (A3 Z.1 y).toArray,.int .i64 Z.2]) (fun _ _=>[]) (fun y _=>[⟨y,Z.1.A0⟩]):=by
 refine Aw.proof Tryz.func176 G 54 G G fun X w=>?_;obtain⟨Yk,Yl⟩:=id MB;refine DJ (α:=BD) ?_;refine HP (q:=∀x∈a.A0,x.wf) (fun S w h=>O7 (s:=MN) (h _ (List.mem_of_getElem? (i:=1) G))) fun F5=>?_;have hw:D3 a:=⟨C6,F5⟩;refine Ae<|CV G G G fun Dh=>CT Hd G fun En=>U 1 G<|Ac<|Am<|B5<|Ae<|BJ 1 (A3 a Cw) G G (At G) G G<|B0 (Ps _ _ C6) (Ar G) G (Ad 1 G Aa) G<|IH G G<|U 1 G<|Ac<|BN G (fun D2=>?_) (fun D2=>?_)
 ·
  have HZ:E4 a=false:=(by first|exact D2|exact BS.1 D2|exact(fun q=>BS.2 q D2)|exact(fun q=>Bool.false_ne_true (D2.symm.trans q))|simpa using D2)
  have AB:((Fj,21):AD×Int)=Z:=(by rw[<-AW,JF,if_pos HZ]);subst AB;exact Ae<|Db (ps:=[]) (cs:=(A3 FX AI)) (by rfl) (by kernel_rfl) G<|BZ 0 (us:=(A3 FX AI)) G G G (At G) G G<|U 1 G<|Ac<|rt<|C9<|Cd<|D8 AI [_,_] (Fp 0 G G G G (At G)) (by rfl) G (Ad 0 G Aa)
 ·
  have HZ:¬(E4 a=false):=(by first|exact D2|exact BS.1 D2|exact(fun q=>BS.2 q D2)|exact(fun q=>Bool.false_ne_true (D2.symm.trans q))|simpa using D2)
  refine AF 3 G<|B9 G (fun Dp=>?_) (fun Dp=>?_)
  ·
   have HJ:n=0:=(by first|exact Dp|exact BS.1 Dp|exact(fun q=>BS.2 q Dp)|exact(fun q=>Bool.false_ne_true (Dp.symm.trans q))|simpa using Dp)
   have AB:((Fj,1):AD×Int)=Z:=(by rw[<-AW,JF,if_neg HZ,if_pos HJ]);subst AB;exact Ae<|Db (ps:=[]) (cs:=(A3 FX AI)) (by rfl) (by kernel_rfl) G<|BZ 0 (us:=(A3 FX AI)) G G G (At G) G G<|U 1 G<|Ac<|rt<|C9<|Cd<|D8 AI [_,_] (Fp 0 G G G G (At G)) (by rfl) G (Ad 0 G Aa)
  ·
   have HJ:¬(n=0):=(by first|exact Dp|exact BS.1 Dp|exact(fun q=>BS.2 q Dp)|exact(fun q=>Bool.false_ne_true (Dp.symm.trans q))|simpa using Dp)
   refine Ae<|BJ 1 (A3 a Cw) G G (At G) G G<|B0 (YP _ _ C6) (Ar G) G (Ad 1 G Aa) G<|U 1 G<|Ac<|BN G (fun DA=>?_) (fun DA=>?_)
   ·
    have O_:G_ a=true:=(by first|exact DA|exact BS.1 DA|exact(fun q=>BS.2 q DA)|exact(fun q=>Bool.false_ne_true (DA.symm.trans q))|simpa using DA)
    have AB:((Fj,152):AD×Int)=Z:=(by rw[<-AW,JF,if_neg HZ,if_neg HJ,if_pos O_]);subst AB;exact Ae<|Db (ps:=[]) (cs:=(A3 FX AI)) (by rfl) (by kernel_rfl) G<|BZ 0 (us:=(A3 FX AI)) G G G (At G) G G<|U 1 G<|Ac<|rt<|C9<|Cd<|D8 AI [_,_] (Fp 0 G G G G (At G)) (by rfl) G (Ad 0 G Aa)
   ·
    have O_:¬(G_ a=true):=(by first|exact DA|exact BS.1 DA|exact(fun q=>BS.2 q DA)|exact(fun q=>Bool.false_ne_true (DA.symm.trans q))|simpa using DA)
    refine EG<|CU<|A5<|Ae<|BJ 1 (A3 a Cw) G G (At G) G G<|B0 (sR _ _ C6) (Ar G) G (Ad 1 G Aa) G<|U 5 G<|Ac<|Am<|Ae<|U 3 G ?_;refine D4 28 5 [1,2,4,6] G G (fun R2 g0=>by
     have Aoa:=of_decide_eq_true R2;exact U 1 G<|Bl G G G<|F0 Tryz.underlying3 Tryz.underlying136 G (OE _) G<|U 3 G<|g0 G Br) ?_
    refine An G G ?_;refine DE 34 10 [1,2,4] G G (fun FN ZM=>by
     refine U 3 G ?_;refine D4 37 6 [1,2,4,34] G G (fun M5 ZL=>by
      have r5:=of_decide_eq_true M5;exact U 1 G<|Bl G G G<|F0 Tryz.underlying3 Tryz.underlying136 G (OE _) G<|Bl G G G<|Aev G (Aex n) G<|U 3 G<|ZL G Br) ?_
     exact U 1 G<|ZM G Br) ?_
    refine Ac<|BN G (fun Q_=>?_) (fun Q_=>?_)
    ·
     have Y7:dw a n=true:=(by first|exact Q_|exact BS.1 Q_|exact(fun q=>BS.2 q Q_)|exact(fun q=>Bool.false_ne_true (Q_.symm.trans q))|simpa using Q_)
     have AB:((Fj,150):AD×Int)=Z:=(by rw[<-AW,JF,if_neg HZ,if_neg HJ,if_neg O_,if_pos Y7]);subst AB;exact Ae<|Db (ps:=[]) (cs:=(A3 FX AI)) (by rfl) (by kernel_rfl) G<|BZ 0 (us:=(A3 FX AI)) G G G (At G) G G<|U 1 G<|Ac<|BA<|D8 AI [_,_] (Fp 0 G G G G (At G)) (by rfl) G (Ad 0 G Aa)
    ·
     have Y7:¬(dw a n=true):=(by first|exact Q_|exact BS.1 Q_|exact(fun q=>BS.2 q Q_)|exact(fun q=>Bool.false_ne_true (Q_.symm.trans q))|simpa using Q_)
     have AB:(({a with BT:=a.BT+n},0):AD×Int)=Z:=(by rw[<-AW,JF,if_neg HZ,if_neg HJ,if_neg O_,if_neg Y7]);subst AB;have Kp:A' (a.BT+n):=by
      have q:=(ZU hw MB (by rw[AW])).2.2.2.2.wf.2.2.1;rw[AW]at q;exact q
     refine AZ<|Ae<|BJ 1 (A3 a Cw) G G (At G) G G<|Dm (Uy _ _ C6 (Nat.le_trans (S0 (by simpa using HZ)) (by decide))) (Ar G) G (Ad 1 G Aa) G fun Uk AkH Wg=>?_;subst Wg;refine JO ?_;refine Cp 0 G fun bR=>?_;refine BZ 1 (us:=(A3 a Uk)) G G G (At G) (by simp only[List.all_cons,List.all_nil,Bool.and_true,bR];rfl) G<|Ac<|Ae<|AX 3 [1] G G<|C5 G G Kp G<|U 1 G<|Fi 1 G G G (A2 G) G (Da G)<|Ac<|Ae<|BJ 1 (A3 ((⟨a.Al,(⟨a.Cs.A6,a.Cs.Bc⟩:GC),(a.BT+n),a.Cn,a.A0,(⟨a.BG.Ap,a.BG.As,a.BG.DH,a.BG.B2⟩:F_)⟩:AD)) Uk) G G (At G) G G<|Cp 0 G fun bR=>?_;exact BZ 0 (us:=(A3 ((⟨a.Al,(⟨a.Cs.A6,a.Cs.Bc⟩:GC),(a.BT+n),a.Cn,a.A0,(⟨a.BG.Ap,a.BG.As,a.BG.DH,a.BG.B2⟩:F_)⟩:AD)) Uk)) G G G (At G) (by simp only[List.all_cons,List.all_nil,Bool.and_true,bR];rfl) G<|U 1 G<|Ac<|rt<|D8 Uk [_,_] (Fp 0 G G G G (At G)) (by rfl) G (Ad 0 G Aa)
theorem zZ(r:Int)(Z:AD×Int)(AW:Mx a r=Z)(C6:a.wf)(i':A' r):Aw AG 97 [.agg (A3 a Cw).toArray,.int .i64 r] [] [⟨Cw,a.A0⟩] (fun(y:Value) u=>u=.tuple #[.agg (A3 Z.1 y).toArray,.int .i64 Z.2]) (fun _ _=>[]) (fun y _=>[⟨y,Z.1.A0⟩]):=by
 refine Aw.proof Tryz.func97 G 25 G G fun X w=>?_;obtain⟨Abc,Abd⟩:=id i';refine DJ (α:=BD) ?_;refine HP (q:=∀x∈a.A0,x.wf) (fun S w h=>O7 (s:=MN) (h _ (List.mem_of_getElem? (i:=1) G))) fun F5=>?_;have hw:D3 a:=⟨C6,F5⟩;refine Ae<|CV G G G fun Dh=>CT Hd G fun En=>U 1 G<|Ac<|Am<|Ae<|BJ 1 (A3 a Cw) G G (At G) G G<|B0 (Ps _ _ C6) (Ar G) G (Ad 1 G Aa) G<|IH G G<|Ac<|BN G (fun D2=>?_) (fun D2=>?_)
 ·
  have HZ:E4 a=false:=(by first|exact D2|exact BS.1 D2|exact(fun q=>BS.2 q D2)|exact(fun q=>Bool.false_ne_true (D2.symm.trans q))|simpa using D2)
  have AB:((Fj,21):AD×Int)=Z:=(by rw[<-AW,Mx,if_pos HZ]);subst AB;exact Ae<|Db (ps:=[]) (cs:=(A3 FX AI)) (by rfl) (by kernel_rfl) G<|BZ 0 (us:=(A3 FX AI)) G G G (At G) G G<|U 1 G<|Ac<|BA<|D8 AI [_,_] (Fp 0 G G G G (At G)) (by rfl) G (Ad 0 G Aa)
 ·
  have HZ:¬(E4 a=false):=(by first|exact D2|exact BS.1 D2|exact(fun q=>BS.2 q D2)|exact(fun q=>Bool.false_ne_true (D2.symm.trans q))|simpa using D2)
  refine AZ<|Am<|Ae<|U 3 G<|ET 12 3 [] [1,2,4] G G G<|Ac<|BN G (fun Ft=>?_) (fun Ft=>?_)
  ·
   have KR:(decide (r<1)||decide (r>EW))=true:=(by first|exact Ft|exact BS.1 Ft|exact(fun q=>BS.2 q Ft)|exact(fun q=>Bool.false_ne_true (Ft.symm.trans q))|simpa using Ft)
   have AB:((Fj,1):AD×Int)=Z:=(by rw[<-AW,Mx,if_neg HZ,if_pos KR]);subst AB;exact Ae<|Db (ps:=[]) (cs:=(A3 FX AI)) (by rfl) (by kernel_rfl) G<|BZ 0 (us:=(A3 FX AI)) G G G (At G) G G<|U 1 G<|Ac<|BA<|D8 AI [_,_] (Fp 0 G G G G (At G)) (by rfl) G (Ad 0 G Aa)
  ·
   have KR:¬((decide (r<1)||decide (r>EW))=true):=(by first|exact Ft|exact BS.1 Ft|exact(fun q=>BS.2 q Ft)|exact(fun q=>Bool.false_ne_true (Ft.symm.trans q))|simpa using Ft)
   refine AZ<|Ae<|BJ 1 (A3 a Cw) G G (At G) G G<|Dm (Uy _ _ C6 (Nat.le_trans (S0 (by simpa using HZ)) (by decide))) (Ar G) G (Ad 1 G Aa) G fun Uj Zq ER=>?_;subst ER;refine JO ?_;refine Cp 0 G fun bO=>?_;refine BZ 1 (us:=(A3 a Uj)) G G G (At G) (by simp only[List.all_cons,List.all_nil,Bool.and_true,bO];rfl) G<|Ac<|Am<|I5 3 [1] G G<|B9 G (fun E1=>?_) (fun E1=>?_)
   ·
    have Y6:a.Cn=0:=(by first|exact E1|exact BS.1 E1|exact(fun q=>BS.2 q E1)|exact(fun q=>Bool.false_ne_true (E1.symm.trans q))|simpa using E1)
    have AB:(({a with Cn:=r},0):AD×Int)=Z:=(by rw[<-AW,Mx,if_neg HZ,if_neg KR,if_pos Y6]);subst AB;refine rg<|U 2 G<|Fi 1 G G G (A2 G) G (Da G)<|Ac<|Ae<|BJ 1 (A3 ((⟨a.Al,(⟨a.Cs.A6,a.Cs.Bc⟩:GC),a.BT,r,a.A0,(⟨a.BG.Ap,a.BG.As,a.BG.DH,a.BG.B2⟩:F_)⟩:AD)) Uj) G G (At G) G G<|Cp 0 G fun bO=>?_;exact BZ 0 (us:=(A3 ((⟨a.Al,(⟨a.Cs.A6,a.Cs.Bc⟩:GC),a.BT,r,a.A0,(⟨a.BG.Ap,a.BG.As,a.BG.DH,a.BG.B2⟩:F_)⟩:AD)) Uj)) G G G (At G) (by simp only[List.all_cons,List.all_nil,Bool.and_true,bO];rfl) G<|U 1 G<|Ac<|rt<|D8 Uj [_,_] (Fp 0 G G G G (At G)) (by rfl) G (Ad 0 G Aa)
   ·
    have Y6:¬(a.Cn=0):=(by first|exact E1|exact BS.1 E1|exact(fun q=>BS.2 q E1)|exact(fun q=>Bool.false_ne_true (E1.symm.trans q))|simpa using E1)
    have AB:((a,0):AD×Int)=Z:=(by rw[<-AW,Mx,if_neg HZ,if_neg KR,if_neg Y6]);subst AB;refine AZ<|Ae<|BJ 1 (A3 a Uj) G G (At G) G G<|Cp 0 G fun bO=>?_;exact BZ 0 (us:=(A3 a Uj)) G G G (At G) (by simp only[List.all_cons,List.all_nil,Bool.and_true,bO];rfl) G<|U 1 G<|Ac<|rt<|D8 Uj [_,_] (Fp 0 G G G G (At G)) (by rfl) G (Ad 0 G Aa)
theorem Akf(Z:AD×Int)(AW:OA a=Z)(C6:a.wf):Aw AG 98 [.agg (A3 a Cw).toArray] [] [⟨Cw,a.A0⟩] (fun(y:Value) u=>u=.tuple #[.agg (A3 Z.1 y).toArray,.int .i64 Z.2]) (fun _ _=>[]) (fun y _=>[⟨y,Z.1.A0⟩]):=by
 refine Aw.proof Tryz.func98 G 12 G G fun X w=>DJ (α:=BD) ?_;refine HP (q:=∀x∈a.A0,x.wf) (fun S w h=>O7 (s:=MN) (h _ (List.mem_of_getElem? (i:=1) G))) fun F5=>?_;have hw:D3 a:=⟨C6,F5⟩;refine Ae<|CV G G G fun CY=>CT Hd G fun Dh=>U 1 G<|Ac<|Am<|Ae<|BJ 1 (A3 a Cw) G G (At G) G G<|B0 (Ps _ _ C6) (Ar G) G (Ad 1 G Aa) G<|IH G G<|Ac<|BN G (fun F4=>?_) (fun F4=>?_)
 ·
  have Mi:E4 a=false:=(by first|exact F4|exact BS.1 F4|exact(fun q=>BS.2 q F4)|exact(fun q=>Bool.false_ne_true (F4.symm.trans q))|simpa using F4)
  have AB:((Fj,21):AD×Int)=Z:=(by rw[<-AW,OA,if_pos Mi]);subst AB;exact Ae<|Db (ps:=[]) (cs:=(A3 FX AI)) (by rfl) (by kernel_rfl) G<|BZ 0 (us:=(A3 FX AI)) G G G (At G) G G<|U 1 G<|Ac<|BA<|D8 AI [_,_] (Fp 0 G G G G (At G)) (by rfl) G (Ad 0 G Aa)
 ·
  have Mi:¬(E4 a=false):=(by first|exact F4|exact BS.1 F4|exact(fun q=>BS.2 q F4)|exact(fun q=>Bool.false_ne_true (F4.symm.trans q))|simpa using F4)
  have AB:(({a with Cn:=0},0):AD×Int)=Z:=(by rw[<-AW,OA,if_neg Mi]);subst AB;refine AZ<|Ae<|BJ 1 (A3 a Cw) G G (At G) G G<|Dm (Uy _ _ C6 (Nat.le_trans (S0 (by simpa using Mi)) (by decide))) (Ar G) G (Ad 1 G Aa) G fun XD Nr EO=>?_;subst EO;refine JO ?_;refine Cp 0 G fun kv=>?_;refine BZ 1 (us:=(A3 a XD)) G G G (At G) (by simp only[List.all_cons,List.all_nil,Bool.and_true,kv];rfl) G<|Ac<|Ae<|U 1 G<|Fi 1 G G G (A2 G) G (Da G)<|Ac<|Ae<|BJ 1 (A3 ((⟨a.Al,(⟨a.Cs.A6,a.Cs.Bc⟩:GC),a.BT,0,a.A0,(⟨a.BG.Ap,a.BG.As,a.BG.DH,a.BG.B2⟩:F_)⟩:AD)) XD) G G (At G) G G<|Cp 0 G fun kv=>?_;exact BZ 0 (us:=(A3 ((⟨a.Al,(⟨a.Cs.A6,a.Cs.Bc⟩:GC),a.BT,0,a.A0,(⟨a.BG.Ap,a.BG.As,a.BG.DH,a.BG.B2⟩:F_)⟩:AD)) XD)) G G G (At G) (by simp only[List.all_cons,List.all_nil,Bool.and_true,kv];rfl) G<|U 1 G<|Ac<|rt<|D8 XD [_,_] (Fp 0 G G G G (At G)) (by rfl) G (Ad 0 G Aa)
theorem xx(s:GC)(Z:AD×Int)(AW:Pu a s=Z)(C6:a.wf)(J8:s.wf):Aw AG 175 [.agg (A3 a Cw).toArray,.agg (Od s).toArray] [] [⟨Cw,a.A0⟩] (fun(y:Value) u=>u=.tuple #[.agg (A3 Z.1 y).toArray,.int .i64 Z.2]) (fun _ _=>[]) (fun y _=>[⟨y,Z.1.A0⟩]):=by
 refine Aw.proof Tryz.func175 G 24 G G fun X w=>DJ (α:=BD) ?_;refine HP (q:=∀x∈a.A0,x.wf) (fun S w h=>O7 (s:=MN) (h _ (List.mem_of_getElem? (i:=1) G))) fun F5=>?_;have hw:D3 a:=⟨C6,F5⟩;refine Ae<|CV G G G fun Dh=>CV G G G fun DQ=>CT Hd G fun En=>U 1 G<|Ac<|Am<|Ae<|BJ 2 (A3 a Cw) G G (At G) G G<|B0 (qQ _ _ C6) (Ar G) G (Ad 1 G Aa) G<|U 1 G<|Ac<|AF 2 G<|Fa G (fun Dq=>?_) (fun Dq=>?_)
 ·
  have Ni:¬LJ a=0:=(by first|exact Dq|exact BS.1 Dq|exact(fun q=>BS.2 q Dq)|exact(fun q=>Bool.false_ne_true (Dq.symm.trans q))|simpa using Dq)
  have AB:((Fj,LJ a):AD×Int)=Z:=(by rw[<-AW,Pu,if_pos Ni]);subst AB;exact Ae<|Db (ps:=[]) (cs:=(A3 FX AI)) (by rfl) (by kernel_rfl) G<|An G G<|BZ 0 (us:=(A3 FX AI)) G G G (At G) G G<|U 1 G<|Ac<|BA<|D8 AI [_,_,_] (Fp 0 G G G G (At G)) (by rfl) G (Ad 0 G Aa)
 ·
  have Ni:¬(¬LJ a=0):=(by first|exact Dq|exact BS.1 Dq|exact(fun q=>BS.2 q Dq)|exact(fun q=>Bool.false_ne_true (Dq.symm.trans q))|simpa using Dq)
  refine AZ<|Am<|Ae<|BJ 1 (Od s) G G (At G) G G<|AX 2 [2] G G<|B0 (jd _ _ J8 C6.2.2.1) (Ar G) G Aa G<|IH G G<|Ac<|BN G (fun DA=>?_) (fun DA=>?_)
  ·
   have O_:Rb s a.BT=false:=(by first|exact DA|exact BS.1 DA|exact(fun q=>BS.2 q DA)|exact(fun q=>Bool.false_ne_true (DA.symm.trans q))|simpa using DA)
   have AB:((Fj,150):AD×Int)=Z:=(by rw[<-AW,Pu,if_neg Ni,if_pos O_]);subst AB;exact Ae<|Db (ps:=[]) (cs:=(A3 FX AI)) (by rfl) (by kernel_rfl) G<|BZ 0 (us:=(A3 FX AI)) G G G (At G) G G<|U 1 G<|Ac<|BA<|D8 AI [_,_,_] (Fp 0 G G G G (At G)) (by rfl) G (Ad 0 G Aa)
  ·
   have O_:¬(Rb s a.BT=false):=(by first|exact DA|exact BS.1 DA|exact(fun q=>BS.2 q DA)|exact(fun q=>Bool.false_ne_true (DA.symm.trans q))|simpa using DA)
   have AB:(({a with Cs:=s},0):AD×Int)=Z:=(by rw[<-AW,Pu,if_neg Ni,if_neg O_]);subst AB;refine AZ<|Ae<|BJ 2 (A3 a Cw) G G (At G) G G<|Dm (Uy _ _ C6 (Nat.le_trans (S0 (by have q:=Ni;simp only[Classical.not_not]at q;exact(Ada q))) (by decide))) (Ar G) G (Ad 1 G Aa) G fun gO v20 HQ=>?_;subst HQ;refine JO ?_;refine Cp 0 G fun kt=>?_;refine BZ 2 (us:=(A3 a gO)) G G G (At G) (by simp only[List.all_cons,List.all_nil,Bool.and_true,kt];rfl) G<|Ac<|Ae<|BJ 1 (Od s) G G (At G) G G<|U 1 G<|stM 2 (us:=(Od s)) G G G (At G) G (Nat.le_of_ble_eq_true G)<|Ac<|Ae<|BJ 2 (A3 ((⟨a.Al,s,a.BT,a.Cn,a.A0,(⟨a.BG.Ap,a.BG.As,a.BG.DH,a.BG.B2⟩:F_)⟩:AD)) gO) G G (At G) G G<|Cp 0 G fun kt=>?_;exact BZ 0 (us:=(A3 ((⟨a.Al,s,a.BT,a.Cn,a.A0,(⟨a.BG.Ap,a.BG.As,a.BG.DH,a.BG.B2⟩:F_)⟩:AD)) gO)) G G G (At G) (by simp only[List.all_cons,List.all_nil,Bool.and_true,kt];rfl) G<|U 1 G<|Ac<|rt<|D8 gO [_,_,_] (Fp 0 G G G G (At G)) (by rfl) G (Ad 0 G Aa)
theorem Aj5(l:F_)(Z:AD×Int)(AW:KA a l=Z)(C6:a.wf)(i_:l.wf):Aw AG 178 [.agg (A3 a Cw).toArray,.agg (Lx l).toArray] [] [⟨Cw,a.A0⟩] (fun(y:Value) u=>u=.tuple #[.agg (A3 Z.1 y).toArray,.int .i64 Z.2]) (fun _ _=>[]) (fun y _=>[⟨y,Z.1.A0⟩]):=by
 refine Aw.proof Tryz.func178 G 31 G G fun X w=>DJ (α:=BD) ?_;refine HP (q:=∀x∈a.A0,x.wf) (fun S w h=>O7 (s:=MN) (h _ (List.mem_of_getElem? (i:=1) G))) fun F5=>?_;have hw:D3 a:=⟨C6,F5⟩;refine Ae<|CV G G G fun Dh=>CV G G G fun DQ=>CT Hd G fun En=>U 1 G<|Ac<|Am<|Ae<|BJ 2 (A3 a Cw) G G (At G) G G<|B0 (Ps _ _ C6) (Ar G) G (Ad 1 G Aa) G<|IH G G<|Ac<|BN G (fun EO=>?_) (fun EO=>?_)
 ·
  have W6:E4 a=false:=(by first|exact EO|exact BS.1 EO|exact(fun q=>BS.2 q EO)|exact(fun q=>Bool.false_ne_true (EO.symm.trans q))|simpa using EO)
  have AB:((Fj,21):AD×Int)=Z:=(by rw[<-AW,KA,if_pos W6]);subst AB;exact Ae<|Db (ps:=[]) (cs:=(A3 FX AI)) (by rfl) (by kernel_rfl) G<|BZ 0 (us:=(A3 FX AI)) G G G (At G) G G<|U 1 G<|Ac<|BA<|D8 AI [_,_,_] (Fp 0 G G G G (At G)) (by rfl) G (Ad 0 G Aa)
 ·
  have W6:¬(E4 a=false):=(by first|exact EO|exact BS.1 EO|exact(fun q=>BS.2 q EO)|exact(fun q=>Bool.false_ne_true (EO.symm.trans q))|simpa using EO)
  refine AZ<|Am<|Ae<|BJ 1 (Lx l) G G (At G) G G<|B0 (qO _ i_) (Ar G) G Aa G<|IH G G<|Ac<|BN G (fun Dp=>?_) (fun Dp=>?_)
  ·
   have HJ:Sk l=false:=(by first|exact Dp|exact BS.1 Dp|exact(fun q=>BS.2 q Dp)|exact(fun q=>Bool.false_ne_true (Dp.symm.trans q))|simpa using Dp)
   have AB:((Fj,1):AD×Int)=Z:=(by rw[<-AW,KA,if_neg W6,if_pos HJ]);subst AB;exact Ae<|Db (ps:=[]) (cs:=(A3 FX AI)) (by rfl) (by kernel_rfl) G<|BZ 0 (us:=(A3 FX AI)) G G G (At G) G G<|U 1 G<|Ac<|BA<|D8 AI [_,_,_] (Fp 0 G G G G (At G)) (by rfl) G (Ad 0 G Aa)
  ·
   have HJ:¬(Sk l=false):=(by first|exact Dp|exact BS.1 Dp|exact(fun q=>BS.2 q Dp)|exact(fun q=>Bool.false_ne_true (Dp.symm.trans q))|simpa using Dp)
   refine AZ<|Am<|Ae<|BJ 2 (A3 a Cw) G G (At G) G G<|B0 (qQ _ _ C6) (Ar G) G (Ad 1 G Aa) G<|U 1 G<|Ac<|AF 2 G<|Fa G (fun ER=>?_) (fun ER=>?_)
   ·
    have Nj:¬LJ a=0:=(by first|exact ER|exact BS.1 ER|exact(fun q=>BS.2 q ER)|exact(fun q=>Bool.false_ne_true (ER.symm.trans q))|simpa using ER)
    have AB:((Fj,LJ a):AD×Int)=Z:=(by rw[<-AW,KA,if_neg W6,if_neg HJ,if_pos Nj]);subst AB;exact Ae<|Db (ps:=[]) (cs:=(A3 FX AI)) (by rfl) (by kernel_rfl) G<|An G G<|BZ 0 (us:=(A3 FX AI)) G G G (At G) G G<|U 1 G<|Ac<|BA<|D8 AI [_,_,_] (Fp 0 G G G G (At G)) (by rfl) G (Ad 0 G Aa)
   ·
    have Nj:¬(¬LJ a=0):=(by first|exact ER|exact BS.1 ER|exact(fun q=>BS.2 q ER)|exact(fun q=>Bool.false_ne_true (ER.symm.trans q))|simpa using ER)
    refine AZ<|Am<|Ae<|BJ 2 (A3 a Cw) G G (At G) G G<|BJ 1 (Lx l) G G (At G) G G<|B0 (oX _ _ _ C6 i_) (Ar G) G (Ad 1 G Aa) G<|IH G G<|Ac<|BN G (fun F3=>?_) (fun F3=>?_)
    ·
     have MJ:UJ a l=false:=(by first|exact F3|exact BS.1 F3|exact(fun q=>BS.2 q F3)|exact(fun q=>Bool.false_ne_true (F3.symm.trans q))|simpa using F3)
     have AB:((Fj,150):AD×Int)=Z:=(by rw[<-AW,KA,if_neg W6,if_neg HJ,if_neg Nj,if_pos MJ]);subst AB;exact Ae<|Db (ps:=[]) (cs:=(A3 FX AI)) (by rfl) (by kernel_rfl) G<|BZ 0 (us:=(A3 FX AI)) G G G (At G) G G<|U 1 G<|Ac<|BA<|D8 AI [_,_,_] (Fp 0 G G G G (At G)) (by rfl) G (Ad 0 G Aa)
    ·
     have MJ:¬(UJ a l=false):=(by first|exact F3|exact BS.1 F3|exact(fun q=>BS.2 q F3)|exact(fun q=>Bool.false_ne_true (F3.symm.trans q))|simpa using F3)
     have AB:(({a with BG:=l},0):AD×Int)=Z:=(by rw[<-AW,KA,if_neg W6,if_neg HJ,if_neg Nj,if_neg MJ]);subst AB;refine AZ<|Ae<|BJ 2 (A3 a Cw) G G (At G) G G<|Dm (Uy _ _ C6 (Nat.le_trans (S0 (by simpa using W6)) (by decide))) (Ar G) G (Ad 1 G Aa) G fun Pm N4 G4=>?_;subst G4;refine JO ?_;refine Cp 0 G fun ku=>?_;refine BZ 2 (us:=(A3 a Pm)) G G G (At G) (by simp only[List.all_cons,List.all_nil,Bool.and_true,ku];rfl) G<|Ac<|Ae<|BJ 1 (Lx l) G G (At G) G G<|U 1 G<|stM 2 (us:=(Lx l)) G G G (At G) G (Nat.le_of_ble_eq_true G)<|Ac<|Ae<|BJ 2 (A3 ((⟨a.Al,(⟨a.Cs.A6,a.Cs.Bc⟩:GC),a.BT,a.Cn,a.A0,l⟩:AD)) Pm) G G (At G) G G<|Cp 0 G fun ku=>?_;exact BZ 0 (us:=(A3 ((⟨a.Al,(⟨a.Cs.A6,a.Cs.Bc⟩:GC),a.BT,a.Cn,a.A0,l⟩:AD)) Pm)) G G G (At G) (by simp only[List.all_cons,List.all_nil,Bool.and_true,ku];rfl) G<|U 1 G<|Ac<|rt<|D8 Pm [_,_,_] (Fp 0 G G G G (At G)) (by rfl) G (Ad 0 G Aa)
theorem eo(c:Bool)(Z:AD×Int)(AW:D1 a c=Z)(C6:a.wf):Aw AG 161 [.agg (A3 a Cw).toArray,.bool c] [] [⟨Cw,a.A0⟩] (fun(y:Value) u=>u=.tuple #[.agg (A3 Z.1 y).toArray,.int .i64 Z.2]) (fun _ _=>[]) (fun y _=>[⟨y,Z.1.A0⟩]):=by
 refine Aw.proof Tryz.func161 G 27 G G fun X w=>DJ (α:=BD) ?_;refine HP (q:=∀x∈a.A0,x.wf) (fun S w h=>O7 (s:=MN) (h _ (List.mem_of_getElem? (i:=1) G))) fun F5=>?_;have hw:D3 a:=⟨C6,F5⟩;refine Ae<|CV G G G fun Dh=>CT Hd G fun En=>U 1 G<|Ac<|Am<|Ae<|BJ 1 (A3 a Cw) G G (At G) G G<|B0 (Ps _ _ C6) (Ar G) G (Ad 1 G Aa) G<|IH G G<|Ac<|BN G (fun D2=>?_) (fun D2=>?_)
 ·
  have HZ:E4 a=false:=(by first|exact D2|exact BS.1 D2|exact(fun q=>BS.2 q D2)|exact(fun q=>Bool.false_ne_true (D2.symm.trans q))|simpa using D2)
  have AB:((Fj,21):AD×Int)=Z:=(by rw[<-AW,D1,if_pos HZ]);subst AB;exact Ae<|Db (ps:=[]) (cs:=(A3 FX AI)) (by rfl) (by kernel_rfl) G<|BZ 0 (us:=(A3 FX AI)) G G G (At G) G G<|U 1 G<|Ac<|BA<|D8 AI [_,_] (Fp 0 G G G G (At G)) (by rfl) G (Ad 0 G Aa)
 ·
  have HZ:¬(E4 a=false):=(by first|exact D2|exact BS.1 D2|exact(fun q=>BS.2 q D2)|exact(fun q=>Bool.false_ne_true (D2.symm.trans q))|simpa using D2)
  refine AZ<|Am<|Ae<|BJ 1 (A3 a Cw) G G (At G) G G<|B0 (YP _ _ C6) (Ar G) G (Ad 1 G Aa) G<|IH G G<|Ac<|BN G (fun EM=>?_) (fun EM=>?_)
  ·
   have fH:G_ a=false:=(by first|exact EM|exact BS.1 EM|exact(fun q=>BS.2 q EM)|exact(fun q=>Bool.false_ne_true (EM.symm.trans q))|simpa using EM)
   have AB:((Fj,60):AD×Int)=Z:=(by rw[<-AW,D1,if_neg HZ,if_pos fH]);subst AB;exact Ae<|Db (ps:=[]) (cs:=(A3 FX AI)) (by rfl) (by kernel_rfl) G<|BZ 0 (us:=(A3 FX AI)) G G G (At G) G G<|U 1 G<|Ac<|BA<|D8 AI [_,_] (Fp 0 G G G G (At G)) (by rfl) G (Ad 0 G Aa)
  ·
   have fH:¬(G_ a=false):=(by first|exact EM|exact BS.1 EM|exact(fun q=>BS.2 q EM)|exact(fun q=>Bool.false_ne_true (EM.symm.trans q))|simpa using EM)
   refine AZ<|Ae<|BJ 1 (A3 a Cw) G G (At G) G G<|Dm (Uy _ _ C6 (Nat.le_trans (S0 (by simpa using HZ)) (by decide))) (Ar G) G (Ad 1 G Aa) G fun P0 Xk Ft=>?_;subst Ft;refine JO ?_;refine Cp 0 G fun bN=>?_;refine BZ 1 (us:=(A3 a P0)) G G G (At G) (by simp only[List.all_cons,List.all_nil,Bool.and_true,bN];rfl) G<|Ac<|Am<|Ae<|An G G<|Ac<|BN G (fun CR=>?_) (fun CR=>?_)
   ·
    have Ii:c=true:=CR;have AB:(({a with BT:=a.BT+a.BG.B2,BG:=XG},0):AD×Int)=Z:=(by rw[<-AW,D1,if_neg HZ,if_neg fH,if_pos Ii]);subst AB;have Kp:A' (a.BT+a.BG.B2):=by
     have q:=(UK hw (by rw[AW])).2.2.2.2.wf.2.2.1;rw[AW]at q;exact q
    refine rg<|AX 5 [1,1] G G<|C5 G G Kp G<|U 1 G<|Fi 1 G G G (A2 G) G (Da G)<|Ac<|Ae<|Db (ps:=[]) (cs:=(Lx PF)) (by rfl) (by kernel_rfl) G<|U 1 G<|stM 1 (us:=(Lx PF)) G G G (At G) G (Nat.le_of_ble_eq_true G)<|Ac<|Ae<|BJ 1 (A3 ((⟨a.Al,(⟨a.Cs.A6,a.Cs.Bc⟩:GC),(a.BT+a.BG.B2),a.Cn,a.A0,PF⟩:AD)) P0) G G (At G) G G<|Cp 0 G fun bN=>?_;exact BZ 0 (us:=(A3 ((⟨a.Al,(⟨a.Cs.A6,a.Cs.Bc⟩:GC),(a.BT+a.BG.B2),a.Cn,a.A0,PF⟩:AD)) P0)) G G G (At G) (by simp only[List.all_cons,List.all_nil,Bool.and_true,bN];rfl) G<|U 1 G<|Ac<|rt<|D8 P0 [_,_] (Fp 0 G G G G (At G)) (by rfl) G (Ad 0 G Aa)
   ·
    have Ii:¬c=true:=(by rw[CR];decide);have AB:(({a with BG:=XG},0):AD×Int)=Z:=(by rw[<-AW,D1,if_neg HZ,if_neg fH,if_neg Ii]);subst AB;refine AZ<|Ae<|Db (ps:=[]) (cs:=(Lx PF)) (by rfl) (by kernel_rfl) G<|U 1 G<|stM 1 (us:=(Lx PF)) G G G (At G) G (Nat.le_of_ble_eq_true G)<|Ac<|Ae<|BJ 1 (A3 ((⟨a.Al,(⟨a.Cs.A6,a.Cs.Bc⟩:GC),a.BT,a.Cn,a.A0,PF⟩:AD)) P0) G G (At G) G G<|Cp 0 G fun bN=>?_;exact BZ 0 (us:=(A3 ((⟨a.Al,(⟨a.Cs.A6,a.Cs.Bc⟩:GC),a.BT,a.Cn,a.A0,PF⟩:AD)) P0)) G G G (At G) (by simp only[List.all_cons,List.all_nil,Bool.and_true,bN];rfl) G<|U 1 G<|Ac<|rt<|D8 P0 [_,_] (Fp 0 G G G G (At G)) (by rfl) G (Ad 0 G Aa)
end Go.Apw
namespace Go.A_
open Go.RowKit
section
@[reducible] def rK:C4 where
 J:=[]
 holds _ _:=True
 valid:=by intro S w _ b Aq;cases Aq
 DY:=by intros;trivial
section
variable{c:Cj} {ops:Array Oper} {Q:AuE} {env:Env} {L:Own} {D:List Atom} {rest:List Oper} {d:Nat} {v:Value} {t:TypeId} {p:String} {af:Array Edge}
theorem AeB{l:List Oper}(k:Cb Q c ops l env (rK::L) D):Cb Q c ops l env L D:=fun a w f st AR=>
 k a w f (st.push (C8.refl _ _) trivial (by simp) (by simp)) (AR.push (C8.refl _ _) (by simp))
theorem hE(GJ:List Atom){f:FuncId}{vs us:List Value}{DB:List Atom}{v:Value}{first cap:Array Value}{x:Operand}(h:Cv c.P f us DB v)(CM:GU c.P f){xs:List Operand}{ats:Array TypeId}
 (Ab:AL env x=some (.func (.func f) first cap))(Hm:Gq env xs=some vs)(I1:first.toList++vs++cap.toList=us)(Ew:DU L GJ)(Cl:Bg DB (GJ++D))(Ao:Nat.blt d c.n=true)(k:Cb Q c ops rest ((d,v)::env) L D):
 Cb Q c ops (⟨some d,.call {callee:=.value x,args:=xs.toArray,argTypes:=ats},t,p,af,none⟩::rest) env L D:=by
 refine S4 (us:=us) (first:=first) (cap:=cap) (β:=Unit) (R:=fun _ u=>u=v) (out:=fun _ _=>D) Ab Hm I1 CM (fun _ _=>L) (fun w st AR=>?_) (fun _ u=>(d,u)::env) (fun _ u a Gw=>Gw.put u (EU Ao)) (fun _ u hu=>by subst hu;exact k)
 refine(h [] w (by simp[Own.J,Dt]) (by simp) (by simp) (fun t Av=>?_)).mono fun u AT ⟨hs,y,Fy,_⟩=>⟨(),Fy,?_,?_⟩
 · have:=ff Ew Cl st.own st.lt AR t Av;simpa[Own.J,Dt]using this
 · exact st.step (by simpa[Own.J,Dt]using hs)
 · exact AR.step (C8.nil (by simpa[Own.J,Dt]using hs))
end
section
variable{α:Type} [Inhabited α] {p:α->Bool} {xs ys:List α} {i j:Nat}
theorem gl(h:j<xs.length):xs.take (j+1)=xs.take j++[xs.getD j default]:=by
 rw[List.take_add_one];simp[List.getD,List.getElem?_eq_getElem h]
theorem om(h:j<xs.length)(AH:p (xs.getD j default)=true):(xs.take (j+1)).filter (fun x=> !p x)=(xs.take j).filter (fun x=> !p x):=by
 rw[gl h,List.filter_append,List.filter_cons_of_neg (by rw[AH];decide),List.filter_nil,List.append_nil]
theorem yB(h:j<xs.length)(AH:p (xs.getD j default)=false):(xs.take (j+1)).filter (fun x=> !p x)=(xs.take j).filter (fun x=> !p x)++[xs.getD j default]:=by
 rw[gl h,List.filter_append,List.filter_cons_of_pos (by rw[AH];decide),List.filter_nil]
theorem oj(AJ:ys.drop j=xs.drop j):ys.getD j default=xs.getD j default:=by
 have h:=congrArg (fun l=>l.head?) AJ;simp only[List.head?_drop]at h;rw[List.getD_eq_getElem?_getD,List.getD_eq_getElem?_getD,h]
theorem dU(h:∀k,k<xs.length->p (xs.getD k default)=false):xs.filter (fun x=> !p x)=xs:=
 List.filter_eq_self.2 fun x Ab=>by
  obtain⟨k,AE,rfl⟩:=List.getElem_of_mem Ab;have:=h k AE;rw[List.getD_eq_getElem?_getD,List.getElem?_eq_getElem AE]at this;simpa using this
structure Nt (p:α->Bool) (xs:List α) (s:Nat×Nat×List α):Prop where
 lt:s.1<s.2.1
 le:s.2.1<=xs.length
 len:s.2.2.length=xs.length
 gw:s.2.2.take s.1=(xs.take s.2.1).filter (fun x=> !p x)
 ou:s.2.2.drop s.2.1=xs.drop s.2.1
theorem Nt.start(Ag:i<xs.length)(h:∀k,k<i->p (xs.getD k default)=false)(AH:p (xs.getD i default)=true):Nt p xs (i,i+1,xs):=
 ⟨Nat.lt_succ_self _,Ag,rfl,by
  show xs.take i=_;rw[om Ag AH];refine(dU fun k AE=>?_).symm;rw[List.length_take]at AE;rw[List.getD_eq_getElem?_getD,List.getElem?_take,if_pos (by omega),<-List.getD_eq_getElem?_getD];exact h k (by omega),rfl⟩
theorem Nt.yes(h:Nt p xs (i,j,ys))(Ay:j<xs.length)(AH:p (ys.getD j default)=true):Nt p xs (i,j+1,ys):=
 ⟨Nat.lt_succ_of_lt h.lt,Ay,h.len,by
  rw[oj h.ou]at AH;exact h.gw.trans (om Ay AH).symm,by
  show ys.drop (j+1)=xs.drop (j+1);rw[<-List.drop_drop,<-List.drop_drop];exact congrArg (List.drop 1) h.ou⟩
theorem Nt.no(h:Nt p xs (i,j,ys))(Ay:j<xs.length)(AH:p (ys.getD j default)=false):Nt p xs (i+1,j+1,ys.set i (ys.getD j default)):=by
 obtain⟨Af,h2,Bo,BB,C'⟩:=h;simp only at Af h2 Bo BB C';have e:=oj C';refine⟨Nat.succ_lt_succ Af,Ay,by simpa using Bo,?_,?_⟩
 · show(ys.set i (ys.getD j default)).take (i+1)=_;rw[yB Ay (by rw[<-e];exact AH),<-BB,<-e];refine List.ext_getElem? fun k=>?_;by_cases AE:k<i
   · rw[List.getElem?_take,if_pos (by omega),List.getElem?_set_ne (by omega),List.getElem?_append_left (by rw[List.length_take];omega),List.getElem?_take,if_pos AE]
   · by_cases a3:k=i
     · subst a3;rw[List.getElem?_take,if_pos (by omega),List.getElem?_set_self (by omega),List.getElem?_append_right (by rw[List.length_take];omega),List.length_take,Nat.min_eq_left (by omega),Nat.sub_self];rfl
     · rw[List.getElem?_eq_none (by rw[List.length_take];omega),List.getElem?_eq_none (by rw[List.length_append,List.length_take];simp;omega)]
 · show(ys.set i (ys.getD j default)).drop (j+1)=xs.drop (j+1);rw[List.drop_set_of_lt (by omega),<-List.drop_drop,<-List.drop_drop];exact congrArg (List.drop 1) C'
omit [Inhabited α]in
theorem Nt.fin(h:Nt p xs (i,j,ys))(Ay:¬j<xs.length):ys.take i=xs.filter (fun x=> !p x):=by
 have e:j=xs.length:=by have:=h.le;simp only at this;omega
 subst e;have:=h.gw;simp only[List.take_length]at this;exact this
end
end
end Go.A_
namespace Go.Apw
theorem AcH(CP:Value)(l:List BD)(f:Nat)(D0:Array Value)(A:List Atom)(p:BD->Bool)(CM:GU AG f)(E5:∀(x:BD),x.wf->Cv AG f (.agg (JH x).toArray::D0.toList) (A) (.bool (p x))):Cv AG 293 [CP,.func (.func f) #[] D0] (⟨CP,l⟩::A) (.int .i64 (HI (Gd l.length (fun j=>p (l.getD j default))))):=by
 refine Aw.proof Tryz.func293 G 19 G G fun X w=>AF 1 G<|Am<|Ae<|An G G<|C2 0 G G Tryz.underlying69 G fun MD=>An G G<|Ac<|B5<|Ji (σ:=Nat) [(0,_),(1,_),(7,_)] _ (fun i C=>(8,.int .i64 (i:Int))::C) (fun i=>i<=l.length/\(∀j,j<i->p (l.getD j default)=false)) (fun i=>l.length-i) 0 (Bs G) (Ad 0 G (Bg.tail Br)) ⟨Nat.zero_le _,fun j Ay=>absurd Ay (Nat.not_lt_zero j)⟩ (Bs G) ?_;rintro i ⟨Ag,C0⟩;refine AF 1 G<|Am<|B9 G (fun EO=>?_) (fun EO=>?_)
 ·
  refine AZ<|Am<|B5<|AF 2 G<|Ae<|U 2 G<|An G G<|Fo 0 G G G I6 G fun PS=>Gi 0 G G (At G) G fun KR N6=>QV (E5 _ N6) CM G G G (Bg.tail (Bg.tail (Bg.tail Br))) G fun Ui Mn V4=>?_;obtain rfl:Mn=.bool (p (l.getD i default)):=V4;refine Ac<|BN G (fun CR=>?_) (fun CR=>?_)
  · exact AF 2 G<|rt<|C9<|Cd<|Cd<|C9<|Cd<|Bq () G G (by rw[Tc (j:=i) (by omega) C0 CR];try rfl) G Aa
  ·
   refine EG<|CU<|A5<|rg<|C5 G G BV G<|An G G<|nl ?_;exact Dy (i+1) ⟨(by omega),(Ki C0 (CR))⟩ (by omega) (Bs G) G (Ad 2 G (Bg.tail (Bg.tail (Bg.tail Br))))
 · exact ex<|Ck<|Ck<|D7<|A5<|AF 1 G<|rt<|Bq () G G (by rw[Tb (fun k AE=>C0 k (by omega))];try rfl) G Aa
theorem qo(CP:Value)(l:List AD)(f:Nat)(D0:Array Value)(A:List Atom)(p:AD->Bool)(CM:GU AG f)(E5:∀(x:AD) (KW:Value),x.wf->Cv AG f (.agg (A3 x KW).toArray::D0.toList) (⟨KW,x.A0⟩::A) (.bool (p x))):Cv AG 198 [CP,.func (.func f) #[] D0] (⟨CP,l⟩::A) (.int .i64 (HI (Gd l.length (fun j=>p (l.getD j default))))):=by
 refine Aw.proof Tryz.func198 G 19 G G fun X w=>AF 1 G<|Am<|Ae<|An G G<|C2 0 G G Tryz.underlying22 G fun MD=>An G G<|Ac<|B5<|Ji (σ:=Nat) [(0,_),(1,_),(7,_)] _ (fun i C=>(8,.int .i64 (i:Int))::C) (fun i=>i<=l.length/\(∀j,j<i->p (l.getD j default)=false)) (fun i=>l.length-i) 0 (Bs G) (Ad 0 G (Bg.tail Br)) ⟨Nat.zero_le _,fun j Ay=>absurd Ay (Nat.not_lt_zero j)⟩ (Bs G) ?_;rintro i ⟨Ag,C0⟩;refine AF 1 G<|Am<|B9 G (fun EO=>?_) (fun EO=>?_)
 ·
  refine AZ<|Am<|B5<|AF 2 G<|Ae<|U 2 G<|An G G<|Fo 0 G G G Gt G fun PS=>Gi 0 G G (At G) G fun KR N6=>QV (E5 _ _ N6) CM G G G (Ad 1 G (Bg.tail (Bg.tail (Bg.tail (Bg.tail Br))))) G fun Ui Mn V4=>?_;obtain rfl:Mn=.bool (p (l.getD i default)):=V4;refine Ac<|BN G (fun CR=>?_) (fun CR=>?_)
  · exact AF 2 G<|rt<|C9<|Cd<|Cd<|C9<|Cd<|Bq () G G (by rw[Tc (j:=i) (by omega) C0 CR];try rfl) G Aa
  ·
   refine EG<|CU<|A5<|rg<|C5 G G BV G<|An G G<|nl ?_;exact Dy (i+1) ⟨(by omega),(Ki C0 (CR))⟩ (by omega) (Bs G) G (Ad 3 G (Bg.tail (Bg.tail (Bg.tail (Bg.tail Br)))))
 · exact ex<|Ck<|Ck<|D7<|A5<|AF 1 G<|rt<|Bq () G G (by rw[Tb (fun k AE=>C0 k (by omega))];try rfl) G Aa
theorem kR{α:Type}[Inhabited α]{xs:List α}{p:α->Bool}(h:HI (Gd xs.length (fun j=>p (xs.getD j default)))= -1):∀k,k<xs.length->p (xs.getD k default)=false:=fun k AE=>by
 cases e:Gd xs.length (fun j=>p (xs.getD j default))with
 |none=>
  have:=List.find?_range_eq_none.1 e k AE;simpa using this
 |some j=>
  rw[e]at h;simp only[HI]at h;omega
theorem kS{α:Type}[Inhabited α]{xs:List α}{p:α->Bool}(h:¬HI (Gd xs.length (fun j=>p (xs.getD j default)))= -1):∃i,i<xs.length/\(∀k,k<i->p (xs.getD k default)=false)/\p (xs.getD i default)=true/\HI (Gd xs.length (fun j=>p (xs.getD j default)))=(i:Int):=by
 cases e:Gd xs.length (fun j=>p (xs.getD j default))with
 |none=>rw[e]at h;exact absurd rfl h
 |some i=>
  obtain⟨Af,h2,Bo⟩:=List.find?_range_eq_some.1 e;exact⟨i,List.mem_range.1 h2,fun k AE=>by simpa using Bo k AE,Af,G⟩
theorem yy(v:Value)(xs:List BD)(f:Nat)(D0:Array Value)(A GJ:List Atom)(q:C4)(p:BD->Bool)(AN:∀(L:Go.A_.Own) (i:Nat),L[i]? =some q->DU L GJ)(CM:GU AG f)(E5:∀(x:BD),x.wf->Cv AG f (.agg (JH x).toArray::D0.toList) ((GJ++A)) (.bool (p x))):Aw AG 241 [v,.func (.func f) #[] D0] [@row BD Mj 83 v xs,q] A (fun(_:Unit) _=>True) (fun _ u=>[@row BD Mj 83 u (xs.filter (fun x=> !p x)),q]) (fun _ _=>[]):=by
 refine Aw.proof Tryz.func241 G 42 G G fun X w=>AF 1 G<|Ae<|U 2 G<|P6 (⟨v,xs⟩::GJ) (AcH v xs f D0 (GJ++A) p CM E5) (Ar G) G (DU.row 0 G (AN _ 1 G)) Br G<|U 1 G<|Ac<|Am<|AF 2 G<|B9 G (fun EM=>?_) (fun EM=>?_)
 ·
  have Ao:∀k,k<xs.length->p (xs.getD k default)=false:=fun k AE=>kR EM k AE;have Ab:xs.filter (fun x=> !p x)=xs:=dU Ao;exact AF 2 G<|BA<|Bq () G G trivial (by rw[Ab]) Aa
 ·
  obtain⟨i0,OW,Tp,Jf,aZ⟩:=kS EM;rw[aZ];refine Sw 0 G (show 0<xs.length by omega) fun HO cap BC Kn ID=>?_;subst BC;have UZ:cap<=9223372036854775807:=ID;refine AZ<|Am<|Ae<|An G G<|Hf (r:=((i0+1:Nat):Int)) G G (by omega) (BV (by omega) (by simp only[maxLen]at ID;omega)) G<|U 1 G<|Ac<|B5<|Hx (σ:=Nat×Nat×List BD) [(0,_),(1,_)] _ (fun s C=>(5,.int .i64 (s.1:Int))::(6,.int .i64 (s.2.1:Int))::C) (fun s=>[@row BD Mj 83 (.slice (some ⟨HO,0,none⟩) xs.length cap) s.2.2,q,CL X w]) (fun _ Dw=>Dw) (fun s=>Nt p xs s) (fun s=>xs.length-s.2.1) (i0,i0+1,xs) (Bs G) Br (Nt.start OW Tp Jf) (Bs G) G Br ?_;rintro⟨i,j,ys⟩ DK;have Wi:=DK.lt;have aK:=DK.le;have aL:=DK.len;simp only at Wi aK aL;show CF _ _ _ [(5,.int .i64 ((i:Int))),(6,.int .i64 ((j:Int))),(0,_),(1,_)] [@row BD Mj 83 (.slice (some ⟨HO,0,none⟩) xs.length cap) ys,q,CL X w] _;refine Am<|Ae<|U 2 G<|JX 0 G G Tryz.underlying69 G fun qU=>U 1 G<|Ac<|B9 G (fun Fe=>?_) (fun Fe=>?_)
  ·
   refine AZ<|Am<|B5<|Ae<|U 2 G<|IF 0 (j) G G G I6 (by omega) (by omega) G<|Qk (s:=MN) 0 (j) G G JP (At G) G fun PL Vs=>CT Um G fun Jo=>BZ 0 (us:=(JH ((ys.getD (j) default)))) G G G (At G) G G<|Ac<|Ae<|An G G<|BJ 0 (JH ((ys.getD (j) default))) G G (At G) G G ?_;refine hE GJ (E5 _ Vs) CM G G G (AN _ 2 G) (fun t Av=>by
    rcases List.mem_append.1 Av with Av|Av
    · exact List.mem_append_left _ Av
    · exact List.mem_append_right _ ((Bg.tail Br) t Av)) G ?_
   refine IH G G<|Ac<|BN G (fun G5=>?_) (fun G5=>?_)
   ·
    refine Ae<|U 2 G<|BJ 0 (JH ((ys.getD (j) default))) G G (At G) G G<|IF 1 (i) G G G I6 (by omega) (by omega) G<|Qz (s:=MN) 1 (i) (ov:=(ys.getD (j) default)) () G G G (by omega) (At G) Aa Vs<|Ac<|rg<|An G G<|Hf (r:=((i+1:Nat):Int)) G G (by omega) (BV (by omega) (by simp only[maxLen]at ID;omega)) G<|U 1 G<|nl<|CU<|A5<|rg<|An G G<|Hf (r:=((j+1:Nat):Int)) G G (by omega) (BV (by omega) (by simp only[maxLen]at ID;omega)) G<|U 1 G<|nl<|AQ ?_;exact Dy ((i+1,j+1,ys.set i (ys.getD j default)):Nat×Nat×List BD) (DK.no (by omega) (by simpa using G5)) (by show xs.length-(j+1)<xs.length-j;omega) (Bs G) G (Bg.tail Br)
   ·
    refine EG<|CU<|A5<|rg<|An G G<|Hf (r:=((j+1:Nat):Int)) G G (by omega) (BV (by omega) (by simp only[maxLen]at ID;omega)) G<|U 1 G<|nl<|AQ ?_;exact Dy ((i,j+1,ys):Nat×Nat×List BD) (DK.yes (by omega) (by simpa using G5)) (by show xs.length-(j+1)<xs.length-j;omega) (Bs G) G (Bg.tail Br)
  ·
   have G7:=DK.fin (by omega);refine ex<|Ck<|Ck<|D7<|A5<|Ae<|U 2 G<|H2 G I6 G (by omega) Kn G<|hK 0 i G (by omega) ?_;rw[G7];have FF:=congrArg List.length G7;rw[List.length_take]at FF;exact Z' 0 G G S1 Um G (by omega) (by omega) Kn (fun a f=>f.Su _)<|Ac<|Ae<|U 2 G<|PO G I6 G (by omega) G<|U 1 G<|Ac<|rt<|Bq () G G trivial G Aa
theorem yz(v:Value)(xs:List BX)(f:Nat)(D0:Array Value)(A GJ:List Atom)(q:C4)(p:BX->Bool)(AN:∀(L:Go.A_.Own) (i:Nat),L[i]? =some q->DU L GJ)(CM:GU AG f)(E5:∀(x:BX),x.wf->Cv AG f (.agg (Hh x).toArray::D0.toList) ((GJ++A)) (.bool (p x))):Aw AG 249 [v,.func (.func f) #[] D0] [@row BX Ha 50 v xs,q] A (fun(_:Unit) _=>True) (fun _ u=>[@row BX Ha 50 u (xs.filter (fun x=> !p x)),q]) (fun _ _=>[]):=by
 refine Aw.proof Tryz.func249 G 42 G G fun X w=>AF 1 G<|Ae<|U 2 G<|P6 (⟨v,xs⟩::GJ) (jR v xs f D0 (GJ++A) p CM E5) (Ar G) G (DU.row 0 G (AN _ 1 G)) Br G<|U 1 G<|Ac<|Am<|AF 2 G<|B9 G (fun EM=>?_) (fun EM=>?_)
 ·
  have Ao:∀k,k<xs.length->p (xs.getD k default)=false:=fun k AE=>kR EM k AE;have Ab:xs.filter (fun x=> !p x)=xs:=dU Ao;exact AF 2 G<|BA<|Bq () G G trivial (by rw[Ab]) Aa
 ·
  obtain⟨i0,OW,Tp,Jf,aZ⟩:=kS EM;rw[aZ];refine Sw 0 G (show 0<xs.length by omega) fun HO cap BC Kn ID=>?_;subst BC;have UZ:cap<=9223372036854775807:=ID;refine AZ<|Am<|Ae<|An G G<|Hf (r:=((i0+1:Nat):Int)) G G (by omega) (BV (by omega) (by simp only[maxLen]at ID;omega)) G<|U 1 G<|Ac<|B5<|Hx (σ:=Nat×Nat×List BX) [(0,_),(1,_)] _ (fun s C=>(5,.int .i64 (s.1:Int))::(6,.int .i64 (s.2.1:Int))::C) (fun s=>[@row BX Ha 50 (.slice (some ⟨HO,0,none⟩) xs.length cap) s.2.2,q,CL X w]) (fun _ Dw=>Dw) (fun s=>Nt p xs s) (fun s=>xs.length-s.2.1) (i0,i0+1,xs) (Bs G) Br (Nt.start OW Tp Jf) (Bs G) G Br ?_;rintro⟨i,j,ys⟩ DK;have Wi:=DK.lt;have aK:=DK.le;have aL:=DK.len;simp only at Wi aK aL;show CF _ _ _ [(5,.int .i64 ((i:Int))),(6,.int .i64 ((j:Int))),(0,_),(1,_)] [@row BX Ha 50 (.slice (some ⟨HO,0,none⟩) xs.length cap) ys,q,CL X w] _;refine Am<|Ae<|U 2 G<|JX 0 G G Tryz.underlying24 G fun qU=>U 1 G<|Ac<|B9 G (fun Fe=>?_) (fun Fe=>?_)
  ·
   refine AZ<|Am<|B5<|Ae<|U 2 G<|IF 0 (j) G G G N0 (by omega) (by omega) G<|Qk (s:=Zf) 0 (j) G G JP (At G) G fun PL Vs=>CT SM G fun Jo=>BZ 0 (us:=(Hh ((ys.getD (j) default)))) G G G (At G) G G<|Ac<|Ae<|An G G<|BJ 0 (Hh ((ys.getD (j) default))) G G (At G) G G ?_;refine hE GJ (E5 _ Vs) CM G G G (AN _ 2 G) (fun t Av=>by
    rcases List.mem_append.1 Av with Av|Av
    · exact List.mem_append_left _ Av
    · exact List.mem_append_right _ ((Bg.tail Br) t Av)) G ?_
   refine IH G G<|Ac<|BN G (fun G5=>?_) (fun G5=>?_)
   ·
    refine Ae<|U 2 G<|BJ 0 (Hh ((ys.getD (j) default))) G G (At G) G G<|IF 1 (i) G G G N0 (by omega) (by omega) G<|Qz (s:=Zf) 1 (i) (ov:=(ys.getD (j) default)) () G G G (by omega) (At G) Aa Vs<|Ac<|rg<|An G G<|Hf (r:=((i+1:Nat):Int)) G G (by omega) (BV (by omega) (by simp only[maxLen]at ID;omega)) G<|U 1 G<|nl<|CU<|A5<|rg<|An G G<|Hf (r:=((j+1:Nat):Int)) G G (by omega) (BV (by omega) (by simp only[maxLen]at ID;omega)) G<|U 1 G<|nl<|AQ ?_;exact Dy ((i+1,j+1,ys.set i (ys.getD j default)):Nat×Nat×List BX) (DK.no (by omega) (by simpa using G5)) (by show xs.length-(j+1)<xs.length-j;omega) (Bs G) G (Bg.tail Br)
   ·
    refine EG<|CU<|A5<|rg<|An G G<|Hf (r:=((j+1:Nat):Int)) G G (by omega) (BV (by omega) (by simp only[maxLen]at ID;omega)) G<|U 1 G<|nl<|AQ ?_;exact Dy ((i,j+1,ys):Nat×Nat×List BX) (DK.yes (by omega) (by simpa using G5)) (by show xs.length-(j+1)<xs.length-j;omega) (Bs G) G (Bg.tail Br)
  ·
   have G7:=DK.fin (by omega);refine ex<|Ck<|Ck<|D7<|A5<|Ae<|U 2 G<|H2 G N0 G (by omega) Kn G<|hK 0 i G (by omega) ?_;rw[G7];have FF:=congrArg List.length G7;rw[List.length_take]at FF;exact Z' 0 G G Mt SM G (by omega) (by omega) Kn (fun a f=>f.Su _)<|Ac<|Ae<|U 2 G<|PO G N0 G (by omega) G<|U 1 G<|Ac<|rt<|Bq () G G trivial G Aa
theorem oh(v:Value)(xs:List AD)(f:Nat)(D0:Array Value)(A GJ:List Atom)(q:C4)(p:AD->Bool)(AN:∀(L:Go.A_.Own) (i:Nat),L[i]? =some q->DU L GJ)(CM:GU AG f)(E5:∀(x:AD) (KW:Value),x.wf->Cv AG f (.agg (A3 x KW).toArray::D0.toList) (⟨KW,x.A0⟩::(GJ++A)) (.bool (p x))):Aw AG 101 [v,.func (.func f) #[] D0] [@row AD GR 73 v xs,q] A (fun(_:Unit) _=>True) (fun _ u=>[@row AD GR 73 u (xs.filter (fun x=> !p x)),q]) (fun _ _=>[]):=by
 refine Aw.proof Tryz.func101 G 42 G G fun X w=>AF 1 G<|Ae<|U 2 G<|P6 (⟨v,xs⟩::GJ) (qo v xs f D0 (GJ++A) p CM E5) (Ar G) G (DU.row 0 G (AN _ 1 G)) Br G<|U 1 G<|Ac<|Am<|AF 2 G<|B9 G (fun EM=>?_) (fun EM=>?_)
 ·
  have Ao:∀k,k<xs.length->p (xs.getD k default)=false:=fun k AE=>kR EM k AE;have Ab:xs.filter (fun x=> !p x)=xs:=dU Ao;exact AF 2 G<|BA<|Bq () G G trivial (by rw[Ab]) Aa
 ·
  obtain⟨i0,OW,Tp,Jf,aZ⟩:=kS EM;rw[aZ];refine Sw 0 G (show 0<xs.length by omega) fun HO cap BC Kn ID=>?_;subst BC;have UZ:cap<=9223372036854775807:=ID;refine AZ<|Am<|Ae<|An G G<|Hf (r:=((i0+1:Nat):Int)) G G (by omega) (BV (by omega) (by simp only[maxLen]at ID;omega)) G<|U 1 G<|Ac<|B5<|Hx (σ:=Nat×Nat×List AD) [(0,_),(1,_)] _ (fun s C=>(5,.int .i64 (s.1:Int))::(6,.int .i64 (s.2.1:Int))::C) (fun s=>[@row AD GR 73 (.slice (some ⟨HO,0,none⟩) xs.length cap) s.2.2,q,CL X w]) (fun _ Dw=>Dw) (fun s=>Nt p xs s) (fun s=>xs.length-s.2.1) (i0,i0+1,xs) (Bs G) Br (Nt.start OW Tp Jf) (Bs G) G Br ?_;rintro⟨i,j,ys⟩ DK;have Wi:=DK.lt;have aK:=DK.le;have aL:=DK.len;simp only at Wi aK aL;show CF _ _ _ [(5,.int .i64 ((i:Int))),(6,.int .i64 ((j:Int))),(0,_),(1,_)] [@row AD GR 73 (.slice (some ⟨HO,0,none⟩) xs.length cap) ys,q,CL X w] _;refine Am<|Ae<|U 2 G<|JX 0 G G Tryz.underlying22 G fun qU=>U 1 G<|Ac<|B9 G (fun Fe=>?_) (fun Fe=>?_)
  ·
   refine AZ<|Am<|B5<|Ae<|U 2 G<|IF 0 (j) G G G Gt (by omega) (by omega) G<|Qk (s:=Nn) 0 (j) G G JP (At G) G fun PL Vs=>CT Hd G fun Jo=>Cp 1 G fun AeZ=>?_;refine BZ 0 (us:=(A3 ((ys.getD (j) default)) PL)) G G G (At G) (by simp only[List.all_cons,List.all_nil,Bool.and_true,AeZ];rfl) G<|Ac<|Ae<|An G G<|BJ 0 (A3 ((ys.getD (j) default)) PL) G G (At G) G G ?_;refine hE GJ (E5 _ _ Vs) CM G G G (AN _ 2 G) (fun t Av=>by
    rcases List.mem_cons.1 Av with rfl|Av
    · exact List.mem_append_right _ (List.mem_of_getElem? (i:=1) G)
    ·
     rcases List.mem_append.1 Av with Av|Av
     · exact List.mem_append_left _ Av
     · exact List.mem_append_right _ ((Bg.tail (Bg.tail Br)) t Av)) G ?_
   refine IH G G<|Ac<|BN G (fun G5=>?_) (fun G5=>?_)
   ·
    refine Ae<|U 2 G<|BJ 0 (A3 ((ys.getD (j) default)) PL) G G (At G) G G<|IF 1 (i) G G G Gt (by omega) (by omega) G<|Qz (s:=Nn) 1 (i) (ov:=(ys.getD (j) default)) PL G G G (by omega) (At G) (Ad 1 G Aa) Vs<|Ac<|rg<|An G G<|Hf (r:=((i+1:Nat):Int)) G G (by omega) (BV (by omega) (by simp only[maxLen]at ID;omega)) G<|U 1 G<|nl<|CU<|A5<|rg<|An G G<|Hf (r:=((j+1:Nat):Int)) G G (by omega) (BV (by omega) (by simp only[maxLen]at ID;omega)) G<|U 1 G<|nl<|AQ ?_;exact Dy ((i+1,j+1,ys.set i (ys.getD j default)):Nat×Nat×List AD) (DK.no (by omega) (by simpa using G5)) (by show xs.length-(j+1)<xs.length-j;omega) (Bs G) G (Bg.tail (Bg.tail Br))
   ·
    refine EG<|CU<|A5<|rg<|An G G<|Hf (r:=((j+1:Nat):Int)) G G (by omega) (BV (by omega) (by simp only[maxLen]at ID;omega)) G<|U 1 G<|nl<|AQ ?_;exact Dy ((i,j+1,ys):Nat×Nat×List AD) (DK.yes (by omega) (by simpa using G5)) (by show xs.length-(j+1)<xs.length-j;omega) (Bs G) G (Bg.tail (Bg.tail Br))
  ·
   have G7:=DK.fin (by omega);refine ex<|Ck<|Ck<|D7<|A5<|Ae<|U 2 G<|H2 G Gt G (by omega) Kn G<|hK 0 i G (by omega) ?_;rw[G7];have FF:=congrArg List.length G7;rw[List.length_take]at FF;exact Z' 0 G G OI Hd G (by omega) (by omega) Kn (fun a f=>f.Su _)<|Ac<|Ae<|U 2 G<|PO G Gt G (by omega) G<|U 1 G<|Ac<|rt<|Bq () G G trivial G Aa
end Go.Apw
