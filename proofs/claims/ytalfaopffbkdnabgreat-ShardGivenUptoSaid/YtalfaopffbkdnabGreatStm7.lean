/- Part 7 of shardGiven_holds. -/
import Derived.Lib.AppendZeros
import Derived.Test.YtalfaopffbkdnabGreatStm6

set_option maxRecDepth 20000
set_option maxHeartbeats 1000000
namespace Go
theorem ACn:∀{α:Type _} {l:List α} {i:Nat} {a:α},List.getD l i a=Option.getD l[i]? a:=@List.getD_eq_getElem?_getD
end Go
open Go renaming cell_of_row→AB9
open Go.Addr renaming add_mid→ACm
open Go.Result renaming andThen_ok→AB'
open Go.Sem renaming run_bind→ABY
open Go.Value.slice renaming injEq→ADw
open List renaming all_eq_true→ABq,getElem_of_mem→AC8,getElem_set→ADQ,length_drop→ACt,length_set→ABj,mem_append_left→AC9,mem_append_right→ACV,pairwise_iff_getElem→ACW,take_append_drop→ADT
open Option renaming map_eq_some_iff→ACr
open Option.some renaming injEq→ABX
open Go.A_
namespace Go.A_
section
section
variable{α:Type} [Inhabited α]
variable(lt:α->α->Bool)
def search(f:Nat->Bool):Nat->Nat->Nat->Nat
 |0,i,_=>i
 |n+1,i,j=>if i<j then(if f ((i+j) / 2)=true then search f n ((i+j) / 2+1) j else search f n i ((i+j) / 2))else i
theorem lI(f:Nat->Bool):∀(n i j:Nat),i<=j->i<=search f n i j/\search f n i j<=j
 |0,i,j,h=>⟨ABW _,h⟩
 |n+1,i,j,h=>by
  rw[search];split
  · rename_i Ag;split
    · have:=lI f n ((i+j) / 2+1) j AJv;omega
    · have:=lI f n i ((i+j) / 2) AJv;omega
  · omega
theorem lG(f:Nat->Bool)(n i j:Nat)(h:j<=i):search f n i j=i:=by
 cases n
 · rfl
 · rw[search,AA9 AJv]
end
end
open Go.RowKit
section
theorem AiH{α:Type}{s:Shape α}{c:Cj}{w AT:World}{L:Own}{D:List Atom}(i m:Nat){xs:List α}{ov:α}{e:TypeId}{g cap:Nat}{cs:List Value}(h:s.H)(Ag:L[i]? =some (@row α (Be.D5 s) e (.slice (some ⟨g,0,none⟩) xs.length cap) xs))(hm:m<xs.length)(Cl:Bg (s.sub ov h) D)(hw:s.wf ov)
 (st:CI c.BW c.M w L)(AR:BP D w L)(CK:w.heap[g]? =some (.cells cs.toArray e (0,0)))(hs:C8 [g] w AT)(Mc:AT.heap[g]? =some (.cells (MO cs (m*s.size) (s.cells ov h)).toArray e (0,0))):
 CI c.BW c.M AT (L.set i (@row α (Be.D5 s) e (.slice (some ⟨g,0,none⟩) xs.length cap) (xs.set m ov)))/\BP D AT (L.set i (@row α (Be.D5 s) e (.slice (some ⟨g,0,none⟩) xs.length cap) (xs.set m ov))):=by
 have Hv:=AA' Ag;obtain⟨Hj,AmJ,yo,Cy,Rh,pF,Bm,Yt,EY,Md,Ep,hlen⟩:=@Vj α (Be.D5 s) _ _ _ _ _ (st.own _ Hv) (by intro e;rw[e]at hm;simp at hm);simp only[ADw,ABX,Addr.mk.injEq,ACs,true_and]at Rh;obtain⟨rfl,rfl⟩:=Rh;rw[CK]at pF;have I0:cs=yo:=by simpa using pF
 subst I0;have Fy:@Be.size α (Be.D5 s)=s.size:=rfl;rw[Fy]at EY Md;obtain⟨us,I1⟩:∃us,us=s.cells ov h:=⟨_,rfl⟩;have e0:us.length=s.size:=by rw[I1];exact s.len ov h
 rw[<-I1]at Mc;have P':g∈L.J:=FW.2 ⟨_,Hv,by simp[Value.ownBlock]⟩;have Sd:(m+1)*s.size<=cap*s.size:=ACw _ AJv;rw[ACX]at Sd;have Lc:∀t∈s.sub ov h,t.holds (Et L.J w) w:=fun t Av=>AR t (Cl t Av);have EX:C8 (@row α (Be.D5 s) e (.slice (some ⟨g,0,none⟩) xs.length cap) xs).J w AT:=hs.mono fun b Aq=>by simpa[Value.ownBlock]using Aq
 have UW:∀b,Et L.J w b->Et (Own.J (L.set i (@row α (Be.D5 s) e (.slice (some ⟨g,0,none⟩) xs.length cap) (xs.set m ov)))) AT b:=fun b Aq=>⟨ACp Aq.1 hs.size,fun Ab=>by
  rcases OK Ag b Ab with Af|Af
  · have:b=g:=(by simpa[Value.ownBlock]using Af);exact Aq.2 (this▸P')
  · exact Aq.2 Af⟩
 have UT:∀b,Et L.J w b->AT.heap[b]? =w.heap[b]? :=fun b Aq=>hs.block b Aq.1 (fun Ab=>by
  have:b=g:=(by simpa using Ab);exact Aq.2 (this▸P'))
 refine⟨st.KB (p':=@row α (Be.D5 s) e (.slice (some ⟨g,0,none⟩) xs.length cap) (xs.set m ov)) i Ag EX ?_ (by simp[Value.ownBlock]) (fun b Aq=>.inl Aq),AR.KB (p':=@row α (Be.D5 s) e (.slice (some ⟨g,0,none⟩) xs.length cap) (xs.set m ov)) i Ag EX (fun b Aq=>.inl Aq)⟩;have a7:∀FV MT,(xs.set m ov)[FV]? =some MT->∃Cx,@Be.rd α (Be.D5 s) (Et (Own.J (L.set i (@row α (Be.D5 s) e (.slice (some ⟨g,0,none⟩) xs.length cap) (xs.set m ov)))) AT) AT Cx MT/\Lt AT g (0+(0+FV)*s.size) Cx:=by
  intro FV MT HX;by_cases Sb:FV=m
  · subst Sb;rw[ACP hm]at HX;have:MT=ov:=(by simpa using HX.symm);subst this;refine⟨us,⟨h,I1,fun t Av=>Atom.DY (Lc t Av) UW UT,hw⟩,fun j u Ay=>?_⟩;have J9:j<us.length:=(ABF.1 Ay).1;simp only[AB0];rw[AB9 _ g _ _ e (0,0) Mc,ACA,T0 us cs _ _ AJv,AA_ AJv,show FV*s.size+j-FV*s.size=j by omega];exact Ay
  · rw[List.getElem?_set_ne (Ne.symm Sb)]at HX;obtain⟨Cx,K',OT⟩:=@PH α (Be.D5 s) _ _ _ Cy xs 0 Ep (ct CK Md) FV MT HX;have LH:Cx.length=s.size:=@Be.len α (Be.D5 s) _ _ _ _ K';refine⟨Cx,@Be.DY α (Be.D5 s) _ _ _ _ _ _ K' UW UT,fun j u Ay=>?_⟩;have J9:j<Cx.length:=(ABF.1 Ay).1;have hold:=OT j u Ay;simp only[AB0]at hold ⊢;rw[AB9 w g _ _ e (0,0) CK,ACA]at hold;rw[AB9 _ g _ _ e (0,0) Mc,ACA,T0 us cs _ _ AJv,AA9 ?_]
    · exact hold
    · rcases Nat.lt_or_gt_of_ne Sb with C_|C_
      · have:=ACw s.size (show FV+1<=m by omega);rw[ACX]at this;omega
      · have:=ACw s.size (show m+1<=FV by omega);rw[ACX]at this;omega
 obtain⟨RP,NL,Sc⟩:=@cn α (Be.D5 s) _ _ g 0 (xs.set m ov) 0 a7;have FF:=@HM.len α (Be.D5 s) _ _ RP _ NL;rw[Fy,ABj]at FF;refine⟨RP,⟨by rw[ABj];exact FF,.inr ⟨g,cap,(MO cs (m*s.size) us).toArray,by rw[ABj],ABg _,Mc,by rw[ABj];exact Bm,Yt,(show(MO cs (m*s.size) us).toArray.size=cap*s.size by simpa[cE]using EY),?_⟩⟩,NL,by rw[ABj];exact hlen⟩;rw[ABj];show List.take (xs.length*s.size) _=RP.flatten;refine List.ext_getElem? fun j=>?_;by_cases Ay:j<xs.length*s.size
 · rw[ACl,AA_ Ay];have U2:j<RP.flatten.length:=(by rw[FF];exact Ay);have:=Sc j _ (ABs U2);rw[AB9 _ g _ _ e (0,0) Mc,ACA]at this;rw[ABs U2,<-this];simp
 · rw[ACd (by simp;omega),ACd AJv]
section
variable{c:Cj} {ops:Array Oper} {AP:Cj->Array Oper->List Oper->Env->Own->List Atom->Prop} [Dr:Ip AP] {env:Env} {L:Own} {D:List Atom} {rest:List Oper} {d:Nat} {v:Value} {t:TypeId} {p:String} {af:Array Edge} {x y z:Operand} {T:TypeId}
include Dr
theorem IF{α:Type}{r:Be α}(i n:Nat){xs:List α}{m:Int}{E e:TypeId}(Ab:AL env x=some v)(Ag:L[i]? =some (@row α r e v xs))(Bf:AL env y=some (.int .i64 m))(Av:H5 c.P T E r.size)(hm:m=(n:Int))(Af:n<xs.length)(Ao:Nat.blt d c.n=true)
 (k:AP c ops rest ((d,JI v (n*r.size))::env) L D):AP c ops (⟨some d,.indexAddr T x y,t,p,af,none⟩::rest) env L D:=
 AcX i Ab Ag Bf Av AJv AJv Ao (by rw[hm];exact k)
omit Dr in
theorem oz{S:Nat->Prop}{w:World}{α:Type}[r:Be α]{e:TypeId}{v:Value}{xs:List α}(h:(row e v xs).holds S w)(Ab:xs≠[]):∃g cap,v=.slice (some ⟨g,0,none⟩) xs.length cap:=by
 obtain⟨g,cap,cs,Cy,BC,_⟩:=Vj h Ab;exact⟨g,cap,BC⟩
theorem K3{α:Type}{r:Be α}(i:Nat){xs:List α}{e:TypeId}{o off j:Nat}(Ab:AL env x=some (JI v o))(Ag:L[i]? =some (@row α r e v xs))(FG:0<xs.length)(JU:QD c.P T j off)(Ao:Nat.blt d c.n=true)
 (k:AP c ops rest ((d,JI v (o+off))::env) L D):AP c ops (⟨some d,.fieldAddr T x j,t,p,af,none⟩::rest) env L D:=
 Dr.fact (q:=∃g cap,v=.slice (some ⟨g,0,none⟩) xs.length cap) (fun a w f st AR=>@oz _ _ α r _ _ _ (st.own _ (AA' Ag)) (by intro e;rw[e]at FG;simp at FG)) fun⟨g,cap,BC⟩=>by
  subst BC;simp only[JI,ACm]at Ab k;exact UG Ab JU Ao (by rw[ADs];exact k)
theorem NR{α:Type}{s:Shape α}(i m o:Nat){xs:List α}{ov:α}{e:TypeId}(u:s.H->Value)(Ab:AL env x=some (JI v (m*s.size+o)))(Ag:L[i]? =some (@row α (Be.D5 s) e v xs))(hm:xs[m]? =some ov)(hu:∀h,(s.cells ov h)[o]? =some (u h)){E:TypeId}(Av:Nv c.P E)(Ao:Nat.blt d c.n=true)
 (k:∀h,s.wf ov->AP c ops rest ((d,u h)::env) L (s.sub ov h++D)):
 AP c ops (⟨some d,.load E x,t,p,af,none⟩::rest) env L D:=
 Dr.read (σ:={h // s.wf ov}) rfl rfl (fun h=>(d,u h.1)::env) (fun h=>s.sub ov h.1++D) (fun a w f st AR=>by
  have Hv:=AA' Ag;obtain⟨g,cap,cs,Cy,rfl,CK,_,_,_,Md,Ep,_⟩:=@Vj α (Be.D5 s) _ _ _ _ _ (st.own _ Hv) (by intro e;rw[e]at hm;simp at hm);obtain⟨Cx,⟨h,rfl,Lc,Oi⟩,AN⟩:=@PH α (Be.D5 s) _ _ _ Cy xs 0 Ep (ct CK Md) m ov hm;have P':g∈L.J:=FW.2 ⟨_,Hv,by simp[Value.ownBlock]⟩;refine⟨⟨h,Oi⟩,u h,fun AT hs=>?_,f.put _ (EU Ao),BP.app (fun t Av=>Lc t Av) AR⟩;have Sc:Lt AT g (0+m*s.size) (s.cells ov h):=AN.DY (hs.block g (TD CK) (by simp));have Bm:=Sc o _ (hu h);have Ek:=fT (P:=c.P) Av (a:=⟨g,m*s.size+o,none⟩) (v:=u h) (w:=AT) (by simpa using Bm);have HX:=f.AL Ab;simp only[JI,ACm,AB0]at HX;simp[execOp,HX,Ek]) (fun h=>k h.1 h.2)
end
end
section
section
variable{c:Cj} {ops:Array Oper} {AP:Cj->Array Oper->List Oper->Env->Own->List Atom->Prop} [Dr:Ip AP] {env:Env} {L:Own} {D:List Atom} {rest:List Oper} {d:Nat} {t:TypeId} {p:String} {af:Array Edge} {x y:Operand} {Ec FK:TypeId}
include Dr
theorem fZ{m n r:Int}(Ab:AL env x=some (.int .i64 m))(Bf:AL env y=some (.int .i64 n))(Bh:m-n=r)(Ag:A' r)(Ao:Nat.blt d c.n=true)(k:AP c ops rest ((d,.int .i64 r)::env) L D):
 AP c ops (⟨some d,.binOp .sub Ec x y FK,t,p,af,none⟩::rest) env L D:=by
 subst Bh;exact TU Ab Bf Ag Ao k
theorem Hf{m n r:Int}(Ab:AL env x=some (.int .i64 m))(Bf:AL env y=some (.int .i64 n))(Bh:m+n=r)(Ag:A' r)(Ao:Nat.blt d c.n=true)(k:AP c ops rest ((d,.int .i64 r)::env) L D):
 AP c ops (⟨some d,.binOp .add Ec x y FK,t,p,af,none⟩::rest) env L D:=by
 subst Bh;exact C5 Ab Bf Ag Ao k
end
section
variable{c:Cj} {Q:AuE} {env:Env} {L:Own} {D:List Atom} {x:Code}
theorem qA{σ:Type}(C:Env)(Dw:List Atom)(V:σ->Env->Env)(LL:σ->Own)(I:σ->Prop)(_hC:Go.A_.Sub C env)(_hc:Bg Dw D)(Af:CF c x (Exit.then (gX c (fun s=>V s C) LL (fun _=>Dw) I) Q) env L D)(h2:∀s,I s->Eg c Q .normal (V s C) (LL s) Dw):CF c x Q env L D:=
 AcY (fun s=>V s C) LL (fun _=>Dw) I Af h2
end
theorem mh{n:Nat}(h:n<9223372036854775808):IntKind.u64.wrap (n:Int)=(n:Int):=by
 simp[IntKind.wrap,IntKind.signed,IntKind.bits];omega
theorem jO{n:Nat}(h:n<9223372036854775808):IntKind.i64.wrap (n:Int)=(n:Int):=Uf ⟨AJv,AJv⟩
theorem lO(u:Nat):((u:Int)).fdiv (2^min (1:Int).toNat IntKind.u64.bits)=((u / 2:Nat):Int):=by
 rw[show((2:Int)^min (1:Int).toNat IntKind.u64.bits)=2 by decide];rw[Int.fdiv_eq_ediv_of_nonneg _ AJx];omega
section
variable{α:Type} [Inhabited α]
theorem s'(f:Nat->Bool){n i j:Nat}(h:i<j)(Ao:0<n):search f n i j=if f ((i+j) / 2)=true then search f (n-1) ((i+j) / 2+1) j else search f (n-1) i ((i+j) / 2):=by
 obtain⟨n,rfl⟩:∃k,n=k+1:=⟨n-1,AJv⟩;rw[search,AA_ h];rfl
theorem lK(f:Nat->Bool){n i j:Nat}(h:i<j)(Ao:j-i<=n)(BI:f ((i+j) / 2)=true):search f n i j=search f (n-1) ((i+j) / 2+1) j:=by rw[s' f h AJv,AA_ BI]
theorem lH(f:Nat->Bool){n i j:Nat}(h:i<j)(Ao:j-i<=n)(BI:¬f ((i+j) / 2)=true):search f n i j=search f (n-1) i ((i+j) / 2):=by rw[s' f h AJv,AA9 BI]
end
end
section
section
variable{c:Cj} {ops:Array Oper} {AP:Cj->Array Oper->List Oper->Env->Own->List Atom->Prop} [Dr:Ip AP] {env:Env} {L:Own} {D:List Atom} {rest:List Oper} {d:Nat} {t:TypeId} {p:String} {af:Array Edge} {x y:Operand} {T:TypeId}
include Dr
theorem dR{A:Option Addr}{m Dc:Nat}{E:TypeId}(Ab:AL env x=some (.slice A m Dc))(Av:c.P.underlying T=some (.slice E))(Ao:Nat.blt d c.n=true)
 (k:AP c ops rest ((d,.int .i64 (Dc:Int))::env) L D):
 AP c ops (⟨some d,.call {callee:=.builtin .cap,args:= #[x],argTypes:= #[T]},t,p,af,none⟩::rest) env L D:=
 pu rfl rfl Ao (fun a w f=>by simp[execOp,resolve,invoke,builtin,f.AL Ab,Builtin.cap_,ABQ Av,goInt]) k
theorem PO{A:Option Addr}{m Dc h:Nat}{E:TypeId}{B7:Nat}{Ag:Operand}(Ab:AL env x=some (.slice A m Dc))(Av:H5 c.P T E B7)(DC:AL env Ag=some (.int .i64 (h:Int)))(Bo:h<=Dc)(Ao:Nat.blt d c.n=true)
 (k:AP c ops rest ((d,.slice A h Dc)::env) L D):
 AP c ops (⟨some d,.slice T x none (some Ag) none,t,p,af,none⟩::rest) env L D:=
 pu rfl rfl Ao (fun a w f=>by
  obtain⟨j,Ay,hs⟩:=ACr.1 Av.2;have Dh:(0:Int)<=h/\(h:Int)<=(Dc:Int):=AJv;have Fb:(if Dc=0 then A else A.map (·.add 0))=A:=by
   split
   · rfl
   · cases A
     · rfl
     · simp[Addr.add]
  simp[execOp,f.AL Ab,f.AL DC,Instr.sliceAt,ABQ Av.1,Instr.slice,Instr.sliceBounds,Instr.sliceBound,asIntOf,Dh,sizeOf,typeInfo,Ay];rw[AA_ Bo,Fb]) k
end
end
section
section
variable{c:Cj} {l:List Oper} {s:Iq} {env:Env} {D:List Atom} {Q:AuE}
def fO(l:List Oper)(k:Nat):Nat->Nat->Bool
 |0,_=>false
 |f+1,i=>(List.range i).any fun j=>Gp l j i&&(j==k||fO l k f j)
theorem sO{l:List Oper}{A8:Array Bool}(E5:∀i k,A8.getD i false=true->Gp l k i=true->A8.getD k false=true){k:Nat}:∀(f i:Nat),(∀j,Gp l j i=true->A8.getD j false=true)->fO l k f i=true->A8.getD k false=true
 |0,_,_,h=>by cases h
 |f+1,i,Ag,h=>by
  rw[fO,List.any_eq_true]at h;obtain⟨j,_,Ay⟩:=h;simp only[ABb,ABk,beq_iff_eq]at Ay;have a0:=Ag j Ay.1;rcases Ay.2 with rfl|h2
  · exact a0
  · exact sO E5 f j (fun q B'=>E5 j q a0 B') h2
def l3(l:List Oper)(AJ:Nat):Bool:=((List.range AJ).all fun k=>fO l k AJ AJ)&&((List.range l.length).all fun i=>Nat.ble i AJ||Gp l (i-1) i)
theorem Aj4{l:List Oper}{AJ:Nat}(h:l3 l AJ=true)(A8:Array Bool)(E5:∀i k,A8.getD i false=true->Gp l k i=true->A8.getD k false=true):
 ∀i,AJ<=i->i<l.length->(∀k,Gp l k i=true->A8.getD k false=true)->∀k,k<AJ->A8.getD k false=true:=by
 simp only[l3,ABb]at h;intro i;induction i with
 |zero=>
  intro Ag AN AH k AE;omega
 |succ i Cg=>
  intro Ag AN AH k AE;by_cases he:i+1=AJ
  · exact sO E5 AJ AJ (by rw[<-he];exact AH) (ABq.1 h.1 k (ABw.2 AE))
  · have Bm:=ABq.1 h.2 (i+1) (ABw.2 AN);simp only[ABk,Nat.add_sub_cancel]at Bm;rcases Bm with Bm|Bm
    · have:=ABy Bm;omega
    · have Tp:=AH i Bm;exact Cg AJv AJv (fun q B'=>E5 i q Tp B') k AE
def fQ(AJ:Nat)(l:List Oper)(env:Env)(s:Iq)(n:Nat):Bool:=S6 l s.E8&&(List.range AJ).all (fun i=>dI l env i)&&ND l&&LX l n&&OL l s&&l3 l AJ&&Region.seqB .any l.toArray (l.drop AJ).length AJ (R' AJ l.length)
theorem Alj{AJ:Nat}{L:Own}(AE:Cb Q c l.toArray (l.drop AJ) env L D)(jG:Region.seqB .any l.toArray (l.drop AJ).length AJ (R' AJ l.length)=true){a:Act}{w:World}(f:Fr c.n a env)(st:CI c.BW c.M w L)(AR:BP D w L):
 wpAny c.P .any l.toArray Q (l.length-AJ) (R' AJ l.length) a w:=by
 have h:=wpAny_of_seq (md:=.any) (Q':=Q) (l.drop AJ) AJ (R' AJ l.length) a w (fun j=>by simp[List.getElem?_drop]) jG (AE a w f st AR)
 rwa [ACt]at h
theorem AiB(AJ:Nat)(s:Iq)(Yq:s.hs=[[]])(CM:fQ AJ l env s c.n=true)(aY:AJ<=l.length){L:Own}(Dv:s.L [] []=L)(Dk:OG c l s env D (l.take AJ) 0)(A:Nat->Array Bool->Act->World->Prop)
 (Cl:∀f A8 a w,Region.ready .any l.toArray A8≠[]->(∀i∈Region.ready .any l.toArray A8,∀Q',wpOp c.P l.toArray Q' i (A f (A8.setIfInBounds i true)) a w)->A (f+1) A8 a w)
 (k:∀V:Nat->Value,E7 (fun i=>(CN l i).isSome=true->s.Eb i=none->s.ok i (V i)) (List.range AJ)->∀a w,Fr c.n a (Eo l (EC s.Eb V) (List.range AJ)++env)->CI c.BW c.M w L->BP (FM s.rs (EC s.Eb V) ((List.range AJ).filter fun i=>(CN l i).isSome)++D) w L->A (l.length-AJ) (R' AJ l.length) a w)
 {a:Act}{w:World}(f:Fr c.n a env)(st:CI c.BW c.M w L)(AR:BP D w L):A l.length (Array.replicate l.length false) a w.drew:=by
 simp only[fQ,ABb]at CM;obtain⟨⟨⟨⟨⟨⟨Af,h2⟩,C'⟩,EY⟩,BB⟩,Aa1⟩,_⟩:=CM;subst Dv;obtain⟨Ey,Ez⟩:=AhY AJ s Yq BB C';exact AbC AJ s (fun _=>s.L [] []) Af h2 C' EY BB (Aj4 Aa1) Ey aY rfl Ez Dk A Cl k f st AR
theorem sP{id:Nat}(AJ:Nat)(s:Iq)(Yq:s.hs=[[]])(hm:c.P.follows .mixedOrders=true)(CM:fQ AJ l env s c.n=true)(aY:AJ<=l.length){L:Own}(Dv:s.L [] []=L)(Dk:OG c l s env D (l.take AJ) 0)
 (k:∀V:Nat->Value,E7 (fun i=>(CN l i).isSome=true->s.Eb i=none->s.ok i (V i)) (List.range AJ)->
  Cb Q c l.toArray (l.drop AJ) (Eo l (EC s.Eb V) (List.range AJ)++env) L (FM s.rs (EC s.Eb V) ((List.range AJ).filter fun i=>(CN l i).isSome)++D)):CF c (.region id l.toArray true) Q env L D:=fun a w f st AR=>by
 have jG:Region.seqB .any l.toArray (l.drop AJ).length AJ (R' AJ l.length)=true:=by
  simp only[fQ,ABb]at CM;exact CM.2
 exact wp_region_any hm (AiB AJ s Yq CM aY Dv Dk (wpAny c.P .any l.toArray Q) (fun _ _ _ _ Bw h=>⟨fun Af=>absurd Af Bw,fun i Ag=>h i Ag Q⟩) (fun V LC a w f st AR=>Alj (k V LC) jG f st AR) f st AR)
end
theorem h7{P:Program}{d m:Nat}{f:Field}{B1:List Field}{xs ys zs1 zs2:Array Value}{r s:Bool}{w:World}(Ao:(f.name== "_")=false){Cx:TypeDesc}(hu:P.underlying f.type=some Cx)(Bh:Cx.isRow=true)(hm:(P.info? f.type).map (·.size)=some m)(AK:xs.extract f.offset (f.offset+m)=zs1)(Aq:ys.extract f.offset (f.offset+m)=zs2)
 (he:∀w,(Op.equalIn d f.type (.agg zs1) (.agg zs2)).run P w=.ok r w)(bd:∀w,(Op.eqFields d xs ys B1).run P w=.ok s w):(Op.eqFields d xs ys (f::B1)).run P w=.ok (r&&s) w:=by
 have eO:f.name≠ "_" :=by simpa using Ao
 obtain⟨j,Ay,hs⟩:=ACr.1 hm;have AH:∀(zs z:Array Value),zs.extract f.offset (f.offset+m)=z->∀w,(part f.type zs f.offset).run P w=.ok (.agg z) w:=by
  intro zs z Cu w;unfold part;rw[ABY,lq hu,AB',Bh];simp[sizeOf,typeInfo,Ay,hs,Cu]
 unfold Op.eqFields;rw[AA_ eO];simp only[ABY,AH xs zs1 AK,AH ys zs2 Aq,he,AB'];cases r with
 |false=>simp
 |true=>simpa using bd w
end
open Go.RowKit
section
structure ZQ where
instance ld:Be ZQ where
 size:=1
 agg:=false
 rd _ _ cs _:=∃u:Value,cs=[u]/\u.oneCell'=true
 len:=by rintro S w cs x ⟨u,rfl,_⟩;rfl
 one:=by
  rintro S w cs x ⟨u,rfl,h⟩ Pc hu;have:Pc=u:=(by simpa using hu);rw[this];exact h
 DY:=by
  rintro S Fq w AT cs x h _ _;exact h
theorem Aft{S:Nat->Prop}{w:World}{u:Value}(h:u.oneCell'=true):Atom.holds (@Atom.mk ZQ ld u ⟨⟩) S w:=by
 have AK:YA u=false:=by cases u<;>first|rfl|simp[Value.oneCell']at h
 exact⟨AK,u,by rw[show(Atom.mk u (⟨⟩:ZQ)).v=u from rfl,NC AK],h⟩
theorem TJ{S:Nat->Prop}{w:World}{u:Value}(h:Atom.holds (@Atom.mk ZQ ld u ⟨⟩) S w):u.oneCell'=true:=by
 obtain⟨AK,Pc,Af,h2⟩:=h;have AK:YA u=false:=AK;have Af:u.cells.toList=[Pc]:=Af;rw[NC AK]at Af;have:u=Pc:=by simpa using Af
 rw[this];exact h2
@[reducible] def rQ(cs:List Value):List Atom:=cs.map fun u=>@Atom.mk ZQ ld u ⟨⟩
theorem rR{S:Nat->Prop}{w:World}{cs:List Value}(h:∀u∈cs,u.oneCell'=true):∀t∈rQ cs,t.holds S w:=fun t Av=>by
 obtain⟨u,hu,rfl⟩:=AB6.1 Av;exact Aft (h u hu)
@[reducible] def Shape.raw{α:Type}(s:Shape α):Shape (α×s.H) where
 H:=Unit
 size:=s.size
 cells x _:=s.cells x.1 x.2
 sub x _:=rQ (s.cells x.1 x.2)
 wf x:=s.wf x.1
 len x _:=s.len x.1 x.2
 one:=by
  intro S w x h Av u hu;exact TJ (Av _ (AB6.2 ⟨u,hu,rfl⟩))
@[reducible] def Iy{α:Type}(s:Shape α):Be (α×s.H):=Be.D5 s.raw
structure wi (NT b:Nat) (E:TypeId) (A B:World):Prop where
 size:A.heap.size<=B.heap.size
 block:∀k,k<NT->k≠b->B.heap[k]? =A.heap[k]?
 typed:∀k cs T RX,k≠b->T≠E->A.heap[k]? =some (.cells cs T RX)->B.heap[k]? =some (.cells cs T RX)
theorem C8.bu{NT b:Nat}{E:TypeId}{M:List Nat}{A B:World}(h:C8 M A B)(Ao:NT<=A.heap.size)(UU:∀k,k∈M->k<A.heap.size->k=b\/(NT<=k/\∃cs RX,A.heap[k]? =some (.cells cs E RX))):wi NT b E A B:=
 ⟨h.size,fun k AE Aq=>h.block k (ACp AE Ao) (fun hm=>by
  rcases UU k hm (ACp AE Ao)with Af|⟨Af,_⟩
  · exact Aq Af
  · omega),fun k cs T RX Aq LY AE=>(h.block k (TD AE) (fun hm=>by
  rcases UU k hm (TD AE)with Af|⟨_,KH,AmR,Af⟩
  · exact Aq Af
  · rw[AE]at Af;cases Af;exact LY rfl)).trans AE⟩
def Bb{α:Type}[Be α](NT DQ:Nat)(E:TypeId)(J:List Nat)(v:Value)(ys:List α)(w:World):Prop:=
 ∃S:Nat->Prop,Atom.holds ⟨v,ys⟩ S w/\∀b,S b->b<w.heap.size/\b∉J/\b≠DQ/\(b<NT\/∃cs T RX,w.heap[b]? =some (.cells cs T RX)/\T≠E)
theorem AdI{F:Fence}{n:Nat}{P:Program}{ops:Array Oper}{Q:AuE}{rest:List Oper}{o:Oper}{a:Act}{w:World}(CK:o.guard=none)(h:o.wpIn F n P a w (fun Dx AT=>wpListIn F n P ops Q rest Dx AT) Q):wpListIn F n P ops Q (o::rest) a w:=by
 unfold wpListIn;rw[AA_ (by unfold Region.wanted;rw[CK])];exact h
section
variable{c:Cj} {ops:Array Oper} {AP:Cj->Array Oper->List Oper->Env->Own->List Atom->Prop} [Dr:Ip AP] {env:Env} {L:Own} {D:List Atom} {rest:List Oper} {d:Nat} {t:TypeId} {p:String} {af:Array Edge} {x:Operand}
include Dr
theorem j1{α:Type}{s:Shape α}(i:Nat){ov:α}{hh:s.H}{By:Value}(Ab:AL env x=some By)(Cl:D[i]? =some (@Atom.mk (Cq (α×s.H)) (@F9 _ (Iy s)) By ⟨(ov,hh)⟩)){E:TypeId}(Av:Oc c.P E s.size)(Ao:Nat.blt d c.n=true)
 (k:s.wf ov->AP c ops rest ((d,.agg (s.cells ov hh).toArray)::env) L D):AP c ops (⟨some d,.load E x,t,p,af,none⟩::rest) env L D:=
 Gi (s:=s.raw) i Ab Cl Av Ao fun _ hw=>Dr.mono (fun _ _ f _ AR=>⟨f,fun u hu=>AR u (ABR _ (ACV _ hu))⟩) (k hw)
end
end
end Go.A_
namespace Go.Apw
def tB(Im:List Bv)(KK:Int):Bv:=(Gd Im.length (fun j=>decide ((Im.getD j default).CZ=KK))).elim IP (fun j=>Im.getD j default)
def AcU(Im:List Bv)(KK:Int):Bool:=(Gd Im.length (fun j=>decide ((Im.getD j default).CZ=KK))).isSome
def Aeo(l:List QM)(KK:Int)(key:ByteArray)(n:Int):Int:=
 if ¬IA (Adq l)=0 then 0 else match Gd l.length (fun j=>decide (l.getD j default=({CZ:=KK,Al:=key,G0:=n,It:=(l.getD j default).It}:QM)))with
  |some j=>(l.getD j default).It
  |none=>0
def AlT:Bx:=({Ap:=0,As:=0,Al:=ByteArray.empty,EL:=ByteArray.empty,B2:=0,DN:=0,DO:=0,C3:=0}:Bx)
def findD(l:List Bx)(c q:Int):Bx:=if(decide (HI (Kt l c q)<0)|| !decide (IA (Is l)=0))=true then AlT else l.getD ((Kt l c q).getD 0) default
def Tz(l:List Bx)(c q:Int):Bool:=if(decide (HI (Kt l c q)<0)|| !decide (IA (Is l)=0))=true then false else true
theorem Ahq{l:List Bx}{c q:Int}(h:(decide (HI (Kt l c q)<0)|| !decide (IA (Is l)=0))=false):∃k,Kt l c q=some k/\k<l.length:=by
 cases e:Kt l c q with
 |none=>
  rw[e]at h;simp[HI]at h
 |some k=>exact⟨k,rfl,Q4 e⟩
def Ab8(PN:List (List QM))(c:ZS)(h:BD):List Int:=
 if(decide (h.Bn>=1)&&decide (h.Bn<=(PN.length:Int)))=true then[Aeo (PN.getD (h.Bn-1).toNat default) c.CZ c.Yb.Al h.G0]else[]
def sc(PN:List (List QM))(c:ZS):Nat->List Int
 |0=>[c.Yb.BT]
 |i+1=>sc PN c i++Ab8 PN c (c.Yb.A0.getD i default)
def AdW(Im:List Bv)(a:AD):List Int:=
 if(AcU Im a.BG.DH&& !decide (a.BG.Ap=0))=true then(if(Tz (tB Im a.BG.DH).Bj a.BG.Ap a.BG.As&&decide ((findD (tB Im a.BG.DH).Bj a.BG.Ap a.BG.As).C3=1))=true then[a.BG.B2]else[])else[]
def kO(Im:List Bv)(PN:List (List QM))(c:ZS):List Int:=sc PN c c.Yb.A0.length++AdW Im c.Yb
def Abt(Im:List Bv)(PN:List (List QM))(c:ZS):Int×Bool:=(Lo (kO Im PN c).sum,decide (No (kO Im PN c).sum=0)&&Rb c.Yb.Cs (Lo (kO Im PN c).sum))
end Go.Apw
namespace Go.A_
section
section
variable{α:Type} [Inhabited α]
theorem lJ{f:Nat->Bool}:∀(n i j:Nat),i<=j->j-i<=n->(∀u v,i<=u->u<=v->v<j->f v=true->f u=true)->
 (∀u,i<=u->u<search f n i j->f u=true)/\(∀u,search f n i j<=u->u<j->f u=false)
 |0,i,j,GQ,Ao,_=>⟨fun u Af h2=>by rw[search]at h2;omega,fun u Af h2=>by rw[search]at Af;omega⟩
 |n+1,i,j,GQ,Ao,hm=>by
  rw[search];split
  · split
    · rename_i C_ BI;obtain⟨Af,h2⟩:=lJ (f:=f) n ((i+j) / 2+1) j AJv AJv (fun u v a b c d=>hm u v AJv b c d);refine⟨fun u AK Aq=>?_,h2⟩;by_cases Bm:u<=(i+j) / 2
      · exact hm u _ AK Bm AJv BI
      · exact Af u AJv Aq
    · rename_i C_ BI;obtain⟨Af,h2⟩:=lJ (f:=f) n i ((i+j) / 2) AJv AJv (fun u v a b c d=>hm u v a b AJv d);refine⟨Af,fun u AK Aq=>?_⟩;by_cases Bm:u<(i+j) / 2
      · exact h2 u AK Bm
      · rw[<-ACH];exact fun he=>BI (hm _ u AJv AJv Aq he)
  · exact⟨fun u Af h2=>AJv,fun u Af h2=>AJv⟩
structure m2 (lt:α->α->Bool):Prop where
 w':∀x y,lt x y=true->lt y x=false
 mb:∀x y z,lt y x=false->lt z y=false->lt z x=false
omit [Inhabited α]in
theorem m2.Si{lt:α->α->Bool}(h:m2 lt)(x:α):lt x x=false:=by
 cases e:lt x x with
 |false=>rfl
 |true=>exact(h.w' x x e).symm▸e▸rfl
variable{lt:α->α->Bool}
end
end
section
structure QL {GA:Type} (lt:GA->GA->Bool):Prop where
 Si:∀a,lt a a=false
 mb:∀a b c,lt a b=true->lt b c=true->lt a c=true
 tZ:∀a b,lt a b=false->a≠b->lt b a=true
section
variable{β GA:Type} [Inhabited β] [DecidableEq GA] (key:β->GA) (lt:GA->GA->Bool)
def Cz(t:GA)(l:List β):Nat:=search (fun h=>lt (key (l.getD h default)) t) l.length 0 l.length
def G9(t:GA)(l:List β):Bool:=decide (Cz key lt t l<l.length)&&decide (key (l.getD (Cz key lt t l) default)=t)
def FO(i:Nat)(x:β)(l:List β):List β:=l.take i++x::l.drop i
def FQ(x:β)(l:List β):List β:=if G9 key lt (key x) l=true then l.set (Cz key lt (key x) l) x else FO (Cz key lt (key x) l) x l
def H6(l:List β):Prop:=l.Pairwise (fun a b=>lt (key a) (key b)=true)
variable{key lt}
omit [DecidableEq GA]in
theorem St(t:GA)(l:List β):Cz key lt t l<=l.length:=(lI _ _ _ _ (ABg _)).2
theorem G3{l:List β}{j:Nat}(h:j<l.length):l.getD j default=l[j]:=by rw[ACn,ABs h];rfl
omit [DecidableEq GA]in
theorem fD(o:QL lt){l:List β}(h:H6 key lt l)(t:GA):(∀j (Ay:j<l.length),j<Cz key lt t l->lt (key l[j]) t=true)/\(∀j (Ay:j<l.length),Cz key lt t l<=j->lt (key l[j]) t=false):=by
 obtain⟨Af,h2⟩:=lJ (f:=fun h=>lt (key (l.getD h default)) t) l.length 0 l.length (ABg _) AJv (fun u v _ AnD BC BI=>by
  by_cases e:u=v
  · subst e;exact BI
  · have:=ACW.1 h u v AJv BC AJv;rw[G3 AJv]at BI ⊢;exact o.mb _ _ _ this BI)
 exact⟨fun j Ay AH=>by rw[<-G3 Ay];exact Af j (ABg _) AH,fun j Ay AH=>by rw[<-G3 Ay];exact h2 j AH Ay⟩
theorem br(o:QL lt){l:List β}(h:H6 key lt l)(t:GA):G9 key lt t l=true↔∃x∈l,key x=t:=by
 obtain⟨Af,h2⟩:=fD o h t;simp only[G9,ABb,ABa];constructor
 · rintro⟨a,b⟩;rw[G3 a]at b;exact⟨_,ACF a,b⟩
 · rintro⟨x,Ab,rfl⟩;obtain⟨j,Ay,rfl⟩:=AC8 Ab;have AH:Cz key lt (key l[j]) l<=j:=by
    rcases ACq j (Cz key lt (key l[j]) l)with g|g
    · have:=Af j Ay g;rw[o.Si]at this;cases this
    · exact g
   have C_:Cz key lt (key l[j]) l<l.length:=AJv;refine⟨C_,?_⟩;rw[G3 C_];by_cases e:Cz key lt (key l[j]) l=j
   · have:l[Cz key lt (key l[j]) l]=l[j]:=(by congr 1);rw[this]
   · have a:=ACW.1 h (Cz key lt (key l[j]) l) j C_ Ay AJv;rw[h2 _ C_ (ABW _)]at a;cases a
theorem ZX(_:QL lt){l:List β}(_:H6 key lt l){t:GA}(Ag:G9 key lt t l=true):Cz key lt t l<l.length/\key (l.getD (Cz key lt t l) default)=t:=by
 simpa only[G9,ABb,ABa]using Ag
theorem Ahz(o:QL lt){l:List β}(h:H6 key lt l){t:GA}(Ag:G9 key lt t l=false){j:Nat}(Ay:j<l.length)(AH:Cz key lt t l<=j):lt t (key l[j])=true:=by
 refine o.tZ _ _ ((fD o h t).2 j Ay AH) fun e=>?_;rw[(br o h t).2 ⟨_,ACF Ay,e⟩]at Ag;cases Ag
omit [Inhabited β]in
theorem Sh(i:Nat)(x:β)(l:List β)(h:i<=l.length):(FO i x l).length=l.length+1:=by
 rw[FO,List.length_append,List.length_cons,ABz,ACt];omega
theorem su{x:β}{l:List β}(h:G9 key lt (key x) l=true):(FQ key lt x l).length=l.length:=by rw[FQ,AA_ h,ABj]
theorem AhG{x:β}{l:List β}(h:G9 key lt (key x) l=false):(FQ key lt x l).length=l.length+1:=by rw[FQ,AA9 (by rw[h];decide),Sh _ _ _ (St _ _)]
theorem cb(x:β)(l:List β):(FQ key lt x l).length<=l.length+1:=by
 cases h:G9 key lt (key x) l with
 |true=>rw[su h];omega
 |false=>rw[AhG h];exact ABW _
omit [Inhabited β]in
theorem Aeg{i:Nat}{x y:β}{l:List β}:y∈FO i x l↔y=x\/y∈l:=by
 rw[FO,ABm,ABf];constructor
 · rintro(h|h|h)
   · exact .inr (List.mem_of_mem_take h)
   · exact .inl h
   · exact .inr (List.mem_of_mem_drop h)
 · rintro(h|h)
   · exact .inr (.inl h)
   · rw[<-ADT i l,ABm]at h;rcases h with h|h
     · exact .inl h
     · exact .inr (.inr h)
theorem PJ(o:QL lt){x y:β}{l:List β}(h:H6 key lt l):y∈FQ key lt x l↔y=x\/(y∈l/\key y≠key x):=by
 cases Ag:G9 key lt (key x) l with
 |false=>
  rw[FQ,AA9 (by rw[Ag];decide),Aeg];have Ao:∀z∈l,key z≠key x:=fun z Cu e=>by
   rw[(br o h (key x)).2 ⟨z,Cu,e⟩]at Ag;cases Ag
  exact⟨fun a=>a.imp id fun b=>⟨b,Ao y b⟩,fun a=>a.imp id fun b=>b.1⟩
 |true=>
  obtain⟨a,b⟩:=ZX o h Ag;rw[FQ,AA_ Ag];rw[G3 a]at b;constructor
  · intro Bf;obtain⟨j,Ay,e⟩:=AC8 Bf;rw[ABj]at Ay;rw[ADQ]at e;split at e
    · exact .inl e.symm
    · rename_i FG;subst e;refine .inr ⟨ACF Ay,fun e=>?_⟩;have e:=e.trans b.symm;rcases Nat.lt_or_gt_of_ne FG with g|g
      · have:=ACW.1 h _ j a Ay g;rw[e,o.Si]at this;cases this
      · have:=ACW.1 h j _ Ay a g;rw[e,o.Si]at this;cases this
  · rintro(rfl|⟨Bf,FG⟩)
    · exact List.mem_iff_getElem.2 ⟨_,by rw[ABj];exact a,by rw[List.getElem_set_self]⟩
    · obtain⟨j,Ay,rfl⟩:=AC8 Bf;refine List.mem_iff_getElem.2 ⟨j,by rw[ABj];exact Ay,?_⟩;rw[ADQ,AA9];intro e;subst e;exact FG b
theorem W4(o:QL lt){x:β}{l:List β}(h:H6 key lt l):H6 key lt (FQ key lt x l):=by
 cases Ag:G9 key lt (key x) l with
 |true=>
  obtain⟨a,b⟩:=ZX o h Ag;rw[G3 a]at b;rw[FQ,AA_ Ag];refine ACW.2 fun i j Af h2 GQ=>?_;rw[ABj]at Af h2;rw[ADQ,ADQ];have:=ACW.1 h i j Af h2 GQ;split
  · rename_i e;subst e;rw[AA9 AJv];exact(ABE (fun q=>lt q _) b).symm.trans this
  · split
    · rename_i e;subst e;exact(ABE (lt _) b).symm.trans this
    · exact this
 |false=>
  obtain⟨Rn,_⟩:=fD o h (key x);have hle:=St (key:=key) (lt:=lt) (key x) l;rw[FQ,AA9 (by rw[Ag];decide),FO];unfold H6 at*;have hs:=h;rw[<-ADT (Cz key lt (key x) l) l,List.pairwise_append]at hs;obtain⟨s1,s2,IK⟩:=hs;have AJ:∀y∈l.drop (Cz key lt (key x) l),lt (key x) (key y)=true:=fun y Bf=>by
   obtain⟨j,Ay,rfl⟩:=AC8 Bf;rw[ACt]at Ay;rw[List.getElem_drop];exact Ahz o h Ag AJv AJv
  have Av:∀y∈l.take (Cz key lt (key x) l),lt (key y) (key x)=true:=fun y Bf=>by
   obtain⟨j,Ay,rfl⟩:=AC8 Bf;rw[ABz]at Ay;rw[List.getElem_take];exact Rn j AJv AJv
  rw[List.pairwise_append,List.pairwise_cons];refine⟨s1,⟨AJ,s2⟩,fun a AK b Aq=>?_⟩;rcases ABf.1 Aq with rfl|Aq
  · exact Av a AK
  · exact IK a AK b Aq
end
end
end Go.A_
namespace Go.Apw
def gT:BL:={Ap:=0,As:=0,HV:=false,Cm:=⟨0,0,0,0⟩}
def XG:F_:=⟨0,0,0,0⟩
def AGl(a b:Int):Bool:=decide (a<b)
-- accounts
def O9(k:ByteArray):AD×Int:=if(decide ((k.size:Int)<1)||decide ((k.size:Int)>16))=true then(Fj,1)else({Fj with Al:=k},0)
def K4(a:AD):Int:=if(!E4 a||G_ a)=true then 0 else(Lo (IU a) % 18446744073709551616-a.Cs.A6 % 18446744073709551616) % 18446744073709551616
def Jx(a:AD):Int:=if(!E4 a||G_ a)=true then 0 else(a.Cs.Bc % 18446744073709551616-Lo (I7 a) % 18446744073709551616) % 18446744073709551616
def Io(a:AD):Int×Bool:=if(!E4 a||G_ a||decide ((a.A0.length:Int)>0))=true then(0,false)else(a.BT,true)
def IC(a:AD)(n:Int):BD×Bool:=if E4 a=false then(⟨0,0,0,0⟩,false)else match Gd a.A0.length (fun j=>decide ((a.A0.getD j default).Bn=n))with
 |some j=>(a.A0.getD j default,true)
 |none=>(⟨0,0,0,0⟩,false)
def dw(a:AD)(n:Int):Bool:=(decide (n>0)&&decide (n % 18446744073709551616>Jx a))||(decide (n<0)&&decide ((-n) % 18446744073709551616>K4 a))
def JF(a:AD)(n:Int):AD×Int:=
 if E4 a=false then(Fj,21)else if n=0 then(Fj,1)else if G_ a=true then(Fj,152)else if dw a n=true then(Fj,150)else({a with BT:=a.BT+n},0)
def Iw(v n:Int):Int:=v+min n (9223372036854775807-v)
def JA(n parts i:Int):Int:=if(decide (parts<1)||decide (i<0)||decide (i>=parts))=true then 0 else if i<n % parts then n / parts+1 else n / parts
def H'(n:Int):Int:=min n 9223372036854775807
def Sn(h:BD)(AiD zD nodes:Int):BD:={h with DV:=Iw h.DV (H' (JA AiD (nodes+1) nodes)),Fc:=Iw h.Fc (H' (JA zD (nodes+1) nodes))}
def JW(a:AD)(n WM:Int):BD:=if G9 (·.Bn) AGl n a.A0=true then a.A0.getD (Cz (·.Bn) AGl n a.A0) default else⟨n,WM,0,0⟩
def Kl(a:AD)(n WM nodes:Int):AD×Int:=
 if E4 a=false then(Fj,21)
 else if(decide (nodes<1)||decide (nodes>5)||decide (n<1)||decide (n>nodes)||decide (WM<1)||decide (WM>EW))=true then(Fj,1)
 else if(!decide (a.Cn=0)||G_ a)=true then(Fj,152)
 else({a with A0:=FQ (·.Bn) AGl (Sn (JW a n WM) (Jx a) (K4 a) nodes) a.A0},0)
def Mx(a:AD)(r:Int):AD×Int:=if E4 a=false then(Fj,21)else if(decide (r<1)||decide (r>EW))=true then(Fj,1)else if a.Cn=0 then({a with Cn:=r},0)else(a,0)
def OA(a:AD):AD×Int:=if E4 a=false then(Fj,21)else({a with Cn:=0},0)
def Mk(a:AD)(n WM round IG:Int):AD×Int:=
 if E4 a=false then(Fj,21)
 else if(!(IC a n).2|| !decide ((IC a n).1.G0=WM))=true then(Fj,151)
 else if(decide (a.Cn=0)|| !decide (a.Cn=round))=true then(Fj,152)
 else if(decide (IG>(IC a n).1.DV)||decide (IG< -(IC a n).1.Fc))=true then(Fj,150)
 else({a with BT:=a.BT+IG,A0:=a.A0.filter (fun h=> !decide (h.Bn=n))},0)
def LJ(a:AD):Int:=if E4 a=false then 21 else if(Io a).2=false then 152 else 0
def Pu(a:AD)(s:GC):AD×Int:=if ¬LJ a=0 then(Fj,LJ a)else if Rb s a.BT=false then(Fj,150)else({a with Cs:=s},0)
def KA(a:AD)(l:F_):AD×Int:=
 if E4 a=false then(Fj,21)else if Sk l=false then(Fj,1)else if ¬LJ a=0 then(Fj,LJ a)else if UJ a l=false then(Fj,150)else({a with BG:=l},0)
def D1(a:AD)(ye:Bool):AD×Int:=
 if E4 a=false then(Fj,21)else if G_ a=false then(Fj,60)else({a with BT:=if ye=true then a.BT+a.BG.B2 else a.BT,BG:=XG},0)
-- marks
def FU(l:List BL)(c:Int):BL×Bool:=if Fg l=false then(gT,false)else if G9 (·.Ap) AGl c l=false then(gT,false)else(l.getD (Cz (·.Ap) AGl c l) default,true)
def LP(l:List BL)(m:BL):List BL:=FQ (·.Ap) AGl m l
def IS(l:List BL)(c q:Int):List BL×Bool×Int:=
 if Fg l=false then([],false,21)
 else if(decide (c<1)||decide (c>8)||decide (q<1)||decide (q>EW))=true then([],false,1)
 else if((FU l c).2&&decide ((FU l c).1.As>q))=true then([],false,80)
 else if((FU l c).2&&decide ((FU l c).1.As=q))=true then(l,false,0)
 else(LP l {Ap:=c,As:=q,HV:=true,Cm:=⟨0,0,0,0⟩},true,0)
def KQ(l:List BL)(c q:Int):Int:=if Fg l=false then 21 else if(!(FU l c).2|| !decide ((FU l c).1.As=q)|| !(FU l c).1.HV)=true then 60 else 0
def Oe(l:List BL)(c q:Int)(a:De):List BL×Int:=if ¬KQ l c q=0 then([],KQ l c q)else(LP l {Ap:=c,As:=q,HV:=false,Cm:=a},0)
def G'(l:List BL)(c q:Int):List BL×Int:=if ¬KQ l c q=0 then([],KQ l c q)else(LP l {Ap:=c,As:=q-1,HV:=false,Cm:=⟨80,0,0,0⟩},0)
def Ld(out:List BL)(m:BL):List BL:=
 if(!(FU out m.Ap).2||decide (m.As>(FU out m.Ap).1.As)||(decide (m.As=(FU out m.Ap).1.As)&&(FU out m.Ap).1.HV&& !m.HV))=true then LP out m else out
def M_(a b:List BL):List BL×Int:=if(Fg a&&Fg b)=false then([],21)else(b.foldl Ld a,0)
-- deals
def Mf(l:List Bx)(d:Bx):List Bx×Int:=
 if Is l=false then([],21)
 else if(!M1 d|| !decide (d.DN=0)|| !decide (d.DO=0)|| !decide (d.C3=0))=true then([],1)
 else if decide (HI (Kt l d.Ap d.As)>=0)=true then([],171)
 else if(l.length:Int)>=4 then([],3)
 else(l++[d],0)
def F1(l:List Bx)(c q:Int):Int×Int:=if Is l=false then(0,21)else if HI (Kt l c q)<0 then(0,60)else(HI (Kt l c q),0)
def TT(d:Bx)(bH is:Bool):Bx×Bool:=
 if(!decide (d.C3=0)|| !decide ((if bH=true then d.DN else d.DO)=0))=true then(d,false)
 else
  let e:Bx:=if bH=true then{d with DN:=if is=true then 1 else 2}else{d with DO:=if is=true then 1 else 2}
  ({e with C3:=JN e.DN e.DO},!decide (JN e.DN e.DO=0))
def Jk(l:List Bx)(c q:Int)(bH is:Bool):List Bx×Bool×Int:=
 if ¬(F1 l c q).2=0 then([],false,(F1 l c q).2)
 else(l.set (F1 l c q).1.toNat (TT (l.getD (F1 l c q).1.toNat default) bH is).1,(TT (l.getD (F1 l c q).1.toNat default) bH is).2,0)
def NJ(l:List Bx)(c q:Int):List Bx×Bool×Int:=
 if ¬(F1 l c q).2=0 then([],false,(F1 l c q).2)
 else if(l.getD (F1 l c q).1.toNat default).C3=0 then(l.set (F1 l c q).1.toNat {l.getD (F1 l c q).1.toNat default with C3:=2},true,0)
 else(l,false,0)
def OP(l:List Bx)(c q:Int):List Bx×Int:=
 if ¬(F1 l c q).2=0 then([],(F1 l c q).2)
 else if(l.getD (F1 l c q).1.toNat default).C3=0 then([],60)
 else(l.eraseIdx (F1 l c q).1.toNat,0)
-- ends
def H_(l:List Df)(c:Int):Nat:=(Gd l.length (fun j=>decide ((l.getD j default).Ap>=c))).getD l.length
def Sj(l:List Df)(c:Int):Bool:=decide (H_ l c<l.length)&&decide ((l.getD (H_ l c) default).Ap=c)
def Kv(l:List Df)(c q:Int):List Df×Int:=
 if HE l=false then([],21)else if Jj c q=false then([],1)
 else if Sj l c=false then(FO (H_ l c) ⟨c,q⟩ l,0)
 else(l.set (H_ l c) {l.getD (H_ l c) default with As:=max (l.getD (H_ l c) default).As q},0)
def fx(l:List Df)(c q:Int):Bool:=Sj l c&&decide ((l.getD (H_ l c) default).As>=q)&&HE l
def Ok(a b:List Df):List Df×Int:=if(HE a&&HE b)=false then([],21)else(b.foldl (fun out x=>(Kv out x.Ap x.As).1) a,0)
structure Cc where
 out:List UInt8
 E6:Bool
 deriving DecidableEq,Inhabited
def H4(b:List UInt8)(w:Cc):Cc:=if(w.E6||decide (b.length>65536-w.out.length))=true then{w with E6:=true}else{w with out:=w.out++b}
def E2(v:Int)(w:Cc):Cc:=if w.E6=true then w else H4 (QZ v) w
def KU(l:List Int)(w:Cc):Cc:=l.foldl (fun w v=>E2 v w) w
def Gy(b:Bool)(w:Cc):Cc:=if w.E6=true then w else H4 [if b=true then 1 else 0] w
def KT(b:List UInt8)(w:Cc):Cc:=if w.E6=true then w else if b.length>65535 then{w with E6:=true}else H4 (RS b) w
def KD:List ByteArray->Cc->Cc
 |[],w=>w
 |s::r,w=>if s.size>65535 then{w with E6:=true}else KD r (KT s.data.toList w)
def MS{α:Type}(one:α->Cc->Cc):List α->Cc->Cc
 |[],w=>w
 |x::r,w=>if w.E6=true then w else MS one r (one x w)
def CH{α:Type}(one:α->Cc->Cc)(l:List α)(w:Cc):Cc:=if w.E6=true then w else if l.length>1024 then{w with E6:=true}else MS one l (H4 (GN l.length) w)
def Zv(o:FL)(w:Cc):Cc:=KU [o.B2,o.A6,o.Bc] (KD [o.Al,o.EL] (KU [o.Ca] w))
def Lq(p:Fs)(w:Cc):Cc:=KU [p.Ap,p.As] (KD [p.A6,p.Bc] (KU [p.Ev,p.Hi,p.IX] w))
def PY(h:BD)(w:Cc):Cc:=KU [h.Bn,h.G0,h.DV,h.Fc] w
def I_(a:AD)(w:Cc):Cc:=KU [a.BG.Ap,a.BG.As,a.BG.DH,a.BG.B2] (CH PY a.A0 (KU [a.Cs.A6,a.Cs.Bc,a.BT,a.Cn] (KD [a.Al] w)))
def Kc(m:BL)(w:Cc):Cc:=KU [m.Cm.JM,m.Cm.JJ,m.Cm.JK] (KU [m.Cm.Jd] (Gy m.HV (KU [m.Ap,m.As] w)))
def KV(x:BX)(w:Cc):Cc:=Zv x.AM (KU [x.Ca,x.Ap,x.As,x.Bn,x.DH] w)
def LO(d:Bx)(w:Cc):Cc:=KU [d.B2,d.DN,d.DO,d.C3] (KD [d.Al,d.EL] (KU [d.Ap,d.As] w))
def Mq(e:Df)(w:Cc):Cc:=KU [e.Ap,e.As] w
def N7(s:Bv)(w:Cc):Cc:=
 KU [s.Jc,s.JL,s.GW] (KT s.Cf (Lq s.CW (Lq s.Bt (CH Mq s.CX (CH LO s.Bj (CH KV s.AA (CH Kc s.Bz (CH I_ s.Aj
  (KU [s.Dn] (KD [s.A6,s.Bc] (Gy s.Du (KU [s.CZ,s.DX] w))))))))))))
def IW(s:Bv):List UInt8×Int:=if(N7 s ⟨[],false⟩).E6=true then([],22)else((N7 s ⟨[],false⟩).out,0)
structure FE where
 Ca:Int
 Ap:Int
 As:Int
 Cm:De
 deriving DecidableEq,Inhabited
structure JE where
 Bn:Int
 Al:ByteArray
 deriving DecidableEq,Inhabited
structure Ah where
 S:Bv
 ix:Int
 nd:Int
 EF:List FE
 BQ:List JE
 deriving DecidableEq,Inhabited
def GS:De:=⟨0,0,0,0⟩
def HN(e:Int):De:=⟨e,0,0,0⟩
def FP:Fs:=⟨0,0,0,ByteArray.empty,ByteArray.empty,0,0⟩
def BF(l:List AD)(k:ByteArray):AD×Bool:=match Gd l.length (fun j=>decide ((l.getD j default).Al=k))with
 |some j=>(l.getD j default,true)
 |none=>((O9 k).1,false)
def Ah.put(w:Ah)(a:AD):Ah:={w with S:={w.S with Aj:=FQ (·.Al) Ds a w.S.Aj}}
def Ah.tell(w:Ah)(kind c q:Int)(a:De):Ah:={w with EF:=w.EF++[⟨kind,c,q,a⟩]}
def Ah.done(w:Ah)(c q:Int)(a:De):Ah:=
 let v:=w.tell 1 c q a
 if(Oe v.S.Bz c q a).2=0 then{v with S:={v.S with Bz:=(Oe v.S.Bz c q a).1}}else v
def Ah.served(w:Ah)(c q n:Int)(k:ByteArray)(a:De):Ah:=
 let v:=w.done c q a
 if a.Jd=0 then{v with BQ:=v.BQ++[⟨n,k⟩]}else v
def Hn(a:AD)(c q:Int):Bool:= !decide (a.BG.Ap=0)&&decide (a.BG.Ap=c)&&decide (a.BG.As=q)
def Ah.raise(w:Ah)(c q:Int):Ah:=if(Kv w.S.CX c q).2=0 then{w with S:={w.S with CX:=(Kv w.S.CX c q).1}}else w
def Ah.drop(w:Ah)(gone:BX->Bool):Ah:={w with S:={w.S with AA:=w.S.AA.filter (fun x=> !gone x)}}
def Ah.ends(w:Ah)(c q e:Int):Ah:=
 let d:=(findD w.S.Bj c q)
 let v:=w.done c q (HN e)
 let v:Ah:={v with S:={v.S with Aj:=v.S.Aj.map fun a=>if Hn a c q=true then(D1 a (decide (d.C3=1))).1 else a}}
 (v.drop fun x=>decide (x.Ca=2)&&decide (x.Ap=c)&&decide (x.As=q)&&decide (x.DH=v.S.CZ)).raise c q
def Ah.RR(w:Ah)(c q:Int):Ah:=w.ends c q (if(findD w.S.Bj c q).C3=1 then 0 else 150)
def SG(l:List BX)(k:ByteArray):Bool:=l.any fun x=>decide (x.AM.Al=k)
-- commands
def NA(c:Dg)(nodes:Int):Bool:=
 if(!Jj c.Ap c.As||decide (c.Bn<1)||decide (c.Bn>nodes)||decide (c.AM.Ca<1)||decide (c.AM.Ca>6)|| !Ix c.AM.Al)=true then false
 else if(decide (c.AM.Ca=1)||decide (c.AM.Ca=2))=true then decide (c.AM.B2>=1)
 else if c.AM.Ca=6 then decide (c.AM.B2>=1)&&Ix c.AM.EL&& !decide (c.AM.EL=c.AM.Al)
 else true
def signed(o:FL):Int:=if o.Ca=2 then-o.B2 else o.B2
def Mu(w:Ah)(c:Dg):Bool:= !(decide (c.AM.Ca>2)||SG w.S.AA c.AM.Al)&&(BF w.S.Aj c.AM.Al).2&&decide ((JF (BF w.S.Aj c.AM.Al).1 (signed c.AM)).2=0)
def Ah.VR(w:Ah)(c:Dg):Ah:=(w.put (JF (BF w.S.Aj c.AM.Al).1 (signed c.AM)).1).served c.Ap c.As c.Bn c.AM.Al GS
def Ah.wait(w:Ah)(x:BX):Ah:={w with S:={w.S with AA:=w.S.AA++[x]}}
def QW(c:Dg):Bx:={Ap:=c.Ap,As:=c.As,Al:=c.AM.Al,EL:=c.AM.EL,B2:=c.AM.B2,DN:=0,DO:=0,C3:=0}
def Li(c q home:Int)(k:ByteArray)(n:Int):BX:={Ca:=2,Ap:=c,As:=q,Bn:=0,DH:=home,AM:={mV with Al:=k,B2:=n}}
def Ah.T5(w:Ah)(c:Dg):Ah:=
 if(!decide ((Mf w.S.Bj (QW c)).2=0)||decide ((w.S.AA.length:Int)>6))=true then w.served c.Ap c.As c.Bn c.AM.Al (HN 3)
 else
  let v:Ah:={w with S:={w.S with Bj:=(Mf w.S.Bj (QW c)).1}}
  let v:=v.wait (Li c.Ap c.As v.S.CZ c.AM.Al (-c.AM.B2))
  if(F' v.S c.AM.EL&& !Ef v.S c.AM.EL)=true then v.wait (Li c.Ap c.As v.S.CZ c.AM.EL c.AM.B2)else v
def Ah.op(w:Ah)(c:Dg):Ah:=
 if NA c w.nd=false then w
 else
  let b:=IS w.S.Bz c.Ap c.As
  if ¬b.2.2=0 then w
  else if b.2.1=false then(if(!(FU b.1 c.Ap).1.HV&& !decide ((FU b.1 c.Ap).1.Cm.Jd=80))=true then w.tell 1 c.Ap c.As (FU b.1 c.Ap).1.Cm else w)
  else if(!F' w.S c.AM.Al||Ef w.S c.AM.Al|| !decide (c.Dn=w.S.Dn))=true then w.tell 2 c.Ap c.As GS
  else
   let v:Ah:={w with S:={w.S with Bz:=b.1}}
   if c.AM.Ca=6 then v.T5 c
   else if Mu v c=true then v.VR c
   else if(v.S.AA.length:Int)>=8 then v.served c.Ap c.As c.Bn c.AM.Al (HN 3)
   else v.wait {Ca:=1,Ap:=c.Ap,As:=c.As,Bn:=c.Bn,DH:=0,AM:=c.AM}
def Ah.report(w:Ah)(c:Dg):Ah:=
 if(BF w.S.Aj c.Al).2=false then w
 else if(Mk (BF w.S.Aj c.Al).1 c.Bn c.G0 c.Cn c.It).2=0 then w.put (Mk (BF w.S.Aj c.Al).1 c.Bn c.G0 c.Cn c.It).1 else w
def Ah.OR(w:Ah)(c q:Int):Ah:=
 let g:=NJ w.S.Bj c q
 if(decide (g.2.2=0)&&g.2.1)=true then({w with S:={w.S with Bj:=g.1}}:Ah).ends c q 190 else w
def Ah.UQ(w:Ah)(c:Dg):Ah:=
 let v:=match Gd w.S.AA.length (fun j=>decide ((w.S.AA.getD j default).Ca=1)&&decide ((w.S.AA.getD j default).Ap=c.Ap)&&decide ((w.S.AA.getD j default).As=c.As))with
  |some i=>({w with S:={w.S with AA:=w.S.AA.eraseIdx i}}:Ah).done c.Ap c.As (HN 190)
  |none=>w
 v.OR c.Ap c.As
def Ah.Vc(w:Ah)(c:Dg):Ah:=
 if(!Jj c.Ap c.As|| !Ih c.DH|| !Ix c.Al||decide (c.It=0)|| !F' w.S c.Al||Ef w.S c.Al|| !decide (c.Dn=w.S.Dn)||fx w.S.CX c.Ap c.As)=true then w
 else if(Hn (BF w.S.Aj c.Al).1 c.Ap c.As||w.S.AA.any (fun x=>decide (x.Ap=c.Ap)&&decide (x.As=c.As)&&decide (x.AM.Al=c.Al))||decide ((w.S.AA.length:Int)>=8))=true then w
 else w.wait (Li c.Ap c.As c.DH c.Al c.It)
def Ah.T'(w:Ah)(c:Dg):Ah:=
 let g:=Jk w.S.Bj c.Ap c.As false c.Jr
 if ¬g.2.2=0 then w
 else
  let v:Ah:={w with S:={w.S with Bj:=g.1}}
  if g.2.1=true then v.RR c.Ap c.As else v
def Ah.S5(w:Ah)(c:Dg):Ah:=
 if(!F' w.S c.Al|| !Jj c.Ap c.As)=true then w
 else
  let v:=if((BF w.S.Aj c.Al).2&&Hn (BF w.S.Aj c.Al).1 c.Ap c.As)=true then w.put (D1 (BF w.S.Aj c.Al).1 c.Jr).1 else w
  (v.drop fun x=>decide (x.Ca=2)&&decide (x.Ap=c.Ap)&&decide (x.As=c.As)&&decide (x.AM.Al=c.Al)).raise c.Ap c.As
def Ah.forget(w:Ah)(c:Dg):Ah:=if(OP w.S.Bj c.Ap c.As).2=0 then{w with S:={w.S with Bj:=(OP w.S.Bj c.Ap c.As).1}}else w
def Ah.Ic(w:Ah)(x:BX):Ah:=
 if(!decide (x.Ca=1)|| !Ef w.S x.AM.Al)=true then w
 else
  let v:=w.tell 2 x.Ap x.As GS
  if(G' v.S.Bz x.Ap x.As).2=0 then{v with S:={v.S with Bz:=(G' v.S.Bz x.Ap x.As).1}}else v
def Ah.seal(w:Ah)(c:Dg):Ah:=
 let p:=c.Dj
 if(!LK p|| !decide (p.Hi=w.S.CZ)|| !decide (w.S.Bt=FP)|| !decide (w.S.CW=FP)|| !w.S.Du|| !decide (c.Dn=w.S.Dn))=true then w
 else if(decide (p.Ev<=w.S.GW)|| !decide (p.Bc=w.S.Bc)|| !within w.S.A6 w.S.Bc p.A6)=true then w
 else
  let v:Ah:={w with S:={w.S with Bt:=p}}
  let v:=v.S.AA.foldl Ah.Ic v
  let v:=v.drop fun x=>Ef v.S x.AM.Al
  v.S.Bj.foldl (fun u d=>if Ef u.S d.Al=true then u.OR d.Ap d.As else u) v
def Ty(l:List AD)(p:Fs)(j:Nat):Bool:=
 (!decide (IA (E4 (l.getD j default))=0)||FT (l.getD j default)|| !decide ((l.getD j default).BG.Ap=0)||decide (((l.getD j default).A0.length:Int)>0)|| !decide ((l.getD j default).Cn=0))
 ||(!within p.A6 p.Bc (l.getD j default).Al||(decide ((j:Int)>0)&&fc (l.getD j default).Al (l.getD ((j:Int)-1).toNat default).Al))
def FD(b:List UInt8)(p:Fs):Bv×Bool:=
 if(!decide ((Er b).2=0)||decide (((Er b).1.Aj.length:Int)>12))=true then(IP,false)
 else if allI (Er b).1.Aj.length (fun j=> !Ty (Er b).1.Aj p j)=true then((Er b).1,true)else(IP,false)
def Ah.Ry(w:Ah)(l:List AD)(p:Fs):Ah:=
 let v:=l.foldl Ah.put w
 let v:Ah:=if v.S.Du=false then{v with S:={v.S with Du:=true,A6:=p.A6}}else v
 {v with S:={v.S with Bc:=p.Bc}}
def Ah.unseal(w:Ah)(c:Dg):Ah:=
 let n:=c.Dj.Ev
 if n=0 then w
 else if c.Jr=false then(if n=w.S.Bt.Ev then{w with S:={w.S with Bt:=FP,GW:=n}}else w)
 else
  let out:=w.S.CW
  if(!decide (n=out.Ev)|| !decide (w.S.Bt=FP)||(w.S.Du&&(isNil w.S.Bc|| !decide (w.S.Bc=out.A6))))=true then w
  else
   let i:=FD w.S.Cf out
   if(!i.2||decide ((i.1.Aj.length:Int)+w.S.Aj.length>12))=true then w
   else
    let v:Ah:={w with S:={w.S with CW:=FP,Cf:=[],GW:=n}}
    let v:=v.Ry i.1.Aj out
    if v.S.Dn=0 then{v with S:={v.S with Dn:=1}}else v
def Ah.RI(w:Ah)(c:Dg):Ah:=
 let p:=c.Dj
 if(!LK p|| !decide (p.IX=w.S.CZ)||decide (p.Ev<=w.S.Jc)||decide (c.Dn<1)||decide (c.Dn>EW))=true then w
 else
  let i:=FD c.Cf p
  if(!i.2|| !Fg i.1.Bz|| !HE i.1.CX)=true then w
  else
   let v:Ah:={w with S:={w.S with Jc:=p.Ev}}
   if((v.S.Du&&(isNil v.S.Bc|| !decide (v.S.Bc=p.A6)))|| !decide (v.S.Bt=FP)||decide ((i.1.Aj.length:Int)+v.S.Aj.length>12))=true then{v with S:={v.S with JL:=p.Ev}}
   else
    let v:=v.Ry i.1.Aj p
    {v with S:={v.S with Bz:=(M_ v.S.Bz i.1.Bz).1,CX:=(Ok v.S.CX i.1.CX).1,Dn:=c.Dn}}
def Ah.WS(w:Ah)(c:Dg):Ah:=
 if(decide (c.Dj.Ev=0)|| !decide (c.Dj.Ev=w.S.CW.Ev)||decide (c.Dn<1)||decide (c.Dn>EW))=true then w
 else{w with S:={w.S with CW:=FP,Cf:=[],GW:=c.Dj.Ev,Dn:=max w.S.Dn c.Dn}}
def Ah.cmd(w:Ah)(c:Dg):Ah:=
 if c.Ca=1 then w.op c else if c.Ca=2 then w.report c else if c.Ca=3 then w.UQ c else if c.Ca=4 then w.Vc c else if c.Ca=5 then w.T' c else if c.Ca=6 then w.S5 c
 else if c.Ca=7 then w.forget c else if c.Ca=8 then w.seal c else if c.Ca=9 then w.unseal c else if c.Ca=10 then w.RI c else if c.Ca=11 then w.WS c else w
-- what waits
def KS(S:Bv):Option Nat:=Gd S.AA.length fun i=>allI i (fun j=> !decide ((S.AA.getD j default).AM.Al=(S.AA.getD i default).AM.Al))&&(Io (BF S.Aj (S.AA.getD i default).AM.Al).1).2
def S2(S:Bv):Int:=if S.CW.Ev=0 then 0 else((Er S.Cf).1.Aj.length:Int)
def H3(w:Ah)(o:FL):Ah×De:=
 let f:=BF w.S.Aj o.Al
 let t:=(Io f.1).1
 if o.Ca=4 then(w,⟨0,t,0,0⟩)
 else if o.Ca=3 then(w,⟨0,0,t,t⟩)
 else if o.Ca=5 then
  if(!f.2&&decide ((w.S.Aj.length:Int)+S2 w.S>=12))=true then(w,HN 3)
  else
   let r:=Pu f.1 ⟨o.A6,o.Bc⟩
   (if r.2=0 then w.put r.1 else w,HN r.2)
 else
  let r:=JF f.1 (signed o)
  (if r.2=0 then w.put r.1 else w,HN r.2)
def Ah.Lf(w:Ah)(x:BX):Ah:=
 if fx w.S.CX x.Ap x.As=true then w
 else
  let r:=KA (BF w.S.Aj x.AM.Al).1 ⟨x.Ap,x.As,x.DH,x.AM.B2⟩
  let v:=if r.2=0 then w.put r.1 else w.tell 3 x.Ap x.As GS
  if ¬x.DH=v.S.CZ then(if ¬r.2=0 then v.raise x.Ap x.As else v)
  else if(!Tz v.S.Bj x.Ap x.As|| !decide ((findD v.S.Bj x.Ap x.As).C3=0))=true then(if(D1 r.1 false).2=0 then v.put (D1 r.1 false).1 else v)
  else
   let g:=Jk v.S.Bj x.Ap x.As (decide (x.AM.Al=(findD v.S.Bj x.Ap x.As).Al)) (decide (r.2=0))
   let u:Ah:={v with S:={v.S with Bj:=g.1}}
   if g.2.1=true then u.RR x.Ap x.As else u
def Ah.L6(w:Ah)(i:Nat):Ah:=
 let x:=w.S.AA.getD i default
 let v:Ah:={w with S:={w.S with AA:=w.S.AA.eraseIdx i}}
 if x.Ca=1 then(H3 v x.AM).1.served x.Ap x.As x.Bn x.AM.Al (H3 v x.AM).2 else v.Lf x
def Ah.waits:Nat->Ah->Ah
 |0,w=>w
 |n+1,w=>match KS w.S with
  |some i=>Ah.waits n (w.L6 i)
  |none=>w
-- what comes at the end
def Gl(S:Bv)(BQ Ag:ByteArray):Bv:=
 {IP with Aj:=(S.Aj.map fun a=>{a with Cn:=0}).filter (fun a=>within BQ Ag a.Al&& !FT a),CX:=S.CX,Bz:=S.Bz.foldl (fun l m=>if(G' l m.Ap m.As).2=0 then(G' l m.Ap m.As).1 else l) S.Bz}
def Py(S:Bv):Bool:= !(decide (S.Bt=FP)||S.Aj.any fun a=>Ef S a.Al&&(decide ((a.A0.length:Int)>0)|| !decide (a.BG.Ap=0)))
def LG(S:Bv):Bv:=
 if Py S=false then S
 else if ¬(IW (Gl S S.Bt.A6 S.Bt.Bc)).2=0 then S
 else
  let T:Bv:={S with CW:=S.Bt,Cf:=(IW (Gl S S.Bt.A6 S.Bt.Bc)).1,Aj:=S.Aj.filter (fun a=> !Ef S a.Al),Bc:=S.Bt.A6,Bt:=FP}
  if S.Bt.A6=S.A6 then{T with Du:=false,A6:=ByteArray.empty,Bc:=ByteArray.empty}else T
def Jv(S:Bv)(ix:Int)(a:AD):AD:=if(SG S.AA a.Al||Ef S a.Al)=true then(Mx a ix).1 else(OA a).1
def Ah.Iv(w:Ah)(x:JE):Ah:=
 if(BF w.S.Aj x.Al).2=false then w
 else if(Kl (BF w.S.Aj x.Al).1 x.Bn w.ix w.nd).2=0 then w.put (Kl (BF w.S.Aj x.Al).1 x.Bn w.ix w.nd).1 else w
def Ah.rest(w:Ah):Ah:=
 let v:Ah:={w with S:=LG w.S}
 let v:Ah:={v with S:={v.S with Aj:=v.S.Aj.map (Jv v.S v.ix)}}
 let v:=v.BQ.foldl Ah.Iv v
 {v with S:={v.S with Aj:=v.S.Aj.filter (fun a=> !FT a)}}
def Gc(S:Bv)(c:Dg)(ix nd:Int):Bv×List FE×Int:=
 if LN S=false then(IP,[],21)
 else if(decide (nd<1)||decide (nd>5))=true then(IP,[],1)
 else if(decide (ix<=S.DX)||decide (ix>EW))=true then(IP,[],80)
 else
  let w:=(({S:={S with DX:=ix},ix:=ix,nd:=nd,EF:=[],BQ:=[]}:Ah).cmd c)
  let w:=(Ah.waits w.S.AA.length w).rest
  (w.S,w.EF,0)
end Go.Apw
namespace Go.A_
open Go.RowKit
section
@[reducible] def RW{σ:Type}(J:List Nat)(LL:σ->Own)(DD:σ->List Atom)(I:σ->Prop):C4 where
 J:=J
 holds S w:=∃s,I s/\Dt (LL s)=J/\(∀p∈LL s,p.holds S w)/\(∀t∈DD s,t.holds S w)
 valid:=by
  rintro S w ⟨s,_,h,Af,_⟩ b Aq;rw[<-h]at Aq;obtain⟨p,AH,Sf⟩:=FW.1 Aq;exact p.valid (Af p AH) b Sf
 DY:=by
  rintro S Fq w AT ⟨s,AU,h,Af,h2⟩ hs hw;refine⟨s,AU,h,fun p AH=>p.DY (Af p AH) hs fun b Aq=>hw b (Aq.imp id fun Aq=>?_),fun t Av=>Atom.DY (h2 t Av) hs fun b Aq=>hw b (.inl Aq)⟩;rw[<-h];exact FW.2 ⟨p,AH,Aq⟩
theorem CI.TO{BW w:World}{M:List Nat}{L DZ:Own}(st:CI BW M w L)(Aq:DZ.J=L.J)(A7:∀p∈DZ,p.holds (Et L.J w) w):CI BW M w DZ:=
 ⟨st.Ln,fun p AH=>by rw[Aq];exact A7 p AH,by rw[Aq];exact st.nd,by rw[Aq];exact st.new⟩
theorem BP.TO{w:World}{D:List Atom}{L DZ:Own}(AR:BP D w L)(Aq:DZ.J=L.J):BP D w DZ:=fun t Av=>by rw[Aq];exact AR t Av
theorem AjI{L:Own}{i:Nat}{q:C4}(Ag:L[i]? =some q):L=L.take i++q::L.drop (i+1):=by
 obtain⟨h,rfl⟩:=ABF.1 Ag;rw[<-List.drop_eq_getElem_cons h,ADT]
theorem nJ(p:C4)(L:Own):Own.J (p::L)=p.J++Own.J L:=rfl
theorem XW(A B:Own):Own.J (A++B)=Own.J A++Own.J B:=OJ A B
theorem zt{σ:Type}{J:List Nat}{LL:σ->Own}{DD:σ->List Atom}{I:σ->Prop}{BW w:World}{M:List Nat}{L:Own}{D:List Atom}(i:Nat)(Ag:L[i]? =some (RW J LL DD I))(st:CI BW M w L)(AR:BP D w L):
 ∃s,I s/\CI BW M w (L.take i++(LL s++L.drop (i+1)))/\BP (DD s++D) w (L.take i++(LL s++L.drop (i+1))):=by
 obtain⟨s,AU,Aq,Af,h2⟩:=st.own _ (AA' Ag);have Dv:=AjI Ag;have e:Own.J (L.take i++(LL s++L.drop (i+1)))=L.J:=by
  conv=>rhs;rw[Dv]
  rw[XW,XW,XW,nJ];rw[show Own.J (LL s)=J from Aq]
 refine⟨s,AU,st.TO e fun p AH=>?_,(BP.app (fun t Av=>h2 t Av) AR).TO e⟩;rcases ABm.1 AH with AH|AH
 · exact st.own p (List.mem_of_mem_take AH)
 · rcases ABm.1 AH with AH|AH
   · exact Af p AH
   · exact st.own p (List.mem_of_mem_drop AH)
theorem h9{σ:Type}{LL:σ->Own}{DD:σ->List Atom}{I:σ->Prop}{BW w:World}{M:List Nat}{D:List Atom}(A C:Own)(s:σ)(AU:I s)(DK:Bg (DD s) D)(st:CI BW M w (A++(LL s++C)))(AR:BP D w (A++(LL s++C))):
 CI BW M w (A++RW (Dt (LL s)) LL DD I::C)/\BP D w (A++RW (Dt (LL s)) LL DD I::C):=by
 have e:Own.J (A++RW (Dt (LL s)) LL DD I::C)=Own.J (A++(LL s++C)):=by
  rw[XW,XW,XW,nJ]
 refine⟨st.TO e fun p AH=>?_,AR.TO e⟩;rcases ABm.1 AH with AH|AH
 · exact st.own p (AC9 _ AH)
 · rcases ABf.1 AH with rfl|AH
   · exact⟨s,AU,rfl,fun q B'=>st.own q (ACV _ (AC9 _ B')),fun t Av=>AR t (DK t Av)⟩
   · exact st.own p (ACV _ (ACV _ AH))
section
variable{σ:Type} {J:List Nat} {LL:σ->Own} {DD:σ->List Atom} {I:σ->Prop} {c:Cj} {ops:Array Oper} {Q:AuE} {env:Env} {L:Own} {D:List Atom}
theorem rN(i:Nat){x:Code}(Ag:L[i]? =some (RW J LL DD I))(k:∀s,I s->CF c x Q env (L.take i++(LL s++L.drop (i+1))) (DD s++D)):CF c x Q env L D:=fun a w f st AR=>by
 obtain⟨s,AU,Kz,KI⟩:=zt i Ag st AR;exact k s AU a w f Kz KI
theorem xV(A C:Own)(s:σ){l:List Oper}(Dv:L=A++(LL s++C))(AU:I s)(DK:Bg (DD s) D)(k:Cb Q c ops l env (A++RW (Dt (LL s)) LL DD I::C) D):Cb Q c ops l env L D:=fun a w f st AR=>by
 subst Dv;obtain⟨Kz,KI⟩:=h9 A C s AU DK st AR;exact k a w f Kz KI
theorem nO(A C:Own)(s:σ){x:Code}(Dv:L=A++(LL s++C))(AU:I s)(DK:Bg (DD s) D)(k:CF c x Q env (A++RW (Dt (LL s)) LL DD I::C) D):CF c x Q env L D:=fun a w f st AR=>by
 subst Dv;obtain⟨Kz,KI⟩:=h9 A C s AU DK st AR;exact k a w f Kz KI
theorem nP(A C:Own)(s:σ){e:Exit}(Dv:L=A++(LL s++C))(AU:I s)(DK:Bg (DD s) D)(k:Eg c Q e env (A++RW (Dt (LL s)) LL DD I::C) D):Eg c Q e env L D:=fun a w f st AR=>by
 subst Dv;obtain⟨Kz,KI⟩:=h9 A C s AU DK st AR;exact k a w f Kz KI
end
def DU(L:Own)(GJ:List Atom):Prop:=∀w,(∀p∈L,p.holds (Et L.J w) w)->(∀b∈L.J,b<w.heap.size)->∀t∈GJ,t.holds (Et [] w) w
theorem DU.nil{L:Own}:DU L []:=fun _ _ _ _ Av=>nomatch Av
theorem DU.row{L:Own}{α:Type}{r:Be α}{e:TypeId}{v:Value}{xs:List α}{GJ:List Atom}(i:Nat)(Ag:L[i]? =some (@row α r e v xs))(h:DU L GJ):DU L ((@Atom.mk (List α) (@FI α r) v xs)::GJ):=fun w A7 Aq t Av=>by
 rcases ABf.1 Av with rfl|Av
 · have hm:=AA' Ag;exact Xb (A7 _ hm) (fun b Aq=>⟨Aq.1,by simp⟩) fun b EP=>⟨Aq b (FW.2 ⟨_,hm,EP⟩),by simp⟩
 · exact h w A7 Aq t Av
theorem DU.AO{L:Own}{α:Type}{r:Be α}{b:Nat}{T:TypeId}{cs:List Value}{x:α}{GJ:List Atom}(i:Nat)(Ag:L[i]? =some (AO b T cs))(Ab:∀S w,r.rd S w cs x)(h:DU L GJ):DU L ((@Atom.mk (Cq α) (@F9 α r) (.pointer (some ⟨b,0,none⟩)) ⟨x⟩)::GJ):=fun w A7 Aq t Av=>by
 rcases ABf.1 Av with rfl|Av
 · have hm:=AA' Ag;have hh:w.heap[b]? =some (.cells cs.toArray T (0,0)):=A7 _ hm;refine⟨rfl,b,0,cs,rfl,⟨Aq b (FW.2 ⟨_,hm,by simp⟩),by simp⟩,Ab _ _,fun j u Ay=>?_⟩;rw[AB9 w b _ _ T (0,0) hh];simpa using Ay
 · exact h w A7 Aq t Av
theorem ff{L:Own}{D GJ DB:List Atom}{w:World}(Ew:DU L GJ)(Cl:Bg DB (GJ++D))(A7:∀p∈L,p.holds (Et L.J w) w)(Aq:∀b∈L.J,b<w.heap.size)(AR:BP D w L):∀t∈DB,t.holds (Et [] w) w:=fun t Av=>by
 rcases ABm.1 (Cl t Av)with h|h
 · exact Ew w A7 Aq t h
 · exact Atom.DY (AR t h) (fun b Aq=>⟨Aq.1,by simp⟩) fun _ _=>rfl
section
variable{c:Cj} {ops:Array Oper} {Q:AuE} {env:Env} {L:Own} {D:List Atom} {rest:List Oper} {d:Nat} {v:Value} {t:TypeId} {p:String} {af:Array Edge}
theorem P6(GJ:List Atom){f:FuncId}{vs:List Value}{DB:List Atom}{v:Value}(h:Cv c.P f vs DB v)(CM:GU c.P f){xs:List Operand}{ats:Array TypeId}
 (Hm:Gq env xs=some vs)(Ew:DU L GJ)(Cl:Bg DB (GJ++D))(Ao:Nat.blt d c.n=true)(k:Cb Q c ops rest ((d,v)::env) L D):
 Cb Q c ops (⟨some d,.call {callee:=.value (.func f),args:=xs.toArray,argTypes:=ats},t,p,af,none⟩::rest) env L D:=by
 refine S4 (x:=.func f) (us:=vs) (first:= #[]) (cap:= #[]) (β:=Unit) (R:=fun _ u=>u=v) (out:=fun _ _=>D) rfl Hm (by simp) CM (fun _ _=>L) (fun w st AR=>?_) (fun _ u=>(d,u)::env) (fun _ u a Gw=>Gw.put u (EU Ao)) (fun _ u hu=>by subst hu;exact k)
 refine(h [] w (by simp[Own.J,Dt]) (by simp) (by simp) (fun t Av=>?_)).mono fun u AT ⟨hs,y,Fy,_⟩=>⟨(),Fy,?_,?_⟩
 · have:=ff Ew Cl st.own st.lt AR t Av;simpa[Own.J,Dt]using this
 · exact st.step (by simpa[Own.J,Dt]using hs)
 · exact AR.step (C8.nil (by simpa[Own.J,Dt]using hs))
theorem dH(GJ:List Atom){f:FuncId}{vs:List Value}{DB:List Atom}{v:Value}(h:Cv c.P f vs DB v)(CM:GU c.P f){xs:List Operand}{ats:Array TypeId}
 (Hm:Gq env xs=some vs)(Ew:DU L GJ)(Cl:Bg DB (GJ++D))(Ao:Nat.blt d c.n=true)(k:SZ Q c ops rest ((d,v)::env) L D):
 SZ Q c ops (⟨some d,.call {callee:=.value (.func f),args:=xs.toArray,argTypes:=ats},t,p,af,none⟩::rest) env L D:=by
 intro a w Gw st AR;unfold wpQuiet;rw[AA_ (show Region.wanted ⟨some d,.call {callee:=.value (.func f),args:=xs.toArray,argTypes:=ats},t,p,af,none⟩ (yielded ops a.tmps)=true from rfl)];refine⟨v,fun AT NN=>?_,k _ w (Gw.put v (EU Ao)) st AR⟩;have Ek:=lp (P:=c.P) (ρ:=a.eval) (o:=⟨some d,.call {callee:=.value (.func f),args:=xs.toArray,argTypes:=ats},t,p,af,none⟩) (x:=.func f) (xs:=xs) (ats:=ats) (f:=f) (first:= #[]) (cap:= #[]) (vs:=vs) rfl rfl (Gw.Gq Hm) CM AT
 simp only[List.nil_append,List.append_nil]at Ek;unfold Oper.quietAt;rw[Ek];refine⟨rfl,?_⟩;have Kz:=st.step NN;have KI:=AR.step NN.nil;have Bm:=h [] AT (by simp[Own.J,Dt]) (by simp) (by simp) (fun t Av=>by
  have:=ff Ew Cl Kz.own Kz.lt KI t Av;simpa[Own.J,Dt]using this)
 refine Calls.mono Bm fun e Xq ⟨u,he,AH⟩=>?_;obtain⟨hs,y,Fy,_⟩:=AH;have iT:u=v:=Fy;subst iT;have HW:C8 [] AT Xq:=by simpa[Own.J,Dt]using hs
 exact⟨he,NN.trans HW⟩
theorem Uw(GJ:List Atom){f:FuncId}{vs:List Value}{DB:List Atom}{β:Type}{R:β->Value->Prop}{DM:β->Value->Own}(h:Aw c.P f vs [] DB R DM (fun _ _=>[]))(AU:∀y v,∀p∈DM y v,∀S Fq w,p.holds S w->p.holds Fq w)(CM:GU c.P f){xs:List Operand}{ats:Array TypeId}
 (Hm:Gq env xs=some vs)(Ew:DU L GJ)(Cl:Bg DB (GJ++D))(Ao:Nat.blt d c.n=true)(k:∀y v,R y v->Cb Q c ops rest ((d,v)::env) (DM y v++L) D):
 Cb Q c ops (⟨some d,.call {callee:=.value (.func f),args:=xs.toArray,argTypes:=ats},t,p,af,none⟩::rest) env L D:=by
 refine S4 (x:=.func f) (us:=vs) (first:= #[]) (cap:= #[]) (β:=β) (R:=R) (out:=fun _ _=>D) rfl Hm (by simp) CM (fun y v=>DM y v++L) (fun w st AR=>?_) (fun _ u=>(d,u)::env) (fun _ u a Gw=>Gw.put u (EU Ao)) (fun y u hu=>k y u hu)
 refine(h [] w (by simp[Own.J,Dt]) (by simp) (by simp) (fun t Av=>?_)).mono fun u AT ⟨hs,y,Fy,Af,OZ,eQ,_⟩=>⟨y,Fy,?_,?_⟩
 · have:=ff Ew Cl st.own st.lt AR t Av;simpa[Own.J,Dt]using this
 · have HW:C8 [] w AT:=(by simpa[Own.J,Dt]using hs);exact st.many HW (fun q B'=>AU y u q B' _ _ _ (Af q B')) OZ (fun b Aq=>(eQ b Aq).resolve_left (by simp[Own.J,Dt]))
 · have HW:C8 [] w AT:=(by simpa[Own.J,Dt]using hs);exact AR.many HW (fun b Aq=>(eQ b Aq).resolve_left (by simp[Own.J,Dt]))
end
theorem AiF{α:Type}{r:Be α}(Bh:∀{S Fq w cs x},r.rd S w cs x->r.rd Fq w cs x){e:TypeId}{v:Value}{xs:List α}{S Fq:Nat->Prop}{w:World}(h:(@row α r e v xs).holds S w):(@row α r e v xs).holds Fq w:=by
 obtain⟨Cy,Af,h2,Bo⟩:=h;refine⟨Cy,Af,?_,Bo⟩;have go:∀(Cy:List (List Value)) (xs:List α),@HM α r S w Cy xs->@HM α r Fq w Cy xs:=by
  intro Cy;induction Cy with
  |nil=>intro xs h;cases xs<;>exact h
  |cons c Cy Cg=>intro xs h;cases xs with
   |nil=>exact h
   |cons x xs=>exact⟨Bh h.1,Cg xs h.2⟩
 exact go Cy xs h2
theorem Ajr{α:Type}{s:Shape α}(hs:∀x h,s.sub x h=[]){S Fq:Nat->Prop}{w:World}{cs:List Value}{x:α}(h:(Be.D5 s).rd S w cs x):(Be.D5 s).rd Fq w cs x:=by
 obtain⟨hh,e,_,hw⟩:=h;exact⟨hh,e,(fun(t:Atom) Av=>by rw[hs]at Av;exact nomatch Av),hw⟩
end
end Go.A_
