/- Part 9 of shardStays_holds. -/
import Derived.ArgAppend
import Derived.Laws.IdiomCopy
import Derived.Lib.Overlaps
import Derived.Lib.AppendZerosOnto
import Derived.Test.YtalfaopffbkdnaaGreatSen8

set_option maxRecDepth 20000
set_option maxHeartbeats 1000000
namespace Go
theorem ABI:∀(b:Bool),((!b)=false)=(b=true):=@Bool.not_eq_false'
theorem AB2:∀(n:Nat),¬n<0:=@Nat.not_lt_zero
end Go
open Bool renaming and_assoc→ACY,not_not→ADu
open Eq renaming trans→ABS
open Go renaming cell_of_row→AB9,frozen_of_row→ADx,run_equalIn_struct→AC6
open Go.Addr renaming add_lit→AGr
open Go.Proofs.Tryz renaming underlying28→AC4,underlying33→ACR,underlying44→AC5,underlying60→ADY,underlying68→ADC,underlying71→ADl
open Go.Result renaming andThen_ok→AB'
open Go.Sem renaming run_bind→ABY,run_pure→ACk
open List renaming append_assoc→ACN,getElem?_append_left→ADP,getElem?_append_right→ADE,getElem?_drop→ADh,length_append→ABP,map_nil→ACU,map_toArray→ACQ,mem_append_left→AC9,mem_append_right→ACV
open Nat renaming add_mul→ADG,min_eq_left→ADH
open Option renaming map_eq_some_iff→ACr
open Go.A_ Go.Proofs Go.Proofs.YtalfaopffbkdnaaGreat Go.Apw
namespace Go.A_
open Go.RowKit
section
@[reducible] def RW{σ:Type}(J:List Nat)(LL:σ->Own)(DD:σ->List Atom)(I:σ->Prop):C4 where
 J:=J
 holds S w:=∃s,I s/\Dt (LL s)=J/\(∀p∈LL s,p.holds S w)/\(∀t∈DD s,t.holds S w)
 valid:=by
  rintro S w ⟨s,_,h,Af,_⟩ b Aq;rw[<-h]at Aq;obtain⟨p,AH,Sf⟩:=FW.1 Aq;exact p.valid (Af p AH) b Sf
 DY:=by
  rintro S Fq w AT ⟨s,AU,h,Af,h2⟩ hs hw;refine⟨s,AU,h,fun p AH=>p.DY (Af p AH) hs fun b Aq=>hw b (Aq.imp id fun Aq=>?_),fun t Av=>Atom.DY (h2 t Av) hs fun b Aq=>hw b (.inl Aq)⟩;rw[<-h];exact FW.2 ⟨p,AH,Aq⟩
theorem CI.TO{BW w:World}{M:List Nat}{L DZ:Own}(st:CI BW M w L)(Aq:DZ.J=L.J)(A7:∀p∈DZ,p.holds (Et L.J w) w):CI BW M w DZ:=
 ⟨st.Ln,fun p AH=>by rw[Aq];exact A7 p AH,by rw[Aq];exact st.nd,by rw[Aq];exact st.new⟩
theorem BP.TO{w:World}{D:List Atom}{L DZ:Own}(AR:BP D w L)(Aq:DZ.J=L.J):BP D w DZ:=fun t Av=>by rw[Aq];exact AR t Av
theorem AjI{L:Own}{i:Nat}{q:C4}(Ag:L[i]? =some q):L=L.take i++q::L.drop (i+1):=by
 obtain⟨h,rfl⟩:=ABF.1 Ag;rw[<-List.drop_eq_getElem_cons h,List.take_append_drop]
theorem nJ(p:C4)(L:Own):Own.J (p::L)=p.J++Own.J L:=rfl
theorem XW(A B:Own):Own.J (A++B)=Own.J A++Own.J B:=OJ A B
theorem zt{σ:Type}{J:List Nat}{LL:σ->Own}{DD:σ->List Atom}{I:σ->Prop}{BW w:World}{M:List Nat}{L:Own}{D:List Atom}(i:Nat)(Ag:L[i]? =some (RW J LL DD I))(st:CI BW M w L)(AR:BP D w L):
 ∃s,I s/\CI BW M w (L.take i++(LL s++L.drop (i+1)))/\BP (DD s++D) w (L.take i++(LL s++L.drop (i+1))):=by
 obtain⟨s,AU,Aq,Af,h2⟩:=st.own _ (AA' Ag);have Dv:=AjI Ag;have e:Own.J (L.take i++(LL s++L.drop (i+1)))=L.J:=by
  conv=>rhs;rw[Dv]
  rw[XW,XW,XW,nJ];rw[show Own.J (LL s)=J from Aq]
 refine⟨s,AU,st.TO e fun p AH=>?_,(BP.app (fun t Av=>h2 t Av) AR).TO e⟩;rcases ABm.1 AH with AH|AH
 · exact st.own p (List.mem_of_mem_take AH)
 · rcases ABm.1 AH with AH|AH
   · exact Af p AH
   · exact st.own p (List.mem_of_mem_drop AH)
theorem h9{σ:Type}{LL:σ->Own}{DD:σ->List Atom}{I:σ->Prop}{BW w:World}{M:List Nat}{D:List Atom}(A C:Own)(s:σ)(AU:I s)(DK:Bg (DD s) D)(st:CI BW M w (A++(LL s++C)))(AR:BP D w (A++(LL s++C))):
 CI BW M w (A++RW (Dt (LL s)) LL DD I::C)/\BP D w (A++RW (Dt (LL s)) LL DD I::C):=by
 have e:Own.J (A++RW (Dt (LL s)) LL DD I::C)=Own.J (A++(LL s++C)):=by
  rw[XW,XW,XW,nJ]
 refine⟨st.TO e fun p AH=>?_,AR.TO e⟩;rcases ABm.1 AH with AH|AH
 · exact st.own p (AC9 _ AH)
 · rcases ABf.1 AH with rfl|AH
   · exact⟨s,AU,rfl,fun q B'=>st.own q (ACV _ (AC9 _ B')),fun t Av=>AR t (DK t Av)⟩
   · exact st.own p (ACV _ (ACV _ AH))
section
variable{σ:Type} {J:List Nat} {LL:σ->Own} {DD:σ->List Atom} {I:σ->Prop} {c:Cj} {ops:Array Oper} {Q:AuE} {env:Env} {L:Own} {D:List Atom}
theorem rN(i:Nat){x:Code}(Ag:L[i]? =some (RW J LL DD I))(k:∀s,I s->CF c x Q env (L.take i++(LL s++L.drop (i+1))) (DD s++D)):CF c x Q env L D:=fun a w f st AR=>by
 obtain⟨s,AU,Kz,KI⟩:=zt i Ag st AR;exact k s AU a w f Kz KI
theorem xV(A C:Own)(s:σ){l:List Oper}(Dv:L=A++(LL s++C))(AU:I s)(DK:Bg (DD s) D)(k:Cb Q c ops l env (A++RW (Dt (LL s)) LL DD I::C) D):Cb Q c ops l env L D:=fun a w f st AR=>by
 subst Dv;obtain⟨Kz,KI⟩:=h9 A C s AU DK st AR;exact k a w f Kz KI
theorem nO(A C:Own)(s:σ){x:Code}(Dv:L=A++(LL s++C))(AU:I s)(DK:Bg (DD s) D)(k:CF c x Q env (A++RW (Dt (LL s)) LL DD I::C) D):CF c x Q env L D:=fun a w f st AR=>by
 subst Dv;obtain⟨Kz,KI⟩:=h9 A C s AU DK st AR;exact k a w f Kz KI
theorem nP(A C:Own)(s:σ){e:Exit}(Dv:L=A++(LL s++C))(AU:I s)(DK:Bg (DD s) D)(k:Eg c Q e env (A++RW (Dt (LL s)) LL DD I::C) D):Eg c Q e env L D:=fun a w f st AR=>by
 subst Dv;obtain⟨Kz,KI⟩:=h9 A C s AU DK st AR;exact k a w f Kz KI
end
def DU(L:Own)(GJ:List Atom):Prop:=∀w,(∀p∈L,p.holds (Et L.J w) w)->(∀b∈L.J,b<w.heap.size)->∀t∈GJ,t.holds (Et [] w) w
theorem DU.nil{L:Own}:DU L []:=fun _ _ _ _ Av=>nomatch Av
theorem DU.row{L:Own}{α:Type}{r:Be α}{e:TypeId}{v:Value}{xs:List α}{GJ:List Atom}(i:Nat)(Ag:L[i]? =some (@row α r e v xs))(h:DU L GJ):DU L ((@Atom.mk (List α) (@FI α r) v xs)::GJ):=fun w A7 Aq t Av=>by
 rcases ABf.1 Av with rfl|Av
 · have hm:=AA' Ag;exact Xb (A7 _ hm) (fun b Aq=>⟨Aq.1,by simp⟩) fun b EP=>⟨Aq b (FW.2 ⟨_,hm,EP⟩),by simp⟩
 · exact h w A7 Aq t Av
theorem DU.AO{L:Own}{α:Type}{r:Be α}{b:Nat}{T:TypeId}{cs:List Value}{x:α}{GJ:List Atom}(i:Nat)(Ag:L[i]? =some (AO b T cs))(Ab:∀S w,r.rd S w cs x)(h:DU L GJ):DU L ((@Atom.mk (Cq α) (@F9 α r) (.pointer (some ⟨b,0,none⟩)) ⟨x⟩)::GJ):=fun w A7 Aq t Av=>by
 rcases ABf.1 Av with rfl|Av
 · have hm:=AA' Ag;have hh:w.heap[b]? =some (.cells cs.toArray T (0,0)):=A7 _ hm;refine⟨rfl,b,0,cs,rfl,⟨Aq b (FW.2 ⟨_,hm,by simp⟩),by simp⟩,Ab _ _,fun j u Ay=>?_⟩;rw[AB9 w b _ _ T (0,0) hh];simpa using Ay
 · exact h w A7 Aq t Av
theorem ff{L:Own}{D GJ DB:List Atom}{w:World}(Ew:DU L GJ)(Cl:Bg DB (GJ++D))(A7:∀p∈L,p.holds (Et L.J w) w)(Aq:∀b∈L.J,b<w.heap.size)(AR:BP D w L):∀t∈DB,t.holds (Et [] w) w:=fun t Av=>by
 rcases ABm.1 (Cl t Av)with h|h
 · exact Ew w A7 Aq t h
 · exact Atom.DY (AR t h) (fun b Aq=>⟨Aq.1,by simp⟩) fun _ _=>rfl
section
variable{c:Cj} {ops:Array Oper} {Q:AuE} {env:Env} {L:Own} {D:List Atom} {rest:List Oper} {d:Nat} {v:Value} {t:TypeId} {p:String} {af:Array Edge}
theorem P6(GJ:List Atom){f:FuncId}{vs:List Value}{DB:List Atom}{v:Value}(h:Cv c.P f vs DB v)(CM:GU c.P f){xs:List Operand}{ats:Array TypeId}
 (Hm:Gq env xs=some vs)(Ew:DU L GJ)(Cl:Bg DB (GJ++D))(Ao:Nat.blt d c.n=true)(k:Cb Q c ops rest ((d,v)::env) L D):
 Cb Q c ops (⟨some d,.call {callee:=.value (.func f),args:=xs.toArray,argTypes:=ats},t,p,af,none⟩::rest) env L D:=by
 refine S4 (x:=.func f) (us:=vs) (first:= #[]) (cap:= #[]) (β:=Unit) (R:=fun _ u=>u=v) (out:=fun _ _=>D) rfl Hm (by simp) CM (fun _ _=>L) (fun w st AR=>?_) (fun _ u=>(d,u)::env) (fun _ u a Gw=>Gw.put u (EU Ao)) (fun _ u hu=>by subst hu;exact k)
 refine(h [] w (by simp[Own.J,Dt]) (by simp) (by simp) (fun t Av=>?_)).mono fun u AT ⟨hs,y,Fy,_⟩=>⟨(),Fy,?_,?_⟩
 · have:=ff Ew Cl st.own st.lt AR t Av;simpa[Own.J,Dt]using this
 · exact st.step (by simpa[Own.J,Dt]using hs)
 · exact AR.step (C8.nil (by simpa[Own.J,Dt]using hs))
theorem dH(GJ:List Atom){f:FuncId}{vs:List Value}{DB:List Atom}{v:Value}(h:Cv c.P f vs DB v)(CM:GU c.P f){xs:List Operand}{ats:Array TypeId}
 (Hm:Gq env xs=some vs)(Ew:DU L GJ)(Cl:Bg DB (GJ++D))(Ao:Nat.blt d c.n=true)(k:SZ Q c ops rest ((d,v)::env) L D):
 SZ Q c ops (⟨some d,.call {callee:=.value (.func f),args:=xs.toArray,argTypes:=ats},t,p,af,none⟩::rest) env L D:=by
 intro a w Gw st AR;unfold wpQuiet;rw[AA_ (show Region.wanted ⟨some d,.call {callee:=.value (.func f),args:=xs.toArray,argTypes:=ats},t,p,af,none⟩ (yielded ops a.tmps)=true from rfl)];refine⟨v,fun AT NN=>?_,k _ w (Gw.put v (EU Ao)) st AR⟩;have Ek:=lp (P:=c.P) (ρ:=a.eval) (o:=⟨some d,.call {callee:=.value (.func f),args:=xs.toArray,argTypes:=ats},t,p,af,none⟩) (x:=.func f) (xs:=xs) (ats:=ats) (f:=f) (first:= #[]) (cap:= #[]) (vs:=vs) rfl rfl (Gw.Gq Hm) CM AT
 simp only[List.nil_append,List.append_nil]at Ek;unfold Oper.quietAt;rw[Ek];refine⟨rfl,?_⟩;have Kz:=st.step NN;have KI:=AR.step NN.nil;have Bm:=h [] AT (by simp[Own.J,Dt]) (by simp) (by simp) (fun t Av=>by
  have:=ff Ew Cl Kz.own Kz.lt KI t Av;simpa[Own.J,Dt]using this)
 refine Calls.mono Bm fun e Xq ⟨u,he,AH⟩=>?_;obtain⟨hs,y,Fy,_⟩:=AH;have iT:u=v:=Fy;subst iT;have HW:C8 [] AT Xq:=by simpa[Own.J,Dt]using hs
 exact⟨he,NN.trans HW⟩
theorem Uw(GJ:List Atom){f:FuncId}{vs:List Value}{DB:List Atom}{β:Type}{R:β->Value->Prop}{DM:β->Value->Own}(h:Aw c.P f vs [] DB R DM (fun _ _=>[]))(AU:∀y v,∀p∈DM y v,∀S Fq w,p.holds S w->p.holds Fq w)(CM:GU c.P f){xs:List Operand}{ats:Array TypeId}
 (Hm:Gq env xs=some vs)(Ew:DU L GJ)(Cl:Bg DB (GJ++D))(Ao:Nat.blt d c.n=true)(k:∀y v,R y v->Cb Q c ops rest ((d,v)::env) (DM y v++L) D):
 Cb Q c ops (⟨some d,.call {callee:=.value (.func f),args:=xs.toArray,argTypes:=ats},t,p,af,none⟩::rest) env L D:=by
 refine S4 (x:=.func f) (us:=vs) (first:= #[]) (cap:= #[]) (β:=β) (R:=R) (out:=fun _ _=>D) rfl Hm (by simp) CM (fun y v=>DM y v++L) (fun w st AR=>?_) (fun _ u=>(d,u)::env) (fun _ u a Gw=>Gw.put u (EU Ao)) (fun y u hu=>k y u hu)
 refine(h [] w (by simp[Own.J,Dt]) (by simp) (by simp) (fun t Av=>?_)).mono fun u AT ⟨hs,y,Fy,Af,OZ,eQ,_⟩=>⟨y,Fy,?_,?_⟩
 · have:=ff Ew Cl st.own st.lt AR t Av;simpa[Own.J,Dt]using this
 · have HW:C8 [] w AT:=(by simpa[Own.J,Dt]using hs);exact st.many HW (fun q B'=>AU y u q B' _ _ _ (Af q B')) OZ (fun b Aq=>(eQ b Aq).resolve_left (by simp[Own.J,Dt]))
 · have HW:C8 [] w AT:=(by simpa[Own.J,Dt]using hs);exact AR.many HW (fun b Aq=>(eQ b Aq).resolve_left (by simp[Own.J,Dt]))
end
theorem AiF{α:Type}{r:Be α}(Bh:∀{S Fq w cs x},r.rd S w cs x->r.rd Fq w cs x){e:TypeId}{v:Value}{xs:List α}{S Fq:Nat->Prop}{w:World}(h:(@row α r e v xs).holds S w):(@row α r e v xs).holds Fq w:=by
 obtain⟨Cy,Af,h2,Bo⟩:=h;refine⟨Cy,Af,?_,Bo⟩;have go:∀(Cy:List (List Value)) (xs:List α),@HM α r S w Cy xs->@HM α r Fq w Cy xs:=by
  intro Cy;induction Cy with
  |nil=>intro xs h;cases xs<;>exact h
  |cons c Cy Cg=>intro xs h;cases xs with
   |nil=>exact h
   |cons x xs=>exact⟨Bh h.1,Cg xs h.2⟩
 exact go Cy xs h2
theorem Ajr{α:Type}{s:Shape α}(hs:∀x h,s.sub x h=[]){S Fq:Nat->Prop}{w:World}{cs:List Value}{x:α}(h:(Be.D5 s).rd S w cs x):(Be.D5 s).rd Fq w cs x:=by
 obtain⟨hh,e,_,hw⟩:=h;exact⟨hh,e,(fun(t:Atom) Av=>by rw[hs]at Av;exact nomatch Av),hw⟩
end
section
theorem fS{α:Type}{r:Be α}{S:Nat->Prop}{w:World}{g cap:Nat}{E:TypeId}{cs:List Value}{ys:List α}(CK:w.heap[g]? =some (.cells cs.toArray E (0,0)))(Bm:cs.length=cap*r.size)(Ao:ys.length<=cap)(hm:cap<=maxLen)(AN:ys.length<=140737488355328)
 (h:∀i x,ys[i]? =some x->∃Cx,r.rd S w Cx x/\Lt w g (0+i*r.size) Cx):(@row α r E (.slice (some ⟨g,0,none⟩) ys.length cap) ys).holds S w:=by
 obtain⟨Cy,Bh,a7⟩:=@cn α r S w g 0 ys 0 (by simpa using h);have FF:=@HM.len α r S w Cy ys Bh;refine⟨Cy,⟨FF,.inr ⟨g,cap,cs.toArray,rfl,ABg _,CK,Ao,hm,by simpa using Bm,?_⟩⟩,Bh,AN⟩;show List.take (ys.length*r.size) _=Cy.flatten;refine List.ext_getElem? fun j=>?_;by_cases Ay:j<ys.length*r.size
 · rw[ACl,AA_ Ay];have U2:j<Cy.flatten.length:=(by rw[FF];exact Ay);have:=a7 j _ (ABs U2);rw[AB9 _ g _ _ E (0,0) CK,ACA]at this;rw[ABs U2,<-this];simp
 · rw[ACd (by simp;omega),ACd (by rw[FF];omega)]
theorem Xa{α:Type}{r:Be α}{S:Nat->Prop}{w:World}{E:TypeId}{g n cap:Nat}{xs:List α}(h:(@row α r E (.slice (some ⟨g,0,none⟩) n cap) xs).holds S w):
 n=xs.length/\xs.length<=cap/\cap<=maxLen/\xs.length<=140737488355328/\(∃cs:List Value,w.heap[g]? =some (.cells cs.toArray E (0,0))/\cs.length=cap*r.size)/\∃Cy,HM S w Cy xs/\Lt w g 0 Cy.flatten:=by
 obtain⟨Cy,G8,Ep,AN⟩:=h;rcases G8.2 with⟨he,_⟩|⟨AmS,AmI,cur,he,_,CK,Ao,hm,Bm,Av⟩
 · cases he
 · injection he with B4 DC Kk;injection B4 with B4;injection B4 with B4;subst B4 DC Kk;refine⟨rfl,Ao,hm,AN,⟨cur.toList,by simpa using CK,by simpa using Bm⟩,Cy,Ep,fun j u Ay=>?_⟩;rw[AB9 _ g _ _ E (0,0) CK];rw[<-Av,ACl]at Ay;split at Ay
   · simpa using Ay
   · cases Ay
theorem AiG{α:Type}{r:Be α}{S:Nat->Prop}{w:World}{E:TypeId}{v:Value}{xs:List α}(h:(@row α r E v xs).holds S w)(Ab:xs≠[]):∃g cap,v=.slice (some ⟨g,0,none⟩) xs.length cap/\xs.length<=cap/\cap<=maxLen:=by
 obtain⟨g,cap,cs,Cy,BC,_,Af,h2,_⟩:=@Vj α r _ _ _ _ _ h Ab;exact⟨g,cap,BC,Af,h2⟩
theorem ll{α:Type}{r:Be α}{c:Cj}{w:World}{L:Own}{D:List Atom}(i k:Nat){xs zs:List α}{E:TypeId}{g n cap:Nat}{dss:List (List Value)}(Ag:L[i]? =some (@row α r E (.slice (some ⟨g,0,none⟩) n cap) xs))
 (st:CI c.BW c.M w L)(AR:BP D w L)(Cu:HM (Et L.J w) w dss zs)(AE:k<=xs.length)(pA:k+zs.length<=cap)(hlen:k+zs.length<=140737488355328){ys:List α}(Qg:xs.take k++zs++xs.drop (k+zs.length)=ys):
 (∀j,j<dss.flatten.length->(w.cell? ⟨g,k*r.size+j,none⟩).isSome=true/\w.frozen? ⟨g,k*r.size+j,none⟩=false)/\(∀u∈dss.flatten,u.oneCell'=true)/\
 CI c.BW c.M (w.setCells g (k*r.size) dss.flatten) (L.set i (@row α r E (.slice (some ⟨g,0,none⟩) ys.length cap) ys))/\BP D (w.setCells g (k*r.size) dss.flatten) (L.set i (@row α r E (.slice (some ⟨g,0,none⟩) ys.length cap) ys)):=by
 have Hv:=AA' Ag;obtain⟨Ao,Tn,U4,Sg,⟨cs,CK,I0⟩,Cy,Ep,OX⟩:=Xa (st.own _ Hv);subst Ao;have P':g∈L.J:=FW.2 ⟨_,Hv,by simp[Value.ownBlock]⟩;have LH:dss.flatten.length=zs.length*r.size:=Cu.len;have pB:k*r.size+dss.flatten.length<=cs.length:=by
  rw[LH,I0,<-ADG];exact ACw _ pA
 have hs:C8 [g] w (w.setCells g (k*r.size) dss.flatten):=cG g _ _ w;have Mc:=aU dss.flatten cs (k*r.size) w CK;have EX:C8 (@row α r E (.slice (some ⟨g,0,none⟩) xs.length cap) xs).J w (w.setCells g (k*r.size) dss.flatten):=hs.mono fun b Aq=>by simpa[Value.ownBlock]using Aq
 have UW:∀b,Et L.J w b->Et (Own.J (L.set i (@row α r E (.slice (some ⟨g,0,none⟩) ys.length cap) ys))) (w.setCells g (k*r.size) dss.flatten) b:=fun b Aq=>⟨ACp Aq.1 hs.size,fun Ab=>by
  rcases OK Ag b Ab with Af|Af
  · have:b=g:=(by simpa[Value.ownBlock]using Af);exact Aq.2 (this▸P')
  · exact Aq.2 Af⟩
 have UT:∀b,Et L.J w b->(w.setCells g (k*r.size) dss.flatten).heap[b]? =w.heap[b]? :=fun b Aq=>hs.block b Aq.1 (fun Ab=>by
  have:b=g:=(by simpa using Ab);exact Aq.2 (this▸P'))
 have qe:ys.length<=cap/\ys.length<=140737488355328:=by
  rw[<-Qg];simp only[ABP,ABz,ACt];omega
 refine⟨fun j Ay=>?_,Cu.one,?_,AR.KB (p':=@row α r E (.slice (some ⟨g,0,none⟩) ys.length cap) ys) i Ag EX (fun b Aq=>.inl Aq)⟩
 · have J9:k*r.size+j<cs.length:=AGn;exact⟨by rw[AB9 w g _ _ E (0,0) CK];simp[ABs J9],ADx w g _ _ E CK⟩
 refine st.KB (p':=@row α r E (.slice (some ⟨g,0,none⟩) ys.length cap) ys) i Ag EX (fS Mc (by rw[cE];exact I0) qe.1 U4 qe.2 fun j x Ay=>?_) (by simp[Value.ownBlock]) (fun b Aq=>.inl Aq);subst Qg;have hold:∀{MT:α},xs[j]? =some MT->(j<k\/k+zs.length<=j)->∃Cx,r.rd (Et (Own.J (L.set i (@row α r E (.slice (some ⟨g,0,none⟩) (xs.take k++zs++xs.drop (k+zs.length)).length cap) (xs.take k++zs++xs.drop (k+zs.length))))) (w.setCells g (k*r.size) dss.flatten)) (w.setCells g (k*r.size) dss.flatten) Cx MT/\Lt (w.setCells g (k*r.size) dss.flatten) g (0+j*r.size) Cx:=fun{MT} Ab Tq=>by
  obtain⟨Cx,K',OT⟩:=@PH α r _ _ _ Cy xs 0 Ep OX j MT Ab;have AbA:Cx.length=r.size:=r.len K';refine⟨Cx,r.DY K' UW UT,fun t u Av=>?_⟩;have Yy:t<Cx.length:=(ABF.1 Av).1;have Bw:=OT t u Av;simp only[AB0]at Bw ⊢;rw[AB9 w g _ _ E (0,0) CK,ACA]at Bw;rw[AB9 _ g _ _ E (0,0) Mc,ACA,T0 _ cs _ _ pB,AA9 ?_]
  · exact Bw
  · rcases Tq with h|h
    · have:=ACw r.size (show j+1<=k by omega);rw[ACX]at this;omega
    · have:=ACw r.size h;rw[ADG]at this;omega
 by_cases Af:j<k
 · rw[ACN,ADP (by rw[ABz];omega),ACl,AA_ Af]at Ay;exact hold Ay (.inl Af)
 · by_cases h2:j<k+zs.length
   · rw[ADP (by rw[ABP,ABz];omega),ADE (by rw[ABz];omega),ABz,ADH AE]at Ay;obtain⟨Cx,K',OT⟩:=@PH α r (Et (Own.J (L.set i (@row α r E (.slice (some ⟨g,0,none⟩) (xs.take k++zs++xs.drop (k+zs.length)).length cap) (xs.take k++zs++xs.drop (k+zs.length))))) (w.setCells g (k*r.size) dss.flatten)) (w.setCells g (k*r.size) dss.flatten) g dss zs (k*r.size) (Cu.DY UW UT) (fun t u Av=>by
      have Yy:t<dss.flatten.length:=(ABF.1 Av).1;rw[AB9 _ g _ _ E (0,0) Mc,ACA,T0 _ cs _ _ pB,AA_ AGn,show k*r.size+t-k*r.size=t by omega];exact Av) (j-k) x Ay
     refine⟨Cx,K',?_⟩;have e:k*r.size+(j-k)*r.size=0+j*r.size:=by
      rw[<-ADG,AB0];congr 1;omega
     rw[<-e];exact OT
   · rw[ADE (by rw[ABP,ABz];omega),ABP,ABz,ADH AE,ADh,show k+zs.length+(j-(k+zs.length))=j by omega]at Ay;exact hold Ay (.inr AGn)
theorem AiI{α:Type}{r:Be α}{c:Cj}{w:World}{L:Own}{D:List Atom}(i o:Nat){xs:List α}{E:TypeId}{g n cap:Nat}{us:List Value}(Ag:L[i]? =some (@row α r E (.slice (some ⟨g,0,none⟩) n cap) xs))
 (st:CI c.BW c.M w L)(AR:BP D w L)(A7:xs.length*r.size<=o)(pA:o+us.length<=cap*r.size):
 (∀j,j<us.length->(w.cell? ⟨g,o+j,none⟩).isSome=true/\w.frozen? ⟨g,o+j,none⟩=false)/\CI c.BW c.M (w.setCells g o us) L/\BP D (w.setCells g o us) L:=by
 have Hv:=AA' Ag;obtain⟨Ao,Tn,U4,Sg,⟨cs,CK,I0⟩,Cy,Ep,OX⟩:=Xa (st.own _ Hv);subst Ao;have P':g∈L.J:=FW.2 ⟨_,Hv,by simp[Value.ownBlock]⟩;have hs:C8 [g] w (w.setCells g o us):=cG g _ _ w;have Mc:=aU us cs o w CK;have EX:C8 (@row α r E (.slice (some ⟨g,0,none⟩) xs.length cap) xs).J w (w.setCells g o us):=hs.mono fun b Aq=>by simpa[Value.ownBlock]using Aq
 have O1:L.set i (@row α r E (.slice (some ⟨g,0,none⟩) xs.length cap) xs)=L:=by
  obtain⟨h,e⟩:=ABF.1 Ag;rw[<-e,List.set_getElem_self]
 have Af:=st.KB (p':=@row α r E (.slice (some ⟨g,0,none⟩) xs.length cap) xs) i Ag EX (fS Mc (by rw[cE];exact I0) Tn U4 Sg fun j x Ay=>?_) (by simp[Value.ownBlock]) (fun b Aq=>.inl Aq)
 · have h2:=AR.KB (p':=@row α r E (.slice (some ⟨g,0,none⟩) xs.length cap) xs) i Ag EX (fun b Aq=>.inl Aq);rw[O1]at Af h2;refine⟨fun j Ay=>?_,Af,h2⟩;have J9:o+j<cs.length:=AGn;exact⟨by rw[AB9 w g _ _ E (0,0) CK];simp[ABs J9],ADx w g _ _ E CK⟩
 · rw[O1];obtain⟨Cx,K',OT⟩:=@PH α r _ _ _ Cy xs 0 Ep OX j x Ay;have AbA:Cx.length=r.size:=r.len K';have a0:j<xs.length:=(ABF.1 Ay).1;refine⟨Cx,r.DY K' (fun b Aq=>⟨ACp Aq.1 hs.size,Aq.2⟩) (fun b Aq=>hs.block b Aq.1 (fun Ab=>by
    have:b=g:=(by simpa using Ab);exact Aq.2 (this▸P'))),fun t u Av=>?_⟩
   have Yy:t<Cx.length:=(ABF.1 Av).1;have Bw:=OT t u Av;simp only[AB0]at Bw ⊢;rw[AB9 w g _ _ E (0,0) CK,ACA]at Bw;rw[AB9 _ g _ _ E (0,0) Mc,ACA,T0 _ cs _ _ AGn,AA9 ?_]
   · exact Bw
   · have:=ACw r.size (show j+1<=xs.length by omega);rw[ACX]at this;omega
theorem sS{α:Type}{r:Be α}{S:Nat->Prop}{w:World}{E:TypeId}{g n cap:Nat}{xs:List α}(m:Nat)(hm:m<=xs.length)(h:(@row α r E (.slice (some ⟨g,0,none⟩) n cap) xs).holds S w):(@row α r E (.slice (some ⟨g,0,none⟩) m cap) (xs.take m)).holds S w:=by
 obtain⟨Ao,Tn,U4,Sg,⟨cs,CK,I0⟩,Cy,Ep,OX⟩:=Xa h;have AN:(xs.take m).length=m:=by rw[ABz];omega
 have:=@fS α r S w g cap E cs (xs.take m) CK I0 AGn U4 AGn fun i x Ab=>by
  rw[ACl]at Ab;split at Ab
  · exact @PH α r _ _ _ Cy xs 0 Ep OX i x Ab
  · cases Ab
 rw[AN]at this;exact this
@[reducible] def cut(g B7 l h Dc:Nat):Value:=.slice (if Dc=l then some ⟨g,0,none⟩else some ⟨g,l*B7,none⟩) (h-l) (Dc-l)
section
variable{c:Cj} {ops:Array Oper} {AP:Cj->Array Oper->List Oper->Env->Own->List Atom->Prop} [Dr:Ip AP] {env:Env} {L:Own} {D:List Atom} {rest:List Oper} {d:Nat} {t:TypeId} {p:String} {af:Array Edge} {x y BQ Ag bJ:Operand} {T:TypeId} {g n Dc:Nat} {l h m:Nat} {E:TypeId} {B7:Nat}
include Dr
theorem H2(Ab:AL env x=some (.slice (some ⟨g,0,none⟩) n Dc))(Av:H5 c.P T E B7)(B4:AL env BQ=some (.int .i64 (l:Int)))(Af:l<=n)(h2:n<=Dc)(Ao:Nat.blt d c.n=true)
 (k:AP c ops rest ((d,cut g B7 l n Dc)::env) L D):AP c ops (⟨some d,.slice T x (some BQ) none none,t,p,af,none⟩::rest) env L D:=
 pu rfl rfl Ao (fun a w f=>by
  obtain⟨j,Ay,hs⟩:=ACr.1 Av.2;have CY:(0:Int)<=l/\(l:Int)<=(n:Int):=AGn;have Dh:(n:Int)<=(Dc:Int):=AGn;simp[execOp,f.AL Ab,f.AL B4,Instr.sliceAt,ABQ Av.1,Instr.slice,Instr.sliceBounds,Instr.sliceBound,asIntOf,CY,Af,sizeOf,typeInfo,Ay,hs,cut,ACm]) k
theorem tk(Ab:AL env x=some (.slice (some ⟨g,0,none⟩) n Dc))(Av:H5 c.P T E B7)(B4:AL env BQ=some (.int .i64 (l:Int)))(DC:AL env Ag=some (.int .i64 (h:Int)))(Af:l<=h)(h2:h<=Dc)(Ao:Nat.blt d c.n=true)
 (k:AP c ops rest ((d,cut g B7 l h Dc)::env) L D):AP c ops (⟨some d,.slice T x (some BQ) (some Ag) none,t,p,af,none⟩::rest) env L D:=
 pu rfl rfl Ao (fun a w f=>by
  obtain⟨j,Ay,hs⟩:=ACr.1 Av.2;have CY:(0:Int)<=l/\(l:Int)<=(h:Int):=AGn;have Dh:(0:Int)<=h/\(h:Int)<=(Dc:Int):=AGn;simp[execOp,f.AL Ab,f.AL B4,f.AL DC,Instr.sliceAt,ABQ Av.1,Instr.slice,Instr.sliceBounds,Instr.sliceBound,asIntOf,CY,Dh,Af,h2,sizeOf,typeInfo,Ay,hs,cut,ACm]) k
theorem tl(Ab:AL env x=some (.slice (some ⟨g,0,none⟩) n Dc))(Av:H5 c.P T E B7)(B4:AL env BQ=some (.int .i64 (l:Int)))(DC:AL env Ag=some (.int .i64 (h:Int)))(Kk:AL env bJ=some (.int .i64 (m:Int)))(Af:l<=h)(h2:h<=m)(Bo:m<=Dc)(Ao:Nat.blt d c.n=true)
 (k:∀u,AP c ops rest ((d,u)::env) L D):AP c ops (⟨some d,.slice T x (some BQ) (some Ag) (some bJ),t,p,af,none⟩::rest) env L D:=
 pu rfl rfl Ao (fun a w f=>by
  obtain⟨j,Ay,hs⟩:=ACr.1 Av.2;have CY:(0:Int)<=l/\(l:Int)<=(h:Int):=AGn;have Dh:(0:Int)<=h/\(h:Int)<=(m:Int):=AGn;have DQ:(0:Int)<=m/\(m:Int)<=(Dc:Int):=AGn;simp[execOp,f.AL Ab,f.AL B4,f.AL DC,f.AL Kk,Instr.sliceAt,ABQ Av.1,Instr.slice,Instr.sliceBounds,Instr.sliceBound,asIntOf,CY,Dh,DQ,Af,h2,Bo,sizeOf,typeInfo,Ay,hs];rfl) (k _)
end
section
variable{c:Cj} {ops:Array Oper} {Q:AuE} {env:Env} {L:Own} {D:List Atom} {rest:List Oper} {d:Nat} {t:TypeId} {p:String} {af:Array Edge} {x y:Operand} {T:TypeId}
theorem hK{α:Type}{r:Be α}(i m:Nat){l:List Oper}{E:TypeId}{g n cap:Nat}{xs:List α}(Ag:L[i]? =some (@row α r E (.slice (some ⟨g,0,none⟩) n cap) xs))(hm:m<=xs.length)(k:Cb Q c ops l env (L.set i (@row α r E (.slice (some ⟨g,0,none⟩) m cap) (xs.take m))) D):Cb Q c ops l env L D:=fun a w f st AR=>
 k a w f (st.swap Ag rfl (sS m hm (st.own _ (AA' Ag)))) (AR.swap Ag rfl)
theorem Sw{α:Type}{r:Be α}(i:Nat){KE:Code}{E:TypeId}{v:Value}{xs:List α}(Ag:L[i]? =some (@row α r E v xs))(Ab:0<xs.length)(k:∀g cap,v=.slice (some ⟨g,0,none⟩) xs.length cap->xs.length<=cap->cap<=maxLen->CF c KE Q env L D):CF c KE Q env L D:=fun a w f st AR=>by
 obtain⟨g,cap,Af,h2,Bo⟩:=AiG (st.own _ (AA' Ag)) (by intro e;rw[e]at Ab;simp at Ab);exact k g cap Af h2 Bo a w f st AR
theorem k6{α:Type}{r:Be α}{S:Nat->Prop}{w:World}:∀(j:Nat) (Cy:List (List Value)) (xs:List α),HM S w Cy xs->HM S w (Cy.drop j) (xs.drop j)/\(Cy.drop j).flatten=Cy.flatten.drop (j*r.size)
 |0,Cy,xs,h=>⟨h,by simp⟩
 |j+1,[],[],_=>⟨trivial,by simp⟩
 |j+1,c::Cy,x::xs,h=>by
  obtain⟨Af,h2⟩:=k6 j Cy xs h.2;refine⟨Af,?_⟩;have AN:=r.len h.1;rw[List.drop_succ_cons,h2,List.flatten_cons,ACX,Nat.add_comm,<-AN,<-List.drop_drop,List.drop_left'];rfl
 |j+1,[],_::_,h=>h.elim
 |j+1,_::_,[],h=>h.elim
theorem ni{α:Type}{r:Be α}(i:Nat){k j:Nat}{E:TypeId}{bytes g n cap:Nat}{xs:List α}(Ab:AL env x=some (.slice (some ⟨g,0,none⟩) k cap))(Bf:AL env y=some (cut g r.size j n cap))(Ag:L[i]? =some (@row α r E (.slice (some ⟨g,0,none⟩) n cap) xs))(Av:EH c.P T E r.size bytes)
 (Anq:k<=j)(a1:j<=xs.length)(Ao:Nat.blt d c.n=true)
 (K:Cb Q c ops rest ((d,.slice (some ⟨g,0,none⟩) (k+(n-j)) cap)::env) (L.set i (@row α r E (.slice (some ⟨g,0,none⟩) (k+(n-j)) cap) (xs.take k++xs.drop j))) D):
 Cb Q c ops (⟨some d,.call {callee:=.builtin .append,args:= #[x,y],argTypes:= #[T,T]},t,p,af,none⟩::rest) env L D:=by
 refine c7 (env':=(d,.slice (some ⟨g,0,none⟩) (k+(n-j)) cap)::env) rfl rfl (fun a w f st AR=>?_) K;have Hv:=AA' Ag;obtain⟨Qb,Tn,U4,Sg,⟨cs,CK,I0⟩,Cy,Ep,OX⟩:=Xa (st.own _ Hv);subst Qb;obtain⟨Cu,FF⟩:=k6 j Cy xs Ep;have bo:(xs.drop j).length=xs.length-j:=ACt;obtain⟨Af,h2,Bo,BB⟩:=ll (zs:=xs.drop j) (dss:=Cy.drop j) i k Ag st AR Cu AGn AGn AGn rfl;obtain⟨hu,ii,Gz,Gf,bp,hs,P_,Oj,WA⟩:=Av;have LH:(Cy.drop j).flatten.length=(xs.length-j)*r.size:=by rw[Cu.len,bo]
 have Ek:(Builtin.append_ #[T,T] t #[.slice (some ⟨g,0,none⟩) k cap,cut g r.size j xs.length cap]).run c.P w=.ok (.slice (some ⟨g,0,none⟩) (k+(xs.length-j)) cap) (w.setCells g (k*r.size) (Cy.drop j).flatten):=by
  have key:=fun(RJ:Addr) (Abi:∀t u,(Cy.drop j).flatten[t]? =some u->w.cell? (RJ.add t)=some u)=>run_append_room_cells (P:=c.P) (w:=w) (ty:=t) T E ii hu Gf g 0 k cap RJ (xs.length-j) (cap-j) (Cy.drop j).flatten (by rw[hs];exact LH) Abi h2 AGn
   (fun q B'=>by have:=(Af q B').1;rw[hs];simpa using this) (fun q B'=>by have:=(Af q B').2;rw[hs];simpa using this)
  rw[hs]at key;simp only[AB0]at key;unfold cut;split
  · refine key ⟨g,0,none⟩ fun t u Oh=>?_;have:(Cy.drop j).flatten.length=0:=by rw[LH,show xs.length-j=0 by omega,Nat.zero_mul]
    rw[ADd.1 this]at Oh;cases Oh
  · refine key ⟨g,j*r.size,none⟩ fun t u Oh=>?_;rw[FF,ADh]at Oh;have:=OX _ _ Oh;rw[AGr];simpa using this
 have hlen:(xs.take k++xs.drop j++xs.drop (k+(xs.drop j).length)).length=max xs.length (k+(xs.length-j)):=by
  simp only[ABP,ABz,ACt];omega
 refine⟨_,w.setCells g (k*r.size) (Cy.drop j).flatten,?_,f.put _ (EU Ao),?_⟩
 · simp only[execOp,resolve,invoke,builtin,ABY,ACk,AB',ACQ,AB8,ACU,f.AL Ab,f.AL Bf,Ek]
 · have C_:i<L.length:=(ABF.1 Ag).1;have Jf:(L.set i (@row α r E (.slice (some ⟨g,0,none⟩) (xs.take k++xs.drop j++xs.drop (k+(xs.drop j).length)).length cap) (xs.take k++xs.drop j++xs.drop (k+(xs.drop j).length))))[i]? =some (@row α r E (.slice (some ⟨g,0,none⟩) (xs.take k++xs.drop j++xs.drop (k+(xs.drop j).length)).length cap) (xs.take k++xs.drop j++xs.drop (k+(xs.drop j).length))):=ACP C_;have Bm:=sS (k+(xs.length-j)) (by rw[hlen];omega) (Bo.own _ (AA' Jf));have eY:(xs.take k++xs.drop j++xs.drop (k+(xs.drop j).length)).take (k+(xs.length-j))=xs.take k++xs.drop j:=List.take_left' (by rw[ABP,ABz,bo];omega);rw[eY]at Bm;have C':=Bo.swap (q:=@row α r E (.slice (some ⟨g,0,none⟩) (k+(xs.length-j)) cap) (xs.take k++xs.drop j)) Jf rfl Bm;have F4:=BB.swap (q:=@row α r E (.slice (some ⟨g,0,none⟩) (k+(xs.length-j)) cap) (xs.take k++xs.drop j)) Jf rfl;rw[List.set_set]at C' F4;exact⟨C',F4⟩
theorem Z'{α:Type}{r:Be α}(i:Nat){l h:Nat}{E:TypeId}{bytes g n cap:Nat}{xs:List α}{dst:Option Tmp}(Ab:AL env x=some (cut g r.size l h cap))(Ag:L[i]? =some (@row α r E (.slice (some ⟨g,0,none⟩) n cap) xs))(Av:EH c.P T E r.size bytes){zs:List Value}(Cu:E3 c.P E zs)(Tw:zs.all (·.oneCell')=true)
 (AN:xs.length<=l)(Anv:l<=h)(hh:h<=cap){env':Env}(he:∀a,Fr c.n a env->Fr c.n (a.put dst (.tuple #[])) env')(K:Cb Q c ops rest env' L D):
 Cb Q c ops (⟨dst,.call {callee:=.builtin .clear,args:= #[x],argTypes:= #[T]},t,p,af,none⟩::rest) env L D:=by
 refine c7 (env':=env') rfl rfl (fun a w f st AR=>?_) K;obtain⟨hu,ii,Gz,Gf,bp,hs,P_,Oj,WA⟩:=Av;obtain⟨i2,OF,Jf,PE,WH⟩:=Cu;rw[Gf]at Jf;injection Jf with Jf;subst Jf;rw[bp]at PE;injection PE with PE;subst PE;by_cases C_:l=h
 · subst C_;refine⟨.tuple #[],w,?_,he a f,st,AR⟩;have Ek:(Builtin.clear_ #[T] t #[cut g r.size l l cap]).run c.P w=.ok (.tuple #[]) w:=by
    unfold cut;split<;>simp[Builtin.clear_,ABQ hu]
   simp only[execOp,resolve,invoke,builtin,ABY,ACk,AB',ACQ,AB8,ACU,f.AL Ab,Ek]
 · obtain⟨us,I1⟩:∃us,us=(Builtin.zeroCells Gz.cells (h-l)).toList:=⟨_,rfl⟩;have e0:us.length=(h-l)*r.size:=(by rw[I1,Array.length_toList,size_zeroCells,Oj]);have Acl:∀u∈us,u.oneCell'=true:=by
    intro u Oh;rw[I1,AC3]at Oh;have Hv:u∈Gz.cells:=by
     unfold Builtin.zeroCells at Oh;obtain⟨q,B',rfl⟩:=Array.mem_map.1 Oh;have Bw:0<Gz.cells.size:=(by rw[Oj];exact WA);have:q % Gz.cells.size<Gz.cells.size:=Nat.mod_lt _ Bw;rw[getElem!_pos Gz.cells (q % Gz.cells.size) this];exact Array.getElem_mem _
    rw[WH]at Hv;have:=ABq.1 Tw u (by simpa using Hv);simpa using this
   have Sd:=ACw r.size AN;have Anz:=ACw r.size hh;have AnA:l*r.size+(h-l)*r.size=h*r.size:=(by rw[<-ADG];congr 1;omega);obtain⟨Af,Bo,BB⟩:=AiI (us:=us) i (l*r.size) Ag st AR Sd (by rw[e0];omega);refine⟨.tuple #[],w.setCells g (l*r.size) us,?_,he a f,Bo,BB⟩;have Gg:=run_storeCells_cells (P:=c.P) g (l*r.size) us 0 w (fun q B'=>by simpa using(Af q B').1) (fun q B'=>by simpa using(Af q B').2) Acl;simp only[Nat.add_zero]at Gg;have Ek:(Builtin.clear_ #[T] t #[cut g r.size l h cap]).run c.P w=.ok (.tuple #[]) (w.setCells g (l*r.size) us):=by
    obtain⟨q,B'⟩:∃q,h-l=q+1:=⟨h-l-1,AGn⟩;unfold cut;rw[AA9 AGn,B'];rw[B']at I1;simp[Builtin.clear_,ABQ hu,zeroValue,typeInfo,Gf,bp,<-I1,Gg]
   simp only[execOp,resolve,invoke,builtin,ABY,ACk,AB',ACQ,AB8,ACU,f.AL Ab,Ek]
theorem sX{P:Program}(w:World){dT sT ty elem:TypeId}{B7:Nat}(b o oc yq:Nat)(a:Addr)(lv s6 m:Nat)(cs:List Value)
 (hu:P.underlying dT=some (.slice elem))(hs:(P.info? elem).map (·.size)=some B7)(hm:m=Nat.min lv oc)(Ao:cs.length=m*B7)
 (Ach:∀j v,cs[j]? =some v->w.cell? (a.add j)=some v)(Bm:∀j,j<cs.length->(w.cell? ⟨b,o+j,none⟩).isSome=true/\w.frozen? ⟨b,o+j,none⟩=false)(Af:∀v∈cs,v.oneCell'=true):
 (Builtin.copy_ #[dT,sT] ty #[.slice (some ⟨b,o,none⟩) oc yq,.slice (some a) lv s6]).run P w=.ok (.int .i64 (m:Int)) (w.setCells b o cs):=by
 have Gg:=run_storeCells_cells (P:=P) b o cs 0 w (by simpa using fun j Ay=>(Bm j Ay).1) (by simpa using fun j Ay=>(Bm j Ay).2) Af;obtain⟨i,Ag,EY⟩:=ACr.1 hs;have BI:=run_firstCells_some (P:=P) w B7 m a lv s6 cs Ao Ach;simp only[Nat.add_zero]at Gg;simp[Builtin.copy_,ABQ hu,Builtin.lenOf,sizeOf,typeInfo,Ag,EY,<-hm,BI,Gg,goInt]
theorem Uz{α:Type}{s:Shape α}(i j:Nat){k h:Nat}{E:TypeId}{g n cap Pj:Nat}{xs:List α}{ov:α}{hh:s.H}{dT:TypeId}(Ab:AL env x=some (cut g s.size k h cap))(Bf:AL env y=some (.slice (some ⟨Pj,0,none⟩) 1 1))(Ag:L[i]? =some (@row α (Be.D5 s) E (.slice (some ⟨g,0,none⟩) n cap) xs))(Ay:L[j]? =some (AO Pj E (s.cells ov hh)))
 (Av:H5 c.P T E s.size)(Cl:Bg (s.sub ov hh) D)(hw:s.wf ov)(AE:k<=xs.length)(AbQ:k<h)(AbK:h<=cap)(hlen:xs.length<140737488355328)(Ao:Nat.blt d c.n=true){ys:List α}(Qg:xs.take k++[ov]++xs.drop (k+1)=ys)
 (K:Cb Q c ops rest ((d,.int .i64 1)::env) (L.set i (@row α (Be.D5 s) E (.slice (some ⟨g,0,none⟩) ys.length cap) ys)) D):
 Cb Q c ops (⟨some d,.call {callee:=.builtin .copy,args:= #[x,y],argTypes:= #[T,dT]},t,p,af,none⟩::rest) env L D:=by
 refine c7 (env':=(d,.int .i64 1)::env) rfl rfl (fun a w f st AR=>?_) K;have BC:w.heap[Pj]? =some (.cells (s.cells ov hh).toArray E (0,0)):=st.own _ (AA' Ay);have Cu:@HM α (Be.D5 s) (Et L.J w) w [s.cells ov hh] [ov]:=⟨⟨hh,rfl,fun t Av=>AR t (Cl t Av),hw⟩,trivial⟩;obtain⟨Af,h2,Bo,BB⟩:=ll (r:=Be.D5 s) (zs:=[ov]) (dss:=[s.cells ov hh]) i k Ag st AR Cu AE (by simp;omega) (by simp;omega) Qg;refine⟨_,_,?_,f.put _ (EU Ao),Bo,BB⟩;have Ek:=sX (P:=c.P) w (dT:=T) (sT:=dT) (ty:=t) g (k*s.size) (h-k) (cap-k) ⟨Pj,0,none⟩ 1 1 1 [s.cells ov hh].flatten Av.1 Av.2 (by simp only[Nat.min_def];split<;>omega) (by simp[s.len]) (fun q u B'=>by
  rw[AGr,AB9 w Pj _ _ E (0,0) BC];simpa using B') Af h2
 have HX:=f.AL Ab;unfold cut at HX;rw[AA9 AGn]at HX;simp only[execOp,resolve,invoke,builtin,ABY,ACk,AB',ACQ,AB8,ACU,HX,f.AL Bf,Ek];rfl
theorem UA{α:Type}{r:Be α}(i j:Nat){k h l h2:Nat}{E:TypeId}{g n cap G1 MF hC:Nat}{xs us:List α}{dT:TypeId}(Ab:AL env x=some (cut g r.size k h cap))(Bf:AL env y=some (cut G1 r.size l h2 hC))(Ag:L[i]? =some (@row α r E (.slice (some ⟨g,0,none⟩) n cap) xs))(Ay:L[j]? =some (@row α r E (.slice (some ⟨G1,0,none⟩) MF hC) us))
 (Av:H5 c.P T E r.size)(AE:k<=xs.length)(AbQ:k<h)(AbK:h<=cap)(AN:l<us.length)(hm:us.length-l=Nat.min (h2-l) (h-k))(hlen:k+us.length<140737488355328)(Ao:Nat.blt d c.n=true){ys:List α}(Qg:xs.take k++us.drop l++xs.drop (k+(us.length-l))=ys)
 (K:∀m:Int,Cb Q c ops rest ((d,.int .i64 m)::env) (L.set i (@row α r E (.slice (some ⟨g,0,none⟩) ys.length cap) ys)) D):
 Cb Q c ops (⟨some d,.call {callee:=.builtin .copy,args:= #[x,y],argTypes:= #[T,dT]},t,p,af,none⟩::rest) env L D:=by
 refine c7 (env':=(d,.int .i64 ((us.length-l:Nat):Int))::env) rfl rfl (fun a w f st AR=>?_) (K _);obtain⟨Qb,Tn,U4,Sg,_,Cy,Ep,OX⟩:=Xa (st.own _ (AA' Ay));obtain⟨Cu,FF⟩:=k6 l Cy us Ep;have bo:(us.drop l).length=us.length-l:=ACt;have pQ:us.length-l<=h-k:=by rw[hm];exact Nat.min_le_right _ _
 obtain⟨Af,iI,Bo,BB⟩:=ll (zs:=us.drop l) (dss:=Cy.drop l) (ys:=ys) i k Ag st AR Cu AE AGn AGn (by rw[bo];exact Qg);refine⟨_,_,?_,f.put _ (EU Ao),Bo,BB⟩;have Ek:=sX (P:=c.P) w (dT:=T) (sT:=dT) (ty:=t) g (k*r.size) (h-k) (cap-k) ⟨G1,l*r.size,none⟩ (h2-l) (hC-l) (us.length-l) (Cy.drop l).flatten Av.1 Av.2 hm (by rw[Cu.len,bo]) (fun q u B'=>by
  rw[FF,ADh]at B';have:=OX _ _ B';rw[AGr];simpa using this) Af iI
 have HX:=f.AL Ab;have U6:=f.AL Bf;unfold cut at HX U6;rw[AA9 AGn]at HX U6;simp only[execOp,resolve,invoke,builtin,ABY,ACk,AB',ACQ,AB8,ACU,HX,U6,Ek]
theorem dy{α:Type}{r:Be α}(i:Nat){k m:Nat}{E l9:TypeId}{bytes g n cap:Nat}{qP:IntKind}{xs:List α}(Ab:AL env x=some (.slice (some ⟨g,0,none⟩) k cap))(Bf:AL env y=some (.int .i64 (m:Int)))(Ag:L[i]? =some (@row α r E (.slice (some ⟨g,0,none⟩) n cap) xs))(Av:EH c.P T E r.size bytes)(Ack:c.P.underlying l9=some (.int qP))
 (AE:k<=xs.length)(hm:cap<k+m)(Aq:(k+m)*bytes<=140737488355328)(R9:k+m<=140737488355328)(Ao:Nat.blt d c.n=true)
 (K:∀b G,k+m<=G->G<=maxLen->Cb Q c ops rest ((d,.slice (some ⟨b,0,none⟩) (k+m) G)::env) (@row α r E (.slice (some ⟨b,0,none⟩) k G) (xs.take k)::L) D):
 Cb Q c ops (⟨some d,.call {callee:=.builtin .append,args:= #[x,y],argTypes:= #[T,l9]},t,p,af,none⟩::rest) env L D:=by
 obtain⟨hu,ii,Gz,Gf,bp,hs,P_,Oj,WA⟩:=Av;refine Ue (σ:={q:Nat×Nat // k+m<=q.2/\q.2<=maxLen}) rfl rfl (fun q=>(d,.slice (some ⟨q.1.1,0,none⟩) (k+m) q.1.2)::env) (fun q=>@row α r E (.slice (some ⟨q.1.1,0,none⟩) k q.1.2) (xs.take k)::L) (fun _=>D) (fun a w f st AR=>?_) (fun q=>K _ _ q.2.1 q.2.2);obtain⟨Qb,Tn,U4,Sg,⟨cs,CK,I0⟩,Cy,Ep,OX⟩:=Xa (st.own _ (AA' Ag));have AJ:=C8.drew [] w;obtain⟨TI,holds⟩:∃TI,TI=Cy.flatten.take (k*r.size):=⟨_,rfl⟩;have pD:Cy.flatten.length=xs.length*r.size:=Ep.len;have pX:TI.length=k*r.size:=by
  rw[holds,ABz,pD];exact ADH (ACw _ AE)
 have hold:(Builtin.firstCells ii.size k (.slice (some ⟨g,0,none⟩) k cap)).run c.P w.drew=.ok TI.toArray w.drew:=by
  rw[hs];refine run_firstCells_some w.drew r.size k ⟨g,0,none⟩ k cap TI pX fun q u B'=>?_;rw[AGr];rw[holds,ACl]at B';split at B'
  · have:=OX q u B';simpa using this
  · cases B'
 have Ek:=Lib.run_append_grow_zeros (P:=c.P) w T l9 t E ii Gz .i64 qP hu Ack Gf bp (some ⟨g,0,none⟩) k cap TI hold m AGn (by rw[hs];exact WA) hm AGn (by rw[P_];have:=ACw bytes (show m<=k+m by omega);omega) (by rw[P_];exact growslice_fits hm Aq);have K8:=grownCap_ge w (k+m) cap E;have UU:=grownCap_le_maxLen w (k+m) cap E (by simp only[maxLen];omega);obtain⟨G,AaV⟩:∃G,G=grownCap w (k+m) cap E:=⟨_,rfl⟩;rw[<-AaV]at Ek K8 UU;obtain⟨A,Cl⟩:∃A,A=TI.toArray++Builtin.zeroCells Gz.cells m++Builtin.zeroCells Gz.cells (G-(k+m)):=⟨_,rfl⟩;rw[<-Cl]at Ek;have AaT:A.toList.length=G*r.size:=by
  rw[Cl];simp only[Array.length_toList,Array.size_append,size_zeroCells,Oj,List.size_toArray,pX,<-ADG];congr 1;omega
 have Gg:=st.step AJ;have F5:(w.drew.alloc (.cells A E)).heap[w.heap.size]? =some (.cells A.toList.toArray E (0,0)):=by
  show(w.heap.push (.cells A E (0,0)))[w.heap.size]? =_;simp
 have Md:(xs.take k).length=k:=by rw[ABz];omega
 have AH:(@row α r E (.slice (some ⟨w.heap.size,0,none⟩) k G) (xs.take k)).holds (Et (Own.J (@row α r E (.slice (some ⟨w.heap.size,0,none⟩) k G) (xs.take k)::L)) (w.drew.alloc (.cells A E))) (w.drew.alloc (.cells A E)):=by
  have:=@fS α r (Et (Own.J (@row α r E (.slice (some ⟨w.heap.size,0,none⟩) k G) (xs.take k)::L)) (w.drew.alloc (.cells A E))) (w.drew.alloc (.cells A E)) w.heap.size G E A.toList (xs.take k) F5 AaT AGn UU AGn fun q MT B'=>by
   rw[ACl]at B';split at B'
   · rename_i AnB;obtain⟨Cx,K',OT⟩:=@PH α r _ _ _ Cy xs 0 Ep OX q MT B';have LH:Cx.length=r.size:=r.len K';refine⟨Cx,r.DY K' (fun b Aq=>⟨ACp Aq.1 (by simp),fun Ab=>?_⟩) (fun b Aq=>heap_alloc_old w.drew _ Aq.1),fun z u qf=>?_⟩
     · simp only[Own.J,Dt,ABm]at Ab;rcases Ab with Ab|Ab
       · have:b=w.heap.size:=(by simpa[Value.ownBlock]using Ab);have:=Aq.1;omega
       · exact Aq.2 Ab
     · have PE:z<Cx.length:=(ABF.1 qf).1;have Bw:=OT z u qf;have C_:q*r.size+z<k*r.size:=by
        have:=ACw r.size (show q+1<=k by omega);rw[ACX]at this;omega
       obtain⟨RP,NL,Sc⟩:∃Dc:List Value,Dc=Cy.flatten/\Lt w g 0 Dc:=⟨_,rfl,OX⟩;have pM:q*r.size+z<Cy.flatten.length:=by
        rw[pD];have:=ACw r.size AE;omega
       have C':=OX _ _ (ABs pM);simp only[AB0]at Bw C';rw[Bw]at C';rw[AB9 _ _ _ _ E (0,0) F5,ACA,Cl];simp only[AB0,Array.toList_append,ACN];rw[ADP (by show _<TI.length;omega)];show TI[_]? =_;rw[holds];rw[ACl,AA_ C_,ABs pM];exact C'.symm
   · cases B'
  rw[Md]at this;exact this
 refine⟨⟨(w.heap.size,G),K8,UU⟩,_,_,?_,f.put _ (EU Ao),Gg.push (C8.alloc [] w.drew _) AH (by simp[Value.ownBlock]) (by simp[Value.ownBlock]),(AR.step AJ.nil).push (C8.alloc [] w.drew _) (by simp[Value.ownBlock])⟩;have HX:=f.AL Ab;have U6:=f.AL Bf;simp only[execOp,resolve,invoke,builtin,ABY,ACk,AB',ACQ,AB8,ACU,HX,U6,Ek]
theorem ft{α:Type}{r:Be α}(i j:Nat){q h:Nat}{E:TypeId}{g n cap Pj:Nat}{xs:List α}{us:List Value}{f:FuncId}{ats:Array TypeId}{Pr Cd:TypeId}(BI:Ext c.P f (Extern.SlicesOverlaps.overlaps #[Pr,Pr] #[Cd]))(Ab:AL env x=some (.slice (some ⟨Pj,0,none⟩) 1 1))(Bf:AL env y=some (cut g r.size q h cap))(Ag:L[i]? =some (@row α r E (.slice (some ⟨g,0,none⟩) n cap) xs))(Ay:L[j]? =some (AO Pj E us))(GQ:i≠j)
 (Av:H5 c.P Pr E r.size)(Tn:0<cap)(EY:0<r.size)(Ao:Nat.blt d c.n=true)
 (K:Cb Q c ops rest ((d,.bool false)::env) L D):
 Cb Q c ops (⟨some d,.call {callee:=.value (.func f),args:= #[x,y],argTypes:=ats},t,p,af,none⟩::rest) env L D:=by
 refine c7 (env':=(d,.bool false)::env) rfl rfl (fun a w Gw st AR=>⟨.bool false,w,?_,Gw.put _ (EU Ao),st,AR⟩) K;obtain⟨_,_,_,_,⟨cs,CK,I0⟩,_⟩:=Xa (st.own _ (AA' Ag));have BC:w.heap[Pj]? =some (.cells us.toArray E (0,0)):=st.own _ (AA' Ay);have FG:Pj≠g:=fun e=>by
  have:=CI.KB.XX Ag Ay GQ st.nd g (by simp[Value.ownBlock]) (by simp[e]);exact this
 obtain⟨qz,AbO,hs⟩:=ACr.1 Av.2;have AE:cs.toArray.size≠0:=by
  rw[List.size_toArray,I0];have:=Nat.mul_pos Tn EY;omega
 obtain⟨fn,B4,DC,Kk,QX,QY⟩:=BI.ok;have Ek:(callFunc f #[.slice (some ⟨Pj,0,none⟩) 1 1,cut g r.size q h cap]).run c.P w=.ok (.value (.bool false)) w:=by
  rw[run_callFunc_extern B4 DC Kk QX QY];have key:=fun RJ (Af:RJ=(⟨g,0,none⟩:Addr)\/RJ=⟨g,q*r.size,none⟩)=>Lib.run_overlaps_apart (P:=c.P) w Pr Cd E Av.1 r.size (fun w=>by simp[sizeOf,typeInfo,AbO,hs]) ⟨Pj,0,none⟩ RJ 1 1 (h-q) (cap-q) (by rcases Af with rfl|rfl<;>exact FG) E E us.toArray.size cs.toArray.size (by simp[World.shape?,BC]) (by rcases Af with rfl|rfl<;>simp[World.shape?,CK])
   AE (ADx w Pj _ _ E BC) (ADx w Pj _ _ E BC)
  unfold cut;split
  · rw[key _ (.inl rfl)];rfl
  · rw[key _ (.inr rfl)];rfl
 have JU:a.eval (.func f)=.func (.func f) #[] #[]:=rfl;simp only[execOp,resolve,Deferred.ofValue,JU,invoke,ACQ,AB8,ACU,Gw.AL Ab,Gw.AL Bf,ABY,ACk,AB'];simpa using Ek
end
end
end Go.A_
namespace Go.Apw
@[reducible] def VW(x:FE):List Value:=[.int .i64 x.Ca,.int .i64 x.Ap,.int .i64 x.As,.int .i64 x.Cm.Jd,.int .i64 x.Cm.JM,.int .i64 x.Cm.JJ,.int .i64 x.Cm.JK]
def FE.wf(x:FE):Prop:=A' x.Ca/\A' x.Ap/\A' x.As/\x.Cm.wf
@[reducible] def AiZ:Shape FE where
 H:=Unit
 size:=7
 cells x h:=VW x
 sub x h:=[]
 wf:=FE.wf
 len _ _:=rfl
 one:=by
  intro S w x h Av u hu;simp only[VW,ABf,ABh,ABi]at hu;rcases hu with rfl|rfl|rfl|rfl|rfl|rfl|rfl<;>first|rfl
@[reducible] instance Nk:Be FE:=Be.D5 AiZ
@[reducible] def dK(x:JE):List Value:=[.int .i64 x.Bn,.string x.Al]
def JE.wf(x:JE):Prop:=A' x.Bn/\x.Al.size<=9223372036854775807
@[reducible] def tm:Shape JE where
 H:=Unit
 size:=2
 cells x h:=dK x
 sub x h:=[]
 wf:=JE.wf
 len _ _:=rfl
 one:=by
  intro S w x h Av u hu;simp only[dK,ABf,ABh,ABi]at hu;rcases hu with rfl|rfl<;>first|rfl
@[reducible] instance TQ:Be JE:=Be.D5 tm
@[reducible] def FB(x:Ah)(AS A1 AY A9 Ba Bd Bp Bi:Value):List Value:=[.int .i64 x.S.CZ,.int .i64 x.S.DX,.bool x.S.Du,.string x.S.A6,.string x.S.Bc,.int .i64 x.S.Dn,AS,A1,AY,A9,Ba,.int .i64 x.S.Bt.Ev,.int .i64 x.S.Bt.Hi,.int .i64 x.S.Bt.IX,.string x.S.Bt.A6,.string x.S.Bt.Bc,.int .i64 x.S.Bt.Ap,.int .i64 x.S.Bt.As,.int .i64 x.S.CW.Ev,.int .i64 x.S.CW.Hi,.int .i64 x.S.CW.IX,.string x.S.CW.A6,.string x.S.CW.Bc,.int .i64 x.S.CW.Ap,.int .i64 x.S.CW.As,Bd,.int .i64 x.S.Jc,.int .i64 x.S.JL,.int .i64 x.S.GW,.int .i64 x.ix,.int .i64 x.nd,Bp,Bi]
def Ah.wf(x:Ah):Prop:=x.S.wf/\A' x.ix/\A' x.nd/\True/\True
@[reducible] def QA:Shape Ah where
 H:=Value×Value×Value×Value×Value×Value×Value×Value
 size:=33
 cells x h:=FB x h.1 h.2.1 h.2.2.1 h.2.2.2.1 h.2.2.2.2.1 h.2.2.2.2.2.1 h.2.2.2.2.2.2.1 h.2.2.2.2.2.2.2
 sub x h:=[⟨h.1,x.S.Aj⟩,⟨h.2.1,x.S.Bz⟩,⟨h.2.2.1,x.S.AA⟩,⟨h.2.2.2.1,x.S.Bj⟩,⟨h.2.2.2.2.1,x.S.CX⟩,⟨h.2.2.2.2.2.1,x.S.Cf⟩,⟨h.2.2.2.2.2.2.1,x.EF⟩,⟨h.2.2.2.2.2.2.2,x.BQ⟩]
 wf:=Ah.wf
 len _ _:=rfl
 one:=by
  intro S w x h Av u hu;have JZ:=Fh (Av _ (ABx ..));have Ie:=Fh (Av _ (Qm 1 G));have II:=Fh (Av _ (Qm 2 G));have IJ:=Fh (Av _ (Qm 3 G));have J0:=Fh (Av _ (Qm 4 G));have Ks:=Fh (Av _ (Qm 5 G));have MG:=Fh (Av _ (Qm 6 G));have NU:=Fh (Av _ (Qm 7 G));simp only[FB,ABf,ABh,ABi]at hu;rcases hu with rfl|rfl|rfl|rfl|rfl|rfl|rfl|rfl|rfl|rfl|rfl|rfl|rfl|rfl|rfl|rfl|rfl|rfl|rfl|rfl|rfl|rfl|rfl|rfl|rfl|rfl|rfl|rfl|rfl|rfl|rfl|rfl|rfl<;>first|rfl|exact JZ|exact Ie|exact II|exact IJ|exact J0|exact Ks|exact MG|exact NU
theorem RL:EH AG 60 3 1 8:=EH.mk ADY AGo AGp
theorem zy:Ext Tryz.prog 315 Extern.BytealgCompare.compare:=⟨⟨_,Tryz.func315,AGo,AGo,AGo,AGo⟩⟩
theorem oN:Ext Tryz.prog 217 add64Entry:=⟨⟨_,Tryz.func217,AGo,AGo,AGo,AGo⟩⟩
theorem mixed:Tryz.prog.follows .mixedOrders=true:=AGo
theorem tp:H5 AG 60 3 1:=⟨ADY,AGo⟩
theorem J1:H5 AG 23 54 7:=⟨ACh,AGo⟩
theorem Gt:H5 AG 22 73 10:=⟨ABH,AGo⟩
theorem Ox:H5 AG 25 52 8:=⟨ACa,AGo⟩
theorem Ky:H5 AG 26 125 2:=⟨ACi,AGo⟩
theorem I6:H5 AG 69 83 4:=⟨AB5,AGo⟩
theorem SN:E3 AG 54 [.int .i64 0,.int .i64 0,.bool false,.int .i64 0,.int .i64 0,.int .i64 0,.int .i64 0]:=E3.mk AGo
theorem SO:E3 AG 52 [.int .i64 0,.int .i64 0,.string ByteArray.empty,.string ByteArray.empty,.int .i64 0,.int .i64 0,.int .i64 0,.int .i64 0]:=E3.mk AGo
theorem de:E3 AG 125 [.int .i64 0,.int .i64 0]:=E3.mk AGo
theorem Um:E3 AG 83 [.int .i64 0,.int .i64 0,.int .i64 0,.int .i64 0]:=E3.mk AGo
theorem vt:E3 AG 33 [.int .i64 0,.string ByteArray.empty,.string ByteArray.empty,.int .i64 0,.int .i64 0,.int .i64 0]:=E3.mk AGo
theorem Hd:E3 AG 73 [.string ByteArray.empty,.int .i64 0,.int .i64 0,.int .i64 0,.int .i64 0,.slice none 0 0,.int .i64 0,.int .i64 0,.int .i64 0,.int .i64 0]:=E3.mk AGo
end Go.Apw
namespace Go.Proofs.YtalfaopffbkdnaaGreat.Uo
end Go.Proofs.YtalfaopffbkdnaaGreat.Uo
namespace Go.Apw
section
variable(c q:Int) (k:ByteArray) (g n:Int) (BQ Ag key:ByteArray)
theorem Zh(Wo:A' g):Cv AG 62 [.int .i64 g] [] (.bool (Ih g)):=by
 refine Aw.proof Tryz.func62 G 9 G G fun X w=>?_;obtain⟨Aa5,Aa6⟩:=id Wo;exact AF 1 G<|Ae<|U 3 G<|Fu 5 3 [] [] G G G<|U 1 G<|Ac<|rt<|Bq () G G AGq G Aa
theorem AvP(Wo:A' g):Cv AG 34 [.int .i64 g] [] (.bool (Ih g)):=by
 refine Aw.proof Tryz.func34 G 9 G G fun X w=>?_;obtain⟨Aa5,Aa6⟩:=id Wo;exact AF 1 G<|Ae<|U 3 G<|Fu 5 3 [] [] G G G<|U 1 G<|Ac<|rt<|Bq () G G AGq G Aa
theorem Avn(MB:A' n):Cv AG 35 [.int .i64 n] [] (.bool (AuX n)):=by
 refine Aw.proof Tryz.func35 G 9 G G fun X w=>?_;obtain⟨Yk,Yl⟩:=id MB;exact AF 1 G<|Ae<|U 3 G<|Fu 5 3 [] [] G G G<|U 1 G<|Ac<|rt<|Bq () G G AGq G Aa
theorem AwZ(MB:A' n):Cv AG 122 [.int .i64 n] [] (.bool (Avp n)):=by
 refine Aw.proof Tryz.func122 G 9 G G fun X w=>?_;obtain⟨Yk,Yl⟩:=id MB;exact AF 1 G<|Ae<|U 3 G<|Fu 5 3 [] [] G G G<|U 1 G<|Ac<|rt<|Bq () G G AGq G Aa
theorem AwD(MB:A' n):Cv AG 120 [.int .i64 n] [] (.bool (Au5 n)):=by
 refine Aw.proof Tryz.func120 G 9 G G fun X w=>?_;obtain⟨Yk,Yl⟩:=id MB;exact AF 1 G<|Ae<|U 3 G<|Fu 5 3 [] [] G G G<|U 1 G<|Ac<|rt<|Bq () G G AGq G Aa
theorem Avz:Cv AG 123 [.string k] [] (.bool (Ix k)):=by
 refine Aw.proof Tryz.func123 G 11 G G fun X w=>AF 1 G<|Ae<|An G G<|PI G ABO G<|U 2 G ?_;refine D4 6 4 [] G G (fun F4 ZC=>by
  have Aog:=ABA F4;exact U 1 G<|Bl G G G<|PI G ABO G<|U 2 G<|ZC G Br) ?_
 exact U 1 G<|Ac<|rt<|Bq () G G AGq G Aa
theorem gi:Cv AG 140 [.string k] [] (.bool (Ix k)):=by
 refine Aw.proof Tryz.func140 G 11 G G fun X w=>AF 1 G<|Ae<|An G G<|PI G ABO G<|U 2 G ?_;refine D4 6 4 [] G G (fun F4 ZC=>by
  have Aog:=ABA F4;exact U 1 G<|Bl G G G<|PI G ABO G<|U 2 G<|ZC G Br) ?_
 exact U 1 G<|Ac<|rt<|Bq () G G AGq G Aa
theorem gr(BK:A' c)(Ed:A' q):Cv AG 139 [.int .i64 c,.int .i64 q] [] (.bool (Jj c q)):=by
 refine Aw.proof Tryz.func139 G 19 G G fun X w=>?_;obtain⟨K9,K_⟩:=id BK;obtain⟨LD,LF⟩:=id Ed;exact AF 1 G<|Ae<|U 3 G<|Fu 7 3 [] [1] G G G<|An G G<|Fu 11 3 [] [1] G G G<|An G G<|Fu 15 3 [] [] G G G<|U 1 G<|Ac<|rt<|Bq () G G AGq G Aa
theorem hS(BK:A' c)(Ed:A' q):Cv AG 138 [.int .i64 c,.int .i64 q] [] (.bool (Jj c q)):=by
 refine Aw.proof Tryz.func138 G 19 G G fun X w=>?_;obtain⟨K9,K_⟩:=id BK;obtain⟨LD,LF⟩:=id Ed;exact AF 1 G<|Ae<|U 3 G<|Fu 7 3 [] [1] G G G<|An G G<|Fu 11 3 [] [1] G G G<|An G G<|Fu 15 3 [] [] G G G<|U 1 G<|Ac<|rt<|Bq () G G AGq G Aa
theorem Xx:Cv AG 141 [.string BQ,.string Ag,.string key] [] (.bool (within BQ Ag key)):=by
 refine Aw.proof Tryz.func141 G 19 G G fun X w=>AF 1 G<|Ae<|U 2 G<|j2 G G G<|An G G ?_;refine D4 10 8 [] G G (fun Dq N'=>by
  refine U 3 G ?_;refine DE 13 4 [10] G G (fun Dp vO=>by
   have Af0:=ACe Dp;exact U 2 G<|Bl G G G<|Ad7 G G G<|U 1 G<|vO G Br) ?_
  exact U 1 G<|N' G Br) ?_
 exact U 1 G<|Ac<|rt<|Bq () G G AGq G Aa
theorem Axr:Cv AG 121 [.string BQ,.string Ag,.string key] [] (.bool (within BQ Ag key)):=by
 refine Aw.proof Tryz.func121 G 19 G G fun X w=>AF 1 G<|Ae<|U 2 G<|Ayw G G G<|An G G ?_;refine D4 10 8 [] G G (fun Dq N'=>by
  refine U 3 G ?_;refine DE 13 4 [10] G G (fun Dp vO=>by
   have Af0:=ACe Dp;exact U 2 G<|Bl G G G<|Ad7 G G G<|U 1 G<|vO G Br) ?_
  exact U 1 G<|N' G Br) ?_
 exact U 1 G<|Ac<|rt<|Bq () G G (by first|rfl|(simp only[within,bA];rfl)|(simp only[within,bA,ADu])) G Aa
theorem tu:Cv AG 134 [.string BQ,.string Ag] [] (.bool (PQ BQ Ag)):=by
 refine Aw.proof Tryz.func134 G 22 G G fun X w=>AF 1 G<|Ae<|An G G<|PI G ABO G<|U 2 G ?_;refine D4 8 4 [0,1] G G (fun D2 vM=>by
  have kL:=ABA D2;exact U 1 G<|Bl G G G<|PI G ABO G<|U 2 G<|vM G Br) ?_
 refine An G G ?_;refine D4 13 8 [] G G (fun Dp SS=>by
  refine U 3 G ?_;refine DE 16 4 [13] G G (fun CR SR=>by
   have Af2:=ACe CR;exact U 2 G<|Bl G G G<|AaE G G G<|U 1 G<|SR G Br) ?_
  exact U 1 G<|SS G Br) ?_
 exact U 1 G<|Ac<|rt<|Bq () G G (by first|rfl|(simp only[PQ,bA,ADu];rfl)|(simp only[PQ,bA,ADu])) G Aa
theorem Axn:Cv AG 36 [.string BQ,.string Ag] [] (.bool (PQ BQ Ag)):=by
 refine Aw.proof Tryz.func36 G 22 G G fun X w=>AF 1 G<|Ae<|An G G<|PI G ABO G<|U 2 G ?_;refine D4 8 4 [0,1] G G (fun D2 vM=>by
  have kL:=ABA D2;exact U 1 G<|Bl G G G<|PI G ABO G<|U 2 G<|vM G Br) ?_
 refine An G G ?_;refine D4 13 8 [] G G (fun Dp SS=>by
  refine U 3 G ?_;refine DE 16 4 [13] G G (fun CR SR=>by
   have Af2:=ACe CR;exact U 2 G<|Bl G G G<|Ad7 G G G<|U 1 G<|SR G Br) ?_
  exact U 1 G<|SS G Br) ?_
 exact U 1 G<|Ac<|rt<|Bq () G G (by first|rfl|(simp only[PQ,bA,ADu];rfl)|(simp only[PQ,bA,ADu])) G Aa
end
section
variable(m t:Int) (p:Fs) (s:Bv) (El EV D_ EA Em Eh:Value) (key:ByteArray)
theorem jd(s:GC)(v:Int)(_:s.wf)(ja:A' v):Cv AG 255 [.agg (Od s).toArray,.int .i64 v] [] (.bool (Rb s v)):=by
 refine Aw.proof Tryz.func255 G 15 G G fun X w=>?_;obtain⟨Abf,Abg⟩:=id ja;exact Ae<|CV G G G fun Dh=>U 1 G<|Ac<|Ae<|AX 5 [0] G G<|Fu 9 5 [0] [] G G G<|U 1 G<|Ac<|rt<|AQ<|Bq () G G AGq G Aa
theorem Aw2(s:GC)(v:Int)(_:s.wf)(ja:A' v):Cv AG 61 [.agg (Od s).toArray,.int .i64 v] [] (.bool (Rb s v)):=by
 refine Aw.proof Tryz.func61 G 15 G G fun X w=>?_;obtain⟨Abf,Abg⟩:=id ja;exact Ae<|CV G G G fun Dh=>U 1 G<|Ac<|Ae<|AX 5 [0] G G<|Fu 9 5 [0] [] G G G<|U 1 G<|Ac<|rt<|AQ<|Bq () G G AGq G Aa
theorem kJ(_:s.wf):Cv AG 70 [.agg (BY s El EV D_ EA Em Eh).toArray,.string key] [⟨El,s.Aj⟩,⟨EV,s.Bz⟩,⟨D_,s.AA⟩,⟨EA,s.Bj⟩,⟨Em,s.CX⟩,⟨Eh,s.Cf⟩] (.bool (F' s key)):=by
 exact Aw.proof Tryz.func70 G 15 G G fun X w=>Ae<|CV G G G fun Dh=>U 1 G<|Ac<|Ae<|AX 3 [0] G G<|D4 7 7 [] G G (fun GY VC=>AX 5 [0,0] G G<|Bl G G G<|B0 (Xx _ _ _) (Ar G) G Aa G<|U 1 G<|VC G Br)<|U 1 G<|Ac<|rt<|AQ<|Bq () G G AGq G Aa
theorem Awu(_:s.wf):Cv AG 41 [.agg (BY s El EV D_ EA Em Eh).toArray,.string key] [⟨El,s.Aj⟩,⟨EV,s.Bz⟩,⟨D_,s.AA⟩,⟨EA,s.Bj⟩,⟨Em,s.CX⟩,⟨Eh,s.Cf⟩] (.bool (F' s key)):=by
 exact Aw.proof Tryz.func41 G 15 G G fun X w=>Ae<|CV G G G fun Dh=>U 1 G<|Ac<|Ae<|AX 3 [0] G G<|D4 7 7 [] G G (fun GY VC=>AX 5 [0,0] G G<|Bl G G G<|B0 (Axr _ _ _) (Ar G) G Aa G<|U 1 G<|VC G Br)<|U 1 G<|Ac<|rt<|AQ<|Bq () G G AGq G Aa
theorem Ajn(_:s.wf):Cv AG 96 [.agg (BY s El EV D_ EA Em Eh).toArray,.string key] [⟨El,s.Aj⟩,⟨EV,s.Bz⟩,⟨D_,s.AA⟩,⟨EA,s.Bj⟩,⟨Em,s.CX⟩,⟨Eh,s.Cf⟩] (.bool (Ef s key)):=by
 refine Aw.proof Tryz.func96 G 19 G G fun X w=>Ae<|CV G G G fun Dh=>U 1 G<|Ac<|Ae<|AX 5 [0] G G ?_;refine D4 9 9 [] G G (fun EO N'=>by
  have Y0:=EO;simp only[ABe,ABl]at Y0;exact AX 7 [0,0] G G<|Bl G G G<|B0 (Xx _ _ _) (Ar G) G Aa G<|U 1 G<|N' G Br) ?_
 exact U 1 G<|Ac<|rt<|AQ<|Bq () G G AGq G Aa
theorem AzW(_:s.wf):Cv AG 124 [.agg (BY s El EV D_ EA Em Eh).toArray,.string key] [⟨El,s.Aj⟩,⟨EV,s.Bz⟩,⟨D_,s.AA⟩,⟨EA,s.Bj⟩,⟨Em,s.CX⟩,⟨Eh,s.Cf⟩] (.bool (Ef s key)):=by
 refine Aw.proof Tryz.func124 G 19 G G fun X w=>Ae<|CV G G G fun Dh=>U 1 G<|Ac<|Ae<|AX 5 [0] G G ?_;refine D4 9 9 [] G G (fun EO N'=>by
  have Y0:=EO;simp only[ABe,ABl]at Y0;exact AX 7 [0,0] G G<|Bl G G G<|B0 (Axr _ _ _) (Ar G) G Aa G<|U 1 G<|N' G Br) ?_
 exact U 1 G<|Ac<|rt<|AQ<|Bq () G G AGq G Aa
theorem fC(Tm:p.wf):Cv AG 69 [.agg (ED p).toArray] [] (.bool (LK p)):=by
 exact Aw.proof Tryz.func69 G 35 G G fun X w=>Ae<|CV G G G fun CY=>U 1 G<|Ac<|Ae<|AX 4 [0] G G<|Fu 6 4 [0] [1] G G G<|An G G<|D4 11 4 [1] G G (fun Ct ZF=>AX 2 [0] G G<|Bl G G G<|B0 (Zh _ Tm.2.1) (Ar G) G Aa G<|U 1 G<|ZF G Br)<|An G G<|D4 16 4 [1] G G (fun CR SR=>AX 2 [0] G G<|Bl G G G<|B0 (Zh _ Tm.2.2.1) (Ar G) G Aa G<|U 1 G<|SR G Br)<|An G G<|Fu 21 6 [0,0] [1] G G G<|An G G<|D4 28 6 [] G G (fun R2 ZJ=>AX 4 [0,0] G G<|Bl G G G<|B0 (tu _ _) (Ar G) G Aa G<|U 1 G<|ZJ G Br)<|U 1 G<|Ac<|rt<|AQ<|Bq () G G AGq G Aa
theorem Axe(Tm:p.wf):Cv AG 43 [.agg (ED p).toArray] [] (.bool (Avq p)):=by
 exact Aw.proof Tryz.func43 G 35 G G fun X w=>Ae<|CV G G G fun CY=>U 1 G<|Ac<|Ae<|AX 2 [0] G G<|B0 (Avn _ Tm.1) (Ar G) G Aa G<|An G G<|Fu 6 4 [0] [1] G G G<|An G G<|D4 11 4 [1] G G (fun Ct ZF=>AX 2 [0] G G<|Bl G G G<|B0 (AvP _ Tm.2.1) (Ar G) G Aa G<|U 1 G<|ZF G Br)<|An G G<|D4 16 4 [1] G G (fun CR SR=>AX 2 [0] G G<|Bl G G G<|B0 (AvP _ Tm.2.2.1) (Ar G) G Aa G<|U 1 G<|SR G Br)<|An G G<|Fu 21 6 [0,0] [1] G G G<|An G G<|D4 28 6 [] G G (fun R2 ZJ=>AX 4 [0,0] G G<|Bl G G G<|B0 (Axn _ _) (Ar G) G Aa G<|U 1 G<|ZJ G Br)<|U 1 G<|Ac<|rt<|AQ<|Bq () G G AGq G Aa
theorem qO(l:F_)(_:l.wf):Cv AG 256 [.agg (Lx l).toArray] [] (.bool (Sk l)):=by
 exact Aw.proof Tryz.func256 G 21 G G fun X w=>Ae<|CV G G G fun CY=>U 1 G<|Ac<|Ae<|AX 4 [0] G G<|Fu 6 4 [0] [1] G G G<|An G G<|Fu 11 4 [0] [1] G G G<|An G G<|Fu 16 4 [0] [] G G G<|U 1 G<|Ac<|rt<|AQ<|Bq () G G AGq G Aa
theorem YP(a:AD)(Cw:Value)(_:a.wf):Cv AG 188 [.agg (A3 a Cw).toArray] [⟨Cw,a.A0⟩] (.bool (G_ a)):=by
 exact Aw.proof Tryz.func188 G 7 G G fun X w=>Ae<|CV G G G fun CY=>U 1 G<|Ac<|I5 5 [0] G G<|rt<|AQ<|Bq () G G AGq G Aa
theorem h'(UX:A' m)(Abe:A' t):Cv AG 218 [.int .i64 m,.int .i64 t] [] (.int .i64 (JN m t)):=by
 refine Aw.proof Tryz.func218 G 19 G G fun X w=>?_;obtain⟨Am7,Am8⟩:=id UX;obtain⟨Anb,Anc⟩:=id Abe;refine AF 1 G<|Am<|B5<|Ae<|U 3 G<|ET 8 3 [] [0,1] G G G<|U 1 G<|Ac<|BN G (fun C'=>?_) (fun C'=>?_)
 · exact AF 1 G<|rt<|C9<|Cd<|Bq () G G (by simp_all [JN]) G Aa
 ·
  refine Ae<|U 3 G<|Fu 15 3 [] [] G G G<|U 1 G<|Ac<|BN G (fun EM=>?_) (fun EM=>?_)
  · exact AF 1 G<|rt<|C9<|Cd<|Bq () G G (by simp_all [JN]) G Aa
  · exact EG<|CU<|A5<|AF 1 G<|rt<|Bq () G G (by simp_all [JN]) G Aa
theorem Ayr(UX:A' m)(Abe:A' t):Cv AG 215 [.int .i64 m,.int .i64 t] [] (.int .i64 (Au' m t)):=by
 refine Aw.proof Tryz.func215 G 19 G G fun X w=>?_;obtain⟨Am7,Am8⟩:=id UX;obtain⟨Anb,Anc⟩:=id Abe;refine AF 1 G<|Am<|B5<|Ae<|U 3 G<|Fu 8 3 [] [0,1] G G G<|U 1 G<|Ac<|BN G (fun C'=>?_) (fun C'=>?_)
 · exact AF 1 G<|rt<|C9<|Cd<|Bq () G G (by simp_all [Au']) G Aa
 ·
  refine Ae<|U 3 G<|ET 15 3 [] [] G G G<|U 1 G<|Ac<|BN G (fun EM=>?_) (fun EM=>?_)
  · exact AF 1 G<|rt<|C9<|Cd<|Bq () G G (by simp_all [Au']) G Aa
  · exact EG<|CU<|A5<|AF 1 G<|rt<|Bq () G G (by simp_all [Au']) G Aa
end
end Go.Apw
namespace Go.Proofs.YtalfaopffbkdnaaGreat.Uo
open Go.A_ Go.Apw Go.RowKit
def item(l:List ZR)(j:Nat):ByteArray×ZR:=(yY l j,l.getD j default)
def upto(l:List ZR)(k:Nat):List (ByteArray×ZR):=(List.range k).map (item l)
end Go.Proofs.YtalfaopffbkdnaaGreat.Uo
namespace Go.Apw
theorem oL:Po AG 68 Od:=by
 refine⟨AGo,fun a b w=>?_⟩;rw[AC6 w 9999 68 _ _ (by simp only[Program.fieldsOf,ADC]) AGo];simp only[Program.fieldsOf,ADC];refine ABS (EI G ABc G G G (Fk ABc _ _) (fun w=>EI G ABc G G G (Fk ABc _ _) (fun w=>OO w))) ?_;congr 1;obtain⟨He,DP⟩:=a;obtain⟨Pt,CY⟩:=b;simp[GC.mk.injEq]
theorem zf:Po AG 44 GM:=by
 refine⟨AGo,fun a b w=>?_⟩;rw[AC6 w 9999 44 _ _ (by simp only[Program.fieldsOf,AC5]) AGo];simp only[Program.fieldsOf,AC5];refine ABS (EI G Tryz.underlying37 G G G (Fk Tryz.underlying37 _ _) (fun w=>EI G ABc G G G (Fk ABc _ _) (fun w=>EI G ABc G G G (Fk ABc _ _) (fun w=>EI G ABc G G G (Fk ABc _ _) (fun w=>OO w))))) ?_;congr 1;obtain⟨He,DP,EK,FR⟩:=a;obtain⟨Pt,CY,Dh,DQ⟩:=b;simp[De.mk.injEq]
theorem RV:Po AG 28 ED:=by
 refine⟨AGo,fun a b w=>?_⟩;rw[AC6 w 9999 28 _ _ (by simp only[Program.fieldsOf,AC4]) AGo];simp only[Program.fieldsOf,AC4];refine ABS (EI G ABc G G G (Fk ABc _ _) (fun w=>EI G ABc G G G (Fk ABc _ _) (fun w=>EI G ABc G G G (Fk ABc _ _) (fun w=>EI G ABO G G G (UF ABO _ _) (fun w=>EI G ABO G G G (UF ABO _ _) (fun w=>EI G ABc G G G (Fk ABc _ _) (fun w=>EI G ABc G G G (Fk ABc _ _) (fun w=>OO w)))))))) ?_;congr 1;obtain⟨He,DP,EK,FR,Iz,Lv,KY⟩:=a;obtain⟨Pt,CY,Dh,DQ,En,E',Hg⟩:=b;simp[Fs.mk.injEq]
theorem zl:Po AG 33 MZ:=by
 refine⟨AGo,fun a b w=>?_⟩;rw[AC6 w 9999 33 _ _ (by simp only[Program.fieldsOf,ACR]) AGo];simp only[Program.fieldsOf,ACR];refine ABS (EI G ABc G G G (Fk ABc _ _) (fun w=>EI G ABO G G G (UF ABO _ _) (fun w=>EI G ABO G G G (UF ABO _ _) (fun w=>EI G ABc G G G (Fk ABc _ _) (fun w=>EI G ABc G G G (Fk ABc _ _) (fun w=>EI G ABc G G G (Fk ABc _ _) (fun w=>OO w))))))) ?_;congr 1;obtain⟨He,DP,EK,FR,Iz,Lv⟩:=a;obtain⟨Pt,CY,Dh,DQ,En,E'⟩:=b;simp[FL.mk.injEq]
theorem oK:Po AG 71 Lx:=by
 refine⟨AGo,fun a b w=>?_⟩;rw[AC6 w 9999 71 _ _ (by simp only[Program.fieldsOf,ADl]) AGo];simp only[Program.fieldsOf,ADl];refine ABS (EI G ABc G G G (Fk ABc _ _) (fun w=>EI G ABc G G G (Fk ABc _ _) (fun w=>EI G ABc G G G (Fk ABc _ _) (fun w=>EI G ABc G G G (Fk ABc _ _) (fun w=>OO w))))) ?_;congr 1;obtain⟨He,DP,EK,FR⟩:=a;obtain⟨Pt,CY,Dh,DQ⟩:=b;simp[F_.mk.injEq]
theorem yn(CP:Value)(l:List Int):Cv AG 63 [CP] [⟨CP,l⟩] (.bool (X1 l)):=by
 refine Aw.proof Tryz.func63 G 18 G G fun X w=>AF 1 G<|Am<|Ae<|An G G<|C2 0 G G ADY G fun qY=>An G G<|Ac<|B5<|Ji (σ:=Nat) [(5,_),(6,_)] _ (fun i C=>(7,.int .i64 (i:Int))::C) (fun i=>i<=l.length/\(∀j,j<i->(!(decide (l.getD j default<0)||decide (l.getD j default>EW)))=true)) (fun i=>l.length-i) 0 (Bs G) (Ad 0 G Aa) ⟨ABg _,fun j Ay=>absurd Ay (AB2 j)⟩ (Bs G) ?_;rintro i ⟨Ag,C0⟩;refine AF 1 G<|Am<|B9 G (fun D2=>?_) (fun D2=>?_)
 ·
  refine AZ<|Am<|B5<|Ae<|Fo 0 G G G tp G fun Nr=>CQ 0 G G (A2 G) G fun cW=>U 1 G<|Ac<|Ae<|U 3 G<|ET 13 3 [] [5,6,7] G G G<|Ac<|BN G (fun CR=>?_) (fun CR=>?_)
  · exact AF 1 G<|rt<|C9<|Cd<|Cd<|C9<|Cd<|Bq () G G (by rw[X1,Ur i AGn (YU CR)];try rfl) G Aa
  ·
   refine EG<|CU<|A5<|rg<|C5 G G BV G<|An G G<|nl ?_;exact Dy (i+1) ⟨AGn,(Ki C0 (YT CR))⟩ AGn (Bs G) G (Ad 1 G Aa)
 · exact ex<|Ck<|Ck<|D7<|A5<|AF 1 G<|rt<|Bq () G G (by rw[X1,Us (fun j Ay=>C0 j AGn)];try rfl) G Aa
theorem Xd(CP:Value)(l:List BL):Cv AG 51 [CP] [⟨CP,l⟩] (.int .i64 (IA (Fg l))):=by
 refine Aw.proof Tryz.func51 G 49 G G fun X w=>AF 1 G<|AF 1 G<|Am<|Ae<|An G G<|C2 0 G G ACh G fun MD=>An G G<|Ac<|B5<|Ji (σ:=Nat) [(6,_),(7,_)] _ (fun i C=>(8,.int .i64 (i:Int))::(3,.int .i64 (Nh (fun k=>(l.getD k default).Ap) i))::C) (fun i=>i<=l.length/\(∀j,j<i->(!fk (Nh (fun k=>(l.getD k default).Ap) j) (l.getD j default))=true)) (fun i=>l.length-i) 0 (Bs G) (Ad 0 G Aa) ⟨ABg _,fun j Ay=>absurd Ay (AB2 j)⟩ (Bs G) ?_;rintro i ⟨Ag,C0⟩;refine AF 1 G<|Am<|B9 G (fun EO=>?_) (fun EO=>?_)
 ·
  refine AZ<|Am<|B5<|Ae<|Fo 0 G G G J1 G fun v10=>Gi 0 G G (At G) G fun Qr SD=>CT SN G fun E'=>BZ 0 (us:=(H9 ((l.getD i default)))) G G G (At G) G G<|Ac<|Am<|Ae<|AX 5 [0] G G<|ET 16 4 [0] [5,6,7,8] G G G<|An G G<|ET 21 4 [0] [5,6,7,8] G G G<|An G G<|ET 26 4 [0] [5,6,7,8] G G G<|An G G ?_;refine DE 31 14 [5,6,7,8] G G (fun ES ZN=>by
   refine AX 3 [0] G G ?_;refine D4 34 10 [5,6,7,8,31] G G (fun FN ZM=>by
    refine AX 4 [0] G G ?_;refine DE 38 5 [5,6,7,8,31,34] G G (fun NK ZL=>by
     have Aoc:=ACe NK;exact U 1 G<|Bl G G G<|BJ 0 (GM ((l.getD i default).Cm)) G G (At G) G G<|Bl G G G<|Db (ps:=[]) (cs:=(GM ((⟨0,0,0,0⟩:De)))) AGq AGo G<|Bl G G G<|Qo zf ((l.getD i default).Cm) ((⟨0,0,0,0⟩:De)) G G G<|U 1 G<|ZL G Br) ?_
    exact U 1 G<|ZM G Br) ?_
   exact U 1 G<|ZN G Br) ?_
  refine Ac<|BN G (fun EN=>?_) (fun EN=>?_)
  · exact AF 1 G<|BA<|C9<|Cd<|Cd<|C9<|Cd<|AQ<|Bq () G G (by rw[Fg,Ur i AGn (YU EN)];try rfl) G Aa
  ·
   refine AZ<|Kb 3 [0] G G<|CU<|A5<|rg<|C5 G G BV G<|An G G<|nl<|AQ ?_;exact Dy (i+1) ⟨AGn,(Ki C0 (YT EN))⟩ AGn (Bs G) G (Ad 2 G Aa)
 · exact ex<|Ck<|Ck<|D7<|A5<|AF 1 G<|rt<|Bq () G G (by rw[Fg,Us (fun j Ay=>C0 j AGn)];try rfl) G Aa
theorem X2(CP:Value)(l:List Df):Cv AG 67 [CP] [⟨CP,l⟩] (.int .i64 (IA (HE l))):=by
 refine Aw.proof Tryz.func67 G 27 G G fun X w=>AF 1 G<|AF 1 G<|Am<|Ae<|An G G<|C2 0 G G ACi G fun MD=>An G G<|Ac<|B5<|Ji (σ:=Nat) [(6,_),(7,_)] _ (fun i C=>(8,.int .i64 (i:Int))::(3,.int .i64 (Nh (fun k=>(l.getD k default).Ap) i))::C) (fun i=>i<=l.length/\(∀j,j<i->(!(decide ((l.getD j default).Ap<=Nh (fun k=>(l.getD k default).Ap) j)|| !Jj (l.getD j default).Ap (l.getD j default).As))=true)) (fun i=>l.length-i) 0 (Bs G) (Ad 0 G Aa) ⟨ABg _,fun j Ay=>absurd Ay (AB2 j)⟩ (Bs G) ?_;rintro i ⟨Ag,C0⟩;refine AF 1 G<|Am<|B9 G (fun EO=>?_) (fun EO=>?_)
 ·
  refine AZ<|Am<|B5<|Ae<|Fo 0 G G G Ky G fun v10=>Gi 0 G G (At G) G fun Qr SD=>CT de G fun E'=>BZ 0 (us:=(QT ((l.getD i default)))) G G G (At G) G G<|Ac<|Am<|Ae<|AX 5 [0] G G ?_;refine DE 16 7 [5,6,7,8] G G (fun CR SU=>by
   have Af2:=ACe CR;exact AX 4 [0,0] G G<|Bl G G G<|B0 (hS _ _ SD.1 SD.2) (Ar G) G Aa G<|U 2 G<|SU G Br) ?_
  refine Ac<|BN G (fun Km=>?_) (fun Km=>?_)
  · exact AF 1 G<|BA<|C9<|Cd<|Cd<|C9<|Cd<|AQ<|Bq () G G (by rw[HE,Ur i AGn (YU Km)];try rfl) G Aa
  ·
   refine AZ<|Kb 3 [0] G G<|CU<|A5<|rg<|C5 G G BV G<|An G G<|nl<|AQ ?_;exact Dy (i+1) ⟨AGn,(Ki C0 (YT Km))⟩ AGn (Bs G) G (Ad 2 G Aa)
 · exact ex<|Ck<|Ck<|D7<|A5<|AF 1 G<|rt<|Bq () G G (by rw[HE,Us (fun j Ay=>C0 j AGn)];try rfl) G Aa
end Go.Apw
