/- Part 11 of shardWhole_holds. -/
import Derived.ArgAppend
import Derived.Laws.IdiomCopy
import Derived.Lib.Overlaps
import Derived.Lib.AppendZerosOnto
import Derived.Test.YtklmcfecakaanaaGreatRows
import Derived.Test.YtklmcfecakaanaaGreatSq10

set_option maxRecDepth 20000
set_option maxHeartbeats 1000000
namespace Go
theorem AC4:Go.Program.underlying Go.Proofs.Tryz.prog 28=some (Go.TypeDesc.int Go.IntKind.u64):=@Go.Proofs.Tryz.underlying28
theorem ABc:Go.Program.underlying Go.Proofs.Tryz.prog 3=some (Go.TypeDesc.int Go.IntKind.i64):=@Go.Proofs.Tryz.underlying3
theorem ADL:Go.Program.underlying Go.Proofs.Tryz.prog 37=some (Go.TypeDesc.slice 130):=@Go.Proofs.Tryz.underlying37
theorem ADN:Go.Program.underlying Go.Proofs.Tryz.prog 56=some (Go.TypeDesc.slice 123):=@Go.Proofs.Tryz.underlying56
theorem AB2:∀(n:Nat),¬n<0:=@Nat.not_lt_zero
end Go
open Bool renaming and_assoc→ACY
open Eq renaming trans→ABS
open Go renaming cell_of_row→AB9,frozen_of_row→ADx,run_equalIn_struct→AC6
open Go.Addr renaming add_lit→AR7
open Go.Proofs.Tryz renaming underlying108→AR9,underlying123→AR_,underlying125→ADB,underlying130→AR',underlying156→ASa,underlying22→ABH,underlying30→ARU,underlying35→ACE,underlying36→ARL,underlying38→ARQ,underlying39→ARN,underlying40→ARR,underlying42→ARV,underlying53→ARX,underlying55→ARY,underlying60→ADY,underlying76→ARZ,underlying9→ABO,underlying95→AR0
open Go.Result renaming andThen_ok→AB'
open Go.Sem renaming run_bind→ABY,run_pure→ACk
open List renaming all_eq_true→ABq,append_assoc→ACN,getElem?_append_left→ADP,getElem?_toArray→ACA,length_append→ABP,length_drop→ACt,map_nil→ACU,map_toArray→ACQ
open Nat renaming add_mul→ADG,min_eq_left→ADH
open Option renaming map_eq_some_iff→ACr
open Go.A_ Go.Proofs Go.Proofs.YtklmcfecakaanaaGreat Go.Apw
namespace Go.A_
open Go.RowKit
section
theorem fS{α:Type}{r:Be α}{S:Nat->Prop}{w:World}{g cap:Nat}{E:TypeId}{cs:List Value}{ys:List α}(CK:w.heap[g]? =some (.cells cs.toArray E (0,0)))(Bm:cs.length=cap*r.size)(Ao:ys.length<=cap)(hm:cap<=maxLen)(AN:ys.length<=140737488355328)
 (h:∀i x,ys[i]? =some x->∃Cx,r.rd S w Cx x/\Lt w g (0+i*r.size) Cx):(@row α r E (.slice (some ⟨g,0,none⟩) ys.length cap) ys).holds S w:=by
 obtain⟨Cy,Bh,a7⟩:=@cn α r S w g 0 ys 0 (by simpa using h);have FF:=@HM.len α r S w Cy ys Bh;refine⟨Cy,⟨FF,.inr ⟨g,cap,cs.toArray,rfl,ABg _,CK,Ao,hm,by simpa using Bm,?_⟩⟩,Bh,AN⟩;show List.take (ys.length*r.size) _=Cy.flatten;refine List.ext_getElem? fun j=>?_;by_cases Ay:j<ys.length*r.size
 · rw[ACl,AA_ Ay];have U2:j<Cy.flatten.length:=(by rw[FF];exact Ay);have:=a7 j _ (ABs U2);rw[AB9 _ g _ _ E (0,0) CK,ACA]at this;rw[ABs U2,<-this];simp
 rw[ACd (by simp;omega),ACd (by rw[FF];omega)]
theorem Xa{α:Type}{r:Be α}{S:Nat->Prop}{w:World}{E:TypeId}{g n cap:Nat}{xs:List α}(h:(@row α r E (.slice (some ⟨g,0,none⟩) n cap) xs).holds S w):
 n=xs.length/\xs.length<=cap/\cap<=maxLen/\xs.length<=140737488355328/\(∃cs:List Value,w.heap[g]? =some (.cells cs.toArray E (0,0))/\cs.length=cap*r.size)/\∃Cy,HM S w Cy xs/\Lt w g 0 Cy.flatten:=by
 obtain⟨Cy,G8,Ep,AN⟩:=h;rcases G8.2 with⟨he,_⟩|⟨g',AmI,cur,he,_,CK,Ao,hm,Bm,Av⟩
 · cases he
 injection he with B4 DC Kk;injection B4 with B4;injection B4 with B4;subst B4 DC Kk;refine⟨rfl,Ao,hm,AN,⟨cur.toList,by simpa using CK,by simpa using Bm⟩,Cy,Ep,fun j u Ay=>?_⟩;rw[AB9 _ g _ _ E (0,0) CK];rw[<-Av,ACl]at Ay;split at Ay
 · simpa using Ay
 cases Ay
theorem AiG{α:Type}{r:Be α}{S:Nat->Prop}{w:World}{E:TypeId}{v:Value}{xs:List α}(h:(@row α r E v xs).holds S w)(Ab:xs≠[]):∃g cap,v=.slice (some ⟨g,0,none⟩) xs.length cap/\xs.length<=cap/\cap<=maxLen:=by
 obtain⟨g,cap,cs,Cy,BC,_,Af,h2,_⟩:=@Vj α r _ _ _ _ _ h Ab;exact⟨g,cap,BC,Af,h2⟩
theorem ll{α:Type}{r:Be α}{c:Cj}{w:World}{L:Own}{D:List Atom}(i k:Nat){xs zs:List α}{E:TypeId}{g n cap:Nat}{dss:List (List Value)}(Ag:L[i]? =some (@row α r E (.slice (some ⟨g,0,none⟩) n cap) xs))
 (st:CI c.BW c.M w L)(AR:BP D w L)(Cu:HM (Et L.nd w) w dss zs)(AE:k<=xs.length)(pA:k+zs.length<=cap)(hlen:k+zs.length<=140737488355328){ys:List α}(Qg:xs.take k++zs++xs.drop (k+zs.length)=ys):
 (∀j,j<dss.flatten.length->(w.cell? ⟨g,k*r.size+j,none⟩).isSome=true/\w.frozen? ⟨g,k*r.size+j,none⟩=false)/\(∀u∈dss.flatten,u.oneCell'=true)/\
 CI c.BW c.M (w.setCells g (k*r.size) dss.flatten) (L.set i (@row α r E (.slice (some ⟨g,0,none⟩) ys.length cap) ys))/\BP D (w.setCells g (k*r.size) dss.flatten) (L.set i (@row α r E (.slice (some ⟨g,0,none⟩) ys.length cap) ys)):=by
 have Hv:=AA' Ag;obtain⟨Ao,Tn,U4,Sg,⟨cs,CK,I0⟩,Cy,Ep,OX⟩:=Xa (st.own _ Hv);subst Ao;have P':g∈L.nd:=FW.2 ⟨_,Hv,by simp[Value.ownBlock]⟩;have LH:dss.flatten.length=zs.length*r.size:=Cu.len;have pB:k*r.size+dss.flatten.length<=cs.length:=by
  rw[LH,I0,<-ADG];exact ACw _ pA
 have hs:C8 [g] w (w.setCells g (k*r.size) dss.flatten):=cG g _ _ w;have Mc:=aU dss.flatten cs (k*r.size) w CK;have EX:C8 (@row α r E (.slice (some ⟨g,0,none⟩) xs.length cap) xs).nd w (w.setCells g (k*r.size) dss.flatten):=hs.mono fun b Aq=>by simpa[Value.ownBlock]using Aq
 have UW:∀b,Et L.nd w b->Et (Own.nd (L.set i (@row α r E (.slice (some ⟨g,0,none⟩) ys.length cap) ys))) (w.setCells g (k*r.size) dss.flatten) b:=fun b Aq=>⟨ACp Aq.1 hs.size,fun Ab=>by
  rcases OK Ag b Ab with Af|Af
  · have:b=g:=(by simpa[Value.ownBlock]using Af);exact Aq.2 (this▸P')
  exact Aq.2 Af⟩
 have UT:∀b,Et L.nd w b->(w.setCells g (k*r.size) dss.flatten).heap[b]? =w.heap[b]? :=fun b Aq=>hs.block b Aq.1 (fun Ab=>by
  have:b=g:=(by simpa using Ab);exact Aq.2 (this▸P'))
 have qe:ys.length<=cap/\ys.length<=140737488355328:=by
  rw[<-Qg];simp only[ABP,ABz,ACt];omega
 refine⟨fun j Ay=>?_,Cu.one,?_,AR.KB (p':=@row α r E (.slice (some ⟨g,0,none⟩) ys.length cap) ys) i Ag EX (fun b Aq=>.inl Aq)⟩
 · have J9:k*r.size+j<cs.length:=AMT;exact⟨by rw[AB9 w g _ _ E (0,0) CK];simp[ABs J9],ADx w g _ _ E CK⟩
 refine st.KB (p':=@row α r E (.slice (some ⟨g,0,none⟩) ys.length cap) ys) i Ag EX (fS Mc (by rw[cE];exact I0) qe.1 U4 qe.2 fun j x Ay=>?_) (by simp[Value.ownBlock]) (fun b Aq=>.inl Aq);subst Qg;have hold:∀{MT:α},xs[j]? =some MT->(j<k\/k+zs.length<=j)->∃Cx,r.rd (Et (Own.nd (L.set i (@row α r E (.slice (some ⟨g,0,none⟩) (xs.take k++zs++xs.drop (k+zs.length)).length cap) (xs.take k++zs++xs.drop (k+zs.length))))) (w.setCells g (k*r.size) dss.flatten)) (w.setCells g (k*r.size) dss.flatten) Cx MT/\Lt (w.setCells g (k*r.size) dss.flatten) g (0+j*r.size) Cx:=fun{MT} Ab Tq=>by
  obtain⟨Cx,K',OT⟩:=@PH α r _ _ _ Cy xs 0 Ep OX j MT Ab;have AbA:Cx.length=r.size:=r.len K';refine⟨Cx,r.DY K' UW UT,fun t u Av=>?_⟩;have Yy:t<Cx.length:=(ABF.1 Av).1;have Bw:=OT t u Av;simp only[AB0]at Bw ⊢;rw[AB9 w g _ _ E (0,0) CK,ACA]at Bw;rw[AB9 _ g _ _ E (0,0) Mc,ACA,T0 _ cs _ _ pB,AA9 ?_]
  · exact Bw
  rcases Tq with h|h
  · have:=ACw r.size (show j+1<=k by omega);rw[ACX]at this;omega
  have:=ACw r.size h;rw[ADG]at this;omega
 by_cases Af:j<k
 · rw[ACN,ADP (by rw[ABz];omega),ACl,AA_ Af]at Ay;exact hold Ay (.inl Af)
 by_cases h2:j<k+zs.length
 · rw[ADP (by rw[ABP,ABz];omega),ADE (by rw[ABz];omega),ABz,ADH AE]at Ay;obtain⟨Cx,K',OT⟩:=@PH α r (Et (Own.nd (L.set i (@row α r E (.slice (some ⟨g,0,none⟩) (xs.take k++zs++xs.drop (k+zs.length)).length cap) (xs.take k++zs++xs.drop (k+zs.length))))) (w.setCells g (k*r.size) dss.flatten)) (w.setCells g (k*r.size) dss.flatten) g dss zs (k*r.size) (Cu.DY UW UT) (fun t u Av=>by
    have Yy:t<dss.flatten.length:=(ABF.1 Av).1;rw[AB9 _ g _ _ E (0,0) Mc,ACA,T0 _ cs _ _ pB,AA_ AMT,show k*r.size+t-k*r.size=t by omega];exact Av) (j-k) x Ay
   refine⟨Cx,K',?_⟩;have e:k*r.size+(j-k)*r.size=0+j*r.size:=by
    rw[<-ADG,AB0];congr 1;omega
   rw[<-e];exact OT
 rw[ADE (by rw[ABP,ABz];omega),ABP,ABz,ADH AE,ADh,show k+zs.length+(j-(k+zs.length))=j by omega]at Ay;exact hold Ay (.inr AMT)
theorem AiI{α:Type}{r:Be α}{c:Cj}{w:World}{L:Own}{D:List Atom}(i o:Nat){xs:List α}{E:TypeId}{g n cap:Nat}{us:List Value}(Ag:L[i]? =some (@row α r E (.slice (some ⟨g,0,none⟩) n cap) xs))
 (st:CI c.BW c.M w L)(AR:BP D w L)(A7:xs.length*r.size<=o)(pA:o+us.length<=cap*r.size):
 (∀j,j<us.length->(w.cell? ⟨g,o+j,none⟩).isSome=true/\w.frozen? ⟨g,o+j,none⟩=false)/\CI c.BW c.M (w.setCells g o us) L/\BP D (w.setCells g o us) L:=by
 have Hv:=AA' Ag;obtain⟨Ao,Tn,U4,Sg,⟨cs,CK,I0⟩,Cy,Ep,OX⟩:=Xa (st.own _ Hv);subst Ao;have P':g∈L.nd:=FW.2 ⟨_,Hv,by simp[Value.ownBlock]⟩;have hs:C8 [g] w (w.setCells g o us):=cG g _ _ w;have Mc:=aU us cs o w CK;have EX:C8 (@row α r E (.slice (some ⟨g,0,none⟩) xs.length cap) xs).nd w (w.setCells g o us):=hs.mono fun b Aq=>by simpa[Value.ownBlock]using Aq
 have O1:L.set i (@row α r E (.slice (some ⟨g,0,none⟩) xs.length cap) xs)=L:=by
  obtain⟨h,e⟩:=ABF.1 Ag;rw[<-e,List.set_getElem_self]
 have Af:=st.KB (p':=@row α r E (.slice (some ⟨g,0,none⟩) xs.length cap) xs) i Ag EX (fS Mc (by rw[cE];exact I0) Tn U4 Sg fun j x Ay=>?_) (by simp[Value.ownBlock]) (fun b Aq=>.inl Aq)
 · have h2:=AR.KB (p':=@row α r E (.slice (some ⟨g,0,none⟩) xs.length cap) xs) i Ag EX (fun b Aq=>.inl Aq);rw[O1]at Af h2;refine⟨fun j Ay=>?_,Af,h2⟩;have J9:o+j<cs.length:=AMT;exact⟨by rw[AB9 w g _ _ E (0,0) CK];simp[ABs J9],ADx w g _ _ E CK⟩
 rw[O1];obtain⟨Cx,K',OT⟩:=@PH α r _ _ _ Cy xs 0 Ep OX j x Ay;have AbA:Cx.length=r.size:=r.len K';have a0:j<xs.length:=(ABF.1 Ay).1;refine⟨Cx,r.DY K' (fun b Aq=>⟨ACp Aq.1 hs.size,Aq.2⟩) (fun b Aq=>hs.block b Aq.1 (fun Ab=>by
  have:b=g:=(by simpa using Ab);exact Aq.2 (this▸P'))),fun t u Av=>?_⟩
 have Yy:t<Cx.length:=(ABF.1 Av).1;have Bw:=OT t u Av;simp only[AB0]at Bw ⊢;rw[AB9 w g _ _ E (0,0) CK,ACA]at Bw;rw[AB9 _ g _ _ E (0,0) Mc,ACA,T0 _ cs _ _ AMT,AA9 ?_]
 · exact Bw
 have:=ACw r.size (show j+1<=xs.length by omega);rw[ACX]at this;omega
theorem sS{α:Type}{r:Be α}{S:Nat->Prop}{w:World}{E:TypeId}{g n cap:Nat}{xs:List α}(m:Nat)(hm:m<=xs.length)(h:(@row α r E (.slice (some ⟨g,0,none⟩) n cap) xs).holds S w):(@row α r E (.slice (some ⟨g,0,none⟩) m cap) (xs.take m)).holds S w:=by
 obtain⟨Ao,Tn,U4,Sg,⟨cs,CK,I0⟩,Cy,Ep,OX⟩:=Xa h;have AN:(xs.take m).length=m:=by rw[ABz];omega
 have:=@fS α r S w g cap E cs (xs.take m) CK I0 AMT U4 AMT fun i x Ab=>by
  rw[ACl]at Ab;split at Ab
  · exact @PH α r _ _ _ Cy xs 0 Ep OX i x Ab
  cases Ab
 rw[AN]at this;exact this
@[reducible] def cut(g B7 l h Dc:Nat):Value:=.slice (if Dc=l then some ⟨g,0,none⟩else some ⟨g,l*B7,none⟩) (h-l) (Dc-l)
section
variable{c:Cj} {ops:Array Oper} {J:Cj->Array Oper->List Oper->Env->Own->List Atom->Prop} [Dr:Ip J] {env:Env} {L:Own} {D:List Atom} {rest:List Oper} {d:Nat} {t:TypeId} {p:String} {af:Array Edge} {x y BQ Ag bJ:Operand} {T:TypeId} {g n Dc:Nat} {l h m:Nat} {E:TypeId} {B7:Nat}
include Dr
theorem H2(Ab:AL env x=some (.slice (some ⟨g,0,none⟩) n Dc))(Av:H5 c.P T E B7)(B4:AL env BQ=some (.int .i64 (l:Int)))(Af:l<=n)(h2:n<=Dc)(Ao:Nat.blt d c.n=true)
 (k:J c ops rest ((d,cut g B7 l n Dc)::env) L D):J c ops (⟨some d,.slice T x (some BQ) none none,t,p,af,none⟩::rest) env L D:=
 pu rfl rfl Ao (fun a w f=>by
  obtain⟨j,Ay,hs⟩:=ACr.1 Av.2;have CY:(0:Int)<=l/\(l:Int)<=(n:Int):=AMT;have Dh:(n:Int)<=(Dc:Int):=AMT;simp[execOp,f.AL Ab,f.AL B4,Instr.sliceAt,ABQ Av.1,Instr.slice,Instr.sliceBounds,Instr.sliceBound,asIntOf,CY,Af,sizeOf,typeInfo,Ay,hs,cut,ACm]) k
theorem tk(Ab:AL env x=some (.slice (some ⟨g,0,none⟩) n Dc))(Av:H5 c.P T E B7)(B4:AL env BQ=some (.int .i64 (l:Int)))(DC:AL env Ag=some (.int .i64 (h:Int)))(Af:l<=h)(h2:h<=Dc)(Ao:Nat.blt d c.n=true)
 (k:J c ops rest ((d,cut g B7 l h Dc)::env) L D):J c ops (⟨some d,.slice T x (some BQ) (some Ag) none,t,p,af,none⟩::rest) env L D:=
 pu rfl rfl Ao (fun a w f=>by
  obtain⟨j,Ay,hs⟩:=ACr.1 Av.2;have CY:(0:Int)<=l/\(l:Int)<=(h:Int):=AMT;have Dh:(0:Int)<=h/\(h:Int)<=(Dc:Int):=AMT;simp[execOp,f.AL Ab,f.AL B4,f.AL DC,Instr.sliceAt,ABQ Av.1,Instr.slice,Instr.sliceBounds,Instr.sliceBound,asIntOf,CY,Dh,Af,h2,sizeOf,typeInfo,Ay,hs,cut,ACm]) k
theorem tl(Ab:AL env x=some (.slice (some ⟨g,0,none⟩) n Dc))(Av:H5 c.P T E B7)(B4:AL env BQ=some (.int .i64 (l:Int)))(DC:AL env Ag=some (.int .i64 (h:Int)))(Kk:AL env bJ=some (.int .i64 (m:Int)))(Af:l<=h)(h2:h<=m)(Bo:m<=Dc)(Ao:Nat.blt d c.n=true)
 (k:∀u,J c ops rest ((d,u)::env) L D):J c ops (⟨some d,.slice T x (some BQ) (some Ag) (some bJ),t,p,af,none⟩::rest) env L D:=
 pu rfl rfl Ao (fun a w f=>by
  obtain⟨j,Ay,hs⟩:=ACr.1 Av.2;have CY:(0:Int)<=l/\(l:Int)<=(h:Int):=AMT;have Dh:(0:Int)<=h/\(h:Int)<=(m:Int):=AMT;have DQ:(0:Int)<=m/\(m:Int)<=(Dc:Int):=AMT;simp[execOp,f.AL Ab,f.AL B4,f.AL DC,f.AL Kk,Instr.sliceAt,ABQ Av.1,Instr.slice,Instr.sliceBounds,Instr.sliceBound,asIntOf,CY,Dh,DQ,Af,h2,Bo,sizeOf,typeInfo,Ay,hs];rfl) (k _)
end
section
variable{c:Cj} {ops:Array Oper} {Q:AuE} {env:Env} {L:Own} {D:List Atom} {rest:List Oper} {d:Nat} {t:TypeId} {p:String} {af:Array Edge} {x y:Operand} {T:TypeId}
theorem hK{α:Type}{r:Be α}(i m:Nat){l:List Oper}{E:TypeId}{g n cap:Nat}{xs:List α}(Ag:L[i]? =some (@row α r E (.slice (some ⟨g,0,none⟩) n cap) xs))(hm:m<=xs.length)(k:Cb Q c ops l env (L.set i (@row α r E (.slice (some ⟨g,0,none⟩) m cap) (xs.take m))) D):Cb Q c ops l env L D:=fun a w f st AR=>
 k a w f (st.swap Ag rfl (sS m hm (st.own _ (AA' Ag)))) (AR.swap Ag rfl)
theorem Sw{α:Type}{r:Be α}(i:Nat){KE:Code}{E:TypeId}{v:Value}{xs:List α}(Ag:L[i]? =some (@row α r E v xs))(Ab:0<xs.length)(k:∀g cap,v=.slice (some ⟨g,0,none⟩) xs.length cap->xs.length<=cap->cap<=maxLen->CF c KE Q env L D):CF c KE Q env L D:=fun a w f st AR=>by
 obtain⟨g,cap,Af,h2,Bo⟩:=AiG (st.own _ (AA' Ag)) (by intro e;rw[e]at Ab;simp at Ab);exact k g cap Af h2 Bo a w f st AR
theorem k6{α:Type}{r:Be α}{S:Nat->Prop}{w:World}:∀(j:Nat) (Cy:List (List Value)) (xs:List α),HM S w Cy xs->HM S w (Cy.drop j) (xs.drop j)/\(Cy.drop j).flatten=Cy.flatten.drop (j*r.size)
 |0,Cy,xs,h=>⟨h,by simp⟩
 |j+1,[],[],_=>⟨trivial,by simp⟩
 |j+1,c::Cy,x::xs,h=>by
  obtain⟨Af,h2⟩:=k6 j Cy xs h.2;refine⟨Af,?_⟩;have AN:=r.len h.1;rw[List.drop_succ_cons,h2,List.flatten_cons,ACX,Nat.add_comm,<-AN,<-List.drop_drop,List.drop_left'];rfl
 |j+1,[],_::_,h=>h.elim
 |j+1,_::_,[],h=>h.elim
theorem ni{α:Type}{r:Be α}(i:Nat){k j:Nat}{E:TypeId}{bytes g n cap:Nat}{xs:List α}(Ab:AL env x=some (.slice (some ⟨g,0,none⟩) k cap))(Bf:AL env y=some (cut g r.size j n cap))(Ag:L[i]? =some (@row α r E (.slice (some ⟨g,0,none⟩) n cap) xs))(Av:EH c.P T E r.size bytes)
 (Anq:k<=j)(a1:j<=xs.length)(Ao:Nat.blt d c.n=true)
 (K:Cb Q c ops rest ((d,.slice (some ⟨g,0,none⟩) (k+(n-j)) cap)::env) (L.set i (@row α r E (.slice (some ⟨g,0,none⟩) (k+(n-j)) cap) (xs.take k++xs.drop j))) D):
 Cb Q c ops (⟨some d,.call {callee:=.builtin .append,args:= #[x,y],argTypes:= #[T,T]},t,p,af,none⟩::rest) env L D:=by
 refine c7 (env':=(d,.slice (some ⟨g,0,none⟩) (k+(n-j)) cap)::env) rfl rfl (fun a w f st AR=>?_) K;have Hv:=AA' Ag;obtain⟨Qb,Tn,U4,Sg,⟨cs,CK,I0⟩,Cy,Ep,OX⟩:=Xa (st.own _ Hv);subst Qb;obtain⟨Cu,FF⟩:=k6 j Cy xs Ep;have bo:(xs.drop j).length=xs.length-j:=ACt;obtain⟨Af,h2,Bo,BB⟩:=ll (zs:=xs.drop j) (dss:=Cy.drop j) i k Ag st AR Cu AMT AMT AMT rfl;obtain⟨hu,ii,Gz,Gf,bp,hs,P_,Oj,WA⟩:=Av;have LH:(Cy.drop j).flatten.length=(xs.length-j)*r.size:=by rw[Cu.len,bo]
 have Ek:(Builtin.append_ #[T,T] t #[.slice (some ⟨g,0,none⟩) k cap,cut g r.size j xs.length cap]).run c.P w=.ok (.slice (some ⟨g,0,none⟩) (k+(xs.length-j)) cap) (w.setCells g (k*r.size) (Cy.drop j).flatten):=by
  have key:=fun(RJ:Addr) (Abi:∀t u,(Cy.drop j).flatten[t]? =some u->w.cell? (RJ.add t)=some u)=>run_append_room_cells (P:=c.P) (w:=w) (ty:=t) T E ii hu Gf g 0 k cap RJ (xs.length-j) (cap-j) (Cy.drop j).flatten (by rw[hs];exact LH) Abi h2 AMT
   (fun q B'=>by have:=(Af q B').1;rw[hs];simpa using this) (fun q B'=>by have:=(Af q B').2;rw[hs];simpa using this)
  rw[hs]at key;simp only[AB0]at key;unfold cut;split
  · refine key ⟨g,0,none⟩ fun t u Oh=>?_;have:(Cy.drop j).flatten.length=0:=by rw[LH,show xs.length-j=0 by omega,Nat.zero_mul]
    rw[ADd.1 this]at Oh;cases Oh
  refine key ⟨g,j*r.size,none⟩ fun t u Oh=>?_;rw[FF,ADh]at Oh;have:=OX _ _ Oh;rw[AR7];simpa using this
 have hlen:(xs.take k++xs.drop j++xs.drop (k+(xs.drop j).length)).length=max xs.length (k+(xs.length-j)):=by
  simp only[ABP,ABz,ACt];omega
 refine⟨_,w.setCells g (k*r.size) (Cy.drop j).flatten,?_,f.put _ (EU Ao),?_⟩
 · simp only[execOp,resolve,invoke,builtin,ABY,ACk,AB',ACQ,AB8,ACU,f.AL Ab,f.AL Bf,Ek]
 have C_:i<L.length:=(ABF.1 Ag).1;have Jf:(L.set i (@row α r E (.slice (some ⟨g,0,none⟩) (xs.take k++xs.drop j++xs.drop (k+(xs.drop j).length)).length cap) (xs.take k++xs.drop j++xs.drop (k+(xs.drop j).length))))[i]? =some (@row α r E (.slice (some ⟨g,0,none⟩) (xs.take k++xs.drop j++xs.drop (k+(xs.drop j).length)).length cap) (xs.take k++xs.drop j++xs.drop (k+(xs.drop j).length))):=ACP C_;have Bm:=sS (k+(xs.length-j)) (by rw[hlen];omega) (Bo.own _ (AA' Jf));have eY:(xs.take k++xs.drop j++xs.drop (k+(xs.drop j).length)).take (k+(xs.length-j))=xs.take k++xs.drop j:=List.take_left' (by rw[ABP,ABz,bo];omega);rw[eY]at Bm;have C':=Bo.swap (q:=@row α r E (.slice (some ⟨g,0,none⟩) (k+(xs.length-j)) cap) (xs.take k++xs.drop j)) Jf rfl Bm;have F4:=BB.swap (q:=@row α r E (.slice (some ⟨g,0,none⟩) (k+(xs.length-j)) cap) (xs.take k++xs.drop j)) Jf rfl;rw[List.set_set]at C' F4;exact⟨C',F4⟩
theorem Z'{α:Type}{r:Be α}(i:Nat){l h:Nat}{E:TypeId}{bytes g n cap:Nat}{xs:List α}{dst:Option Tmp}(Ab:AL env x=some (cut g r.size l h cap))(Ag:L[i]? =some (@row α r E (.slice (some ⟨g,0,none⟩) n cap) xs))(Av:EH c.P T E r.size bytes){zs:List Value}(Cu:E3 c.P E zs)(Tw:zs.all (·.oneCell')=true)
 (AN:xs.length<=l)(Anv:l<=h)(hh:h<=cap){env':Env}(he:∀a,Fr c.n a env->Fr c.n (a.put dst (.tuple #[])) env')(K:Cb Q c ops rest env' L D):
 Cb Q c ops (⟨dst,.call {callee:=.builtin .clear,args:= #[x],argTypes:= #[T]},t,p,af,none⟩::rest) env L D:=by
 refine c7 (env':=env') rfl rfl (fun a w f st AR=>?_) K;obtain⟨hu,ii,Gz,Gf,bp,hs,P_,Oj,WA⟩:=Av;obtain⟨i2,OF,Jf,PE,WH⟩:=Cu;rw[Gf]at Jf;injection Jf with Jf;subst Jf;rw[bp]at PE;injection PE with PE;subst PE;by_cases C_:l=h
 · subst C_;refine⟨.tuple #[],w,?_,he a f,st,AR⟩;have Ek:(Builtin.clear_ #[T] t #[cut g r.size l l cap]).run c.P w=.ok (.tuple #[]) w:=by
    unfold cut;split<;>simp[Builtin.clear_,ABQ hu]
   simp only[execOp,resolve,invoke,builtin,ABY,ACk,AB',ACQ,AB8,ACU,f.AL Ab,Ek]
 obtain⟨us,I1⟩:∃us,us=(Builtin.zeroCells Gz.cells (h-l)).toList:=⟨_,rfl⟩;have e0:us.length=(h-l)*r.size:=by rw[I1,Array.length_toList,size_zeroCells,Oj]
 have Acl:∀u∈us,u.oneCell'=true:=by
  intro u Oh;rw[I1,Array.mem_toList_iff]at Oh;have Hv:u∈Gz.cells:=by
   unfold Builtin.zeroCells at Oh;obtain⟨q,B',rfl⟩:=Array.mem_map.1 Oh;have Bw:0<Gz.cells.size:=(by rw[Oj];exact WA);have:q % Gz.cells.size<Gz.cells.size:=Nat.mod_lt _ Bw;rw[getElem!_pos Gz.cells (q % Gz.cells.size) this];exact Array.getElem_mem _
  rw[WH]at Hv;have:=ABq.1 Tw u (by simpa using Hv);simpa using this
 have Sd:=ACw r.size AN;have Anz:=ACw r.size hh;have AnA:l*r.size+(h-l)*r.size=h*r.size:=by rw[<-ADG];congr 1;omega
 obtain⟨Af,Bo,BB⟩:=AiI (us:=us) i (l*r.size) Ag st AR Sd (by rw[e0];omega);refine⟨.tuple #[],w.setCells g (l*r.size) us,?_,he a f,Bo,BB⟩;have Gg:=run_storeCells_cells (P:=c.P) g (l*r.size) us 0 w (fun q B'=>by simpa using(Af q B').1) (fun q B'=>by simpa using(Af q B').2) Acl;simp only[Nat.add_zero]at Gg;have Ek:(Builtin.clear_ #[T] t #[cut g r.size l h cap]).run c.P w=.ok (.tuple #[]) (w.setCells g (l*r.size) us):=by
  obtain⟨q,B'⟩:∃q,h-l=q+1:=⟨h-l-1,AMT⟩;unfold cut;rw[AA9 AMT,B'];rw[B']at I1;simp[Builtin.clear_,ABQ hu,zeroValue,typeInfo,Gf,bp,<-I1,Gg]
 simp only[execOp,resolve,invoke,builtin,ABY,ACk,AB',ACQ,AB8,ACU,f.AL Ab,Ek]
theorem sX{P:Program}(w:World){dT sT ty elem:TypeId}{B7:Nat}(b o oc yq:Nat)(a:Addr)(lv s6 m:Nat)(cs:List Value)
 (hu:P.underlying dT=some (.slice elem))(hs:(P.info? elem).map (·.size)=some B7)(hm:m=Nat.min lv oc)(Ao:cs.length=m*B7)
 (Ach:∀j v,cs[j]? =some v->w.cell? (a.add j)=some v)(Bm:∀j,j<cs.length->(w.cell? ⟨b,o+j,none⟩).isSome=true/\w.frozen? ⟨b,o+j,none⟩=false)(Af:∀v∈cs,v.oneCell'=true):
 (Builtin.copy_ #[dT,sT] ty #[.slice (some ⟨b,o,none⟩) oc yq,.slice (some a) lv s6]).run P w=.ok (.int .i64 (m:Int)) (w.setCells b o cs):=by
 have Gg:=run_storeCells_cells (P:=P) b o cs 0 w (by simpa using fun j Ay=>(Bm j Ay).1) (by simpa using fun j Ay=>(Bm j Ay).2) Af;obtain⟨i,Ag,EY⟩:=ACr.1 hs;have BI:=run_firstCells_some (P:=P) w B7 m a lv s6 cs Ao Ach;simp only[Nat.add_zero]at Gg;simp[Builtin.copy_,ABQ hu,Builtin.lenOf,sizeOf,typeInfo,Ag,EY,<-hm,BI,Gg,goInt]
theorem Uz{α:Type}{s:Shape α}(i j:Nat){k h:Nat}{E:TypeId}{g n cap Pj:Nat}{xs:List α}{ov:α}{hh:s.H}{dT:TypeId}(Ab:AL env x=some (cut g s.size k h cap))(Bf:AL env y=some (.slice (some ⟨Pj,0,none⟩) 1 1))(Ag:L[i]? =some (@row α (Be.D5 s) E (.slice (some ⟨g,0,none⟩) n cap) xs))(Ay:L[j]? =some (AO Pj E (s.cells ov hh)))
 (Av:H5 c.P T E s.size)(Cl:Bg (s.sub ov hh) D)(hw:s.wf ov)(AE:k<=xs.length)(AbQ:k<h)(AbK:h<=cap)(hlen:xs.length<140737488355328)(Ao:Nat.blt d c.n=true){ys:List α}(Qg:xs.take k++[ov]++xs.drop (k+1)=ys)
 (K:Cb Q c ops rest ((d,.int .i64 1)::env) (L.set i (@row α (Be.D5 s) E (.slice (some ⟨g,0,none⟩) ys.length cap) ys)) D):
 Cb Q c ops (⟨some d,.call {callee:=.builtin .copy,args:= #[x,y],argTypes:= #[T,dT]},t,p,af,none⟩::rest) env L D:=by
 refine c7 (env':=(d,.int .i64 1)::env) rfl rfl (fun a w f st AR=>?_) K;have BC:w.heap[Pj]? =some (.cells (s.cells ov hh).toArray E (0,0)):=st.own _ (AA' Ay);have Cu:@HM α (Be.D5 s) (Et L.nd w) w [s.cells ov hh] [ov]:=⟨⟨hh,rfl,fun t Av=>AR t (Cl t Av),hw⟩,trivial⟩;obtain⟨Af,h2,Bo,BB⟩:=ll (r:=Be.D5 s) (zs:=[ov]) (dss:=[s.cells ov hh]) i k Ag st AR Cu AE (by simp;omega) (by simp;omega) Qg;refine⟨_,_,?_,f.put _ (EU Ao),Bo,BB⟩;have Ek:=sX (P:=c.P) w (dT:=T) (sT:=dT) (ty:=t) g (k*s.size) (h-k) (cap-k) ⟨Pj,0,none⟩ 1 1 1 [s.cells ov hh].flatten Av.1 Av.2 (by simp only[Nat.min_def];split<;>omega) (by simp[s.len]) (fun q u B'=>by
  rw[AR7,AB9 w Pj _ _ E (0,0) BC];simpa using B') Af h2
 have HX:=f.AL Ab;unfold cut at HX;rw[AA9 AMT]at HX;simp only[execOp,resolve,invoke,builtin,ABY,ACk,AB',ACQ,AB8,ACU,HX,f.AL Bf,Ek];rfl
theorem UA{α:Type}{r:Be α}(i j:Nat){k h l h2:Nat}{E:TypeId}{g n cap G1 MF hC:Nat}{xs us:List α}{dT:TypeId}(Ab:AL env x=some (cut g r.size k h cap))(Bf:AL env y=some (cut G1 r.size l h2 hC))(Ag:L[i]? =some (@row α r E (.slice (some ⟨g,0,none⟩) n cap) xs))(Ay:L[j]? =some (@row α r E (.slice (some ⟨G1,0,none⟩) MF hC) us))
 (Av:H5 c.P T E r.size)(AE:k<=xs.length)(AbQ:k<h)(AbK:h<=cap)(AN:l<us.length)(hm:us.length-l=Nat.min (h2-l) (h-k))(hlen:k+us.length<140737488355328)(Ao:Nat.blt d c.n=true){ys:List α}(Qg:xs.take k++us.drop l++xs.drop (k+(us.length-l))=ys)
 (K:∀m:Int,Cb Q c ops rest ((d,.int .i64 m)::env) (L.set i (@row α r E (.slice (some ⟨g,0,none⟩) ys.length cap) ys)) D):
 Cb Q c ops (⟨some d,.call {callee:=.builtin .copy,args:= #[x,y],argTypes:= #[T,dT]},t,p,af,none⟩::rest) env L D:=by
 refine c7 (env':=(d,.int .i64 ((us.length-l:Nat):Int))::env) rfl rfl (fun a w f st AR=>?_) (K _);obtain⟨Qb,Tn,U4,Sg,_,Cy,Ep,OX⟩:=Xa (st.own _ (AA' Ay));obtain⟨Cu,FF⟩:=k6 l Cy us Ep;have bo:(us.drop l).length=us.length-l:=ACt;have pQ:us.length-l<=h-k:=by rw[hm];exact Nat.min_le_right _ _
 obtain⟨Af,iI,Bo,BB⟩:=ll (zs:=us.drop l) (dss:=Cy.drop l) (ys:=ys) i k Ag st AR Cu AE AMT AMT (by rw[bo];exact Qg);refine⟨_,_,?_,f.put _ (EU Ao),Bo,BB⟩;have Ek:=sX (P:=c.P) w (dT:=T) (sT:=dT) (ty:=t) g (k*r.size) (h-k) (cap-k) ⟨G1,l*r.size,none⟩ (h2-l) (hC-l) (us.length-l) (Cy.drop l).flatten Av.1 Av.2 hm (by rw[Cu.len,bo]) (fun q u B'=>by
  rw[FF,ADh]at B';have:=OX _ _ B';rw[AR7];simpa using this) Af iI
 have HX:=f.AL Ab;have U6:=f.AL Bf;unfold cut at HX U6;rw[AA9 AMT]at HX U6;simp only[execOp,resolve,invoke,builtin,ABY,ACk,AB',ACQ,AB8,ACU,HX,U6,Ek]
theorem dy{α:Type}{r:Be α}(i:Nat){k m:Nat}{E l9:TypeId}{bytes g n cap:Nat}{qP:IntKind}{xs:List α}(Ab:AL env x=some (.slice (some ⟨g,0,none⟩) k cap))(Bf:AL env y=some (.int .i64 (m:Int)))(Ag:L[i]? =some (@row α r E (.slice (some ⟨g,0,none⟩) n cap) xs))(Av:EH c.P T E r.size bytes)(Ack:c.P.underlying l9=some (.int qP))
 (AE:k<=xs.length)(hm:cap<k+m)(Aq:(k+m)*bytes<=140737488355328)(R9:k+m<=140737488355328)(Ao:Nat.blt d c.n=true)
 (K:∀b G,k+m<=G->G<=maxLen->Cb Q c ops rest ((d,.slice (some ⟨b,0,none⟩) (k+m) G)::env) (@row α r E (.slice (some ⟨b,0,none⟩) k G) (xs.take k)::L) D):
 Cb Q c ops (⟨some d,.call {callee:=.builtin .append,args:= #[x,y],argTypes:= #[T,l9]},t,p,af,none⟩::rest) env L D:=by
 obtain⟨hu,ii,Gz,Gf,bp,hs,P_,Oj,WA⟩:=Av;refine Ue (σ:={q:Nat×Nat // k+m<=q.2/\q.2<=maxLen}) rfl rfl (fun q=>(d,.slice (some ⟨q.1.1,0,none⟩) (k+m) q.1.2)::env) (fun q=>@row α r E (.slice (some ⟨q.1.1,0,none⟩) k q.1.2) (xs.take k)::L) (fun _=>D) (fun a w f st AR=>?_) (fun q=>K _ _ q.2.1 q.2.2);obtain⟨Qb,Tn,U4,Sg,⟨cs,CK,I0⟩,Cy,Ep,OX⟩:=Xa (st.own _ (AA' Ag));have AJ:=C8.drew [] w;obtain⟨TI,holds⟩:∃TI,TI=Cy.flatten.take (k*r.size):=⟨_,rfl⟩;have pD:Cy.flatten.length=xs.length*r.size:=Ep.len;have pX:TI.length=k*r.size:=by
  rw[holds,ABz,pD];exact ADH (ACw _ AE)
 have hold:(Builtin.firstCells ii.size k (.slice (some ⟨g,0,none⟩) k cap)).run c.P w.drew=.ok TI.toArray w.drew:=by
  rw[hs];refine run_firstCells_some w.drew r.size k ⟨g,0,none⟩ k cap TI pX fun q u B'=>?_;rw[AR7];rw[holds,ACl]at B';split at B'
  · have:=OX q u B';simpa using this
  cases B'
 have Ek:=Lib.run_append_grow_zeros (P:=c.P) w T l9 t E ii Gz .i64 qP hu Ack Gf bp (some ⟨g,0,none⟩) k cap TI hold m AMT (by rw[hs];exact WA) hm AMT (by rw[P_];have:=ACw bytes (show m<=k+m by omega);omega) (by rw[P_];exact growslice_fits hm Aq);have K8:=grownCap_ge w (k+m) cap E;have UU:=grownCap_le_maxLen w (k+m) cap E (by simp only[maxLen];omega);obtain⟨G,AaV⟩:∃G,G=grownCap w (k+m) cap E:=⟨_,rfl⟩;rw[<-AaV]at Ek K8 UU;obtain⟨A,Cl⟩:∃A,A=TI.toArray++Builtin.zeroCells Gz.cells m++Builtin.zeroCells Gz.cells (G-(k+m)):=⟨_,rfl⟩;rw[<-Cl]at Ek;have AaT:A.toList.length=G*r.size:=by
  rw[Cl];simp only[Array.length_toList,Array.size_append,size_zeroCells,Oj,List.size_toArray,pX,<-ADG];congr 1;omega
 have Gg:=st.step AJ;have F5:(w.drew.alloc (.cells A E)).heap[w.heap.size]? =some (.cells A.toList.toArray E (0,0)):=by
  show(w.heap.push (.cells A E (0,0)))[w.heap.size]? =_;simp
 have Md:(xs.take k).length=k:=by rw[ABz];omega
 have AH:(@row α r E (.slice (some ⟨w.heap.size,0,none⟩) k G) (xs.take k)).holds (Et (Own.nd (@row α r E (.slice (some ⟨w.heap.size,0,none⟩) k G) (xs.take k)::L)) (w.drew.alloc (.cells A E))) (w.drew.alloc (.cells A E)):=by
  have:=@fS α r (Et (Own.nd (@row α r E (.slice (some ⟨w.heap.size,0,none⟩) k G) (xs.take k)::L)) (w.drew.alloc (.cells A E))) (w.drew.alloc (.cells A E)) w.heap.size G E A.toList (xs.take k) F5 AaT AMT UU AMT fun q MT B'=>by
   rw[ACl]at B';split at B'
   · rename_i AnB;obtain⟨Cx,K',OT⟩:=@PH α r _ _ _ Cy xs 0 Ep OX q MT B';have LH:Cx.length=r.size:=r.len K';refine⟨Cx,r.DY K' (fun b Aq=>⟨ACp Aq.1 (by simp),fun Ab=>?_⟩) (fun b Aq=>heap_alloc_old w.drew _ Aq.1),fun z u qf=>?_⟩
     · simp only[Own.nd,Dt,ABm]at Ab;rcases Ab with Ab|Ab
       · have:b=w.heap.size:=(by simpa[Value.ownBlock]using Ab);have:=Aq.1;omega
       exact Aq.2 Ab
     have PE:z<Cx.length:=(ABF.1 qf).1;have Bw:=OT z u qf;have C_:q*r.size+z<k*r.size:=by
      have:=ACw r.size (show q+1<=k by omega);rw[ACX]at this;omega
     obtain⟨RP,NL,Sc⟩:∃Dc:List Value,Dc=Cy.flatten/\Lt w g 0 Dc:=⟨_,rfl,OX⟩;have pM:q*r.size+z<Cy.flatten.length:=by
      rw[pD];have:=ACw r.size AE;omega
     have C':=OX _ _ (ABs pM);simp only[AB0]at Bw C';rw[Bw]at C';rw[AB9 _ _ _ _ E (0,0) F5,ACA,Cl];simp only[AB0,Array.toList_append,ACN];rw[ADP (by show _<TI.length;omega)];show TI[_]? =_;rw[holds];rw[ACl,AA_ C_,ABs pM];exact C'.symm
   cases B'
  rw[Md]at this;exact this
 refine⟨⟨(w.heap.size,G),K8,UU⟩,_,_,?_,f.put _ (EU Ao),Gg.push (C8.alloc [] w.drew _) AH (by simp[Value.ownBlock]) (by simp[Value.ownBlock]),(AR.step AJ.nil).push (C8.alloc [] w.drew _) (by simp[Value.ownBlock])⟩;have HX:=f.AL Ab;have U6:=f.AL Bf;simp only[execOp,resolve,invoke,builtin,ABY,ACk,AB',ACQ,AB8,ACU,HX,U6,Ek]
theorem ft{α:Type}{r:Be α}(i j:Nat){q h:Nat}{E:TypeId}{g n cap Pj:Nat}{xs:List α}{us:List Value}{f:FuncId}{ats:Array TypeId}{Pr Cd:TypeId}(BI:Ext c.P f (Extern.SlicesOverlaps.overlaps #[Pr,Pr] #[Cd]))(Ab:AL env x=some (.slice (some ⟨Pj,0,none⟩) 1 1))(Bf:AL env y=some (cut g r.size q h cap))(Ag:L[i]? =some (@row α r E (.slice (some ⟨g,0,none⟩) n cap) xs))(Ay:L[j]? =some (AO Pj E us))(GQ:i≠j)
 (Av:H5 c.P Pr E r.size)(Tn:0<cap)(EY:0<r.size)(Ao:Nat.blt d c.n=true)
 (K:Cb Q c ops rest ((d,.bool false)::env) L D):
 Cb Q c ops (⟨some d,.call {callee:=.value (.func f),args:= #[x,y],argTypes:=ats},t,p,af,none⟩::rest) env L D:=by
 refine c7 (env':=(d,.bool false)::env) rfl rfl (fun a w Gw st AR=>⟨.bool false,w,?_,Gw.put _ (EU Ao),st,AR⟩) K;obtain⟨_,_,_,_,⟨cs,CK,I0⟩,_⟩:=Xa (st.own _ (AA' Ag));have BC:w.heap[Pj]? =some (.cells us.toArray E (0,0)):=st.own _ (AA' Ay);have FG:Pj≠g:=fun e=>by
  have:=CI.KB.XX Ag Ay GQ st.AGm g (by simp[Value.ownBlock]) (by simp[e]);exact this
 obtain⟨qz,AbO,hs⟩:=ACr.1 Av.2;have AE:cs.toArray.size≠0:=by
  rw[List.size_toArray,I0];have:=Nat.mul_pos Tn EY;omega
 obtain⟨fn,B4,DC,Kk,QX,QY⟩:=BI.ok;have Ek:(callFunc f #[.slice (some ⟨Pj,0,none⟩) 1 1,cut g r.size q h cap]).run c.P w=.ok (.value (.bool false)) w:=by
  rw[run_callFunc_extern B4 DC Kk QX QY];have key:=fun RJ (Af:RJ=(⟨g,0,none⟩:Addr)\/RJ=⟨g,q*r.size,none⟩)=>Lib.run_overlaps_apart (P:=c.P) w Pr Cd E Av.1 r.size (fun w=>by simp[sizeOf,typeInfo,AbO,hs]) ⟨Pj,0,none⟩ RJ 1 1 (h-q) (cap-q) (by rcases Af with rfl|rfl<;>exact FG) E E us.toArray.size cs.toArray.size (by simp[World.shape?,BC]) (by rcases Af with rfl|rfl<;>simp[World.shape?,CK])
   AE (ADx w Pj _ _ E BC) (ADx w Pj _ _ E BC)
  unfold cut;split
  · rw[key _ (.inl rfl)];rfl
  rw[key _ (.inr rfl)];rfl
 have JU:a.eval (.func f)=.func (.func f) #[] #[]:=rfl;simp only[execOp,resolve,Deferred.ofValue,JU,invoke,ACQ,AB8,ACU,Gw.AL Ab,Gw.AL Bf,ABY,ACk,AB'];simpa using Ek
end
end
end Go.A_
namespace Go.Apw
@[reducible] def VW(x:FE):List Value:=[.int .i64 x.Ca,.int .i64 x.Ap,.int .i64 x.As,.int .i64 x.Cm.Jd,.int .i64 x.Cm.JM,.int .i64 x.Cm.JJ,.int .i64 x.Cm.JK]
def FE.wf(x:FE):Prop:=A' x.Ca/\A' x.Ap/\A' x.As/\x.Cm.wf
@[reducible] def AiZ:Shape FE where
 H:=Unit
 size:=7
 cells x h:=VW x
 sub x h:=[]
 wf:=FE.wf
 len _ _:=rfl
 one:=by
  intro S w x h Av u hu;simp only[VW,ABf,ABh,ABi]at hu;rcases hu with rfl|rfl|rfl|rfl|rfl|rfl|rfl<;>first|rfl
@[reducible] instance Nk:Be FE:=Be.D5 AiZ
theorem AsJ{x:FE}:AuF Nk E_ 0 1 x x.Ca:=by
 rintro S w cs ⟨h,rfl,hs,hw⟩;exact⟨rfl,hw.1⟩
theorem AsK{x:FE}:AuF Nk E_ 1 1 x x.Ap:=by
 rintro S w cs ⟨h,rfl,hs,hw⟩;exact⟨rfl,hw.2.1⟩
theorem AsL{x:FE}:AuF Nk E_ 2 1 x x.As:=by
 rintro S w cs ⟨h,rfl,hs,hw⟩;exact⟨rfl,hw.2.2.1⟩
@[reducible] def dK(x:JE):List Value:=[.int .i64 x.Bn,.string x.Al]
def JE.wf(x:JE):Prop:=A' x.Bn/\x.Al.size<=9223372036854775807
@[reducible] def tm:Shape JE where
 H:=Unit
 size:=2
 cells x h:=dK x
 sub x h:=[]
 wf:=JE.wf
 len _ _:=rfl
 one:=by
  intro S w x h Av u hu;simp only[dK,ABf,ABh,ABi]at hu;rcases hu with rfl|rfl<;>first|rfl
@[reducible] instance TQ:Be JE:=Be.D5 tm
@[reducible] def FB(x:Ah)(AS A1 AY A9 Ba Bd Bp Bi:Value):List Value:=[.int .i64 x.S.CZ,.int .i64 x.S.DX,.bool x.S.Du,.string x.S.A6,.string x.S.Bc,.int .i64 x.S.Dn,AS,A1,AY,A9,Ba,.int .i64 x.S.Bt.Ev,.int .i64 x.S.Bt.Hi,.int .i64 x.S.Bt.IX,.string x.S.Bt.A6,.string x.S.Bt.Bc,.int .i64 x.S.Bt.Ap,.int .i64 x.S.Bt.As,.int .i64 x.S.CW.Ev,.int .i64 x.S.CW.Hi,.int .i64 x.S.CW.IX,.string x.S.CW.A6,.string x.S.CW.Bc,.int .i64 x.S.CW.Ap,.int .i64 x.S.CW.As,Bd,.int .i64 x.S.Jc,.int .i64 x.S.JL,.int .i64 x.S.GW,.int .i64 x.ix,.int .i64 x.AGm,Bp,Bi]
def Ah.wf(x:Ah):Prop:=x.S.wf/\A' x.ix/\A' x.AGm/\True/\True
@[reducible] def QA:Shape Ah where
 H:=Value×Value×Value×Value×Value×Value×Value×Value
 size:=33
 cells x h:=FB x h.1 h.2.1 h.2.2.1 h.2.2.2.1 h.2.2.2.2.1 h.2.2.2.2.2.1 h.2.2.2.2.2.2.1 h.2.2.2.2.2.2.2
 sub x h:=[⟨h.1,x.S.Aj⟩,⟨h.2.1,x.S.Bz⟩,⟨h.2.2.1,x.S.AA⟩,⟨h.2.2.2.1,x.S.Bj⟩,⟨h.2.2.2.2.1,x.S.CX⟩,⟨h.2.2.2.2.2.1,x.S.Cf⟩,⟨h.2.2.2.2.2.2.1,x.EF⟩,⟨h.2.2.2.2.2.2.2,x.BQ⟩]
 wf:=Ah.wf
 len _ _:=rfl
 one:=by
  intro S w x h Av u hu;have JZ:=Fh (Av _ (ABx ..));have o1:=Fh (Av _ (Qm 1 G));have o2:=Fh (Av _ (Qm 2 G));have IJ:=Fh (Av _ (Qm 3 G));have J0:=Fh (Av _ (Qm 4 G));have Ks:=Fh (Av _ (Qm 5 G));have MG:=Fh (Av _ (Qm 6 G));have NU:=Fh (Av _ (Qm 7 G));simp only[FB,ABf,ABh,ABi]at hu;rcases hu with rfl|rfl|rfl|rfl|rfl|rfl|rfl|rfl|rfl|rfl|rfl|rfl|rfl|rfl|rfl|rfl|rfl|rfl|rfl|rfl|rfl|rfl|rfl|rfl|rfl|rfl|rfl|rfl|rfl|rfl|rfl|rfl|rfl<;>first|rfl|exact JZ|exact o1|exact o2|exact IJ|exact J0|exact Ks|exact MG|exact NU
@[reducible] noncomputable def AG:Program:=Tryz.prog
instance:J7 Tryz.prog where
 B1:=[(30,[0,1]),(35,[0,1,2,3,4]),(42,[0,1,2,3,4,5,6]),(45,[0,1,2,3,4,5,6,7,8,9,10,11,18,25,26,27,28]),(51,[0,58,59,62]),(53,[0,1,2,3]),(55,[0,1]),(58,[0,1,3,4,5,6]),(67,[0,1,2,3,4,5,6,7]),(76,[0,1,2,3,4,5]),(79,[0,1,2,3,4,5,6,7,8,9,10,11,17,24]),(81,[0,1]),(95,[0,1,2,3]),(97,[0,1,2,3]),(108,[0,1,2,3,4,5]),(118,[0,29,30,31,32]),(123,[0,1,2,3]),(125,[0,1]),(130,[0,1,2,3]),(156,[0,1]),(164,[0,1,2,3]),(245,[0,1,2])]
 os:=[2,3,4,5,9,28,36,37,38,39,40,43,47,56,60,73,91,114,116,161,167,171]
 rs:=[(30,2),(35,5),(42,7),(45,29),(53,4),(55,2),(58,10),(67,8),(74,2),(76,6),(79,25),(81,26),(95,4),(97,7),(108,11),(123,4),(125,2),(130,7),(156,2)]
 okF:=⟨⟨_,ARU,ARs⟩,⟨_,ACE,ARs⟩,⟨_,ARV,ARs⟩,⟨_,Tryz.underlying45,ARs⟩,⟨_,Tryz.underlying51,ARs⟩,⟨_,ARX,ARs⟩,⟨_,ARY,ARs⟩,⟨_,Tryz.underlying58,ARs⟩,⟨_,Tryz.underlying67,ARs⟩,⟨_,ARZ,ARs⟩,⟨_,Tryz.underlying79,ARs⟩,⟨_,Tryz.underlying81,ARs⟩,⟨_,AR0,ARs⟩,⟨_,Tryz.underlying97,ARs⟩,⟨_,AR9,ARs⟩,⟨_,Tryz.underlying118,ARs⟩,⟨_,AR_,ARs⟩,⟨_,ADB,ARs⟩,⟨_,AR',ARs⟩,⟨_,ASa,ARs⟩,⟨_,Tryz.underlying164,ARs⟩,⟨_,Tryz.underlying245,ARs⟩,trivial⟩
 Qq:=⟨⟨⟨_,Tryz.underlying2,rfl⟩,ARs⟩,⟨⟨_,ABc,rfl⟩,ARs⟩,⟨⟨_,Tryz.underlying4,rfl⟩,ARs⟩,⟨⟨_,Tryz.underlying5,rfl⟩,ARs⟩,⟨⟨_,ABO,rfl⟩,ARs⟩,⟨⟨_,AC4,rfl⟩,ARs⟩,⟨⟨_,ARL,rfl⟩,ARs⟩,⟨⟨_,ADL,rfl⟩,ARs⟩,⟨⟨_,ARQ,rfl⟩,ARs⟩,⟨⟨_,ARN,rfl⟩,ARs⟩,⟨⟨_,ARR,rfl⟩,ARs⟩,⟨⟨_,Tryz.underlying43,rfl⟩,ARs⟩,⟨⟨_,Tryz.underlying47,rfl⟩,ARs⟩,⟨⟨_,ADN,rfl⟩,ARs⟩,⟨⟨_,ADY,rfl⟩,ARs⟩,⟨⟨_,Tryz.underlying73,rfl⟩,ARs⟩,⟨⟨_,Tryz.underlying91,rfl⟩,ARs⟩,⟨⟨_,Tryz.underlying114,rfl⟩,ARs⟩,⟨⟨_,Tryz.underlying116,rfl⟩,ARs⟩,⟨⟨_,Tryz.underlying161,rfl⟩,ARs⟩,⟨⟨_,Tryz.underlying167,rfl⟩,ARs⟩,⟨⟨_,Tryz.underlying171,rfl⟩,ARs⟩,trivial⟩
 b0:=⟨⟨⟨_,ARU,rfl⟩,ARs⟩,⟨⟨_,ACE,rfl⟩,ARs⟩,⟨⟨_,ARV,rfl⟩,ARs⟩,⟨⟨_,Tryz.underlying45,rfl⟩,ARs⟩,⟨⟨_,ARX,rfl⟩,ARs⟩,⟨⟨_,ARY,rfl⟩,ARs⟩,⟨⟨_,Tryz.underlying58,rfl⟩,ARs⟩,⟨⟨_,Tryz.underlying67,rfl⟩,ARs⟩,⟨⟨_,Tryz.underlying74,rfl⟩,ARs⟩,⟨⟨_,ARZ,rfl⟩,ARs⟩,⟨⟨_,Tryz.underlying79,rfl⟩,ARs⟩,⟨⟨_,Tryz.underlying81,rfl⟩,ARs⟩,⟨⟨_,AR0,rfl⟩,ARs⟩,⟨⟨_,Tryz.underlying97,rfl⟩,ARs⟩,⟨⟨_,AR9,rfl⟩,ARs⟩,⟨⟨_,AR_,rfl⟩,ARs⟩,⟨⟨_,ADB,rfl⟩,ARs⟩,⟨⟨_,AR',rfl⟩,ARs⟩,⟨⟨_,ASa,rfl⟩,ARs⟩,trivial⟩
 fq:=ARs
theorem BR{s i off:Nat}(h:aD (J7.B1 Tryz.prog) s i=some off):QD Tryz.prog s i off:=ic J7.okF h
theorem A2{s:Nat}(h:A7 (J7.os Tryz.prog) s=true):Nv Tryz.prog s:=a9 J7.Qq h
theorem At{s n:Nat}(h:ro (J7.rs Tryz.prog) s=some n):Oc Tryz.prog s n:=fR J7.b0 h
def j0:Nat:=727917923665601747895860292732541461087812300616209919003834695286768
def qN(P:Program)(f:Nat):Bool:=match P.funcs[f]? with
 |some fn=> !(fn.name== "runtime.NumGoroutine")&& !fn.body.isNone
 |none=>false
theorem Ac_:(List.range 229).all (fun f=>Nat.beq (Nat.land (Nat.shiftRight j0 f) 1) 0||qN Tryz.prog f)=true:=ARs
theorem Ar{f:Nat}(h:(Nat.blt f 229&&Nat.beq (Nat.land (Nat.shiftRight j0 f) 1) 1)=true):GU Tryz.prog f:=by
 rw[ABb]at h;have h2:=ABq.1 Ac_ f (ABw.2 (EU h.1));rw[show Nat.land (Nat.shiftRight j0 f) 1=1 from Nat.eq_of_beq_eq_true h.2,show Nat.beq 1 0=false from rfl,Bool.false_or,qN]at h2;split at h2
 · rename_i fn e;simp only[ABb,ABe]at h2;exact⟨⟨fn,e,h2.1,h2.2⟩⟩
 cases h2
theorem RL:EH AG 22 3 1 8:=EH.mk ABH ARs ARp
theorem zy:Ext Tryz.prog 234 Extern.BytealgCompare.compare:=⟨⟨_,Tryz.func234,ARs,ARs,ARs,ARs⟩⟩
theorem oN:Ext Tryz.prog 21 add64Entry:=⟨⟨_,Tryz.func21,ARs,ARs,ARs,ARs⟩⟩
theorem mixed:Tryz.prog.follows .mixedOrders=true:=ARs
theorem tp:H5 AG 22 3 1:=⟨ABH,ARs⟩
theorem J1:H5 AG 37 130 7:=⟨ADL,ARs⟩
theorem Gt:H5 AG 36 58 10:=⟨ARL,ARs⟩
theorem Ox:H5 AG 39 67 8:=⟨ARN,ARs⟩
theorem Ky:H5 AG 40 125 2:=⟨ARR,ARs⟩
theorem I6:H5 AG 56 123 4:=⟨ADN,ARs⟩
theorem SN:E3 AG 130 [ALu,ALu,.bool false,ALu,ALu,ALu,ALu]:=E3.mk ARs
theorem SO:E3 AG 67 [ALu,ALu,AL7,AL7,ALu,ALu,ALu,ALu]:=E3.mk ARs
theorem de:E3 AG 125 [ALu,ALu]:=E3.mk ARs
theorem Um:E3 AG 123 [ALu,ALu,ALu,ALu]:=E3.mk ARs
theorem vt:E3 AG 76 [ALu,AL7,AL7,ALu,ALu,ALu]:=E3.mk ARs
theorem Hd:E3 AG 58 [AL7,ALu,ALu,ALu,ALu,AI,ALu,ALu,ALu,ALu]:=E3.mk ARs
end Go.Apw
namespace Go.Proofs.YtklmcfecakaanaaGreat.Uo
end Go.Proofs.YtklmcfecakaanaaGreat.Uo
namespace Go.Apw
theorem Zh(g:Int)(Wo:A' g):Cv AG 17 [.int .i64 g] [] (.bool (Ih g)):=by
 refine Aw.proof Tryz.func17 G 9 G G fun X w=>?_;obtain⟨Aa5,Aa6⟩:=id Wo;exact AF 1 G<|Ae<|U 3 G<|Fu 5 3 [] [] G G G<|U 1 G<|Ac<|rt<|Bq () G G ARz G Aa
theorem AwZ(n:Int)(MB:A' n):Cv AG 57 [.int .i64 n] [] (.bool (Avp n)):=by
 refine Aw.proof Tryz.func57 G 9 G G fun X w=>?_;obtain⟨Yk,Yl⟩:=id MB;exact AF 1 G<|Ae<|U 3 G<|Fu 5 3 [] [] G G G<|U 1 G<|Ac<|rt<|Bq () G G ARz G Aa
theorem AwD(n:Int)(MB:A' n):Cv AG 43 [.int .i64 n] [] (.bool (Au5 n)):=by
 refine Aw.proof Tryz.func43 G 9 G G fun X w=>?_;obtain⟨Yk,Yl⟩:=id MB;exact AF 1 G<|Ae<|U 3 G<|Fu 5 3 [] [] G G G<|U 1 G<|Ac<|rt<|Bq () G G ARz G Aa
theorem Avz(k:ByteArray):Cv AG 58 [.string k] [] (.bool (Ix k)):=by
 refine Aw.proof Tryz.func58 G 11 G G fun X w=>AF 1 G<|Ae<|An G G<|PI G ABO G<|U 2 G ?_;refine D4 6 4 [] G G (fun F4 ZC=>by
  have Aog:=ABA F4;exact U 1 G<|Bl G G G<|PI G ABO G<|U 2 G<|ZC G Br) ?_
 exact U 1 G<|Ac<|rt<|Bq () G G ARz G Aa
theorem gi(k:ByteArray):Cv AG 51 [.string k] [] (.bool (Ix k)):=by
 refine Aw.proof Tryz.func51 G 11 G G fun X w=>AF 1 G<|Ae<|An G G<|PI G ABO G<|U 2 G ?_;refine D4 6 4 [] G G (fun F4 ZC=>by
  have Aog:=ABA F4;exact U 1 G<|Bl G G G<|PI G ABO G<|U 2 G<|ZC G Br) ?_
 exact U 1 G<|Ac<|rt<|Bq () G G ARz G Aa
theorem gr(c:Int)(q:Int)(BK:A' c)(Ed:A' q):Cv AG 50 [.int .i64 c,.int .i64 q] [] (.bool (Jj c q)):=by
 refine Aw.proof Tryz.func50 G 19 G G fun X w=>?_;obtain⟨K9,K_⟩:=id BK;obtain⟨LD,LF⟩:=id Ed;exact AF 1 G<|Ae<|U 3 G<|Fu 7 3 [] [1] G G G<|An G G<|Fu 11 3 [] [1] G G G<|An G G<|Fu 15 3 [] [] G G G<|U 1 G<|Ac<|rt<|Bq () G G ARz G Aa
theorem hS(c:Int)(q:Int)(BK:A' c)(Ed:A' q):Cv AG 49 [.int .i64 c,.int .i64 q] [] (.bool (Jj c q)):=by
 refine Aw.proof Tryz.func49 G 19 G G fun X w=>?_;obtain⟨K9,K_⟩:=id BK;obtain⟨LD,LF⟩:=id Ed;exact AF 1 G<|Ae<|U 3 G<|Fu 7 3 [] [1] G G G<|An G G<|Fu 11 3 [] [1] G G G<|An G G<|Fu 15 3 [] [] G G G<|U 1 G<|Ac<|rt<|Bq () G G ARz G Aa
theorem Xx(BQ:ByteArray)(Ag:ByteArray)(key:ByteArray):Cv AG 53 [.string BQ,.string Ag,.string key] [] (.bool (within BQ Ag key)):=by
 refine Aw.proof Tryz.func53 G 19 G G fun X w=>AF 1 G<|Ae<|U 2 G<|j2 G G G<|An G G ?_;refine D4 10 8 [] G G (fun Dq N'=>by
  refine U 3 G ?_;refine DE 13 4 [10] G G (fun Dp vO=>by
   have Af0:=ACe Dp;exact U 2 G<|Bl G G G<|Ad7 G G G<|U 1 G<|vO G Br) ?_
  exact U 1 G<|N' G Br) ?_
 exact U 1 G<|Ac<|rt<|Bq () G G ARz G Aa
theorem tu(BQ:ByteArray)(Ag:ByteArray):Cv AG 44 [.string BQ,.string Ag] [] (.bool (PQ BQ Ag)):=by
 refine Aw.proof Tryz.func44 G 22 G G fun X w=>AF 1 G<|Ae<|An G G<|PI G ABO G<|U 2 G ?_;refine D4 8 4 [0,1] G G (fun D2 vM=>by
  have kL:=ABA D2;exact U 1 G<|Bl G G G<|PI G ABO G<|U 2 G<|vM G Br) ?_
 refine An G G ?_;refine D4 13 8 [] G G (fun Dp SS=>by
  refine U 3 G ?_;refine DE 16 4 [13] G G (fun CR SR=>by
   have Af2:=ACe CR;exact U 2 G<|Bl G G G<|AaE G G G<|U 1 G<|SR G Br) ?_
  exact U 1 G<|SS G Br) ?_
 exact U 1 G<|Ac<|rt<|Bq () G G (by first|rfl|(simp only[PQ,bA,Bool.not_not];rfl)|(simp only[PQ,bA,Bool.not_not])) G Aa
theorem jd(s:GC)(v:Int)(_:s.wf)(ja:A' v):Cv AG 164 [.agg (Od s).toArray,.int .i64 v] [] (.bool (Rb s v)):=by
 refine Aw.proof Tryz.func164 G 15 G G fun X w=>?_;obtain⟨Abf,Abg⟩:=id ja;exact Ae<|CV G G G fun Dh=>U 1 G<|Ac<|Ae<|AX 5 [0] G G<|Fu 9 5 [0] [] G G G<|U 1 G<|Ac<|rt<|AQ<|Bq () G G ARz G Aa
theorem kJ(s:Bv)(El EV D_ EA Em Eh:Value)(key:ByteArray)(_:s.wf):Cv AG 35 [.agg (BY s El EV D_ EA Em Eh).toArray,.string key] [⟨El,s.Aj⟩,⟨EV,s.Bz⟩,⟨D_,s.AA⟩,⟨EA,s.Bj⟩,⟨Em,s.CX⟩,⟨Eh,s.Cf⟩] (.bool (F' s key)):=by
 exact Aw.proof Tryz.func35 G 15 G G fun X w=>Ae<|CV G G G fun Dh=>U 1 G<|Ac<|Ae<|AX 3 [0] G G<|D4 7 7 [] G G (fun GY VC=>AX 5 [0,0] G G<|Bl G G G<|B0 (Xx _ _ _) (Ar G) G Aa G<|U 1 G<|VC G Br)<|U 1 G<|Ac<|rt<|AQ<|Bq () G G ARz G Aa
theorem Ajn(s:Bv)(El EV D_ EA Em Eh:Value)(key:ByteArray)(_:s.wf):Cv AG 52 [.agg (BY s El EV D_ EA Em Eh).toArray,.string key] [⟨El,s.Aj⟩,⟨EV,s.Bz⟩,⟨D_,s.AA⟩,⟨EA,s.Bj⟩,⟨Em,s.CX⟩,⟨Eh,s.Cf⟩] (.bool (Ef s key)):=by
 refine Aw.proof Tryz.func52 G 19 G G fun X w=>Ae<|CV G G G fun Dh=>U 1 G<|Ac<|Ae<|AX 5 [0] G G ?_;refine D4 9 9 [] G G (fun EO N'=>by
  have Y0:=EO;simp only[ABe,ABl]at Y0;exact AX 7 [0,0] G G<|Bl G G G<|B0 (Xx _ _ _) (Ar G) G Aa G<|U 1 G<|N' G Br) ?_
 exact U 1 G<|Ac<|rt<|AQ<|Bq () G G ARz G Aa
theorem fC(p:Fs)(Tm:p.wf):Cv AG 34 [.agg (ED p).toArray] [] (.bool (LK p)):=by
 exact Aw.proof Tryz.func34 G 35 G G fun X w=>Ae<|CV G G G fun CY=>U 1 G<|Ac<|Ae<|AX 4 [0] G G<|Fu 6 4 [0] [1] G G G<|An G G<|D4 11 4 [1] G G (fun Ct ZF=>AX 2 [0] G G<|Bl G G G<|B0 (Zh _ Tm.2.1) (Ar G) G Aa G<|U 1 G<|ZF G Br)<|An G G<|D4 16 4 [1] G G (fun CR SR=>AX 2 [0] G G<|Bl G G G<|B0 (Zh _ Tm.2.2.1) (Ar G) G Aa G<|U 1 G<|SR G Br)<|An G G<|Fu 21 6 [0,0] [1] G G G<|An G G<|D4 28 6 [] G G (fun R2 ZJ=>AX 4 [0,0] G G<|Bl G G G<|B0 (tu _ _) (Ar G) G Aa G<|U 1 G<|ZJ G Br)<|U 1 G<|Ac<|rt<|AQ<|Bq () G G ARz G Aa
theorem qO(l:F_)(_:l.wf):Cv AG 167 [.agg (Lx l).toArray] [] (.bool (Sk l)):=by
 exact Aw.proof Tryz.func167 G 21 G G fun X w=>Ae<|CV G G G fun CY=>U 1 G<|Ac<|Ae<|AX 4 [0] G G<|Fu 6 4 [0] [1] G G G<|An G G<|Fu 11 4 [0] [1] G G G<|An G G<|Fu 16 4 [0] [] G G G<|U 1 G<|Ac<|rt<|AQ<|Bq () G G ARz G Aa
theorem YP(a:AD)(Cw:Value)(_:a.wf):Cv AG 90 [.agg (A3 a Cw).toArray] [⟨Cw,a.A0⟩] (.bool (G_ a)):=by
 exact Aw.proof Tryz.func90 G 7 G G fun X w=>Ae<|CV G G G fun CY=>U 1 G<|Ac<|I5 5 [0] G G<|rt<|AQ<|Bq () G G ARz G Aa
theorem h'(m:Int)(t:Int)(UX:A' m)(Abe:A' t):Cv AG 91 [.int .i64 m,.int .i64 t] [] (.int .i64 (JN m t)):=by
 refine Aw.proof Tryz.func91 G 19 G G fun X w=>?_;obtain⟨Am7,Am8⟩:=id UX;obtain⟨Anb,Anc⟩:=id Abe;refine AF 1 G<|Am<|B5<|Ae<|U 3 G<|ET 8 3 [] [0,1] G G G<|U 1 G<|Ac<|BN G (fun C'=>?_) (fun C'=>?_)
 · exact AF 1 G<|rt<|C9<|Cd<|Bq () G G (by simp_all [JN]) G Aa
 refine Ae<|U 3 G<|Fu 15 3 [] [] G G G<|U 1 G<|Ac<|BN G (fun EM=>?_) (fun EM=>?_)
 · exact AF 1 G<|rt<|C9<|Cd<|Bq () G G (by simp_all [JN]) G Aa
 exact EG<|CU<|A5<|AF 1 G<|rt<|Bq () G G (by simp_all [JN]) G Aa
theorem Ayr(m:Int)(t:Int)(UX:A' m)(Abe:A' t):Cv AG 59 [.int .i64 m,.int .i64 t] [] (.int .i64 (Au' m t)):=by
 refine Aw.proof Tryz.func59 G 19 G G fun X w=>?_;obtain⟨Am7,Am8⟩:=id UX;obtain⟨Anb,Anc⟩:=id Abe;refine AF 1 G<|Am<|B5<|Ae<|U 3 G<|Fu 8 3 [] [0,1] G G G<|U 1 G<|Ac<|BN G (fun C'=>?_) (fun C'=>?_)
 · exact AF 1 G<|rt<|C9<|Cd<|Bq () G G (by simp_all [Au']) G Aa
 refine Ae<|U 3 G<|ET 15 3 [] [] G G G<|U 1 G<|Ac<|BN G (fun EM=>?_) (fun EM=>?_)
 · exact AF 1 G<|rt<|C9<|Cd<|Bq () G G (by simp_all [Au']) G Aa
 exact EG<|CU<|A5<|AF 1 G<|rt<|Bq () G G (by simp_all [Au']) G Aa
end Go.Apw
namespace Go.Proofs.YtklmcfecakaanaaGreat.Uo
open Go.A_ Go.Apw Go.RowKit
end Go.Proofs.YtklmcfecakaanaaGreat.Uo
namespace Go.Apw
theorem oL:Po AG 55 Od:=by
 refine⟨ARs,fun a b w=>?_⟩;rw[AC6 w 9999 55 _ _ (by simp only[Program.fieldsOf,ARY]) ARs];simp only[Program.fieldsOf,ARY];refine ABS (EI G ABc G G G (Fk ABc _ _) (fun w=>EI G ABc G G G (Fk ABc _ _) (fun w=>OO w))) ?_;congr 1;obtain⟨He,DP⟩:=a;obtain⟨Pt,CY⟩:=b;simp[GC.mk.injEq]
theorem zf:Po AG 95 GM:=by
 refine⟨ARs,fun a b w=>?_⟩;rw[AC6 w 9999 95 _ _ (by simp only[Program.fieldsOf,AR0]) ARs];simp only[Program.fieldsOf,AR0];refine ABS (EI G ADY G G G (Fk ADY _ _) (fun w=>EI G ABc G G G (Fk ABc _ _) (fun w=>EI G ABc G G G (Fk ABc _ _) (fun w=>EI G ABc G G G (Fk ABc _ _) (fun w=>OO w))))) ?_;congr 1;obtain⟨He,DP,EK,FR⟩:=a;obtain⟨Pt,CY,Dh,DQ⟩:=b;simp[De.mk.injEq]
theorem RV:Po AG 42 ED:=by
 refine⟨ARs,fun a b w=>?_⟩;rw[AC6 w 9999 42 _ _ (by simp only[Program.fieldsOf,ARV]) ARs];simp only[Program.fieldsOf,ARV];refine ABS (EI G ABc G G G (Fk ABc _ _) (fun w=>EI G ABc G G G (Fk ABc _ _) (fun w=>EI G ABc G G G (Fk ABc _ _) (fun w=>EI G ABO G G G (UF ABO _ _) (fun w=>EI G ABO G G G (UF ABO _ _) (fun w=>EI G ABc G G G (Fk ABc _ _) (fun w=>EI G ABc G G G (Fk ABc _ _) (fun w=>OO w)))))))) ?_;congr 1;obtain⟨He,DP,EK,FR,Iz,Lv,KY⟩:=a;obtain⟨Pt,CY,Dh,DQ,En,E',Hg⟩:=b;simp[Fs.mk.injEq]
theorem zl:Po AG 76 MZ:=by
 refine⟨ARs,fun a b w=>?_⟩;rw[AC6 w 9999 76 _ _ (by simp only[Program.fieldsOf,ARZ]) ARs];simp only[Program.fieldsOf,ARZ];refine ABS (EI G ABc G G G (Fk ABc _ _) (fun w=>EI G ABO G G G (UF ABO _ _) (fun w=>EI G ABO G G G (UF ABO _ _) (fun w=>EI G ABc G G G (Fk ABc _ _) (fun w=>EI G ABc G G G (Fk ABc _ _) (fun w=>EI G ABc G G G (Fk ABc _ _) (fun w=>OO w))))))) ?_;congr 1;obtain⟨He,DP,EK,FR,Iz,Lv⟩:=a;obtain⟨Pt,CY,Dh,DQ,En,E'⟩:=b;simp[FL.mk.injEq]
theorem oK:Po AG 53 Lx:=by
 refine⟨ARs,fun a b w=>?_⟩;rw[AC6 w 9999 53 _ _ (by simp only[Program.fieldsOf,ARX]) ARs];simp only[Program.fieldsOf,ARX];refine ABS (EI G ABc G G G (Fk ABc _ _) (fun w=>EI G ABc G G G (Fk ABc _ _) (fun w=>EI G ABc G G G (Fk ABc _ _) (fun w=>EI G ABc G G G (Fk ABc _ _) (fun w=>OO w))))) ?_;congr 1;obtain⟨He,DP,EK,FR⟩:=a;obtain⟨Pt,CY,Dh,DQ⟩:=b;simp[F_.mk.injEq]
theorem yn(CP:Value)(l:List Int):Cv AG 27 [CP] [⟨CP,l⟩] (.bool (X1 l)):=by
 refine Aw.proof Tryz.func27 G 18 G G fun X w=>AF 1 G<|Am<|Ae<|An G G<|C2 0 G G ABH G fun qY=>An G G<|Ac<|B5<|Ji (σ:=Nat) [(5,_),(6,_)] _ (fun i C=>(7,.int .i64 (i:Int))::C) (fun i=>i<=l.length/\(∀j,j<i->(!(decide (l.getD j default<0)||decide (l.getD j default>EW)))=true)) (fun i=>l.length-i) 0 (Bs G) (Ad 0 G Aa) ⟨ABg _,fun j Ay=>absurd Ay (AB2 j)⟩ (Bs G) ?_;rintro i ⟨Ag,C0⟩;refine AF 1 G<|Am<|B9 G (fun D2=>?_) (fun D2=>?_)
 ·
  refine AZ<|Am<|B5<|Ae<|Fo 0 G G G tp G fun Nr=>CQ 0 G G (A2 G) G fun cW=>U 1 G<|Ac<|Ae<|U 3 G<|ET 13 3 [] [5,6,7] G G G<|Ac<|BN G (fun CR=>?_) (fun CR=>?_)
  · exact AF 1 G<|rt<|C9<|Cd<|Cd<|C9<|Cd<|Bq () G G (by rw[X1,Ur i AMT (YU CR)];try rfl) G Aa
  refine EG<|CU<|A5<|rg<|C5 G G BV G<|An G G<|nl ?_;exact Dy (i+1) ⟨AMT,(Ki C0 (YT CR))⟩ AMT (Bs G) G (Ad 1 G Aa)
 exact ex<|Ck<|Ck<|D7<|A5<|AF 1 G<|rt<|Bq () G G (by rw[X1,Us (fun j Ay=>C0 j AMT)];try rfl) G Aa
theorem Xd(CP:Value)(l:List BL):Cv AG 30 [CP] [⟨CP,l⟩] (.int .i64 (IA (Fg l))):=by
 refine Aw.proof Tryz.func30 G 49 G G fun X w=>AF 1 G<|AF 1 G<|Am<|Ae<|An G G<|C2 0 G G ADL G fun MD=>An G G<|Ac<|B5<|Ji (σ:=Nat) [(6,_),(7,_)] _ (fun i C=>(8,.int .i64 (i:Int))::(3,.int .i64 (Nh (fun k=>(l.getD k default).Ap) i))::C) (fun i=>i<=l.length/\(∀j,j<i->(!fk (Nh (fun k=>(l.getD k default).Ap) j) (l.getD j default))=true)) (fun i=>l.length-i) 0 (Bs G) (Ad 0 G Aa) ⟨ABg _,fun j Ay=>absurd Ay (AB2 j)⟩ (Bs G) ?_;rintro i ⟨Ag,C0⟩;refine AF 1 G<|Am<|B9 G (fun EO=>?_) (fun EO=>?_)
 ·
  refine AZ<|Am<|B5<|Ae<|Fo 0 G G G J1 G fun v10=>Gi 0 G G (At G) G fun Qr SD=>CT SN G fun E'=>BZ 0 (us:=(H9 ((l.getD i default)))) G G G (At G) G G<|Ac<|Am<|Ae<|AX 5 [0] G G<|ET 16 4 [0] [5,6,7,8] G G G<|An G G<|ET 21 4 [0] [5,6,7,8] G G G<|An G G<|ET 26 4 [0] [5,6,7,8] G G G<|An G G ?_;refine DE 31 14 [5,6,7,8] G G (fun ES ZN=>by
   refine AX 3 [0] G G ?_;refine D4 34 10 [5,6,7,8,31] G G (fun FN ZM=>by
    refine AX 4 [0] G G ?_;refine DE 38 5 [5,6,7,8,31,34] G G (fun NK ZL=>by
     have Aoc:=ACe NK;exact U 1 G<|Bl G G G<|BJ 0 (GM ((l.getD i default).Cm)) G G (At G) G G<|Bl G G G<|Db (ps:=[]) (cs:=(GM ((⟨0,0,0,0⟩:De)))) ARz ARs G<|Bl G G G<|Qo zf ((l.getD i default).Cm) ((⟨0,0,0,0⟩:De)) G G G<|U 1 G<|ZL G Br) ?_
    exact U 1 G<|ZM G Br) ?_
   exact U 1 G<|ZN G Br) ?_
  refine Ac<|BN G (fun EN=>?_) (fun EN=>?_)
  · exact AF 1 G<|BA<|C9<|Cd<|Cd<|C9<|Cd<|AQ<|Bq () G G (by rw[Fg,Ur i AMT (YU EN)];try rfl) G Aa
  refine AZ<|Kb 3 [0] G G<|CU<|A5<|rg<|C5 G G BV G<|An G G<|nl<|AQ ?_;exact Dy (i+1) ⟨AMT,(Ki C0 (YT EN))⟩ AMT (Bs G) G (Ad 2 G Aa)
 exact ex<|Ck<|Ck<|D7<|A5<|AF 1 G<|rt<|Bq () G G (by rw[Fg,Us (fun j Ay=>C0 j AMT)];try rfl) G Aa
theorem X2(CP:Value)(l:List Df):Cv AG 32 [CP] [⟨CP,l⟩] (.int .i64 (IA (HE l))):=by
 refine Aw.proof Tryz.func32 G 27 G G fun X w=>AF 1 G<|AF 1 G<|Am<|Ae<|An G G<|C2 0 G G ARR G fun MD=>An G G<|Ac<|B5<|Ji (σ:=Nat) [(6,_),(7,_)] _ (fun i C=>(8,.int .i64 (i:Int))::(3,.int .i64 (Nh (fun k=>(l.getD k default).Ap) i))::C) (fun i=>i<=l.length/\(∀j,j<i->(!(decide ((l.getD j default).Ap<=Nh (fun k=>(l.getD k default).Ap) j)|| !Jj (l.getD j default).Ap (l.getD j default).As))=true)) (fun i=>l.length-i) 0 (Bs G) (Ad 0 G Aa) ⟨ABg _,fun j Ay=>absurd Ay (AB2 j)⟩ (Bs G) ?_;rintro i ⟨Ag,C0⟩;refine AF 1 G<|Am<|B9 G (fun EO=>?_) (fun EO=>?_)
 ·
  refine AZ<|Am<|B5<|Ae<|Fo 0 G G G Ky G fun v10=>Gi 0 G G (At G) G fun Qr SD=>CT de G fun E'=>BZ 0 (us:=(QT ((l.getD i default)))) G G G (At G) G G<|Ac<|Am<|Ae<|AX 5 [0] G G ?_;refine DE 16 7 [5,6,7,8] G G (fun CR SU=>by
   have Af2:=ACe CR;exact AX 4 [0,0] G G<|Bl G G G<|B0 (hS _ _ SD.1 SD.2) (Ar G) G Aa G<|U 2 G<|SU G Br) ?_
  refine Ac<|BN G (fun Km=>?_) (fun Km=>?_)
  · exact AF 1 G<|BA<|C9<|Cd<|Cd<|C9<|Cd<|AQ<|Bq () G G (by rw[HE,Ur i AMT (YU Km)];try rfl) G Aa
  refine AZ<|Kb 3 [0] G G<|CU<|A5<|rg<|C5 G G BV G<|An G G<|nl<|AQ ?_;exact Dy (i+1) ⟨AMT,(Ki C0 (YT Km))⟩ AMT (Bs G) G (Ad 2 G Aa)
 exact ex<|Ck<|Ck<|D7<|A5<|AF 1 G<|rt<|Bq () G G (by rw[HE,Us (fun j Ay=>C0 j AMT)];try rfl) G Aa
theorem oq(d:Bx)(Tj:d.wf):Cv AG 47 [.agg (H8 d).toArray] [] (.bool (M1 d)):=by
 refine Aw.proof Tryz.func47 G 82 G G fun X w=>Ae<|CV G G G fun CY=>U 1 G<|Ac<|Am<|Ae<|AX 4 [0,0] G G<|B0 (hS _ _ Tj.1 Tj.2.1) (Ar G) G Aa G<|U 2 G<|ET 10 4 [0] [1] G G G<|An G G<|ET 15 6 [0,0] [1] G G G<|An G G<|ET 22 4 [0] [1] G G G<|An G G<|ET 27 4 [0] [1] G G G<|An G G<|ET 32 4 [0] [1] G G G<|An G G<|ET 37 4 [0] [1] G G G<|Ac<|BN G (fun My=>?_) (fun My=>?_)
 ·
  have d':(V2 d)=true:=My;exact AF 1 G<|BA<|AQ<|Bq () G G (by rw[M1,d'];try rfl) G Aa
 have d':(V2 d)=false:=My;refine AZ<|Am<|Ae<|AX 2 [0] G G<|PI G ABO G<|U 2 G ?_;refine DE 46 5 [1] G G (fun US ZO=>by
  have Aod:=ACe US;exact AX 2 [0] G G<|Bl G G G<|PI G ABO G<|U 2 G<|ZO G Br) ?_
 refine An G G<|DE 52 5 [1] G G (fun iK g5=>AX 2 [0] G G<|Bl G G G<|PI G ABO G<|U 2 G<|g5 G Br)<|An G G<|DE 58 5 [1] G G (fun R4 v3=>AX 2 [0] G G<|Bl G G G<|PI G ABO G<|U 2 G<|v3 G Br)<|Ac<|BN G (fun Of=>?_) (fun Of=>?_)
 ·
  have hX:(ae d)=true:=Of;exact AF 1 G<|BA<|AQ<|Bq () G G (by rw[M1,d',hX];try rfl) G Aa
 have hX:(ae d)=false:=Of;refine AZ<|Ae<|AX 4 [0,0] G G<|B0 (h' _ _ Tj.2.2.2.2.2.1 Tj.2.2.2.2.2.2.1) (Ar G) G Aa G<|U 1 G<|Ac<|Ae<|AX 5 [0] G G ?_;refine DE 73 8 [] G G (fun AaM g9=>by
  have Aoj:=ACe AaM;exact U 3 G<|Fu 76 4 [0] [73] G G G<|U 1 G<|g9 G Br) ?_
 exact U 1 G<|Ac<|rt<|AQ<|Bq () G G (by rw[M1,d',hX];try rfl) G Aa
theorem AfW(s:Bv)(El EV D_ EA Em Eh:Value)(_:s.wf):Cv AG 28 [.agg (BY s El EV D_ EA Em Eh).toArray] [⟨El,s.Aj⟩,⟨EV,s.Bz⟩,⟨D_,s.AA⟩,⟨EA,s.Bj⟩,⟨Em,s.CX⟩,⟨Eh,s.Cf⟩] (.bool (YZ s)):=by
 refine Aw.proof Tryz.func28 G 42 G G fun X w=>Ae<|CV G G G fun CY=>U 1 G<|Ac<|Am<|I5 3 [0] G G<|BN G (fun C'=>?_) (fun C'=>?_)
 ·
  have QY:(!s.Du)=true:=C';exact Ae<|AX 4 [0] G G<|Fu 9 4 [0] [1] G G G<|An G G<|D4 14 5 [1] G G (fun Fm ZH=>AX 2 [0] G G<|Bl G G G<|C2 0 G G ARL G fun Adg=>U 2 G<|ZH G Br)<|An G G<|D4 20 5 [1] G G (fun HQ ZI=>AX 2 [0] G G<|Bl G G G<|C2 2 G G ARQ G fun qV=>U 2 G<|ZI G Br)<|An G G<|D4 26 5 [] G G (fun JR VF=>U 1 G<|Bl G G G<|BJ 0 (ED s.Bt) G G (At G) G G<|Bl G G G<|Db (ps:=[]) (cs:=(ED (Gs))) ARz ARs G<|Bl G G G<|RU RV (s.Bt) (Gs) G G G<|U 1 G<|VF G Br)<|U 1 G<|Ac<|BA<|AQ<|Bq () G G (by rw[YZ,QY];try rfl) G Aa
 have QY:(!s.Du)=false:=C';refine AZ<|Ae<|AX 4 [0] G G ?_;refine D4 35 6 [] G G (fun Lz vU=>by
  have r4:=ABA Lz;exact AX 4 [0,0] G G<|Bl G G G<|B0 (tu _ _) (Ar G) G Aa G<|U 1 G<|vU G Br) ?_
 exact U 1 G<|Ac<|rt<|AQ<|Bq () G G (by rw[YZ,QY];try rfl) G Aa
theorem Ak8(s:Bv)(El EV D_ EA Em Eh:Value)(wt:BX)(J8:s.wf)(jb:wt.wf):Cv AG 33 [.agg (BY s El EV D_ EA Em Eh).toArray,.agg (Hh wt).toArray] [⟨El,s.Aj⟩,⟨EV,s.Bz⟩,⟨D_,s.AA⟩,⟨EA,s.Bj⟩,⟨Em,s.CX⟩,⟨Eh,s.Cf⟩] (.bool (Mr s wt)):=by
 refine Aw.proof Tryz.func33 G 100 G G fun X w=>Ae<|CV G G G fun Dh=>CV G G G fun DQ=>U 1 G<|Ac<|Am<|Ae<|AX 3 [0] G G<|AX 1 [0] G G<|B0 (gr _ _ jb.2.1 jb.2.2.1) (Ar G) G Aa G<|U 2 G<|DE 12 6 [2,3] G G (fun EM N'=>AX 3 [0] G G<|Bl G G G<|B0 (gi _) (Ar G) G Aa G<|U 2 G<|N' G Br)<|An G G<|DE 19 7 [2,3] G G (fun Fe gZ=>Bl G G G<|BJ 1 (BY s El EV D_ EA Em Eh) G G (At G) G G<|AX 3 [0] G G<|Bl G G G<|B0 (kJ _ _ _ _ _ _ _ _ J8) (Ar G) G (BE [0,1,2,3,4,5] G) G<|U 2 G<|gZ G Br)<|An G G<|DE 27 6 [3] G G (fun G4 g0=>Bl G G G<|BJ 1 (BY s El EV D_ EA Em Eh) G G (At G) G G<|AX 3 [0] G G<|Bl G G G<|B0 (Ajn _ _ _ _ _ _ _ _ J8) (Ar G) G (BE [0,1,2,3,4,5] G) G<|U 1 G<|g0 G Br)<|Ac<|BN G (fun ARB=>?_) (fun ARB=>?_)
 ·
  have al:(Zx s wt)=true:=ARB;exact AF 1 G<|BA<|AQ<|AQ<|Bq () G G (by rw[Mr,al];try rfl) G Aa
 have al:(Zx s wt)=false:=ARB;refine AZ<|Am<|I5 2 [0] G G<|B5<|AF 2 G<|B9 G (fun K6=>?_) (fun K6=>?_)
 ·
  have d_:(decide (wt.Ca=1))=true:=(ABG K6);refine I5 4 [0] G G<|Ae<|AX 4 [0] G G<|Fu 44 4 [0] [3,5] G G G<|An G G<|Fu 49 4 [0] [3,5] G G G<|An G G<|Fu 54 3 [] [3,5] G G G<|An G G<|Fu 58 3 [] [3,5] G G G<|An G G ?_;refine D4 62 9 [] G G (fun Th v8=>by
   exact U 3 G<|ET 65 5 [0] [62] G G G<|U 1 G<|v8 G Br) ?_
  exact U 1 G<|Ac<|rt<|C9<|Cd<|AQ<|AQ<|Bq () G G (by rw[Mr,al,d_];try rfl) G Aa
 have d_:(decide (wt.Ca=1))=false:=(ABM K6);refine AF 2 G<|B9 G (fun iM=>?_) (fun iM=>?_)
 ·
  have hZ:(decide (wt.Ca=2))=true:=(ABG iM);refine Ae<|AX 4 [0] G G ?_;refine D4 77 4 [3] G G (fun pd g9=>by
   have Aok:=ABA pd;exact AX 2 [0] G G<|Bl G G G<|B0 (Zh _ jb.2.2.2.2.1) (Ar G) G Aa G<|U 1 G<|g9 G Br) ?_
  refine An G G<|Fu 82 5 [0] [3] G G G<|An G G ?_;refine D4 88 11 [] G G (fun pe wh=>by
   exact U 1 G<|Bl G G G<|BJ 0 (MZ wt.AM) G G (At G) G G<|AX 5 [0] G G<|AX 1 [0] G G<|Bl G G G<|Db (ps:=[(1,.tmp 93),(3,.tmp 96)]) (cs:=(MZ ((⟨0,wt.AM.Al,ByteArray.empty,wt.AM.B2,0,0⟩:FL)))) ARz ARs G<|Bl G G G<|RU zl (wt.AM) ((⟨0,wt.AM.Al,ByteArray.empty,wt.AM.B2,0,0⟩:FL)) G G G<|U 1 G<|wh G Br) ?_
  exact U 1 G<|Ac<|rt<|C9<|Cd<|AQ<|AQ<|Bq () G G (by rw[Mr,al,d_,hZ];try rfl) G Aa
 have hZ:(decide (wt.Ca=2))=false:=(ABM iM);exact EG<|CU<|A5<|AF 1 G<|rt<|AQ<|AQ<|Bq () G G (by rw[Mr,al,d_,hZ];try rfl) G Aa
theorem Ab6(CP:Value)(l:List BD):Cv AG 165 [CP] [⟨CP,l⟩] (.bool (LI l)):=by
 refine Aw.proof Tryz.func165 G 39 G G fun X w=>AF 1 G<|AF 1 G<|Am<|Ae<|An G G<|C2 0 G G ADN G fun MD=>An G G<|Ac<|B5<|Ji (σ:=Nat) [(6,_),(7,_)] _ (fun i C=>(8,.int .i64 (i:Int))::(3,.int .i64 (Nh (fun k=>(l.getD k default).Bn) i))::C) (fun i=>i<=l.length/\(∀j,j<i->(!eU (Nh (fun k=>(l.getD k default).Bn) j) (l.getD j default))=true)) (fun i=>l.length-i) 0 (Bs G) (Ad 0 G Aa) ⟨ABg _,fun j Ay=>absurd Ay (AB2 j)⟩ (Bs G) ?_;rintro i ⟨Ag,C0⟩;refine AF 1 G<|Am<|B9 G (fun EO=>?_) (fun EO=>?_)
 ·
  refine AZ<|Am<|B5<|Ae<|Fo 0 G G G I6 G fun v10=>Gi 0 G G (At G) G fun Qr SD=>CT Um G fun E'=>BZ 0 (us:=(JH ((l.getD i default)))) G G G (At G) G G<|Ac<|Am<|Ae<|AX 5 [0] G G<|ET 16 4 [0] [5,6,7,8] G G G<|An G G<|ET 21 4 [0] [5,6,7,8] G G G<|An G G<|ET 26 4 [0] [5,6,7,8] G G G<|An G G<|ET 31 4 [0] [5,6,7,8] G G G<|Ac<|BN G (fun Lz=>?_) (fun Lz=>?_)
  · exact AF 1 G<|BA<|C9<|Cd<|Cd<|C9<|Cd<|AQ<|Bq () G G (by rw[LI,Ur i AMT (YU Lz)];try rfl) G Aa
  refine AZ<|Kb 3 [0] G G<|CU<|A5<|rg<|C5 G G BV G<|An G G<|nl<|AQ ?_;exact Dy (i+1) ⟨AMT,(Ki C0 (YT Lz))⟩ AMT (Bs G) G (Ad 2 G Aa)
 exact ex<|Ck<|Ck<|D7<|A5<|AF 1 G<|rt<|Bq () G G (by rw[LI,Us (fun j Ay=>C0 j AMT)];try rfl) G Aa
end Go.Apw
