/- Part 7 of shardOnce_holds. -/
import Derived.Lib.AppendZeros
import Derived.Test.YtalfaopffbkdnaaGreatSdm6

set_option maxRecDepth 20000
set_option maxHeartbeats 1000000
namespace Go.A_
open Go.RowKit
def mk(k:Nat):Deferred:={target:=.collected k,args:= #[]}
section
def JI:Value->Nat->Value
 | .slice (some a) _ _,o=>.pointer (some (a.add o))
 |_,_=>undef
theorem T0:∀(us cs:List Value) (o j:Nat),o+us.length<=cs.length->(MO cs o us)[j]? =if o<=j/\j<o+us.length then us[j-o]? else cs[j]?
 |[],cs,o,j,_=>by
  rw[MO,if_neg (by simp)]
 |u::us,cs,o,j,h=>by
  simp only[List.length_cons]at h
  rw[MO,T0 us (cs.set o u) (o+1) j (by simp;omega)]
  by_cases Af:o+1<=j/\j<o+1+us.length
  · rw[if_pos Af,if_pos (by simp only[List.length_cons];omega),show j-o=(j-(o+1))+1 by omega]
    rfl
  · rw[if_neg Af]
    by_cases h2:j=o
    · subst h2
      rw[if_pos (by simp),List.getElem?_set_self (by omega)]
      simp
    · rw[if_neg (by simp only[List.length_cons];omega),List.getElem?_set_ne (Ne.symm h2)]
theorem cE:∀(us cs:List Value) (o:Nat),(MO cs o us).length=cs.length
 |[],_,_=>rfl
 |_::us,cs,o=>by rw[MO,cE us];simp
theorem Vj{α:Type}[r:Be α]{S:Nat->Prop}{w:World}{e:TypeId}{v:Value}{xs:List α}(h:(row e v xs).holds S w)(Ab:xs≠[]):
 ∃(g cap:Nat) (cs:List Value) (Cy:List (List Value)),v=.slice (some ⟨g,0,none⟩) xs.length cap/\w.heap[g]? =some (.cells cs.toArray e (0,0))/\xs.length<=cap/\cap<=maxLen/\cs.length=cap*Be.size α/\cs.take (xs.length*Be.size α)=Cy.flatten/\HM S w Cy xs/\xs.length<=140737488355328:=by
 obtain⟨Cy,G8,Ep,AN⟩:=h
 rcases G8.2 with⟨_,Ao⟩|⟨g,cap,cur,BC,_,CK,Bm,hm,hs,Av⟩
 · exact absurd (List.length_eq_zero_iff.1 Ao) Ab
 · exact⟨g,cap,cur.toList,Cy,BC,by simpa using CK,Bm,hm,by simpa using hs,Av,Ep,AN⟩
theorem ct{w:World}{g:Nat}{e:TypeId}{cs RX:List Value}{k:Nat}(CK:w.heap[g]? =some (.cells cs.toArray e (0,0)))(Av:cs.take k=RX):Lt w g 0 RX:=fun j u Ay=>by
 subst Av
 rw[List.getElem?_take]at Ay
 split at Ay
 · rw[cell_of_row w g _ _ e (0,0) CK]
   simpa using Ay
 · cases Ay
section
variable{c:Cj} {ops:Array Oper} {AP:Cj->Array Oper->List Oper->Env->Own->List Atom->Prop} [Dr:Ip AP] {env:Env} {L:Own} {D:List Atom} {rest:List Oper} {d:Nat} {v:Value} {t:TypeId} {p:String} {af:Array Edge} {x y z:Operand} {T:TypeId}
include Dr
theorem AcX{α:Type}{r:Be α}(i:Nat){xs:List α}{m:Int}{E e:TypeId}(Ab:AL env x=some v)(Ag:L[i]? =some (@row α r e v xs))(Bf:AL env y=some (.int .i64 m))(Av:H5 c.P T E r.size)(Bw:0<=m)(Af:m<(xs.length:Int))(Ao:Nat.blt d c.n=true)
 (k:AP c ops rest ((d,JI v (m.toNat*r.size))::env) L D):AP c ops (⟨some d,.indexAddr T x y,t,p,af,none⟩::rest) env L D:=
 Dr.read (σ:=Unit) rfl rfl (fun _=>(d,JI v (m.toNat*r.size))::env) (fun _=>D) (fun a w f st AR=>by
  obtain⟨g,cap,cs,Cy,rfl,_⟩:=@Vj α r _ _ _ _ _ (st.own _ (List.mem_of_getElem? Ag)) (by intro e;rw[e]at Af;simp at Af;omega)
  obtain⟨j,Ay,hs⟩:=Option.map_eq_some_iff.1 Av.2
  refine⟨(),_,fun AT HW=>?_,f.put _ (EU Ao),AR⟩
  simp[execOp,f.AL Ab,f.AL Bf,Instr.indexAt,asIntOf,run_underlying Av.1,Bw,Af,sizeOf,typeInfo,Ay,hs,JI]) (fun _=>k)
theorem Qk{α:Type}{s:Shape α}(i m:Nat){xs:List α}{ov:α}{e:TypeId}(Ab:AL env x=some (JI v (m*s.size)))(Ag:L[i]? =some (@row α (Be.D5 s) e v xs))(hm:xs[m]? =some ov){E:TypeId}(Av:Oc c.P E s.size)(Ao:Nat.blt d c.n=true)
 (k:∀h,s.wf ov->AP c ops rest ((d,.agg (s.cells ov h).toArray)::env) L ((@Atom.mk α (Be.D5 s) (.agg (s.cells ov h).toArray) ov)::(s.sub ov h++D))):
 AP c ops (⟨some d,.load E x,t,p,af,none⟩::rest) env L D:=
 Dr.read (σ:={h // s.wf ov}) rfl rfl (fun h=>(d,.agg (s.cells ov h.1).toArray)::env) (fun h=>(@Atom.mk α (Be.D5 s) (.agg (s.cells ov h.1).toArray) ov)::(s.sub ov h.1++D)) (fun a w f st AR=>by
  have Hv:=List.mem_of_getElem? Ag
  obtain⟨g,cap,cs,Cy,rfl,CK,_,_,_,Md,Ep,_⟩:=@Vj α (Be.D5 s) _ _ _ _ _ (st.own _ Hv) (by intro e;rw[e]at hm;simp at hm)
  obtain⟨Cx,⟨h,rfl,Lc,Oi⟩,AN⟩:=@PH α (Be.D5 s) _ _ _ Cy xs 0 Ep (ct CK Md) m ov hm
  have P':g∈L.J:=FW.2 ⟨_,Hv,by simp[Value.ownBlock]⟩
  refine⟨⟨h,Oi⟩,.agg (s.cells ov h).toArray,fun AT hs=>?_,f.put _ (EU Ao),BP.cons ⟨rfl,⟨h,by simp[Value.cells],Lc,Oi⟩⟩ (BP.app (fun t Av=>Lc t Av) AR)⟩
  have Sc:Lt AT g (0+m*s.size) (s.cells ov h):=AN.DY (hs.block g (TD CK) (by simp))
  have Ek:=fU (P:=c.P) (T:=E) (b:=g) (o:=0+m*s.size) (cs:=s.cells ov h) (by rw[s.len];exact Av) Sc
  have HX:=f.AL Ab
  simp only[JI,Addr.add_mid,Nat.zero_add]at HX Ek
  simp[execOp,HX,Ek]) (fun h=>k h.1 h.2)
end
section
variable{c:Cj} {ops:Array Oper} {Q:Exit->Act->World->Prop} {env:Env} {L:Own} {D:List Atom} {rest:List Oper} {v:Value} {t:TypeId} {p:String} {af:Array Edge} {x y z:Operand}
theorem Qz{α:Type}{s:Shape α}(i m:Nat){xs:List α}{ov:α}{e:TypeId}(h:s.H)(Ab:AL env x=some (JI v (m*s.size)))(Bf:AL env y=some (.agg (s.cells ov h).toArray))(Ag:L[i]? =some (@row α (Be.D5 s) e v xs))(hm:m<xs.length){E:TypeId}(Av:Oc c.P E s.size)(Cl:Bg (s.sub ov h) D)(hw:s.wf ov)
 (k:Cb Q c ops rest env (L.set i (@row α (Be.D5 s) e v (xs.set m ov))) D):Cb Q c ops (⟨none,.store E x y,t,p,af,none⟩::rest) env L D:=by
 refine c6 (env':=env) rfl rfl (fun a w f st AR=>?_) k
 have Hv:=List.mem_of_getElem? Ag
 obtain⟨g,cap,cs,Cy,rfl,CK,Bm,Yt,EY,Md,Ep,hlen⟩:=@Vj α (Be.D5 s) _ _ _ _ _ (st.own _ Hv) (by intro e;rw[e]at hm;simp at hm)
 have Fy:@Be.size α (Be.D5 s)=s.size:=rfl
 rw[Fy]at EY Md
 obtain⟨us,I1⟩:∃us,us=s.cells ov h:=⟨_,rfl⟩
 have e0:us.length=s.size:=by rw[I1];exact s.len ov h
 have P':g∈L.J:=FW.2 ⟨_,Hv,by simp[Value.ownBlock]⟩
 have Sd:(m+1)*s.size<=cap*s.size:=Nat.mul_le_mul_right _ (by omega)
 rw[Nat.succ_mul]at Sd
 have Lc:∀t∈s.sub ov h,t.holds (Et L.J w) w:=fun t Av=>AR t (Cl t Av)
 have Ab7:us.toArray.all (·.oneCell')=true:=by
  rw[I1]
  simpa using s.one ov h Lc
 have hs:C8 [g] w (w.setCells g (m*s.size) us):=cG g us _ w
 have Mc:=aU us cs (m*s.size) w CK
 have EX:C8 (@row α (Be.D5 s) e (.slice (some ⟨g,0,none⟩) xs.length cap) xs).J w (w.setCells g (m*s.size) us):=hs.mono fun b Aq=>by simpa[Value.ownBlock]using Aq
 have UW:∀b,Et L.J w b->Et (Own.J (L.set i (@row α (Be.D5 s) e (.slice (some ⟨g,0,none⟩) xs.length cap) (xs.set m ov)))) (w.setCells g (m*s.size) us) b:=fun b Aq=>⟨Nat.lt_of_lt_of_le Aq.1 hs.size,fun Ab=>by
  rcases OK Ag b Ab with Af|Af
  · have:b=g:=by simpa[Value.ownBlock]using Af
    exact Aq.2 (this▸P')
  · exact Aq.2 Af⟩
 have UT:∀b,Et L.J w b->(w.setCells g (m*s.size) us).heap[b]? =w.heap[b]? :=fun b Aq=>hs.block b Aq.1 (fun Ab=>by
  have:b=g:=by simpa using Ab
  exact Aq.2 (this▸P'))
 have Gg:=st.KB (p':=@row α (Be.D5 s) e (.slice (some ⟨g,0,none⟩) xs.length cap) (xs.set m ov)) i Ag EX ?_ (by simp[Value.ownBlock]) (fun b Aq=>.inl Aq)
 · have R_:=AR.KB (p':=@row α (Be.D5 s) e (.slice (some ⟨g,0,none⟩) xs.length cap) (xs.set m ov)) i Ag EX (fun b Aq=>.inl Aq)
   refine⟨w.setCells g (m*s.size) us,?_,f.Su _,Gg,R_⟩
   have Ek:=run_storeAt_mid (P:=c.P) w g (m*s.size) E us.toArray (fun j Ay=>by
    have J9:m*s.size+j<cs.length:=by simp at Ay;omega
    exact⟨by rw[cell_of_row w g _ _ e (0,0) CK];simp[List.getElem?_eq_getElem J9],frozen_of_row w g _ _ e CK⟩) (by rw[show us.toArray.size=s.size by simpa using e0];exact Av.2) Ab7
   have HX:=f.AL Ab
   simp only[JI,Addr.add_mid,Nat.zero_add]at HX
   have U6:=f.AL Bf
   rw[<-I1]at U6
   simp[execOp,HX,U6,Ek]
 · -- the row as it is now
   have a7:∀FV MT,(xs.set m ov)[FV]? =some MT->∃Cx,@Be.rd α (Be.D5 s) (Et (Own.J (L.set i (@row α (Be.D5 s) e (.slice (some ⟨g,0,none⟩) xs.length cap) (xs.set m ov)))) (w.setCells g (m*s.size) us)) (w.setCells g (m*s.size) us) Cx MT/\Lt (w.setCells g (m*s.size) us) g (0+(0+FV)*s.size) Cx:=by
    intro FV MT HX
    by_cases Sb:FV=m
    · subst Sb
      rw[List.getElem?_set_self hm]at HX
      have:MT=ov:=by simpa using HX.symm
      subst this
      refine⟨us,⟨h,I1,fun t Av=>Atom.DY (Lc t Av) UW UT,hw⟩,fun j u Ay=>?_⟩
      have J9:j<us.length:=(List.getElem?_eq_some_iff.1 Ay).1
      simp only[Nat.zero_add]
      rw[cell_of_row _ g _ _ e (0,0) Mc,List.getElem?_toArray,T0 us cs _ _ (by omega),if_pos (by omega),show FV*s.size+j-FV*s.size=j by omega]
      exact Ay
    · rw[List.getElem?_set_ne (Ne.symm Sb)]at HX
      obtain⟨Cx,K',OT⟩:=@PH α (Be.D5 s) _ _ _ Cy xs 0 Ep (ct CK Md) FV MT HX
      have LH:Cx.length=s.size:=@Be.len α (Be.D5 s) _ _ _ _ K'
      refine⟨Cx,@Be.DY α (Be.D5 s) _ _ _ _ _ _ K' UW UT,fun j u Ay=>?_⟩
      have J9:j<Cx.length:=(List.getElem?_eq_some_iff.1 Ay).1
      have hold:=OT j u Ay
      simp only[Nat.zero_add]at hold ⊢
      rw[cell_of_row w g _ _ e (0,0) CK,List.getElem?_toArray]at hold
      rw[cell_of_row _ g _ _ e (0,0) Mc,List.getElem?_toArray,T0 us cs _ _ (by omega),if_neg ?_]
      · exact hold
      · rcases Nat.lt_or_gt_of_ne Sb with C_|C_
        · have:=Nat.mul_le_mul_right s.size (show FV+1<=m by omega)
          rw[Nat.succ_mul]at this
          omega
        · have:=Nat.mul_le_mul_right s.size (show m+1<=FV by omega)
          rw[Nat.succ_mul]at this
          omega
   obtain⟨RP,NL,Sc⟩:=@cn α (Be.D5 s) _ _ g 0 (xs.set m ov) 0 a7
   have FF:=@HM.len α (Be.D5 s) _ _ RP _ NL
   rw[Fy,List.length_set]at FF
   refine⟨RP,⟨by rw[List.length_set];exact FF,.inr ⟨g,cap,(MO cs (m*s.size) us).toArray,by rw[List.length_set],Nat.zero_le _,Mc,by rw[List.length_set];exact Bm,Yt,(show(MO cs (m*s.size) us).toArray.size=cap*s.size by simpa[cE]using EY),?_⟩⟩,NL,by rw[List.length_set];exact hlen⟩
   rw[List.length_set]
   show List.take (xs.length*s.size) _=RP.flatten
   refine List.ext_getElem? fun j=>?_
   by_cases Ay:j<xs.length*s.size
   · rw[List.getElem?_take,if_pos Ay]
     have U2:j<RP.flatten.length:=by rw[FF];exact Ay
     have:=Sc j _ (List.getElem?_eq_getElem U2)
     rw[cell_of_row _ g _ _ e (0,0) Mc,List.getElem?_toArray]at this
     rw[List.getElem?_eq_getElem U2,<-this]
     simp
   · rw[List.getElem?_eq_none (by simp;omega),List.getElem?_eq_none (by omega)]
end
end
end Go.A_
namespace Go.A_
section
section
variable{α:Type} [Inhabited α]
variable(lt:α->α->Bool)
def search(f:Nat->Bool):Nat->Nat->Nat->Nat
 |0,i,_=>i
 |n+1,i,j=>if i<j then(if f ((i+j) / 2)=true then search f n ((i+j) / 2+1) j else search f n i ((i+j) / 2))else i
theorem lI(f:Nat->Bool):∀(n i j:Nat),i<=j->i<=search f n i j/\search f n i j<=j
 |0,i,j,h=>⟨Nat.le_refl _,h⟩
 |n+1,i,j,h=>by
  rw[search]
  split
  · rename_i Ag
    split
    · have:=lI f n ((i+j) / 2+1) j (by omega);omega
    · have:=lI f n i ((i+j) / 2) (by omega);omega
  · omega
theorem lG(f:Nat->Bool)(n i j:Nat)(h:j<=i):search f n i j=i:=by
 cases n
 · rfl
 · rw[search,if_neg (by omega)]
end
end
end Go.A_
namespace Go.A_
open Go.RowKit
section
theorem AiH{α:Type}{s:Shape α}{c:Cj}{w AT:World}{L:Own}{D:List Atom}(i m:Nat){xs:List α}{ov:α}{e:TypeId}{g cap:Nat}{cs:List Value}(h:s.H)(Ag:L[i]? =some (@row α (Be.D5 s) e (.slice (some ⟨g,0,none⟩) xs.length cap) xs))(hm:m<xs.length)(Cl:Bg (s.sub ov h) D)(hw:s.wf ov)
 (st:CI c.BW c.M w L)(AR:BP D w L)(CK:w.heap[g]? =some (.cells cs.toArray e (0,0)))(hs:C8 [g] w AT)(Mc:AT.heap[g]? =some (.cells (MO cs (m*s.size) (s.cells ov h)).toArray e (0,0))):
 CI c.BW c.M AT (L.set i (@row α (Be.D5 s) e (.slice (some ⟨g,0,none⟩) xs.length cap) (xs.set m ov)))/\BP D AT (L.set i (@row α (Be.D5 s) e (.slice (some ⟨g,0,none⟩) xs.length cap) (xs.set m ov))):=by
 have Hv:=List.mem_of_getElem? Ag
 obtain⟨Hj,AmJ,yo,Cy,Rh,pF,Bm,Yt,EY,Md,Ep,hlen⟩:=@Vj α (Be.D5 s) _ _ _ _ _ (st.own _ Hv) (by intro e;rw[e]at hm;simp at hm)
 simp only[Value.slice.injEq,Option.some.injEq,Addr.mk.injEq,and_true,true_and]at Rh
 obtain⟨rfl,rfl⟩:=Rh
 rw[CK]at pF
 have I0:cs=yo:=by simpa using pF
 subst I0
 have Fy:@Be.size α (Be.D5 s)=s.size:=rfl
 rw[Fy]at EY Md
 obtain⟨us,I1⟩:∃us,us=s.cells ov h:=⟨_,rfl⟩
 have e0:us.length=s.size:=by rw[I1];exact s.len ov h
 rw[<-I1]at Mc
 have P':g∈L.J:=FW.2 ⟨_,Hv,by simp[Value.ownBlock]⟩
 have Sd:(m+1)*s.size<=cap*s.size:=Nat.mul_le_mul_right _ (by omega)
 rw[Nat.succ_mul]at Sd
 have Lc:∀t∈s.sub ov h,t.holds (Et L.J w) w:=fun t Av=>AR t (Cl t Av)
 have EX:C8 (@row α (Be.D5 s) e (.slice (some ⟨g,0,none⟩) xs.length cap) xs).J w AT:=hs.mono fun b Aq=>by simpa[Value.ownBlock]using Aq
 have UW:∀b,Et L.J w b->Et (Own.J (L.set i (@row α (Be.D5 s) e (.slice (some ⟨g,0,none⟩) xs.length cap) (xs.set m ov)))) AT b:=fun b Aq=>⟨Nat.lt_of_lt_of_le Aq.1 hs.size,fun Ab=>by
  rcases OK Ag b Ab with Af|Af
  · have:b=g:=by simpa[Value.ownBlock]using Af
    exact Aq.2 (this▸P')
  · exact Aq.2 Af⟩
 have UT:∀b,Et L.J w b->AT.heap[b]? =w.heap[b]? :=fun b Aq=>hs.block b Aq.1 (fun Ab=>by
  have:b=g:=by simpa using Ab
  exact Aq.2 (this▸P'))
 refine⟨st.KB (p':=@row α (Be.D5 s) e (.slice (some ⟨g,0,none⟩) xs.length cap) (xs.set m ov)) i Ag EX ?_ (by simp[Value.ownBlock]) (fun b Aq=>.inl Aq),AR.KB (p':=@row α (Be.D5 s) e (.slice (some ⟨g,0,none⟩) xs.length cap) (xs.set m ov)) i Ag EX (fun b Aq=>.inl Aq)⟩
 have a7:∀FV MT,(xs.set m ov)[FV]? =some MT->∃Cx,@Be.rd α (Be.D5 s) (Et (Own.J (L.set i (@row α (Be.D5 s) e (.slice (some ⟨g,0,none⟩) xs.length cap) (xs.set m ov)))) AT) AT Cx MT/\Lt AT g (0+(0+FV)*s.size) Cx:=by
  intro FV MT HX
  by_cases Sb:FV=m
  · subst Sb
    rw[List.getElem?_set_self hm]at HX
    have:MT=ov:=by simpa using HX.symm
    subst this
    refine⟨us,⟨h,I1,fun t Av=>Atom.DY (Lc t Av) UW UT,hw⟩,fun j u Ay=>?_⟩
    have J9:j<us.length:=(List.getElem?_eq_some_iff.1 Ay).1
    simp only[Nat.zero_add]
    rw[cell_of_row _ g _ _ e (0,0) Mc,List.getElem?_toArray,T0 us cs _ _ (by omega),if_pos (by omega),show FV*s.size+j-FV*s.size=j by omega]
    exact Ay
  · rw[List.getElem?_set_ne (Ne.symm Sb)]at HX
    obtain⟨Cx,K',OT⟩:=@PH α (Be.D5 s) _ _ _ Cy xs 0 Ep (ct CK Md) FV MT HX
    have LH:Cx.length=s.size:=@Be.len α (Be.D5 s) _ _ _ _ K'
    refine⟨Cx,@Be.DY α (Be.D5 s) _ _ _ _ _ _ K' UW UT,fun j u Ay=>?_⟩
    have J9:j<Cx.length:=(List.getElem?_eq_some_iff.1 Ay).1
    have hold:=OT j u Ay
    simp only[Nat.zero_add]at hold ⊢
    rw[cell_of_row w g _ _ e (0,0) CK,List.getElem?_toArray]at hold
    rw[cell_of_row _ g _ _ e (0,0) Mc,List.getElem?_toArray,T0 us cs _ _ (by omega),if_neg ?_]
    · exact hold
    · rcases Nat.lt_or_gt_of_ne Sb with C_|C_
      · have:=Nat.mul_le_mul_right s.size (show FV+1<=m by omega)
        rw[Nat.succ_mul]at this
        omega
      · have:=Nat.mul_le_mul_right s.size (show m+1<=FV by omega)
        rw[Nat.succ_mul]at this
        omega
 obtain⟨RP,NL,Sc⟩:=@cn α (Be.D5 s) _ _ g 0 (xs.set m ov) 0 a7
 have FF:=@HM.len α (Be.D5 s) _ _ RP _ NL
 rw[Fy,List.length_set]at FF
 refine⟨RP,⟨by rw[List.length_set];exact FF,.inr ⟨g,cap,(MO cs (m*s.size) us).toArray,by rw[List.length_set],Nat.zero_le _,Mc,by rw[List.length_set];exact Bm,Yt,(show(MO cs (m*s.size) us).toArray.size=cap*s.size by simpa[cE]using EY),?_⟩⟩,NL,by rw[List.length_set];exact hlen⟩
 rw[List.length_set]
 show List.take (xs.length*s.size) _=RP.flatten
 refine List.ext_getElem? fun j=>?_
 by_cases Ay:j<xs.length*s.size
 · rw[List.getElem?_take,if_pos Ay]
   have U2:j<RP.flatten.length:=by rw[FF];exact Ay
   have:=Sc j _ (List.getElem?_eq_getElem U2)
   rw[cell_of_row _ g _ _ e (0,0) Mc,List.getElem?_toArray]at this
   rw[List.getElem?_eq_getElem U2,<-this]
   simp
 · rw[List.getElem?_eq_none (by simp;omega),List.getElem?_eq_none (by omega)]
section
variable{c:Cj} {ops:Array Oper} {AP:Cj->Array Oper->List Oper->Env->Own->List Atom->Prop} [Dr:Ip AP] {env:Env} {L:Own} {D:List Atom} {rest:List Oper} {d:Nat} {v:Value} {t:TypeId} {p:String} {af:Array Edge} {x y z:Operand} {T:TypeId}
include Dr
theorem IF{α:Type}{r:Be α}(i n:Nat){xs:List α}{m:Int}{E e:TypeId}(Ab:AL env x=some v)(Ag:L[i]? =some (@row α r e v xs))(Bf:AL env y=some (.int .i64 m))(Av:H5 c.P T E r.size)(hm:m=(n:Int))(Af:n<xs.length)(Ao:Nat.blt d c.n=true)
 (k:AP c ops rest ((d,JI v (n*r.size))::env) L D):AP c ops (⟨some d,.indexAddr T x y,t,p,af,none⟩::rest) env L D:=
 AcX i Ab Ag Bf Av (by omega) (by omega) Ao (by rw[hm];exact k)
omit Dr in
theorem oz{S:Nat->Prop}{w:World}{α:Type}[r:Be α]{e:TypeId}{v:Value}{xs:List α}(h:(row e v xs).holds S w)(Ab:xs≠[]):∃g cap,v=.slice (some ⟨g,0,none⟩) xs.length cap:=by
 obtain⟨g,cap,cs,Cy,BC,_⟩:=Vj h Ab
 exact⟨g,cap,BC⟩
theorem K3{α:Type}{r:Be α}(i:Nat){xs:List α}{e:TypeId}{o off j:Nat}(Ab:AL env x=some (JI v o))(Ag:L[i]? =some (@row α r e v xs))(FG:0<xs.length)(JU:QD c.P T j off)(Ao:Nat.blt d c.n=true)
 (k:AP c ops rest ((d,JI v (o+off))::env) L D):AP c ops (⟨some d,.fieldAddr T x j,t,p,af,none⟩::rest) env L D:=
 Dr.fact (q:=∃g cap,v=.slice (some ⟨g,0,none⟩) xs.length cap) (fun a w f st AR=>@oz _ _ α r _ _ _ (st.own _ (List.mem_of_getElem? Ag)) (by intro e;rw[e]at FG;simp at FG)) fun⟨g,cap,BC⟩=>by
  subst BC
  simp only[JI,Addr.add_mid]at Ab k
  exact UG Ab JU Ao (by rw[Nat.add_assoc];exact k)
theorem NR{α:Type}{s:Shape α}(i m o:Nat){xs:List α}{ov:α}{e:TypeId}(u:s.H->Value)(Ab:AL env x=some (JI v (m*s.size+o)))(Ag:L[i]? =some (@row α (Be.D5 s) e v xs))(hm:xs[m]? =some ov)(hu:∀h,(s.cells ov h)[o]? =some (u h)){E:TypeId}(Av:Nv c.P E)(Ao:Nat.blt d c.n=true)
 (k:∀h,s.wf ov->AP c ops rest ((d,u h)::env) L (s.sub ov h++D)):
 AP c ops (⟨some d,.load E x,t,p,af,none⟩::rest) env L D:=
 Dr.read (σ:={h // s.wf ov}) rfl rfl (fun h=>(d,u h.1)::env) (fun h=>s.sub ov h.1++D) (fun a w f st AR=>by
  have Hv:=List.mem_of_getElem? Ag
  obtain⟨g,cap,cs,Cy,rfl,CK,_,_,_,Md,Ep,_⟩:=@Vj α (Be.D5 s) _ _ _ _ _ (st.own _ Hv) (by intro e;rw[e]at hm;simp at hm)
  obtain⟨Cx,⟨h,rfl,Lc,Oi⟩,AN⟩:=@PH α (Be.D5 s) _ _ _ Cy xs 0 Ep (ct CK Md) m ov hm
  have P':g∈L.J:=FW.2 ⟨_,Hv,by simp[Value.ownBlock]⟩
  refine⟨⟨h,Oi⟩,u h,fun AT hs=>?_,f.put _ (EU Ao),BP.app (fun t Av=>Lc t Av) AR⟩
  have Sc:Lt AT g (0+m*s.size) (s.cells ov h):=AN.DY (hs.block g (TD CK) (by simp))
  have Bm:=Sc o _ (hu h)
  have Ek:=fT (P:=c.P) Av (a:=⟨g,m*s.size+o,none⟩) (v:=u h) (w:=AT) (by simpa using Bm)
  have HX:=f.AL Ab
  simp only[JI,Addr.add_mid,Nat.zero_add]at HX
  simp[execOp,HX,Ek]) (fun h=>k h.1 h.2)
end
end
section
section
variable{c:Cj} {ops:Array Oper} {AP:Cj->Array Oper->List Oper->Env->Own->List Atom->Prop} [Dr:Ip AP] {env:Env} {L:Own} {D:List Atom} {rest:List Oper} {d:Nat} {t:TypeId} {p:String} {af:Array Edge} {x y:Operand} {Ec FK:TypeId}
include Dr
theorem fZ{m n r:Int}(Ab:AL env x=some (.int .i64 m))(Bf:AL env y=some (.int .i64 n))(Bh:m-n=r)(Ag:A' r)(Ao:Nat.blt d c.n=true)(k:AP c ops rest ((d,.int .i64 r)::env) L D):
 AP c ops (⟨some d,.binOp .sub Ec x y FK,t,p,af,none⟩::rest) env L D:=by
 subst Bh
 exact TU Ab Bf Ag Ao k
theorem Hf{m n r:Int}(Ab:AL env x=some (.int .i64 m))(Bf:AL env y=some (.int .i64 n))(Bh:m+n=r)(Ag:A' r)(Ao:Nat.blt d c.n=true)(k:AP c ops rest ((d,.int .i64 r)::env) L D):
 AP c ops (⟨some d,.binOp .add Ec x y FK,t,p,af,none⟩::rest) env L D:=by
 subst Bh
 exact C5 Ab Bf Ag Ao k
end
section
variable{c:Cj} {Q:Exit->Act->World->Prop} {env:Env} {L:Own} {D:List Atom} {x:Code}
theorem qA{σ:Type}(C:Env)(Dw:List Atom)(V:σ->Env->Env)(LL:σ->Own)(I:σ->Prop)(_hC:Go.A_.Sub C env)(_hc:Bg Dw D)(Af:CF c x (Exit.then (gX c (fun s=>V s C) LL (fun _=>Dw) I) Q) env L D)(h2:∀s,I s->Eg c Q .normal (V s C) (LL s) Dw):CF c x Q env L D:=
 AcY (fun s=>V s C) LL (fun _=>Dw) I Af h2
end
theorem mh{n:Nat}(h:n<9223372036854775808):IntKind.u64.wrap (n:Int)=(n:Int):=by
 simp[IntKind.wrap,IntKind.signed,IntKind.bits]
 omega
theorem jO{n:Nat}(h:n<9223372036854775808):IntKind.i64.wrap (n:Int)=(n:Int):=Uf ⟨by omega,by omega⟩
theorem lO(u:Nat):((u:Int)).fdiv (2^min (1:Int).toNat IntKind.u64.bits)=((u / 2:Nat):Int):=by
 rw[show((2:Int)^min (1:Int).toNat IntKind.u64.bits)=2 by decide]
 rw[Int.fdiv_eq_ediv_of_nonneg _ (by decide)]
 omega
section
variable{α:Type} [Inhabited α]
theorem s'(f:Nat->Bool){n i j:Nat}(h:i<j)(Ao:0<n):search f n i j=if f ((i+j) / 2)=true then search f (n-1) ((i+j) / 2+1) j else search f (n-1) i ((i+j) / 2):=by
 obtain⟨n,rfl⟩:∃k,n=k+1:=⟨n-1,by omega⟩
 rw[search,if_pos h]
 rfl
theorem lK(f:Nat->Bool){n i j:Nat}(h:i<j)(Ao:j-i<=n)(BI:f ((i+j) / 2)=true):search f n i j=search f (n-1) ((i+j) / 2+1) j:=by rw[s' f h (by omega),if_pos BI]
theorem lH(f:Nat->Bool){n i j:Nat}(h:i<j)(Ao:j-i<=n)(BI:¬f ((i+j) / 2)=true):search f n i j=search f (n-1) i ((i+j) / 2):=by rw[s' f h (by omega),if_neg BI]
end
end
section
section
variable{c:Cj} {ops:Array Oper} {AP:Cj->Array Oper->List Oper->Env->Own->List Atom->Prop} [Dr:Ip AP] {env:Env} {L:Own} {D:List Atom} {rest:List Oper} {d:Nat} {t:TypeId} {p:String} {af:Array Edge} {x y:Operand} {T:TypeId}
include Dr
theorem dR{A:Option Addr}{m Dc:Nat}{E:TypeId}(Ab:AL env x=some (.slice A m Dc))(Av:c.P.underlying T=some (.slice E))(Ao:Nat.blt d c.n=true)
 (k:AP c ops rest ((d,.int .i64 (Dc:Int))::env) L D):
 AP c ops (⟨some d,.call {callee:=.builtin .cap,args:= #[x],argTypes:= #[T]},t,p,af,none⟩::rest) env L D:=
 pu rfl rfl Ao (fun a w f=>by simp[execOp,resolve,invoke,builtin,f.AL Ab,Builtin.cap_,run_underlying Av,goInt]) k
theorem PO{A:Option Addr}{m Dc h:Nat}{E:TypeId}{B7:Nat}{Ag:Operand}(Ab:AL env x=some (.slice A m Dc))(Av:H5 c.P T E B7)(DC:AL env Ag=some (.int .i64 (h:Int)))(Bo:h<=Dc)(Ao:Nat.blt d c.n=true)
 (k:AP c ops rest ((d,.slice A h Dc)::env) L D):
 AP c ops (⟨some d,.slice T x none (some Ag) none,t,p,af,none⟩::rest) env L D:=
 pu rfl rfl Ao (fun a w f=>by
  obtain⟨j,Ay,hs⟩:=Option.map_eq_some_iff.1 Av.2
  have Dh:(0:Int)<=h/\(h:Int)<=(Dc:Int):=by omega
  have Fb:(if Dc=0 then A else A.map (·.add 0))=A:=by
   split
   · rfl
   · cases A
     · rfl
     · simp[Addr.add]
  simp[execOp,f.AL Ab,f.AL DC,Instr.sliceAt,run_underlying Av.1,Instr.slice,Instr.sliceBounds,Instr.sliceBound,asIntOf,Dh,sizeOf,typeInfo,Ay]
  rw[if_pos Bo,Fb]) k
end
end
end Go.A_
namespace Go.A_
section
section
variable{c:Cj} {l:List Oper} {s:Iq} {env:Env} {D:List Atom} {Q:Exit->Act->World->Prop}
def fO(l:List Oper)(k:Nat):Nat->Nat->Bool
 |0,_=>false
 |f+1,i=>(List.range i).any fun j=>Gp l j i&&(j==k||fO l k f j)
theorem sO{l:List Oper}{A8:Array Bool}(E5:∀i k,A8.getD i false=true->Gp l k i=true->A8.getD k false=true){k:Nat}:∀(f i:Nat),(∀j,Gp l j i=true->A8.getD j false=true)->fO l k f i=true->A8.getD k false=true
 |0,_,_,h=>by cases h
 |f+1,i,Ag,h=>by
  rw[fO,List.any_eq_true]at h
  obtain⟨j,_,Ay⟩:=h
  simp only[Bool.and_eq_true,Bool.or_eq_true,beq_iff_eq]at Ay
  have a0:=Ag j Ay.1
  rcases Ay.2 with rfl|h2
  · exact a0
  · exact sO E5 f j (fun q B'=>E5 j q a0 B') h2
def l3(l:List Oper)(AJ:Nat):Bool:=((List.range AJ).all fun k=>fO l k AJ AJ)&&((List.range l.length).all fun i=>Nat.ble i AJ||Gp l (i-1) i)
theorem Aj4{l:List Oper}{AJ:Nat}(h:l3 l AJ=true)(A8:Array Bool)(E5:∀i k,A8.getD i false=true->Gp l k i=true->A8.getD k false=true):
 ∀i,AJ<=i->i<l.length->(∀k,Gp l k i=true->A8.getD k false=true)->∀k,k<AJ->A8.getD k false=true:=by
 simp only[l3,Bool.and_eq_true]at h
 intro i
 induction i with
 |zero=>
  intro Ag AN AH k AE
  omega
 |succ i Cg=>
  intro Ag AN AH k AE
  by_cases he:i+1=AJ
  · exact sO E5 AJ AJ (by rw[<-he];exact AH) (List.all_eq_true.1 h.1 k (List.mem_range.2 AE))
  · have Bm:=List.all_eq_true.1 h.2 (i+1) (List.mem_range.2 AN)
    simp only[Bool.or_eq_true,Nat.add_sub_cancel]at Bm
    rcases Bm with Bm|Bm
    · have:=Nat.le_of_ble_eq_true Bm
      omega
    · have Tp:=AH i Bm
      exact Cg (by omega) (by omega) (fun q B'=>E5 i q Tp B') k AE
def fQ(AJ:Nat)(l:List Oper)(env:Env)(s:Iq)(n:Nat):Bool:=S6 l s.E8&&(List.range AJ).all (fun i=>dI l env i)&&ND l&&LX l n&&OL l s&&l3 l AJ&&Region.seqB .any l.toArray (l.drop AJ).length AJ (R' AJ l.length)
theorem Alj{AJ:Nat}{L:Own}(AE:Cb Q c l.toArray (l.drop AJ) env L D)(jG:Region.seqB .any l.toArray (l.drop AJ).length AJ (R' AJ l.length)=true){a:Act}{w:World}(f:Fr c.n a env)(st:CI c.BW c.M w L)(AR:BP D w L):
 wpAny c.P .any l.toArray Q (l.length-AJ) (R' AJ l.length) a w:=by
 have h:=wpAny_of_seq (md:=.any) (Q':=Q) (l.drop AJ) AJ (R' AJ l.length) a w (fun j=>by simp[List.getElem?_drop]) jG (AE a w f st AR)
 rwa [List.length_drop]at h
theorem AiB(AJ:Nat)(s:Iq)(Yq:s.hs=[[]])(CM:fQ AJ l env s c.n=true)(aY:AJ<=l.length){L:Own}(Dv:s.L [] []=L)(Dk:OG c l s env D (l.take AJ) 0)(A:Nat->Array Bool->Act->World->Prop)
 (Cl:∀f A8 a w,Region.ready .any l.toArray A8≠[]->(∀i∈Region.ready .any l.toArray A8,∀Q',wpOp c.P l.toArray Q' i (A f (A8.setIfInBounds i true)) a w)->A (f+1) A8 a w)
 (k:∀V:Nat->Value,E7 (fun i=>(CN l i).isSome=true->s.Eb i=none->s.ok i (V i)) (List.range AJ)->∀a w,Fr c.n a (Eo l (EC s.Eb V) (List.range AJ)++env)->CI c.BW c.M w L->BP (FM s.rs (EC s.Eb V) ((List.range AJ).filter fun i=>(CN l i).isSome)++D) w L->A (l.length-AJ) (R' AJ l.length) a w)
 {a:Act}{w:World}(f:Fr c.n a env)(st:CI c.BW c.M w L)(AR:BP D w L):A l.length (Array.replicate l.length false) a w.drew:=by
 simp only[fQ,Bool.and_eq_true]at CM
 obtain⟨⟨⟨⟨⟨⟨Af,h2⟩,C'⟩,EY⟩,BB⟩,Aa1⟩,_⟩:=CM
 subst Dv
 obtain⟨Ey,Ez⟩:=AhY AJ s Yq BB C'
 exact AbC AJ s (fun _=>s.L [] []) Af h2 C' EY BB (Aj4 Aa1) Ey aY rfl Ez Dk A Cl k f st AR
theorem sP{id:Nat}(AJ:Nat)(s:Iq)(Yq:s.hs=[[]])(hm:c.P.follows .mixedOrders=true)(CM:fQ AJ l env s c.n=true)(aY:AJ<=l.length){L:Own}(Dv:s.L [] []=L)(Dk:OG c l s env D (l.take AJ) 0)
 (k:∀V:Nat->Value,E7 (fun i=>(CN l i).isSome=true->s.Eb i=none->s.ok i (V i)) (List.range AJ)->
  Cb Q c l.toArray (l.drop AJ) (Eo l (EC s.Eb V) (List.range AJ)++env) L (FM s.rs (EC s.Eb V) ((List.range AJ).filter fun i=>(CN l i).isSome)++D)):CF c (.region id l.toArray true) Q env L D:=fun a w f st AR=>by
 have jG:Region.seqB .any l.toArray (l.drop AJ).length AJ (R' AJ l.length)=true:=by
  simp only[fQ,Bool.and_eq_true]at CM
  exact CM.2
 exact wp_region_any hm (AiB AJ s Yq CM aY Dv Dk (wpAny c.P .any l.toArray Q) (fun _ _ _ _ Bw h=>⟨fun Af=>absurd Af Bw,fun i Ag=>h i Ag Q⟩) (fun V LC a w f st AR=>Alj (k V LC) jG f st AR) f st AR)
end
theorem h7{P:Program}{d m:Nat}{f:Field}{B1:List Field}{xs ys zs1 zs2:Array Value}{r s:Bool}{w:World}(Ao:(f.name== "_")=false){Cx:TypeDesc}(hu:P.underlying f.type=some Cx)(Bh:Cx.isRow=true)(hm:(P.info? f.type).map (·.size)=some m)(AK:xs.extract f.offset (f.offset+m)=zs1)(Aq:ys.extract f.offset (f.offset+m)=zs2)
 (he:∀w,(Op.equalIn d f.type (.agg zs1) (.agg zs2)).run P w=.ok r w)(bd:∀w,(Op.eqFields d xs ys B1).run P w=.ok s w):(Op.eqFields d xs ys (f::B1)).run P w=.ok (r&&s) w:=by
 have eO:f.name≠ "_" :=by simpa using Ao
 obtain⟨j,Ay,hs⟩:=Option.map_eq_some_iff.1 hm
 have AH:∀(zs z:Array Value),zs.extract f.offset (f.offset+m)=z->∀w,(part f.type zs f.offset).run P w=.ok (.agg z) w:=by
  intro zs z Cu w
  unfold part
  rw[Sem.run_bind,lq hu,Result.andThen_ok,Bh]
  simp[sizeOf,typeInfo,Ay,hs,Cu]
 unfold Op.eqFields
 rw[if_pos eO]
 simp only[Sem.run_bind,AH xs zs1 AK,AH ys zs2 Aq,he,Result.andThen_ok]
 cases r with
 |false=>simp
 |true=>simpa using bd w
end
end Go.A_
namespace Go.A_
open Go.RowKit
section
structure ZQ where
instance ld:Be ZQ where
 size:=1
 agg:=false
 rd _ _ cs _:=∃u:Value,cs=[u]/\u.oneCell'=true
 len:=by rintro S w cs x ⟨u,rfl,_⟩;rfl
 one:=by
  rintro S w cs x ⟨u,rfl,h⟩ Pc hu
  have:Pc=u:=by simpa using hu
  rw[this]
  exact h
 DY:=by
  rintro S Fq w AT cs x h _ _
  exact h
theorem Aft{S:Nat->Prop}{w:World}{u:Value}(h:u.oneCell'=true):Atom.holds (@Atom.mk ZQ ld u ⟨⟩) S w:=by
 have AK:YA u=false:=by cases u<;>first|rfl|simp[Value.oneCell']at h
 exact⟨AK,u,by rw[show(Atom.mk u (⟨⟩:ZQ)).v=u from rfl,NC AK],h⟩
theorem TJ{S:Nat->Prop}{w:World}{u:Value}(h:Atom.holds (@Atom.mk ZQ ld u ⟨⟩) S w):u.oneCell'=true:=by
 obtain⟨AK,Pc,Af,h2⟩:=h
 have AK:YA u=false:=AK
 have Af:u.cells.toList=[Pc]:=Af
 rw[NC AK]at Af
 have:u=Pc:=by simpa using Af
 rw[this]
 exact h2
@[reducible] def rQ(cs:List Value):List Atom:=cs.map fun u=>@Atom.mk ZQ ld u ⟨⟩
theorem rR{S:Nat->Prop}{w:World}{cs:List Value}(h:∀u∈cs,u.oneCell'=true):∀t∈rQ cs,t.holds S w:=fun t Av=>by
 obtain⟨u,hu,rfl⟩:=List.mem_map.1 Av
 exact Aft (h u hu)
@[reducible] def Shape.raw{α:Type}(s:Shape α):Shape (α×s.H) where
 H:=Unit
 size:=s.size
 cells x _:=s.cells x.1 x.2
 sub x _:=rQ (s.cells x.1 x.2)
 wf x:=s.wf x.1
 len x _:=s.len x.1 x.2
 one:=by
  intro S w x h Av u hu
  exact TJ (Av _ (List.mem_map.2 ⟨u,hu,rfl⟩))
@[reducible] def Iy{α:Type}(s:Shape α):Be (α×s.H):=Be.D5 s.raw
structure wi (NT b:Nat) (E:TypeId) (A B:World):Prop where
 size:A.heap.size<=B.heap.size
 block:∀k,k<NT->k≠b->B.heap[k]? =A.heap[k]?
 typed:∀k cs T RX,k≠b->T≠E->A.heap[k]? =some (.cells cs T RX)->B.heap[k]? =some (.cells cs T RX)
theorem C8.bu{NT b:Nat}{E:TypeId}{M:List Nat}{A B:World}(h:C8 M A B)(Ao:NT<=A.heap.size)(UU:∀k,k∈M->k<A.heap.size->k=b\/(NT<=k/\∃cs RX,A.heap[k]? =some (.cells cs E RX))):wi NT b E A B:=
 ⟨h.size,fun k AE Aq=>h.block k (Nat.lt_of_lt_of_le AE Ao) (fun hm=>by
  rcases UU k hm (Nat.lt_of_lt_of_le AE Ao)with Af|⟨Af,_⟩
  · exact Aq Af
  · omega),fun k cs T RX Aq LY AE=>(h.block k (TD AE) (fun hm=>by
  rcases UU k hm (TD AE)with Af|⟨_,KH,AmR,Af⟩
  · exact Aq Af
  · rw[AE]at Af
    cases Af
    exact LY rfl)).trans AE⟩
def Bb{α:Type}[Be α](NT DQ:Nat)(E:TypeId)(J:List Nat)(v:Value)(ys:List α)(w:World):Prop:=
 ∃S:Nat->Prop,Atom.holds ⟨v,ys⟩ S w/\∀b,S b->b<w.heap.size/\b∉J/\b≠DQ/\(b<NT\/∃cs T RX,w.heap[b]? =some (.cells cs T RX)/\T≠E)
theorem AdI{F:Fence}{n:Nat}{P:Program}{ops:Array Oper}{Q:Exit->Act->World->Prop}{rest:List Oper}{o:Oper}{a:Act}{w:World}(CK:o.guard=none)(h:o.wpIn F n P a w (fun Dx AT=>wpListIn F n P ops Q rest Dx AT) Q):wpListIn F n P ops Q (o::rest) a w:=by
 unfold wpListIn
 rw[if_pos (by unfold Region.wanted;rw[CK])]
 exact h
section
variable{c:Cj} {ops:Array Oper} {AP:Cj->Array Oper->List Oper->Env->Own->List Atom->Prop} [Dr:Ip AP] {env:Env} {L:Own} {D:List Atom} {rest:List Oper} {d:Nat} {t:TypeId} {p:String} {af:Array Edge} {x:Operand}
include Dr
theorem j1{α:Type}{s:Shape α}(i:Nat){ov:α}{hh:s.H}{By:Value}(Ab:AL env x=some By)(Cl:D[i]? =some (@Atom.mk (Cq (α×s.H)) (@F9 _ (Iy s)) By ⟨(ov,hh)⟩)){E:TypeId}(Av:Oc c.P E s.size)(Ao:Nat.blt d c.n=true)
 (k:s.wf ov->AP c ops rest ((d,.agg (s.cells ov hh).toArray)::env) L D):AP c ops (⟨some d,.load E x,t,p,af,none⟩::rest) env L D:=
 Gi (s:=s.raw) i Ab Cl Av Ao fun _ hw=>Dr.mono (fun _ _ f _ AR=>⟨f,fun u hu=>AR u (List.mem_cons_of_mem _ (List.mem_append_right _ hu))⟩) (k hw)
end
end
end Go.A_
namespace Go.Apw
open Go.A_
def tB(Im:List Bv)(KK:Int):Bv:=(Gd Im.length (fun j=>decide ((Im.getD j default).CZ=KK))).elim IP (fun j=>Im.getD j default)
def AcU(Im:List Bv)(KK:Int):Bool:=(Gd Im.length (fun j=>decide ((Im.getD j default).CZ=KK))).isSome
def Aeo(l:List QM)(KK:Int)(key:ByteArray)(n:Int):Int:=
 if ¬IA (Adq l)=0 then 0 else match Gd l.length (fun j=>decide (l.getD j default=({CZ:=KK,Al:=key,G0:=n,It:=(l.getD j default).It}:QM)))with
  |some j=>(l.getD j default).It
  |none=>0
def AlT:Bx:=({Ap:=0,As:=0,Al:=ByteArray.empty,EL:=ByteArray.empty,B2:=0,DN:=0,DO:=0,C3:=0}:Bx)
def findD(l:List Bx)(c q:Int):Bx:=if(decide (HI (Kt l c q)<0)|| !decide (IA (Is l)=0))=true then AlT else l.getD ((Kt l c q).getD 0) default
def Tz(l:List Bx)(c q:Int):Bool:=if(decide (HI (Kt l c q)<0)|| !decide (IA (Is l)=0))=true then false else true
theorem Ahq{l:List Bx}{c q:Int}(h:(decide (HI (Kt l c q)<0)|| !decide (IA (Is l)=0))=false):∃k,Kt l c q=some k/\k<l.length:=by
 cases e:Kt l c q with
 |none=>
  rw[e]at h
  simp[HI]at h
 |some k=>exact⟨k,rfl,Q4 e⟩
def Ab8(PN:List (List QM))(c:ZS)(h:BD):List Int:=
 if(decide (h.Bn>=1)&&decide (h.Bn<=(PN.length:Int)))=true then[Aeo (PN.getD (h.Bn-1).toNat default) c.CZ c.Yb.Al h.G0]else[]
def sc(PN:List (List QM))(c:ZS):Nat->List Int
 |0=>[c.Yb.BT]
 |i+1=>sc PN c i++Ab8 PN c (c.Yb.A0.getD i default)
def AdW(Im:List Bv)(a:AD):List Int:=
 if(AcU Im a.BG.DH&& !decide (a.BG.Ap=0))=true then(if(Tz (tB Im a.BG.DH).Bj a.BG.Ap a.BG.As&&decide ((findD (tB Im a.BG.DH).Bj a.BG.Ap a.BG.As).C3=1))=true then[a.BG.B2]else[])else[]
def kO(Im:List Bv)(PN:List (List QM))(c:ZS):List Int:=sc PN c c.Yb.A0.length++AdW Im c.Yb
def Abt(Im:List Bv)(PN:List (List QM))(c:ZS):Int×Bool:=(Lo (kO Im PN c).sum,decide (No (kO Im PN c).sum=0)&&Rb c.Yb.Cs (Lo (kO Im PN c).sum))
structure Ap2 (S:Bv):Prop where
 acc:S.Aj.length<=1048576
 hold:∀j,(S.Aj.getD j default).A0.length<=1048576
 marks:S.Bz.length<=1048576
 waits:S.AA.length<=1048576
 VZ:S.Bj.length<=1048576
 ends:S.CX.length<=1048576
 image:S.Cf.length<=1048576
def RK{α:Type}[Inhabited α](p:α->α->Bool)(x y:List α):Bool:=decide (x.length=y.length)&&allI x.length (fun j=>p (x.getD j default) (y.getD j default))
theorem wX{α:Type}[Inhabited α]{p:α->α->Bool}{x y:List α}(h:x.length≠y.length):RK p x y=false:=by simp[RK,h]
theorem wY{α:Type}[Inhabited α]{p:α->α->Bool}{x y:List α}(i:Nat)(Ag:i<x.length)(h:p (x.getD i default) (y.getD i default)=false):RK p x y=false:=by rw[RK,Ur i Ag h,Bool.and_false]
theorem nc{α:Type}[Inhabited α]{p:α->α->Bool}{x y:List α}(AN:x.length=y.length)(h:∀j,j<x.length->p (x.getD j default) (y.getD j default)=true):RK p x y=true:=by
 rw[RK,Us h,decide_eq_true AN]
 rfl
theorem wZ{α:Type}[Inhabited α]{p:α->α->Bool}(AH:∀x,p x x=true)(x:List α):RK p x x=true:=nc rfl fun _ _=>AH _
theorem not_true{b:Bool}(h:(!b)=true):b=false:=by simpa using h
theorem Aey{b:Bool}(h:(!b)=false):b=true:=by simpa using h
def cB(x y:Bv):Bool:=(!decide (x.CZ=y.CZ))||(!decide (x.DX=y.DX))||(!decide (x.Du=y.Du))||(!decide (x.A6=y.A6))||(!decide (x.Bc=y.Bc))||(!decide (x.Dn=y.Dn))||(!RK Xc x.Aj y.Aj)||(!decide (x.Bz=y.Bz))||(!decide (x.AA=y.AA))
def cA(x y:Bv):Bool:=if cB x y=true then false else decide (x.Bj=y.Bj)&&decide (x.CX=y.CX)&&decide (x.Bt=y.Bt)&&decide (x.CW=y.CW)&&decide (x.Cf=y.Cf)&&decide (x.Jc=y.Jc)&&decide (x.JL=y.JL)&&decide (x.GW=y.GW)
theorem Ai8(a:AD):Xc a a=true:=by unfold Xc;simp
theorem Aja(x:Bv):cA x x=true:=by
 have h:cB x x=false:=by unfold cB;simp[wZ Ai8]
 rw[cA,if_neg (by rw[h];decide)]
 simp
theorem ArE{α:Type}[Inhabited α]{l:List α}{i:Nat}(h:i<l.length):l.take i++[l.getD i default]=l.take (i+1):=by
 rw[List.take_add_one]
 simp[List.getD,List.getElem?_eq_getElem h]
def X'(l:List Df)(c:Int):Option Nat:=Gd l.length (fun j=>decide ((l.getD j default).Ap>=c))
def V6(l:List Df)(c:Int):Nat:=(X' l c).getD l.length
def U8(l:List Df)(c:Int):Bool:=match X' l c with
 |some j=>decide ((l.getD j default).Ap=c)
 |none=>false
theorem AcS{l:List Df}{c:Int}(h:U8 l c=true):V6 l c<l.length:=by
 unfold U8 at h
 cases e:X' l c with
 |none=>rw[e]at h;cases h
 |some j=>
  rw[V6,e]
  exact List.mem_range.1 (List.mem_of_find?_eq_some e)
def kP(l:List Df)(c q:Int):Bool:=U8 l c&&decide ((l.getD (V6 l c) default).As>=q)&&decide (IA (HE l)=0)
def vv:BD:=⟨0,0,0,0⟩
def a'(a:AD)(n:Int):Option Nat:=Gd a.A0.length (fun j=>decide ((a.A0.getD j default).Bn=n))
def V8(a:AD)(n:Int):BD:=if E4 a=true then(match a' a n with
 |some j=>a.A0.getD j default
 |none=>vv)else vv
def WK(a:AD)(n:Int):Bool:=E4 a&&(a' a n).isSome
end Go.Apw
namespace Go.Proofs.YtalfaopffbkdnaaGreat
open Go.A_ Go.Apw Go.ChangeShapes Go.WideShapes Go.ChangeAt Go.RowKit
theorem Atw:MU AG 60 (@FI Int E_):=rV Tryz.underlying60 Mw (by decide) MH
end Go.Proofs.YtalfaopffbkdnaaGreat
namespace Go.Apw
open Go.A_
end Go.Apw
namespace Go.A_
section
section
variable{α:Type} [Inhabited α]
theorem lJ{f:Nat->Bool}:∀(n i j:Nat),i<=j->j-i<=n->(∀u v,i<=u->u<=v->v<j->f v=true->f u=true)->
 (∀u,i<=u->u<search f n i j->f u=true)/\(∀u,search f n i j<=u->u<j->f u=false)
 |0,i,j,GQ,Ao,_=>⟨fun u Af h2=>by rw[search]at h2;omega,fun u Af h2=>by rw[search]at Af;omega⟩
 |n+1,i,j,GQ,Ao,hm=>by
  rw[search]
  split
  · split
    · rename_i C_ BI
      obtain⟨Af,h2⟩:=lJ (f:=f) n ((i+j) / 2+1) j (by omega) (by omega) (fun u v a b c d=>hm u v (by omega) b c d)
      refine⟨fun u AK Aq=>?_,h2⟩
      by_cases Bm:u<=(i+j) / 2
      · exact hm u _ AK Bm (by omega) BI
      · exact Af u (by omega) Aq
    · rename_i C_ BI
      obtain⟨Af,h2⟩:=lJ (f:=f) n i ((i+j) / 2) (by omega) (by omega) (fun u v a b c d=>hm u v a b (by omega) d)
      refine⟨Af,fun u AK Aq=>?_⟩
      by_cases Bm:u<(i+j) / 2
      · exact h2 u AK Bm
      · rw[<-Bool.not_eq_true]
        exact fun he=>BI (hm _ u (by omega) (by omega) Aq he)
  · exact⟨fun u Af h2=>by omega,fun u Af h2=>by omega⟩
structure m2 (lt:α->α->Bool):Prop where
 w':∀x y,lt x y=true->lt y x=false
 mb:∀x y z,lt y x=false->lt z y=false->lt z x=false
omit [Inhabited α]in
theorem m2.Si{lt:α->α->Bool}(h:m2 lt)(x:α):lt x x=false:=by
 cases e:lt x x with
 |false=>rfl
 |true=>exact(h.w' x x e).symm▸e▸rfl
variable{lt:α->α->Bool}
end
end
section
structure QL {GA:Type} (lt:GA->GA->Bool):Prop where
 Si:∀a,lt a a=false
 mb:∀a b c,lt a b=true->lt b c=true->lt a c=true
 tZ:∀a b,lt a b=false->a≠b->lt b a=true
section
variable{β GA:Type} [Inhabited β] [DecidableEq GA] (key:β->GA) (lt:GA->GA->Bool)
def Cz(t:GA)(l:List β):Nat:=search (fun h=>lt (key (l.getD h default)) t) l.length 0 l.length
def G9(t:GA)(l:List β):Bool:=decide (Cz key lt t l<l.length)&&decide (key (l.getD (Cz key lt t l) default)=t)
def FO(i:Nat)(x:β)(l:List β):List β:=l.take i++x::l.drop i
def FQ(x:β)(l:List β):List β:=if G9 key lt (key x) l=true then l.set (Cz key lt (key x) l) x else FO (Cz key lt (key x) l) x l
def H6(l:List β):Prop:=l.Pairwise (fun a b=>lt (key a) (key b)=true)
variable{key lt}
omit [DecidableEq GA]in
theorem St(t:GA)(l:List β):Cz key lt t l<=l.length:=(lI _ _ _ _ (Nat.zero_le _)).2
theorem G3{l:List β}{j:Nat}(h:j<l.length):l.getD j default=l[j]:=by rw[List.getD_eq_getElem?_getD,List.getElem?_eq_getElem h];rfl
omit [DecidableEq GA]in
theorem fD(o:QL lt){l:List β}(h:H6 key lt l)(t:GA):(∀j (Ay:j<l.length),j<Cz key lt t l->lt (key l[j]) t=true)/\(∀j (Ay:j<l.length),Cz key lt t l<=j->lt (key l[j]) t=false):=by
 obtain⟨Af,h2⟩:=lJ (f:=fun h=>lt (key (l.getD h default)) t) l.length 0 l.length (Nat.zero_le _) (by omega) (fun u v _ AnD BC BI=>by
  by_cases e:u=v
  · subst e;exact BI
  · have:=List.pairwise_iff_getElem.1 h u v (by omega) BC (by omega)
    rw[G3 (by omega)]at BI ⊢
    exact o.mb _ _ _ this BI)
 exact⟨fun j Ay AH=>by rw[<-G3 Ay];exact Af j (Nat.zero_le _) AH,fun j Ay AH=>by rw[<-G3 Ay];exact h2 j AH Ay⟩
theorem br(o:QL lt){l:List β}(h:H6 key lt l)(t:GA):G9 key lt t l=true↔∃x∈l,key x=t:=by
 obtain⟨Af,h2⟩:=fD o h t
 simp only[G9,Bool.and_eq_true,decide_eq_true_eq]
 constructor
 · rintro⟨a,b⟩
   rw[G3 a]at b
   exact⟨_,List.getElem_mem a,b⟩
 · rintro⟨x,Ab,rfl⟩
   obtain⟨j,Ay,rfl⟩:=List.getElem_of_mem Ab
   have AH:Cz key lt (key l[j]) l<=j:=by
    rcases Nat.lt_or_ge j (Cz key lt (key l[j]) l)with g|g
    · have:=Af j Ay g
      rw[o.Si]at this;cases this
    · exact g
   have C_:Cz key lt (key l[j]) l<l.length:=by omega
   refine⟨C_,?_⟩
   rw[G3 C_]
   by_cases e:Cz key lt (key l[j]) l=j
   · have:l[Cz key lt (key l[j]) l]=l[j]:=by congr 1
     rw[this]
   · have a:=List.pairwise_iff_getElem.1 h (Cz key lt (key l[j]) l) j C_ Ay (by omega)
     rw[h2 _ C_ (Nat.le_refl _)]at a;cases a
theorem ZX(_:QL lt){l:List β}(_:H6 key lt l){t:GA}(Ag:G9 key lt t l=true):Cz key lt t l<l.length/\key (l.getD (Cz key lt t l) default)=t:=by
 simpa only[G9,Bool.and_eq_true,decide_eq_true_eq]using Ag
theorem Ahz(o:QL lt){l:List β}(h:H6 key lt l){t:GA}(Ag:G9 key lt t l=false){j:Nat}(Ay:j<l.length)(AH:Cz key lt t l<=j):lt t (key l[j])=true:=by
 refine o.tZ _ _ ((fD o h t).2 j Ay AH) fun e=>?_
 rw[(br o h t).2 ⟨_,List.getElem_mem Ay,e⟩]at Ag
 cases Ag
omit [Inhabited β]in
theorem Sh(i:Nat)(x:β)(l:List β)(h:i<=l.length):(FO i x l).length=l.length+1:=by
 rw[FO,List.length_append,List.length_cons,List.length_take,List.length_drop]
 omega
theorem su{x:β}{l:List β}(h:G9 key lt (key x) l=true):(FQ key lt x l).length=l.length:=by rw[FQ,if_pos h,List.length_set]
theorem AhG{x:β}{l:List β}(h:G9 key lt (key x) l=false):(FQ key lt x l).length=l.length+1:=by rw[FQ,if_neg (by rw[h];decide),Sh _ _ _ (St _ _)]
theorem cb(x:β)(l:List β):(FQ key lt x l).length<=l.length+1:=by
 cases h:G9 key lt (key x) l with
 |true=>rw[su h];omega
 |false=>rw[AhG h];exact Nat.le_refl _
omit [Inhabited β]in
theorem Aeg{i:Nat}{x y:β}{l:List β}:y∈FO i x l↔y=x\/y∈l:=by
 rw[FO,List.mem_append,List.mem_cons]
 constructor
 · rintro(h|h|h)
   · exact .inr (List.mem_of_mem_take h)
   · exact .inl h
   · exact .inr (List.mem_of_mem_drop h)
 · rintro(h|h)
   · exact .inr (.inl h)
   · rw[<-List.take_append_drop i l,List.mem_append]at h
     rcases h with h|h
     · exact .inl h
     · exact .inr (.inr h)
theorem PJ(o:QL lt){x y:β}{l:List β}(h:H6 key lt l):y∈FQ key lt x l↔y=x\/(y∈l/\key y≠key x):=by
 cases Ag:G9 key lt (key x) l with
 |false=>
  rw[FQ,if_neg (by rw[Ag];decide),Aeg]
  have Ao:∀z∈l,key z≠key x:=fun z Cu e=>by
   rw[(br o h (key x)).2 ⟨z,Cu,e⟩]at Ag
   cases Ag
  exact⟨fun a=>a.imp id fun b=>⟨b,Ao y b⟩,fun a=>a.imp id fun b=>b.1⟩
 |true=>
  obtain⟨a,b⟩:=ZX o h Ag
  rw[FQ,if_pos Ag]
  rw[G3 a]at b
  constructor
  · intro Bf
    obtain⟨j,Ay,e⟩:=List.getElem_of_mem Bf
    rw[List.length_set]at Ay
    rw[List.getElem_set]at e
    split at e
    · exact .inl e.symm
    · rename_i FG
      subst e
      refine .inr ⟨List.getElem_mem Ay,fun e=>?_⟩
      have e:=e.trans b.symm
      rcases Nat.lt_or_gt_of_ne FG with g|g
      · have:=List.pairwise_iff_getElem.1 h _ j a Ay g
        rw[e,o.Si]at this;cases this
      · have:=List.pairwise_iff_getElem.1 h j _ Ay a g
        rw[e,o.Si]at this;cases this
  · rintro(rfl|⟨Bf,FG⟩)
    · exact List.mem_iff_getElem.2 ⟨_,by rw[List.length_set];exact a,by rw[List.getElem_set_self]⟩
    · obtain⟨j,Ay,rfl⟩:=List.getElem_of_mem Bf
      refine List.mem_iff_getElem.2 ⟨j,by rw[List.length_set];exact Ay,?_⟩
      rw[List.getElem_set,if_neg]
      intro e
      subst e
      exact FG b
theorem W4(o:QL lt){x:β}{l:List β}(h:H6 key lt l):H6 key lt (FQ key lt x l):=by
 cases Ag:G9 key lt (key x) l with
 |true=>
  obtain⟨a,b⟩:=ZX o h Ag
  rw[G3 a]at b
  rw[FQ,if_pos Ag]
  refine List.pairwise_iff_getElem.2 fun i j Af h2 GQ=>?_
  rw[List.length_set]at Af h2
  rw[List.getElem_set,List.getElem_set]
  have:=List.pairwise_iff_getElem.1 h i j Af h2 GQ
  split
  · rename_i e
    subst e
    rw[if_neg (by omega)]
    exact(congrArg (fun q=>lt q _) b).symm.trans this
  · split
    · rename_i e
      subst e
      exact(congrArg (lt _) b).symm.trans this
    · exact this
 |false=>
  obtain⟨Rn,_⟩:=fD o h (key x)
  have hle:=St (key:=key) (lt:=lt) (key x) l
  rw[FQ,if_neg (by rw[Ag];decide),FO]
  unfold H6 at*
  have hs:=h
  rw[<-List.take_append_drop (Cz key lt (key x) l) l,List.pairwise_append]at hs
  obtain⟨s1,s2,IK⟩:=hs
  have AJ:∀y∈l.drop (Cz key lt (key x) l),lt (key x) (key y)=true:=fun y Bf=>by
   obtain⟨j,Ay,rfl⟩:=List.getElem_of_mem Bf
   rw[List.length_drop]at Ay
   rw[List.getElem_drop]
   exact Ahz o h Ag (by omega) (by omega)
  have Av:∀y∈l.take (Cz key lt (key x) l),lt (key y) (key x)=true:=fun y Bf=>by
   obtain⟨j,Ay,rfl⟩:=List.getElem_of_mem Bf
   rw[List.length_take]at Ay
   rw[List.getElem_take]
   exact Rn j (by omega) (by omega)
  rw[List.pairwise_append,List.pairwise_cons]
  refine⟨s1,⟨AJ,s2⟩,fun a AK b Aq=>?_⟩
  rcases List.mem_cons.1 Aq with rfl|Aq
  · exact Av a AK
  · exact IK a AK b Aq
end
end
end Go.A_
namespace Go.Apw
open Go.A_
def gT:BL:={Ap:=0,As:=0,HV:=false,Cm:=⟨0,0,0,0⟩}
def XG:F_:=⟨0,0,0,0⟩
def Ci(a b:Int):Bool:=decide (a<b)
-- accounts
def O9(k:ByteArray):AD×Int:=if(decide ((k.size:Int)<1)||decide ((k.size:Int)>16))=true then(Fj,1)else({Fj with Al:=k},0)
def K4(a:AD):Int:=if(!E4 a||G_ a)=true then 0 else(Lo (IU a) % 18446744073709551616-a.Cs.A6 % 18446744073709551616) % 18446744073709551616
def Jx(a:AD):Int:=if(!E4 a||G_ a)=true then 0 else(a.Cs.Bc % 18446744073709551616-Lo (I7 a) % 18446744073709551616) % 18446744073709551616
def Io(a:AD):Int×Bool:=if(!E4 a||G_ a||decide ((a.A0.length:Int)>0))=true then(0,false)else(a.BT,true)
def IC(a:AD)(n:Int):BD×Bool:=if E4 a=false then(⟨0,0,0,0⟩,false)else match Gd a.A0.length (fun j=>decide ((a.A0.getD j default).Bn=n))with
 |some j=>(a.A0.getD j default,true)
 |none=>(⟨0,0,0,0⟩,false)
def dw(a:AD)(n:Int):Bool:=(decide (n>0)&&decide (n % 18446744073709551616>Jx a))||(decide (n<0)&&decide ((-n) % 18446744073709551616>K4 a))
def JF(a:AD)(n:Int):AD×Int:=
 if E4 a=false then(Fj,21)else if n=0 then(Fj,1)else if G_ a=true then(Fj,152)else if dw a n=true then(Fj,150)else({a with BT:=a.BT+n},0)
def Iw(v n:Int):Int:=v+min n (9223372036854775807-v)
def JA(n parts i:Int):Int:=if(decide (parts<1)||decide (i<0)||decide (i>=parts))=true then 0 else if i<n % parts then n / parts+1 else n / parts
def H'(n:Int):Int:=min n 9223372036854775807
def Sn(h:BD)(AiD zD nodes:Int):BD:={h with DV:=Iw h.DV (H' (JA AiD (nodes+1) nodes)),Fc:=Iw h.Fc (H' (JA zD (nodes+1) nodes))}
def JW(a:AD)(n WM:Int):BD:=if G9 (·.Bn) Ci n a.A0=true then a.A0.getD (Cz (·.Bn) Ci n a.A0) default else⟨n,WM,0,0⟩
def Kl(a:AD)(n WM nodes:Int):AD×Int:=
 if E4 a=false then(Fj,21)
 else if(decide (nodes<1)||decide (nodes>5)||decide (n<1)||decide (n>nodes)||decide (WM<1)||decide (WM>EW))=true then(Fj,1)
 else if(!decide (a.Cn=0)||G_ a)=true then(Fj,152)
 else({a with A0:=FQ (·.Bn) Ci (Sn (JW a n WM) (Jx a) (K4 a) nodes) a.A0},0)
def Mx(a:AD)(r:Int):AD×Int:=if E4 a=false then(Fj,21)else if(decide (r<1)||decide (r>EW))=true then(Fj,1)else if a.Cn=0 then({a with Cn:=r},0)else(a,0)
def OA(a:AD):AD×Int:=if E4 a=false then(Fj,21)else({a with Cn:=0},0)
def Mk(a:AD)(n WM round IG:Int):AD×Int:=
 if E4 a=false then(Fj,21)
 else if(!(IC a n).2|| !decide ((IC a n).1.G0=WM))=true then(Fj,151)
 else if(decide (a.Cn=0)|| !decide (a.Cn=round))=true then(Fj,152)
 else if(decide (IG>(IC a n).1.DV)||decide (IG< -(IC a n).1.Fc))=true then(Fj,150)
 else({a with BT:=a.BT+IG,A0:=a.A0.filter (fun h=> !decide (h.Bn=n))},0)
def LJ(a:AD):Int:=if E4 a=false then 21 else if(Io a).2=false then 152 else 0
def Pu(a:AD)(s:GC):AD×Int:=if ¬LJ a=0 then(Fj,LJ a)else if Rb s a.BT=false then(Fj,150)else({a with Cs:=s},0)
def KA(a:AD)(l:F_):AD×Int:=
 if E4 a=false then(Fj,21)else if Sk l=false then(Fj,1)else if ¬LJ a=0 then(Fj,LJ a)else if UJ a l=false then(Fj,150)else({a with BG:=l},0)
def D1(a:AD)(ye:Bool):AD×Int:=
 if E4 a=false then(Fj,21)else if G_ a=false then(Fj,60)else({a with BT:=if ye=true then a.BT+a.BG.B2 else a.BT,BG:=XG},0)
-- marks
def FU(l:List BL)(c:Int):BL×Bool:=if Fg l=false then(gT,false)else if G9 (·.Ap) Ci c l=false then(gT,false)else(l.getD (Cz (·.Ap) Ci c l) default,true)
def LP(l:List BL)(m:BL):List BL:=FQ (·.Ap) Ci m l
def IS(l:List BL)(c q:Int):List BL×Bool×Int:=
 if Fg l=false then([],false,21)
 else if(decide (c<1)||decide (c>8)||decide (q<1)||decide (q>EW))=true then([],false,1)
 else if((FU l c).2&&decide ((FU l c).1.As>q))=true then([],false,80)
 else if((FU l c).2&&decide ((FU l c).1.As=q))=true then(l,false,0)
 else(LP l {Ap:=c,As:=q,HV:=true,Cm:=⟨0,0,0,0⟩},true,0)
def KQ(l:List BL)(c q:Int):Int:=if Fg l=false then 21 else if(!(FU l c).2|| !decide ((FU l c).1.As=q)|| !(FU l c).1.HV)=true then 60 else 0
def Oe(l:List BL)(c q:Int)(a:De):List BL×Int:=if ¬KQ l c q=0 then([],KQ l c q)else(LP l {Ap:=c,As:=q,HV:=false,Cm:=a},0)
def G'(l:List BL)(c q:Int):List BL×Int:=if ¬KQ l c q=0 then([],KQ l c q)else(LP l {Ap:=c,As:=q-1,HV:=false,Cm:=⟨80,0,0,0⟩},0)
def Ld(out:List BL)(m:BL):List BL:=
 if(!(FU out m.Ap).2||decide (m.As>(FU out m.Ap).1.As)||(decide (m.As=(FU out m.Ap).1.As)&&(FU out m.Ap).1.HV&& !m.HV))=true then LP out m else out
def M_(a b:List BL):List BL×Int:=if(Fg a&&Fg b)=false then([],21)else(b.foldl Ld a,0)
-- deals
def Mf(l:List Bx)(d:Bx):List Bx×Int:=
 if Is l=false then([],21)
 else if(!M1 d|| !decide (d.DN=0)|| !decide (d.DO=0)|| !decide (d.C3=0))=true then([],1)
 else if decide (HI (Kt l d.Ap d.As)>=0)=true then([],171)
 else if(l.length:Int)>=4 then([],3)
 else(l++[d],0)
def F1(l:List Bx)(c q:Int):Int×Int:=if Is l=false then(0,21)else if HI (Kt l c q)<0 then(0,60)else(HI (Kt l c q),0)
def TT(d:Bx)(bH is:Bool):Bx×Bool:=
 if(!decide (d.C3=0)|| !decide ((if bH=true then d.DN else d.DO)=0))=true then(d,false)
 else
  let e:Bx:=if bH=true then{d with DN:=if is=true then 1 else 2}else{d with DO:=if is=true then 1 else 2}
  ({e with C3:=JN e.DN e.DO},!decide (JN e.DN e.DO=0))
def Jk(l:List Bx)(c q:Int)(bH is:Bool):List Bx×Bool×Int:=
 if ¬(F1 l c q).2=0 then([],false,(F1 l c q).2)
 else(l.set (F1 l c q).1.toNat (TT (l.getD (F1 l c q).1.toNat default) bH is).1,(TT (l.getD (F1 l c q).1.toNat default) bH is).2,0)
def NJ(l:List Bx)(c q:Int):List Bx×Bool×Int:=
 if ¬(F1 l c q).2=0 then([],false,(F1 l c q).2)
 else if(l.getD (F1 l c q).1.toNat default).C3=0 then(l.set (F1 l c q).1.toNat {l.getD (F1 l c q).1.toNat default with C3:=2},true,0)
 else(l,false,0)
def OP(l:List Bx)(c q:Int):List Bx×Int:=
 if ¬(F1 l c q).2=0 then([],(F1 l c q).2)
 else if(l.getD (F1 l c q).1.toNat default).C3=0 then([],60)
 else(l.eraseIdx (F1 l c q).1.toNat,0)
-- ends
def H_(l:List Df)(c:Int):Nat:=(Gd l.length (fun j=>decide ((l.getD j default).Ap>=c))).getD l.length
def Sj(l:List Df)(c:Int):Bool:=decide (H_ l c<l.length)&&decide ((l.getD (H_ l c) default).Ap=c)
def Kv(l:List Df)(c q:Int):List Df×Int:=
 if HE l=false then([],21)else if Jj c q=false then([],1)
 else if Sj l c=false then(FO (H_ l c) ⟨c,q⟩ l,0)
 else(l.set (H_ l c) {l.getD (H_ l c) default with As:=max (l.getD (H_ l c) default).As q},0)
def fx(l:List Df)(c q:Int):Bool:=Sj l c&&decide ((l.getD (H_ l c) default).As>=q)&&HE l
def Ok(a b:List Df):List Df×Int:=if(HE a&&HE b)=false then([],21)else(b.foldl (fun out x=>(Kv out x.Ap x.As).1) a,0)
structure Cc where
 out:List UInt8
 E6:Bool
 deriving DecidableEq,Inhabited
def H4(b:List UInt8)(w:Cc):Cc:=if(w.E6||decide (b.length>65536-w.out.length))=true then{w with E6:=true}else{w with out:=w.out++b}
def E2(v:Int)(w:Cc):Cc:=if w.E6=true then w else H4 (QZ v) w
def KU(l:List Int)(w:Cc):Cc:=l.foldl (fun w v=>E2 v w) w
def Gy(b:Bool)(w:Cc):Cc:=if w.E6=true then w else H4 [if b=true then 1 else 0] w
def KT(b:List UInt8)(w:Cc):Cc:=if w.E6=true then w else if b.length>65535 then{w with E6:=true}else H4 (RS b) w
def KD:List ByteArray->Cc->Cc
 |[],w=>w
 |s::r,w=>if s.size>65535 then{w with E6:=true}else KD r (KT s.data.toList w)
def MS{α:Type}(one:α->Cc->Cc):List α->Cc->Cc
 |[],w=>w
 |x::r,w=>if w.E6=true then w else MS one r (one x w)
def CH{α:Type}(one:α->Cc->Cc)(l:List α)(w:Cc):Cc:=if w.E6=true then w else if l.length>1024 then{w with E6:=true}else MS one l (H4 (GN l.length) w)
def Zv(o:FL)(w:Cc):Cc:=KU [o.B2,o.A6,o.Bc] (KD [o.Al,o.EL] (KU [o.Ca] w))
def Lq(p:Fs)(w:Cc):Cc:=KU [p.Ap,p.As] (KD [p.A6,p.Bc] (KU [p.Ev,p.Hi,p.IX] w))
def PY(h:BD)(w:Cc):Cc:=KU [h.Bn,h.G0,h.DV,h.Fc] w
def I_(a:AD)(w:Cc):Cc:=KU [a.BG.Ap,a.BG.As,a.BG.DH,a.BG.B2] (CH PY a.A0 (KU [a.Cs.A6,a.Cs.Bc,a.BT,a.Cn] (KD [a.Al] w)))
def Kc(m:BL)(w:Cc):Cc:=KU [m.Cm.JM,m.Cm.JJ,m.Cm.JK] (KU [m.Cm.Jd] (Gy m.HV (KU [m.Ap,m.As] w)))
def KV(x:BX)(w:Cc):Cc:=Zv x.AM (KU [x.Ca,x.Ap,x.As,x.Bn,x.DH] w)
def LO(d:Bx)(w:Cc):Cc:=KU [d.B2,d.DN,d.DO,d.C3] (KD [d.Al,d.EL] (KU [d.Ap,d.As] w))
def Mq(e:Df)(w:Cc):Cc:=KU [e.Ap,e.As] w
def N7(s:Bv)(w:Cc):Cc:=
 KU [s.Jc,s.JL,s.GW] (KT s.Cf (Lq s.CW (Lq s.Bt (CH Mq s.CX (CH LO s.Bj (CH KV s.AA (CH Kc s.Bz (CH I_ s.Aj
  (KU [s.Dn] (KD [s.A6,s.Bc] (Gy s.Du (KU [s.CZ,s.DX] w))))))))))))
def IW(s:Bv):List UInt8×Int:=if(N7 s ⟨[],false⟩).E6=true then([],22)else((N7 s ⟨[],false⟩).out,0)
end Go.Apw
