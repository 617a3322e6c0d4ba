/- Part 6 of shardGiven_holds. -/
import Derived.ProofKit
import Derived.Deep.Slices
import Derived.OpenShut
import Derived.Carry
import Derived.Laws.Small
import Derived.Test.YtalfaopffbkdnabGreatRows
import Derived.OrdersIn
import Derived.RangeFuncNested
import Derived.RangeFuncLeaves
import Derived.Test.YtalfaopffbkdnabGreatStm5

set_option maxRecDepth 20000
set_option maxHeartbeats 1000000
namespace Go
theorem AB4:Go.Program.underlying Go.Proofs.Tryz.prog 24=some (Go.TypeDesc.slice 43):=@Go.Proofs.Tryz.underlying24
theorem ACa:Go.Program.underlying Go.Proofs.Tryz.prog 25=some (Go.TypeDesc.slice 94):=@Go.Proofs.Tryz.underlying25
theorem ACi:Go.Program.underlying Go.Proofs.Tryz.prog 26=some (Go.TypeDesc.slice 86):=@Go.Proofs.Tryz.underlying26
theorem AC4:Go.Program.underlying Go.Proofs.Tryz.prog 28=some (Go.TypeDesc.slice 101):=@Go.Proofs.Tryz.underlying28
theorem ABc:Go.Program.underlying Go.Proofs.Tryz.prog 3=some (Go.TypeDesc.int Go.IntKind.i64):=@Go.Proofs.Tryz.underlying3
theorem ABn:∀{α:Type _} {a:α} {l:List α} {f:α→Bool},List.all (a::l) f=(f a&&List.all l f):=@List.all_cons
theorem ACA:∀{α:Type _} {xs:List α} {i:Nat},(List.toArray xs)[i]? =xs[i]?:=@List.getElem?_toArray
theorem ADd:∀{α:Type _} {l:List α},List.length l=0↔l=[]:=@List.length_eq_zero_iff
theorem ACB:∀{α:Type _} {l:List α},List.take (List.length l) l=l:=@List.take_length
theorem ACo:∀{n m:Nat},n=m→n≤m:=@Nat.le_of_eq
theorem ABM:∀{p:Prop} [Decidable p],¬p→decide p=false:=@decide_eq_false
theorem ABG:∀{p:Prop} [Decidable p],p→decide p=true:=@decide_eq_true
end Go
open Bool renaming false_or→ACZ
open Classical renaming byContradiction→AEj
open Go renaming cell_of_row→AB9
open Go.Addr renaming add_mid→ACm
open Go.Proofs.Tryz renaming underlying33→ACR,underlying43→AJF,underlying47→AJD,underlying58→AJE,underlying9→ABO
open Go.Value.slice renaming injEq→ADw
open List renaming all_eq_true→ABq,append_nil→AB7,getElem?_cons_zero→ABV,getElem?_set_ne→ACT,length_cons→ABv,length_range→AJM,length_set→ABj,mem_append_left→AC9,mem_filter→ABZ,sum_cons→ADr
open List.cons renaming injEq→ACj
open Nat renaming eq_of_beq_eq_true→ACI
open Option.some renaming injEq→ABX
open Prod.mk renaming injEq→ACg
open Go.Apw Go.Proofs Go.Proofs.YtalfaopffbkdnabGreat Go.A_
namespace Go.A_
section
theorem SL{c:List Value}{offs:List Nat}(h:offs.map (fun o=>c[o]?)=offs.map fun _=>some (.int .i64 0)):gQ c offs:=fun o A7=>List.map_inj_left.1 h o A7
theorem vr{c:List Value}{offs:List Nat}(h:offs.map (fun o=>c[o]?)=offs.map fun _=>some (.string ByteArray.empty)):gR c offs:=fun o A7=>List.map_inj_left.1 h o A7
@[reducible] def XB(l:List Oper)(L dm:Own)(vs:List (Nat×Value))(b:Nat)(offs:List Nat):Iq:=
 ⟨GF l,fun _ _=>True,fun i u=>bif Nat.beq i (l.length-2)then[⟨u,NW b offs⟩]else[],Ex vs,fun h _=>match h with
  |[]=>L
  |_=>dm,[l.length-1],[[],[l.length-1]]⟩
def b9(B1:List (Nat×List Nat))(l:List Oper)(env:Env)(vs:List (Nat×Value)):List Oper->Nat->List (Option Value)
 |[],_=>[]
 |o::r,i=>(match o with
  |⟨some _,op,_,_,_,none⟩=>By B1 (Eo l (EC (Ex vs) fun _=>undef) (GF l i)++env) op
  |_=>none)::b9 B1 l env vs r (i+1)
def Xp(vs:List (Nat×Value)):List Oper->Nat->List (Option Value)
 |[],_=>[]
 |_::r,i=>Ex vs i::Xp vs r (i+1)
section
variable{c:Cj} {l:List Oper} {env:Env} {L dm:Own} {D:List Atom} {vs:List (Nat×Value)} {b:Nat} {offs:List Nat}
theorem sh{B1:List (Nat×List Nat)}:∀{r:List Oper} {i:Nat},b9 B1 l env vs r i=Xp vs r i->(Xp vs r i).all (·.isSome)=true->∀k o,r[k]? =some o->∃d op t p af u,o=⟨some d,op,t,p,af,none⟩/\Ex vs (i+k)=some u/\By B1 (Eo l (EC (Ex vs) fun _=>undef) (GF l (i+k))++env) op=some u
 |[],_,_,_,_,_,h=>by simp at h
 |o::r,i,h,AK,0,Lg,Bw=>by
  simp only[ABV,ABX]at Bw;subst Bw;simp only[b9,Xp,ACj,ABn,ABb]at h AK;obtain⟨u,hu⟩:=ACC.1 AK.1;have Af:=h.1;rw[hu]at Af;split at Af
  · exact⟨_,_,_,_,_,u,rfl,hu,Af⟩
  · cases Af
 |o::r,i,h,AK,k+1,Lg,Bw=>by
  simp only[ABC]at Bw;simp only[b9,Xp,ACj,ABn,ABb]at h AK;have:=sh (i:=i+1) h.2 AK.2 k Lg Bw
  rwa [show i+1+k=i+(k+1)by omega]at this
theorem y9{V:Nat->Value}{m:Nat}(AE:∀k,k<m->(CN l k).isSome=true->(Ex vs k).isSome=true){is:List Nat}(Ag:∀k∈is,k<m):Eo l (EC (Ex vs) V) is=Eo l (EC (Ex vs) fun _=>undef) is:=UC fun k J_ AJ=>by
 obtain⟨v,BC⟩:=ACC.1 (AE k (Ag k J_) AJ);simp[EC,BC]
theorem aC{g:Nat->Value}:∀offs:List Nat,(offs.map fun o=>[g o]).flatten=offs.map g
 |[]=>rfl
 |_::r=>by rw[AB8,List.flatten_cons,aC r];rfl
theorem m0{s:Iq}:∀{r:List Oper} {i:Nat},(∀k o,r[k]? =some o->∀(V:Nat->Value) (Az:List Atom),E7 (fun h=>Cb (Nf c l s (D++Az) (i+k) h (h.map V)) c l.toArray [o] (Eo l (EC s.Eb V) (s.E8 (i+k))++env) (s.L h (h.map V)) (FM s.rs (EC s.Eb V) (s.E8 (i+k))++(D++Az))) (Ro l s (i+k)))->OG c l s env D r i
 |[],_,_=>trivial
 |o::r,i,h=>⟨fun V Az _=>h 0 o rfl V Az,m0 fun k Lg AE=>by
  have:=h (k+1) Lg (by simpa using AE)
  rwa [show i+(k+1)=i+1+k by omega]at this⟩
theorem yA{i k:Nat}(h:ND l=true)(AE:k∈GF l i):k<i:=by
 unfold GF at AE;split at AE
 · rename_i o A7;obtain⟨e,he,rfl⟩:=AB6.1 AE;obtain⟨Af,h2⟩:=ABZ.1 he;simp only[ABb]at h2;have Ee:i<l.length:=(ABF.1 A7).1;have Aq:=ABq.1 h i (ABw.2 Ee);rw[A7]at Aq;have:=ABq.1 Aq e Af;rw[h2.1.1]at this;exact EU (by simpa using this)
 · cases AE
theorem MM[Cr:J7 c.P]{Q:AuE}{id:Nat}(b:Nat)(offs ix:List Nat){f:FuncId}{sy:Value}{L0 DM Lr:Own}{DB:Value->List Atom}{T vC bytes d1 d2:Nat}{t1 t2:TypeId}{Rn WY:String}{wT wU:Array Edge}{b':List (Nat×Operand)}{xs:List Operand}{ats:Array TypeId}{E:Env}{DZ:Own}{S':List (Nat×VA)}
 (Bm:∀u,Aw c.P f [sy,u] L0 (DB u) (fun(_:Unit) _=>True) (fun _ _=>DM) fun _ _=>[])(CM:GU c.P f)(Av:EH c.P T vC 1 bytes)
 (AN:(l.drop (l.length-2),L)=([⟨some d1,.buildSlice T offs.length b'.toArray,t1,Rn,wT,none⟩,⟨some d2,.call ⟨.value (.func f),xs.toArray,ats⟩,t2,WY,wU,none⟩],L0++Lr))
 (_:(hO l env fun e=>cu Cr.B1 Cr.os Cr.rs ([]:List (Nat×Oa c.P)) l.toArray (l.take (l.length-2)) 0 L [] [] e)=some (vs,S',DZ,E))
 (pt:(Pv l (Gv l env)&&ND l&&LX l c.n&&OL l (XB l L (DM++Lr) vs b offs)&&(Xp vs (l.take (l.length-2)) 0).all (·.isSome)&&Nat.ble 1 offs.length&&Nat.ble offs.length 1000,b9 Cr.B1 l (Gv l env) vs (l.take (l.length-2)) 0,(GF l (l.length-1)).contains (l.length-2),Gq (Eo l (EC (Ex vs) fun _=>undef) (GF l (l.length-2))++Gv l env) (b'.map (·.2)),partsOf (b'.map (·.2)),Ex vs (l.length-2),Ex vs (l.length-1),UD l vs (List.range l.length).reverse++Gv l env)
  =(true,Xp vs (l.take (l.length-2)) 0,true,some (offs.map fun o=>.pointer (some ⟨b,o,none⟩)),b',none,none,E))
 (LC:∀V:Nat->Value,(Gq (Eo l (EC (Ex vs) V) (GF l (l.length-1))++Gv l env) xs,(DB (V (l.length-2))).map some)=(some [sy,V (l.length-2)],ix.map fun i=>((⟨V (l.length-2),NW b offs⟩:Atom)::D)[i]?))
 (k:Eg c Q .normal E (DM++Lr) D):CF c (.region id l.toArray true) Q env L D:=by
 simp only[ACg,ABb]at AN pt LC;obtain⟨AN,rfl⟩:=AN;obtain⟨⟨⟨⟨⟨⟨⟨h2,C'⟩,EY⟩,BB⟩,C0⟩,eP⟩,pT⟩,Yv,Pz,I1,jA,Rh,jK,rfl⟩:=pt
 suffices hw:CF c (.region id l.toArray true) Q (Gv l env) (L0++Lr) D from fun a w f=>hw a w ⟨f.size,f.GV,fun i v Ag=>f.at_ i v (ah Ag)⟩
 generalize Gv l env=env at*;have hlen:l.length=(l.length-2)+2:=by
  have:=ABE List.length AN;simp at this;omega
 generalize pN:l.length-2=m at*;generalize Sd:l.length-1=Kq at*;obtain rfl:Kq=m+1:=AJv;have aE:l[m]? =(l.drop m)[0]? :=by simp
 have Hj:l[m+1]? =(l.drop m)[1]? :=by simp
 rw[AN]at aE Hj;simp only[ABV,ABC]at aE Hj;have p0:=sh Yv C0;have Md:∀k,k<m->(l.take m)[k]? =l[k]? :=fun k AE=>by rw[ACl,AA_ AE]
 have eN:∀k,k<m->(CN l k).isSome=true->(Ex vs k).isSome=true:=fun k AE _=>by
  obtain⟨d,op,t,p,af,u,_,hu,_⟩:=p0 k l[k] (by rw[Md k AE,ABs]);rw[AB0]at hu;rw[hu];rfl
 refine lh (XB l (L0++Lr) (DM++Lr) vs b offs) (fun _=>DM++Lr) Cr.fq (by
  simp only[fP,ABb];exact⟨⟨⟨⟨nY,h2⟩,C'⟩,EY⟩,BB⟩) rfl (E7.intro fun hh hm _=>?_) (m0 fun i o A7 V Az=>E7.intro fun hh hm=>?_) fun V _=>?_
 · have Af:=(ABZ.1 hm).2;cases hh with
   |nil=>simp at Af
   |cons x y=>rfl
 · rw[AB0]at hm ⊢;have Ag:i<l.length:=(ABF.1 A7).1;have jm:∀j,(XB l (L0++Lr) (DM++Lr) vs b offs).Eu.contains j=Nat.beq j (m+1):=fun j=>by
    show([l.length-1]:List Nat).contains j=_;rw[Sd];rw[ACy];simp[Nat.beq_eq]
   by_cases Sb:i=m+1
   · subst Sb;rw[Hj]at A7;injection A7 with A7;subst A7;have Ao:=gh EY Hj rfl;have AbJ:hh=[]:=by
      obtain⟨Af,Bo⟩:=ABZ.1 hm;simp only[ABb,ABk,ABe]at Bo;rcases Bo.1 with Bo|Bo
      · rw[jm]at Bo;simp at Bo
      · simp only[ABf,ABh,ABi]at Af;rcases Af with rfl|rfl
        · rfl
        · simp[Sd]at Bo
     subst AbJ;have Kp:(⟨V m,NW b offs⟩:Atom)∈FM (XB l (L0++Lr) (DM++Lr) vs b offs).rs (EC (Ex vs) V) (GF l (m+1)):=fp (s:=(XB l (L0++Lr) (DM++Lr) vs b offs).rs) (k:=m) (by simpa using Pz) (by
      show _∈(bif Nat.beq m (l.length-2)then _ else _);rw[show EC (Ex vs) V m=V m by simp[EC,Rh]];simp[pN])
     refine XY (Bm (V m)) CM (L:=L0++Lr) rfl (LC V).1 (fun a AK=>?_) Ao fun y v _=>nl (Ig (d:=d2) (u:=v) (by simp[CN,Hj]) (by simp[C1]) ?_ ?_ ?_ l1)
     · have Af:some a∈(DB (V m)).map some:=AB6.2 ⟨a,AK,rfl⟩;rw[(LC V).2]at Af;obtain⟨q,_,B'⟩:=AB6.1 Af;rcases ABf.1 (AA' B')with rfl|Af
       · exact ABm.2 (.inl Kp)
       · exact ABm.2 (.inr (ABm.2 (.inl Af)))
     · unfold Qp;rw[jm];simp
     · show(match Ex vs (m+1)with|some J4=>v=J4|none=>True);rw[jK];trivial
     · show Bg (bif Nat.beq (m+1) (l.length-2)then _ else _) _;rw[show Nat.beq (m+1) (l.length-2)=false from ACH _▸fun e=>by have:=ACI e;omega];exact Bg.nil
   · have FG:Nat.beq i (m+1)=false:=ACH _▸fun e=>Sb (ACI e);have LH:∀k∈GF l i,k<m:=fun k AE=>by have:=yA C' AE;omega
     have Ab:∀{DZ:Own} {u:Value},DZ=(XB l (L0++Lr) (DM++Lr) vs b offs).L hh (hh.map V)->DZ=Qp (XB l (L0++Lr) (DM++Lr) vs b offs) hh (hh.map V) i u:=fun e=>by
      unfold Qp;rw[jm,FG];exact e
     show Cb _ c l.toArray [o] (Eo l (EC (Ex vs) V) (GF l i)++env) _ _;rw[y9 eN LH];by_cases AbL:i=m
     · subst AbL;rw[aE]at A7;injection A7 with A7;subst A7;have Ao:=gh EY aE rfl;refine BH (xs:=b'.map (·.2)) I1 Av (by simp[List.all_map,Value.oneCell']) (by simpa using pT) (by cases offs with|nil=>simp at eP|cons=>rfl) (by simp) Ao jA fun KZ=>Q5 (NW b offs) (offs.map fun o=>[.pointer (some ⟨b,o,none⟩)]) (aC offs) (fun S w _=>Y5 S w _) (by rw[Y4];have:=ABy pT;omega) (nl (Ig (d:=d1) (u:=.slice (some ⟨KZ,0,none⟩) offs.length offs.length) (by simp[CN,aE]) (by simp[C1]) (Ab rfl) ?_ ?_ ?_))
       · show(match Ex vs i with|some J4=>_=J4|none=>True);rw[Rh];trivial
       · show Bg (bif Nat.beq i (l.length-2)then _ else _) _;rw[pN,show Nat.beq i i=true by simp];intro t Av;simp only[cond_true,ADe]at Av;subst Av;rw[Y4];exact ABx ..
       · intro t Av;exact ABR _ (ABm.2 (.inr Av))
     · have AbM:i<m:=AJv;obtain⟨d,op,t,p,af,u,rfl,hu,Yw⟩:=p0 i o (by rw[Md i AbM];exact A7);rw[AB0]at hu Yw;have Ao:=gh EY A7 rfl;refine cc Cr.okF Yw Ao (nl (Ig (d:=d) (u:=u) (by simp[CN,A7]) (by simp[C1]) (Ab rfl) ?_ ?_ l1))
       · show(match Ex vs i with|some J4=>u=J4|none=>True);rw[hu]
       · show Bg (bif Nat.beq i (l.length-2)then _ else _) _;rw[show Nat.beq i (l.length-2)=false from ACH _▸fun e=>by have:=ACI e;omega];exact Bg.nil
 · intro a w f st AR;refine k a w ⟨f.size,f.GV,fun i v Ag=>f.at_ i v ?_⟩ st (AR.sub fun t Av=>ABm.2 (.inr Av));exact y_ h2 Ag
end
end
def MU(P:Program)(T:TypeId){α:Type}(r:Be α):Prop:=
 ∀(H:Type) (enc:TypeId×Value->H) (w:World) (fuel:Nat) (cs:List Value) (x:DataW H×List MemPlace),DataW.trod enc P w 0 (fun _=>true) true fuel T cs=some x->∃a:α,r.rd (fun b=>b<w.heap.size) w cs a
theorem AfN{P:Program}{T:TypeId}(hu:P.underlying T=some (.int .i64)):MU P T E_:=by
 intro H enc w fuel cs x h;obtain⟨n,rfl,_,hw⟩:=DataW.trod_int hu h;refine⟨n,rfl,?_⟩;simp[Lit.wf,IntKind.min,IntKind.max,IntKind.signed,IntKind.bits]at hw;exact⟨AJv,AJv⟩
theorem AfO{P:Program}{T:TypeId}(hu:P.underlying T=some .string):MU P T Nl:=by
 intro H enc w fuel cs x h;obtain⟨s,rfl,_,hs⟩:=DataW.trod_string hu h;exact⟨s,rfl,by simpa only[maxLen]using hs⟩
theorem nT{w:World}{a:Addr}{n:Nat}{cs:List Value}(h:w.cells? 0 a n=some cs):cs.length=n/\∀j u,cs[j]? =some u->w.cell? (a.add j)=some u:=by
 unfold World.cells? at h;rw[AA_ (ABg _)]at h;have AN:cs.length=n:=by simpa using mapM_some_length h
 refine⟨AN,fun j u hu=>?_⟩;have Ay:j<n:=by rw[<-AN];exact(ABF.1 hu).1
 have Bm:=mapM_some_get h j j (by simp[Ay]);rw[hu]at Bm;exact Bm
theorem rV{P:Program}{T E:TypeId}{α:Type}{r:Be α}(hu:P.underlying T=some (.slice E))(hs:P.cellsOf E=r.size)(Bw:0<r.size)(Ge:MU P E r):MU P T (@FI α r):=by
 intro H enc w fuel cs x h;rcases Deep.open_slice hu h with⟨rfl,_⟩|⟨a,len,cap,m,n,D,wj,rfl,_,pJ,Wp,hm,_,Ag⟩
 · exact⟨[],none,0,rfl,ABW _,AJx,ABg _,fun h=>absurd rfl h⟩
 · have Anx:len<=m:=(by rw[hm];split<;>omega);have key:∀i,i<len->∃e:α,∃KH,w.cells? 0 (a.add (i*P.cellsOf E)) (P.cellsOf E)=some KH/\r.rd (fun b=>b<w.heap.size) w KH e:=by
    intro i C_;obtain⟨KH,Af,h2⟩:=Ag i AJv;obtain⟨e,he⟩:=Ge H enc w n KH _ h2;exact⟨e,KH,Af,he⟩
   have:∃xs:List α,xs.length=len/\∀i e,xs[i]? =some e->∃KH,w.cells? 0 (a.add (i*P.cellsOf E)) (P.cellsOf E)=some KH/\r.rd (fun b=>b<w.heap.size) w KH e:=by
    have gen:∀k,(∀i,i<k->∃e:α,∃KH,w.cells? 0 (a.add (i*P.cellsOf E)) (P.cellsOf E)=some KH/\r.rd (fun b=>b<w.heap.size) w KH e)->∃xs:List α,xs.length=k/\∀i e,xs[i]? =some e->∃KH,w.cells? 0 (a.add (i*P.cellsOf E)) (P.cellsOf E)=some KH/\r.rd (fun b=>b<w.heap.size) w KH e:=by
     intro k key;induction k with
     |zero=>exact⟨[],rfl,by simp⟩
     |succ k Cg=>
      obtain⟨xs,Af,h2⟩:=Cg fun i C_=>key i AJv;obtain⟨e,he⟩:=key k AJv;refine⟨xs++[e],by simp[Af],fun i IV Ag=>?_⟩;rw[List.getElem?_append]at Ag;split at Ag
      · exact h2 i IV Ag
      · rename_i aX;have:i=k:=by
         have:=(ABF.1 Ag).1;simp at this;omega
        subst this;simp[Af]at Ag;subst Ag;exact he
    exact gen len key
   obtain⟨xs,Sg,Ab⟩:=this;subst Sg;refine⟨xs,some a,cap,rfl,pJ,by simpa only[maxLen]using Wp,by simp only[maxLen]at Wp;omega,fun FG=>?_⟩;have WA:0<xs.length:=List.length_pos_iff.2 FG;obtain⟨KH,Af,h2⟩:=Ab 0 xs[0] (ABs WA);obtain⟨Qa,PB⟩:=nT Af;have Rd:=PB 0 KH[0] (ABs AJv);have WE:=World.cell?_spot Rd;obtain⟨b,o,spot⟩:=a;have Acg:spot=none:=(by simpa[Addr.add]using WE);subst Acg;have Aq:b<w.heap.size:=by
    unfold World.cell? at Rd;simp only[Addr.add]at Rd;split at Rd
    · rename_i hh;exact TD (by simpa using hh)
    · cases Rd
   refine⟨b,o,rfl,Aq,fun i e he=>?_⟩;obtain⟨yp,Hj,G1⟩:=Ab i e he;refine⟨yp,G1,fun j u hu=>?_⟩;have:=(nT Hj).2 j u hu;rw[hs,ACm,ACm]at this;exact this
open Go.ChangeShapes Go.WideShapes Go.RowKit
theorem l0{P:Program}{H:Type}{enc:TypeId×Value->H}{w:World}{fuel:Nat}{T:TypeId}{B1:Array Field}{cs:List Value}{x:DataW H×List MemPlace}
 (hu:P.underlying T=some (.struct B1))(h:DataW.trod enc P w 0 (fun _=>true) true fuel T cs=some x):cs.length=P.cellsOf T:=by
 obtain⟨xs,m,_,_,AN,_,_⟩:=DataW.trod_struct hu h;exact AN
theorem Js{P:Program}{H:Type}{enc:TypeId×Value->H}{w:World}{fuel:Nat}{T:TypeId}{B1:Array Field}{cs:List Value}{x:DataW H×List MemPlace}
 (hu:P.underlying T=some (.struct B1))(h:DataW.trod enc P w 0 (fun _=>true) true fuel T cs=some x){α:Type}{r:Be α}(i o n:Nat){hb:TypeId}
 (BI:B1[i]?.map (fun f=>(f.type,f.offset))=some (hb,o))(Ao:P.cellsOf hb=n)(Aa2:MU P hb r):∃a:α,r.rd (fun b=>b<w.heap.size) w ((cs.drop o).take n) a:=by
 obtain⟨xs,m,_,_,_,hlen,Ab⟩:=DataW.trod_struct hu h;cases PA:B1[i]? with
 |none=>rw[PA]at BI;cases BI
 |some f=>
  rw[PA]at BI;simp only[Option.map_some,ABX,ACg]at BI;obtain⟨rfl,rfl⟩:=BI;subst Ao;have Ag:i<xs.length:=(by rw[hlen];exact(AC_.1 PA).1);have:=Ab i f PA;rw[ABs Ag]at this;exact Aa2 H enc w m _ _ this
theorem w8{P:Program}{H:Type}{enc:TypeId×Value->H}{w:World}{T E:TypeId}{α:Type}{r:Be α}{v:Value}{d:DataW H}{ps:List MemPlace}{rc:Reach}{base:Nat}
 (hu:P.underlying T=some (.slice E))(Dk:MU P T (@FI α r))(BC:Value.okWide P w rc base T v)(h:DataW.Trod enc P w 0 (fun _=>true) true T v d ps):
 ∃l:List α,Atom.holds (@Atom.mk (List α) (@FI α r) v l) (Et [] w) w:=by
 obtain⟨fuel,BI⟩:=h;obtain⟨A,n,c,rfl⟩:=okWide_slice hu BC;obtain⟨l,AN⟩:=Dk H enc w fuel _ _ BI;refine⟨l,rfl,?_⟩;exact Be.DY (self:=@FI α r) AN (fun b Aq=>⟨Aq,by simp⟩) (fun _ _=>rfl)
theorem t'{H:Type}{enc:TypeId×Value->H}{P:Program}(AN:laidOutB P=true){W SY:World}(Ew:Below W.heap.size W SY):
 ∀(Zn:List TypeId) (vs:List Value) (Cx:List (DataW H)) (ps:List MemPlace),Zn.all (fun t=>P.readableRec t&&decide (t<P.types.size))=true->
  DataW.TrodAll enc P W 0 (fun _=>true) true Zn vs Cx ps->(∀x∈ps,x.block<W.heap.size)->DataW.TrodAll enc P SY 0 (fun b=>decide (b<W.heap.size)) true Zn vs Cx ps
 |[],vs,Cx,ps,_,h,_=>by
  obtain⟨rfl,rfl,rfl⟩:=trodAll_nil h;exact trodAll_mk0
 |t::Zn,vs,Cx,ps,Bh,h,C_=>by
  obtain⟨v,cV,d,ox,p,q,rfl,rfl,rfl,Af,h2⟩:=trodAll_cons h;simp only[ABn,ABb,ABa]at Bh;exact trodAll_cons_mk (Below.trod AN Bh.1.1 Bh.1.2 Af Ew (fun x Ab=>C_ x (AC9 _ Ab))) (t' AN Ew Zn cV ox q Bh.2 h2 (fun x Ab=>C_ x (List.mem_append_right _ Ab)))
theorem AhA{H:Type}{enc:TypeId×Value->H}{P:Program}{f:Func}{s:ChangeSpec}{W SY:World}{args:Array Value}{Cx:List (DataW H)}{before:List MemPlace}{T:TypeId}(AN:laidOutB P=true)
 (AH:f.params.toList.all (fun t=>P.readableRec t&&decide (t<P.types.size))=true)(EX:s.vars=[])(Bh:f.resultTypes= #[T])(LY:P.underlying T=some .bool)
 (Ko:s.fn H Cx={results:=[.lit (.bool true)],args:=Cx})(F5:DataW.Whole enc P f.params.toList s.vars false W args.toList Cx [] before)(Ew:Below W.heap.size W SY):
 s.post enc P f false true false false W args (.bool true) SY:=by
 have C_:∀x∈before,x.block<W.heap.size:=fun x Ab=>by simpa using F5.lt x Ab
 have iV:=F5;obtain⟨p,q,Cl,LC,rfl,AbI,OZ⟩:=iV;rw[EX]at LC;obtain⟨_,rfl⟩:=trodVars_none LC;refine⟨Cx,[],_,[],p,[],F5,?_,?_,?_,Ew.frame _,fun h=>by cases h⟩
 · rw[AB7,Ko,Bh];exact trodAll_mk1 (shut_bool LY true)
 · rw[AB7,Ko];exact t' AN Ew _ _ _ _ AH Cl (fun x Ab=>C_ x (AC9 _ Ab))
 · rw[AB7,Ko,EX];rfl
theorem Cv.post{H:Type}{enc:TypeId×Value->H}{P:Program}{f:FuncId}{fn:Func}{s:ChangeSpec}{W:World}{args:List Value}{DB:List Atom}{Cx:List (DataW H)}{before:List MemPlace}{T:TypeId}(AN:laidOutB P=true)
 (AH:fn.params.toList.all (fun t=>P.readableRec t&&decide (t<P.types.size))=true)(EX:s.vars=[])(Bh:fn.resultTypes= #[T])(LY:P.underlying T=some .bool)
 (Ko:s.fn H Cx={results:=[.lit (.bool true)],args:=Cx})(F5:DataW.Whole enc P fn.params.toList s.vars false W args Cx [] before)
 (h:Cv P f args DB (.bool true))(Cl:∀t∈DB,t.holds (Et [] W) W):
 Calls P f args.toArray W fun e SY=>∃v,e=.returned v/\s.post enc P fn false true false false W args.toArray v SY:=by
 refine QK.mono (h [] W (by simp[Own.J,Dt]) (by simp) (by simp) (by simpa[Own.J,Dt]using Cl)) ?_;rintro v AT ⟨Gg,_,rfl,_⟩;exact AhA AN AH EX Bh LY Ko (by simpa using F5) Gg.below
theorem O7{α:Type}{s:Shape α}{S:Nat->Prop}{w:World}{v:Value}{xs:List α}(h:Atom.holds (@Atom.mk (List α) (@FI α (Be.D5 s)) v xs) S w):∀x∈xs,s.wf x:=by
 intro x Ab;obtain⟨AK,A,Dc,EX,_,_,Bo,BB⟩:=h;obtain⟨b,o,_,_,Ag⟩:=BB (List.ne_nil_of_mem Ab);obtain⟨i,Jf,rfl⟩:=List.getElem_of_mem Ab;obtain⟨cs,Bm,_⟩:=Ag i _ (ABs Jf);obtain⟨_,_,_,hw⟩:=Bm;exact hw
theorem Hl{α:Type}[Inhabited α]{l:List α}{i:Nat}(h:i<l.length):l.getD i default∈l:=by
 have:l.getD i default=l[i]:=by simp[List.getD,ABs h]
 rw[this];exact ACF h
open Go.ChangeShapes Go.WideShapes Go.RowKit
theorem Jp{α:Type}(cs:List α)(o n m:Nat)(h:o+n=m):cs.drop o=(cs.drop o).take n++cs.drop m:=by
 subst h;rw[<-List.drop_drop,List.take_append_drop]
end Go.A_
namespace Go.Apw
@[reducible] noncomputable def AG:Program:=Tryz.prog
instance:J7 Tryz.prog where
 B1:=[(30,[0,1,2,3,4,5,6]),(33,[0,1,2,3,4,5,6,7,8,9,10,11,18,25,26,27,28]),(38,[0,1]),(41,[0,1,2,3]),(43,[0,1,3,4,5,6]),(47,[0,1,2,3,4,5]),(54,[0,1,2,3,4,5,6,7,8,9,10,11,17,24]),(58,[0,1,2,3]),(60,[0,1,2,3]),(63,[0,1,2,3]),(76,[0,29,30,31,32]),(86,[0,1,2,3,4,5]),(94,[0,1,2,3]),(98,[0,1,2,3,4,5,6,7]),(101,[0,1]),(114,[0,1]),(188,[0,1,2,3]),(249,[0,1,2])]
 os:=[2,3,4,5,9,24,25,26,27,28,31,39,49,50,72,74,171,185,191,195]
 rs:=[(30,7),(33,29),(38,2),(41,4),(43,10),(47,6),(54,25),(58,4),(60,7),(63,4),(86,11),(94,7),(98,8),(101,2),(114,2)]
 okF:=⟨⟨_,Tryz.underlying30,AJw⟩,⟨_,ACR,AJw⟩,⟨_,Tryz.underlying38,AJw⟩,⟨_,Tryz.underlying41,AJw⟩,⟨_,AJF,AJw⟩,⟨_,AJD,AJw⟩,⟨_,Tryz.underlying54,AJw⟩,⟨_,AJE,AJw⟩,⟨_,Tryz.underlying60,AJw⟩,⟨_,Tryz.underlying63,AJw⟩,⟨_,Tryz.underlying76,AJw⟩,⟨_,Tryz.underlying86,AJw⟩,⟨_,Tryz.underlying94,AJw⟩,⟨_,Tryz.underlying98,AJw⟩,⟨_,Tryz.underlying101,AJw⟩,⟨_,Tryz.underlying114,AJw⟩,⟨_,Tryz.underlying188,AJw⟩,⟨_,Tryz.underlying249,AJw⟩,trivial⟩
 Qq:=⟨⟨⟨_,Tryz.underlying2,rfl⟩,AJw⟩,⟨⟨_,ABc,rfl⟩,AJw⟩,⟨⟨_,Tryz.underlying4,rfl⟩,AJw⟩,⟨⟨_,Tryz.underlying5,rfl⟩,AJw⟩,⟨⟨_,ABO,rfl⟩,AJw⟩,⟨⟨_,AB4,rfl⟩,AJw⟩,⟨⟨_,ACa,rfl⟩,AJw⟩,⟨⟨_,ACi,rfl⟩,AJw⟩,⟨⟨_,Tryz.underlying27,rfl⟩,AJw⟩,⟨⟨_,AC4,rfl⟩,AJw⟩,⟨⟨_,Tryz.underlying31,rfl⟩,AJw⟩,⟨⟨_,Tryz.underlying39,rfl⟩,AJw⟩,⟨⟨_,Tryz.underlying49,rfl⟩,AJw⟩,⟨⟨_,Tryz.underlying50,rfl⟩,AJw⟩,⟨⟨_,Tryz.underlying72,rfl⟩,AJw⟩,⟨⟨_,Tryz.underlying74,rfl⟩,AJw⟩,⟨⟨_,Tryz.underlying171,rfl⟩,AJw⟩,⟨⟨_,Tryz.underlying185,rfl⟩,AJw⟩,⟨⟨_,Tryz.underlying191,rfl⟩,AJw⟩,⟨⟨_,Tryz.underlying195,rfl⟩,AJw⟩,trivial⟩
 b0:=⟨⟨⟨_,Tryz.underlying30,rfl⟩,AJw⟩,⟨⟨_,ACR,rfl⟩,AJw⟩,⟨⟨_,Tryz.underlying38,rfl⟩,AJw⟩,⟨⟨_,Tryz.underlying41,rfl⟩,AJw⟩,⟨⟨_,AJF,rfl⟩,AJw⟩,⟨⟨_,AJD,rfl⟩,AJw⟩,⟨⟨_,Tryz.underlying54,rfl⟩,AJw⟩,⟨⟨_,AJE,rfl⟩,AJw⟩,⟨⟨_,Tryz.underlying60,rfl⟩,AJw⟩,⟨⟨_,Tryz.underlying63,rfl⟩,AJw⟩,⟨⟨_,Tryz.underlying86,rfl⟩,AJw⟩,⟨⟨_,Tryz.underlying94,rfl⟩,AJw⟩,⟨⟨_,Tryz.underlying98,rfl⟩,AJw⟩,⟨⟨_,Tryz.underlying101,rfl⟩,AJw⟩,⟨⟨_,Tryz.underlying114,rfl⟩,AJw⟩,trivial⟩
 fq:=AJw
theorem BR{s i off:Nat}(h:aD (J7.B1 Tryz.prog) s i=some off):QD Tryz.prog s i off:=ic J7.okF h
theorem A2{s:Nat}(h:A7 (J7.os Tryz.prog) s=true):Nv Tryz.prog s:=a9 J7.Qq h
theorem At{s n:Nat}(h:ro (J7.rs Tryz.prog) s=some n):Oc Tryz.prog s n:=fR J7.b0 h
def j0:Nat:=2530769939778387013411698722238395131008610972055302883361993785328
def qN(P:Program)(f:Nat):Bool:=match P.funcs[f]? with
 |some fn=> !(fn.name== "runtime.NumGoroutine")&& !fn.body.isNone
 |none=>false
theorem Ac_:(List.range 221).all (fun f=>Nat.beq (Nat.land (Nat.shiftRight j0 f) 1) 0||qN Tryz.prog f)=true:=AJw
theorem Ar{f:Nat}(h:(Nat.blt f 221&&Nat.beq (Nat.land (Nat.shiftRight j0 f) 1) 1)=true):GU Tryz.prog f:=by
 rw[ABb]at h;have h2:=ABq.1 Ac_ f (ABw.2 (EU h.1));rw[show Nat.land (Nat.shiftRight j0 f) 1=1 from ACI h.2,show Nat.beq 1 0=false from rfl,ACZ,qN]at h2;split at h2
 · rename_i fn e;simp only[ABb,ABe]at h2;exact⟨⟨fn,e,h2.1,h2.2⟩⟩
 · cases h2
theorem Mw:Tryz.prog.cellsOf 3=1:=AJw
theorem MH:MU AG 3 E_:=AfN ABc
theorem Z7:Tryz.prog.cellsOf 9=1:=AJw
theorem b2:MU AG 9 Nl:=AfO ABO
theorem nR:Tryz.prog.cellsOf 47=6:=AJw
theorem AfF:MU AG 47 Ve:=by
 intro H enc w fuel cs x h;have AN:=l0 AJD h;rw[nR]at AN;obtain⟨Pl,Fb,BW⟩:=Js AJD h 0 0 1 rfl Mw MH;obtain⟨SJ,B4,Ua⟩:=Js AJD h 1 1 1 rfl Z7 b2;obtain⟨Ug,DC,Ub⟩:=Js AJD h 2 2 1 rfl Z7 b2;obtain⟨XA,Kk,Xs⟩:=Js AJD h 3 3 1 rfl Mw MH;obtain⟨c9,QX,RD⟩:=Js AJD h 4 4 1 rfl Mw MH;obtain⟨c_,QY,Ud⟩:=Js AJD h 5 5 1 rfl Mw MH;have Bw:cs=cs.drop 0:=rfl;rw[Jp cs 0 1 1 rfl,Fb,Jp cs 1 1 2 rfl,B4,Jp cs 2 1 3 rfl,DC,Jp cs 3 1 4 rfl,Kk,Jp cs 4 1 5 rfl,QX,Jp cs 5 1 6 rfl,QY,List.drop_eq_nil_of_le (ACo AN)]at Bw;exact⟨⟨Pl,SJ,Ug,XA,c9,c_⟩,(),Bw,by simp,BW,Ua,Ub,Xs,RD,Ud⟩
end Go.Apw
namespace Go.Proofs.YtalfaopffbkdnabGreat
open Go.A_ Go.Apw Go.ChangeShapes Go.WideShapes Go.ChangeAt Go.RowKit
theorem xN{H:Type}(d:DataW H):1<=Rows.uptoBulk d:=by
 cases d with
 |lit l=>cases l<;>simp[Rows.uptoBulk]
 |nil=>simp[Rows.uptoBulk]
 |ptr d=>simp[Rows.uptoBulk]
 |slice elems spare=>simp[Rows.uptoBulk]
 |agg parts=>simp[Rows.uptoBulk]
 |iface t d=>simp[Rows.uptoBulk]
 |map entries=>simp[Rows.uptoBulk]
 |held h=>simp[Rows.uptoBulk]
theorem xM{H:Type}(l:List (DataW H)):l.length<=Rows.uptoBulkAll l:=by
 induction l with
 |nil=>simp[Rows.uptoBulkAll]
 |cons x r Cg=>
  have:=xN x;simp only[Rows.uptoBulkAll,ABv];omega
theorem AdS{P:Program}{H:Type}{enc:TypeId×Value->H}{w:World}{T E:TypeId}{α:Type}{r:Be α}{v:Value}{d:DataW H}{ps:List MemPlace}{l:List α}{S:Nat->Prop}
  (hu:P.underlying T=some (.slice E))(h:DataW.Trod enc P w 0 (fun _=>true) true T v d ps)(AN:Atom.holds (@Atom.mk (List α) (@FI α r) v l) S w):l.length<=Rows.uptoBulk d:=by
 obtain⟨fuel,BI⟩:=h;obtain⟨AK,A,Dc,I0,_,_,_,BB⟩:=AN;rcases Deep.open_slice hu BI with⟨Bm,Ab⟩|⟨a,len,cap,m,n,D,wj,Bm,_,pJ,Wp,hm,Ab,Ag⟩
 ·
  have:=I0.symm.trans Bm;simp only[ACj,ADw,ACs]at this;have Bw:l.length=0:=this.2.1;omega
 ·
  have:=I0.symm.trans Bm;simp only[ACj,ADw,ACs]at this;have Bw:l.length=len:=this.2.1;simp only[ACg]at Ab;rw[Ab.1];have:=xM ((List.range len).map D);simp only[List.length_map,AJM]at this;simp only[Rows.uptoBulk];omega
end Go.Proofs.YtalfaopffbkdnabGreat
namespace Go.Apw
open Go.A_ Go.ChangeShapes Go.WideShapes Go.ChangeAt Go.RowKit Go.Proofs Go.Proofs.YtalfaopffbkdnabGreat
theorem AIR:MU AG 22 (@FI FL Ve):=rV Tryz.underlying22 nR AJx AfF
theorem Atw:MU AG 23 (@FI Int E_):=rV Tryz.underlying23 Mw AJx MH
structure ZS where
 Yb:AD
 CZ:Int
 deriving DecidableEq,Inhabited
def Di{α β:Type}(x:α×Bb)(f:α->Bb->β×Bb):β×Bb:=f x.1 x.2
theorem FY{α β:Type}{x:α×Bb}{f:α->Bb->β×Bb}{n:Nat}(h:x.2.pos<=n)(k:∀a s,s.pos<=n->(f a s).2.pos<=n):(Di x f).2.pos<=n:=k _ _ h
theorem FZ{α β:Type}{x:α×Bb}{f:α->Bb->β×Bb}{q:α->Prop}{p:β->Prop}(h:q x.1)(k:∀a s,q a->p (f a s).1):p (Di x f).1:=k _ _ h
theorem cq(J:List UInt8)(s:Bb):(⟨(Gm J 65535 s).1.toArray⟩:ByteArray).size<=9223372036854775807:=by
 show(Gm J 65535 s).1.toArray.size<=_;rw[List.size_toArray];have:=(l6 (J.drop s.pos) 65535).2.2;simp only[Gm,Lj,Bb.val];split
 · exact ABg _
 · split
   · exact ABg _
   · omega
theorem W9(J:List UInt8)(s:Bb):(DT J 1024 s).1<=1024:=by
 have:=(aa (J.drop s.pos) 1024).1;simp only[DT,Lj,Bb.val];split
 · omega
 · split
   · omega
   · omega
theorem sL{α:Type}{J:List UInt8}{rd:Bb->α×Bb}(h:∀s,s.pos<=J.length->(rd s).2.pos<=J.length):∀{n:Nat} {s:Bb},s.pos<=J.length->(GI rd n s).2.pos<=J.length
 |0,_,hs=>hs
 |n+1,s,hs=>by
  unfold GI;split
  · exact sL h (h _ hs)
  · exact hs
theorem Ij{α:Type}{J:List UInt8}{rd:Bb->α×Bb}{s:Bb}(h:∀s,s.pos<=J.length->(rd s).2.pos<=J.length)(hs:s.pos<=J.length):(CS J rd s).2.pos<=J.length:=sL h (W_ hs)
theorem Ah3{J:List UInt8}{m:Int}{s:Bb}(h:s.fault≠0):DT J m s=(0,s):=by
 have h2:(DT J m s).2=s:=fM (d:=0) (f:=fun l=>L9 l m) h;have Af:(DT J m s).1=0:=by
  simp only[DT,Lj,Bb.val];rw[AA_ h]
 exact Prod.ext Af h2
theorem Qw{α:Type}{J:List UInt8}{rd:Bb->α×Bb}{s:Bb}(h:s.fault≠0):CS J rd s=([],s):=by
 unfold CS;rw[Ah3 h];rfl
theorem Za{α:Type}{rd:Bb->α×Bb}{s:Bb}(h:s.fault≠0)(n:Nat):GI rd n s=([],s):=by
 cases n with
 |zero=>rfl
 |succ n=>unfold GI;rw[if_neg h]
theorem sJ{α:Type}{rd:Bb->α×Bb}{s:Bb}(h:s.fault=0)(n:Nat):GI rd (n+1) s=((rd s).1::(GI rd n (rd s).2).1,(GI rd n (rd s).2).2):=by
 rw[GI,AA_ h]
theorem Y'{α:Type}{rd:Bb->α×Bb}{s:Bb}{N i:Nat}{acc:List α}{R:List α×Bb}(Ag:i<N)(BI:s.fault=0)(he:R=(acc++(GI rd (N-i) s).1,(GI rd (N-i) s).2)):R=((acc++[(rd s).1])++(GI rd (N-(i+1)) (rd s).2).1,(GI rd (N-(i+1)) (rd s).2).2):=by
 rw[he,show N-i=(N-(i+1))+1 by omega,sJ BI];simp
theorem Zg{c:List Value}{o:Nat}{v:Value}(h:o<c.length):(c.set o v)[o]? =some v:=by simp[h]
theorem WJ{J:List UInt8}{x:Nat}:∀{offs:List Nat} {p:List Value×Bb},x∉offs->(CO J offs p).1[x]? =p.1[x]?
 |[],_,_=>rfl
 |o::r,p,h=>by
  rw[CO,WJ (fun Ab=>h (ABR _ Ab))];exact ACT (fun e=>h (by subst e;exact ABx ..))
theorem Xi{J:List UInt8}{x:Nat}:∀{offs:List Nat} {p:List Value×Bb},x∉offs->(Ea J offs p).1[x]? =p.1[x]?
 |[],_,_=>rfl
 |o::r,p,h=>by
  rw[Ea,Xi (fun Ab=>h (ABR _ Ab))];exact ACT (fun e=>h (by subst e;exact ABx ..))
def E9(J:List UInt8)(o:Nat)(p:List Value×Bb):List Value×Bb:=(p.1.set o (.bool (Kw J p.2).1),(Kw J p.2).2)
def C7{α:Type}(o:Nat)(y:Value)(rd:Bb->α×Bb)(p:List Value×Bb):List Value×Bb:=(p.1.set o y,(rd p.2).2)
def Hy(J:List UInt8)(o:Nat)(p:List Value×Bb):List Value×Bb:=CO J [o+3,o+4,o+5] (Ea J [o+1,o+2] (CO J [o] p))
def Ga(J:List UInt8)(o:Nat)(p:List Value×Bb):List Value×Bb:=CO J [o+5,o+6] (Ea J [o+3,o+4] (CO J [o,o+1,o+2] p))
theorem Ik{α:Type}{o:Nat}{y:Value}{rd:Bb->α×Bb}{p:List Value×Bb}{n:Nat}(h:(rd p.2).2.pos<=n):(C7 o y rd p).2.pos<=n:=h
theorem Pw{J:List UInt8}{o:Nat}{p:List Value×Bb}(h:p.2.pos<=J.length):(E9 J o p).2.pos<=J.length:=sI h
theorem b_{J:List UInt8}{o:Nat}{p:List Value×Bb}(h:p.2.pos<=J.length):(Ga J o p).2.pos<=J.length:=Hw (MP (Hw h))
def UO(J:List UInt8)(s:Bb):GC×Bb:=
 Di (D6 J s) fun He s1=>
 Di (D6 J s1) fun DP s2=>
 ({A6:=He,Bc:=DP},s2)
theorem Aae{J:List UInt8}{s:Bb}(h:s.pos<=J.length):(UO J s).2.pos<=J.length:=by
 exact FY (Hb h) fun _ _ h=>FY (Hb h) fun _ _ h=>h
theorem Aaf(J:List UInt8)(s:Bb):(UO J s).1.wf:=by
 exact FZ (q:=A') (HL _ _) fun _ _ Bw=>FZ (q:=A') (HL _ _) fun _ _ Af=>⟨Bw,Af⟩
def UM(J:List UInt8)(s:Bb):F_×Bb:=
 Di (D6 J s) fun He s1=>
 Di (D6 J s1) fun DP s2=>
 Di (D6 J s2) fun EK IK=>
 Di (D6 J IK) fun FR Jy=>
 ({Ap:=He,As:=DP,DH:=EK,B2:=FR},Jy)
theorem z'{J:List UInt8}{s:Bb}(h:s.pos<=J.length):(UM J s).2.pos<=J.length:=by
 exact FY (Hb h) fun _ _ h=>FY (Hb h) fun _ _ h=>FY (Hb h) fun _ _ h=>FY (Hb h) fun _ _ h=>h
theorem Aaa(J:List UInt8)(s:Bb):(UM J s).1.wf:=by
 exact FZ (q:=A') (HL _ _) fun _ _ Bw=>FZ (q:=A') (HL _ _) fun _ _ Af=>FZ (q:=A') (HL _ _) fun _ _ h2=>FZ (q:=A') (HL _ _) fun _ _ Bo=>⟨Bw,Af,h2,Bo⟩
def Iu(J:List UInt8)(s:Bb):BD×Bb:=
 Di (D6 J s) fun He s1=>
 Di (D6 J s1) fun DP s2=>
 Di (D6 J s2) fun EK IK=>
 Di (D6 J IK) fun FR Jy=>
 ({Bn:=He,G0:=DP,DV:=EK,Fc:=FR},Jy)
theorem ik{J:List UInt8}{s:Bb}(h:s.pos<=J.length):(Iu J s).2.pos<=J.length:=by
 exact FY (Hb h) fun _ _ h=>FY (Hb h) fun _ _ h=>FY (Hb h) fun _ _ h=>FY (Hb h) fun _ _ h=>h
theorem z_(J:List UInt8)(s:Bb):(Iu J s).1.wf:=by
 exact FZ (q:=A') (HL _ _) fun _ _ Bw=>FZ (q:=A') (HL _ _) fun _ _ Af=>FZ (q:=A') (HL _ _) fun _ _ h2=>FZ (q:=A') (HL _ _) fun _ _ Bo=>⟨Bw,Af,h2,Bo⟩
def UL(J:List UInt8)(s:Bb):De×Bb:=
 Di (D6 J s) fun He s1=>
 Di (D6 J s1) fun DP s2=>
 Di (D6 J s2) fun EK IK=>
 Di (D6 J IK) fun FR Jy=>
 ({Jd:=He,JM:=DP,JJ:=EK,JK:=FR},Jy)
theorem z3{J:List UInt8}{s:Bb}(h:s.pos<=J.length):(UL J s).2.pos<=J.length:=by
 exact FY (Hb h) fun _ _ h=>FY (Hb h) fun _ _ h=>FY (Hb h) fun _ _ h=>FY (Hb h) fun _ _ h=>h
theorem z4(J:List UInt8)(s:Bb):(UL J s).1.wf:=by
 exact FZ (q:=A') (HL _ _) fun _ _ Bw=>FZ (q:=A') (HL _ _) fun _ _ Af=>FZ (q:=A') (HL _ _) fun _ _ h2=>FZ (q:=A') (HL _ _) fun _ _ Bo=>⟨Bw,Af,h2,Bo⟩
def Wc(J:List UInt8)(s:Bb):FL×Bb:=
 Di (D6 J s) fun He s1=>
 Di (Gm J 65535 s1) fun DP s2=>
 Di (Gm J 65535 s2) fun EK IK=>
 Di (D6 J IK) fun FR Jy=>
 Di (D6 J Jy) fun Iz Rw=>
 Di (D6 J Rw) fun Lv Rx=>
 ({Ca:=He,Al:=⟨DP.toArray⟩,EL:=⟨EK.toArray⟩,B2:=FR,A6:=Iz,Bc:=Lv},Rx)
theorem Aac{J:List UInt8}{s:Bb}(h:s.pos<=J.length):(Wc J s).2.pos<=J.length:=by
 exact FY (Hb h) fun _ _ h=>FY (Vf h) fun _ _ h=>FY (Vf h) fun _ _ h=>FY (Hb h) fun _ _ h=>FY (Hb h) fun _ _ h=>FY (Hb h) fun _ _ h=>h
theorem Aad(J:List UInt8)(s:Bb):(Wc J s).1.wf:=by
 exact FZ (q:=A') (HL _ _) fun _ _ Bw=>FZ (q:=(fun l:List UInt8=>(⟨l.toArray⟩:ByteArray).size<=9223372036854775807)) (cq _ _) fun _ _ Af=>FZ (q:=(fun l:List UInt8=>(⟨l.toArray⟩:ByteArray).size<=9223372036854775807)) (cq _ _) fun _ _ h2=>FZ (q:=A') (HL _ _) fun _ _ Bo=>FZ (q:=A') (HL _ _) fun _ _ BB=>FZ (q:=A') (HL _ _) fun _ _ C'=>⟨Bw,Af,h2,Bo,BB,C'⟩
def L_(J:List UInt8)(s:Bb):Fs×Bb:=
 Di (D6 J s) fun He s1=>
 Di (D6 J s1) fun DP s2=>
 Di (D6 J s2) fun EK IK=>
 Di (Gm J 65535 IK) fun FR Jy=>
 Di (Gm J 65535 Jy) fun Iz Rw=>
 Di (D6 J Rw) fun Lv Rx=>
 Di (D6 J Rx) fun KY cv=>
 ({Ev:=He,Hi:=DP,IX:=EK,A6:=⟨FR.toArray⟩,Bc:=⟨Iz.toArray⟩,Ap:=Lv,As:=KY},cv)
def HF(J:List UInt8)(s:Bb):Df×Bb:=
 Di (D6 J s) fun He s1=>
 Di (D6 J s1) fun DP s2=>
 ({Ap:=He,As:=DP},s2)
theorem aF{J:List UInt8}{s:Bb}(h:s.pos<=J.length):(HF J s).2.pos<=J.length:=by
 exact FY (Hb h) fun _ _ h=>FY (Hb h) fun _ _ h=>h
theorem z8(J:List UInt8)(s:Bb):(HF J s).1.wf:=by
 exact FZ (q:=A') (HL _ _) fun _ _ Bw=>FZ (q:=A') (HL _ _) fun _ _ Af=>⟨Bw,Af⟩
def GG(J:List UInt8)(s:Bb):BL×Bb:=
 Di (D6 J s) fun He s1=>
 Di (D6 J s1) fun DP s2=>
 Di (Kw J s2) fun EK IK=>
 Di (UL J IK) fun FR Jy=>
 ({Ap:=He,As:=DP,HV:=EK,Cm:=FR},Jy)
theorem UN{J:List UInt8}{s:Bb}(h:s.pos<=J.length):(GG J s).2.pos<=J.length:=by
 exact FY (Hb h) fun _ _ h=>FY (Hb h) fun _ _ h=>FY (sI h) fun _ _ h=>FY (z3 h) fun _ _ h=>h
theorem o_(J:List UInt8)(s:Bb):(GG J s).1.wf:=by
 exact FZ (q:=A') (HL _ _) fun _ _ Bw=>FZ (q:=A') (HL _ _) fun _ _ Af=>FZ (q:=(fun _=>True)) (trivial) fun _ _ h2=>FZ (q:=De.wf) (z4 _ _) fun _ _ Bo=>⟨Bw,Af,h2,Bo⟩
def Hk(J:List UInt8)(s:Bb):Bx×Bb:=
 Di (D6 J s) fun He s1=>
 Di (D6 J s1) fun DP s2=>
 Di (Gm J 65535 s2) fun EK IK=>
 Di (Gm J 65535 IK) fun FR Jy=>
 Di (D6 J Jy) fun Iz Rw=>
 Di (D6 J Rw) fun Lv Rx=>
 Di (D6 J Rx) fun KY cv=>
 Di (D6 J cv) fun OH lu=>
 ({Ap:=He,As:=DP,Al:=⟨EK.toArray⟩,EL:=⟨FR.toArray⟩,B2:=Iz,DN:=Lv,DO:=KY,C3:=OH},lu)
theorem Ye{J:List UInt8}{s:Bb}(h:s.pos<=J.length):(Hk J s).2.pos<=J.length:=by
 exact FY (Hb h) fun _ _ h=>FY (Hb h) fun _ _ h=>FY (Vf h) fun _ _ h=>FY (Vf h) fun _ _ h=>FY (Hb h) fun _ _ h=>FY (Hb h) fun _ _ h=>FY (Hb h) fun _ _ h=>FY (Hb h) fun _ _ h=>h
theorem z6(J:List UInt8)(s:Bb):(Hk J s).1.wf:=by
 exact FZ (q:=A') (HL _ _) fun _ _ Bw=>FZ (q:=A') (HL _ _) fun _ _ Af=>FZ (q:=(fun l:List UInt8=>(⟨l.toArray⟩:ByteArray).size<=9223372036854775807)) (cq _ _) fun _ _ h2=>FZ (q:=(fun l:List UInt8=>(⟨l.toArray⟩:ByteArray).size<=9223372036854775807)) (cq _ _) fun _ _ Bo=>FZ (q:=A') (HL _ _) fun _ _ BB=>FZ (q:=A') (HL _ _) fun _ _ C'=>FZ (q:=A') (HL _ _) fun _ _ F4=>FZ (q:=A') (HL _ _) fun _ _ GY=>⟨Bw,Af,h2,Bo,BB,C',F4,GY⟩
def GX(J:List UInt8)(s:Bb):BX×Bb:=
 Di (D6 J s) fun He s1=>
 Di (D6 J s1) fun DP s2=>
 Di (D6 J s2) fun EK IK=>
 Di (D6 J IK) fun FR Jy=>
 Di (D6 J Jy) fun Iz Rw=>
 Di (Wc J Rw) fun Lv Rx=>
 ({Ca:=He,Ap:=DP,As:=EK,Bn:=FR,DH:=Iz,AM:=Lv},Rx)
theorem Wd{J:List UInt8}{s:Bb}(h:s.pos<=J.length):(GX J s).2.pos<=J.length:=by
 exact FY (Hb h) fun _ _ h=>FY (Hb h) fun _ _ h=>FY (Hb h) fun _ _ h=>FY (Hb h) fun _ _ h=>FY (Hb h) fun _ _ h=>FY (Aac h) fun _ _ h=>h
theorem Aar(J:List UInt8)(s:Bb):(GX J s).1.wf:=by
 exact FZ (q:=A') (HL _ _) fun _ _ Bw=>FZ (q:=A') (HL _ _) fun _ _ Af=>FZ (q:=A') (HL _ _) fun _ _ h2=>FZ (q:=A') (HL _ _) fun _ _ Bo=>FZ (q:=A') (HL _ _) fun _ _ BB=>FZ (q:=FL.wf) (Aad _ _) fun _ _ C'=>⟨Bw,Af,h2,Bo,BB,C'⟩
def F2(J:List UInt8)(s:Bb):AD×Bb:=
 Di (Gm J 65535 s) fun He s1=>
 Di (UO J s1) fun DP s2=>
 Di (D6 J s2) fun EK IK=>
 Di (D6 J IK) fun FR Jy=>
 Di (CS J (Iu J) Jy) fun Iz Rw=>
 Di (UM J Rw) fun Lv Rx=>
 ({Al:=⟨He.toArray⟩,Cs:=DP,BT:=EK,Cn:=FR,A0:=Iz,BG:=Lv},Rx)
theorem Td{J:List UInt8}{s:Bb}(h:s.pos<=J.length):(F2 J s).2.pos<=J.length:=by
 exact FY (Vf h) fun _ _ h=>FY (Aae h) fun _ _ h=>FY (Hb h) fun _ _ h=>FY (Hb h) fun _ _ h=>FY (Ij (fun _ hh=>ik hh) h) fun _ _ h=>FY (z' h) fun _ _ h=>h
theorem o9(J:List UInt8)(s:Bb):(F2 J s).1.wf:=by
 exact FZ (q:=(fun l:List UInt8=>(⟨l.toArray⟩:ByteArray).size<=9223372036854775807)) (cq _ _) fun _ _ Bw=>FZ (q:=GC.wf) (Aaf _ _) fun _ _ Af=>FZ (q:=A') (HL _ _) fun _ _ h2=>FZ (q:=A') (HL _ _) fun _ _ Bo=>FZ (q:=(fun _=>True)) (trivial) fun _ _ BB=>FZ (q:=F_.wf) (Aaa _ _) fun _ _ C'=>⟨Bw,Af,h2,Bo,BB,C'⟩
def FC(J:List UInt8)(s:Bb):Bv×Bb:=
 Di (D6 J s) fun He s1=>
 Di (D6 J s1) fun DP s2=>
 Di (Kw J s2) fun EK IK=>
 Di (Gm J 65535 IK) fun FR Jy=>
 Di (Gm J 65535 Jy) fun Iz Rw=>
 Di (D6 J Rw) fun Lv Rx=>
 Di (CS J (F2 J) Rx) fun KY cv=>
 Di (CS J (GG J) cv) fun OH lu=>
 Di (CS J (GX J) lu) fun VN AiW=>
 Di (CS J (Hk J) AiW) fun wH AiQ=>
 Di (CS J (HF J) AiQ) fun wx s4=>
 Di (L_ J s4) fun wy s5=>
 Di (L_ J s5) fun wz AiR=>
 Di (Gm J 65535 AiR) fun hd AiS=>
 Di (D6 J AiS) fun wA AiT=>
 Di (D6 J AiT) fun wB AiU=>
 Di (D6 J AiU) fun wC AiV=>
 ({CZ:=He,DX:=DP,Du:=EK,A6:=⟨FR.toArray⟩,Bc:=⟨Iz.toArray⟩,Dn:=Lv,Aj:=KY,Bz:=OH,AA:=VN,Bj:=wH,CX:=wx,Bt:=wy,CW:=wz,Cf:=hd,Jc:=wA,JL:=wB,GW:=wC},AiV)
def IP:Bv:=({CZ:=0,DX:=0,Du:=false,A6:=ByteArray.empty,Bc:=ByteArray.empty,Dn:=0,Aj:=[],Bz:=[],AA:=[],Bj:=[],CX:=[],Bt:=({Ev:=0,Hi:=0,IX:=0,A6:=ByteArray.empty,Bc:=ByteArray.empty,Ap:=0,As:=0}:Fs),CW:=({Ev:=0,Hi:=0,IX:=0,A6:=ByteArray.empty,Bc:=ByteArray.empty,Ap:=0,As:=0}:Fs),Cf:=[],Jc:=0,JL:=0,GW:=0}:Bv)
theorem dd:IP.wf:=⟨⟨AJx,AJx⟩,⟨AJx,AJx⟩,trivial,AJx,AJx,⟨AJx,AJx⟩,trivial,trivial,trivial,trivial,trivial,⟨⟨AJx,AJx⟩,⟨AJx,AJx⟩,⟨AJx,AJx⟩,AJx,AJx,⟨AJx,AJx⟩,⟨AJx,AJx⟩⟩,⟨⟨AJx,AJx⟩,⟨AJx,AJx⟩,⟨AJx,AJx⟩,AJx,AJx,⟨AJx,AJx⟩,⟨AJx,AJx⟩⟩,trivial,⟨AJx,AJx⟩,⟨AJx,AJx⟩,⟨AJx,AJx⟩⟩
def Lm(b:List UInt8):Bv:=if 65536<b.length then IP else(FC b ⟨0,0⟩).1
def NF(b:List UInt8):Int:=if 65536<b.length then 22 else Q0 b (FC b ⟨0,0⟩).2
def Er(b:List UInt8):Bv×Int:=if NF b≠0 then(IP,NF b)else(Lm b,0)
theorem lY{b:List UInt8}(h:65536<b.length):Lm b=IP:=AA_ h
theorem gn{b:List UInt8}(h:¬65536<b.length):Lm b=(FC b ⟨0,0⟩).1:=AA9 h
theorem zn{b:List UInt8}(h:65536<b.length):NF b=22:=AA_ h
theorem oM{b:List UInt8}(h:¬65536<b.length):NF b=Q0 b (FC b ⟨0,0⟩).2:=AA9 h
theorem k8{b:List UInt8}(h:NF b≠0):Er b=(IP,NF b):=AA_ h
theorem fN{b:List UInt8}(h:NF b=0):Er b=(Lm b,0):=AA9 (not_not_intro h)
def Zj(s:Bv):Bool:= !Ih s.CZ|| !X1 [s.DX,s.Dn,s.Jc,s.JL,s.GW]|| !YZ s|| !VP s
def Zk(s:Bv):Bool:= !decide (IA (Fg s.Bz)=0)|| !decide (IA (Is s.Bj)=0)|| !decide (IA (HE s.CX)=0)||decide ((s.AA.length:Int)>8)
def Xe(s:Bv):Bool:=(!decide (s.Bt=⟨0,0,0,ByteArray.empty,ByteArray.empty,0,0⟩))&&(!LK s.Bt|| !decide (s.Bt.Hi=s.CZ)|| !decide (s.Bt.Bc=s.Bc)|| !F' s s.Bt.A6)
def lW(s:Bv):Bool:=LK s.CW&&decide (s.CW.Hi=s.CZ)&&decide ((Er s.Cf).2=0)
def gm(s:Bv):Bool:=allI s.AA.length (fun j=>Mr s (s.AA.getD j default))
def LN(s:Bv):Bool:=if Zj s=true then false else if Zk s=true then false else if gm s=true then(if Xe s=true then false else if decide (s.CW=⟨0,0,0,ByteArray.empty,ByteArray.empty,0,0⟩)=true then decide ((s.Cf.length:Int)=0)else lW s)else false
structure wm where
 Bc:Int
 A6:Int
 deriving DecidableEq,Inhabited
@[reducible] def wide(S:Int):wm:=⟨S / 18446744073709551616,S % 18446744073709551616⟩
def mW(S:Int):Prop:= -1329227995784915872903807060280344576<=S/\S<=1329227995784915872903807060280344576
def gV(S:Int):Prop:= -1298074214633706907132624082305024<=S/\S<=1298074214633706907132624082305024
theorem gV.w{S:Int}(h:gV S):mW S:=by unfold gV at h;unfold mW;omega
def So(f:BD->Int)(b:Int)(l:List BD):Nat->List Int
 |0=>[b]
 |i+1=>So f b l i++[f (l.getD i default)]
theorem bC(f:BD->Int)(b:Int)(l:List BD):∀i,(So f b l i).length=i+1
 |0=>rfl
 |i+1=>by simp[So,bC f b l i]
theorem G3{α:Type}[Inhabited α]{l:List α}{i:Nat}(h:i<l.length):l.getD i default=l[i]:=by simp[List.getD,ABs h]
theorem j3(f:BD->Int)(b:Int)(l:List BD):∀i,i<=l.length->(So f b l i).sum=b+((l.take i).map f).sum
 |0,_=>by simp[So]
 |i+1,h=>by
  have Cg:=j3 f b l i AJv;rw[So,List.sum_append_int,Cg,List.take_add_one,ABs AJv,G3 AJv,List.map_append,List.sum_append_int];simp only[Option.toList_some,AB8,List.map_nil,ADr,List.sum_nil];omega
theorem sum_neg(f:BD->Int):∀l:List BD,(l.map fun h=> -f h).sum= -(l.map f).sum
 |[]=>rfl
 |h::r=>by
  simp only[AB8,ADr,sum_neg f r];omega
theorem AdN(a:AD):(So (fun h=>h.DV) a.BT a.A0 a.A0.length).sum=I7 a:=by
 rw[j3 _ _ _ _ (ABW _),ACB];rfl
theorem AdM(a:AD):(So (fun h=> -h.Fc) a.BT a.A0 a.A0.length).sum=IU a:=by
 rw[j3 _ _ _ _ (ABW _),ACB,sum_neg];show a.BT+ -(a.A0.map fun h=>h.Fc).sum=a.BT-(a.A0.map fun h=>h.Fc).sum;omega
theorem Wy{l:List BD}(hh:LI l=true){i:Nat}(Ag:i<l.length):Nh (fun k=>(l.getD k default).Bn) i<(l.getD i default).Bn/\(l.getD i default).Bn<=5/\1<=(l.getD i default).G0/\0<=(l.getD i default).DV/\0<=(l.getD i default).Fc:=by
 have h:=Nz.1 hh i Ag;simp only[eU,ABe,ABD,ABl]at h;omega
theorem jx{l:List BD}(hh:LI l=true):∀i,i<l.length->(i:Int)+1<=(l.getD i default).Bn
 |0,Ag=>by
  have:=(Wy hh Ag).1;simp only[Nh]at this;omega
 |i+1,Ag=>by
  have:=(Wy hh Ag).1;have Cg:=jx hh i AJv;simp only[Nh]at this;omega
theorem PC{l:List BD}(hh:LI l=true):l.length<=5:=by
 rcases Nat.eq_zero_or_pos l.length with h|h
 · omega
 · have Af:=jx hh (l.length-1) AJv;have h2:=(Wy hh (i:=l.length-1) AJv).2.1;omega
theorem W2{α:Type}[DecidableEq α]{x y:List α}(h:x.length≠y.length):decide (x=y)=false:=ABM (fun e=>h (by rw[e]))
theorem W1{α:Type}[DecidableEq α][Inhabited α]{x y:List α}(i:Nat)(h:x.getD i default≠y.getD i default):decide (x=y)=false:=ABM fun e=>h (by rw[e])
theorem W0{α:Type}[DecidableEq α][Inhabited α]{x y:List α}(AN:x.length=y.length)(h:∀j,j<x.length->x.getD j default=y.getD j default):decide (x=y)=true:=by
 refine ABG (List.ext_getElem AN fun i Af h2=>?_);have:=h i Af;simpa[List.getD,ABs Af,ABs h2]using this
theorem LU:A' 0:=⟨AJx,AJx⟩
def Fj:AD:=⟨ByteArray.empty,⟨0,0⟩,0,0,[],⟨0,0,0,0⟩⟩
def Sq(k:ByteArray):AD:=⟨if Ix k=true then k else ByteArray.empty,⟨0,0⟩,0,0,[],⟨0,0,0,0⟩⟩
theorem rI(k:ByteArray):(Sq k).wf:=by
 refine⟨?_,⟨LU,LU⟩,LU,LU,trivial,LU,LU,LU,LU⟩;show(if Ix k=true then k else ByteArray.empty).size<=_;split
 · rename_i h;simp only[Ix,ABb,ABa]at h;omega
 · decide
def kd(k:ByteArray):Int:=if Ix k=true then 0 else 1
def mV:FL:=⟨0,ByteArray.empty,ByteArray.empty,0,0,0⟩
theorem vF:A' 1:=⟨AJx,AJx⟩
theorem vw:Fs.wf ⟨0,0,0,ByteArray.empty,ByteArray.empty,0,0⟩:=⟨LU,LU,LU,AJx,AJx,LU,LU⟩
def F8(n:Int):Bv:=⟨if Ih n=true then n else 0,0,Ih n&&decide (n=1),ByteArray.empty,ByteArray.empty,if Ih n=true then(if n=1 then 1 else 0)else 0,[],[],[],[],[],⟨0,0,0,ByteArray.empty,ByteArray.empty,0,0⟩,⟨0,0,0,ByteArray.empty,ByteArray.empty,0,0⟩,[],0,0,0⟩
theorem Aeq{n:Int}(h:A' n):(F8 n).wf:=by
 refine⟨?_,LU,trivial,(by show ByteArray.empty.size<=_;decide),(by show ByteArray.empty.size<=_;decide),?_,trivial,trivial,trivial,trivial,trivial,vw,vw,trivial,LU,LU,LU⟩
 · show A' (if Ih n=true then n else 0);split
   · exact h
   · exact LU
 · show A' (if Ih n=true then(if n=1 then 1 else 0)else 0);split
   · split
     · exact vF
     · exact LU
   · exact LU
end Go.Apw
namespace Go.A_
section
theorem n6:∀(n:Nat) (f g:Nat->Bool) (i:Nat),i<n->f i=true->g i=false->(∀j,j≠i->g j=f j)->(List.range n).countP g+1=(List.range n).countP f
 |0,_,_,_,h,_,_,_=>by omega
 |n+1,f,g,i,Ag,BI,CK,he=>by
  rw[List.range_succ,List.countP_append,List.countP_append];by_cases h:i=n
  · subst h;have:(List.range i).countP g=(List.range i).countP f:=List.countP_congr fun j Ay=>by rw[he j (by have:=ABw.1 Ay;omega)]
    rw[this];simp[BI,CK]
  · have Cg:=n6 n f g i AJv BI CK he;have e:[n].countP g=[n].countP f:=(by simp only[List.countP_cons,List.countP_nil,he n (Ne.symm h)]);rw[e];omega
section
variable{c:Cj} {l:List Oper} {s:Iq} {env:Env} {D:List Atom} {Q:AuE}
def R'(AJ n:Nat):Array Bool:=((List.range n).map fun i=>decide (i<AJ)).toArray
theorem OG.Aj8{r:List Oper}{AJ:Nat}(h:OG c l s env D (r.take AJ) 0){i:Nat}(Ag:i<AJ){o:Oper}(A7:r[i]? =some o)(V:Nat->Value)(Az:List Atom)(LC:E7 (fun k=>s.Eb k=none->s.ok k (V k)) (s.E8 i)):
 E7 (fun h=>Cb (Nf c l s (D++Az) i h (h.map V)) c l.toArray [o] (Eo l (EC s.Eb V) (s.E8 i)++env) (s.L h (h.map V)) (FM s.rs (EC s.Eb V) (s.E8 i)++(D++Az))) (Ro l s i):=by
 have:=h.at_ i o (by rw[ACl,AA_ Ag];exact A7) V Az (by rw[AB0];exact LC)
 rwa [AB0]at this
theorem yS(C':ND l=true){k i:Nat}(h:Gp l k i=true):k<i:=by
 rcases ACq i l.length with Ee|Ee
 · have A7:l[i]? =some l[i]:=ABs Ee;obtain⟨e,he,Aq,rfl⟩:=(S9 A7).1 h;have M7:=ABq.1 C' i (ABw.2 Ee);rw[A7]at M7;have:=ABq.1 M7 e (AC3.2 he);rw[Aq]at this;exact EU (by simpa using this)
 · rw[Gp,ACd Ee]at h;cases h
theorem AhY(AJ:Nat)(s:Iq)(Yq:s.hs=[[]])(BB:OL l s=true)(C':ND l=true):(s.Eu.all fun x=>Nat.blt x AJ)=true/\E7 (fun h=>∀V:Nat->Value,s.L h (h.map V)=s.L [] []) (Q6 s):=by
 have he:∀x,x∈s.Eu->False:=by
  intro x;induction x using Nat.strongRecOn with
  |_ x Cg=>
   intro Ab;simp only[OL,ABb]at BB;have h:=BB.2;rw[Yq]at h;have h:=ABq.1 (ABq.1 h [] (ABx ..)) x Ab;simp only[List.contains_nil,Bool.or_false,ACZ,ABk,ABe,List.nil_append]at h;rcases h with h|h
   · obtain⟨y,Bf,Acz⟩:=List.all_eq_false.1 h;exact Cg y (yS C' (by simpa using Acz)) Bf
   · simp at h
 refine⟨ABq.2 fun x Ab=>(he x Ab).elim,?_⟩;rw[Q6,Yq];refine E7.intro fun h hh=>?_;have:=(ABZ.1 hh).1;simp only[ABf,ABh,ABi]at this;subst this;exact fun _=>rfl
theorem AbC(AJ:Nat)(s:Iq)(XJ:(Nat->Value)->Own)(Af:S6 l s.E8=true)(h2:(List.range AJ).all (fun i=>dI l env i)=true)(C':ND l=true)(EY:LX l c.n=true)(BB:OL l s=true)
 (LY:∀A8:Array Bool,(∀i k,A8.getD i false=true->Gp l k i=true->A8.getD k false=true)->∀i,AJ<=i->i<l.length->(∀k,Gp l k i=true->A8.getD k false=true)->∀k,k<AJ->A8.getD k false=true)
 (AbE:(s.Eu.all fun x=>Nat.blt x AJ)=true)(aY:AJ<=l.length){L:Own}(Dv:s.L [] []=L)(Ge:E7 (fun h=>∀V:Nat->Value,s.L h (h.map V)=XJ V) (Q6 s))(Dk:OG c l s env D (l.take AJ) 0)(A:Nat->Array Bool->Act->World->Prop)
 (Cl:∀f A8 a w,Region.ready .any l.toArray A8≠[]->(∀i∈Region.ready .any l.toArray A8,∀Q',wpOp c.P l.toArray Q' i (A f (A8.setIfInBounds i true)) a w)->A (f+1) A8 a w)
 (k:∀V:Nat->Value,E7 (fun i=>(CN l i).isSome=true->s.Eb i=none->s.ok i (V i)) (List.range AJ)->∀a w,Fr c.n a (Eo l (EC s.Eb V) (List.range AJ)++env)->CI c.BW c.M w (XJ V)->BP (FM s.rs (EC s.Eb V) ((List.range AJ).filter fun i=>(CN l i).isSome)++D) w (XJ V)->A (l.length-AJ) (R' AJ l.length) a w)
 {a:Act}{w:World}(f:Fr c.n a env)(st:CI c.BW c.M w L)(AR:BP D w L):A l.length (Array.replicate l.length false) a w.drew:=by
 subst Dv;have hs:=C8.drew [] w;have NS:Nu c l s env D (Array.replicate l.length false) a w.drew []:=by
  refine⟨f,st.step hs,AR.step hs.nil,by simp,fun i k h _=>?_,fun i d h _=>?_,fun x _=>?_,fun x Ab=>(by cases Ab),?_⟩
  · rw[Px]at h;cases h
  · rw[Px]at h;cases h
  · rw[Px];simp
  · simp only[OL,ABb]at BB;simpa using BB.1.1
 have key:∀(m:Nat) (A8:Array Bool) (a:Act) (w:World) (hh:List Nat),Nu c l s env D A8 a w hh->(∀i,AJ<=i->A8.getD i false=false)->(List.range AJ).countP (fun i=> !A8.getD i false)=m->
  A (m+(l.length-AJ)) A8 a w:=by
  intro m;induction m with
  |zero=>
   intro A8 a w hh Qn Av Bm;have C0:∀i,i<AJ->A8.getD i false=true:=fun i Ag=>by
    have:=List.countP_eq_zero.1 Bm i (ABw.2 Ag);simpa using this
   have heq:A8=R' AJ l.length:=by
    apply Array.ext
    · simp[Qn.size,R']
    · intro i Hj G1;have e:A8[i]=A8.getD i false:=(by simp[Hj]);rw[e];simp only[R',List.getElem_toArray,List.getElem_map,List.getElem_range];by_cases Ag:i<AJ
      · rw[C0 i Ag];simp[Ag]
      · rw[Av i AJv];simp[Ag]
   have BI:hh∈Q6 s:=ABZ.2 ⟨Qn.mem,ABq.2 fun x Ab=>by simpa using(Qn.done x Ab).1 (C0 x (EU (ABq.1 AbE x Ab)))⟩;have AH:=Ge.mem hh BI (valOf l a);have Gg:=Qn.st;have R_:=Qn.AR;have NM:=Qn.slot;rw[AH]at Gg R_ NM;subst heq;rw[AB0];have Se:∀k,k<AJ->(CN l k).isSome=true->s.Rm k (valOf l a k):=fun k AE F6=>by
    obtain⟨d,F6⟩:=ACC.1 F6;have:=(NM k d (C0 k AE) F6).1;simpa[valOf,Il,F6]using this
   have B4:Eo l (valOf l a) (List.range AJ)=Eo l (EC s.Eb (valOf l a)) (List.range AJ):=UC fun k AE F6=>bZ (Se k (ABw.1 AE) F6);have DC:FM s.rs (valOf l a) ((List.range AJ).filter fun i=>(CN l i).isSome)=FM s.rs (EC s.Eb (valOf l a)) ((List.range AJ).filter fun i=>(CN l i).isSome):=ZY fun k AE=>bZ (Se k (ABw.1 (ABZ.1 AE).1) (by simpa using(ABZ.1 AE).2));have AE:=k (valOf l a) (E7.intro fun i Ag F6 Ao=>ky (Se i (ABw.1 Ag) F6) Ao);rw[<-B4,<-DC]at AE;refine AE _ _ (Qn.frame EY fun k AE=>ACp (ABw.1 AE) aY) Gg (BP.app (fun t Av=>?_) R_);obtain⟨i,Ag,Av⟩:=WR Av;obtain⟨Tp,F6⟩:=ABZ.1 Ag;obtain⟨d,F6⟩:=ACC.1 F6;have:=(NM i d (C0 i (ABw.1 Tp)) F6).2;simp only[valOf,Il,F6]at Av;exact this t Av
  |succ m Cg=>
   intro A8 a w hh Qn Av Bm;rw[show m+1+(l.length-AJ)=(m+(l.length-AJ))+1 by omega];have hex:∃i,i<AJ/\A8.getD i false=false:=by
    refine AEj fun Ao=>?_;have:(List.range AJ).countP (fun i=> !A8.getD i false)=0:=List.countP_eq_zero.2 fun i Ag=>by
     simp only[ABe,AB_];refine AEj fun h=>Ao ⟨i,ABw.1 Ag,by simpa using h⟩
    omega
   refine Cl _ _ _ _ (fun Bh=>?_) (fun i Ag Q'=>?_)
   · exfalso;obtain⟨i0,OW,bh⟩:=hex;have C0:∀i,i<l.length->A8.getD i false=true:=by
      intro i;induction i using Nat.strongRecOn with
      |_ i AcC=>
       intro Ee;cases Tr:A8.getD i false with
       |true=>rfl
       |false=>
        exfalso;have:i∈Region.ready .any l.toArray A8:=by
         refine mem_ready.2 ⟨by rw[OQ (by rw[Qn.size];exact Ee)];exact Tr,l[i],by simp[ABs Ee],fun e he Aq=>?_⟩;have M7:=ABq.1 C' i (ABw.2 Ee);rw[ABs Ee]at M7;have:=ABq.1 M7 e (AC3.2 he);rw[Aq]at this;have C_:=EU (by simpa using this);exact AcC e.on C_ AJv
        rw[Bh]at this;cases this
     rw[C0 i0 AJv]at bh;cases bh
   · obtain⟨Ib,o,Wx,WB⟩:=mem_ready.1 Ag;have A7:l[i]? =some o:=(by simpa using Wx);have Ee:i<l.length:=(ABF.1 A7).1;have IE:i<A8.size:=(by rw[Qn.size];exact Ee);have Jg:A8.getD i false=false:=(by rw[<-OQ IE];exact Ib);have jo:i<AJ:=by
      rcases ACq i AJ with h|h
      · exact h
      · obtain⟨i0,OW,bh⟩:=hex;have:=LY A8 Qn.closed i h Ee (fun k AE=>by
         obtain⟨e,he,Aq,rfl⟩:=(S9 A7).1 AE;exact WB e he Aq) i0 OW
        rw[this]at bh;cases bh
     refine(Qn.tE (Q:=Q') Af (ABq.1 h2 i (ABw.2 jo)) BB EY Ag (fun Lg Qc V Az LC=>Dk.Aj8 jo Qc V Az LC) fun Dx AT DI WO=>?_);refine Cg _ Dx AT DI WO (fun j Ay=>?_) ?_
     · rw[Ia IE,Av j Ay];have:(i==j)=false:=(by simpa using(by omega:i≠j));rw[this];rfl
     · have C_:(List.range AJ).countP (fun k=> !(A8.setIfInBounds i true).getD k false)+1=(List.range AJ).countP (fun k=> !A8.getD k false):=by
        refine n6 AJ _ _ i jo (by rw[Jg];rfl) (by rw[Ia IE];simp) fun j Ay=>?_;rw[Ia IE];have:(i==j)=false:=(by simpa using Ne.symm Ay);rw[this];rfl
       omega
 have Ts:(List.range AJ).countP (fun i=> !(Array.replicate l.length false).getD i false)=AJ:=by
  rw[List.countP_eq_length_filter,List.filter_eq_self.2 fun i _=>by rw[Px];rfl,AJM]
 have:=key AJ _ a w.drew [] NS (fun i _=>Px _ _) Ts
 rwa [show AJ+(l.length-AJ)=l.length by omega]at this
end
end
open Go.RowKit
structure mZ (NT b:Nat) (A B:World):Prop where
 size:A.heap.size<=B.heap.size
 block:∀k,k<NT->k≠b->B.heap[k]? =A.heap[k]?
theorem Below.I3{NT b:Nat}{A B:World}(h:Below NT A B):mZ NT b A B:=⟨h.size,fun k AE _=>h.block k AE⟩
theorem C8.I3{NT b:Nat}{M:List Nat}{A B:World}(h:C8 M A B)(Ao:NT<=A.heap.size)(UU:∀k,k<NT->k∈M->k=b):mZ NT b A B:=
 ⟨h.size,fun k AE Aq=>h.block k (ACp AE Ao) (fun hm=>Aq (UU k AE hm))⟩
def mk(k:Nat):Deferred:={target:=.collected k,args:= #[]}
section
def JI:Value->Nat->Value
 | .slice (some a) _ _,o=>.pointer (some (a.add o))
 |_,_=>undef
theorem T0:∀(us cs:List Value) (o j:Nat),o+us.length<=cs.length->(MO cs o us)[j]? =if o<=j/\j<o+us.length then us[j-o]? else cs[j]?
 |[],cs,o,j,_=>by
  rw[MO,AA9 (by simp)]
 |u::us,cs,o,j,h=>by
  simp only[ABv]at h;rw[MO,T0 us (cs.set o u) (o+1) j (by simp;omega)];by_cases Af:o+1<=j/\j<o+1+us.length
  · rw[AA_ Af,AA_ (by simp only[ABv];omega),show j-o=(j-(o+1))+1 by omega];rfl
  · rw[AA9 Af];by_cases h2:j=o
    · subst h2;rw[AA_ (by simp),ACP AJv];simp
    · rw[AA9 (by simp only[ABv];omega),ACT (Ne.symm h2)]
theorem cE:∀(us cs:List Value) (o:Nat),(MO cs o us).length=cs.length
 |[],_,_=>rfl
 |_::us,cs,o=>by rw[MO,cE us];simp
theorem Vj{α:Type}[r:Be α]{S:Nat->Prop}{w:World}{e:TypeId}{v:Value}{xs:List α}(h:(row e v xs).holds S w)(Ab:xs≠[]):
 ∃(g cap:Nat) (cs:List Value) (Cy:List (List Value)),v=.slice (some ⟨g,0,none⟩) xs.length cap/\w.heap[g]? =some (.cells cs.toArray e (0,0))/\xs.length<=cap/\cap<=maxLen/\cs.length=cap*Be.size α/\cs.take (xs.length*Be.size α)=Cy.flatten/\HM S w Cy xs/\xs.length<=140737488355328:=by
 obtain⟨Cy,G8,Ep,AN⟩:=h;rcases G8.2 with⟨_,Ao⟩|⟨g,cap,cur,BC,_,CK,Bm,hm,hs,Av⟩
 · exact absurd (ADd.1 Ao) Ab
 · exact⟨g,cap,cur.toList,Cy,BC,by simpa using CK,Bm,hm,by simpa using hs,Av,Ep,AN⟩
theorem ct{w:World}{g:Nat}{e:TypeId}{cs RX:List Value}{k:Nat}(CK:w.heap[g]? =some (.cells cs.toArray e (0,0)))(Av:cs.take k=RX):Lt w g 0 RX:=fun j u Ay=>by
 subst Av;rw[ACl]at Ay;split at Ay
 · rw[AB9 w g _ _ e (0,0) CK];simpa using Ay
 · cases Ay
section
variable{c:Cj} {ops:Array Oper} {AP:Cj->Array Oper->List Oper->Env->Own->List Atom->Prop} [Dr:Ip AP] {env:Env} {L:Own} {D:List Atom} {rest:List Oper} {d:Nat} {v:Value} {t:TypeId} {p:String} {af:Array Edge} {x y z:Operand} {T:TypeId}
include Dr
theorem AcX{α:Type}{r:Be α}(i:Nat){xs:List α}{m:Int}{E e:TypeId}(Ab:AL env x=some v)(Ag:L[i]? =some (@row α r e v xs))(Bf:AL env y=some (.int .i64 m))(Av:H5 c.P T E r.size)(Bw:0<=m)(Af:m<(xs.length:Int))(Ao:Nat.blt d c.n=true)
 (k:AP c ops rest ((d,JI v (m.toNat*r.size))::env) L D):AP c ops (⟨some d,.indexAddr T x y,t,p,af,none⟩::rest) env L D:=
 Dr.read (σ:=Unit) rfl rfl (fun _=>(d,JI v (m.toNat*r.size))::env) (fun _=>D) (fun a w f st AR=>by
  obtain⟨g,cap,cs,Cy,rfl,_⟩:=@Vj α r _ _ _ _ _ (st.own _ (AA' Ag)) (by intro e;rw[e]at Af;simp at Af;omega);obtain⟨j,Ay,hs⟩:=Option.map_eq_some_iff.1 Av.2;refine⟨(),_,fun AT HW=>?_,f.put _ (EU Ao),AR⟩;simp[execOp,f.AL Ab,f.AL Bf,Instr.indexAt,asIntOf,ABQ Av.1,Bw,Af,sizeOf,typeInfo,Ay,hs,JI]) (fun _=>k)
theorem Qk{α:Type}{s:Shape α}(i m:Nat){xs:List α}{ov:α}{e:TypeId}(Ab:AL env x=some (JI v (m*s.size)))(Ag:L[i]? =some (@row α (Be.D5 s) e v xs))(hm:xs[m]? =some ov){E:TypeId}(Av:Oc c.P E s.size)(Ao:Nat.blt d c.n=true)
 (k:∀h,s.wf ov->AP c ops rest ((d,.agg (s.cells ov h).toArray)::env) L ((@Atom.mk α (Be.D5 s) (.agg (s.cells ov h).toArray) ov)::(s.sub ov h++D))):
 AP c ops (⟨some d,.load E x,t,p,af,none⟩::rest) env L D:=
 Dr.read (σ:={h // s.wf ov}) rfl rfl (fun h=>(d,.agg (s.cells ov h.1).toArray)::env) (fun h=>(@Atom.mk α (Be.D5 s) (.agg (s.cells ov h.1).toArray) ov)::(s.sub ov h.1++D)) (fun a w f st AR=>by
  have Hv:=AA' Ag;obtain⟨g,cap,cs,Cy,rfl,CK,_,_,_,Md,Ep,_⟩:=@Vj α (Be.D5 s) _ _ _ _ _ (st.own _ Hv) (by intro e;rw[e]at hm;simp at hm);obtain⟨Cx,⟨h,rfl,Lc,Oi⟩,AN⟩:=@PH α (Be.D5 s) _ _ _ Cy xs 0 Ep (ct CK Md) m ov hm;have P':g∈L.J:=FW.2 ⟨_,Hv,by simp[Value.ownBlock]⟩;refine⟨⟨h,Oi⟩,.agg (s.cells ov h).toArray,fun AT hs=>?_,f.put _ (EU Ao),BP.cons ⟨rfl,⟨h,by simp[Value.cells],Lc,Oi⟩⟩ (BP.app (fun t Av=>Lc t Av) AR)⟩;have Sc:Lt AT g (0+m*s.size) (s.cells ov h):=AN.DY (hs.block g (TD CK) (by simp));have Ek:=fU (P:=c.P) (T:=E) (b:=g) (o:=0+m*s.size) (cs:=s.cells ov h) (by rw[s.len];exact Av) Sc;have HX:=f.AL Ab;simp only[JI,ACm,AB0]at HX Ek;simp[execOp,HX,Ek]) (fun h=>k h.1 h.2)
end
section
variable{c:Cj} {ops:Array Oper} {Q:AuE} {env:Env} {L:Own} {D:List Atom} {rest:List Oper} {v:Value} {t:TypeId} {p:String} {af:Array Edge} {x y z:Operand}
theorem Qz{α:Type}{s:Shape α}(i m:Nat){xs:List α}{ov:α}{e:TypeId}(h:s.H)(Ab:AL env x=some (JI v (m*s.size)))(Bf:AL env y=some (.agg (s.cells ov h).toArray))(Ag:L[i]? =some (@row α (Be.D5 s) e v xs))(hm:m<xs.length){E:TypeId}(Av:Oc c.P E s.size)(Cl:Bg (s.sub ov h) D)(hw:s.wf ov)
 (k:Cb Q c ops rest env (L.set i (@row α (Be.D5 s) e v (xs.set m ov))) D):Cb Q c ops (⟨none,.store E x y,t,p,af,none⟩::rest) env L D:=by
 refine c6 (env':=env) rfl rfl (fun a w f st AR=>?_) k;have Hv:=AA' Ag;obtain⟨g,cap,cs,Cy,rfl,CK,Bm,Yt,EY,Md,Ep,hlen⟩:=@Vj α (Be.D5 s) _ _ _ _ _ (st.own _ Hv) (by intro e;rw[e]at hm;simp at hm);have Fy:@Be.size α (Be.D5 s)=s.size:=rfl;rw[Fy]at EY Md;obtain⟨us,I1⟩:∃us,us=s.cells ov h:=⟨_,rfl⟩;have e0:us.length=s.size:=by rw[I1];exact s.len ov h
 have P':g∈L.J:=FW.2 ⟨_,Hv,by simp[Value.ownBlock]⟩;have Sd:(m+1)*s.size<=cap*s.size:=ACw _ AJv;rw[ACX]at Sd;have Lc:∀t∈s.sub ov h,t.holds (Et L.J w) w:=fun t Av=>AR t (Cl t Av);have Ab7:us.toArray.all (·.oneCell')=true:=by
  rw[I1];simpa using s.one ov h Lc
 have hs:C8 [g] w (w.setCells g (m*s.size) us):=cG g us _ w;have Mc:=aU us cs (m*s.size) w CK;have EX:C8 (@row α (Be.D5 s) e (.slice (some ⟨g,0,none⟩) xs.length cap) xs).J w (w.setCells g (m*s.size) us):=hs.mono fun b Aq=>by simpa[Value.ownBlock]using Aq
 have UW:∀b,Et L.J w b->Et (Own.J (L.set i (@row α (Be.D5 s) e (.slice (some ⟨g,0,none⟩) xs.length cap) (xs.set m ov)))) (w.setCells g (m*s.size) us) b:=fun b Aq=>⟨ACp Aq.1 hs.size,fun Ab=>by
  rcases OK Ag b Ab with Af|Af
  · have:b=g:=(by simpa[Value.ownBlock]using Af);exact Aq.2 (this▸P')
  · exact Aq.2 Af⟩
 have UT:∀b,Et L.J w b->(w.setCells g (m*s.size) us).heap[b]? =w.heap[b]? :=fun b Aq=>hs.block b Aq.1 (fun Ab=>by
  have:b=g:=(by simpa using Ab);exact Aq.2 (this▸P'))
 have Gg:=st.KB (p':=@row α (Be.D5 s) e (.slice (some ⟨g,0,none⟩) xs.length cap) (xs.set m ov)) i Ag EX ?_ (by simp[Value.ownBlock]) (fun b Aq=>.inl Aq)
 · have R_:=AR.KB (p':=@row α (Be.D5 s) e (.slice (some ⟨g,0,none⟩) xs.length cap) (xs.set m ov)) i Ag EX (fun b Aq=>.inl Aq);refine⟨w.setCells g (m*s.size) us,?_,f.Su _,Gg,R_⟩;have Ek:=run_storeAt_mid (P:=c.P) w g (m*s.size) E us.toArray (fun j Ay=>by
    have J9:m*s.size+j<cs.length:=(by simp at Ay;omega);exact⟨by rw[AB9 w g _ _ e (0,0) CK];simp[ABs J9],frozen_of_row w g _ _ e CK⟩) (by rw[show us.toArray.size=s.size by simpa using e0];exact Av.2) Ab7
   have HX:=f.AL Ab;simp only[JI,ACm,AB0]at HX;have U6:=f.AL Bf;rw[<-I1]at U6;simp[execOp,HX,U6,Ek]
 · -- the row as it is now
   have a7:∀FV MT,(xs.set m ov)[FV]? =some MT->∃Cx,@Be.rd α (Be.D5 s) (Et (Own.J (L.set i (@row α (Be.D5 s) e (.slice (some ⟨g,0,none⟩) xs.length cap) (xs.set m ov)))) (w.setCells g (m*s.size) us)) (w.setCells g (m*s.size) us) Cx MT/\Lt (w.setCells g (m*s.size) us) g (0+(0+FV)*s.size) Cx:=by
    intro FV MT HX;by_cases Sb:FV=m
    · subst Sb;rw[ACP hm]at HX;have:MT=ov:=(by simpa using HX.symm);subst this;refine⟨us,⟨h,I1,fun t Av=>Atom.DY (Lc t Av) UW UT,hw⟩,fun j u Ay=>?_⟩;have J9:j<us.length:=(ABF.1 Ay).1;simp only[AB0];rw[AB9 _ g _ _ e (0,0) Mc,ACA,T0 us cs _ _ AJv,AA_ AJv,show FV*s.size+j-FV*s.size=j by omega];exact Ay
    · rw[ACT (Ne.symm Sb)]at HX;obtain⟨Cx,K',OT⟩:=@PH α (Be.D5 s) _ _ _ Cy xs 0 Ep (ct CK Md) FV MT HX;have LH:Cx.length=s.size:=@Be.len α (Be.D5 s) _ _ _ _ K';refine⟨Cx,@Be.DY α (Be.D5 s) _ _ _ _ _ _ K' UW UT,fun j u Ay=>?_⟩;have J9:j<Cx.length:=(ABF.1 Ay).1;have hold:=OT j u Ay;simp only[AB0]at hold ⊢;rw[AB9 w g _ _ e (0,0) CK,ACA]at hold;rw[AB9 _ g _ _ e (0,0) Mc,ACA,T0 us cs _ _ AJv,AA9 ?_]
      · exact hold
      · rcases Nat.lt_or_gt_of_ne Sb with C_|C_
        · have:=ACw s.size (show FV+1<=m by omega);rw[ACX]at this;omega
        · have:=ACw s.size (show m+1<=FV by omega);rw[ACX]at this;omega
   obtain⟨RP,NL,Sc⟩:=@cn α (Be.D5 s) _ _ g 0 (xs.set m ov) 0 a7;have FF:=@HM.len α (Be.D5 s) _ _ RP _ NL;rw[Fy,ABj]at FF;refine⟨RP,⟨by rw[ABj];exact FF,.inr ⟨g,cap,(MO cs (m*s.size) us).toArray,by rw[ABj],ABg _,Mc,by rw[ABj];exact Bm,Yt,(show(MO cs (m*s.size) us).toArray.size=cap*s.size by simpa[cE]using EY),?_⟩⟩,NL,by rw[ABj];exact hlen⟩;rw[ABj];show List.take (xs.length*s.size) _=RP.flatten;refine List.ext_getElem? fun j=>?_;by_cases Ay:j<xs.length*s.size
   · rw[ACl,AA_ Ay];have U2:j<RP.flatten.length:=(by rw[FF];exact Ay);have:=Sc j _ (ABs U2);rw[AB9 _ g _ _ e (0,0) Mc,ACA]at this;rw[ABs U2,<-this];simp
   · rw[ACd (by simp;omega),ACd AJv]
end
end
end Go.A_
