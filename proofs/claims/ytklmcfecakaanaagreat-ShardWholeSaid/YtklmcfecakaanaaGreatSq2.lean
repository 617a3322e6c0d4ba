/- Part 2 of shardWhole_holds. -/
import Derived.Deep.Quiet
import Derived.Maps.AppendAt
import Derived.Deep.AppendLies
import Derived.Laws.BytesArg
import Derived.Laws.IdiomStrings
import Derived.Laws.StructEq
import Derived.Laws.Slices
import Derived.Test.YtklmcfecakaanaaGreatSq1

set_option maxRecDepth 20000
set_option maxHeartbeats 1000000
namespace Go
theorem ABb:∀(a b:Bool),((a&&b)=true)=(a=true∧b=true):=@Bool.and_eq_true
theorem ACm:∀(b o j:Nat),Go.Addr.add {block:=b,off:=o} j={block:=b,off:=o+j}:=@Go.Addr.add_mid
theorem ADo:∀{α:Type _} {l:List α},List.length l=0→l=[]:=@List.eq_nil_of_length_eq_zero
theorem ADE:∀{α:Type _} {l₁ l₂:List α} {i:Nat},List.length l₁≤i→(l₁++l₂)[i]? =l₂[i-List.length l₁]?:=@List.getElem?_append_right
theorem ADh:∀{α:Type _} {xs:List α} {i j:Nat},(List.drop i xs)[j]? =xs[i+j]?:=@List.getElem?_drop
theorem ABs:∀{α:Type _} {l:List α} {i:Nat} (h:i<List.length l),l[i]? =some l[i]:=@List.getElem?_eq_getElem
theorem ACl:∀{α:Type _} {l:List α} {i j:Nat},(List.take i l)[j]? =if j<i then l[j]? else none:=@List.getElem?_take
theorem ACF:∀{α:Type _} {l:List α} {n:Nat} (h:n<List.length l),l[n]∈l:=@List.getElem_mem
theorem AB8:∀{α:Type _} {β:Type _} {f:α→β} {a:α} {l:List α},List.map f (a::l)=f a::List.map f l:=@List.map_cons
theorem ADs:∀(n m k:Nat),n+m+k=n+(m+k):=@Nat.add_assoc
theorem ACq:∀(n m:Nat),n<m∨n≥m:=@Nat.lt_or_ge
theorem AB0:∀(n:Nat),0+n=n:=@Nat.zero_add
theorem ABg:∀(n:Nat),0≤n:=@Nat.zero_le
theorem AA9:∀{c:Prop} {_:Decidable c},¬c→∀{α:Sort _} {t e:α},(if c then t else e)=e:=@if_neg
end Go
open Array renaming mem_toList_iff→AC3
open Go renaming cell_of_row→AB9,frozen_of_row→ADx
open Go.ByteArray renaming toList_eq→AD8
open Go.Result renaming andThen_ok→AB'
open Go.Sem renaming run_bind→ABY,run_pure→ACk
open List renaming append_assoc→ACN,countP_cons_of_neg→AEk,countP_cons_of_pos→AEa,getElem?_append_left→ADP,length_append→ABP,length_nil→ABo,map_map→ARS,nodup_append→ACv
open List.cons renaming injEq→ACj
open Option renaming map_eq_some_iff→ACr
namespace Go.A_
section
def E3(P:Program)(T:TypeId)(zs:List Value):Prop:=∃i z,P.info? T=some i/\i.zero=some z/\z.cells=zs.toArray
theorem E3.mk{P:Program}{T:TypeId}{zs:List Value}(h:(P.info? T).map (fun i=>i.zero.map Value.cells)=some (some zs.toArray)):E3 P T zs:=by
 obtain⟨i,Ag,Cu⟩:=ACr.1 h;obtain⟨z,Af,h2⟩:=ACr.1 Cu;exact⟨i,z,Ag,Af,h2⟩
def QD(P:Program)(s:TypeId)(i off:Nat):Prop:=∃B1 f j,P.underlying s=some (.struct B1)/\B1[i]? =some f/\P.info? f.type=some j/\j.size≠0/\f.offset=off
theorem QD.mk{P:Program}{s:TypeId}{i off:Nat}{B1:Array Field}(hu:P.underlying s=some (.struct B1)){f:Field}(BI:B1[i]? =some f)(h:(P.info? f.type).map (fun j=>j.size==0)=some false)(A7:f.offset=off):QD P s i off:=by
 obtain⟨j,Ay,Cu⟩:=ACr.1 h;exact⟨B1,f,j,hu,BI,Ay,by simpa using Cu,A7⟩
def Nv(P:Program)(T:TypeId):Prop:=(∃d,P.underlying T=some d/\d.isRow=false)/\(P.info? T).map (·.size)=some 1
def Oc(P:Program)(T:TypeId)(m:Nat):Prop:=(∃d,P.underlying T=some d/\d.isRow=true)/\(P.info? T).map (·.size)=some m
def H5(P:Program)(T E:TypeId)(m:Nat):Prop:=P.underlying T=some (.slice E)/\(P.info? E).map (·.size)=some m
section
variable{P:Program}
theorem lq{T:TypeId}{d:TypeDesc}(hu:P.underlying T=some d)(w:World):(isAgg T).run P w=.ok d.isRow w:=by
 unfold isAgg;rw[ABY,ABQ hu w];cases d<;>rfl
theorem AiO{T:TypeId}(h:Nv P T){a:Addr}{v:Value}{w:World}(Bm:w.cell? a=some v):(loadVar T a).run P w=.ok v w:=by
 obtain⟨⟨d,hu,AJ⟩,_⟩:=h;unfold loadVar;rw[ABY,lq hu,AB',AJ];simp[load,Sem.run,Bm]
theorem fT{T:TypeId}(h:Nv P T){a:Addr}{v:Value}{w:World}(Bm:w.cell? a=some v):(Instr.loadAt T (.pointer (some a))).run P w=.ok v w:=by
 simp only[Instr.loadAt,Instr.sureAddr,ABY,ACk,AB',AiO h Bm]
theorem fU{T:TypeId}{b o:Nat}{cs:List Value}(h:Oc P T cs.length){w:World}(Bm:Lt w b o cs):(Instr.loadAt T (.pointer (some ⟨b,o,none⟩))).run P w=.ok (.agg cs.toArray) w:=by
 obtain⟨⟨d,hu,AJ⟩,Ag⟩:=h;exact run_loadAt_mid w b o T cs d Bm hu AJ Ag
def MO(cs:List Value)(o:Nat):List Value->List Value
 |[]=>cs
 |v::r=>MO (cs.set o v) (o+1) r
theorem aU:∀(vs:List Value) (cs:List Value) (o:Nat) (w:World) {b:Nat} {T:TypeId},w.heap[b]? =some (.cells cs.toArray T (0,0))->(w.setCells b o vs).heap[b]? =some (.cells (MO cs o vs).toArray T (0,0))
 |[],_,_,_,_,_,h=>h
 |v::r,cs,o,w,b,T,h=>by
  rw[World.setCells];refine aU r (cs.set o v) (o+1) _ ?_;rw[heap_setCell_same w b o _ T v h];simp
theorem lZ(w:World)(b o:Nat)(v:Value):C8 [b] w (w.setCell ⟨b,o,none⟩ v):=
 ⟨rfl,rfl,rfl,by simp[World.setCell],fun k _ Ab=>heap_setCell_other w ⟨b,o,none⟩ k v (by simpa using Ab)⟩
theorem cG(b:Nat):∀(vs:List Value) (o:Nat) (w:World),C8 [b] w (w.setCells b o vs)
 |[],_,_=>C8.refl _ _
 |v::r,o,w=>(lZ w b o v).trans (cG b r (o+1) _)
end
section
variable{c:Cj} {ops:Array Oper} {Q:AuE} {env:Env} {L:Own} {D:List Atom} {rest:List Oper} {d:Nat} {v:Value} {t:TypeId} {p:String} {af:Array Edge} {x y z:Operand} {T:TypeId} {b o:Nat} {cs:List Value}
theorem c7{o:Oper}{dst:Option Tmp}(CK:o.guard=none)(AJ:o.dst=dst){env':Env}{L':Own}{Dd:List Atom}
 (Ek:∀a w,Fr c.n a env->CI c.BW c.M w L->BP D w L->∃u AT,(execOp a.eval o).run c.P w=.ok (.value u) AT/\Fr c.n (a.put dst u) env'/\CI c.BW c.M AT L'/\BP Dd AT L')
 (k:Cb Q c ops rest env' L' Dd):Cb Q c ops (o::rest) env L D:=by
 intro a w f st AR;refine wpList_plain CK fun K Je=>?_;obtain⟨u,AT,Bh,Jq,Kz,KI⟩:=Ek a w f st AR;unfold Oper.wp;rw[Bh];simp only[Oper.upon,AJ];exact Je _ _ (k _ _ Jq Kz KI)
theorem c6{o:Oper}{dst:Option Tmp}(CK:o.guard=none)(AJ:o.dst=dst){env':Env}{L':Own}{Dd:List Atom}
 (Ek:∀a w,Fr c.n a env->CI c.BW c.M w L->BP D w L->∃AT,(execOp a.eval o).run c.P w=.ok .skip AT/\Fr c.n (a.put dst undef) env'/\CI c.BW c.M AT L'/\BP Dd AT L')
 (k:Cb Q c ops rest env' L' Dd):Cb Q c ops (o::rest) env L D:=by
 intro a w f st AR;refine wpList_plain CK fun K Je=>?_;obtain⟨AT,Bh,Jq,Kz,KI⟩:=Ek a w f st AR;unfold Oper.wp;rw[Bh];simp only[Oper.upon,AJ];exact Je _ _ (k _ _ Jq Kz KI)
theorem Ue{o:Oper}{dst:Option Tmp}{σ:Type}(CK:o.guard=none)(AJ:o.dst=dst)(env':σ->Env)(L':σ->Own)(Dd:σ->List Atom)
 (Ek:∀a w,Fr c.n a env->CI c.BW c.M w L->BP D w L->∃s u AT,(execOp a.eval o).run c.P w=.ok (.value u) AT/\Fr c.n (a.put dst u) (env' s)/\CI c.BW c.M AT (L' s)/\BP (Dd s) AT (L' s))
 (k:∀s,Cb Q c ops rest (env' s) (L' s) (Dd s)):Cb Q c ops (o::rest) env L D:=by
 intro a w f st AR;refine wpList_plain CK fun K Je=>?_;obtain⟨s,u,AT,Bh,Jq,Kz,KI⟩:=Ek a w f st AR;unfold Oper.wp;rw[Bh];simp only[Oper.upon,AJ];exact Je _ _ (k s _ _ Jq Kz KI)
theorem Z3{w:World}(st:CI c.BW c.M w L)(AR:BP D w L):CI c.BW c.M (w.alloc (.cells cs.toArray T)) (AO w.heap.size T cs::L)/\BP D (w.alloc (.cells cs.toArray T)) (AO w.heap.size T cs::L):=
 ⟨st.push (p:=AO w.heap.size T cs) (C8.alloc [] w _) (heap_alloc_new w _) (by simp) (by simp),AR.push (C8.alloc [] w _) (by simp)⟩
theorem CT{zs:List Value}(Cu:E3 c.P T zs)(Ao:Nat.blt d c.n=true)(k:∀b,Cb Q c ops rest ((d,.pointer (some ⟨b,0,none⟩))::env) (AO b T zs::L) D):
 Cb Q c ops (⟨some d,.alloc T,t,p,af,none⟩::rest) env L D:=by
 refine Ue (σ:=Nat) rfl rfl (fun b=>(d,.pointer (some ⟨b,0,none⟩))::env) (fun b=>AO b T zs::L) (fun _=>D) (fun a w f st AR=>?_) k;obtain⟨i,z,Af,h2,Bo⟩:=Cu;refine⟨w.heap.size,.pointer (some ⟨w.heap.size,0,none⟩),w.alloc (.cells zs.toArray T),?_,f.put _ (EU Ao),Z3 st AR⟩;simp[execOp,Instr.alloc,zeroValue,typeInfo,Af,h2,newVar,newRow,newObj,Bo];rfl
theorem CV{u:Value}(Ab:AL env x=some u)(Bm:u.cells.toList=cs)(Ao:Nat.blt d c.n=true)(k:∀b,Cb Q c ops rest ((d,.pointer (some ⟨b,0,none⟩))::env) (AO b T cs::L) D):
 Cb Q c ops (⟨some d,.box T x,t,p,af,none⟩::rest) env L D:=by
 refine Ue (σ:=Nat) rfl rfl (fun b=>(d,.pointer (some ⟨b,0,none⟩))::env) (fun b=>AO b T cs::L) (fun _=>D) (fun a w f st AR=>?_) k;refine⟨w.heap.size,.pointer (some ⟨w.heap.size,0,none⟩),w.alloc (.cells cs.toArray T),?_,f.put _ (EU Ao),Z3 st AR⟩;subst Bm;simp[execOp,Instr.box,f.AL Ab,newVar,newRow,newObj];rfl
theorem Z2{w:World}(i:Nat)(Ag:L[i]? =some (AO b T cs))(st:CI c.BW c.M w L):w.heap[b]? =some (.cells cs.toArray T (0,0)):=st.own _ (AA' Ag)
theorem dD{w:World}(i:Nat)(Ag:L[i]? =some (AO b T cs))(st:CI c.BW c.M w L)(j:Nat):w.cell? ⟨b,j,none⟩=cs[j]? :=by
 rw[AB9 w b j _ T (0,0) (Z2 i Ag st)];simp
theorem nB{w AT:World}{KH:List Value}(i:Nat)(Ag:L[i]? =some (AO b T cs))(st:CI c.BW c.M w L)(AR:BP D w L)(hs:C8 [b] w AT)(hw:AT.heap[b]? =some (.cells KH.toArray T (0,0))):
 CI c.BW c.M AT (L.set i (AO b T KH))/\BP D AT (L.set i (AO b T KH)):=
 ⟨st.KB (p:=AO b T cs) (p':=AO b T KH) i Ag hs hw (by simp) (fun x Ab=>.inl Ab),AR.KB (p:=AO b T cs) (p':=AO b T KH) i Ag hs (fun x Ab=>.inl Ab)⟩
theorem Fi(i:Nat){u:Value}(Ab:AL env x=some (.pointer (some ⟨b,o,none⟩)))(Bf:AL env y=some u)(Ag:L[i]? =some (AO b T cs)){E:TypeId}(Av:Nv c.P E)(hu:u.oneCell'=true)(A7:o<cs.length)(k:Cb Q c ops rest env (L.set i (AO b T (cs.set o u))) D):
 Cb Q c ops (⟨none,.store E x y,t,p,af,none⟩::rest) env L D:=
 c6 (env':=env) rfl rfl (fun a w f st AR=>⟨w.setCell ⟨b,o,none⟩ u,by
  have hh:=Z2 i Ag st;have Af:w.cell? ⟨b,o,none⟩=some cs[o]:=(by rw[dD i Ag st,ABs A7]);have h2:w.frozen? ⟨b,o,none⟩=false:=ADx w b o _ T hh;obtain⟨j,Ay,hs⟩:=ACr.1 Av.2;have aR:u.cells= #[u]:=(by cases u<;>first|rfl|simp[Value.oneCell']at hu);have Gg:(store ⟨b,o,none⟩ u).run c.P w=.ok () (w.setCell ⟨b,o,none⟩ u):=by
   rw[run_store c.P w ⟨b,o,none⟩ u .plain hu];simp[Af,h2]
  simp[execOp,f.AL Ab,f.AL Bf,Instr.storeAt,Instr.sureAddr,storeVar,aR,sizeOf,typeInfo,Ay,hs,storeCells,Addr.add,Gg],
  f.Su _,nB i Ag st AR (lZ w b o u) (by
   rw[heap_setCell_same w b o _ T u (Z2 i Ag st)];simp)⟩) k
theorem stM(i:Nat){us:List Value}(Ab:AL env x=some (.pointer (some ⟨b,o,none⟩)))(Bf:AL env y=some (.agg us.toArray))(Ag:L[i]? =some (AO b T cs)){E:TypeId}(Av:Oc c.P E us.length)(hu:us.all (·.oneCell')=true)(A7:o+us.length<=cs.length)(k:Cb Q c ops rest env (L.set i (AO b T (MO cs o us))) D):
 Cb Q c ops (⟨none,.store E x y,t,p,af,none⟩::rest) env L D:=
 c6 (env':=env) rfl rfl (fun a w f st AR=>⟨w.setCells b o us,by
  have hh:=Z2 i Ag st;have:=run_storeAt_mid (P:=c.P) w b o E us.toArray (fun j Ay=>by
   have J9:o+j<cs.length:=(by simp at Ay;omega);exact⟨by rw[dD i Ag st,ABs J9];rfl,ADx w b _ _ T hh⟩) (by simpa using Av.2) (by simpa using hu)
  simp[execOp,f.AL Ab,f.AL Bf,this],
  f.Su _,nB i Ag st AR (cG b us o w) (aU us cs o w (Z2 i Ag st))⟩) k
theorem Rp{α:Type}[Be α]{S:Nat->Prop}{w:World}{By:Value}{ov:α}(h:Atom.holds ⟨By,(⟨ov⟩:Cq α)⟩ S w):∃b o Cx,By=.pointer (some ⟨b,o,none⟩)/\S b/\Be.rd S w Cx ov/\Lt w b o Cx:=by
 obtain⟨AK,b,o,Cx,Yw,Aq,Ep,AN⟩:=h;simp only at Yw AK;rw[NC AK]at Yw;exact⟨b,o,Cx,by simpa using Yw,Aq,Ep,AN⟩
theorem m9{KE:Code}(t:Atom)(Av:∀S w,(∀u∈D,u.holds S w)->t.holds S w)(k:CF c KE Q env L (t::D)):CF c KE Q env L D:=
 fun a w f st AR=>k a w f st (BP.cons (Av _ _ AR) AR)
theorem wQ{e:Exit}(t:Atom)(Av:∀S w,(∀u∈D,u.holds S w)->t.holds S w)(k:Eg c Q e env L (t::D)):Eg c Q e env L D:=
 fun a w f st AR=>k a w f st (BP.cons (Av _ _ AR) AR)
theorem HP{KE:Code}{q:Prop}(h:∀S w,(∀u∈D,u.holds S w)->q)(k:q->CF c KE Q env L D):CF c KE Q env L D:=
 fun a w f st AR=>k (h _ _ AR) a w f st AR
end
def SZ(Q:AuE)(c:Cj)(ops:Array Oper)(l:List Oper)(env:Env)(L:Own)(D:List Atom):Prop:=
 ∀a w,Fr c.n a env->CI c.BW c.M w L->BP D w L->wpQuiet c.P ops (fun AT=>C8 [] w AT) (fun Dx=>∀AT,C8 [] w AT->Q .normal Dx AT) l a
instance AnH (Q:AuE):Ip (SZ Q) where
 read:=by
  intro c ops env L D rest o dst σ CK AJ env' Dd Ek k a w f st AR;obtain⟨s,u,Bh,Jq,KI⟩:=Ek a w f st AR;have hw:Region.wanted o (yielded ops a.tmps)=true:=(by simp[Region.wanted,CK]);unfold wpQuiet;rw[AA_ hw];refine⟨u,fun AT NN=>?_,by rw[AJ];exact k s _ w Jq st KI⟩;unfold Oper.quietAt;rw[Bh AT NN];exact⟨rfl,rfl⟩
 gI:=by
  intro c ops env L D rest dst op t p af g hw k a w f st AR;have:=k a w f st AR;unfold wpQuiet at this ⊢;rw[AA_ (hw a w f st AR)];rw[AA_ (show Region.wanted ⟨dst,op,t,p,af,none⟩ (yielded ops a.tmps)=true from rfl)]at this;exact this
 c4:=by
  intro c ops env env' L D rest o hw k a w f st AR;obtain⟨Af,h2⟩:=hw a w f st AR;unfold wpQuiet;rw[Af];simp only[ADJ,if_false];exact k _ w h2 st AR
 mono:=by
  intro c ops env env' L D Dd l h k a w f st AR;obtain⟨Af,h2⟩:=h a w f st AR;exact k a w Af st h2
 fact:=by
  intro c ops env L D l q h k a w f st AR;exact k (h a w f st AR) a w f st AR
theorem Gj{c:Cj}{ops:Array Oper}{Q:AuE}{env:Env}{L:Own}{D:List Atom}(h:Eg c Q .normal env L D):SZ Q c ops [] env L D:=
 fun a _w f st AR AT NN=>h a AT f (st.step NN) (AR.step NN.nil)
theorem Gx{c:Cj}{Q:AuE}{env:Env}{L:Own}{D:List Atom}{id:Nat}{l:List Oper}(hm:c.P.follows .mixedOrders=true)(Ew:Region.lexB .any l.toArray=true)(h:SZ Q c l.toArray l env L D):CF c (.region id l.toArray true) Q env L D:=
 fun a w f st AR=>wp_region_quiet (C:=fun AT=>C8 [] w AT) hm Ew (C8.drew [] w) (h a w f st AR)
section
variable{c:Cj} {ops:Array Oper} {J:Cj->Array Oper->List Oper->Env->Own->List Atom->Prop} [Dr:Ip J] {env:Env} {L:Own} {D:List Atom} {rest:List Oper} {d:Nat} {v:Value} {t:TypeId} {p:String} {af:Array Edge} {x y z:Operand} {T:TypeId} {b o:Nat} {cs:List Value}
include Dr
theorem UG{s:TypeId}{i off:Nat}(Ab:AL env x=some (.pointer (some ⟨b,o,none⟩)))(BI:QD c.P s i off)(Ao:Nat.blt d c.n=true)(k:J c ops rest ((d,.pointer (some ⟨b,o+off,none⟩))::env) L D):
 J c ops (⟨some d,.fieldAddr s x i,t,p,af,none⟩::rest) env L D:=
 pu rfl rfl Ao (fun a w f=>by
  obtain⟨B1,g,j,Af,h2,Bo,BB,rfl⟩:=BI;simp[execOp,f.AL Ab,Instr.fieldAt,ABQ Af,h2,Instr.sureAddr,fieldPlace,sizeOf,typeInfo,Bo,BB,ACm]) k
theorem Va{Dx:Addr}(Ab:AL env x=some (.pointer (some Dx)))(Ao:Nat.blt d c.n=true)(k:J c ops rest ((d,.pointer (some Dx))::env) L D):
 J c ops (⟨some d,.nilCheck x,t,p,af,none⟩::rest) env L D:=
 pu rfl rfl Ao (fun a w f=>by simp[execOp,f.AL Ab]) k
theorem ME(i:Nat)(Ab:AL env x=some (.pointer (some ⟨b,o,none⟩)))(Ag:L[i]? =some (AO b T cs)){E:TypeId}(Av:Nv c.P E)(BC:cs[o]? =some v)(Ao:Nat.blt d c.n=true)(k:J c ops rest ((d,v)::env) L D):
 J c ops (⟨some d,.load E x,t,p,af,none⟩::rest) env L D:=
 Dr.read (σ:=Unit) rfl rfl (fun _=>(d,v)::env) (fun _=>D) (fun a w f st AR=>⟨(),v,fun AT hs=>by
  have:=fT (P:=c.P) Av (a:=⟨b,o,none⟩) (v:=v) (w:=AT) (by rw[dD i Ag (st.step hs)];exact BC);simp[execOp,f.AL Ab,this],f.put _ (EU Ao),AR⟩) (fun _=>k)
theorem BJ(i:Nat)(Cx:List Value)(Ab:AL env x=some (.pointer (some ⟨b,o,none⟩)))(Ag:L[i]? =some (AO b T cs)){E:TypeId}(Av:Oc c.P E Cx.length)(BC:(cs.drop o).take Cx.length=Cx)(Ao:Nat.blt d c.n=true)(k:J c ops rest ((d,.agg Cx.toArray)::env) L D):
 J c ops (⟨some d,.load E x,t,p,af,none⟩::rest) env L D:=
 Dr.read (σ:=Unit) rfl rfl (fun _=>(d,.agg Cx.toArray)::env) (fun _=>D) (fun a w f st AR=>⟨(),.agg Cx.toArray,fun AT HW=>by
  have:=fU (P:=c.P) Av (b:=b) (o:=o) (w:=AT) (fun j u hu=>by
   have Ay:j<Cx.length:=(ABF.1 hu).1;have h2:((cs.drop o).take Cx.length)[j]? =Cx[j]? :=(by rw[BC]);rw[ACl,AA_ Ay,ADh,hu]at h2;rw[dD i Ag (st.step HW)];exact h2)
  simp[execOp,f.AL Ab,this],f.put _ (EU Ao),AR⟩) (fun _=>k)
theorem qZ{α:Type}[r:Be α](i:Nat){ov:α}{By:Value}(Ab:AL env x=some By)(Cl:D[i]? =some ⟨By,(⟨ov⟩:Cq α)⟩)(Af:Be.size α=1)(Abj:r.agg=false)(Ab1:∀S w cs,r.rd S w cs ov->cs.all (fun u=> !YA u)=true){E:TypeId}(Av:Nv c.P E)(Ao:Nat.blt d c.n=true)(k:∀u,J c ops rest ((d,u)::env) L (⟨u,ov⟩::D)):
 J c ops (⟨some d,.load E x,t,p,af,none⟩::rest) env L D:=
 Dr.read (σ:=Value) rfl rfl (fun u=>(d,u)::env) (fun u=>⟨u,ov⟩::D) (fun a w f st AR=>by
  obtain⟨b,o,Cx,rfl,Aq,Ep,AN⟩:=Rp (AR.at_ i Cl);have hlen:=Be.len Ep;rw[Af]at hlen
  match Cx,hlen with
  |[u],_=>
   have hu:YA u=false:=(by simpa using Ab1 _ _ _ Ep);refine⟨u,u,fun AT hs=>?_,f.put _ (EU Ao),BP.cons ⟨hu.trans Abj.symm,?_⟩ AR⟩
   · have Bm:AT.cell? ⟨b,o,none⟩=some u:=(AN.DY (hs.block b Aq.1 (by simp))) 0 u rfl;have:=fT (P:=c.P) Av Bm;simp[execOp,f.AL Ab,this]
   show r.rd _ _ u.cells.toList ov;rw[NC hu];exact Ep) k
theorem CQ{α:Type}{r:Be α}[q:Vz r](i:Nat){ov:α}{By:Value}(Ab:AL env x=some By)(Cl:D[i]? =some (@Atom.mk (Cq α) (@F9 α r) By ⟨ov⟩)){E:TypeId}(Av:Nv c.P E)(Ao:Nat.blt d c.n=true)(k:q.wf ov->J c ops rest ((d,q.g ov)::env) L D):
 J c ops (⟨some d,.load E x,t,p,af,none⟩::rest) env L D:=by
 refine Dr.fact (q:=∃b o,By=.pointer (some ⟨b,o,none⟩)/\q.wf ov) (fun a w f st AR=>?_) ?_
 · obtain⟨b,o,Cx,rfl,Aq,Ep,AN⟩:=Rp (AR.at_ i Cl);exact⟨b,o,rfl,(q.h Ep).2⟩
 rintro⟨b,o,rfl,Oi⟩;refine Dr.read (σ:=Unit) rfl rfl (fun _=>(d,q.g ov)::env) (fun _=>D) (fun a w f st AR=>⟨(),q.g ov,fun AT hs=>?_,f.put _ (EU Ao),AR⟩) (fun _=>k Oi);obtain⟨KZ,Lg,ox,AH,EP,Aca,Sc⟩:=Rp ((AR.step hs.nil).at_ i Cl);injection AH with AH;injection AH with AH;injection AH with B4 DC;subst B4 DC;have e:=(q.h Aca).1;subst e;have Bm:AT.cell? ⟨b,o,none⟩=some (q.g ov):=Sc 0 _ rfl;have:=fT (P:=c.P) Av Bm;simp[execOp,f.AL Ab,this]
theorem Gi{α:Type}{s:Shape α}(i:Nat){ov:α}{By:Value}(Ab:AL env x=some By)(Cl:D[i]? =some (@Atom.mk (Cq α) (@F9 α (Be.D5 s)) By ⟨ov⟩)){E:TypeId}(Av:Oc c.P E s.size)(Ao:Nat.blt d c.n=true)
 (k:∀h,s.wf ov->J c ops rest ((d,.agg (s.cells ov h).toArray)::env) L ((@Atom.mk α (Be.D5 s) (.agg (s.cells ov h).toArray) ov)::(s.sub ov h++D))):
 J c ops (⟨some d,.load E x,t,p,af,none⟩::rest) env L D:=
 Dr.read (σ:={h // s.wf ov}) rfl rfl (fun h=>(d,.agg (s.cells ov h.1).toArray)::env) (fun h=>(@Atom.mk α (Be.D5 s) (.agg (s.cells ov h.1).toArray) ov)::(s.sub ov h.1++D)) (fun a w f st AR=>by
  obtain⟨b,o,Cx,rfl,Aq,⟨h,rfl,Lc,Oi⟩,AN⟩:=@Rp α (Be.D5 s) _ _ _ _ (AR.at_ i Cl);refine⟨⟨h,Oi⟩,.agg (s.cells ov h).toArray,fun AT hs=>?_,f.put _ (EU Ao),BP.cons ⟨rfl,⟨h,by simp[Value.cells],Lc,Oi⟩⟩ (BP.app (fun t Av=>Lc t Av) AR)⟩;have Ek:=fU (P:=c.P) (T:=E) (b:=b) (o:=o) (cs:=s.cells ov h) (by rw[s.len];exact Av) (AN.DY (hs.block b Aq.1 (by simp)));simp[execOp,f.AL Ab,Ek]) (fun h=>k h.1 h.2)
theorem IY{α β:Type}{FA:Be α}{Kb:Be β}(i:Nat){ov:α}{By:Value}{s:TypeId}{j off:Nat}(g:α->β)(Ab:AL env x=some By)(Cl:D[i]? =some (@Atom.mk (Cq α) (@F9 α FA) By ⟨ov⟩))(BI:QD c.P s j off)
 (CK:∀S w cs,FA.rd S w cs ov->Kb.rd S w ((cs.drop off).take Kb.size) (g ov))(Ao:Nat.blt d c.n=true)(k:∀u,J c ops rest ((d,u)::env) L ((@Atom.mk (Cq β) (@F9 β Kb) u ⟨g ov⟩)::D)):
 J c ops (⟨some d,.fieldAddr s x j,t,p,af,none⟩::rest) env L D:=
 Dr.read (σ:=Value) rfl rfl (fun u=>(d,u)::env) (fun u=>(@Atom.mk (Cq β) (@F9 β Kb) u ⟨g ov⟩)::D) (fun a w f st AR=>by
  obtain⟨b,o,Cx,rfl,Aq,Ep,AN⟩:=@Rp α FA _ _ _ _ (AR.at_ i Cl);obtain⟨B1,q,qz,Af,h2,Bo,BB,rfl⟩:=BI;refine⟨.pointer (some ⟨b,o+q.offset,none⟩),_,fun AT hs=>?_,f.put _ (EU Ao),BP.cons ⟨rfl,b,o+q.offset,(Cx.drop q.offset).take Kb.size,rfl,Aq,CK _ _ _ Ep,fun j u hu=>?_⟩ AR⟩
  · simp[execOp,f.AL Ab,Instr.fieldAt,ABQ Af,h2,Instr.sureAddr,fieldPlace,sizeOf,typeInfo,Bo,BB,ACm]
  rw[ACl]at hu;split at hu
  · rw[ADh]at hu;have:=AN _ _ hu;rw[<-ADs]at this;exact this
  cases hu) k
theorem Qh{α:Type}{r:Be α}(i:Nat){xs:List α}{e:α}{Bk:Value}{m:Int}{T:TypeId}{E:TypeId}(Ab:AL env x=some Bk)(Cl:D[i]? =some (@Atom.mk (List α) (@FI α r) Bk xs))(Bf:AL env y=some (.int .i64 m))(Av:H5 c.P T E r.size)
 (Bw:0<=m)(he:xs[m.toNat]? =some e)(Ao:Nat.blt d c.n=true)(k:∀u,J c ops rest ((d,u)::env) L ((@Atom.mk (Cq α) (@F9 α r) u ⟨e⟩)::D)):
 J c ops (⟨some d,.indexAddr T x y,t,p,af,none⟩::rest) env L D:=
 Dr.read (σ:=Value) rfl rfl (fun u=>(d,u)::env) (fun u=>(@Atom.mk (Cq α) (@F9 α r) u ⟨e⟩)::D) (fun a w f st AR=>by
  obtain⟨AK,A,Dc,EX,Af,h2,Bo,BB⟩:=AR.at_ i Cl;simp only at EX AK;rw[NC AK]at EX;have EX:Bk=.slice A xs.length Dc:=(by simpa using EX);subst EX;have C_:m.toNat<xs.length:=(ABF.1 he).1;obtain⟨b,o,rfl,Aq,Ag⟩:=BB (by intro h;have h:xs=[]:=h;rw[h]at C_;simp at C_);obtain⟨Cx,Ep,AN⟩:=Ag _ _ he;obtain⟨j,Ay,hs⟩:=ACr.1 Av.2;refine⟨.pointer (some ⟨b,o+m.toNat*r.size,none⟩),_,fun AT HW=>?_,f.put _ (EU Ao),BP.cons ⟨rfl,b,_,Cx,rfl,Aq,Ep,AN⟩ AR⟩;have hm:m<(xs.length:Int):=AMT;simp[execOp,f.AL Ab,f.AL Bf,Instr.indexAt,asIntOf,ABQ Av.1,Bw,hm,sizeOf,typeInfo,Ay,hs,ACm]) k
theorem C2{α:Type}{r:Be α}(i:Nat){xs:List α}{Bk:Value}{T:TypeId}{E:TypeId}(Ab:AL env x=some Bk)(Cl:D[i]? =some (@Atom.mk (List α) (@FI α r) Bk xs))(Av:c.P.underlying T=some (.slice E))(Ao:Nat.blt d c.n=true)
 (k:xs.length<=9223372036854775807->J c ops rest ((d,.int .i64 (xs.length:Int))::env) L D):
 J c ops (⟨some d,.call {callee:=.builtin .len,args:= #[x],argTypes:= #[T]},t,p,af,none⟩::rest) env L D:=by
 refine Dr.fact (q:=∃A Dc,Bk=.slice A xs.length Dc/\xs.length<=9223372036854775807) (fun a w f st AR=>?_) ?_
 · obtain⟨AK,A,Dc,EX,Af,h2,Bo,BB⟩:=AR.at_ i Cl;simp only at EX AK;rw[NC AK]at EX;exact⟨A,Dc,by simpa using EX,Bo⟩
 rintro⟨A,Dc,rfl,Bo⟩;refine pu rfl rfl Ao (fun a w f=>?_) (k Bo);simp[execOp,resolve,invoke,builtin,f.AL Ab,Builtin.len_,ABQ Av,goInt]
theorem WN{A:Option Addr}{m Dc:Nat}{T:TypeId}{E:TypeId}(Ab:AL env x=some (.slice A m Dc))(Av:c.P.underlying T=some (.slice E))(Ao:Nat.blt d c.n=true)
 (k:J c ops rest ((d,.int .i64 (m:Int))::env) L D):
 J c ops (⟨some d,.call {callee:=.builtin .len,args:= #[x],argTypes:= #[T]},t,p,af,none⟩::rest) env L D:=
 pu rfl rfl Ao (fun a w f=>by simp[execOp,resolve,invoke,builtin,f.AL Ab,Builtin.len_,ABQ Av,goInt]) k
theorem PI{s:ByteArray}{T:TypeId}(Ab:AL env x=some (.string s))(Av:c.P.underlying T=some .string)(Ao:Nat.blt d c.n=true)
 (k:J c ops rest ((d,.int .i64 (s.size:Int))::env) L D):
 J c ops (⟨some d,.call {callee:=.builtin .len,args:= #[x],argTypes:= #[T]},t,p,af,none⟩::rest) env L D:=
 pu rfl rfl Ao (fun a w f=>by simp[execOp,resolve,invoke,builtin,f.AL Ab,Builtin.len_,ABQ Av,goInt]) k
theorem XR{l:List Oper}(t:Atom)(Av:∀S w,(∀u∈D,u.holds S w)->t.holds S w)(k:J c ops l env L (t::D)):J c ops l env L D:=
 Dr.mono (fun _ _ f _ AR=>⟨f,BP.cons (Av _ _ AR) AR⟩) k
theorem GO{l:List Oper}{q:Prop}(h:∀S w,(∀u∈D,u.holds S w)->q)(k:q->J c ops l env L D):J c ops l env L D:=
 Dr.fact (fun _ _ _ _ AR=>h _ _ AR) k
end
end
section
theorem cn{α:Type}[Be α]{S:Nat->Prop}{w:World}{b o:Nat}:∀(xs:List α) (k:Nat),(∀i x,xs[i]? =some x->∃Cx,Be.rd S w Cx x/\Lt w b (o+(k+i)*Be.size α) Cx)->∃Cy,HM S w Cy xs/\Lt w b (o+k*Be.size α) Cy.flatten
 |[],k,_=>⟨[],trivial,by intro j u h;simp at h⟩
 |x::xs,k,h=>by
  obtain⟨Cx,Af,h2⟩:=h 0 x rfl;obtain⟨Cy,Bo,BB⟩:=cn (S:=S) (w:=w) (b:=b) (o:=o) xs (k+1) (fun i x Ab=>by
   have:=h (i+1) x Ab
   rwa [show k+(i+1)=k+1+i by omega]at this)
  refine⟨Cx::Cy,⟨Af,Bo⟩,fun j u hu=>?_⟩;rw[List.flatten_cons]at hu;have AN:=Be.len Af;by_cases Ay:j<Cx.length
  · rw[ADP Ay]at hu;exact h2 j u hu
  rw[ADE AMT]at hu;have:=BB _ _ hu;rw[ACX,AN]at this;rw[show o+(k*Be.size α+Be.size α)+(j-Be.size α)=o+k*Be.size α+j by omega]at this;exact this
theorem PH{α:Type}[Be α]{S:Nat->Prop}{w:World}{b:Nat}:∀(Cy:List (List Value)) (xs:List α) (o:Nat),HM S w Cy xs->Lt w b o Cy.flatten->∀i x,xs[i]? =some x->∃Cx,Be.rd S w Cx x/\Lt w b (o+i*Be.size α) Cx
 |[],[],_,_,_,i,x,h=>by simp at h
 |Cx::Cy,y::ys,o,Bh,AN,i,x,h=>by
  rw[List.flatten_cons]at AN;have hlen:=Be.len Bh.1;cases i with
  |zero=>
   simp at h;subst h;refine⟨Cx,Bh.1,fun j u hu=>?_⟩;have:=AN j u (by rw[ADP (ABF.1 hu).1];exact hu);simpa using this
  |succ i=>
   simp only[ABC]at h;obtain⟨es,Af,h2⟩:=PH Cy ys (o+Be.size α) Bh.2 (fun j u hu=>by
    have:=AN (Cx.length+j) u (by rw[ADE AMT];simpa using hu);rw[hlen,<-ADs]at this;exact this) i x h
   refine⟨es,Af,?_⟩;rw[ACX]
   rwa [show o+(i*Be.size α+Be.size α)=o+Be.size α+i*Be.size α by omega]
 |[],_::_,_,h,_,_,_,_=>h.elim
 |_::_,[],_,h,_,_,_,_=>h.elim
def EH(P:Program)(T e:TypeId)(size bytes:Nat):Prop:=P.underlying T=some (.slice e)/\∃i z,P.info? e=some i/\i.zero=some z/\i.size=size/\i.bytes=bytes/\z.cells.size=size/\0<size
theorem EH.mk{P:Program}{T e:TypeId}{size bytes:Nat}(hu:P.underlying T=some (.slice e))(h:(P.info? e).map (fun i=>(i.zero.map fun z=>z.cells.size,i.size,i.bytes))=some (some size,size,bytes))(Bw:0<size):EH P T e size bytes:=by
 obtain⟨i,Ag,Cu⟩:=ACr.1 h;simp only[Prod.mk.injEq]at Cu;obtain⟨Af,h2,Bo⟩:=Cu;obtain⟨z,Tw,PE⟩:=ACr.1 Af;exact⟨hu,i,z,Ag,Tw,h2,Bo,PE,Bw⟩
theorem run_append_nil{P:Program}(w:World){T ty e:TypeId}{size bytes:Nat}(h:EH P T e size bytes){v:Value}{n:Nat}{xs:List Value}(G8:w.ownsRow 0 e size v n xs)(c:Nat):
 (Builtin.append_ #[T,T] ty #[v,.slice none 0 c]).run P w=.ok v w:=by
 obtain⟨Av,i,z,Ag,Cu,hs,Aq,Oj,Bw⟩:=h;rcases G8.2 with⟨rfl,rfl⟩|⟨g,cap,cur,rfl,_,_,Tt,_⟩
 · simp[Builtin.append_,ABQ Av,sizeOf,typeInfo,Ag,Builtin.lenOf,Builtin.firstCells]
 simp[Builtin.append_,ABQ Av,sizeOf,typeInfo,Ag,Builtin.lenOf,Builtin.firstCells,Tt,storeCells]
theorem kG{v:Value}{b:Nat}:b∈v.ownBlock.toList↔v.ownBlock=some b:=by simp
theorem C8.rO{w AT:World}{v:Value}(h:w.grownBy AT v.ownBlock):C8 v.ownBlock.toList w AT:=
 ⟨h.os,h.tape,h.output,h.size,fun k AE Ab=>h.block k AE (fun e=>Ab (kG.2 e.symm))⟩
section
variable{c:Cj} {ops:Array Oper} {Q:AuE} {env:Env} {L:Own} {D:List Atom} {rest:List Oper} {d:Nat} {v:Value} {t:TypeId} {p:String} {af:Array Edge} {x y z:Operand} {T:TypeId} {b o:Nat} {cs:List Value}
theorem ApK{l:List Oper}(α:Type)[Be α](e:TypeId)(k:Cb Q c ops l env (row e (.slice none 0 0) ([]:List α)::L) D):Cb Q c ops l env L D:=by
 intro a w f st AR;refine k a w f (st.push (p:=row e (.slice none 0 0) ([]:List α)) (C8.refl _ _) ⟨[],World.ownsRow_nil _ _ _ _,trivial,by simp⟩ (by simp[Value.ownBlock]) (by simp[Value.ownBlock])) (AR.push (C8.refl _ _) (by simp[Value.ownBlock]))
theorem Lk{KE:Code}(α:Type)[Be α](e:TypeId)(k:CF c KE Q env (row e (.slice none 0 0) ([]:List α)::L) D):CF c KE Q env L D:=by
 intro a w f st AR;refine k a w f (st.push (p:=row e (.slice none 0 0) ([]:List α)) (C8.refl _ _) ⟨[],World.ownsRow_nil _ _ _ _,trivial,by simp⟩ (by simp[Value.ownBlock]) (by simp[Value.ownBlock])) (AR.push (C8.refl _ _) (by simp[Value.ownBlock]))
theorem ap{α:Type}{r:Be α}(i j:Nat){e:TypeId}{bytes:Nat}{Bk XE:Value}{xs ys:List α}(Ab:AL env x=some Bk)(Bf:AL env y=some XE)(Ag:L[i]? =some (@row α r e Bk xs))(Ay:D[j]? =some (@Atom.mk (List α) (@FI α r) XE ys))
 (Av:EH c.P T e r.size bytes)(Aq:(xs.length+ys.length)*bytes<=140737488355328)(R9:xs.length+ys.length<=140737488355328)(Ao:Nat.blt d c.n=true)
 (k:∀v,Cb Q c ops rest ((d,v)::env) (L.set i (@row α r e v (xs++ys))) D):
 Cb Q c ops (⟨some d,.call {callee:=.builtin .append,args:= #[x,y],argTypes:= #[T,T]},t,p,af,none⟩::rest) env L D:=by
 refine Ue (σ:=Value) rfl rfl (fun v=>(d,v)::env) (fun v=>L.set i (@row α r e v (xs++ys))) (fun _=>D) (fun a w f st AR=>?_) k;obtain⟨Cy,G8,Ep,Sg⟩:=st.own _ (AA' Ag);obtain⟨AK,A,Dc,bk,Af,h2,Bo,BB⟩:=AR.at_ j Ay;simp only at bk AK;rw[NC AK]at bk;have bk:XE=.slice A ys.length Dc:=by simpa using bk
 subst bk;have aW:∀(w:World) (u:Value) (AT:World),(Builtin.append_ #[T,T] t #[Bk,.slice A ys.length Dc]).run c.P w=.ok u AT->(execOp a.eval ⟨some d,.call {callee:=.builtin .append,args:= #[x,y],argTypes:= #[T,T]},t,p,af,none⟩).run c.P w=.ok (.value u) AT:=by
  intro w u AT h;simp only[execOp,resolve,invoke,builtin,ABY,ACk,AB',List.map_toArray,AB8,List.map_nil,f.AL Ab,f.AL Bf,h]
 by_cases Qg:ys=[]
 · subst Qg;have BC:∀w:World,w.ownsRow 0 e r.size Bk xs.length Cy.flatten->∃AT,(Builtin.append_ #[T,T] t #[Bk,.slice A 0 Dc]).run c.P w=.ok Bk AT/\C8 Bk.ownBlock.toList w AT/\AT.ownsRow 0 e r.size Bk xs.length Cy.flatten:=by
    intro w G8;cases A with
    |none=>exact⟨w,run_append_nil w Av G8 Dc,C8.refl _ _,G8⟩
    |some RJ=>
     obtain⟨hu,ii,Gz,Gf,Cu,hs,P_,Oj,Bw⟩:=Av;rcases G8.2 with⟨rfl,Ts⟩|⟨g,cap,cur,rfl,_,CK,Tt,_⟩
     · refine⟨w,?_,C8.refl _ _,G8⟩;simp[Builtin.append_,ABQ hu,sizeOf,typeInfo,Gf,Builtin.lenOf,Builtin.firstCells,loadCells,loadCellsFrom]
     refine⟨w,?_,C8.refl _ _,G8⟩;simp[Builtin.append_,ABQ hu,sizeOf,typeInfo,Gf,Builtin.lenOf,Builtin.firstCells,Tt,storeCells,loadCells,loadCellsFrom]
   obtain⟨AT,Ek,hs,Wz⟩:=BC w G8;have HW:C8 (row e Bk xs).nd w AT:=hs;refine⟨Bk,Bk,AT,aW w _ _ Ek,f.put _ (EU Ao),?_,AR.KB i Ag HW (fun b Aq=>.inl Aq)⟩;refine st.KB i Ag HW ?_ (tC Bk) (fun b Aq=>.inl Aq);refine⟨Cy,by simpa using Wz,?_,by simpa using R9⟩;rw[List.append_nil];exact Ep.DY (fun b Aq=>⟨ACp Aq.1 hs.size,fun Ab=>Aq.2 (by
    rcases OK Ag b Ab with h|h
    · exact FW.2 ⟨_,AA' Ag,h⟩
    exact h)⟩) (fun b Aq=>hs.block b Aq.1 (fun Ab=>Aq.2 (FW.2 ⟨_,AA' Ag,Ab⟩)))
 obtain⟨b,o,rfl,Am0,py⟩:=BB Qg;obtain⟨dss,Qd,PB⟩:=cn (S:=Et L.nd w) (w:=w) (b:=b) (o:=o) ys 0 (by simpa using py);have Yy:=Av;obtain⟨hu,ii,Gz,Gf,Cu,hs,P_,Oj,Bw⟩:=Yy;obtain⟨J4,AT,Ek,Wz,jn,_,Rc⟩:=run_append_own_at (P:=c.P) w 0 T t e ii Gz r.size bytes hu Gf Cu hs P_ Oj Bw Bk xs.length Cy.flatten G8 ⟨b,o,none⟩ ys.length Dc dss.flatten Qd.len
  (fun j u hu=>by rw[ACm];have:=PB j u hu;simpa using this) Qd.one (by simp only[maxLen];omega) Aq (ABg _)
 have Qf:=C8.rO jn;have Hu:∀b∈J4.ownBlock.toList,b∈Bk.ownBlock.toList\/w.heap.size<=b:=by
  intro b Aq;rcases Rc with h|h
  · left;rw[<-h];exact Aq
  right;rw[kG]at Aq;rw[h]at Aq;injection Aq with Aq;omega
 refine⟨J4,J4,AT,aW w _ _ Ek,f.put _ (EU Ao),?_,AR.KB (p':=row e J4 (xs++ys)) i Ag Qf Hu⟩;refine st.KB (p':=row e J4 (xs++ys)) i Ag Qf ?_ (tC J4) Hu;have Lc:∀b,Et L.nd w b->Et (Own.nd (L.set i (row e J4 (xs++ys)))) AT b:=fun b Ab=>⟨ACp Ab.1 Qf.size,fun Bf=>by
  rcases OK Ag b Bf with h|h
  · rcases Hu b h with h|h
    · exact Ab.2 (FW.2 ⟨_,AA' Ag,h⟩)
    have:=Ab.1;omega
  exact Ab.2 h⟩
 have jF:∀b,Et L.nd w b->AT.heap[b]? =w.heap[b]? :=fun b Aq=>Qf.block b Aq.1 (fun Ab=>Aq.2 (FW.2 ⟨_,AA' Ag,Ab⟩));refine⟨Cy++dss,?_,(Ep.app Qd).DY Lc jF,by rw[ABP];exact R9⟩;rw[List.flatten_append,ABP];exact Wz
where
 tC (v:Value):v.ownBlock.toList.Nodup:=by cases v.ownBlock<;>simp
theorem Xb{α:Type}{r:Be α}{e:TypeId}{Bk:Value}{xs:List α}{S Fq:Nat->Prop}{w:World}(h:(@row α r e Bk xs).holds S w)(hs:∀b,S b->Fq b)(Aq:∀b∈Bk.ownBlock.toList,Fq b):Atom.holds (@Atom.mk (List α) (@FI α r) Bk xs) Fq w:=by
 obtain⟨Cy,G8,Ep,AN⟩:=h;have hlen:=Ep.len;rcases G8.2 with⟨rfl,Ao⟩|⟨g,cap,cur,rfl,_,CK,Tt,Wp,I0,Md⟩
 · refine⟨rfl,none,0,?_,(show xs.length<=0 by omega),AMT,ABB AN ARp,fun Ab=>absurd (ADo Ao) Ab⟩;rw[Ao];rfl
 refine⟨rfl,some ⟨g,0,none⟩,cap,rfl,Tt,by simpa only[maxLen]using Wp,ABB AN ARp,fun _=>⟨g,0,rfl,Aq g (by simp[Value.ownBlock]),?_⟩⟩;refine PH Cy xs 0 (Ep.DY hs (fun _ _=>rfl)) (fun j u hu=>?_);have:=World.ownsRow.cells G8 (g:=g) rfl j u hu
 rwa [ACm]at this
theorem RY{α:Type}{r:Be α}{KE:Code}{e:TypeId}{Bk:Value}{xs:List α}(k:CF c KE Q env L ((@Atom.mk (List α) (@FI α r) Bk xs)::D)):CF c KE Q env (@row α r e Bk xs::L) D:=
 fun a w f st AR=>k a w f st.drop (BP.cons (st.freeze fun _ Aq BO h=>Xb h BO Aq) AR.drop)
theorem JO{α:Type}{r:Be α}{l:List Oper}{e:TypeId}{Bk:Value}{xs:List α}(k:Cb Q c ops l env L ((@Atom.mk (List α) (@FI α r) Bk xs)::D)):Cb Q c ops l env (@row α r e Bk xs::L) D:=
 fun a w f st AR=>k a w f st.drop (BP.cons (st.freeze fun _ Aq BO h=>Xb h BO Aq) AR.drop)
theorem K5{α:Type}{r:Be α}{ar:Exit}{e:TypeId}{Bk:Value}{xs:List α}(k:Eg c Q ar env L ((@Atom.mk (List α) (@FI α r) Bk xs)::D)):Eg c Q ar env (@row α r e Bk xs::L) D:=
 fun a w f st AR=>k a w f st.drop (BP.cons (st.freeze fun _ Aq BO h=>Xb h BO Aq) AR.drop)
theorem zG(us:List Value):∀(pre post:List Value) (k:Nat),pre.length=k->us.length=post.length->(∀u∈us,u.oneCell'=true)->
 Instr.fill (fun i=>some (i*1,1)) (pre++post).toArray (us.zipIdx k |>.map fun(u,i)=>(i,u))=some (pre++us).toArray:=by
 induction us with
 |nil=>intro pre post k _ h _;obtain rfl:post=[]:=ADo h.symm;simp[Instr.fill]
 |cons u r Cg=>
  intro pre post k AE AN Af;cases post with
  |nil=>simp at AN
  |cons q post=>
   have hu:=Af u (by simp);have Bm:u.cells= #[u]:=(by cases u<;>first|rfl|simp[Value.oneCell']at hu);simp only[List.zipIdx_cons,AB8,Instr.fill,Bm];have h2:=Cg (pre++[u]) post (k+1) (by simp[AE]) (by simpa using AN) (fun x Ab=>Af x (by simp[Ab]));have e:(#[u].zipIdx.foldl (fun(cs:Array Value) (x:Value×Nat)=>cs.setIfInBounds (k*1+x.2) x.1) (pre++q::post).toArray)=(pre++[u]++post).toArray:=by
    simp[<-AE]
   simp only[ACN,List.singleton_append]at h2 ⊢;rw[AA9 (by simp;omega)];simp only[e];simpa using h2
def partsOf(xs:List Operand):List (Nat×Operand):=xs.zipIdx.map fun(x,i)=>(i,x)
theorem parts_eval{n:Nat}{a:Act}(f:Fr n a env){xs:List Operand}{us:List Value}(h:Gq env xs=some us)(k:Nat):
 ((xs.zipIdx k).map fun(x,i)=>(i,a.eval x))=(us.zipIdx k).map fun(u,i)=>(i,u):=by
 have:=f.Gq h;subst this;rw[List.zipIdx_map];simp[ARS,Function.comp_def]
theorem AiK{P:Program}{T E:TypeId}{bytes:Nat}(Av:EH P T E 1 bytes){us:List Value}(hu:∀u∈us,u.oneCell'=true)(AN:us.length<=1000)(Bw:us≠[])(w:World):
 (Instr.buildSlice T us.length (us.zipIdx.map fun(u,i)=>(i,u)).toArray).run P w=.ok (.slice (some ⟨w.heap.size,0,none⟩) us.length us.length) (w.alloc (.cells us.toArray E)):=by
 obtain⟨Oh,i,z,Ag,Cu,hs,Aq,Oj,_⟩:=Av;have BI:=zG us [] (((Array.range us.length).map (z.cells[· % z.cells.size]!)).toList) 0 rfl (by simp) hu;simp only[List.nil_append,Array.toArray_toList,Nat.mul_one]at BI;have WA:0<us.length:=List.length_pos_iff.2 Bw;have FG:¬us.length=0:=AMT;have hle:¬16777216<us.length:=AMT;unfold Instr.buildSlice;simp only[ABY,ABQ Oh,AB',sizeOf,typeInfo,zeroValue,program,Sem.run,Ag,hs,ACk,Nat.mul_one,newRow,newObj];have AbT:¬us.length>2^24:=by simpa using hle
 simp[AbT,FG,Ag,Cu,Sem.run,BI]
theorem BH{xs:List Operand}{us:List Value}{E:TypeId}{bytes:Nat}(Ab:Gq env xs=some us)(Av:EH c.P T E 1 bytes)(hu:us.all (·.oneCell')=true)(AN:Nat.ble us.length 1000=true)(Bw:us.isEmpty=false){n:Nat}(Qb:us.length=n)(Ao:Nat.blt d c.n=true){ps:List (Nat×Operand)}(jA:partsOf xs=ps)
 (k:∀b,Cb Q c ops rest ((d,.slice (some ⟨b,0,none⟩) n n)::env) (AO b E us::L) D):
 Cb Q c ops (⟨some d,.buildSlice T n ps.toArray,t,p,af,none⟩::rest) env L D:=by
 subst Qb jA;refine Ue (σ:=Nat) rfl rfl (fun b=>(d,.slice (some ⟨b,0,none⟩) us.length us.length)::env) (fun b=>AO b E us::L) (fun _=>D) (fun a w f st AR=>?_) k;refine⟨w.heap.size,.slice (some ⟨w.heap.size,0,none⟩) us.length us.length,w.alloc (.cells us.toArray E),?_,f.put _ (EU Ao),Z3 st AR⟩;have AH:=parts_eval (a:=a) f Ab 0;have e:(partsOf xs).toArray.map (fun(i,x)=>(i,a.eval x))=(us.zipIdx.map fun(u,i)=>(i,u)).toArray:=by
  rw[<-AH];simp[partsOf,ARS,Function.comp_def]
 simp only[execOp];rw[e];simp only[ABY,AiK Av (by simpa using hu) (ABy AN) (by simpa using Bw),AB',ACk]
theorem Q5{α:Type}[r:Be α]{l:List Oper}{E:TypeId}(xs:List α)(Cy:List (List Value))(I0:Cy.flatten=cs)(Bh:∀S w,(∀u∈D,u.holds S w)->HM S w Cy xs)(AN:xs.length<=140737488355328)
 (k:Cb Q c ops l env L ((@Atom.mk (List α) (@FI α r) (.slice (some ⟨b,0,none⟩) xs.length xs.length) xs)::D)):Cb Q c ops l env (AO b E cs::L) D:=by
 intro a w f st AR;refine k a w f st.drop (BP.cons ?_ AR.drop);have hh:w.heap[b]? =some (.cells cs.toArray E (0,0)):=st.own _ (ABx ..);have Ao:=st.AGm;simp only[Own.nd,Dt,ACv]at Ao;have BO:Et L.nd w b:=⟨TD hh,fun Ab=>Ao.2.2 b (by simp) b Ab rfl⟩;refine⟨rfl,some ⟨b,0,none⟩,xs.length,rfl,ABW _,by show xs.length<=_;omega,ABB AN ARp,fun _=>⟨b,0,rfl,BO,?_⟩⟩;refine PH Cy xs 0 (Bh _ _ fun u hu=>AR.drop u hu) (fun j u hu=>?_);rw[AB0,AB9 w b _ _ E (0,0) hh];rw[I0]at hu;simpa using hu
theorem KJ{α:Type}[r:Be α]{l:List Oper}{E:TypeId}(KE:α)(Bh:∀S w,(∀u∈D,u.holds S w)->r.rd S w cs KE)
 (k:Cb Q c ops l env L ((@Atom.mk (List α) (@FI α r) (.slice (some ⟨b,0,none⟩) 1 1) [KE])::D)):Cb Q c ops l env (AO b E cs::L) D:=
 Q5 (r:=r) [KE] [cs] (by simp) (fun S w h=>⟨Bh S w h,trivial⟩) (by simp) k
end
section
variable{c:Cj} {ops:Array Oper} {J:Cj->Array Oper->List Oper->Env->Own->List Atom->Prop} [Dr:Ip J] {env:Env} {L:Own} {D:List Atom} {rest:List Oper} {d:Nat} {v:Value} {t:TypeId} {p:String} {af:Array Edge} {x y z:Operand} {T:TypeId} {b o:Nat} {cs:List Value}
include Dr
theorem JX{α:Type}{r:Be α}(i:Nat){e:TypeId}{xs:List α}{Bk:Value}{T:TypeId}{E:TypeId}(Ab:AL env x=some Bk)(Ag:L[i]? =some (@row α r e Bk xs))(Av:c.P.underlying T=some (.slice E))(Ao:Nat.blt d c.n=true)
 (k:xs.length<=140737488355328->J c ops rest ((d,.int .i64 (xs.length:Int))::env) L D):
 J c ops (⟨some d,.call {callee:=.builtin .len,args:= #[x],argTypes:= #[T]},t,p,af,none⟩::rest) env L D:=by
 refine Dr.fact (q:=∃A Dc,Bk=.slice A xs.length Dc/\xs.length<=140737488355328) (fun a w f st AR=>?_) ?_
 · obtain⟨Cy,G8,Ep,AN⟩:=st.own _ (AA' Ag);rcases G8.2 with⟨rfl,Ao⟩|⟨g,cap,cur,rfl,_⟩
   · exact⟨none,0,by rw[Ao],AN⟩
   exact⟨_,_,rfl,AN⟩
 rintro⟨A,Dc,rfl,AN⟩;exact WN Ab Av Ao (k AN)
end
end
section
theorem BV{x:Int}(Af: -9223372036854775808<=x:=by omega)(h2:x<=9223372036854775807:=by omega):A' x:=⟨Af,h2⟩
theorem Aav{α:Type}{xs:List α}{i:Nat}(h:i<xs.length):xs[i]? =some xs[i]:=ABs h
instance AmP:DecidableEq ByteArray:=fun a b=>
 if h:a.data.toList=b.data.toList then .isTrue (by
  obtain⟨x⟩:=a;obtain⟨y⟩:=b;congr;exact Array.toList_inj.1 h)
 else .isFalse (fun e=>h (by rw[e]))
theorem XU(a b:ByteArray):(a.toList==b.toList)=decide (a=b):=by
 rw[AD8,AD8];by_cases h:a=b
 · subst h;simp
 have:¬a.data.toList=b.data.toList:=by
  intro e;apply h;obtain⟨x⟩:=a;obtain⟨y⟩:=b;congr;exact Array.toList_inj.1 e
 rw[beq_eq_false_iff_ne.2 this];simp[h]
def Ds(a b:ByteArray):Bool:=Op.bytesLess a.toList b.toList
section
variable{c:Cj} {ops:Array Oper} {J:Cj->Array Oper->List Oper->Env->Own->List Atom->Prop} [Dr:Ip J] {env:Env} {L:Own} {D:List Atom} {rest:List Oper} {d:Nat} {v:Value} {t:TypeId} {p:String} {af:Array Edge} {x y z:Operand} {T:TypeId} {b o:Nat} {cs:List Value} {Ec FK:TypeId}
include Dr
omit Dr in
theorem o6{n i:Nat}{a:Act}{env:Env}{u:Value}(f:Fr n a env)(h:C1 env i=some u):Fr n a ((i,u)::env):=by
 refine⟨f.size,f.GV,fun j v Ay=>?_⟩;simp only[C1]at Ay;by_cases GQ:i=j
 · subst GQ;simp at Ay;subst Ay;exact f.at_ _ _ h
 have:(i==j)=false:=by simpa using GQ
 rw[this]at Ay;exact f.at_ _ _ Ay
theorem lS{i:Nat}{t:Bool}{l:List Oper}(h:C1 env i=some (.bool t))(Af:t=true->J c ops l ((i,.bool true)::env) L D)(h2:t=false->J c ops l ((i,.bool false)::env) L D):J c ops l env L D:=by
 cases t
 · exact Dr.mono (fun a w f st AR=>⟨o6 f h,AR⟩) (h2 rfl)
 exact Dr.mono (fun a w f st AR=>⟨o6 f h,AR⟩) (Af rfl)
theorem cD{i:Nat}{q:Prop}[Decidable q]{l:List Oper}(h:C1 env i=some (.bool (decide q)))(Af:q->J c ops l ((i,.bool true)::env) L D)(h2:¬q->J c ops l ((i,.bool false)::env) L D):J c ops l env L D:=
 lS h (fun e=>Af (ABA e)) (fun e=>h2 (ACe e))
variable{s DR:ByteArray}
theorem ze(Ab:AL env x=some (.string s))(Bf:AL env y=some (.string DR))(Ao:Nat.blt d c.n=true)(k:J c ops rest ((d,.bool (decide (s=DR)))::env) L D):
 J c ops (⟨some d,.binOp .eql Ec x y FK,t,p,af,none⟩::rest) env L D:=
 pu rfl rfl Ao (fun a w f=>by simp[execOp,f.AL Ab,f.AL Bf,eqGuard,binOp,Op.stringOp,XU]) k
theorem Aen(Ab:AL env x=some (.string s))(Bf:AL env y=some (.string DR))(Ao:Nat.blt d c.n=true)(k:J c ops rest ((d,.bool (!decide (s=DR)))::env) L D):
 J c ops (⟨some d,.binOp .neq Ec x y FK,t,p,af,none⟩::rest) env L D:=
 pu rfl rfl Ao (fun a w f=>by simp[execOp,f.AL Ab,f.AL Bf,eqGuard,binOp,Op.stringOp,XU]) k
theorem Ad7(Ab:AL env x=some (.string s))(Bf:AL env y=some (.string DR))(Ao:Nat.blt d c.n=true)(k:J c ops rest ((d,.bool (Ds s DR))::env) L D):
 J c ops (⟨some d,.binOp .lss Ec x y FK,t,p,af,none⟩::rest) env L D:=
 pu rfl rfl Ao (fun a w f=>by simp[execOp,f.AL Ab,f.AL Bf,eqGuard,binOp,Op.stringOp,Ds]) k
theorem j2(Ab:AL env x=some (.string s))(Bf:AL env y=some (.string DR))(Ao:Nat.blt d c.n=true)(k:J c ops rest ((d,.bool (Ds s DR||decide (s=DR)))::env) L D):
 J c ops (⟨some d,.binOp .leq Ec x y FK,t,p,af,none⟩::rest) env L D:=
 pu rfl rfl Ao (fun a w f=>by simp[execOp,f.AL Ab,f.AL Bf,eqGuard,binOp,Op.stringOp,Ds,XU]) k
theorem AaE(Ab:AL env x=some (.string s))(Bf:AL env y=some (.string DR))(Ao:Nat.blt d c.n=true)(k:J c ops rest ((d,.bool (!(Ds s DR||decide (s=DR))))::env) L D):
 J c ops (⟨some d,.binOp .gtr Ec x y FK,t,p,af,none⟩::rest) env L D:=
 pu rfl rfl Ao (fun a w f=>by simp[execOp,f.AL Ab,f.AL Bf,eqGuard,binOp,Op.stringOp,Ds,XU]) k
omit Dr in
theorem sZ{P:Program}{T E:TypeId}(hu:P.underlying T=some (.pointer E))(a:Addr)(w:World):(Op.equal T (.pointer (some a)) (.pointer none)).run P w=.ok false w:=by
 have h:∀d:Nat,(Op.equalIn (d+1) T (.pointer (some a)) (.pointer none)).run P w=.ok false w:=fun d=>by simp[Op.equalIn,ABQ hu]
 exact h 9999
theorem M3{Dx:Addr}{E:TypeId}(hu:c.P.underlying Ec=some (.pointer E))(Ab:AL env x=some (.pointer (some Dx)))(Bf:AL env y=some (.pointer none))(Ao:Nat.blt d c.n=true)(k:J c ops rest ((d,.bool false)::env) L D):
 J c ops (⟨some d,.binOp .eql Ec x y FK,t,p,af,none⟩::rest) env L D:=
 pu rfl rfl Ao (fun a w f=>by simp[execOp,f.AL Ab,f.AL Bf,eqGuard,binOp,sZ hu]) k
theorem rG{Dx:Addr}{E:TypeId}(hu:c.P.underlying Ec=some (.pointer E))(Ab:AL env x=some (.pointer (some Dx)))(Bf:AL env y=some (.pointer none))(Ao:Nat.blt d c.n=true)(k:J c ops rest ((d,.bool true)::env) L D):
 J c ops (⟨some d,.binOp .neq Ec x y FK,t,p,af,none⟩::rest) env L D:=
 pu rfl rfl Ao (fun a w f=>by simp[execOp,f.AL Ab,f.AL Bf,eqGuard,binOp,sZ hu]) k
theorem Co{α:Type}{r:Be α}(i:Nat){ov:α}{By:Value}(Ab:AL env x=some By)(Cl:D[i]? =some (@Atom.mk (Cq α) (@F9 α r) By ⟨ov⟩))(Ao:Nat.blt d c.n=true)(k:J c ops rest ((d,By)::env) L D):
 J c ops (⟨some d,.nilCheck x,t,p,af,none⟩::rest) env L D:=by
 refine Dr.fact (q:=∃Dx,By=.pointer (some Dx)) (fun a w f st AR=>?_) ?_
 · obtain⟨b,o,Cx,rfl,_⟩:=@Rp α r _ _ _ _ (AR.at_ i Cl);exact⟨_,rfl⟩
 rintro⟨Dx,rfl⟩;exact Va Ab Ao k
theorem Le{α:Type}{r:Be α}(i:Nat){ov:List α}{By:Value}(Ab:AL env x=some By)(Cl:D[i]? =some (@Atom.mk (Cq (List α)) (@F9 (List α) (@FI α r)) By ⟨ov⟩)){E:TypeId}(Av:Nv c.P E)(Ao:Nat.blt d c.n=true)(k:∀u,J c ops rest ((d,u)::env) L ((@Atom.mk (List α) (@FI α r) u ov)::D)):
 J c ops (⟨some d,.load E x,t,p,af,none⟩::rest) env L D:=
 qZ (r:=@FI α r) i Ab Cl rfl rfl (by rintro S w cs ⟨A,Dc,rfl,_⟩;rfl) Av Ao k
omit Dr in
theorem Ahi{α:Type}[r:Be α]{S:Nat->Prop}{w:World}{A:Option Addr}{xs:List α}{Dc l h m:Nat}(AJ:cp S w [.slice A xs.length Dc] xs)(Af:l<=h)(h2:h<=xs.length)(Bo:h<=m)(BB:m<=Dc):
 cp S w [.slice (if m=l then A else A.map (·.add (l*r.size))) (h-l) (m-l)] ((xs.take h).drop l):=by
 obtain⟨Vx,xQ,he,Hj,G1,Jt,NI⟩:=AJ;simp only[ACj,Value.slice.injEq,and_true]at he;obtain⟨rfl,_,rfl⟩:=he;have hlen:((xs.take h).drop l).length=h-l:=by simp;omega
 refine⟨_,m-l,by rw[hlen],AMT,AMT,AMT,fun FG=>?_⟩;have C_:l<h:=by
  have:((xs.take h).drop l).length≠0:=fun e=>FG (ADo e);omega
 obtain⟨b,o,rfl,BO,Ag⟩:=NI (by intro e;rw[e]at h2;simp at h2;omega);rw[AA9 AMT];refine⟨b,o+l*r.size,by simp[ACm],BO,fun i x Ab=>?_⟩;rw[ADh,ACl]at Ab;split at Ab
 · obtain⟨Cx,Bh,AN⟩:=Ag _ x Ab;refine⟨Cx,Bh,?_⟩;rw[Nat.add_mul,<-ADs]at AN;exact AN
 cases Ab
theorem lP{α:Type}{r:Be α}(i:Nat){xs:List α}{Bk:Value}{BQ Ag bJ:Operand}{l h m:Int}{E:TypeId}(Ab:AL env x=some Bk)(Cl:D[i]? =some (@Atom.mk (List α) (@FI α r) Bk xs))(Av:H5 c.P T E r.size)
 (B4:AL env BQ=some (.int .i64 l))(DC:AL env Ag=some (.int .i64 h))(Kk:AL env bJ=some (.int .i64 m))(Bw:0<=l)(Af:l<=h)(h2:h<=m)(Bo:m<=(xs.length:Int))(Ao:Nat.blt d c.n=true)
 (k:∀u,J c ops rest ((d,u)::env) L ((@Atom.mk (List α) (@FI α r) u ((xs.take h.toNat).drop l.toNat))::D)):
 J c ops (⟨some d,.slice T x (some BQ) (some Ag) (some bJ),t,p,af,none⟩::rest) env L D:=
 Dr.read (σ:=Value) rfl rfl (fun u=>(d,u)::env) (fun u=>(@Atom.mk (List α) (@FI α r) u ((xs.take h.toNat).drop l.toNat))::D) (fun a w f st AR=>by
  obtain⟨AK,Ep⟩:=AR.at_ i Cl;obtain⟨A,Dc,EX,_⟩:=Ep;simp only at EX AK;rw[NC AK]at EX;have EX:Bk=.slice A xs.length Dc:=(by simpa using EX);subst EX;have Ep:cp (Et L.nd w) w [.slice A xs.length Dc] xs:=(AR.at_ i Cl).2;have Tn:xs.length<=Dc:=by
   obtain⟨Vx,xQ,he,Hj,_⟩:=Ep;simp only[ACj,Value.slice.injEq,and_true]at he;omega
  obtain⟨j,Ay,hs⟩:=ACr.1 Av.2;have CY:0<=m/\m<=(Dc:Int):=AMT;have Dh:0<=h/\h<=(m.toNat:Int):=AMT;have DQ:0<=l/\l<=(h.toNat:Int):=AMT;have dG:h<=max m 0:=AMT;have hB:l<=max h 0:=AMT;refine⟨.slice (if m.toNat=l.toNat then A else A.map (·.add (l.toNat*r.size))) (h.toNat-l.toNat) (m.toNat-l.toNat),_,fun AT HW=>?_,f.put _ (EU Ao),BP.cons ⟨rfl,Ahi Ep (l:=l.toNat) (h:=h.toNat) (m:=m.toNat) AMT AMT AMT AMT⟩ AR⟩;simp[execOp,f.AL Ab,f.AL B4,f.AL DC,f.AL Kk,Instr.sliceAt,ABQ Av.1,Instr.slice,Instr.sliceBounds,Instr.sliceBound,asIntOf,CY,Dh,DQ,dG,hB,sizeOf,typeInfo,Ay,hs]) k
omit Dr in
theorem AjT(nd:List UInt8):strOfNums (nd.map fun b=>(b.toNat:Int))=⟨nd.toArray⟩:=by
 unfold strOfNums;congr 2;rw[ARS];have:((fun(n:Int)=>UInt8.ofNat n.toNat)∘fun(b:UInt8)=>(b.toNat:Int))=id:=by
  funext b;simp
 rw[this,List.map_id]
theorem xU(i:Nat){nd:List UInt8}{Bk:Value}{src e dst:TypeId}(hs:c.P.underlying src=some (.slice e))(he:c.P.underlying e=some (.int .u8))(AJ:c.P.underlying dst=some .string)(Ab:AL env x=some Bk)(Cl:D[i]? =some (⟨Bk,nd⟩:Atom))(Ao:Nat.blt d c.n=true)
 (k:J c ops rest ((d,.string ⟨nd.toArray⟩)::env) L D):
 J c ops (⟨some d,.convert src dst x,t,p,af,none⟩::rest) env L D:=
 Dr.read (σ:=Unit) rfl rfl (fun _=>(d,.string ⟨nd.toArray⟩)::env) (fun _=>D) (fun a BW f st oo=>by
  refine⟨(),.string ⟨nd.toArray⟩,fun w Yx=>?_,f.put _ (EU Ao),oo⟩;have AR:=oo.step Yx.nil;obtain⟨AK,A,Dc,EX,Af,h2,Bo,BB⟩:=AR.at_ i Cl;simp only at EX AK;rw[NC AK]at EX;have EX:Bk=.slice A nd.length Dc:=(by simpa using EX);subst EX;by_cases Aq:nd=[]
  · subst Aq;cases A with
    |none=>
     have:=run_convert_bytes_nil (P:=c.P) w src e hs he 0 Dc dst AJ;simp only[execOp,f.AL Ab,ABY,ABo,this,AB',ACk];rfl
    |some RJ=>
     have Ek:(convert src dst (.slice (some RJ) 0 Dc)).run c.P w=.ok (.string ByteArray.empty) w:=by
      rw[run_convert_bytes_string w src dst e _ 0 Dc hs he AJ];simp[Conv.bytesToString,loadCells,loadCellsFrom]
     simp only[execOp,f.AL Ab,ABY,ABo,Ek,AB',ACk];rfl
  obtain⟨b,o,rfl,BO,Ag⟩:=BB Aq;have:=run_convert_bytes_arg (P:=c.P) w src e hs he b o nd.length Dc (nd.map fun b=>(b.toNat:Int)) (by simp) (fun j Ay=>by
   have J9:nd[j]? =some nd[j]:=ABs Ay;obtain⟨Cx,⟨rfl,_⟩,AN⟩:=Ag j _ J9;have EY:Be.size UInt8=1:=rfl;have:=AN 0 _ rfl;rw[EY,Nat.mul_one,Nat.add_zero]at this;rw[this];simp[List.getD,Ay]) dst AJ
  rw[AjT]at this;simp only[execOp,f.AL Ab,ABY,this,AB',ACk]) (fun _=>k)
def Po{α:Type}[DecidableEq α](P:Program)(T:TypeId)(cells:α->List Value):Prop:=
 P.eqGuardType P.depth T=false/\∀(a b:α) (w:World),(Op.equalIn 10000 T (.agg (cells a).toArray) (.agg (cells b).toArray)).run P w=.ok (decide (a=b)) w
theorem RU{α:Type}[DecidableEq α]{cells:α->List Value}(Av:Po c.P Ec cells)(u Pc:α)(Ab:AL env x=some (.agg (cells u).toArray))(Bf:AL env y=some (.agg (cells Pc).toArray))(Ao:Nat.blt d c.n=true)(k:J c ops rest ((d,.bool (decide (u=Pc)))::env) L D):
 J c ops (⟨some d,.binOp .eql Ec x y FK,t,p,af,none⟩::rest) env L D:=
 pu rfl rfl Ao (fun a w f=>by simp[execOp,f.AL Ab,f.AL Bf,run_eqGuard_agg _ _ _ _ _ _ _ Av.1,run_eql_struct,Av.2]) k
theorem Qo{α:Type}[DecidableEq α]{cells:α->List Value}(Av:Po c.P Ec cells)(u Pc:α)(Ab:AL env x=some (.agg (cells u).toArray))(Bf:AL env y=some (.agg (cells Pc).toArray))(Ao:Nat.blt d c.n=true)(k:J c ops rest ((d,.bool (!decide (u=Pc)))::env) L D):
 J c ops (⟨some d,.binOp .neq Ec x y FK,t,p,af,none⟩::rest) env L D:=
 pu rfl rfl Ao (fun a w f=>by simp[execOp,f.AL Ab,f.AL Bf,run_eqGuard_agg _ _ _ _ _ _ _ Av.1,run_neq_struct,Av.2]) k
end
section
variable{c:Cj} {ops:Array Oper} {Q:AuE} {env:Env} {L:Own} {D:List Atom} {rest:List Oper} {d:Nat} {v:Value} {t:TypeId} {p:String} {af:Array Edge} {x y z:Operand} {s:ByteArray}
theorem oa{src dst e:TypeId}(hs:c.P.underlying src=some .string)(AJ:c.P.underlying dst=some (.slice e))(he:c.P.underlying e=some (.int .u8))(Ab:AL env x=some (.string s))(AN:s.size<=140737488355328)(Ao:Nat.blt d c.n=true)
 (k:∀u,Cb Q c ops rest ((d,u)::env) L ((⟨u,s.data.toList⟩:Atom)::D)):
 Cb Q c ops (⟨some d,.convert src dst x,t,p,af,none⟩::rest) env L D:=
 Ue (σ:=Value) rfl rfl (fun u=>(d,u)::env) (fun _=>L) (fun u=>(⟨u,s.data.toList⟩:Atom)::D) (fun a w f st AR=>by
  have Ek:=run_bytes_of_string (P:=c.P) w src dst e s hs AJ he;have aX:=grownCap_ge w s.size 0 e;have hle:=grownCap_le_maxLen w s.size 0 e (by simp only[maxLen];omega);generalize eB:grownCap w s.size 0 e=C at Ek aX hle;have Qf:C8 [] w (w.drew.alloc (.cells (bytesRow s C) e ((bytesRow s C).size,(bytesRow s C).size+1))):=(C8.drew [] w).trans (C8.alloc [] w.drew _);refine⟨.slice (some ⟨w.heap.size,0,none⟩) s.size C,_,_,by simp only[execOp,f.AL Ab,ABY,Ek,AB',ACk],f.put _ (EU Ao),st.step Qf,BP.cons ⟨rfl,?_⟩ (AR.step Qf.nil)⟩;have hlen:s.data.toList.length=s.size:=Array.length_toList;refine⟨some ⟨w.heap.size,0,none⟩,C,by rw[hlen];rfl,by rw[hlen];exact aX,by simpa only[maxLen]using hle,by rw[hlen];omega,fun _=>⟨w.heap.size,0,rfl,⟨?_,fun Ab=>?_⟩,fun i x Ab=>⟨[.int .u8 (x.toNat:Int)],⟨rfl,trivial⟩,fun j u hu=>?_⟩⟩⟩
  · show w.heap.size<(w.heap.push _).size;simp
  · have:=st.lt _ Ab;omega
  have Ay:j=0:=by
   have:=(ABF.1 hu).1;simp at this;omega
  subst Ay;simp at hu;subst hu;have eQ:(w.drew.alloc (.cells (bytesRow s C) e ((bytesRow s C).size,(bytesRow s C).size+1))).heap[w.heap.size]? =some (.cells (bytesRow s C) e ((bytesRow s C).size,(bytesRow s C).size+1)):=heap_alloc_new w.drew _;have Ag:i<s.data.size:=by
   have:=(ABF.1 Ab).1;simpa using this
  rw[AB9 _ _ _ _ _ _ eQ];have HX:s.data[i]? =some x:=(by simpa using Ab);have EY:Be.size UInt8=1:=rfl;simp only[bytesRow,EY,AB0,Nat.mul_one,Nat.add_zero];rw[Array.getElem?_append_left (by simpa using Ag)];simp[HX]) k
end
end
section
section
variable{c:Cj} {ops:Array Oper} {Q:AuE} {env:Env} {L:Own} {D:List Atom} {rest:List Oper} {d:Nat} {v:Value} {t:TypeId} {p:String} {af:Array Edge}
theorem nK{L L':Own}(h:L.Perm L'):(Dt L).Perm (Dt L'):=by
 induction h with
 |nil=>exact .refl _
 |cons x _ Cg=>exact(List.Perm.append_left x.nd Cg)
 |swap x y l=>
  simp only[Dt,<-ACN];exact List.Perm.append_right _ List.perm_append_comm
 |trans _ _ Af h2=>exact Af.trans h2
theorem CI.perm{BW w:World}{M:List Nat}{L L':Own}(h:CI BW M w L)(AH:L.Perm L'):CI BW M w L':=by
 have Aq:=nK AH;refine⟨h.Ln,fun q B'=>q.DY (h.own q (AH.mem_iff.2 B')) (fun b Ab=>⟨Ab.1,fun Bf=>Ab.2 (Aq.mem_iff.2 Bf)⟩) (fun _ _=>rfl),Aq.nodup_iff.1 h.AGm,fun b Ab=>h.new b (Aq.mem_iff.2 Ab)⟩
theorem BP.perm{w:World}{L L':Own}(h:BP D w L)(AH:L.Perm L'):BP D w L':=by
 have Aq:=nK AH;exact fun t Av=>Atom.DY (h t Av) (fun b Ab=>⟨Ab.1,fun Bf=>Ab.2 (Aq.mem_iff.2 Bf)⟩) (fun _ _=>rfl)
theorem V7:∀{L:Own} {i:Nat} {q:C4},L[i]? =some q->L.Perm (q::L.eraseIdx i)
 |[],i,q,h=>by simp at h
 |p::r,0,q,h=>by simp at h;subst h;exact .refl _
 |p::r,i+1,q,h=>by
  simp only[ABC]at h;exact((V7 h).cons p).trans (.swap _ _ _)
theorem D9(i:Nat){q:C4}{l:List Oper}(Ag:L[i]? =some q)(k:Cb Q c ops l env (q::L.eraseIdx i) D):Cb Q c ops l env L D:=
 fun a w f st AR=>k a w f (st.perm (V7 Ag)) (AR.perm (V7 Ag))
theorem B8(i:Nat){q:C4}{x:Code}(Ag:L[i]? =some q)(k:CF c x Q env (q::L.eraseIdx i) D):CF c x Q env L D:=
 fun a w f st AR=>k a w f (st.perm (V7 Ag)) (AR.perm (V7 Ag))
theorem Au(i:Nat){q:C4}{e:Exit}(Ag:L[i]? =some q)(k:Eg c Q e env (q::L.eraseIdx i) D):Eg c Q e env L D:=
 fun a w f st AR=>k a w f (st.perm (V7 Ag)) (AR.perm (V7 Ag))
theorem nW{L0 Lr:Own}{f:FuncId}{us:List Value}{DB:List Atom}{β:Type}{R:β->Value->Prop}{DM:β->Value->Own}{out:β->Value->List Atom}(h:Aw c.P f us L0 DB R DM out)(Cl:Bg DB D):
 ∀w,CI c.BW c.M w (L0++Lr)->BP D w (L0++Lr)->QK c.P f us w (fun v AT=>∃y,R y v/\CI c.BW c.M AT (DM y v++Lr)/\BP (out y v++D) AT (DM y v++Lr)):=by
 intro w st AR;have Hu:∀A:Own,Own.nd (A++Lr)=A.nd++Lr.nd:=fun A=>by simp[Own.nd,OJ]
 have OZ:=st.AGm;rw[Hu]at OZ;have C_:∀b,b∈L0.nd\/b∈Lr.nd->b<w.heap.size:=fun b Aq=>st.lt b (by rw[Hu];exact ABm.2 Aq);refine(h Lr.nd w OZ (fun b Aq=>C_ b (.inr Aq)) (fun q B'=>?_) (fun t Av=>?_)).mono fun v AT AH=>?_
 · have:=st.own q (ABm.2 (.inl B'))
   rwa [Hu]at this
 · have:=AR t (Cl t Av)
   rwa [Hu]at this
 obtain⟨hs,y,Fy,Dv,Ao,Aq,A7⟩:=AH;have Hv:∀b,b∈Own.nd (DM y v++Lr)->b∈Own.nd (L0++Lr)\/w.heap.size<=b:=by
  intro b Ab;rw[Hu]at Ab ⊢;rcases ABm.1 Ab with Ab|Ab
  · exact(Aq b Ab).imp (fun h=>ABm.2 (.inl h)) id
  exact .inl (ABm.2 (.inr Ab))
 have Lc:∀b,Et (Own.nd (L0++Lr)) w b->Et (Own.nd (DM y v++Lr)) AT b:=fun b Ab=>⟨ACp Ab.1 hs.size,fun Bf=>by
  rcases Hv b Bf with Af|Af
  · exact Ab.2 Af
  have:=Ab.1;omega⟩
 have jk:=ACv.1 OZ;refine⟨y,Fy,⟨st.Ln.mc hs (fun b Ab=>st.new b (by rw[Hu];exact ABm.2 (.inl Ab))),?_,?_,?_⟩,BP.app (fun t Av=>?_) (AR.Zo (hs.mono fun b Ab=>by rw[Hu];exact ABm.2 (.inl Ab)) Hv)⟩
 · intro q B';rcases ABm.1 B' with B'|B'
   · rw[Hu];exact Dv q B'
   refine q.DY (st.own q (ABm.2 (.inr B'))) Lc (fun b Ab=>hs.block b ?_ ?_)
   · rcases Ab with Ab|Ab
     · exact Ab.1
     exact C_ b (.inr (FW.2 ⟨q,B',Ab⟩))
   rcases Ab with Ab|Ab
   · exact fun Bf=>Ab.2 (by rw[Hu];exact ABm.2 (.inl Bf))
   exact fun Bf=>jk.2.2 b Bf b (FW.2 ⟨q,B',Ab⟩) rfl
 · rw[Hu,ACv];refine⟨Ao,jk.2.1,fun a AK b EP e=>?_⟩;subst e;rcases Aq a AK with Af|Af
   · exact jk.2.2 a Af a EP rfl
   have:=C_ a (.inr EP);omega
 · intro b Ab;rcases Hv b Ab with Af|Af
   · exact st.new b Af
   exact .inr (ABB st.Ln.size Af)
 rw[Hu];exact A7 t Av
theorem XY{L0 Lr:Own}{f:FuncId}{vs:List Value}{DB:List Atom}{β:Type}{R:β->Value->Prop}{DM:β->Value->Own}{out:β->Value->List Atom}(h:Aw c.P f vs L0 DB R DM out)(CM:GU c.P f)(Dv:L=L0++Lr){xs:List Operand}{ats:Array TypeId}
 (Hm:Gq env xs=some vs)(Cl:Bg DB D)(Ao:Nat.blt d c.n=true)(k:∀y v,R y v->Cb Q c ops rest ((d,v)::env) (DM y v++Lr) (out y v++D)):
 Cb Q c ops (⟨some d,.call {callee:=.value (.func f),args:=xs.toArray,argTypes:=ats},t,p,af,none⟩::rest) env L D:=by
 subst Dv;exact S4 (x:=.func f) (first:= #[]) (cap:= #[]) rfl Hm (by simp) CM _ (nW h Cl) (fun _ v=>(d,v)::env) (fun _ v a f=>f.put v (EU Ao)) k
theorem hD{L0 Lr:Own}{f:FuncId}{vs us:List Value}{DB:List Atom}{β:Type}{R:β->Value->Prop}{DM:β->Value->Own}{out:β->Value->List Atom}{first cap:Array Value}{x:Operand}(h:Aw c.P f us L0 DB R DM out)(CM:GU c.P f)(Dv:L=L0++Lr){xs:List Operand}{ats:Array TypeId}
 (Ab:AL env x=some (.func (.func f) first cap))(Hm:Gq env xs=some vs)(I1:first.toList++vs++cap.toList=us)(Cl:Bg DB D)(Ao:Nat.blt d c.n=true)(k:∀y v,R y v->Cb Q c ops rest ((d,v)::env) (DM y v++Lr) (out y v++D)):
 Cb Q c ops (⟨some d,.call {callee:=.value x,args:=xs.toArray,argTypes:=ats},t,p,af,none⟩::rest) env L D:=by
 subst Dv;exact S4 Ab Hm I1 CM _ (nW h Cl) (fun _ v=>(d,v)::env) (fun _ v a f=>f.put v (EU Ao)) k
end
structure MV where
 E8:Nat->List Nat
 ok:Nat->Value->Prop
 at_:Nat->Value->List Atom
 L:List Value->Own
 Eu:List Nat
def CN(l:List Oper)(i:Nat):Option Nat:=(l[i]?).bind (·.dst)
def Gp(l:List Oper)(k i:Nat):Bool:=match l[i]? with
 |some o=>o.after.toList.any fun e=>Region.binds .any e&&e.on==k
 |none=>false
def Qi(env:Env)(d:Nat):Bool:=env.any fun p=>p.1==d
def ND(l:List Oper):Bool:=(List.range l.length).all fun i=>match l[i]? with
 |some o=>o.after.toList.all fun e=> !Region.binds .any e||Nat.blt e.on i
 |none=>true
def Pv(l:List Oper)(env:Env):Bool:=(List.range l.length).all fun i=>match CN l i with
 |none=>true
 |some d=> !Qi env d&&(List.range l.length).all fun j=>i==j|| !(CN l j==some d)
def LX(l:List Oper)(n:Nat):Bool:=l.all fun o=>match o.dst with
 |none=>true
 |some d=>Nat.blt d n
def fz(l:List Oper)(Eu:List Nat)(i:Nat):List Nat:=(List.range (Eu.length+1)).filter fun j=>
 (List.range Eu.length).all fun e=>match Eu[e]? with
  |none=>true
  |some x=>(!(x==i)||j==e)&&(!(Gp l i x)||Nat.ble j e)&&(!(Gp l x i)||Nat.blt e j)
def Eo(l:List Oper)(V:Nat->Value):List Nat->Env
 |[]=>[]
 |k::r=>match CN l k with
  |some d=>(d,V k)::Eo l V r
  |none=>Eo l V r
def FM(s:MV)(V:Nat->Value):List Nat->List Atom
 |[]=>[]
 |k::r=>s.at_ k (V k)++FM s V r
def E7{α:Type}(q:α->Prop):List α->Prop
 |[]=>True
 |x::r=>q x/\E7 q r
theorem E7.mem{α:Type}{q:α->Prop}:∀{l:List α},E7 q l->∀x∈l,q x
 |y::r,h,x,Ab=>by
  rcases ABf.1 Ab with rfl|Ab
  · exact h.1
  exact E7.mem h.2 x Ab
def pre(s:MV)(V:Nat->Value)(j:Nat):List Value:=(s.Eu.take j).map V
def bL(s:MV)(vs:List Value)(i:Nat)(u:Value):Own:=if s.Eu.contains i then s.L (vs++[u])else s.L vs
def Il(l:List Oper)(a:Act)(i:Nat):Value:=match CN l i with
 |some d=>a.tmps.getD d undef
 |none=>undef
def TK(c:Cj)(l:List Oper)(s:MV)(D:List Atom)(i:Nat)(vs:List Value):AuE:=fun e a w=>
 e=.normal/\a.defers=[]/\CI c.BW c.M w (bL s vs i (Il l a i))/\BP D w (bL s vs i (Il l a i))/\∀d,CN l i=some d->s.ok i (a.tmps.getD d undef)/\BP (s.at_ i (a.tmps.getD d undef)) w (bL s vs i (Il l a i))
def VI(c:Cj)(l:List Oper)(s:MV)(env:Env)(D:List Atom):List Oper->Nat->Prop
 |[],_=>True
 |o::r,i=>(∀(V:Nat->Value) (Az:List Atom),E7 (fun k=>s.ok k (V k)) (s.E8 i)->
  E7 (fun j=>Cb (TK c l s (D++Az) i (pre s V j)) c l.toArray [o] (Eo l V (s.E8 i)++env) (s.L (pre s V j)) (FM s V (s.E8 i)++(D++Az))) (fz l s.Eu i))/\VI c l s env D r (i+1)
def valOf(l:List Oper)(a:Act)(i:Nat):Value:=Il l a i
structure SW (c:Cj) (l:List Oper) (s:MV) (env:Env) (D:List Atom) (A8:Array Bool) (a:Act) (w:World) (j:Nat):Prop where
 Gw:Fr c.n a env
 st:CI c.BW c.M w (s.L (pre s (valOf l a) j))
 AR:BP D w (s.L (pre s (valOf l a) j))
 size:A8.size=l.length
 closed:∀i k,A8.getD i false=true->Gp l k i=true->A8.getD k false=true
 slot:∀i d,A8.getD i false=true->CN l i=some d->s.ok i (a.tmps.getD d undef)/\BP (s.at_ i (a.tmps.getD d undef)) w (s.L (pre s (valOf l a) j))
 done:∀e x,s.Eu[e]? =some x->(A8.getD x false=true↔e<j)
 le:j<=s.Eu.length
section
variable{c:Cj} {l:List Oper} {s:MV} {env:Env} {D:List Atom} {Q:AuE}
theorem mj{P:Program}{o:Oper}{a:Act}{w:World}{K:Act->World->Prop}{Q Q':AuE}(AH:∀XZ a w,¬Q (.panic XZ) a w)(A7:¬LetsOut Q)(h:o.wp P a w K Q):o.wp P a w K Q':=by
 unfold Oper.wp at*;generalize (execOp a.eval o).run P w=r at*;cases r with
 |ok n AT=>
  cases n<;>simp only[Oper.upon]at h ⊢ <;>try exact h
  exact Calls.mono h fun e Xq he=>by
   cases e with
   |returned v=>exact he
   |panicked XZ=>exact absurd he (AH _ _ _)
   |outgrown=>exact absurd he A7
 |halt x AT=>
  cases x<;>simp only[Oper.upon]at h ⊢ <;>try exact h
  exact absurd h (AH _ _ _)
theorem YO{A B:Env}{i:Nat}{v:Value}(h:C1 (A++B) i=some v):C1 A i=some v\/(Qi A i=false/\C1 B i=some v):=by
 induction A with
 |nil=>exact .inr ⟨rfl,h⟩
 |cons p r Cg=>
  obtain⟨j,u⟩:=p;simp only[List.cons_append,C1]at h ⊢;by_cases Ay:j=i
  · subst Ay;simp at h ⊢;exact .inl h
  have J9:(j==i)=false:=(by simpa using Ay);rw[J9]at h ⊢;simp only[ACx]at h ⊢;rcases Cg h with Af|Af
  · exact .inl Af
  exact .inr ⟨by simp[Qi,Ay];simpa[Qi]using Af.1,Af.2⟩
theorem U'{V:Nat->Value}:∀{is:List Nat} {i:Nat} {v:Value},C1 (Eo l V is) i=some v->∃k∈is,CN l k=some i/\V k=v
 |[],_,_,h=>by cases h
 |k::r,i,v,h=>by
  simp only[Eo]at h;split at h
  · rename_i d AJ;simp only[C1]at h;by_cases KN:d=i
    · subst KN;simp at h;exact⟨k,by simp,AJ,h⟩
    have:(d==i)=false:=(by simpa using KN);rw[this]at h;obtain⟨Gh,MC,Af⟩:=U' h;exact⟨Gh,by simp[MC],Af⟩
  obtain⟨Gh,MC,Af⟩:=U' h;exact⟨Gh,by simp[MC],Af⟩
theorem bw{env:Env}{i:Nat}{v:Value}(h:C1 env i=some v):Qi env i=true:=by
 induction env with
 |nil=>cases h
 |cons p r Cg=>
  obtain⟨j,u⟩:=p;simp only[C1]at h;by_cases Ay:j=i
  · subst Ay;simp[Qi]
  have:(j==i)=false:=(by simpa using Ay);rw[this]at h;have:=Cg h;simp only[Qi,List.any_cons]at this ⊢;simp[this]
theorem SW.frame{A8:Array Bool}{a:Act}{w:World}{j:Nat}(m:SW c l s env D A8 a w j)(EY:LX l c.n=true){is:List Nat}(AN:∀k∈is,k<l.length):Fr c.n a (Eo l (valOf l a) is++env):=by
 refine⟨m.Gw.size,m.Gw.GV,fun i v Ag=>?_⟩;rcases YO Ag with h|h
 · obtain⟨k,AE,AJ,BC⟩:=U' h;simp only[valOf]at BC;have Lb:=AN k AE;have C_:i<c.n:=by
    have:=List.all_eq_true.1 EY (l[k]) (ACF Lb);have F6:(l[k]).dst=some i:=(by simpa[CN,ABs Lb]using AJ);rw[F6]at this;exact EU this
   have:i<a.tmps.size:=(by rw[m.Gw.size];exact C_);rw[<-BC];simp[this,Il,AJ]
 exact m.Gw.at_ _ _ h.2
theorem S9{k i:Nat}{o:Oper}(A7:l[i]? =some o):Gp l k i=true↔∃e∈o.after,Region.binds .any e=true/\e.on=k:=by
 simp only[Gp,A7,List.any_eq_true,ABb,beq_iff_eq];constructor
 · rintro⟨e,he,Af,h2⟩;exact⟨e,AC3.1 he,Af,h2⟩
 rintro⟨e,he,Af,h2⟩;exact⟨e,AC3.2 he,Af,h2⟩
theorem E7.intro{α:Type}{q:α->Prop}:∀{l:List α},(∀x∈l,q x)->E7 q l
 |[],_=>trivial
 |y::r,h=>⟨h y (by simp),E7.intro fun x Ab=>h x (by simp[Ab])⟩
theorem OQ{A8:Array Bool}{i:Nat}(h:i<A8.size):A8.getD i true=A8.getD i false:=by simp[h]
theorem Ia{A8:Array Bool}{i k:Nat}(Ag:i<A8.size):(A8.setIfInBounds i true).getD k false=(i==k||A8.getD k false):=by
 by_cases h:i=k
 · subst h;simp[Ag]
 have:(i==k)=false:=by simpa using h
 simp[Array.getElem?_setIfInBounds_ne h,this]
theorem dQ{α:Type}{p q:α->Bool}:∀{L:List α},(∀x∈L,q x=true->p x=true)->(∃x∈L,p x=true/\q x=false)->L.countP q<L.countP p
 |[],_,h=>by obtain⟨x,Ab,_⟩:=h;cases Ab
 |y::r,h,Ab=>by
  have hle:r.countP q<=r.countP p:=List.countP_mono_left fun x Ab=>h x (by simp[Ab]);by_cases Bf:p y=true/\q y=false
  · rw[AEa Bf.1,AEk (by simp[Bf.2])];omega
  obtain⟨x,Ab,AH,B'⟩:=Ab;have Acy:x∈r:=by
   rcases ABf.1 Ab with rfl|Ab
   · exact absurd ⟨AH,B'⟩ Bf
   exact Ab
  have Cg:=dQ (fun x Ab=>h x (by simp[Ab])) ⟨x,Acy,AH,B'⟩;by_cases B':q y=true
  · rw[AEa B',AEa (h y (by simp) B')];omega
  rw[AEk B'];by_cases AH:p y=true
  · rw[AEa AH];omega
  rw[AEk AH];exact Cg
theorem Px(m j:Nat):(Array.replicate m false).getD j false=false:=by
 rcases ACq j m with h|h
 · simp[h]
 simp[h]
end
end
end Go.A_
