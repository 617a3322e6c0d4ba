/- Part 3 of shardWhole_holds. -/
import Derived.Scope
import Derived.Great.BuildSlice
import Derived.Laws.Cover3
import Derived.Laws.Externs
import Derived.Lib.Bytealg
import Derived.StillTail
import Derived.Test.YtklmcfecakaanaaGreatSq2

set_option maxRecDepth 20000
set_option maxHeartbeats 1000000
namespace Go
theorem ACy:∀{a b:Bool},a=b↔(a=true↔b=true):=@Bool.eq_iff_iff
theorem ACH:∀(b:Bool),(¬b=true)=(b=false):=@Bool.not_eq_true
theorem ABk:∀(a b:Bool),((a||b)=true)=(a=true∨b=true):=@Bool.or_eq_true
theorem ABw:∀{m n:Nat},m∈List.range n↔m<n:=@List.mem_range
theorem ADI:∀(n:Nat),n-n=0:=@Nat.sub_self
theorem ABE:∀{α:Sort _} {β:Sort _} {a₁ a₂:α} (f:α→β),a₁=a₂→f a₁=f a₂:=@congrArg
theorem ABa:∀{p:Prop} [Decidable p],(decide p=true)=p:=@decide_eq_true_eq
end Go
open Go.ByteArray renaming toList_eq→AD8
open Go.Result renaming andThen_ok→AB'
open Go.Sem renaming run_bind→ABY,run_pure→ACk
open List renaming all_eq_true→ABq,length_append→ABP,length_cons→ABv,map_nil→ACU,map_toArray→ACQ,nil_append→ABK
open List.cons renaming injEq→ACj
open Option renaming map_eq_some_iff→ACr
open Option.some renaming injEq→ABX
open Prod.mk renaming injEq→ACg
open UInt8 renaming lt_iff_toNat_lt→ACG
namespace Go.A_
section
def EC(Eb:Nat->Option Value)(V:Nat->Value)(i:Nat):Value:=(Eb i).getD (V i)
@[reducible] def Sx(s:MV)(Eb:Nat->Option Value):MV:={s with ok:=fun i u=>match Eb i with
 |some v=>u=v
 |none=>s.ok i u}
def dn(c:Cj)(l:List Oper)(s:MV)(Eb:Nat->Option Value)(env:Env)(D:List Atom):List Oper->Nat->Prop
 |[],_=>True
 |o::r,i=>(∀(V:Nat->Value) (Az:List Atom),E7 (fun k=>Eb k=none->s.ok k (V k)) (s.E8 i)->
  E7 (fun j=>Cb (TK c l (Sx s Eb) (D++Az) i (pre s V j)) c l.toArray [o] (Eo l (EC Eb V) (s.E8 i)++env) (s.L (pre s V j)) (FM s (EC Eb V) (s.E8 i)++(D++Az))) (fz l s.Eu i))/\dn c l s Eb env D r (i+1)
theorem E7.imp{α:Type}{q EJ:α->Prop}:∀{l:List α},E7 q l->(∀x∈l,q x->EJ x)->E7 EJ l
 |[],_,_=>trivial
 |x::_,h,Ag=>⟨Ag x (ABx ..) h.1,E7.imp h.2 fun y Bf=>Ag y (ABR _ Bf)⟩
theorem UC{l:List Oper}{V ZT:Nat->Value}:∀{ks:List Nat},(∀k∈ks,(CN l k).isSome=true->V k=ZT k)->Eo l V ks=Eo l ZT ks
 |[],_=>rfl
 |k::r,h=>by
  have Cg:=UC (ks:=r) fun x Ab=>h x (ABR _ Ab);have AE:=h k (ABx ..);simp only[Eo];cases AJ:CN l k with
  |none=>exact Cg
  |some d=>rw[AJ]at AE;simp only;rw[Cg,AE rfl]
theorem ZY{s:MV}{V ZT:Nat->Value}:∀{ks:List Nat},(∀k∈ks,V k=ZT k)->FM s V ks=FM s ZT ks
 |[],_=>rfl
 |k::r,h=>by
  simp only[FM];rw[h k (ABx ..),ZY fun x Ab=>h x (ABR _ Ab)]
theorem wq{s:MV}{Eb:Nat->Option Value}{V:Nat->Value}{k:Nat}(h:(Sx s Eb).ok k (V k)):V k=EC Eb V k:=by
 unfold EC;simp only[]at h;split at h
 · rename_i v BC;rw[BC];exact h
 rename_i BC;rw[BC];rfl
theorem Afp{s:MV}{Eb:Nat->Option Value}{V:Nat->Value}{k:Nat}(h:(Sx s Eb).ok k (V k))(Ao:Eb k=none):s.ok k (V k):=by
 simp only[Ao]at h;exact h
section
variable{c:Cj} {l:List Oper} {s:MV} {Eb:Nat->Option Value} {env:Env} {D:List Atom} {Q:AuE}
theorem dn.to:∀{r:List Oper} {i:Nat},dn c l s Eb env D r i->VI c l (Sx s Eb) env D r i
 |[],_,_=>trivial
 |o::r,i,h=>⟨fun V Az LC=>by
  have Af:=h.1 V Az (LC.imp fun k _ AE=>fun Ao=>Afp AE Ao);have e:∀k∈s.E8 i,V k=EC Eb V k:=fun k AE=>wq (LC.mem k AE);have B4:Eo l V (s.E8 i)=Eo l (EC Eb V) (s.E8 i):=UC fun k AE _=>e k AE;have DC:FM (Sx s Eb) V (s.E8 i)=FM s (EC Eb V) (s.E8 i):=(ZY e).trans (by
   generalize s.E8 i=ks;induction ks with
   |nil=>rfl
   |cons k r Cg=>simp only[FM,Cg])
  rw[show(Sx s Eb).E8 i=s.E8 i from rfl,B4,DC];exact Af,dn.to h.2⟩
end
section
variable{c:Cj} {ops:Array Oper} {Q:AuE} {env:Env} {L:Own} {D:List Atom} {rest:List Oper} {d:Nat} {v:Value} {t:TypeId} {p:String} {af:Array Edge}
theorem HD{f:FuncId}{vs:List Value}{DB:List Atom}{v:Value}(h:Cv c.P f vs DB v)(CM:GU c.P f){xs:List Operand}{ats:Array TypeId}
 (Hm:Gq env xs=some vs)(Cl:Bg DB D)(Ao:Nat.blt d c.n=true)(k:SZ Q c ops rest ((d,v)::env) L D):
 SZ Q c ops (⟨some d,.call {callee:=.value (.func f),args:=xs.toArray,argTypes:=ats},t,p,af,none⟩::rest) env L D:=by
 intro a w Gw st AR;unfold wpQuiet;rw[AA_ (show Region.wanted ⟨some d,.call {callee:=.value (.func f),args:=xs.toArray,argTypes:=ats},t,p,af,none⟩ (yielded ops a.tmps)=true from rfl)];refine⟨v,fun AT NN=>?_,k _ w (Gw.put v (EU Ao)) st AR⟩;have Ek:=lp (P:=c.P) (ρ:=a.eval) (o:=⟨some d,.call {callee:=.value (.func f),args:=xs.toArray,argTypes:=ats},t,p,af,none⟩) (x:=.func f) (xs:=xs) (ats:=ats) (f:=f) (first:= #[]) (cap:= #[]) (vs:=vs) rfl rfl (Gw.Gq Hm) CM AT
 simp only[ABK,List.append_nil]at Ek;unfold Oper.quietAt;rw[Ek];refine⟨rfl,?_⟩;have Bm:=h L.nd AT (by simpa[Own.nd,Dt]using st.AGm) (fun b Aq=>ACp (st.lt b Aq) NN.size) (by simp) (fun t Av=>by
  have:=(AR.step NN.nil) t (Cl t Av);simpa[Own.nd,Dt]using this)
 refine Calls.mono Bm fun e Xq ⟨u,he,AH⟩=>?_;obtain⟨hs,y,Fy,_⟩:=AH;have iT:u=v:=Fy;subst iT;have HW:C8 [] AT Xq:=by simpa[Own.nd,Dt]using hs
 exact⟨he,NN.trans HW⟩
theorem Fh{α:Type}[Be α]{S:Nat->Prop}{w:World}{v:Value}{xs:List α}(h:Atom.holds ⟨v,xs⟩ S w):v.oneCell'=true:=by
 obtain⟨AK,A,Dc,EX,_⟩:=h;simp only at EX AK;rw[NC AK]at EX;have:v=.slice A xs.length Dc:=by simpa using EX
 rw[this];rfl
theorem L1{α:Type}[Be α]{S:Nat->Prop}{w:World}{v:Value}{xs:List α}(h:Atom.holds ⟨v,xs⟩ S w):xs.length<=9223372036854775807:=by
 obtain⟨AK,A,Dc,EX,_,_,Bo,_⟩:=h;exact Bo
theorem J2{α:Type}{r:Be α}(i j:Nat){b o:Nat}{T:TypeId}{cs:List Value}{x y:Operand}{u:Value}{xs:List α}(Ab:AL env x=some (.pointer (some ⟨b,o,none⟩)))(Bf:AL env y=some u)(Ag:L[i]? =some (AO b T cs))(Ay:D[j]? =some (@Atom.mk (List α) (@FI α r) u xs)){E:TypeId}(Av:Nv c.P E)(A7:o<cs.length)(k:Cb Q c ops rest env (L.set i (AO b T (cs.set o u))) D):
 Cb Q c ops (⟨none,.store E x y,t,p,af,none⟩::rest) env L D:=
 GO (q:=u.oneCell'=true) (fun _ _ h=>Fh (h _ (AA' Ay))) fun hu=>Fi i Ab Bf Ag Av hu A7 k
theorem IL{α:Type}{r:Be α}(i j:Nat){b o:Nat}{T e:TypeId}{cs:List Value}{x y:Operand}{u:Value}{xs:List α}(Ab:AL env x=some (.pointer (some ⟨b,o,none⟩)))(Bf:AL env y=some u)(Ag:L[i]? =some (AO b T cs))(Ay:L[j]? =some (@row α r e u xs)){E:TypeId}(Av:Nv c.P E)(A7:o<cs.length)(k:Cb Q c ops rest env (L.set i (AO b T (cs.set o u))) D):
 Cb Q c ops (⟨none,.store E x y,t,p,af,none⟩::rest) env L D:=
 (AcT Q).fact (q:=u.oneCell'=true) (fun a w f st AR=>by
  obtain⟨Cy,G8,_⟩:=st.own _ (AA' Ay);rcases G8.2 with⟨rfl,_⟩|⟨g,cap,cur,rfl,_⟩<;>rfl) fun hu=>Fi i Ab Bf Ag Av hu A7 k
theorem B0{f:FuncId}{vs:List Value}{DB:List Atom}{v:Value}(h:Cv c.P f vs DB v)(CM:GU c.P f){xs:List Operand}{ats:Array TypeId}
 (Hm:Gq env xs=some vs)(Cl:Bg DB D)(Ao:Nat.blt d c.n=true)(k:Cb Q c ops rest ((d,v)::env) L D):
 Cb Q c ops (⟨some d,.call {callee:=.value (.func f),args:=xs.toArray,argTypes:=ats},t,p,af,none⟩::rest) env L D:=
 Dm h CM Hm Cl Ao fun _ u hu=>by
  have hu:u=v:=hu;subst hu;exact k
theorem s_{x:Code}(h:CF c x (Exit.noGoto Q) env L D):CF c (.scope x) Q env L D:=fun a w f s d=>wp_scope_straight (h a w f s d)
theorem w9{α:Type}{r:Be α}{J:Cj->Array Oper->List Oper->Env->Own->List Atom->Prop}[Dr:Ip J](j:Nat){l:List Oper}{u:Value}{xs:List α}(Ay:D[j]? =some (@Atom.mk (List α) (@FI α r) u xs))(k:(∃A Dc,u=.slice A xs.length Dc)->J c ops l env L D):J c ops l env L D:=
 GO (q:=∃A Dc,u=.slice A xs.length Dc) (fun S w h=>by
  obtain⟨AK,A,Dc,EX,_⟩:=h _ (AA' Ay);simp only at EX AK;rw[NC AK]at EX;exact⟨A,Dc,by simpa using EX⟩) k
end
theorem ke{α:Type}{r:Be α}(S:Nat->Prop)(w:World):Atom.holds (@Atom.mk (List α) (@FI α r) (.slice none 0 0) []) S w:=
 ⟨rfl,show cp S w _ _ from⟨none,0,rfl,ABW _,ARp,ABg _,fun h=>absurd rfl h⟩⟩
@[reducible] def Pk{α:Type}[r:Be α](b:Nat)(T:TypeId)(x:α):C4 where
 nd:=[b]
 holds S w:=∃u,w.heap[b]? =some (.cells #[u] T (0,0))/\Atom.holds ⟨u,x⟩ S w
 valid:=by
  rintro S w ⟨u,h,_⟩ KZ Aq;simp at Aq;subst Aq;exact TD h
 DY:=by
  rintro S Fq w AT ⟨u,h,AK⟩ hs hw;exact⟨u,(hw b (.inr (by simp))).trans h,Atom.DY AK hs fun b Aq=>hw b (.inl Aq)⟩
section
variable{c:Cj} {ops:Array Oper} {Q:AuE} {env:Env} {L:Own} {D:List Atom} {rest:List Oper} {α:Type} {r:Be α} {b:Nat} {T:TypeId} {x:α}
theorem hz{L:Own}{i:Nat}{p q:C4}(Ag:L[i]? =some p)(Aq:q.nd=p.nd):Own.nd (L.set i q)=L.nd:=by
 induction L generalizing i with
 |nil=>simp at Ag
 |cons y r Cg=>
  cases i with
  |zero=>simp at Ag;subst Ag;simp[Own.nd,Dt,Aq]
  |succ i=>simp only[ABC]at Ag;have:=Cg Ag;simp only[Own.nd,List.set_cons_succ,Dt]at this ⊢;rw[this]
theorem CI.swap{BW w:World}{M:List Nat}{L:Own}{p q:C4}{i:Nat}(Ag:L[i]? =some p)(st:CI BW M w L)(Aq:q.nd=p.nd)(B':q.holds (Et L.nd w) w):CI BW M w (L.set i q):=by
 have e:=hz Ag Aq;refine⟨st.Ln,fun y Bf=>?_,by rw[e];exact st.AGm,by rw[e];exact st.new⟩;rw[e];rcases List.mem_or_eq_of_mem_set Bf with h|h
 · exact st.own y h
 subst h;exact B'
theorem BP.swap{w:World}{D:List Atom}{L:Own}{p q:C4}{i:Nat}(Ag:L[i]? =some p)(AR:BP D w L)(Aq:q.nd=p.nd):BP D w (L.set i q):=by
 intro t Av;rw[hz Ag Aq];exact AR t Av
theorem AfA(i:Nat){BW w:World}{M:List Nat}(Ag:L[i]? =some (@Pk α r b T x))(st:CI BW M w L)(AR:BP D w L):∃u,CI BW M w (L.set i (AO b T [u]))/\BP (⟨u,x⟩::D) w (L.set i (AO b T [u])):=by
 obtain⟨u,h,AK⟩:=st.own _ (AA' Ag);refine⟨u,st.swap Ag rfl h,BP.cons ?_ (AR.swap Ag rfl)⟩;rw[hz Ag (q:=AO b T [u]) rfl];exact AK
theorem rS(i:Nat){l:List Oper}(Ag:L[i]? =some (@Pk α r b T x))(k:∀u,Cb Q c ops l env (L.set i (AO b T [u])) (⟨u,x⟩::D)):Cb Q c ops l env L D:=fun a w f st AR=>by
 obtain⟨u,DR,RQ⟩:=AfA i Ag st AR;exact k u a w f DR RQ
theorem x2(i j:Nat){u:Value}{l:List Oper}(Ag:L[i]? =some (AO b T [u]))(Ay:D[j]? =some ⟨u,x⟩)(k:Cb Q c ops l env (L.set i (@Pk α r b T x)) D):Cb Q c ops l env L D:=
 fun a w f st AR=>k a w f (st.swap Ag rfl ⟨u,st.own _ (AA' Ag),AR.at_ j Ay⟩) (AR.swap Ag rfl)
theorem x3(i j:Nat){u:Value}{e:Exit}(Ag:L[i]? =some (AO b T [u]))(Ay:D[j]? =some ⟨u,x⟩)(k:Eg c Q e env (L.set i (@Pk α r b T x)) D):Eg c Q e env L D:=
 fun a w f st AR=>k a w f (st.swap Ag rfl ⟨u,st.own _ (AA' Ag),AR.at_ j Ay⟩) (AR.swap Ag rfl)
end
section
variable{c:Cj} {ops:Array Oper} {J:Cj->Array Oper->List Oper->Env->Own->List Atom->Prop} [Dr:Ip J] {env:Env} {L:Own} {D:List Atom} {rest:List Oper} {d:Nat} {v:Value} {t:TypeId} {p:String} {af:Array Edge} {x y:Operand} {m n:Int} {Ec FK:TypeId}
include Dr
theorem rD(Ab:AL env x=some (.int .i64 m))(Bf:AL env y=some (.int .i64 n))(Aq:A' (m*n))(Ao:Nat.blt d c.n=true)(k:J c ops rest ((d,.int .i64 (m*n))::env) L D):
 J c ops (⟨some d,.binOp .mul Ec x y FK,t,p,af,none⟩::rest) env L D:=
 pu rfl rfl Ao (fun a w f=>by simp[execOp,f.AL Ab,f.AL Bf,eqGuard,binOp,Op.intArith,Uf Aq]) k
theorem ka{q:IntKind}{ats:Array TypeId}(Ab:AL env x=some (.int q m))(Bf:AL env y=some (.int q n)){r:Int}(Bh:max m n=r)(Ao:Nat.blt d c.n=true)(k:J c ops rest ((d,.int q r)::env) L D):
 J c ops (⟨some d,.call {callee:=.builtin .max,args:= #[x,y],argTypes:=ats},t,p,af,none⟩::rest) env L D:=
 pu rfl rfl Ao (fun a w f=>by
  subst Bh;have e:max m n=if n>m then n else m:=AMT;simp[execOp,resolve,invoke,builtin,f.AL Ab,f.AL Bf,Builtin.max_,Builtin.max2,e]) k
theorem oA{α:Type}[r:Be α]{l:List Oper}(k:J c ops l env L ((@Atom.mk (List α) (@FI α r) (.slice none 0 0) [])::D)):J c ops l env L D:=
 XR _ (fun S w _=>ke S w) k
end
theorem DJ{c:Cj}{Q:AuE}{env:Env}{L:Own}{D:List Atom}{α:Type}[r:Be α]{x:Code}(k:CF c x Q env L ((@Atom.mk (List α) (@FI α r) (.slice none 0 0) [])::D)):CF c x Q env L D:=
 m9 _ (fun S w _=>ke S w) k
theorem lr{P:Program}{T:TypeId}{b:Nat}{cs:List Value}(h:Oc P T cs.length){w:World}{Pr:TypeId}(hh:w.heap[b]? =some (.cells cs.toArray Pr (0,0))):(loadVar T ⟨b,0,none⟩).run P w=.ok (.agg cs.toArray) w:=by
 have:=fU (P:=P) (T:=T) (b:=b) (o:=0) (cs:=cs) h (w:=w) (fun j u hu=>by
  rw[cell_of_row w b _ _ Pr (0,0) hh];simpa using hu)
 simpa only[Instr.loadAt,Instr.sureAddr,ABY,ACk,AB']using this
end
section
section
variable{c:Cj} {ops:Array Oper} {Q:AuE} {env:Env} {L:Own} {D:List Atom} {rest:List Oper} {d:Nat} {v:Value} {t:TypeId} {p:String} {af:Array Edge} {x y z:Operand} {T:TypeId} {b o:Nat} {cs:List Value}
theorem AiJ{P:Program}{T E:TypeId}{size bytes:Nat}(Av:EH P T E size bytes)(w:World):
 (Instr.buildSlice T 0 #[]).run P w=.ok (.slice (some ⟨w.heap.size,0,none⟩) 0 0) (w.alloc (.cells #[] E)):=by
 obtain⟨Oh,i,z,Ag,Cu,hs,Aq,Oj,_⟩:=Av;simp[Instr.buildSlice,ABQ Oh,sizeOf,typeInfo,Ag,Instr.fill,newRow,show Array.range 0= #[]from rfl]
theorem NB{E:TypeId}{size bytes:Nat}(Av:EH c.P T E size bytes)(Ao:Nat.blt d c.n=true)(k:∀b,Cb Q c ops rest ((d,.slice (some ⟨b,0,none⟩) 0 0)::env) (AO b E []::L) D):
 Cb Q c ops (⟨some d,.buildSlice T 0 #[],t,p,af,none⟩::rest) env L D:=by
 refine Ue (σ:=Nat) rfl rfl (fun b=>(d,.slice (some ⟨b,0,none⟩) 0 0)::env) (fun b=>AO b E []::L) (fun _=>D) (fun a w f st AR=>?_) k;refine⟨w.heap.size,.slice (some ⟨w.heap.size,0,none⟩) 0 0,w.alloc (.cells #[] E),?_,f.put _ (EU Ao),Z3 (cs:=[]) st AR⟩;simp only[execOp,ACQ,ACU,ABY,AiJ Av,AB',ACk]
theorem AiL{P:Program}{T E:TypeId}{size bytes:Nat}(Av:EH P T E size bytes){us:List Value}(AN:us.length=size)(_:us.length≠0)(Aq:us.length<=1000)(w:World):
 (Instr.buildSlice T 1 #[(0,.agg us.toArray)]).run P w=.ok (.slice (some ⟨w.heap.size,0,none⟩) 1 1) (w.alloc (.cells us.toArray E)):=by
 subst AN;obtain⟨Oh,i,z,Ag,Cu,hs,EP,Oj,_⟩:=Av;refine run_buildSlice w T E 1 _ us.toArray i z Oh Ag Cu (by rw[hs];omega) (by rw[hs];omega) ?_;rw[hs];have Bm:(Value.agg us.toArray).cells=us.toArray:=rfl;simp only[Instr.fill,Bm,Nat.zero_mul];have key:∀(l:List Value) (pre post:List Value),l.length=post.length->((l.zipIdx pre.length).foldl (fun(cs:Array Value) (x:Value×Nat)=>cs.setIfInBounds (0+x.2) x.1) (pre++post).toArray)=(pre++l).toArray:=by
  intro l;induction l with
  |nil=>intro pre post h;have:post=[]:=ADo (by simpa using h.symm);subst this;rfl
  |cons u l Cg=>
   intro pre post h;obtain⟨q,post,rfl⟩:∃q r,post=q::r:=by
    cases post with
    |nil=>simp at h
    |cons q r=>exact⟨q,r,rfl⟩
   simp only[List.zipIdx_cons,List.foldl_cons];have e:((pre++q::post).toArray.setIfInBounds (0+pre.length) u)=((pre++[u])++post).toArray:=(by simp);rw[e];have:=Cg (pre++[u]) post (by simpa using h);simp only[ABP,List.length_singleton]at this;rw[this];simp
 have Cu:((Array.range (1*us.length)).map (z.cells[· % z.cells.size]!)).size=us.length:=by simp
 generalize ((Array.range (1*us.length)).map (z.cells[· % z.cells.size]!))=arr at Cu;have AE:=key us [] arr.toList (by simp[Cu]);rw[AA9 (by simp[Cu])];simp only[List.length_nil,ABK,Array.toArray_toList]at AE;rw[<-Array.foldl_toList,Array.toList_zipIdx];simpa using AE
theorem Lw{us:List Value}{E:TypeId}{size bytes:Nat}(Ab:AL env x=some (.agg us.toArray))(Av:EH c.P T E size bytes)(hs:us.length=size)(Bw:us.isEmpty=false)(AN:Nat.ble us.length 1000=true)(Ao:Nat.blt d c.n=true)
 (k:∀b,Cb Q c ops rest ((d,.slice (some ⟨b,0,none⟩) 1 1)::env) (AO b E us::L) D):
 Cb Q c ops (⟨some d,.buildSlice T 1 #[(0,x)],t,p,af,none⟩::rest) env L D:=by
 refine Ue (σ:=Nat) rfl rfl (fun b=>(d,.slice (some ⟨b,0,none⟩) 1 1)::env) (fun b=>AO b E us::L) (fun _=>D) (fun a w f st AR=>?_) k;refine⟨w.heap.size,.slice (some ⟨w.heap.size,0,none⟩) 1 1,w.alloc (.cells us.toArray E),?_,f.put _ (EU Ao),Z3 st AR⟩;have FG:us.length≠0:=fun e=>by rw[ADo e]at Bw;cases Bw
 simp only[execOp,ACQ,AB8,ACU,f.AL Ab,ABY,AiL Av hs FG (ABy AN),AB',ACk]
theorem Nm{α:Type}[r:Be α]{l:List Oper}{E:TypeId}(xs:List α)(Cy:List (List Value)){n:Nat}(Ao:xs.length=n)(I0:Cy.flatten=cs)(Bh:∀S w,(∀u∈D,u.holds S w)->HM S w Cy xs)(AN:Nat.ble xs.length 1000=true)
 (k:Cb Q c ops l env (@row α r E (.slice (some ⟨b,0,none⟩) n n) xs::L) D):Cb Q c ops l env (AO b E cs::L) D:=by
 subst Ao;intro a w f st AR;have AN:=ABy AN;have hh:w.heap[b]? =some (.cells cs.toArray E (0,0)):=st.own _ (ABx ..);have Ep:HM (Et (Own.nd (AO b E cs::L)) w) w Cy xs:=Bh _ _ AR;have hlen:=Ep.len;rw[I0]at hlen;refine k a w f (st.swap (i:=0) (p:=AO b E cs) (q:=row E (.slice (some ⟨b,0,none⟩) xs.length xs.length) xs) rfl rfl ⟨Cy,⟨?_,.inr ⟨b,xs.length,cs.toArray,rfl,ABg _,hh,ABW _,by simp only[maxLen];omega,by simpa using hlen,?_⟩⟩,Ep,AMT⟩) (AR.swap (i:=0) (p:=AO b E cs) rfl rfl)
 · rw[I0];exact hlen
 rw[I0,List.take_of_length_le (by simp only[];omega)]
theorem Db{ps:List (Nat×Operand)}{us:List Value}{cs:List Value}(Ab:Gq env (ps.map (·.2))=some us)(Aq:c.P.built T ((ps.map (·.1)).zip us)=some cs.toArray)(Ao:Nat.blt d c.n=true)(k:Cb Q c ops rest ((d,.agg cs.toArray)::env) L D):
 Cb Q c ops (⟨some d,.build T ps.toArray,t,p,af,none⟩::rest) env L D:=
 pu rfl rfl Ao (fun a w f=>by
  have e:=f.Gq Ab;subst e;have h2:(ps.toArray.map fun(i,x)=>(i,a.eval x)).toList=(ps.map (·.1)).zip ((ps.map (·.2)).map a.eval):=by
   simp only[ACQ];clear Ab Aq;induction ps with
   |nil=>rfl
   |cons q r Cg=>simp only[AB8,List.zip_cons_cons,Cg]
  have:=run_build (P:=c.P) w T (ps.toArray.map fun(i,x)=>(i,a.eval x)) cs.toArray (by rw[h2];exact Aq);simp only[execOp,ABY,this,AB',ACk]) k
end
section
variable{c:Cj} {ops:Array Oper} {J:Cj->Array Oper->List Oper->Env->Own->List Atom->Prop} [Dr:Ip J] {env:Env} {L:Own} {D:List Atom} {rest:List Oper} {d:Nat} {v:Value} {t:TypeId} {p:String} {af:Array Edge} {x y:Operand} {Ec FK:TypeId}
include Dr
theorem RT{α:Type}{r:Be α}(i:Nat){xs:List α}{Bk:Value}{E:TypeId}(hu:c.P.underlying Ec=some (.slice E))(Ab:AL env x=some Bk)(Cl:D[i]? =some (@Atom.mk (List α) (@FI α r) Bk xs))(Bf:AL env y=some (.slice none 0 0))(Ao:Nat.blt d c.n=true)
 (k:∀b:Bool,(b=true->xs=[])->J c ops rest ((d,.bool b)::env) L D):J c ops (⟨some d,.binOp .eql Ec x y FK,t,p,af,none⟩::rest) env L D:=by
 refine Dr.fact (q:=∃A Dc,Bk=.slice A xs.length Dc/\(A=none->xs=[])) (fun a w f st AR=>?_) ?_
 · obtain⟨AK,A,Dc,EX,Af,h2,Bo,BB⟩:=AR.at_ i Cl;simp only at EX AK;rw[NC AK]at EX;refine⟨A,Dc,by simpa using EX,fun Cl=>?_⟩;by_cases he:xs=[]
   · exact he
   obtain⟨b,o,h,_⟩:=BB he;rw[h]at Cl;cases Cl
 rintro⟨A,Dc,rfl,h⟩;refine pu rfl rfl Ao (fun a w f=>?_) (k A.isNone fun Cl=>h (by simpa using Cl));simp[execOp,f.AL Ab,f.AL Bf,eqGuard,binOp,run_equal_slice_nil w Ec E A xs.length Dc hu]
end
theorem za{P:Program}{d:Nat}{f:Field}{B1:List Field}{xs ys:Array Value}{a b:Value}{r s:Bool}(Ao:(f.name== "_")=false){Cx:TypeDesc}(hu:P.underlying f.type=some Cx)(Bh:Cx.isRow=false)(AK:xs[f.offset]? =some a)(Aq:ys[f.offset]? =some b)
 (he:∀w,(Op.equalIn d f.type a b).run P w=.ok r w)(bd:∀w,(Op.eqFields d xs ys B1).run P w=.ok s w)(w:World):(Op.eqFields d xs ys (f::B1)).run P w=.ok (r&&s) w:=by
 have eO:f.name≠ "_" :=by simpa using Ao
 have AH:∀(zs:Array Value) (z:Value),zs[f.offset]? =some z->∀w,(part f.type zs f.offset).run P w=.ok z w:=by
  intro zs z Cu w;unfold part;rw[ABY,lq hu,AB',Bh];simp[Cu]
 unfold Op.eqFields;rw[AA_ eO];simp only[ABY,AH xs a AK,AH ys b Aq,he,AB'];cases r with
 |false=>simp
 |true=>simpa using bd w
theorem OO{P:Program}{d:Nat}{xs ys:Array Value}(w:World):(Op.eqFields d xs ys []).run P w=.ok true w:=by simp[Op.eqFields]
theorem Fk{P:Program}{d:Nat}{T:TypeId}{k Gh:IntKind}(hu:P.underlying T=some (.int Gh))(a b:Int)(w:World):(Op.equalIn (d+1) T (.int k a) (.int k b)).run P w=.ok (decide (a=b)) w:=by
 rw[run_equalIn_int w d T k Gh a b hu];by_cases h:a=b<;>simp[h]
theorem UF{P:Program}{d:Nat}{T:TypeId}(hu:P.underlying T=some .string)(a b:ByteArray)(w:World):(Op.equalIn (d+1) T (.string a) (.string b)).run P w=.ok (decide (a=b)) w:=by
 rw[run_equalIn_string w d T a b hu,XU]
end
section
section
variable{c:Cj} {ops:Array Oper} {J:Cj->Array Oper->List Oper->Env->Own->List Atom->Prop} [Dr:Ip J] {env Jb env':Env} {L:Own} {D Dd:List Atom} {l rest:List Oper} {d:Nat} {v:Value}
include Dr
omit Dr in
theorem AnJ{T:Bool}(Jb:Env)(_:Sub Jb env)(CK:J c ops rest ((d,.bool T)::Jb) L D->J c ops l env L D)(AE:J c ops rest ((d,.bool T)::Jb) L D):J c ops l env L D:=CK AE
theorem e8{b:Bool}(K:J c ops rest ((d,.bool b)::Jb) L D)(hs:Sub Jb env')(DK:Bg D Dd):J c ops rest ((d,.bool b)::env') L Dd:=
 Dr.mono (fun a w f st AR=>⟨⟨f.size,f.GV,fun i u hu=>by
  simp only[C1]at hu;by_cases h:d=i
  · subst h;simp only[beq_self_eq_true,cond_true]at hu;exact f.at_ _ _ (by simpa only[C1,beq_self_eq_true,cond_true]using hu)
  have Aq:(d==i)=false:=(by simpa using h);rw[Aq]at hu;have:=rh hs _ _ hu;exact f.at_ _ _ (by simp only[C1,Aq,ACx];exact this)⟩,AR.sub DK⟩) K
theorem qv{B X:Bool}(K:J c ops rest ((d,.bool (B&&X))::Jb) L D)(Ew:B=true)(hs:Sub Jb env')(DK:Bg D Dd):J c ops rest ((d,.bool X)::env') L Dd:=by
 subst Ew;exact e8 K hs DK
theorem qw{B X:Bool}(K:J c ops rest ((d,.bool (B&&X))::Jb) L D)(Ew:B=false)(hs:Sub Jb env')(DK:Bg D Dd):J c ops rest ((d,.bool false)::env') L Dd:=by
 subst Ew;exact e8 K hs DK
theorem qx{B X:Bool}(K:J c ops rest ((d,.bool (B||X))::Jb) L D)(Ew:B=false)(hs:Sub Jb env')(DK:Bg D Dd):J c ops rest ((d,.bool X)::env') L Dd:=by
 subst Ew;exact e8 K hs DK
theorem qy{B X:Bool}(K:J c ops rest ((d,.bool (B||X))::Jb) L D)(Ew:B=true)(hs:Sub Jb env')(DK:Bg D Dd):J c ops rest ((d,.bool true)::env') L Dd:=by
 subst Ew;exact e8 K hs DK
theorem ts{i:Nat}{t:Bool}(h:C1 env i=some (.bool t))(Af:t=true->J c ops l ((i,.bool true)::env) L D)(h2:t=false->J c ops l ((i,.bool false)::env) L D):J c ops l env L D:=lS h Af h2
theorem tt{i:Nat}{t:Bool}(h:C1 env i=some (.bool t))(h2:t=false->J c ops l ((i,.bool false)::env) L D)(Af:t=true->J c ops l ((i,.bool true)::env) L D):J c ops l env L D:=lS h Af h2
end
section
variable{c:Cj} {Q:AuE} {env:Env} {L:Own} {D:List Atom} {x:Code}
theorem Hx{σ:Type}(C:Env)(Dw:List Atom)(V:σ->Env->Env)(LL:σ->Own)(DD:σ->List Atom->List Atom)(I:σ->Prop)(N_:σ->Nat)(B3:σ)(_:Sub C env)(_:Bg Dw D)(AU:I B3)
 (Ge:Sub (V B3 C) env)(Dv:LL B3=L)(DK:Bg (DD B3 Dw) D)
 (body:∀s,I s->CF c x (Exit.then (dk c (fun s=>V s C) LL (fun s=>DD s Dw) I N_ s) Q) (V s C) (LL s) (DD s Dw)):CF c (.loop x) Q env L D:=
 j9 (fun s=>V s C) LL (fun s=>DD s Dw) I N_ B3 AU Ge Dv DK body
theorem Ji{σ:Type}(C:Env)(Dw:List Atom)(V:σ->Env->Env)(I:σ->Prop)(N_:σ->Nat)(B3:σ)(_:Sub C env)(Bm:Bg Dw D)(AU:I B3)
 (Ge:Sub (V B3 C) env)
 (body:∀s,I s->CF c x (Exit.then (dk c (fun s=>V s C) (fun _=>L) (fun _=>Dw) I N_ s) Q) (V s C) L Dw):CF c (.loop x) Q env L D:=
 j9 (fun s=>V s C) (fun _=>L) (fun _=>Dw) I N_ B3 AU Ge rfl Bm body
theorem Ki{P:Nat->Prop}{i:Nat}(h:∀j,j<i->P j)(Ag:P i):∀j,j<i+1->P j:=fun j Ay=>by
 by_cases e:j=i
 · subst e;exact Ag
 exact h j AMT
end
def allI(n:Nat)(p:Nat->Bool):Bool:=(List.range n).all p
theorem Us{n:Nat}{p:Nat->Bool}(h:∀j,j<n->p j=true):allI n p=true:=ABq.2 fun j Ay=>h j (ABw.1 Ay)
theorem Ur{n:Nat}{p:Nat->Bool}(j:Nat)(Ay:j<n)(h:p j=false):allI n p=false:=by
 rw[<-ACH];intro e;have:=ABq.1 e j (ABw.2 Ay);rw[h]at this;cases this
theorem Nz{n:Nat}{p:Nat->Bool}:allI n p=true↔∀j,j<n->p j=true:=by simp[allI]
theorem AvK{n:Nat}{p q:Nat->Bool}(h:∀j,j<n->p j=q j):allI n p=allI n q:=by
 rw[ACy,Nz,Nz];exact⟨fun k j Ay=>by rw[<-h j Ay];exact k j Ay,fun k j Ay=>by rw[h j Ay];exact k j Ay⟩
theorem j4{α:Type}[r:Be α]{S:Nat->Prop}{w:World}{k:Value}{l:List α}(h:Atom.holds ⟨k,l⟩ S w):(@FI α r).rd S w [k] l:=by
 obtain⟨AK,Bh⟩:=h
 rwa [NC AK]at Bh
theorem Ly{α:Type}{l:List α}{i:Nat}{d:α}(h:i<l.length):l[i]? =some (l.getD i d):=by simp[List.getD,ABs h]
end
theorem ny:∀a b:List UInt8,(Op.bytesLess a b||decide (a=b))= !Op.bytesLess b a
 |[],[]=>rfl
 |[],b::y=>by simp[Op.bytesLess]
 |a::x,[]=>by simp[Op.bytesLess]
 |a::x,b::y=>by
  have Cg:=ny x y;simp only[Op.bytesLess];rcases Nat.lt_trichotomy a.toNat b.toNat with h|h|h
  · have Af:a<b:=ACG.2 h;have h2:¬b<a:=fun e=>by have:=ACG.1 e;omega
    have Bo:¬b=a:=fun e=>by subst e;omega
    simp[Af,h2,Bo]
  · obtain rfl:=UInt8.toNat_inj.1 h;have Af:¬a<a:=fun e=>by have:=ACG.1 e;omega
    simpa[Af]using Cg
  have Af:¬a<b:=fun e=>by have:=ACG.1 e;omega
  have h2:b<a:=ACG.2 h;have Bo:¬a=b:=fun e=>by subst e;omega
  simp[Af,h2,Bo]
theorem bA(a b:ByteArray):(Ds a b||decide (a=b))= !Ds b a:=by
 have:=ny a.toList b.toList;have e:decide (a=b)=decide (a.toList=b.toList):=by
  rw[<-XU];exact ACy.2 (by simp)
 rw[e];exact this
theorem nz:∀a:List UInt8,Op.bytesLess a a=false
 |[]=>rfl
 |a::x=>by
  have Af:¬a<a:=fun e=>by have:=ACG.1 e;omega
  simp[Op.bytesLess,Af,nz x]
theorem lt_irrefl(a:ByteArray):Ds a a=false:=nz a.toList
theorem nA:∀a b c:List UInt8,Op.bytesLess a b=true->Op.bytesLess b c=true->Op.bytesLess a c=true
 |_,_,[],_,h=>by simp[Op.bytesLess]at h
 |_,[],_::_,h,_=>by simp[Op.bytesLess]at h
 |[],_::_,_::_,_,_=>rfl
 |a::x,b::y,c::z,Af,h2=>by
  simp only[Op.bytesLess,ABk,ABb,ABa,beq_iff_eq]at Af h2 ⊢;rcases Af with Af|⟨rfl,Af⟩
  · rcases h2 with h2|⟨rfl,_⟩
    · exact .inl (ACG.2 (Nat.lt_trans (ACG.1 Af) (ACG.1 h2)))
    exact .inl Af
  rcases h2 with h2|⟨rfl,h2⟩
  · exact .inl h2
  exact .inr ⟨rfl,nA x y z Af h2⟩
theorem lt_trans{a b c:ByteArray}(Af:Ds a b=true)(h2:Ds b c=true):Ds a c=true:=nA _ _ _ Af h2
theorem Ad_{a b:ByteArray}(h:Ds a b=false):Ds b a=true\/a=b:=by
 have:=bA b a;rw[h]at this;simp only[Bool.not_false,ABk,ABa]at this;exact this.imp id Eq.symm
theorem Ad9{a b:ByteArray}(h:Ds a b=true):a≠b:=by
 rintro rfl;rw[lt_irrefl]at h;cases h
theorem AcO{S:Nat->Prop}{w:World}{v:Value}{xs:List Int}(h:Atom.holds ⟨v,xs⟩ S w):∀x∈xs,A' x:=by
 intro x Ab;obtain⟨AK,A,Dc,EX,_,_,Bo,BB⟩:=h;obtain⟨b,o,_,_,Ag⟩:=BB (List.ne_nil_of_mem Ab);obtain⟨i,Jf,rfl⟩:=List.getElem_of_mem Ab;obtain⟨cs,Bm,_⟩:=Ag i _ (ABs Jf);exact Bm.2
theorem EI{P:Program}{d:Nat}{f:Field}{B1:List Field}{xs ys:Array Value}{a b:Value}{r s:Bool}{w:World}(Ao:(f.name== "_")=false){Cx:TypeDesc}(hu:P.underlying f.type=some Cx)(Bh:Cx.isRow=false)(AK:xs[f.offset]? =some a)(Aq:ys[f.offset]? =some b)
 (he:∀w,(Op.equalIn d f.type a b).run P w=.ok r w)(bd:∀w,(Op.eqFields d xs ys B1).run P w=.ok s w):(Op.eqFields d xs ys (f::B1)).run P w=.ok (r&&s) w:=za Ao hu Bh AK Aq he bd w
section
structure Ext (P:Program) (f:FuncId) (e:Array Value->Sem Value):Prop where
 ok:∃fn,P.funcs[f]? =some fn/\(fn.name== "runtime.NumGoroutine")=false/\fn.body.isNone=true/\Extern.findNext fn=none/\Extern.find fn=some e
def AIv(P:Program)(T E:TypeId)(n m:Nat):Prop:=P.underlying T=some (.array n E)/\(P.info? E).map (·.size)=some m
section
variable{c:Cj} {ops:Array Oper} {J:Cj->Array Oper->List Oper->Env->Own->List Atom->Prop} [Dr:Ip J] {env:Env} {L:Own} {D:List Atom} {rest:List Oper} {d:Nat} {v:Value} {t:TypeId} {p:String} {af:Array Edge} {x y:Operand} {T:TypeId} {b o:Nat}
include Dr
theorem hL{f:FuncId}{e:Array Value->Sem Value}(BI:Ext c.P f e){vs:List Value}(Ek:∀w,(e vs.toArray).run c.P w=.ok v w){xs:List Operand}{ats:Array TypeId}(Hm:Gq env xs=some vs)(Ao:Nat.blt d c.n=true)
 (k:J c ops rest ((d,v)::env) L D):J c ops (⟨some d,.call {callee:=.value (.func f),args:=xs.toArray,argTypes:=ats},t,p,af,none⟩::rest) env L D:=
 pu rfl rfl Ao (fun a w Gw=>by
  obtain⟨fn,Af,h2,Bo,BB,C'⟩:=BI.ok;have hm:xs.map a.eval=vs:=Gw.Gq Hm;have JU:a.eval (.func f)=.func (.func f) #[] #[]:=rfl;simp only[execOp,resolve,Deferred.ofValue,JU,invoke,ACQ,hm,ABY,ACk,AB'];have:=run_callFunc_extern Af h2 Bo BB C' (vs.toArray) w;rw[Ek w]at this;simpa using this) k
theorem AKo{m:Int}{n:Nat}{E:TypeId}{size:Nat}(Ab:AL env x=some (.pointer (some ⟨b,o,none⟩)))(Bf:AL env y=some (.int .i64 m))(Av:AIv c.P T E n size)(Bw:0<=m)(Af:m<(n:Int))(Ao:Nat.blt d c.n=true)
 (k:J c ops rest ((d,.pointer (some ⟨b,o+m.toNat*size,none⟩))::env) L D):J c ops (⟨some d,.indexAddr T x y,t,p,af,none⟩::rest) env L D:=
 pu rfl rfl Ao (fun a w f=>by
  obtain⟨j,Ay,hs⟩:=ACr.1 Av.2;simp[execOp,f.AL Ab,f.AL Bf,Instr.indexAt,asIntOf,ABQ Av.1,Bw,Af,sizeOf,typeInfo,Ay,hs,ACm,Instr.sureAddr]) k
end
section
variable{c:Cj} {ops:Array Oper} {Q:AuE} {env:Env} {L:Own} {D:List Atom} {b:Nat} {cs:List Value}
theorem M4{α:Type}[r:Be α]{l:List Oper}{T:TypeId}(KE:α)(Bh:∀S w,(∀u∈D,u.holds S w)->r.rd S w cs KE)
 (k:Cb Q c ops l env L ((@Atom.mk (Cq α) (@F9 α r) (.pointer (some ⟨b,0,none⟩)) ⟨KE⟩)::D)):Cb Q c ops l env (AO b T cs::L) D:=by
 intro a w f st AR;refine k a w f st.drop (BP.cons ?_ AR.drop);have hh:w.heap[b]? =some (.cells cs.toArray T (0,0)):=st.own _ (ABx ..);have Ao:=st.AGm;simp only[Own.nd,Dt,List.nodup_append]at Ao;have BO:Et L.nd w b:=⟨TD hh,fun Ab=>Ao.2.2 b (by simp) b Ab rfl⟩;refine⟨rfl,b,0,cs,rfl,BO,Bh _ _ fun u hu=>AR.drop u hu,fun j u hu=>?_⟩;rw[AB0,cell_of_row w b _ _ T (0,0) hh];simpa using hu
end
theorem tv:∀(us pre cs:List Value),us.length=cs.length->MO (pre++cs) pre.length us=pre++us
 |[],pre,cs,h=>by
  obtain rfl:cs=[]:=ADo h.symm;rfl
 |v::r,pre,[],h=>by cases h
 |v::r,pre,c::cs,h=>by
  have Cg:=tv r (pre++[v]) cs (by simpa using h);simp only[List.append_assoc,List.singleton_append,ABP,List.length_singleton]at Cg;unfold MO;rw[List.set_append_right _ _ (ABW _),ADI];exact Cg
theorem AjH{cs us:List Value}(h:us.length=cs.length):MO cs 0 us=us:=by simpa using tv us [] cs h
theorem BZ{c:Cj}{ops:Array Oper}{Q:AuE}{env:Env}{L:Own}{D:List Atom}{rest:List Oper}{t:TypeId}{p:String}{af:Array Edge}{x y:Operand}{T E:TypeId}{b:Nat}{cs us:List Value}(i:Nat)
 (Ab:AL env x=some (.pointer (some ⟨b,0,none⟩)))(Bf:AL env y=some (.agg us.toArray))(Ag:L[i]? =some (AO b T cs))(Av:Oc c.P E us.length)(hu:us.all (·.oneCell')=true)(AN:us.length=cs.length)(k:Cb Q c ops rest env (L.set i (AO b T us)) D):
 Cb Q c ops (⟨none,.store E x y,t,p,af,none⟩::rest) env L D:=
 stM i Ab Bf Ag Av hu AMT (by rw[AjH AN];exact k)
theorem m_{P:Program}(x y c:Int)(Ab:0<=x)(Bf:0<=y)(Rd:0<=c)(Bm:c<=1)(w:World):
 (add64Entry [.int .u64 x,.int .u64 y,.int .u64 c].toArray).run P w=.ok (.tuple #[.int .u64 ((x+y+c) % 18446744073709551616),.int .u64 ((x+y+c) / 18446744073709551616)]) w:=run_add64 x y c Ab Bf Rd Bm w
def RO(a b:ByteArray):Int:=Go.Lib.compareBytes a.data.toList b.data.toList
theorem yc{P:Program}(a b:ByteArray)(w:World):(Extern.BytealgCompare.compare [.string a,.string b].toArray).run P w=.ok (.int .i64 (RO a b)) w:=Go.Lib.run_compareString a b w
theorem n4:∀a b:List UInt8,(decide (Go.Lib.compareBytes a b<0))=Op.bytesLess a b
 |[],[]=>rfl
 |[],b::y=>rfl
 |a::x,[]=>rfl
 |a::x,b::y=>by
  have Cg:=n4 x y;simp only[Go.Lib.compareBytes,Op.bytesLess];rcases Nat.lt_trichotomy a.toNat b.toNat with h|h|h
  · have Af:a<b:=ACG.2 h;simp[Af]
  · obtain rfl:=UInt8.toNat_inj.1 h;have Af:¬a<a:=fun e=>by have:=ACG.1 e;omega
    simpa[Af]using Cg
  have Af:¬a<b:=fun e=>by have:=ACG.1 e;omega
  have h2:b<a:=ACG.2 h;have Bo:¬a=b:=fun e=>by subst e;omega
  simp[Af,h2,Bo]
theorem yb(a b:ByteArray):(decide (RO a b<0))=Ds a b:=by
 unfold RO Ds;rw[n4,AD8,AD8]
end
section
section
variable{P:Program} {ops:Array Oper} {md:Region.Mode} {C:World->Prop}
def aT(P:Program)(md:Region.Mode)(ops:Array Oper)(C:World->Prop)(n:Nat)(L:Array Bool->Act->Prop):Nat->Array Bool->Act->Prop
 |0,A8,a=>L A8 a
 |f+1,A8,a=>
  Region.ready md ops A8≠[]/\∀i∈Region.ready md ops A8,i<n/\qOp P ops C i (aT P md ops C n L f (A8.setIfInBounds i true)) a
theorem nh{n g:Nat}{L:Array Bool->Act->Prop}{Q':AuE}(Dv:∀A8 a w,C w->L A8 a->wpAny P md ops Q' g A8 a w):
 ∀(f:Nat) (A8:Array Bool) (a:Act) (w:World),C w->aT P md ops C n L f A8 a->wpAny P md ops Q' (f+g) A8 a w
 |0,A8,a,w,hw,h=>by rw[AB0];exact Dv _ _ _ hw h
 |f+1,A8,a,w,hw,h=>by
  rw[show f+1+g=(f+g)+1 by omega];exact⟨fun Bw=>absurd Bw h.1,fun i Ag=>wpOp_of_qOp hw (fun Dx AT NN DI=>nh Dv f _ Dx AT NN DI) (h.2 i Ag).2⟩
theorem AbD{n i:Nat}{YX:Oper}{v:Value}{L:Array Bool->Act->Prop}(Ag:ops[i]? =some YX)(WD:∀(j:Nat) (o:Oper) cs b,ops[j]? =some o->o.op≠.select cs b)
 (hs:Region.sinkB md ops n=true)(Bm:Region.chainB md ops n=true)(Ao:n<ops.size)(Kp:i<n)
 (AbB:∀A8 a,L A8 a->∀j∈Region.ready md ops A8,n<=j):
 ∀(f:Nat) (A8:Array Bool) (a:Act),HeadInv md ops n A8->
  (∀j NV,ops[j]? =some NV->j≠i->A8.getD j true=false->(∀e∈NV.after,Region.binds md e=true->e.on≠i)->YX.apart ops NV=true)->
  i∈Region.ready md ops A8->YieldsIn P ops C YX v a->
  aT P md ops C n L f (A8.setIfInBounds i true) (a.put YX.dst v)->aT P md ops C n L (f+1) A8 a:=by
 intro f;induction f with
 |zero=>
  intro A8 a inv _ Bh Bf H;have Ib:=(mem_ready.1 Bh).1;refine⟨fun h=>(by rw[h]at Bh;cases Bh),fun j Ay=>?_⟩;have a1:j<n:=by
   rcases ACq j n with h|h
   · exact h
   exact absurd Ay (tail_waits hs Bm Ao inv _ i rfl Kp Ib j h)
  refine⟨a1,?_⟩;by_cases U3:j=i
  · subst U3;exact Bf.qOp Ag H
  have:=AbB _ _ H j (ready_mono Ay U3);omega
 |succ f Cg=>
  intro A8 a inv pC Bh Bf H;have Ib:=(mem_ready.1 Bh).1;refine⟨fun h=>(by rw[h]at Bh;cases Bh),fun j Ay=>?_⟩;have a1:j<n:=by
   rcases ACq j n with h|h
   · exact h
   exact absurd Ay (tail_waits hs Bm Ao inv _ i rfl Kp Ib j h)
  refine⟨a1,?_⟩;by_cases U3:j=i
  · subst U3;exact Bf.qOp Ag H
  have Af:=(H.2 j (ready_mono Ay U3)).2;obtain⟨pH,NV,ju,C0⟩:=mem_ready.1 Ay;have a8:∀e∈NV.after,Region.binds md e=true->e.on≠i:=fun e he Aq heq=>by
   have Af:=C0 e he Aq;rw[heq,getD_both Ib]at Af;cases Af
  have h2:=qOp_put ju (pC j NV ju U3 pH a8) (fun cs b=>WD i YX cs b Ag) (fun cs b=>WD j NV cs b ju) Bf Af;have AbG:∀k ok,ops[k]? =some ok->k≠i->(A8.setIfInBounds j true).getD k true=false->
   (∀e∈ok.after,Region.binds md e=true->e.on≠i)->YX.apart ops ok=true:=fun k ok AE J_ Ib O0=>by
   refine pC k ok AE J_ ?_ O0;by_cases Tq:j=k
   · subst Tq;exact pH
   rw[getD_set_ne true Tq]at Ib;exact Ib
  refine qOp_mono (fun Dx Bo=>Cg (A8.setIfInBounds j true) Dx (inv.set Ay a1) AbG (ready_mono Bh (Ne.symm U3)) Bo.1 ?_) h2;rw[Array.setIfInBounds_comm _ _ U3];exact Bo.2
theorem px{n g:Nat}{QG:Act->Prop}(WD:Region.noSelect ops=true)(hs:Region.sinkB md ops n=true)(Bm:Region.chainB md ops n=true)(Ao:n<ops.size):
 ∀(l:List Oper) (k:Nat) (A8:Array Bool) (a:Act),(∀j,j<l.length->l[j]? =ops[k+j]?)->k+l.length=n->HeadInv md ops n A8->
 Region.lexHead md ops g l.length k A8=true->wpQuiet P ops C QG l a->
 aT P md ops C n (fun q8 Dx=>Region.seqB md ops g n q8=true/\QG Dx) l.length A8 a
 |[],k,A8,a,_,AE,_,Ew,h=>by
  have:k=n:=(by simpa using AE);subst this;exact⟨by simpa[Region.lexHead]using Ew,h⟩
 |o::l,k,A8,a,AN,AE,inv,Ew,h=>by
  have Bw:ops[k]? =some o:=(by simpa using(AN 0 (by simp)).symm);simp only[ABv,Region.lexHead,ABb]at Ew;obtain⟨⟨Bh,BI⟩,AaU⟩:=Ew;have eN:k<n:=(by simp only[ABv]at AE;omega);have NL:k∈Region.ready md ops A8:=(by simpa using Bh);have Gg:qOp P ops C k (wpQuiet P ops C QG l) a:=(by unfold qOp;simp only[Bw];exact h);obtain⟨v,Bf,Je⟩:=yieldsIn_of_qOp Bw Gg;exact AbD Bw (Region.noSelect_spec WD) hs Bm Ao eN (fun q8 Dx Dv=>seqB_ready Dv.1) l.length A8 a inv (Region.free_spec Bw BI) NL Bf
   (px WD hs Bm Ao l (k+1) _ _ (fun j Ay=>by have:=AN (j+1) (by simp;omega);simpa[ADs,Nat.add_comm 1 j]using this) (by simp only[ABv]at AE;omega) (inv.set NL eN) AaU Je)
theorem All{id:Nat}{Q:AuE}{a:Act}{w:World}{l:List Oper}(n:Nat)(hm:P.follows .mixedOrders=true)(Ew:Region.lexTailB .any l.toArray n=true)(eB:C {w with drawn:=w.drawn+1})
 (h:wpQuiet P l.toArray C (fun Dx=>∀AT,C AT->wpList P l.toArray Q (l.drop n) Dx AT) (l.take n) a):(Code.region id l.toArray true).wp P Q a w:=by
 simp only[Region.lexTailB,ABb,ABa]at Ew;obtain⟨⟨⟨⟨WD,Ao⟩,hs⟩,Bm⟩,AbU⟩:=Ew;have eO:n<l.length:=by simpa using Ao
 have eZ:(l.take n).length=n:=by simp;omega
 have LH:(l.drop n).length=l.toArray.size-n:=by simp
 have AcP:HeadInv .any l.toArray n (Array.replicate l.toArray.size false):=
  ⟨by simp,fun j NV _ AN=>(by rw[getD_replicate_false]at AN;cases AN),fun t _ Av=>getD_in (by simpa using Av) (getD_replicate_false _ _)⟩
 have H:=px (md:=.any) (g:=l.toArray.size-n) WD hs Bm Ao (l.take n) 0 _ a (fun j Ay=>by
  have J9:j<n:=(by rw[eZ]at Ay;exact Ay);simp[J9]) (by simpa using eZ) AcP (by rw[eZ];exact AbU) h
 refine wp_region_any hm ?_;have:=nh (Q':=Q) (g:=l.toArray.size-n) (fun A8 Dx AT NN Dv=>by
  have:=wpAny_of_seq (md:=.any) (Q':=Q) (l.drop n) n A8 Dx AT (fun j=>by simp) (by rw[LH];exact Dv.1) (Dv.2 AT NN)
  rwa [LH]at this) _ _ _ _ eB H
 rw[eZ,show n+(l.toArray.size-n)=l.toArray.size by omega]at this;exact this
end
theorem Ow{c:Cj}{Q:AuE}{env:Env}{L:Own}{D:List Atom}{id:Nat}{l:List Oper}(n:Nat)(hm:c.P.follows .mixedOrders=true)(Ew:Region.lexTailB .any l.toArray n=true)
 (h:SZ (fun _ a w=>wpList c.P l.toArray Q (l.drop n) a w) c l.toArray (l.take n) env L D):CF c (.region id l.toArray true) Q env L D:=
 fun a w f st AR=>All (C:=fun AT=>C8 [] w AT) n hm Ew (C8.drew [] w) (h a w f st AR)
theorem Oq{c:Cj}{Q:AuE}{ops:Array Oper}{tY:List Oper}{env:Env}{L:Own}{D:List Atom}(h:Cb Q c ops tY env L D):SZ (fun _ a w=>wpList c.P ops Q tY a w) c ops [] env L D:=Gj h
theorem CI.X5{BW w:World}{M:List Nat}{L:Own}:∀{A:Own},CI BW M w (A++L)->CI BW M w L
 |[],h=>h
 |_::_,h=>CI.X5 h.drop
theorem BP.X5{D:List Atom}{w:World}{L:Own}:∀{A:Own},BP D w (A++L)->BP D w L
 |[],h=>h
 |_::_,h=>BP.X5 h.drop
section
variable{env:Env} {L:Own} {D:List Atom} {fn:Func} {X:List Nat} {L0:Own} {β:Type} {R:β->Value->Prop} {DM:β->Value->Own} {out:β->Value->List Atom} {P:Program} {n:Nat} {BW:World} {M:List Nat}
def dr(P:Program)(n:Nat)(BW:World)(M:List Nat)(fn:Func)(env:Env)(L:Own)(v:Value):Prop:=∀a w,Fr n a env->CI BW M w L->(results fn a.tmps).run P w=.ok v w
theorem D8(y:β)(A:Own){v:Value}(Ek:dr P n BW (L0.nd++X) fn env L v)(Fy:R y v)(Dv:L=A++(DM y v++[CL X BW]))(DK:Bg (out y v) D):
 Eg ⟨P,n,BW,L0.nd++X⟩ (XN P fn X BW L0 R DM out) .ret env L D:=by
 intro a w f st AR;refine bodyPost_ret (Ek a w f st) f.GV ⟨_,rfl,?_⟩;subst Dv;exact Aw.post y Fy rfl DK st.X5 AR.X5 (YS (X:=X) (w:=w) st.X5)
theorem kH{w:World}{b:Nat}{T:TypeId}{cs:List Value}(i:Nat)(Ag:L[i]? =some (AO b T cs))(st:CI BW M w L):w.heap[b]? =some (.cells cs.toArray T (0,0)):=st.own _ (AA' Ag)
theorem Qv{t:Nat}{T Pr:TypeId}{b:Nat}{cs:List Value}(i:Nat)(Bh:fn.results= #[.cell t T])(Af:C1 env t=some (.pointer (some ⟨b,0,none⟩)))(Ag:L[i]? =some (AO b Pr cs))(Av:Oc P T cs.length):dr P n BW M fn env L (.agg cs.toArray):=fun a w f st=>by
 simp[results,Bh,f.at_ t _ Af,asAddr,lr Av (kH i Ag st)]
theorem Fp{t u:Nat}{T Pr:TypeId}{b:Nat}{cs:List Value}{v2:Value}(i:Nat)(Bh:fn.results= #[.cell t T,.tmp u])(Af:C1 env t=some (.pointer (some ⟨b,0,none⟩)))(h2:C1 env u=some v2)
 (Ag:L[i]? =some (AO b Pr cs))(Av:Oc P T cs.length):dr P n BW M fn env L (.tuple #[.agg cs.toArray,v2]):=fun a w f st=>by
 simp[results,Bh,f.at_ t _ Af,f.at_ u _ h2,asAddr,lr Av (kH i Ag st)]
end
end
section
section
variable{c:Cj} {ops:Array Oper} {J:Cj->Array Oper->List Oper->Env->Own->List Atom->Prop} [Dr:Ip J] {env:Env} {L:Own} {D:List Atom} {rest:List Oper} {d:Nat} {v:Value} {t:TypeId} {p:String} {af:Array Edge}
theorem Ql{fn:Fn}{xs ys:List Operand}{vs us:List Value}(Bf:Gq env ys=some us)(Ab:Gq env xs=some vs)(Ao:Nat.blt d c.n=true)(k:J c ops rest ((d,.func fn us.toArray vs.toArray)::env) L D):J c ops (⟨some d,.makeFunc fn ys.toArray xs.toArray,t,p,af,none⟩::rest) env L D:=
 pu rfl rfl Ao (fun a w f=>by simp[execOp,Instr.makeFunc,f.Gq Ab,f.Gq Bf]) k
variable{x y:Operand} {q:IntKind} {m n:Int} {Ec FK:TypeId} {T:TypeId}
include Dr
theorem Axj(Ab:AL env x=some (.int q m))(Bf:AL env y=some (.int q n))(Bw:n≠0){r:Int}(Bh:q.wrap (m.tdiv n)=r)(Ao:Nat.blt d c.n=true)(k:J c ops rest ((d,.int q r)::env) L D):
 J c ops (⟨some d,.binOp .quo Ec x y FK,t,p,af,none⟩::rest) env L D:=by
 subst Bh;exact AhW Ab Bf Bw Ao k
end
end
section
def FH:Value->Nat
 | .pointer (some p)=>p.block
 |_=>0
structure Iq where
 E8:Nat->List Nat
 ok:Nat->Value->Prop
 at_:Nat->Value->List Atom
 Eb:Nat->Option Value
 L:List Nat->List Value->Own
 Eu:List Nat
 hs:List (List Nat)
@[reducible] def Iq.rs(s:Iq):MV:=⟨s.E8,s.ok,s.at_,fun _=>[],[]⟩
@[reducible] def Iq.Rm(s:Iq)(i:Nat)(u:Value):Prop:=match s.Eb i with
 |some v=>u=v
 |none=>s.ok i u
structure Nu (c:Cj) (l:List Oper) (s:Iq) (env:Env) (D:List Atom) (A8:Array Bool) (a:Act) (w:World) (h:List Nat):Prop where
 Gw:Fr c.n a env
 st:CI c.BW c.M w (s.L h (h.map (valOf l a)))
 AR:BP D w (s.L h (h.map (valOf l a)))
 size:A8.size=l.length
 closed:∀i k,A8.getD i false=true->Gp l k i=true->A8.getD k false=true
 slot:∀i d,A8.getD i false=true->CN l i=some d->s.Rm i (a.tmps.getD d undef)/\BP (s.at_ i (a.tmps.getD d undef)) w (s.L h (h.map (valOf l a)))
 done:∀x,x∈s.Eu->(A8.getD x false=true↔x∈h)
 Kp:∀x∈h,A8.getD x false=true
 mem:h∈s.hs
section
variable{c:Cj} {l:List Oper} {s:Iq} {env:Env} {D:List Atom} {Q:AuE}
theorem Nu.frame{A8:Array Bool}{a:Act}{w:World}{h:List Nat}(m:Nu c l s env D A8 a w h)(EY:LX l c.n=true){is:List Nat}(AN:∀k∈is,k<l.length):Fr c.n a (Eo l (valOf l a) is++env):=by
 refine⟨m.Gw.size,m.Gw.GV,fun i v Ag=>?_⟩;rcases YO Ag with h|h
 · obtain⟨k,AE,AJ,BC⟩:=U' h;simp only[valOf]at BC;have Lb:=AN k AE;have C_:i<c.n:=by
    have:=ABq.1 EY (l[k]) (ACF Lb);have F6:(l[k]).dst=some i:=(by simpa[CN,ABs Lb]using AJ);rw[F6]at this;exact EU this
   have:i<a.tmps.size:=(by rw[m.Gw.size];exact C_);rw[<-BC];simp[this,Il,AJ]
 exact m.Gw.at_ _ _ h.2
end
end
universe Aky
theorem G{α:Sort Aky}{a:α}:a=a:=rfl
theorem Aa{D:List Atom}:Bg [] D:=Bg.nil
theorem Br{D:List Atom}:Bg D D:=Bg.refl
theorem Ad{D DB:List Atom}{t:Atom}(i:Nat)(Ag:D[i]? =some t)(h:Bg DB D):Bg (t::DB) D:=Bg.cons i Ag h
@[reducible] def vx:List Value:=[.int .i64 0,.int .i64 0,.int .i64 0,.int .i64 0]
@[reducible] def vy:List Value:=[.int .i64 0,.int .i64 0]
@[reducible] def XH:List Value:=[.int .i64 0,.int .i64 0,.string ByteArray.empty,.string ByteArray.empty,.int .i64 0,.int .i64 0,.int .i64 0,.int .i64 0]
@[reducible] def dh:List Value:=[.int .i64 0,.int .i64 0,.bool false,.int .i64 0,.int .i64 0,.int .i64 0,.int .i64 0]
@[reducible] def gU:List Value:=[.int .i64 0,.int .i64 0,.int .i64 0,.int .i64 0,.int .i64 0,.int .i64 0,.string ByteArray.empty,.string ByteArray.empty,.int .i64 0,.int .i64 0,.int .i64 0]
@[reducible] def N9:List Value:=[.string ByteArray.empty,.int .i64 0,.int .i64 0,.int .i64 0,.int .i64 0,.slice none 0 0,.int .i64 0,.int .i64 0,.int .i64 0,.int .i64 0]
@[reducible] def IQ:List Value:=[.int .i64 0,.int .i64 0,.bool false,.string ByteArray.empty,.string ByteArray.empty,.int .i64 0,.slice none 0 0,.slice none 0 0,.slice none 0 0,.slice none 0 0,.slice none 0 0,.int .i64 0,.int .i64 0,.int .i64 0,.string ByteArray.empty,.string ByteArray.empty,.int .i64 0,.int .i64 0,.int .i64 0,.int .i64 0,.int .i64 0,.string ByteArray.empty,.string ByteArray.empty,.int .i64 0,.int .i64 0,.slice none 0 0,.int .i64 0,.int .i64 0,.int .i64 0]
@[reducible] def Au9:List Value:=[.int .i64 0,.int .u64 0]
@[reducible] def ARn:List Value:=[.int .i64 0,.string ByteArray.empty,.string ByteArray.empty,.int .i64 0,.int .i64 0,.int .i64 0]
@[reducible] def ARo:List Value:=[.int .i64 0,.int .i64 0,.int .i64 0,.int .i64 0,.int .i64 0,.int .i64 0,.int .i64 0,.string ByteArray.empty,.int .i64 0,.int .i64 0,.int .i64 0,.bool false,.int .i64 0,.string ByteArray.empty,.string ByteArray.empty,.int .i64 0,.int .i64 0,.int .i64 0,.int .i64 0,.int .i64 0,.int .i64 0,.string ByteArray.empty,.string ByteArray.empty,.int .i64 0,.int .i64 0,.slice none 0 0]
@[reducible] def AuF{α β:Type}(FA:Be α)(Kb:Be β)(o n:Nat)(x:α)(y:β):Prop:=∀(S:Nat->Prop) (w:World) (cs:List Value),FA.rd S w cs x->Kb.rd S w ((cs.drop o).take n) y
theorem BE{D DB:List Atom}(l:List Nat)(h:l.map (fun i=>D[i]?)=DB.map some):Bg DB D:=by
  induction DB generalizing l with
  |nil=>exact Bg.nil
  |cons a r Cg=>
    cases l with
    |nil=>cases h
    |cons i l=>
      simp only[AB8,ACj]at h;exact Bg.cons i h.1 (Cg l h.2)
theorem Bs{l env:Env}(h:l.map (fun p=>C1 env p.1)=l.map (fun p=>some p.2)):Sub l env:=by
  induction l with
  |nil=>trivial
  |cons p r Cg=>
    simp only[AB8,ACj]at h;exact⟨h.1,Cg h.2⟩
@[reducible] def AI:Value:=.slice none 0 0
theorem Fo{c:Cj}{ops:Array Oper}{J:Cj->Array Oper->List Oper->Env->Own->List Atom->Prop}[Ip J]{env:Env}{L:Own}{D:List Atom}{rest:List Oper}{d:Nat}{t:TypeId}{p:String}{af:Array Edge}{x y:Operand}{α:Type}[Inhabited α]{r:Be α}(i:Nat){xs:List α}{Bk:Value}{m:Int}{T E:TypeId}(Ab:AL env x=some Bk)(Cl:D[i]? =some (@Atom.mk (List α) (@FI α r) Bk xs))(Bf:AL env y=some (.int .i64 m))(Av:H5 c.P T E r.size)(Ao:Nat.blt d c.n=true)(k:∀u,J c ops rest ((d,u)::env) L ((@Atom.mk (Cq α) (@F9 α r) u ⟨xs.getD m.toNat default⟩)::D))(Bw:0<=m:=by omega)(Af:m.toNat<xs.length:=by omega):J c ops (⟨some d,.indexAddr T x y,t,p,af,none⟩::rest) env L D:=Qh i Ab Cl Bf Av Bw (Ly Af) Ao k
@[reducible] def Ak{α:Type}(x:α):Cq α:=⟨x⟩
theorem CJ{c:Cj}{ops:Array Oper}{J:Cj->Array Oper->List Oper->Env->Own->List Atom->Prop}[Ip J]{env:Env}{L:Own}{D:List Atom}{rest:List Oper}{d:Nat}{t:TypeId}{p:String}{af:Array Edge}{x:Operand}{α β:Type}{FA:Be α}{Kb:Be β}(i:Nat){ov:α}{iw:β}{By:Value}{s:TypeId}{j off:Nat}(CK:∀S w cs,FA.rd S w cs ov->Kb.rd S w ((cs.drop off).take Kb.size) iw)(Ab:AL env x=some By)(Cl:D[i]? =some (@Atom.mk (Cq α) (@F9 α FA) By ⟨ov⟩))(BI:QD c.P s j off)
 (Ao:Nat.blt d c.n=true)(k:∀u,J c ops rest ((d,u)::env) L ((@Atom.mk (Cq β) (@F9 β Kb) u ⟨iw⟩)::D)):J c ops (⟨some d,.fieldAddr s x j,t,p,af,none⟩::rest) env L D:=IY i (fun _=>iw) Ab Cl BI CK Ao k
@[reducible] def ALM(b o:Nat):Value:=.pointer (some ⟨b,o,none⟩)
@[reducible] def ALu:Value:=.int .i64 0
@[reducible] def AL7:Value:=.string ByteArray.empty
theorem Qm{α:Type _}{l:List α}{a:α}(i:Nat)(h:l[i]? =some a):a∈l:=AA' h
theorem Ac{c:Cj}{y:Code}{Q:AuE}{Q':AuE}{ops:Array Oper}{env:Env}{L:Own}{D:List Atom}(h:CF c y Q env L D):Cb (Exit.then (Code.wp c.P y Q) Q') c ops [] env L D:=nl (A5 h)
theorem AZ{c:Cj}{y:Code}{Q:AuE}{Q':AuE}{env:Env}{L:Own}{D:List Atom}(h:CF c y Q env L D):CF c .skip (Exit.then (Code.wp c.P y Q) Q') env L D:=EG (A5 h)
theorem BA{c:Cj}{K:Act->World->Prop}{Q:AuE}{env:Env}{L:Own}{D:List Atom}(h:Eg c Q .ret env L D):CF c .ret (Exit.then K Q) env L D:=rt (Cd h)
section
def gW(P:Program)(T:TypeId)(offs:List Nat):Prop:=∃B1:Array Field,P.underlying T=some (.struct B1)/\(B1.toList.map fun f=>((P.info? f.type).map (fun j=>j.size==0),f.offset))=offs.map (fun o=>(some false,o))
theorem gW.at_{P:Program}{T:TypeId}{offs:List Nat}(h:gW P T offs){i off:Nat}(Ag:offs[i]? =some off):QD P T i off:=by
 obtain⟨B1,hu,he⟩:=h;have Af:(offs.map (fun o=>((some false:Option Bool),o)))[i]? =some (some false,off):=by simp[Ag]
 rw[<-he,List.getElem?_map]at Af;obtain⟨f,BI,h2⟩:=ACr.1 Af;simp only[ACg]at h2;exact QD.mk hu (f:=f) (by simpa using BI) h2.1 h2.2
def Un(P:Program):List (Nat×List Nat)->Prop
 |[]=>True
 |p::r=>gW P p.1 p.2/\Un P r
def Vy(P:Program):List Nat->Prop
 |[]=>True
 |T::r=>Nv P T/\Vy P r
def ZB(P:Program):List (Nat×Nat)->Prop
 |[]=>True
 |p::r=>Oc P p.1 p.2/\ZB P r
class J7 (P:Program) where
 B1:List (Nat×List Nat)
 os:List Nat
 rs:List (Nat×Nat)
 okF:Un P B1
 Qq:Vy P os
 b0:ZB P rs
 fq:P.follows .mixedOrders=true
def aD:List (Nat×List Nat)->Nat->Nat->Option Nat
 |[],_,_=>none
 |(T,l)::r,s,i=>bif T==s then l[i]? else aD r s i
def A7:List Nat->Nat->Bool
 |[],_=>false
 |T::r,s=>bif T==s then true else A7 r s
def ro:List (Nat×Nat)->Nat->Option Nat
 |[],_=>none
 |(T,n)::r,s=>bif T==s then some n else ro r s
theorem fR{P:Program}{s n:Nat}:∀{l:List (Nat×Nat)},ZB P l->ro l s=some n->Oc P s n
 |[],_,h=>by cases h
 |(T,m)::r,AN,h=>by
  simp only[ro]at h;by_cases LY:T=s
  · subst LY;simp at h;subst h;exact AN.1
  have:(T==s)=false:=(by simpa using LY);rw[this]at h;exact fR AN.2 h
theorem ic{P:Program}{s i off:Nat}:∀{l:List (Nat×List Nat)},Un P l->aD l s i=some off->QD P s i off
 |[],_,h=>by cases h
 |(T,l)::r,AN,h=>by
  simp only[aD]at h;by_cases LY:T=s
  · subst LY;simp at h;exact AN.1.at_ h
  have:(T==s)=false:=(by simpa using LY);rw[this]at h;exact ic AN.2 h
theorem a9{P:Program}{s:Nat}:∀{l:List Nat},Vy P l->A7 l s=true->Nv P s
 |[],_,h=>by cases h
 |T::r,AN,h=>by
  simp only[A7]at h;by_cases LY:T=s
  · subst LY;exact AN.1
  have:(T==s)=false:=(by simpa using LY);rw[this]at h;exact a9 AN.2 h
def R0(ops:Array Oper)(env:Env)(j:Nat)(b:Bool):Option Bool:=match ops[j]? with
 |some o=>match o.dst with
  |some d=>match C1 env d with
   |some (.bool KZ)=>some (KZ==b)
   |some (.tuple _)=>some false
   |_=>none
  |none=>none
 |none=>none
def nC:BinOp->Value->Value->Option Value
 | .lss,.int q m,.int EJ n=>if q=EJ then some (.bool (decide (m<n)))else none
 | .leq,.int q m,.int EJ n=>if q=EJ then some (.bool (decide (m<=n)))else none
 | .gtr,.int q m,.int EJ n=>if q=EJ then some (.bool (decide (n<m)))else none
 | .geq,.int q m,.int EJ n=>if q=EJ then some (.bool (decide (n<=m)))else none
 | .eql,.int q m,.int EJ n=>if q=EJ then some (.bool (decide (m=n)))else none
 | .neq,.int q m,.int EJ n=>if q=EJ then some (.bool (!decide (m=n)))else none
 | .eql,.string s,.string DR=>some (.bool (decide (s=DR)))
 | .neq,.string s,.string DR=>some (.bool (!decide (s=DR)))
 |_,_,_=>none
def By(B1:List (Nat×List Nat))(env:Env):Op->Option Value
 | .move x=>AL env x
 | .assign x=>AL env x
 | .nilCheck x=>match AL env x with
  |some (.pointer (some a))=>some (.pointer (some a))
  |_=>none
 | .extract x i=>match AL env x with
  |some (.tuple vs)=>vs[i]?
  |_=>none
 | .pick x y z=>match AL env x with
  |some (.bool true)=>AL env y
  |some (.bool false)=>AL env z
  |_=>none
 | .unOp .not _ x=>match AL env x with
  |some (.bool b)=>some (.bool (!b))
  |_=>none
 | .fieldAddr s x i=>match AL env x with
  |some (.pointer (some ⟨b,o,none⟩))=>match aD B1 s i with
   |some off=>some (.pointer (some ⟨b,o+off,none⟩))
   |none=>none
  |_=>none
 | .binOp op _ x y _=>match AL env x with
  |some u=>match AL env y with
   |some v=>nC op u v
   |none=>none
  |none=>none
 |_=>none
def pl(B1:List (Nat×List Nat))(os:List Nat)(L:Own)(env:Env)(h:List Nat):Op->Option (Value×List Nat×List (C4×C4))
 | .load E x=>match h with
  |i::DI=>match AL env x with
   |some (.pointer (some ⟨b,o,none⟩))=>match L[i]? with
    |some q=>match q.cs[o]? with
     |some v=>bif A7 os E then some (v,DI,[(q,AO b q.ty q.cs)])else none
     |none=>none
    |none=>none
   |_=>none
  |[]=>none
 |op=>match By B1 env op with
  |some v=>some (v,h,[])
  |none=>none
def run(n:Nat)(B1:List (Nat×List Nat))(os:List Nat)(ops:Array Oper)(L:Own):Nat->List Nat->List Oper->Env->Option (List Oper×Env×List (C4×C4))
 |0,_,l,env=>some (l,env,[])
 |_+1,_,[],_=>none
 |k+1,h,o::r,env=>match o.dst with
  |none=>none
  |some d=>bif Nat.blt d n then(match(match o.guard with
   |none=>some true
   |some (j,b)=>R0 ops env j b)with
   |some true=>match pl B1 os L env h o.op with
    |some (v,DI,a)=>match run n B1 os ops L k DI r ((d,v)::env)with
     |some (fI,IV,b)=>some (fI,IV,a++b)
     |none=>none
    |none=>none
   |some false=>run n B1 os ops L k h r ((d,undef)::env)
   |none=>none)else none
section
variable{c:Cj} {ops:Array Oper} {J:Cj->Array Oper->List Oper->Env->Own->List Atom->Prop} [Dr:Ip J] {env env':Env} {L:Own} {D:List Atom} {rest l WL:List Oper} {d:Nat} {v:Value} {t:TypeId} {p:String} {af:Array Edge}
include Dr
theorem cc{B1:List (Nat×List Nat)}(BI:Un c.P B1){op:Op}(h:By B1 env op=some v)(Ao:Nat.blt d c.n=true)(k:J c ops rest ((d,v)::env) L D):J c ops (⟨some d,op,t,p,af,none⟩::rest) env L D:=by
 cases op<;>simp only[By,reduceCtorEq]at h
 case move x=>exact An h Ao k
 case assign x=>exact VQ h Ao k
 case nilCheck x=>
  split at h
  · rename_i a AK;injection h with h;subst h;exact Va AK Ao k
  cases h
 case extract x i=>
  split at h
  · rename_i vs Ab;exact Ec Ab h Ao k
  cases h
 case pick x y z=>
  split at h
  · rename_i Ab;exact Ahk Ab h Ao k
  · rename_i Ab;exact Ahj Ab h Ao k
  cases h
 case unOp o ty x=>
  cases o<;>simp only[reduceCtorEq]at h;split at h
  · rename_i b Ab;injection h with h;subst h;exact IH Ab Ao k
  cases h
 case fieldAddr s x i=>
  split at h
  · rename_i b o Ab;split at h
    · rename_i off A7;injection h with h;subst h;exact UG Ab (ic BI A7) Ao k
    cases h
  cases h
 case binOp op Apk x y FK=>
  split at h
  · rename_i u Ab;split at h
    · rename_i Pc Bf;unfold nC at h;split at h
      · split at h
        · rename_i B';subst B';injection h with h;subst h;exact Ci Ab Bf Ao k
        cases h
      · split at h
        · rename_i B';subst B';injection h with h;subst h;exact Adp Ab Bf Ao k
        cases h
      · split at h
        · rename_i B';subst B';injection h with h;subst h;exact AaD Ab Bf Ao k
        cases h
      · split at h
        · rename_i B';subst B';injection h with h;subst h;exact Aat Ab Bf Ao k
        cases h
      · split at h
        · rename_i B';subst B';injection h with h;subst h;exact zc Ab Bf Ao k
        cases h
      · split at h
        · rename_i B';subst B';injection h with h;subst h;exact Aem Ab Bf Ao k
        cases h
      · injection h with h;subst h;exact ze Ab Bf Ao k
      · injection h with h;subst h;exact Aen Ab Bf Ao k
      cases h
    cases h
  cases h
theorem Ahl{B1:List (Nat×List Nat)}{os:List Nat}(BI:Un c.P B1)(Qc:Vy c.P os){op:Op}{hs HW:List Nat}{a:List (C4×C4)}(h:pl B1 os L env hs op=some (v,HW,a))(AK:a.map Prod.fst=a.map Prod.snd)(Ao:Nat.blt d c.n=true)(k:J c ops rest ((d,v)::env) L D):J c ops (⟨some d,op,t,p,af,none⟩::rest) env L D:=by
 unfold pl at h;split at h
 · split at h
   · split at h
     · rename_i b o Ab;split at h
       · rename_i q B';split at h
         · rename_i J4 BC;cases Dk:A7 os _ with
           |false=>rw[Dk]at h;cases h
           |true=>
            rw[Dk]at h;simp only[cond_true,ABX,ACg]at h;obtain⟨rfl,rfl,rfl⟩:=h;simp only[AB8,ACU,ACj,and_true]at AK;exact ME _ Ab (B'.trans (ABE some AK)) (a9 Qc Dk) BC Ao k
         cases h
       cases h
     cases h
   cases h
 split at h
 · rename_i J4 BC;simp only[ABX,ACg]at h;obtain⟨rfl,rfl,rfl⟩:=h;exact cc BI BC Ao k
 cases h
theorem iy{dst:Option Tmp}{op:Op}{j:Nat}{b:Bool}(h:R0 ops env j b=some true)(k:J c ops (⟨dst,op,t,p,af,none⟩::rest) env L D):J c ops (⟨dst,op,t,p,af,some (j,b)⟩::rest) env L D:=by
 unfold R0 at h;split at h
 · rename_i NV Ay;split at h
   · rename_i V1 U0;split at h
     · rename_i KZ Aq;simp only[ABX,beq_iff_eq]at h;subst h;exact Bl Ay U0 Aq k
     · cases h
     cases h
   cases h
 cases h
theorem iu{op:Op}{j:Nat}{b:Bool}(h:R0 ops env j b=some false)(Ao:Nat.blt d c.n=true)(k:J c ops rest ((d,undef)::env) L D):J c ops (⟨some d,op,t,p,af,some (j,b)⟩::rest) env L D:=by
 unfold R0 at h;split at h
 · rename_i NV Ay;split at h
   · rename_i V1 U0;split at h
     · rename_i KZ Aq;simp only[ABX]at h;exact G2 Ay U0 Aq h Ao k
     · rename_i Zn Aq;exact Dr.c4 (fun a w f st AR=>by
        have:=f.at_ _ _ Aq;exact⟨by simp[Region.wanted,yielded,Ay,U0,this],f.put undef (EU Ao)⟩) k
     cases h
   cases h
 cases h
theorem TR{B1:List (Nat×List Nat)}{os:List Nat}(BI:Un c.P B1)(Qc:Vy c.P os):∀(n:Nat) {hs:List Nat} {l:List Oper} {env:Env} {a:List (C4×C4)},run c.n B1 os ops L n hs l env=some (WL,env',a)->a.map Prod.fst=a.map Prod.snd->J c ops WL env' L D->J c ops l env L D
 |0,hs,l,env,a,h,AK,k=>by
  simp only[run,ABX,ACg]at h;obtain⟨rfl,rfl,rfl⟩:=h;exact k
 |n+1,hs,[],env,a,h,AK,k=>by simp[run]at h
 |n+1,hs,o::r,env,a,h,AK,k=>by
  have Cg:∀{hs:List Nat} {l:List Oper} {env:Env} {a:List (C4×C4)},run c.n B1 os ops L n hs l env=some (WL,env',a)->a.map Prod.fst=a.map Prod.snd->J c ops l env L D:=fun h AK=>TR BI Qc n h AK k;obtain⟨dst,op,t,p,af,g⟩:=o;cases dst with
  |none=>simp[run]at h
  |some d=>
   simp only[run]at h;cases Ao:Nat.blt d c.n with
   |false=>rw[Ao]at h;cases h
   |true=>
    rw[Ao]at h;simp only[cond_true]at h;split at h
    · rename_i CK;split at h
      · rename_i v DI DP BC;split at h
        · rename_i fI IV b Bh;simp only[ABX,ACg]at h;obtain⟨rfl,rfl,rfl⟩:=h;simp only[List.map_append]at AK;have AN:=List.append_inj AK (by simp);have NP:=Ahl (t:=t) (p:=p) (af:=af) BI Qc BC AN.1 Ao (Cg Bh AN.2);cases g with
          |none=>exact NP
          |some g=>exact iy CK NP
        cases h
      cases h
    · rename_i CK;have NP:=Cg h AK;cases g with
      |none=>cases CK
      |some g=>exact iu CK Ao NP
    cases h
theorem U[Cr:J7 c.P](n:Nat)(h:run c.n Cr.B1 Cr.os ops L n [] l env=some (WL,env',[]))(k:J c ops WL env' L D):J c ops l env L D:=TR Cr.okF Cr.Qq n h rfl k
theorem AX[Cr:J7 c.P](n:Nat)(hs:List Nat){a:List (C4×C4)}(h:run c.n Cr.B1 Cr.os ops L n hs l env=some (WL,env',a))(AK:a.map Prod.fst=a.map Prod.snd)(k:J c ops WL env' L D):J c ops l env L D:=TR Cr.okF Cr.Qq n h AK k
end
end
section
def res:List Nat->Env->Option Env
 |[],_=>some []
 |i::r,env=>match C1 env i with
  |some v=>match res r env with
   |some e=>some ((i,v)::e)
   |none=>none
  |none=>none
theorem TP:∀{Im:List Nat} {env e:Env},res Im env=some e->Sub e env
 |[],env,e,h=>by
  simp only[res,ABX]at h;subst h;trivial
 |i::r,env,e,h=>by
  simp only[res]at h;split at h
  · rename_i v BC;split at h
    · rename_i IV he;injection h with h;subst h;exact⟨BC,TP he⟩
    cases h
  cases h
section
variable{c:Cj} {ops:Array Oper} {J:Cj->Array Oper->List Oper->Env->Own->List Atom->Prop} [Dr:Ip J] {env Jb ay Ta:Env} {L:Own} {D:List Atom} {l rest:List Oper} {d:Nat} {t u:Bool} {a:List (C4×C4)}
include Dr
theorem Fu[Cr:J7 c.P](i n:Nat)(hs Im:List Nat)
 (h:(C1 env i,run c.n Cr.B1 Cr.os ops L n hs l ((i,.bool true)::env),run c.n Cr.B1 Cr.os ops L n [] l ((i,.bool false)::env))=(some (.bool t),some (rest,(d,.bool u)::ay,a),some (rest,(d,.bool false)::Ta,[])))
 (AK:a.map Prod.fst=a.map Prod.snd)(he:(res Im ay,res Im Ta)=(some Jb,some Jb))(K:J c ops rest ((d,.bool (t&&u))::Jb) L D):J c ops l env L D:=by
 simp only[ACg]at h he;exact ts h.1 (fun Av=>TR Cr.okF Cr.Qq n h.2.1 AK (qv K Av (TP he.1) Bg.refl)) (fun Av=>TR Cr.okF Cr.Qq n h.2.2 rfl (qw K Av (TP he.2) Bg.refl))
theorem ET[Cr:J7 c.P](i n:Nat)(hs Im:List Nat)
 (h:(C1 env i,run c.n Cr.B1 Cr.os ops L n hs l ((i,.bool false)::env),run c.n Cr.B1 Cr.os ops L n [] l ((i,.bool true)::env))=(some (.bool t),some (rest,(d,.bool u)::ay,a),some (rest,(d,.bool true)::Ta,[])))
 (AK:a.map Prod.fst=a.map Prod.snd)(he:(res Im ay,res Im Ta)=(some Jb,some Jb))(K:J c ops rest ((d,.bool (t||u))::Jb) L D):J c ops l env L D:=by
 simp only[ACg]at h he;exact tt h.1 (fun Av=>TR Cr.okF Cr.Qq n h.2.1 AK (qx K Av (TP he.1) Bg.refl)) (fun Av=>TR Cr.okF Cr.Qq n h.2.2 rfl (qy K Av (TP he.2) Bg.refl))
end
section
variable{c:Cj} {Q Q':AuE} {env env':Env} {L:Own} {D:List Atom} {l:List Oper} {y:Code} {id:Nat} {a:List (C4×C4)}
theorem FA[Cr:J7 c.P](n:Nat)(h:run c.n Cr.B1 Cr.os l.toArray L n [] l env=some ([],env',[]))(k:Eg c Q .normal env' L D):CF c (.region id l.toArray false) Q env L D:=rg (U n h (nl k))
theorem Kb[Cr:J7 c.P](n:Nat)(hs:List Nat)(h:run c.n Cr.B1 Cr.os l.toArray L n hs l env=some ([],env',a))(AK:a.map Prod.fst=a.map Prod.snd)(k:Eg c Q .normal env' L D):CF c (.region id l.toArray false) Q env L D:=rg (AX n hs h AK (nl k))
theorem AF[Cr:J7 c.P](n:Nat)(h:run c.n Cr.B1 Cr.os l.toArray L n [] l env=some ([],env',[]))(k:CF c y Q env' L D):CF c (.seq (.region id l.toArray false) y) Q env L D:=Am (FA n h (A5 k))
theorem I5[Cr:J7 c.P](n:Nat)(hs:List Nat)(h:run c.n Cr.B1 Cr.os l.toArray L n hs l env=some ([],env',a))(AK:a.map Prod.fst=a.map Prod.snd)(k:CF c y Q env' L D):CF c (.seq (.region id l.toArray false) y) Q env L D:=Am (Kb n hs h AK (A5 k))
theorem Ae(h:Cb (Exit.then (Code.wp c.P y Q) Q) c l.toArray l env L D):CF c (.seq (.region id l.toArray false) y) Q env L D:=Am (rg h)
end
end
section
structure vE (P:Program) where
 f:FuncId
 us:List Value
 DB:List Atom
 u:Value
 h:Cv P f us DB u
 ok:GU P f
inductive Oa (P:Program) where
 |NQ (i:Nat)
 |st (i:Nat)
 |F0 (ix:List Nat) (x:vE P)
 |eq (u v:Value) (h:u=v)
def TB{P:Program}:List (Nat×Oa P)->Nat->Option (Oa P)
 |[],_=>none
 |(j,k)::r,i=>bif Nat.beq j i then some k else TB r i
def Ex{α:Type _}:List (Nat×α)->Nat->Option α
 |[],_=>none
 |(j,k)::r,i=>bif Nat.beq j i then some k else Ex r i
def rY{β:Type}:List Value->List Value->(List Value->Option β)->Option β
 |cs,[],k=>k cs
 |[],_::_,_=>none
 |_::cs,u::us,k=>rY cs us fun r=>k (u::r)
def lT{β:Type}:List Value->Nat->List Value->(List Value->Option β)->Option β
 |cs,0,us,k=>rY cs us k
 |[],_+1,_,_=>none
 |c::cs,n+1,us,k=>lT cs n us fun r=>k (c::r)
def Zm{β:Type}:List Value->Nat->(List Value->Option β)->Option β
 |_,0,k=>k []
 |[],_+1,_=>none
 |c::cs,n+1,k=>Zm cs n fun r=>k (c::r)
def YC(l:List Oper)(d:Nat):Bool:=l.any fun o=>match o.dst with
 |some e=>Nat.beq e d
 |none=>false
def Gv(l:List Oper):Env->Env
 |[]=>[]
 |(d,v)::r=>bif YC l d then Gv l r else(d,v)::Gv l r
inductive Jl where
 |v (l:List Value)
 |o (q:C4)
 |a (l:List (Option Atom))
def GF(l:List Oper)(i:Nat):List Nat:=match l[i]? with
 |some o=>(o.after.toList.filter fun e=>Region.binds .any e&&((match e.ground with
  | .data=>true
  | .guard=>true
  |_=>false)||(match o.guard with
  |some (j,_)=>Nat.beq j e.on
  |none=>false))&&(CN l e.on).isSome).map (·.on)
 |none=>[]
section
variable{c:Cj} {l:List Oper} {env:Env} {L:Own} {D:List Atom} {vs:List (Nat×Value)} {ks:List (Nat×Oa c.P)}
theorem ah{i:Nat}{v:Value}:∀{env:Env},C1 (Gv l env) i=some v->C1 env i=some v
 |[],h=>by cases h
 |(d,u)::r,h=>by
  simp only[Gv]at h;by_cases AJ:d=i
  · subst AJ;cases DK:YC l d with
    |false=>rw[DK]at h;simpa[C1]using h
    |true=>
     rw[DK]at h;simp only[cond_true]at h;exfalso;have no:∀{r:Env} {v:Value},C1 (Gv l r) d=some v->False:=by
      intro r;induction r with
      |nil=>intro v h;cases h
      |cons p r Cg=>
       intro v h;obtain⟨e,u⟩:=p;simp only[Gv]at h;cases Ge:YC l e with
       |true=>rw[Ge]at h;exact Cg h
       |false=>
        rw[Ge]at h;simp only[ACx,C1]at h;have FG:e≠d:=fun IV=>by rw[IV,DK]at Ge;cases Ge
        rw[show(e==d)=false by simpa using FG]at h;exact Cg h
     exact no h
  have F6:(d==i)=false:=(by simpa using AJ);simp only[C1,F6,ACx];cases DK:YC l d with
  |true=>rw[DK]at h;exact ah h
  |false=>
   rw[DK]at h;simp only[ACx,C1,F6]at h;exact ah h
end
end
def tq{β:Type 1}:List Nat->Nat->(List Nat->Option β)->Option β
 |[],i,k=>k [i]
 |j::r,i,k=>tq r i fun x=>k (j::x)
def tr{β:Type 1}:List (List Nat)->List Nat->(List (List Nat)->Option β)->Option β
 |[],i,k=>k [i]
 |j::r,i,k=>tr r i fun x=>k (j::x)
def AjK{β:Type 1}(e:Bool)(h:List Nat)(i:Nat)(CA:List (List Nat))(z:List Nat->List (List Nat)->Option β):Option β:=match e with
 |true=>tq h i fun DI=>tr CA DI fun SQ=>z DI SQ
 |false=>z h CA
section
section
variable{c:Cj} {ops:Array Oper} {J:Cj->Array Oper->List Oper->Env->Own->List Atom->Prop} [Dr:Ip J] {env Jb ay Ta:Env} {L:Own} {D:List Atom} {l rest:List Oper} {d:Nat} {t u:Bool}
include Dr
theorem D4[Cr:J7 c.P](i n:Nat)(Im:List Nat)
 (h:(C1 env i,run c.n Cr.B1 Cr.os ops L n [] l ((i,.bool false)::env))=(some (.bool t),some (rest,(d,.bool false)::Ta,[])))(he:res Im Ta=some Jb)
 (hw:t=true->(∀{e:Env} {Dd:List Atom},res Im e=some Jb->Bg D Dd->J c ops rest ((d,.bool u)::e) L Dd)->J c ops l ((i,.bool true)::env) L D)
 (K:J c ops rest ((d,.bool (t&&u))::Jb) L D):J c ops l env L D:=by
 simp only[ACg]at h;exact ts h.1 (fun Av=>hw Av fun Af DK=>qv K Av (TP Af) DK) (fun Av=>TR Cr.okF Cr.Qq n h.2 rfl (qw K Av (TP he) Bg.refl))
theorem DE[Cr:J7 c.P](i n:Nat)(Im:List Nat)
 (h:(C1 env i,run c.n Cr.B1 Cr.os ops L n [] l ((i,.bool true)::env))=(some (.bool t),some (rest,(d,.bool true)::Ta,[])))(he:res Im Ta=some Jb)
 (hw:t=false->(∀{e:Env} {Dd:List Atom},res Im e=some Jb->Bg D Dd->J c ops rest ((d,.bool u)::e) L Dd)->J c ops l ((i,.bool false)::env) L D)
 (K:J c ops rest ((d,.bool (t||u))::Jb) L D):J c ops l env L D:=by
 simp only[ACg]at h;exact tt h.1 (fun Av=>hw Av fun Af DK=>qx K Av (TP Af) DK) (fun Av=>TR Cr.okF Cr.Qq n h.2 rfl (qy K Av (TP he) Bg.refl))
theorem Cp{α:Type}{r:Be α}(i:Nat){v:Value}{xs:List α}(Ag:D[i]? =some (@Atom.mk (List α) (@FI α r) v xs))(k:v.oneCell'=true->J c ops l env L D):J c ops l env L D:=
 GO (fun _ _ h=>Fh (h _ (AA' Ag))) k
end
def Zi:Nat->Own->Option (Own×Own)
 |0,L=>some ([],L)
 |n+1,q::L=>match Zi n L with
  |some (A,B)=>some (q::A,B)
  |none=>none
 |_+1,[]=>none
theorem lU:∀{n:Nat} {L A B:Own},Zi n L=some (A,B)->L=A++B
 |0,L,A,B,h=>by
  simp only[Zi,ABX,ACg]at h;obtain⟨rfl,rfl⟩:=h;rfl
 |n+1,q::L,A,B,h=>by
  simp only[Zi]at h;split at h
  · rename_i Vx AlZ e;simp only[ABX,ACg]at h;obtain⟨rfl,rfl⟩:=h;rw[lU e];rfl
  cases h
section
variable{c:Cj} {ops:Array Oper} {Q:AuE} {env:Env} {L:Own} {D:List Atom} {rest:List Oper} {d:Nat} {t:TypeId} {p:String} {af:Array Edge}
theorem Hs(n:Nat){L0 Lr:Own}{f:FuncId}{vs:List Value}{DB:List Atom}{β:Type}{R:β->Value->Prop}{DM:β->Value->Own}{out:β->Value->List Atom}(h:Aw c.P f vs L0 DB R DM out)(CM:GU c.P f)(Dv:Zi n L=some (L0,Lr)){xs:List Operand}{ats:Array TypeId}
 (Hm:Gq env xs=some vs)(Cl:Bg DB D)(Ao:Nat.blt d c.n=true)(k:∀y v,R y v->Cb Q c ops rest ((d,v)::env) (DM y v++Lr) (out y v++D)):
 Cb Q c ops (⟨some d,.call {callee:=.value (.func f),args:=xs.toArray,argTypes:=ats},t,p,af,none⟩::rest) env L D:=XY h CM (lU Dv) Hm Cl Ao k
theorem VX(n:Nat){L0 Lr:Own}{f:FuncId}{vs us:List Value}{DB:List Atom}{β:Type}{R:β->Value->Prop}{DM:β->Value->Own}{out:β->Value->List Atom}{first cap:Array Value}{x:Operand}(h:Aw c.P f us L0 DB R DM out)(CM:GU c.P f)(Dv:Zi n L=some (L0,Lr)){xs:List Operand}{ats:Array TypeId}
 (Ab:AL env x=some (.func (.func f) first cap))(Hm:Gq env xs=some vs)(I1:first.toList++vs++cap.toList=us)(Cl:Bg DB D)(Ao:Nat.blt d c.n=true)(k:∀y v,R y v->Cb Q c ops rest ((d,v)::env) (DM y v++Lr) (out y v++D)):
 Cb Q c ops (⟨some d,.call {callee:=.value x,args:=xs.toArray,argTypes:=ats},t,p,af,none⟩::rest) env L D:=hD h CM (lU Dv) Ab Hm I1 Cl Ao k
end
theorem Da{a b:Nat}(h:Nat.ble (a+1) b=true):a<b:=ABy h
theorem JP{α:Type}[Inhabited α]{l:List α}{i:Nat}(h:i<l.length:=by omega):l[i]? =some (l.getD i default):=Ly h
end
end Go.A_
