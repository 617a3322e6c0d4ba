/- Part 6 of shardOnce_holds. -/
import Derived.ProofKit
import Derived.Deep.Slices
import Derived.OpenShut
import Derived.Carry
import Derived.Laws.Small
import Derived.Test.YtalfaopffbkdnaaGreatRows
import Derived.OrdersIn
import Derived.RangeFuncNested
import Derived.RangeFuncLeaves
import Derived.Test.YtalfaopffbkdnaaGreatSdm5

set_option maxRecDepth 20000
set_option maxHeartbeats 1000000
namespace Go.Apw
open Go.A_
structure JD where
 v:Value
instance Qx:Be JD where
 size:=1
 agg:=false
 rd S w cs x:=cs=[x.v]/\x.v.oneCell'=true
 len:=by rintro S w cs x ⟨rfl,_⟩;rfl
 one:=by
  rintro S w cs x ⟨rfl,h⟩ u hu
  simp only[List.mem_cons,List.not_mem_nil,or_false]at hu
  subst hu
  exact h
 DY:=by
  rintro S Fq w AT cs x h _ _
  exact h
@[reducible] instance AmN:Vz Qx:=⟨fun x=>x.v,fun x=>x.v.oneCell'=true,fun h=>h⟩
structure Gb where
 r:Nat
@[reducible] def Gb.zC(x:Gb):JD:=⟨.pointer (some ⟨x.r,0,none⟩)⟩
@[reducible] def Gb.zB(_:Gb):Int:=0
@[reducible] def AjG:Shape Gb where
 H:=Unit
 size:=4
 cells x _:=[.pointer (some ⟨x.r,0,none⟩),.slice none 0 0,.bool false,.int .i64 0]
 sub _ _:=[]
 wf _:=True
 len _ _:=rfl
 one:=by
  intro S w x h Av u hu
  simp only[List.mem_cons,List.not_mem_nil,or_false]at hu
  rcases hu with rfl|rfl|rfl|rfl<;>rfl
@[reducible] instance sU:Be Gb:=Be.D5 AjG
theorem Ku{x:Gb}:∀(S:Nat->Prop) (w:World) (cs:List Value),sU.rd S w cs x->Qx.rd S w ((cs.drop 0).take 1) x.zC:=by
 rintro S w cs ⟨h,rfl,hs,hw⟩
 exact⟨rfl,rfl⟩
theorem sn{x:Gb}:∀(S:Nat->Prop) (w:World) (cs:List Value),sU.rd S w cs x->E_.rd S w ((cs.drop 3).take 1) x.zB:=by
 rintro S w cs ⟨h,rfl,hs,hw⟩
 exact⟨rfl,(by decide:(-9223372036854775808:Int)<=0),(by decide:(0:Int)<=9223372036854775807)⟩
def Ml(s:Bb):Bool:= !decide ((s.fault:Int)=0)|| !decide ((0:Int)=0)
theorem N2(s:Bb):Ml s=true↔s.fault≠0:=by
 unfold Ml
 simp
theorem Xf(s:Bb):Ml s=false↔s.fault=0:=by
 rw[<-Bool.not_eq_true,N2]
 simp
def NG:List UInt8->Bool×Nat×Nat
 |[]=>(false,0,20)
 |c::_=>if 1<c.toNat then(false,0,21)else(decide (c=1),1,0)
def Kw(J:List UInt8):VJ Bool:=Lj J false NG
theorem AjS{s:Bb}(h:s.fault≠0)(n e:Nat):s.step n e=s:=by unfold Bb.step;rw[if_pos h]
theorem fM{α:Type}{J:List UInt8}{d:α}{f:List UInt8->α×Nat×Nat}{s:Bb}(h:s.fault≠0):(Lj J d f s).2=s:=by
 rcases Fx:f (J.drop s.pos)with⟨x,n,e⟩
 simp only[Lj,Fx,AjS h]
theorem Ah8{J:List UInt8}{s:Bb}(h:s.fault≠0):(D6 J s).2=s:=fM (d:=0) (f:=HH 0 0) h
theorem Aif{J:List UInt8}{m:Int}{s:Bb}(h:s.fault≠0):(Gm J m s).2=s:=fM (d:=[]) (f:=fun l=>N3 l m) h
theorem Ah5{J:List UInt8}{s:Bb}(h:s.fault≠0):(Kw J s).2=s:=fM (d:=false) (f:=NG) h
theorem oY(J:List UInt8):(NG J).2.1<=J.length/\((NG J).2.2≠0->(NG J).1=false/\(NG J).2.1=0):=by
 cases J with
 |nil=>simp[NG]
 |cons c r=>
  simp only[NG]
  by_cases h:1<c.toNat
  · rw[if_pos h];simp
  · rw[if_neg h];simp
theorem sI{J:List UInt8}{s:Bb}(AH:s.pos<=J.length):(Kw J s).2.pos<=J.length:=fL AH fun l=>(oY l).1
def Q0(J:List UInt8)(s:Bb):Int:=if s.fault=0/\s.pos<J.length then 24 else(s.fault:Int)
def CO(J:List UInt8):List Nat->List Value×Bb->List Value×Bb
 |[],p=>p
 |o::r,p=>CO J r (p.1.set o (.int .i64 (D6 J p.2).1),(D6 J p.2).2)
def Ea(J:List UInt8):List Nat->List Value×Bb->List Value×Bb
 |[],p=>p
 |o::r,p=>Ea J r (p.1.set o (.string ⟨(Gm J 65535 p.2).1.toArray⟩),(Gm J 65535 p.2).2)
def gQ(cells:List Value)(offs:List Nat):Prop:=∀o∈offs,cells[o]? =some (.int .i64 0)
def gR(cells:List Value)(offs:List Nat):Prop:=∀o∈offs,cells[o]? =some (.string ByteArray.empty)
def NW(b:Nat)(offs:List Nat):List JD:=offs.map fun o=>⟨.pointer (some ⟨b,o,none⟩)⟩
theorem Y4{b:Nat}{offs:List Nat}:(NW b offs).length=offs.length:=List.length_map _
theorem sr{b:Nat}{offs:List Nat}{i:Nat}(h:i<offs.length):(NW b offs)[i]? =some ⟨.pointer (some ⟨b,offs.getD i 0,none⟩)⟩:=by
 simp[NW,List.getD,List.getElem?_eq_getElem h]
theorem Hw{J:List UInt8}:∀{offs:List Nat} {p:List Value×Bb},p.2.pos<=J.length->(CO J offs p).2.pos<=J.length
 |[],_,h=>h
 |_::r,_,h=>Hw (offs:=r) (Hb h)
theorem MP{J:List UInt8}:∀{offs:List Nat} {p:List Value×Bb},p.2.pos<=J.length->(Ea J offs p).2.pos<=J.length
 |[],_,h=>h
 |_::r,_,h=>MP (offs:=r) (Vf h)
theorem TW{cells:List Value}{o:Nat}{v:Value}(h:cells[o]? =some v):cells.set o v=cells:=by
 refine List.ext_getElem? fun n=>?_
 rw[List.getElem?_set]
 split
 · rename_i e
   subst e
   have:=(List.getElem?_eq_some_iff.1 h).1
   rw[if_pos this,h]
 · rfl
theorem Rj{cells:List Value}{o:Nat}{v:Value}(h:cells[o]? =some v):o<cells.length:=(List.getElem?_eq_some_iff.1 h).1
theorem drop_cons{offs:List Nat}{i:Nat}(h:i<offs.length):offs.drop i=offs.getD i 0::offs.drop (i+1):=by
 rw[List.drop_eq_getElem_cons h]
 simp[List.getD,List.getElem?_eq_getElem h]
theorem Ah9{J:List UInt8}{s:Bb}(h:s.fault≠0):(D6 J s).1=0:=by
 have:(rdNum J s).1=0:=by
  simp only[rdNum,Lj,Bb.val]
  rw[if_pos h]
 show Ul (rdNum J s).1=0
 rw[this]
 rfl
theorem Aig{J:List UInt8}{m:Int}{s:Bb}(h:s.fault≠0):(Gm J m s).1=[]:=by
 simp only[Gm,Lj,Bb.val]
 rw[if_pos h]
theorem Ah6{J:List UInt8}{s:Bb}(h:s.fault≠0):(Kw J s).1=false:=by
 simp only[Kw,Lj,Bb.val]
 rw[if_pos h]
theorem AcN{J:List UInt8}{o:Nat}{r:List Nat}{c:List Value}{s:Bb}(h:s.fault≠0)(Bm:c[o]? =some (.int .i64 0)):CO J (o::r) (c,s)=CO J r (c,s):=by
 simp only[CO,Ah9 h,Ah8 h]
 rw[TW Bm]
theorem vu{α:Type}{c:List Value}{o:Nat}{r:List Nat}{u z:Value}(Ao:(o::r).Nodup)(h:∀x∈r,c[x]? =some z):∀x∈r,(c.set o u)[x]? =some z:=by
 intro x Ab
 rw[List.getElem?_set_ne]
 · exact h x Ab
 · rintro rfl
   exact(List.nodup_cons.1 Ao).1 Ab
theorem Y5{b:Nat}(S:Nat->Prop)(w:World):∀offs:List Nat,Go.A_.HM S w (offs.map fun o=>[.pointer (some ⟨b,o,none⟩)]) (NW b offs)
 |[]=>trivial
 |_::r=>⟨⟨rfl,rfl⟩,Y5 S w r⟩
def GI{α:Type}(rd:Bb->α×Bb):Nat->Bb->List α×Bb
 |0,s=>([],s)
 |n+1,s=>if s.fault=0 then((rd s).1::(GI rd n (rd s).2).1,(GI rd n (rd s).2).2)else([],s)
def CS{α:Type}(J:List UInt8)(rd:Bb->α×Bb)(s:Bb):List α×Bb:=GI rd (DT J 1024 s).1 (DT J 1024 s).2
def B2(J:List UInt8)(s:Bb):Bb:=(Kw J s).2
end Go.Apw
namespace Go.A_
open Go.Apw
section
theorem SL{c:List Value}{offs:List Nat}(h:offs.map (fun o=>c[o]?)=offs.map fun _=>some (.int .i64 0)):gQ c offs:=fun o A7=>List.map_inj_left.1 h o A7
theorem vr{c:List Value}{offs:List Nat}(h:offs.map (fun o=>c[o]?)=offs.map fun _=>some (.string ByteArray.empty)):gR c offs:=fun o A7=>List.map_inj_left.1 h o A7
@[reducible] def XB(l:List Oper)(L dm:Own)(vs:List (Nat×Value))(b:Nat)(offs:List Nat):Iq:=
 ⟨GF l,fun _ _=>True,fun i u=>bif Nat.beq i (l.length-2)then[⟨u,NW b offs⟩]else[],Ex vs,fun h _=>match h with
  |[]=>L
  |_=>dm,[l.length-1],[[],[l.length-1]]⟩
def b9(B1:List (Nat×List Nat))(l:List Oper)(env:Env)(vs:List (Nat×Value)):List Oper->Nat->List (Option Value)
 |[],_=>[]
 |o::r,i=>(match o with
  |⟨some _,op,_,_,_,none⟩=>By B1 (Eo l (EC (Ex vs) fun _=>undef) (GF l i)++env) op
  |_=>none)::b9 B1 l env vs r (i+1)
def Xp(vs:List (Nat×Value)):List Oper->Nat->List (Option Value)
 |[],_=>[]
 |_::r,i=>Ex vs i::Xp vs r (i+1)
section
variable{c:Cj} {l:List Oper} {env:Env} {L dm:Own} {D:List Atom} {vs:List (Nat×Value)} {b:Nat} {offs:List Nat}
theorem sh{B1:List (Nat×List Nat)}:∀{r:List Oper} {i:Nat},b9 B1 l env vs r i=Xp vs r i->(Xp vs r i).all (·.isSome)=true->∀k o,r[k]? =some o->∃d op t p af u,o=⟨some d,op,t,p,af,none⟩/\Ex vs (i+k)=some u/\By B1 (Eo l (EC (Ex vs) fun _=>undef) (GF l (i+k))++env) op=some u
 |[],_,_,_,_,_,h=>by simp at h
 |o::r,i,h,AK,0,Lg,Bw=>by
  simp only[List.getElem?_cons_zero,Option.some.injEq]at Bw
  subst Bw
  simp only[b9,Xp,List.cons.injEq,List.all_cons,Bool.and_eq_true]at h AK
  obtain⟨u,hu⟩:=Option.isSome_iff_exists.1 AK.1
  have Af:=h.1
  rw[hu]at Af
  split at Af
  · exact⟨_,_,_,_,_,u,rfl,hu,Af⟩
  · cases Af
 |o::r,i,h,AK,k+1,Lg,Bw=>by
  simp only[List.getElem?_cons_succ]at Bw
  simp only[b9,Xp,List.cons.injEq,List.all_cons,Bool.and_eq_true]at h AK
  have:=sh (i:=i+1) h.2 AK.2 k Lg Bw
  rwa [show i+1+k=i+(k+1)by omega]at this
theorem y9{V:Nat->Value}{m:Nat}(AE:∀k,k<m->(CN l k).isSome=true->(Ex vs k).isSome=true){is:List Nat}(Ag:∀k∈is,k<m):Eo l (EC (Ex vs) V) is=Eo l (EC (Ex vs) fun _=>undef) is:=UC fun k J_ AJ=>by
 obtain⟨v,BC⟩:=Option.isSome_iff_exists.1 (AE k (Ag k J_) AJ)
 simp[EC,BC]
theorem aC{g:Nat->Value}:∀offs:List Nat,(offs.map fun o=>[g o]).flatten=offs.map g
 |[]=>rfl
 |_::r=>by rw[List.map_cons,List.flatten_cons,aC r];rfl
theorem m0{s:Iq}:∀{r:List Oper} {i:Nat},(∀k o,r[k]? =some o->∀(V:Nat->Value) (Az:List Atom),E7 (fun h=>Cb (Nf c l s (D++Az) (i+k) h (h.map V)) c l.toArray [o] (Eo l (EC s.Eb V) (s.E8 (i+k))++env) (s.L h (h.map V)) (FM s.rs (EC s.Eb V) (s.E8 (i+k))++(D++Az))) (Ro l s (i+k)))->OG c l s env D r i
 |[],_,_=>trivial
 |o::r,i,h=>⟨fun V Az _=>h 0 o rfl V Az,m0 fun k Lg AE=>by
  have:=h (k+1) Lg (by simpa using AE)
  rwa [show i+(k+1)=i+1+k by omega]at this⟩
theorem yA{i k:Nat}(h:ND l=true)(AE:k∈GF l i):k<i:=by
 unfold GF at AE
 split at AE
 · rename_i o A7
   obtain⟨e,he,rfl⟩:=List.mem_map.1 AE
   obtain⟨Af,h2⟩:=List.mem_filter.1 he
   simp only[Bool.and_eq_true]at h2
   have Ee:i<l.length:=(List.getElem?_eq_some_iff.1 A7).1
   have Aq:=List.all_eq_true.1 h i (List.mem_range.2 Ee)
   rw[A7]at Aq
   have:=List.all_eq_true.1 Aq e Af
   rw[h2.1.1]at this
   exact EU (by simpa using this)
 · cases AE
theorem MM[Cr:J7 c.P]{Q:Exit->Act->World->Prop}{id:Nat}(b:Nat)(offs ix:List Nat){f:FuncId}{sy:Value}{L0 DM Lr:Own}{DB:Value->List Atom}{T vC bytes d1 d2:Nat}{t1 t2:TypeId}{Rn WY:String}{wT wU:Array Edge}{b':List (Nat×Operand)}{xs:List Operand}{ats:Array TypeId}{E:Env}{DZ:Own}{S':List (Nat×VA)}
 (Bm:∀u,Aw c.P f [sy,u] L0 (DB u) (fun(_:Unit) _=>True) (fun _ _=>DM) fun _ _=>[])(CM:GU c.P f)(Av:EH c.P T vC 1 bytes)
 (AN:(l.drop (l.length-2),L)=([⟨some d1,.buildSlice T offs.length b'.toArray,t1,Rn,wT,none⟩,⟨some d2,.call ⟨.value (.func f),xs.toArray,ats⟩,t2,WY,wU,none⟩],L0++Lr))
 (_:(hO l env fun e=>cu Cr.B1 Cr.os Cr.rs ([]:List (Nat×Oa c.P)) l.toArray (l.take (l.length-2)) 0 L [] [] e)=some (vs,S',DZ,E))
 (pt:(Pv l (Gv l env)&&ND l&&LX l c.n&&OL l (XB l L (DM++Lr) vs b offs)&&(Xp vs (l.take (l.length-2)) 0).all (·.isSome)&&Nat.ble 1 offs.length&&Nat.ble offs.length 1000,b9 Cr.B1 l (Gv l env) vs (l.take (l.length-2)) 0,(GF l (l.length-1)).contains (l.length-2),Gq (Eo l (EC (Ex vs) fun _=>undef) (GF l (l.length-2))++Gv l env) (b'.map (·.2)),partsOf (b'.map (·.2)),Ex vs (l.length-2),Ex vs (l.length-1),UD l vs (List.range l.length).reverse++Gv l env)
  =(true,Xp vs (l.take (l.length-2)) 0,true,some (offs.map fun o=>.pointer (some ⟨b,o,none⟩)),b',none,none,E))
 (LC:∀V:Nat->Value,(Gq (Eo l (EC (Ex vs) V) (GF l (l.length-1))++Gv l env) xs,(DB (V (l.length-2))).map some)=(some [sy,V (l.length-2)],ix.map fun i=>((⟨V (l.length-2),NW b offs⟩:Atom)::D)[i]?))
 (k:Eg c Q .normal E (DM++Lr) D):CF c (.region id l.toArray true) Q env L D:=by
 simp only[Prod.mk.injEq,Bool.and_eq_true]at AN pt LC
 obtain⟨AN,rfl⟩:=AN
 obtain⟨⟨⟨⟨⟨⟨⟨h2,C'⟩,EY⟩,BB⟩,C0⟩,eP⟩,pT⟩,Yv,Pz,I1,jA,Rh,jK,rfl⟩:=pt
 suffices hw:CF c (.region id l.toArray true) Q (Gv l env) (L0++Lr) D from fun a w f=>hw a w ⟨f.size,f.GV,fun i v Ag=>f.at_ i v (ah Ag)⟩
 generalize Gv l env=env at*
 have hlen:l.length=(l.length-2)+2:=by
  have:=congrArg List.length AN
  simp at this
  omega
 generalize pN:l.length-2=m at*
 generalize Sd:l.length-1=Kq at*
 obtain rfl:Kq=m+1:=by omega
 have aE:l[m]? =(l.drop m)[0]? :=by simp
 have Hj:l[m+1]? =(l.drop m)[1]? :=by simp
 rw[AN]at aE Hj
 simp only[List.getElem?_cons_zero,List.getElem?_cons_succ]at aE Hj
 have p0:=sh Yv C0
 have Md:∀k,k<m->(l.take m)[k]? =l[k]? :=fun k AE=>by rw[List.getElem?_take,if_pos AE]
 have eN:∀k,k<m->(CN l k).isSome=true->(Ex vs k).isSome=true:=fun k AE _=>by
  obtain⟨d,op,t,p,af,u,_,hu,_⟩:=p0 k l[k] (by rw[Md k AE,List.getElem?_eq_getElem])
  rw[Nat.zero_add]at hu
  rw[hu];rfl
 refine lh (XB l (L0++Lr) (DM++Lr) vs b offs) (fun _=>DM++Lr) Cr.fq (by
  simp only[fP,Bool.and_eq_true]
  exact⟨⟨⟨⟨nY,h2⟩,C'⟩,EY⟩,BB⟩) rfl (E7.intro fun hh hm _=>?_) (m0 fun i o A7 V Az=>E7.intro fun hh hm=>?_) fun V _=>?_
 · have Af:=(List.mem_filter.1 hm).2
   cases hh with
   |nil=>simp at Af
   |cons x y=>rfl
 · rw[Nat.zero_add]at hm ⊢
   have Ag:i<l.length:=(List.getElem?_eq_some_iff.1 A7).1
   have jm:∀j,(XB l (L0++Lr) (DM++Lr) vs b offs).Eu.contains j=Nat.beq j (m+1):=fun j=>by
    show([l.length-1]:List Nat).contains j=_
    rw[Sd]
    rw[Bool.eq_iff_iff]
    simp[Nat.beq_eq]
   by_cases Sb:i=m+1
   · subst Sb
     rw[Hj]at A7
     injection A7 with A7
     subst A7
     have Ao:=gh EY Hj rfl
     have AbJ:hh=[]:=by
      obtain⟨Af,Bo⟩:=List.mem_filter.1 hm
      simp only[Bool.and_eq_true,Bool.or_eq_true,Bool.not_eq_true']at Bo
      rcases Bo.1 with Bo|Bo
      · rw[jm]at Bo;simp at Bo
      · simp only[List.mem_cons,List.not_mem_nil,or_false]at Af
        rcases Af with rfl|rfl
        · rfl
        · simp[Sd]at Bo
     subst AbJ
     have Kp:(⟨V m,NW b offs⟩:Atom)∈FM (XB l (L0++Lr) (DM++Lr) vs b offs).rs (EC (Ex vs) V) (GF l (m+1)):=fp (s:=(XB l (L0++Lr) (DM++Lr) vs b offs).rs) (k:=m) (by simpa using Pz) (by
      show _∈(bif Nat.beq m (l.length-2)then _ else _)
      rw[show EC (Ex vs) V m=V m by simp[EC,Rh]]
      simp[pN])
     refine XY (Bm (V m)) CM (L:=L0++Lr) rfl (LC V).1 (fun a AK=>?_) Ao fun y v _=>nl (Ig (d:=d2) (u:=v) (by simp[CN,Hj]) (by simp[C1]) ?_ ?_ ?_ l1)
     · have Af:some a∈(DB (V m)).map some:=List.mem_map.2 ⟨a,AK,rfl⟩
       rw[(LC V).2]at Af
       obtain⟨q,_,B'⟩:=List.mem_map.1 Af
       rcases List.mem_cons.1 (List.mem_of_getElem? B')with rfl|Af
       · exact List.mem_append.2 (.inl Kp)
       · exact List.mem_append.2 (.inr (List.mem_append.2 (.inl Af)))
     · unfold Qp
       rw[jm]
       simp
     · show(match Ex vs (m+1)with|some J4=>v=J4|none=>True)
       rw[jK];trivial
     · show Bg (bif Nat.beq (m+1) (l.length-2)then _ else _) _
       rw[show Nat.beq (m+1) (l.length-2)=false from Bool.not_eq_true _▸fun e=>by have:=Nat.eq_of_beq_eq_true e;omega]
       exact Bg.nil
   · have FG:Nat.beq i (m+1)=false:=Bool.not_eq_true _▸fun e=>Sb (Nat.eq_of_beq_eq_true e)
     have LH:∀k∈GF l i,k<m:=fun k AE=>by have:=yA C' AE;omega
     have Ab:∀{DZ:Own} {u:Value},DZ=(XB l (L0++Lr) (DM++Lr) vs b offs).L hh (hh.map V)->DZ=Qp (XB l (L0++Lr) (DM++Lr) vs b offs) hh (hh.map V) i u:=fun e=>by
      unfold Qp
      rw[jm,FG]
      exact e
     show Cb _ c l.toArray [o] (Eo l (EC (Ex vs) V) (GF l i)++env) _ _
     rw[y9 eN LH]
     by_cases AbL:i=m
     · subst AbL
       rw[aE]at A7
       injection A7 with A7
       subst A7
       have Ao:=gh EY aE rfl
       refine BH (xs:=b'.map (·.2)) I1 Av (by simp[List.all_map,Value.oneCell']) (by simpa using pT) (by cases offs with|nil=>simp at eP|cons=>rfl) (by simp) Ao jA fun KZ=>Q5 (NW b offs) (offs.map fun o=>[.pointer (some ⟨b,o,none⟩)]) (aC offs) (fun S w _=>Y5 S w _) (by rw[Y4];have:=Nat.le_of_ble_eq_true pT;omega) (nl (Ig (d:=d1) (u:=.slice (some ⟨KZ,0,none⟩) offs.length offs.length) (by simp[CN,aE]) (by simp[C1]) (Ab rfl) ?_ ?_ ?_))
       · show(match Ex vs i with|some J4=>_=J4|none=>True)
         rw[Rh];trivial
       · show Bg (bif Nat.beq i (l.length-2)then _ else _) _
         rw[pN,show Nat.beq i i=true by simp]
         intro t Av
         simp only[cond_true,List.mem_singleton]at Av
         subst Av
         rw[Y4]
         exact List.mem_cons_self ..
       · intro t Av
         exact List.mem_cons_of_mem _ (List.mem_append.2 (.inr Av))
     · have AbM:i<m:=by omega
       obtain⟨d,op,t,p,af,u,rfl,hu,Yw⟩:=p0 i o (by rw[Md i AbM];exact A7)
       rw[Nat.zero_add]at hu Yw
       have Ao:=gh EY A7 rfl
       refine cc Cr.okF Yw Ao (nl (Ig (d:=d) (u:=u) (by simp[CN,A7]) (by simp[C1]) (Ab rfl) ?_ ?_ l1))
       · show(match Ex vs i with|some J4=>u=J4|none=>True)
         rw[hu]
       · show Bg (bif Nat.beq i (l.length-2)then _ else _) _
         rw[show Nat.beq i (l.length-2)=false from Bool.not_eq_true _▸fun e=>by have:=Nat.eq_of_beq_eq_true e;omega]
         exact Bg.nil
 · intro a w f st AR
   refine k a w ⟨f.size,f.GV,fun i v Ag=>f.at_ i v ?_⟩ st (AR.sub fun t Av=>List.mem_append.2 (.inr Av))
   exact y_ h2 Ag
end
end
end Go.A_
namespace Go.A_
def MU(P:Program)(T:TypeId){α:Type}(r:Be α):Prop:=
 ∀(H:Type) (enc:TypeId×Value->H) (w:World) (fuel:Nat) (cs:List Value) (x:DataW H×List MemPlace),DataW.trod enc P w 0 (fun _=>true) true fuel T cs=some x->∃a:α,r.rd (fun b=>b<w.heap.size) w cs a
theorem AfN{P:Program}{T:TypeId}(hu:P.underlying T=some (.int .i64)):MU P T E_:=by
 intro H enc w fuel cs x h
 obtain⟨n,rfl,_,hw⟩:=DataW.trod_int hu h
 refine⟨n,rfl,?_⟩
 simp[Lit.wf,IntKind.min,IntKind.max,IntKind.signed,IntKind.bits]at hw
 exact⟨by omega,by omega⟩
theorem AfM{P:Program}{T:TypeId}(hu:P.underlying T=some (.int .u8)):MU P T Rv:=by
 intro H enc w fuel cs x h
 obtain⟨n,rfl,_,hw⟩:=DataW.trod_int hu h
 simp[Lit.wf,IntKind.min,IntKind.max,IntKind.signed,IntKind.bits]at hw
 refine⟨UInt8.ofNat n.toNat,?_,trivial⟩
 show[Value.int .u8 n]=[Value.int .u8 ((UInt8.ofNat n.toNat).toNat:Int)]
 have:((UInt8.ofNat n.toNat).toNat:Int)=n:=by
  have:(UInt8.ofNat n.toNat).toNat=n.toNat:=by simp;omega
  rw[this];omega
 rw[this]
theorem AfO{P:Program}{T:TypeId}(hu:P.underlying T=some .string):MU P T Nl:=by
 intro H enc w fuel cs x h
 obtain⟨s,rfl,_,hs⟩:=DataW.trod_string hu h
 exact⟨s,rfl,by simpa only[maxLen]using hs⟩
theorem AfL{P:Program}{T:TypeId}(hu:P.underlying T=some .bool):MU P T cr:=by
 intro H enc w fuel cs x h
 obtain⟨b,rfl,_⟩:=DataW.trod_bool hu h
 exact⟨b,rfl,trivial⟩
theorem nT{w:World}{a:Addr}{n:Nat}{cs:List Value}(h:w.cells? 0 a n=some cs):cs.length=n/\∀j u,cs[j]? =some u->w.cell? (a.add j)=some u:=by
 unfold World.cells? at h
 rw[if_pos (Nat.zero_le _)]at h
 have AN:cs.length=n:=by simpa using mapM_some_length h
 refine⟨AN,fun j u hu=>?_⟩
 have Ay:j<n:=by rw[<-AN];exact(List.getElem?_eq_some_iff.1 hu).1
 have Bm:=mapM_some_get h j j (by simp[Ay])
 rw[hu]at Bm
 exact Bm
theorem rV{P:Program}{T E:TypeId}{α:Type}{r:Be α}(hu:P.underlying T=some (.slice E))(hs:P.cellsOf E=r.size)(Bw:0<r.size)(Ge:MU P E r):MU P T (@FI α r):=by
 intro H enc w fuel cs x h
 rcases Deep.open_slice hu h with⟨rfl,_⟩|⟨a,len,cap,m,n,D,wj,rfl,_,pJ,Wp,hm,_,Ag⟩
 · exact⟨[],none,0,rfl,Nat.le_refl _,by decide,Nat.zero_le _,fun h=>absurd rfl h⟩
 · have Anx:len<=m:=by rw[hm];split<;>omega
   have key:∀i,i<len->∃e:α,∃KH,w.cells? 0 (a.add (i*P.cellsOf E)) (P.cellsOf E)=some KH/\r.rd (fun b=>b<w.heap.size) w KH e:=by
    intro i C_
    obtain⟨KH,Af,h2⟩:=Ag i (by omega)
    obtain⟨e,he⟩:=Ge H enc w n KH _ h2
    exact⟨e,KH,Af,he⟩
   have:∃xs:List α,xs.length=len/\∀i e,xs[i]? =some e->∃KH,w.cells? 0 (a.add (i*P.cellsOf E)) (P.cellsOf E)=some KH/\r.rd (fun b=>b<w.heap.size) w KH e:=by
    have gen:∀k,(∀i,i<k->∃e:α,∃KH,w.cells? 0 (a.add (i*P.cellsOf E)) (P.cellsOf E)=some KH/\r.rd (fun b=>b<w.heap.size) w KH e)->∃xs:List α,xs.length=k/\∀i e,xs[i]? =some e->∃KH,w.cells? 0 (a.add (i*P.cellsOf E)) (P.cellsOf E)=some KH/\r.rd (fun b=>b<w.heap.size) w KH e:=by
     intro k key
     induction k with
     |zero=>exact⟨[],rfl,by simp⟩
     |succ k Cg=>
      obtain⟨xs,Af,h2⟩:=Cg fun i C_=>key i (by omega)
      obtain⟨e,he⟩:=key k (by omega)
      refine⟨xs++[e],by simp[Af],fun i IV Ag=>?_⟩
      rw[List.getElem?_append]at Ag
      split at Ag
      · exact h2 i IV Ag
      · rename_i aX
        have:i=k:=by
         have:=(List.getElem?_eq_some_iff.1 Ag).1
         simp at this
         omega
        subst this
        simp[Af]at Ag
        subst Ag
        exact he
    exact gen len key
   obtain⟨xs,Sg,Ab⟩:=this
   subst Sg
   refine⟨xs,some a,cap,rfl,pJ,by simpa only[maxLen]using Wp,by simp only[maxLen]at Wp;omega,fun FG=>?_⟩
   have WA:0<xs.length:=List.length_pos_iff.2 FG
   obtain⟨KH,Af,h2⟩:=Ab 0 xs[0] (List.getElem?_eq_getElem WA)
   obtain⟨Qa,PB⟩:=nT Af
   have Rd:=PB 0 KH[0] (List.getElem?_eq_getElem (by omega))
   have WE:=World.cell?_spot Rd
   obtain⟨b,o,spot⟩:=a
   have Acg:spot=none:=by simpa[Addr.add]using WE
   subst Acg
   have Aq:b<w.heap.size:=by
    unfold World.cell? at Rd
    simp only[Addr.add]at Rd
    split at Rd
    · rename_i hh
      exact TD (by simpa using hh)
    · cases Rd
   refine⟨b,o,rfl,Aq,fun i e he=>?_⟩
   obtain⟨yp,Hj,G1⟩:=Ab i e he
   refine⟨yp,G1,fun j u hu=>?_⟩
   have:=(nT Hj).2 j u hu
   rw[hs,Addr.add_mid,Addr.add_mid]at this
   exact this
end Go.A_
namespace Go.A_
open Go.ChangeShapes Go.WideShapes Go.RowKit
theorem l0{P:Program}{H:Type}{enc:TypeId×Value->H}{w:World}{fuel:Nat}{T:TypeId}{B1:Array Field}{cs:List Value}{x:DataW H×List MemPlace}
 (hu:P.underlying T=some (.struct B1))(h:DataW.trod enc P w 0 (fun _=>true) true fuel T cs=some x):cs.length=P.cellsOf T:=by
 obtain⟨xs,m,_,_,AN,_,_⟩:=DataW.trod_struct hu h
 exact AN
theorem Js{P:Program}{H:Type}{enc:TypeId×Value->H}{w:World}{fuel:Nat}{T:TypeId}{B1:Array Field}{cs:List Value}{x:DataW H×List MemPlace}
 (hu:P.underlying T=some (.struct B1))(h:DataW.trod enc P w 0 (fun _=>true) true fuel T cs=some x){α:Type}{r:Be α}(i o n:Nat){hb:TypeId}
 (BI:B1[i]?.map (fun f=>(f.type,f.offset))=some (hb,o))(Ao:P.cellsOf hb=n)(Aa2:MU P hb r):∃a:α,r.rd (fun b=>b<w.heap.size) w ((cs.drop o).take n) a:=by
 obtain⟨xs,m,_,_,_,hlen,Ab⟩:=DataW.trod_struct hu h
 cases PA:B1[i]? with
 |none=>rw[PA]at BI;cases BI
 |some f=>
  rw[PA]at BI
  simp only[Option.map_some,Option.some.injEq,Prod.mk.injEq]at BI
  obtain⟨rfl,rfl⟩:=BI
  subst Ao
  have Ag:i<xs.length:=by rw[hlen];exact(Array.getElem?_eq_some_iff.1 PA).1
  have:=Ab i f PA
  rw[List.getElem?_eq_getElem Ag]at this
  exact Aa2 H enc w m _ _ this
theorem w8{P:Program}{H:Type}{enc:TypeId×Value->H}{w:World}{T E:TypeId}{α:Type}{r:Be α}{v:Value}{d:DataW H}{ps:List MemPlace}{rc:Reach}{base:Nat}
 (hu:P.underlying T=some (.slice E))(Dk:MU P T (@FI α r))(BC:Value.okWide P w rc base T v)(h:DataW.Trod enc P w 0 (fun _=>true) true T v d ps):
 ∃l:List α,Atom.holds (@Atom.mk (List α) (@FI α r) v l) (Et [] w) w:=by
 obtain⟨fuel,BI⟩:=h
 obtain⟨A,n,c,rfl⟩:=okWide_slice hu BC
 obtain⟨l,AN⟩:=Dk H enc w fuel _ _ BI
 refine⟨l,rfl,?_⟩
 exact Be.DY (self:=@FI α r) AN (fun b Aq=>⟨Aq,by simp⟩) (fun _ _=>rfl)
theorem t'{H:Type}{enc:TypeId×Value->H}{P:Program}(AN:laidOutB P=true){W SY:World}(Ew:Below W.heap.size W SY):
 ∀(Zn:List TypeId) (vs:List Value) (Cx:List (DataW H)) (ps:List MemPlace),Zn.all (fun t=>P.readableRec t&&decide (t<P.types.size))=true->
  DataW.TrodAll enc P W 0 (fun _=>true) true Zn vs Cx ps->(∀x∈ps,x.block<W.heap.size)->DataW.TrodAll enc P SY 0 (fun b=>decide (b<W.heap.size)) true Zn vs Cx ps
 |[],vs,Cx,ps,_,h,_=>by
  obtain⟨rfl,rfl,rfl⟩:=trodAll_nil h
  exact trodAll_mk0
 |t::Zn,vs,Cx,ps,Bh,h,C_=>by
  obtain⟨v,cV,d,ox,p,q,rfl,rfl,rfl,Af,h2⟩:=trodAll_cons h
  simp only[List.all_cons,Bool.and_eq_true,decide_eq_true_eq]at Bh
  exact trodAll_cons_mk (Below.trod AN Bh.1.1 Bh.1.2 Af Ew (fun x Ab=>C_ x (List.mem_append_left _ Ab))) (t' AN Ew Zn cV ox q Bh.2 h2 (fun x Ab=>C_ x (List.mem_append_right _ Ab)))
theorem AhA{H:Type}{enc:TypeId×Value->H}{P:Program}{f:Func}{s:ChangeSpec}{W SY:World}{args:Array Value}{Cx:List (DataW H)}{before:List MemPlace}{T:TypeId}(AN:laidOutB P=true)
 (AH:f.params.toList.all (fun t=>P.readableRec t&&decide (t<P.types.size))=true)(EX:s.vars=[])(Bh:f.resultTypes= #[T])(LY:P.underlying T=some .bool)
 (Ko:s.fn H Cx={results:=[.lit (.bool true)],args:=Cx})(F5:DataW.Whole enc P f.params.toList s.vars false W args.toList Cx [] before)(Ew:Below W.heap.size W SY):
 s.post enc P f false true false false W args (.bool true) SY:=by
 have C_:∀x∈before,x.block<W.heap.size:=fun x Ab=>by simpa using F5.lt x Ab
 have iV:=F5
 obtain⟨p,q,Cl,LC,rfl,AbI,OZ⟩:=iV
 rw[EX]at LC
 obtain⟨_,rfl⟩:=trodVars_none LC
 refine⟨Cx,[],_,[],p,[],F5,?_,?_,?_,Ew.frame _,fun h=>by cases h⟩
 · rw[List.append_nil,Ko,Bh]
   exact trodAll_mk1 (shut_bool LY true)
 · rw[List.append_nil,Ko]
   exact t' AN Ew _ _ _ _ AH Cl (fun x Ab=>C_ x (List.mem_append_left _ Ab))
 · rw[List.append_nil,Ko,EX]
   rfl
theorem Cv.post{H:Type}{enc:TypeId×Value->H}{P:Program}{f:FuncId}{fn:Func}{s:ChangeSpec}{W:World}{args:List Value}{DB:List Atom}{Cx:List (DataW H)}{before:List MemPlace}{T:TypeId}(AN:laidOutB P=true)
 (AH:fn.params.toList.all (fun t=>P.readableRec t&&decide (t<P.types.size))=true)(EX:s.vars=[])(Bh:fn.resultTypes= #[T])(LY:P.underlying T=some .bool)
 (Ko:s.fn H Cx={results:=[.lit (.bool true)],args:=Cx})(F5:DataW.Whole enc P fn.params.toList s.vars false W args Cx [] before)
 (h:Cv P f args DB (.bool true))(Cl:∀t∈DB,t.holds (Et [] W) W):
 Calls P f args.toArray W fun e SY=>∃v,e=.returned v/\s.post enc P fn false true false false W args.toArray v SY:=by
 refine QK.mono (h [] W (by simp[Own.J,Dt]) (by simp) (by simp) (by simpa[Own.J,Dt]using Cl)) ?_
 rintro v AT ⟨Gg,_,rfl,_⟩
 exact AhA AN AH EX Bh LY Ko (by simpa using F5) Gg.below
end Go.A_
namespace Go.A_
theorem O7{α:Type}{s:Shape α}{S:Nat->Prop}{w:World}{v:Value}{xs:List α}(h:Atom.holds (@Atom.mk (List α) (@FI α (Be.D5 s)) v xs) S w):∀x∈xs,s.wf x:=by
 intro x Ab
 obtain⟨AK,A,Dc,EX,_,_,Bo,BB⟩:=h
 obtain⟨b,o,_,_,Ag⟩:=BB (List.ne_nil_of_mem Ab)
 obtain⟨i,Jf,rfl⟩:=List.getElem_of_mem Ab
 obtain⟨cs,Bm,_⟩:=Ag i _ (List.getElem?_eq_getElem Jf)
 obtain⟨_,_,_,hw⟩:=Bm
 exact hw
theorem Hl{α:Type}[Inhabited α]{l:List α}{i:Nat}(h:i<l.length):l.getD i default∈l:=by
 have:l.getD i default=l[i]:=by simp[List.getD,List.getElem?_eq_getElem h]
 rw[this]
 exact List.getElem_mem h
end Go.A_
namespace Go.A_
open Go.ChangeShapes Go.WideShapes Go.RowKit
theorem Jp{α:Type}(cs:List α)(o n m:Nat)(h:o+n=m):cs.drop o=(cs.drop o).take n++cs.drop m:=by
 subst h
 rw[<-List.drop_drop,List.take_append_drop]
theorem AdR{α:Type}[r:Be α]{S:Nat->Prop}{w:World}{cs:List Value}{l:List α}(h:(@FI α r).rd S w cs l):∃k,cs=[k]/\Atom.holds ⟨k,l⟩ S w:=by
 obtain⟨A,Dc,I0,Bh⟩:=id h
 refine⟨_,I0,rfl,?_⟩
 subst I0
 exact⟨A,Dc,rfl,Bh⟩
end Go.A_
namespace Go.Proofs.YtalfaopffbkdnaaGreat
@[reducible] noncomputable def AG:Program:=Tryz.prog
end Go.Proofs.YtalfaopffbkdnaaGreat
namespace Go.Proofs.YtalfaopffbkdnaaGreat
open Go.A_
instance:J7 Tryz.prog where
 B1:=[(28,[0,1,2,3,4,5,6]),(31,[0,1,2,3,4,5,6,7,8,9,10,11,18,25,26,27,28]),(33,[0,1,2,3,4,5]),(35,[0,1,2,3,4,5,6,7,8,9,10,11,17,24]),(44,[0,1,2,3]),(46,[0,1,2,3]),(50,[0,1,2,3,4,5]),(52,[0,1,2,3,4,5,6,7]),(54,[0,1,2,3]),(68,[0,1]),(71,[0,1,2,3]),(73,[0,1,3,4,5,6]),(83,[0,1,2,3]),(85,[0,1,3]),(96,[0,29,30,31,32]),(107,[0,1,2]),(125,[0,1]),(138,[0,1]),(164,[0,1]),(192,[0,1,2]),(281,[0,1,2,3]),(337,[0,1,2])]
 os:=[2,3,4,5,9,22,23,24,25,26,29,37,39,56,69,93,94,105,136,171,175,278]
 rs:=[(28,7),(31,29),(33,6),(35,25),(44,4),(46,7),(50,11),(52,8),(54,7),(68,2),(71,4),(73,10),(83,4),(85,4),(125,2),(138,2),(164,2)]
 okF:=⟨⟨_,Tryz.underlying28,by kernel_rfl⟩,⟨_,Tryz.underlying31,by kernel_rfl⟩,⟨_,Tryz.underlying33,by kernel_rfl⟩,⟨_,Tryz.underlying35,by kernel_rfl⟩,⟨_,Tryz.underlying44,by kernel_rfl⟩,⟨_,Tryz.underlying46,by kernel_rfl⟩,⟨_,Tryz.underlying50,by kernel_rfl⟩,⟨_,Tryz.underlying52,by kernel_rfl⟩,⟨_,Tryz.underlying54,by kernel_rfl⟩,⟨_,Tryz.underlying68,by kernel_rfl⟩,⟨_,Tryz.underlying71,by kernel_rfl⟩,⟨_,Tryz.underlying73,by kernel_rfl⟩,⟨_,Tryz.underlying83,by kernel_rfl⟩,⟨_,Tryz.underlying85,by kernel_rfl⟩,⟨_,Tryz.underlying96,by kernel_rfl⟩,⟨_,Tryz.underlying107,by kernel_rfl⟩,⟨_,Tryz.underlying125,by kernel_rfl⟩,⟨_,Tryz.underlying138,by kernel_rfl⟩,⟨_,Tryz.underlying164,by kernel_rfl⟩,⟨_,Tryz.underlying192,by kernel_rfl⟩,⟨_,Tryz.underlying281,by kernel_rfl⟩,⟨_,Tryz.underlying337,by kernel_rfl⟩,trivial⟩
 Qq:=⟨⟨⟨_,Tryz.underlying2,rfl⟩,by kernel_rfl⟩,⟨⟨_,Tryz.underlying3,rfl⟩,by kernel_rfl⟩,⟨⟨_,Tryz.underlying4,rfl⟩,by kernel_rfl⟩,⟨⟨_,Tryz.underlying5,rfl⟩,by kernel_rfl⟩,⟨⟨_,Tryz.underlying9,rfl⟩,by kernel_rfl⟩,⟨⟨_,Tryz.underlying22,rfl⟩,by kernel_rfl⟩,⟨⟨_,Tryz.underlying23,rfl⟩,by kernel_rfl⟩,⟨⟨_,Tryz.underlying24,rfl⟩,by kernel_rfl⟩,⟨⟨_,Tryz.underlying25,rfl⟩,by kernel_rfl⟩,⟨⟨_,Tryz.underlying26,rfl⟩,by kernel_rfl⟩,⟨⟨_,Tryz.underlying29,rfl⟩,by kernel_rfl⟩,⟨⟨_,Tryz.underlying37,rfl⟩,by kernel_rfl⟩,⟨⟨_,Tryz.underlying39,rfl⟩,by kernel_rfl⟩,⟨⟨_,Tryz.underlying56,rfl⟩,by kernel_rfl⟩,⟨⟨_,Tryz.underlying69,rfl⟩,by kernel_rfl⟩,⟨⟨_,Tryz.underlying93,rfl⟩,by kernel_rfl⟩,⟨⟨_,Tryz.underlying94,rfl⟩,by kernel_rfl⟩,⟨⟨_,Tryz.underlying105,rfl⟩,by kernel_rfl⟩,⟨⟨_,Tryz.underlying136,rfl⟩,by kernel_rfl⟩,⟨⟨_,Tryz.underlying171,rfl⟩,by kernel_rfl⟩,⟨⟨_,Tryz.underlying175,rfl⟩,by kernel_rfl⟩,⟨⟨_,Tryz.underlying278,rfl⟩,by kernel_rfl⟩,trivial⟩
 b0:=⟨⟨⟨_,Tryz.underlying28,rfl⟩,by kernel_rfl⟩,⟨⟨_,Tryz.underlying31,rfl⟩,by kernel_rfl⟩,⟨⟨_,Tryz.underlying33,rfl⟩,by kernel_rfl⟩,⟨⟨_,Tryz.underlying35,rfl⟩,by kernel_rfl⟩,⟨⟨_,Tryz.underlying44,rfl⟩,by kernel_rfl⟩,⟨⟨_,Tryz.underlying46,rfl⟩,by kernel_rfl⟩,⟨⟨_,Tryz.underlying50,rfl⟩,by kernel_rfl⟩,⟨⟨_,Tryz.underlying52,rfl⟩,by kernel_rfl⟩,⟨⟨_,Tryz.underlying54,rfl⟩,by kernel_rfl⟩,⟨⟨_,Tryz.underlying68,rfl⟩,by kernel_rfl⟩,⟨⟨_,Tryz.underlying71,rfl⟩,by kernel_rfl⟩,⟨⟨_,Tryz.underlying73,rfl⟩,by kernel_rfl⟩,⟨⟨_,Tryz.underlying83,rfl⟩,by kernel_rfl⟩,⟨⟨_,Tryz.underlying85,rfl⟩,by kernel_rfl⟩,⟨⟨_,Tryz.underlying125,rfl⟩,by kernel_rfl⟩,⟨⟨_,Tryz.underlying138,rfl⟩,by kernel_rfl⟩,⟨⟨_,Tryz.underlying164,rfl⟩,by kernel_rfl⟩,trivial⟩
 fq:=by kernel_rfl
theorem BR{s i off:Nat}(h:aD (J7.B1 Tryz.prog) s i=some off):QD Tryz.prog s i off:=ic J7.okF h
theorem A2{s:Nat}(h:A7 (J7.os Tryz.prog) s=true):Nv Tryz.prog s:=a9 J7.Qq h
theorem At{s n:Nat}(h:ro (J7.rs Tryz.prog) s=some n):Oc Tryz.prog s n:=fR J7.b0 h
def j0:Nat:=803066294798308250090351341890355317344063043613841785331372055453943769699346089845857855184384
def qN(P:Program)(f:Nat):Bool:=match P.funcs[f]? with
 |some fn=> !(fn.name== "runtime.NumGoroutine")&& !fn.body.isNone
 |none=>false
theorem Ac_:(List.range 319).all (fun f=>Nat.beq (Nat.land (Nat.shiftRight j0 f) 1) 0||qN Tryz.prog f)=true:=by kernel_rfl
theorem Ar{f:Nat}(h:(Nat.blt f 319&&Nat.beq (Nat.land (Nat.shiftRight j0 f) 1) 1)=true):GU Tryz.prog f:=by
 rw[Bool.and_eq_true]at h
 have h2:=List.all_eq_true.1 Ac_ f (List.mem_range.2 (EU h.1))
 rw[show Nat.land (Nat.shiftRight j0 f) 1=1 from Nat.eq_of_beq_eq_true h.2,show Nat.beq 1 0=false from rfl,Bool.false_or,qN]at h2
 split at h2
 · rename_i fn e
   simp only[Bool.and_eq_true,Bool.not_eq_true']at h2
   exact⟨⟨fn,e,h2.1,h2.2⟩⟩
 · cases h2
end Go.Proofs.YtalfaopffbkdnaaGreat
namespace Go.Proofs.YtalfaopffbkdnaaGreat
open Go.A_ Go.Apw
theorem Mw:Tryz.prog.cellsOf 3=1:=by kernel_rfl
theorem MH:MU AG 3 E_:=AfN Tryz.underlying3
theorem Z7:Tryz.prog.cellsOf 9=1:=by kernel_rfl
theorem b2:MU AG 9 Nl:=AfO Tryz.underlying9
theorem xX:Tryz.prog.cellsOf 4=1:=by kernel_rfl
theorem AfI:MU AG 4 cr:=AfL Tryz.underlying4
theorem nR:Tryz.prog.cellsOf 33=6:=by kernel_rfl
theorem AfF:MU AG 33 Ve:=by
 intro H enc w fuel cs x h
 have AN:=l0 Tryz.underlying33 h
 rw[nR]at AN
 obtain⟨Pl,Fb,BW⟩:=Js Tryz.underlying33 h 0 0 1 rfl Mw MH
 obtain⟨SJ,B4,Ua⟩:=Js Tryz.underlying33 h 1 1 1 rfl Z7 b2
 obtain⟨Ug,DC,Ub⟩:=Js Tryz.underlying33 h 2 2 1 rfl Z7 b2
 obtain⟨XA,Kk,Xs⟩:=Js Tryz.underlying33 h 3 3 1 rfl Mw MH
 obtain⟨c9,QX,RD⟩:=Js Tryz.underlying33 h 4 4 1 rfl Mw MH
 obtain⟨c_,QY,Ud⟩:=Js Tryz.underlying33 h 5 5 1 rfl Mw MH
 have Bw:cs=cs.drop 0:=rfl
 rw[Jp cs 0 1 1 rfl,Fb,Jp cs 1 1 2 rfl,B4,Jp cs 2 1 3 rfl,DC,Jp cs 3 1 4 rfl,Kk,Jp cs 4 1 5 rfl,QX,Jp cs 5 1 6 rfl,QY,List.drop_eq_nil_of_le (Nat.le_of_eq AN)]at Bw
 exact⟨⟨Pl,SJ,Ug,XA,c9,c_⟩,(),Bw,by simp,BW,Ua,Ub,Xs,RD,Ud⟩
theorem nQ:Tryz.prog.cellsOf 28=7:=by kernel_rfl
theorem AfE:MU AG 28 Ru:=by
 intro H enc w fuel cs x h
 have AN:=l0 Tryz.underlying28 h
 rw[nQ]at AN
 obtain⟨Pl,Fb,BW⟩:=Js Tryz.underlying28 h 0 0 1 rfl Mw MH
 obtain⟨SJ,B4,Ua⟩:=Js Tryz.underlying28 h 1 1 1 rfl Mw MH
 obtain⟨Ug,DC,Ub⟩:=Js Tryz.underlying28 h 2 2 1 rfl Mw MH
 obtain⟨XA,Kk,Xs⟩:=Js Tryz.underlying28 h 3 3 1 rfl Z7 b2
 obtain⟨c9,QX,RD⟩:=Js Tryz.underlying28 h 4 4 1 rfl Z7 b2
 obtain⟨c_,QY,Ud⟩:=Js Tryz.underlying28 h 5 5 1 rfl Mw MH
 obtain⟨mE,hV,Xt⟩:=Js Tryz.underlying28 h 6 6 1 rfl Mw MH
 have Bw:cs=cs.drop 0:=rfl
 rw[Jp cs 0 1 1 rfl,Fb,Jp cs 1 1 2 rfl,B4,Jp cs 2 1 3 rfl,DC,Jp cs 3 1 4 rfl,Kk,Jp cs 4 1 5 rfl,QX,Jp cs 5 1 6 rfl,QY,Jp cs 6 1 7 rfl,hV,List.drop_eq_nil_of_le (Nat.le_of_eq AN)]at Bw
 exact⟨⟨Pl,SJ,Ug,XA,c9,c_,mE⟩,(),Bw,by simp,BW,Ua,Ub,Xs,RD,Ud,Xt⟩
theorem xY:Tryz.prog.cellsOf 5=1:=by kernel_rfl
theorem AfK:MU AG 5 Rv:=AfM Tryz.underlying5
theorem xW:Tryz.prog.cellsOf 29=1:=by kernel_rfl
theorem AfG:MU AG 29 (@FI UInt8 Rv):=rV Tryz.underlying29 xY (by decide) AfK
theorem nS:Tryz.prog.cellsOf 35=25:=by kernel_rfl
theorem AfH:MU AG 35 W7:=by
 intro H enc w fuel cs x h
 have AN:=l0 Tryz.underlying35 h
 rw[nS]at AN
 obtain⟨Pl,Fb,BW⟩:=Js Tryz.underlying35 h 0 0 1 rfl Mw MH
 obtain⟨SJ,B4,Ua⟩:=Js Tryz.underlying35 h 1 1 1 rfl Mw MH
 obtain⟨Ug,DC,Ub⟩:=Js Tryz.underlying35 h 2 2 1 rfl Mw MH
 obtain⟨XA,Kk,Xs⟩:=Js Tryz.underlying35 h 3 3 1 rfl Mw MH
 obtain⟨c9,QX,RD⟩:=Js Tryz.underlying35 h 4 4 1 rfl Mw MH
 obtain⟨c_,QY,Ud⟩:=Js Tryz.underlying35 h 5 5 1 rfl Mw MH
 obtain⟨mE,hV,Xt⟩:=Js Tryz.underlying35 h 6 6 1 rfl Z7 b2
 obtain⟨Alx,X7,OD⟩:=Js Tryz.underlying35 h 7 7 1 rfl Mw MH
 obtain⟨Aly,X8,gE⟩:=Js Tryz.underlying35 h 8 8 1 rfl Mw MH
 obtain⟨Alz,yQ,my⟩:=Js Tryz.underlying35 h 9 9 1 rfl Mw MH
 obtain⟨Als,yE,cW⟩:=Js Tryz.underlying35 h 10 10 1 rfl xX AfI
 obtain⟨Alu,Ct,yF,s4,SD⟩:=Js Tryz.underlying35 h 11 11 6 rfl nR AfF
 obtain⟨Alv,EM,yG,s5,Xr⟩:=Js Tryz.underlying35 h 12 17 7 rfl nQ AfE
 obtain⟨Alw,AhZ⟩:=Js Tryz.underlying35 h 13 24 1 rfl xW AfG
 obtain⟨Ac8,yH,hd⟩:=AdR AhZ
 have Bw:cs=cs.drop 0:=rfl
 rw[Jp cs 0 1 1 rfl,Fb,Jp cs 1 1 2 rfl,B4,Jp cs 2 1 3 rfl,DC,Jp cs 3 1 4 rfl,Kk,Jp cs 4 1 5 rfl,QX,Jp cs 5 1 6 rfl,QY,Jp cs 6 1 7 rfl,hV,Jp cs 7 1 8 rfl,X7,Jp cs 8 1 9 rfl,X8,Jp cs 9 1 10 rfl,yQ,Jp cs 10 1 11 rfl,yE,Jp cs 11 6 17 rfl,yF,Jp cs 17 7 24 rfl,yG,Jp cs 24 1 25 rfl,yH,List.drop_eq_nil_of_le (Nat.le_of_eq AN)]at Bw
 exact⟨⟨Pl,SJ,Ug,XA,c9,c_,mE,Alx,Aly,Alz,Als,Alu,Alv,Alw⟩,Ac8,Bw,fun t Av=>by
  simp only[List.mem_cons,List.not_mem_nil,or_false]at Av
  subst Av
  · exact hd,BW,Ua,Ub,Xs,RD,Ud,Xt,OD,gE,my,trivial,SD,Xr,trivial⟩
theorem AfJ:MU AG 56 (@FI Dg W7):=rV Tryz.underlying56 nS (by decide) AfH
end Go.Proofs.YtalfaopffbkdnaaGreat
namespace Go.Proofs.YtalfaopffbkdnaaGreat
open Go.A_ Go.Apw Go.ChangeShapes Go.WideShapes Go.ChangeAt Go.RowKit
theorem xN{H:Type}(d:DataW H):1<=Rows.uptoBulk d:=by
 cases d with
 |lit l=>cases l<;>simp[Rows.uptoBulk]
 |nil=>simp[Rows.uptoBulk]
 |ptr d=>simp[Rows.uptoBulk]
 |slice elems spare=>simp[Rows.uptoBulk]
 |agg parts=>simp[Rows.uptoBulk]
 |iface t d=>simp[Rows.uptoBulk]
 |map entries=>simp[Rows.uptoBulk]
 |held h=>simp[Rows.uptoBulk]
theorem xM{H:Type}(l:List (DataW H)):l.length<=Rows.uptoBulkAll l:=by
 induction l with
 |nil=>simp[Rows.uptoBulkAll]
 |cons x r Cg=>
  have:=xN x
  simp only[Rows.uptoBulkAll,List.length_cons]
  omega
theorem AdS{P:Program}{H:Type}{enc:TypeId×Value->H}{w:World}{T E:TypeId}{α:Type}{r:Be α}{v:Value}{d:DataW H}{ps:List MemPlace}{l:List α}{S:Nat->Prop}
  (hu:P.underlying T=some (.slice E))(h:DataW.Trod enc P w 0 (fun _=>true) true T v d ps)(AN:Atom.holds (@Atom.mk (List α) (@FI α r) v l) S w):l.length<=Rows.uptoBulk d:=by
 obtain⟨fuel,BI⟩:=h
 obtain⟨AK,A,Dc,I0,_,_,_,BB⟩:=AN
 rcases Deep.open_slice hu BI with⟨Bm,Ab⟩|⟨a,len,cap,m,n,D,wj,Bm,_,pJ,Wp,hm,Ab,Ag⟩
 ·
  have:=I0.symm.trans Bm
  simp only[List.cons.injEq,Value.slice.injEq,and_true]at this
  have Bw:l.length=0:=this.2.1
  omega
 ·
  have:=I0.symm.trans Bm
  simp only[List.cons.injEq,Value.slice.injEq,and_true]at this
  have Bw:l.length=len:=this.2.1
  simp only[Prod.mk.injEq]at Ab
  rw[Ab.1]
  have:=xM ((List.range len).map D)
  simp only[List.length_map,List.length_range]at this
  simp only[Rows.uptoBulk]
  omega
end Go.Proofs.YtalfaopffbkdnaaGreat
namespace Go.Apw
open Go.A_
def Di{α β:Type}(x:α×Bb)(f:α->Bb->β×Bb):β×Bb:=f x.1 x.2
theorem FY{α β:Type}{x:α×Bb}{f:α->Bb->β×Bb}{n:Nat}(h:x.2.pos<=n)(k:∀a s,s.pos<=n->(f a s).2.pos<=n):(Di x f).2.pos<=n:=k _ _ h
theorem FZ{α β:Type}{x:α×Bb}{f:α->Bb->β×Bb}{q:α->Prop}{p:β->Prop}(h:q x.1)(k:∀a s,q a->p (f a s).1):p (Di x f).1:=k _ _ h
theorem cq(J:List UInt8)(s:Bb):(⟨(Gm J 65535 s).1.toArray⟩:ByteArray).size<=9223372036854775807:=by
 show(Gm J 65535 s).1.toArray.size<=_
 rw[List.size_toArray]
 have:=(l6 (J.drop s.pos) 65535).2.2
 simp only[Gm,Lj,Bb.val]
 split
 · exact Nat.zero_le _
 · split
   · exact Nat.zero_le _
   · omega
theorem W9(J:List UInt8)(s:Bb):(DT J 1024 s).1<=1024:=by
 have:=(aa (J.drop s.pos) 1024).1
 simp only[DT,Lj,Bb.val]
 split
 · omega
 · split
   · omega
   · omega
theorem sL{α:Type}{J:List UInt8}{rd:Bb->α×Bb}(h:∀s,s.pos<=J.length->(rd s).2.pos<=J.length):∀{n:Nat} {s:Bb},s.pos<=J.length->(GI rd n s).2.pos<=J.length
 |0,_,hs=>hs
 |n+1,s,hs=>by
  unfold GI
  split
  · exact sL h (h _ hs)
  · exact hs
theorem Ij{α:Type}{J:List UInt8}{rd:Bb->α×Bb}{s:Bb}(h:∀s,s.pos<=J.length->(rd s).2.pos<=J.length)(hs:s.pos<=J.length):(CS J rd s).2.pos<=J.length:=sL h (W_ hs)
theorem Ah3{J:List UInt8}{m:Int}{s:Bb}(h:s.fault≠0):DT J m s=(0,s):=by
 have h2:(DT J m s).2=s:=fM (d:=0) (f:=fun l=>L9 l m) h
 have Af:(DT J m s).1=0:=by
  simp only[DT,Lj,Bb.val]
  rw[if_pos h]
 exact Prod.ext Af h2
theorem Qw{α:Type}{J:List UInt8}{rd:Bb->α×Bb}{s:Bb}(h:s.fault≠0):CS J rd s=([],s):=by
 unfold CS
 rw[Ah3 h]
 rfl
theorem Za{α:Type}{rd:Bb->α×Bb}{s:Bb}(h:s.fault≠0)(n:Nat):GI rd n s=([],s):=by
 cases n with
 |zero=>rfl
 |succ n=>unfold GI;rw[if_neg h]
theorem sJ{α:Type}{rd:Bb->α×Bb}{s:Bb}(h:s.fault=0)(n:Nat):GI rd (n+1) s=((rd s).1::(GI rd n (rd s).2).1,(GI rd n (rd s).2).2):=by
 rw[GI,if_pos h]
theorem Y'{α:Type}{rd:Bb->α×Bb}{s:Bb}{N i:Nat}{acc:List α}{R:List α×Bb}(Ag:i<N)(BI:s.fault=0)(he:R=(acc++(GI rd (N-i) s).1,(GI rd (N-i) s).2)):R=((acc++[(rd s).1])++(GI rd (N-(i+1)) (rd s).2).1,(GI rd (N-(i+1)) (rd s).2).2):=by
 rw[he,show N-i=(N-(i+1))+1 by omega,sJ BI]
 simp
theorem Zg{c:List Value}{o:Nat}{v:Value}(h:o<c.length):(c.set o v)[o]? =some v:=by simp[h]
theorem WJ{J:List UInt8}{x:Nat}:∀{offs:List Nat} {p:List Value×Bb},x∉offs->(CO J offs p).1[x]? =p.1[x]?
 |[],_,_=>rfl
 |o::r,p,h=>by
  rw[CO,WJ (fun Ab=>h (List.mem_cons_of_mem _ Ab))]
  exact List.getElem?_set_ne (fun e=>h (by subst e;exact List.mem_cons_self ..))
theorem Xi{J:List UInt8}{x:Nat}:∀{offs:List Nat} {p:List Value×Bb},x∉offs->(Ea J offs p).1[x]? =p.1[x]?
 |[],_,_=>rfl
 |o::r,p,h=>by
  rw[Ea,Xi (fun Ab=>h (List.mem_cons_of_mem _ Ab))]
  exact List.getElem?_set_ne (fun e=>h (by subst e;exact List.mem_cons_self ..))
def E9(J:List UInt8)(o:Nat)(p:List Value×Bb):List Value×Bb:=(p.1.set o (.bool (Kw J p.2).1),(Kw J p.2).2)
def C7{α:Type}(o:Nat)(y:Value)(rd:Bb->α×Bb)(p:List Value×Bb):List Value×Bb:=(p.1.set o y,(rd p.2).2)
def Hy(J:List UInt8)(o:Nat)(p:List Value×Bb):List Value×Bb:=CO J [o+3,o+4,o+5] (Ea J [o+1,o+2] (CO J [o] p))
def Ga(J:List UInt8)(o:Nat)(p:List Value×Bb):List Value×Bb:=CO J [o+5,o+6] (Ea J [o+3,o+4] (CO J [o,o+1,o+2] p))
theorem Ik{α:Type}{o:Nat}{y:Value}{rd:Bb->α×Bb}{p:List Value×Bb}{n:Nat}(h:(rd p.2).2.pos<=n):(C7 o y rd p).2.pos<=n:=h
theorem Pw{J:List UInt8}{o:Nat}{p:List Value×Bb}(h:p.2.pos<=J.length):(E9 J o p).2.pos<=J.length:=sI h
theorem b_{J:List UInt8}{o:Nat}{p:List Value×Bb}(h:p.2.pos<=J.length):(Ga J o p).2.pos<=J.length:=Hw (MP (Hw h))
def UO(J:List UInt8)(s:Bb):GC×Bb:=
 Di (D6 J s) fun He s1=>
 Di (D6 J s1) fun DP s2=>
 ({A6:=He,Bc:=DP},s2)
theorem Aae{J:List UInt8}{s:Bb}(h:s.pos<=J.length):(UO J s).2.pos<=J.length:=by
 exact FY (Hb h) fun _ _ h=>FY (Hb h) fun _ _ h=>h
theorem Aaf(J:List UInt8)(s:Bb):(UO J s).1.wf:=by
 exact FZ (q:=A') (HL _ _) fun _ _ Bw=>FZ (q:=A') (HL _ _) fun _ _ Af=>⟨Bw,Af⟩
def UM(J:List UInt8)(s:Bb):F_×Bb:=
 Di (D6 J s) fun He s1=>
 Di (D6 J s1) fun DP s2=>
 Di (D6 J s2) fun EK IK=>
 Di (D6 J IK) fun FR Jy=>
 ({Ap:=He,As:=DP,DH:=EK,B2:=FR},Jy)
theorem z'{J:List UInt8}{s:Bb}(h:s.pos<=J.length):(UM J s).2.pos<=J.length:=by
 exact FY (Hb h) fun _ _ h=>FY (Hb h) fun _ _ h=>FY (Hb h) fun _ _ h=>FY (Hb h) fun _ _ h=>h
theorem Aaa(J:List UInt8)(s:Bb):(UM J s).1.wf:=by
 exact FZ (q:=A') (HL _ _) fun _ _ Bw=>FZ (q:=A') (HL _ _) fun _ _ Af=>FZ (q:=A') (HL _ _) fun _ _ h2=>FZ (q:=A') (HL _ _) fun _ _ Bo=>⟨Bw,Af,h2,Bo⟩
def Iu(J:List UInt8)(s:Bb):BD×Bb:=
 Di (D6 J s) fun He s1=>
 Di (D6 J s1) fun DP s2=>
 Di (D6 J s2) fun EK IK=>
 Di (D6 J IK) fun FR Jy=>
 ({Bn:=He,G0:=DP,DV:=EK,Fc:=FR},Jy)
theorem ik{J:List UInt8}{s:Bb}(h:s.pos<=J.length):(Iu J s).2.pos<=J.length:=by
 exact FY (Hb h) fun _ _ h=>FY (Hb h) fun _ _ h=>FY (Hb h) fun _ _ h=>FY (Hb h) fun _ _ h=>h
theorem z_(J:List UInt8)(s:Bb):(Iu J s).1.wf:=by
 exact FZ (q:=A') (HL _ _) fun _ _ Bw=>FZ (q:=A') (HL _ _) fun _ _ Af=>FZ (q:=A') (HL _ _) fun _ _ h2=>FZ (q:=A') (HL _ _) fun _ _ Bo=>⟨Bw,Af,h2,Bo⟩
def UL(J:List UInt8)(s:Bb):De×Bb:=
 Di (D6 J s) fun He s1=>
 Di (D6 J s1) fun DP s2=>
 Di (D6 J s2) fun EK IK=>
 Di (D6 J IK) fun FR Jy=>
 ({Jd:=He,JM:=DP,JJ:=EK,JK:=FR},Jy)
theorem z3{J:List UInt8}{s:Bb}(h:s.pos<=J.length):(UL J s).2.pos<=J.length:=by
 exact FY (Hb h) fun _ _ h=>FY (Hb h) fun _ _ h=>FY (Hb h) fun _ _ h=>FY (Hb h) fun _ _ h=>h
theorem z4(J:List UInt8)(s:Bb):(UL J s).1.wf:=by
 exact FZ (q:=A') (HL _ _) fun _ _ Bw=>FZ (q:=A') (HL _ _) fun _ _ Af=>FZ (q:=A') (HL _ _) fun _ _ h2=>FZ (q:=A') (HL _ _) fun _ _ Bo=>⟨Bw,Af,h2,Bo⟩
def Wc(J:List UInt8)(s:Bb):FL×Bb:=
 Di (D6 J s) fun He s1=>
 Di (Gm J 65535 s1) fun DP s2=>
 Di (Gm J 65535 s2) fun EK IK=>
 Di (D6 J IK) fun FR Jy=>
 Di (D6 J Jy) fun Iz Rw=>
 Di (D6 J Rw) fun Lv Rx=>
 ({Ca:=He,Al:=⟨DP.toArray⟩,EL:=⟨EK.toArray⟩,B2:=FR,A6:=Iz,Bc:=Lv},Rx)
theorem Aac{J:List UInt8}{s:Bb}(h:s.pos<=J.length):(Wc J s).2.pos<=J.length:=by
 exact FY (Hb h) fun _ _ h=>FY (Vf h) fun _ _ h=>FY (Vf h) fun _ _ h=>FY (Hb h) fun _ _ h=>FY (Hb h) fun _ _ h=>FY (Hb h) fun _ _ h=>h
theorem Aad(J:List UInt8)(s:Bb):(Wc J s).1.wf:=by
 exact FZ (q:=A') (HL _ _) fun _ _ Bw=>FZ (q:=(fun l:List UInt8=>(⟨l.toArray⟩:ByteArray).size<=9223372036854775807)) (cq _ _) fun _ _ Af=>FZ (q:=(fun l:List UInt8=>(⟨l.toArray⟩:ByteArray).size<=9223372036854775807)) (cq _ _) fun _ _ h2=>FZ (q:=A') (HL _ _) fun _ _ Bo=>FZ (q:=A') (HL _ _) fun _ _ BB=>FZ (q:=A') (HL _ _) fun _ _ C'=>⟨Bw,Af,h2,Bo,BB,C'⟩
def L_(J:List UInt8)(s:Bb):Fs×Bb:=
 Di (D6 J s) fun He s1=>
 Di (D6 J s1) fun DP s2=>
 Di (D6 J s2) fun EK IK=>
 Di (Gm J 65535 IK) fun FR Jy=>
 Di (Gm J 65535 Jy) fun Iz Rw=>
 Di (D6 J Rw) fun Lv Rx=>
 Di (D6 J Rx) fun KY cv=>
 ({Ev:=He,Hi:=DP,IX:=EK,A6:=⟨FR.toArray⟩,Bc:=⟨Iz.toArray⟩,Ap:=Lv,As:=KY},cv)
def HF(J:List UInt8)(s:Bb):Df×Bb:=
 Di (D6 J s) fun He s1=>
 Di (D6 J s1) fun DP s2=>
 ({Ap:=He,As:=DP},s2)
theorem aF{J:List UInt8}{s:Bb}(h:s.pos<=J.length):(HF J s).2.pos<=J.length:=by
 exact FY (Hb h) fun _ _ h=>FY (Hb h) fun _ _ h=>h
theorem z8(J:List UInt8)(s:Bb):(HF J s).1.wf:=by
 exact FZ (q:=A') (HL _ _) fun _ _ Bw=>FZ (q:=A') (HL _ _) fun _ _ Af=>⟨Bw,Af⟩
def GG(J:List UInt8)(s:Bb):BL×Bb:=
 Di (D6 J s) fun He s1=>
 Di (D6 J s1) fun DP s2=>
 Di (Kw J s2) fun EK IK=>
 Di (UL J IK) fun FR Jy=>
 ({Ap:=He,As:=DP,HV:=EK,Cm:=FR},Jy)
theorem UN{J:List UInt8}{s:Bb}(h:s.pos<=J.length):(GG J s).2.pos<=J.length:=by
 exact FY (Hb h) fun _ _ h=>FY (Hb h) fun _ _ h=>FY (sI h) fun _ _ h=>FY (z3 h) fun _ _ h=>h
theorem o_(J:List UInt8)(s:Bb):(GG J s).1.wf:=by
 exact FZ (q:=A') (HL _ _) fun _ _ Bw=>FZ (q:=A') (HL _ _) fun _ _ Af=>FZ (q:=(fun _=>True)) (trivial) fun _ _ h2=>FZ (q:=De.wf) (z4 _ _) fun _ _ Bo=>⟨Bw,Af,h2,Bo⟩
def Hk(J:List UInt8)(s:Bb):Bx×Bb:=
 Di (D6 J s) fun He s1=>
 Di (D6 J s1) fun DP s2=>
 Di (Gm J 65535 s2) fun EK IK=>
 Di (Gm J 65535 IK) fun FR Jy=>
 Di (D6 J Jy) fun Iz Rw=>
 Di (D6 J Rw) fun Lv Rx=>
 Di (D6 J Rx) fun KY cv=>
 Di (D6 J cv) fun OH lu=>
 ({Ap:=He,As:=DP,Al:=⟨EK.toArray⟩,EL:=⟨FR.toArray⟩,B2:=Iz,DN:=Lv,DO:=KY,C3:=OH},lu)
theorem Ye{J:List UInt8}{s:Bb}(h:s.pos<=J.length):(Hk J s).2.pos<=J.length:=by
 exact FY (Hb h) fun _ _ h=>FY (Hb h) fun _ _ h=>FY (Vf h) fun _ _ h=>FY (Vf h) fun _ _ h=>FY (Hb h) fun _ _ h=>FY (Hb h) fun _ _ h=>FY (Hb h) fun _ _ h=>FY (Hb h) fun _ _ h=>h
theorem z6(J:List UInt8)(s:Bb):(Hk J s).1.wf:=by
 exact FZ (q:=A') (HL _ _) fun _ _ Bw=>FZ (q:=A') (HL _ _) fun _ _ Af=>FZ (q:=(fun l:List UInt8=>(⟨l.toArray⟩:ByteArray).size<=9223372036854775807)) (cq _ _) fun _ _ h2=>FZ (q:=(fun l:List UInt8=>(⟨l.toArray⟩:ByteArray).size<=9223372036854775807)) (cq _ _) fun _ _ Bo=>FZ (q:=A') (HL _ _) fun _ _ BB=>FZ (q:=A') (HL _ _) fun _ _ C'=>FZ (q:=A') (HL _ _) fun _ _ F4=>FZ (q:=A') (HL _ _) fun _ _ GY=>⟨Bw,Af,h2,Bo,BB,C',F4,GY⟩
def GX(J:List UInt8)(s:Bb):BX×Bb:=
 Di (D6 J s) fun He s1=>
 Di (D6 J s1) fun DP s2=>
 Di (D6 J s2) fun EK IK=>
 Di (D6 J IK) fun FR Jy=>
 Di (D6 J Jy) fun Iz Rw=>
 Di (Wc J Rw) fun Lv Rx=>
 ({Ca:=He,Ap:=DP,As:=EK,Bn:=FR,DH:=Iz,AM:=Lv},Rx)
theorem Wd{J:List UInt8}{s:Bb}(h:s.pos<=J.length):(GX J s).2.pos<=J.length:=by
 exact FY (Hb h) fun _ _ h=>FY (Hb h) fun _ _ h=>FY (Hb h) fun _ _ h=>FY (Hb h) fun _ _ h=>FY (Hb h) fun _ _ h=>FY (Aac h) fun _ _ h=>h
theorem Aar(J:List UInt8)(s:Bb):(GX J s).1.wf:=by
 exact FZ (q:=A') (HL _ _) fun _ _ Bw=>FZ (q:=A') (HL _ _) fun _ _ Af=>FZ (q:=A') (HL _ _) fun _ _ h2=>FZ (q:=A') (HL _ _) fun _ _ Bo=>FZ (q:=A') (HL _ _) fun _ _ BB=>FZ (q:=FL.wf) (Aad _ _) fun _ _ C'=>⟨Bw,Af,h2,Bo,BB,C'⟩
def F2(J:List UInt8)(s:Bb):AD×Bb:=
 Di (Gm J 65535 s) fun He s1=>
 Di (UO J s1) fun DP s2=>
 Di (D6 J s2) fun EK IK=>
 Di (D6 J IK) fun FR Jy=>
 Di (CS J (Iu J) Jy) fun Iz Rw=>
 Di (UM J Rw) fun Lv Rx=>
 ({Al:=⟨He.toArray⟩,Cs:=DP,BT:=EK,Cn:=FR,A0:=Iz,BG:=Lv},Rx)
theorem Td{J:List UInt8}{s:Bb}(h:s.pos<=J.length):(F2 J s).2.pos<=J.length:=by
 exact FY (Vf h) fun _ _ h=>FY (Aae h) fun _ _ h=>FY (Hb h) fun _ _ h=>FY (Hb h) fun _ _ h=>FY (Ij (fun _ hh=>ik hh) h) fun _ _ h=>FY (z' h) fun _ _ h=>h
theorem o9(J:List UInt8)(s:Bb):(F2 J s).1.wf:=by
 exact FZ (q:=(fun l:List UInt8=>(⟨l.toArray⟩:ByteArray).size<=9223372036854775807)) (cq _ _) fun _ _ Bw=>FZ (q:=GC.wf) (Aaf _ _) fun _ _ Af=>FZ (q:=A') (HL _ _) fun _ _ h2=>FZ (q:=A') (HL _ _) fun _ _ Bo=>FZ (q:=(fun _=>True)) (trivial) fun _ _ BB=>FZ (q:=F_.wf) (Aaa _ _) fun _ _ C'=>⟨Bw,Af,h2,Bo,BB,C'⟩
def FC(J:List UInt8)(s:Bb):Bv×Bb:=
 Di (D6 J s) fun He s1=>
 Di (D6 J s1) fun DP s2=>
 Di (Kw J s2) fun EK IK=>
 Di (Gm J 65535 IK) fun FR Jy=>
 Di (Gm J 65535 Jy) fun Iz Rw=>
 Di (D6 J Rw) fun Lv Rx=>
 Di (CS J (F2 J) Rx) fun KY cv=>
 Di (CS J (GG J) cv) fun OH lu=>
 Di (CS J (GX J) lu) fun VN AiW=>
 Di (CS J (Hk J) AiW) fun wH AiQ=>
 Di (CS J (HF J) AiQ) fun wx s4=>
 Di (L_ J s4) fun wy s5=>
 Di (L_ J s5) fun wz AiR=>
 Di (Gm J 65535 AiR) fun hd AiS=>
 Di (D6 J AiS) fun wA AiT=>
 Di (D6 J AiT) fun wB AiU=>
 Di (D6 J AiU) fun wC AiV=>
 ({CZ:=He,DX:=DP,Du:=EK,A6:=⟨FR.toArray⟩,Bc:=⟨Iz.toArray⟩,Dn:=Lv,Aj:=KY,Bz:=OH,AA:=VN,Bj:=wH,CX:=wx,Bt:=wy,CW:=wz,Cf:=hd,Jc:=wA,JL:=wB,GW:=wC},AiV)
def IP:Bv:=({CZ:=0,DX:=0,Du:=false,A6:=ByteArray.empty,Bc:=ByteArray.empty,Dn:=0,Aj:=[],Bz:=[],AA:=[],Bj:=[],CX:=[],Bt:=({Ev:=0,Hi:=0,IX:=0,A6:=ByteArray.empty,Bc:=ByteArray.empty,Ap:=0,As:=0}:Fs),CW:=({Ev:=0,Hi:=0,IX:=0,A6:=ByteArray.empty,Bc:=ByteArray.empty,Ap:=0,As:=0}:Fs),Cf:=[],Jc:=0,JL:=0,GW:=0}:Bv)
theorem dd:IP.wf:=⟨⟨by decide,by decide⟩,⟨by decide,by decide⟩,trivial,(by decide),(by decide),⟨by decide,by decide⟩,trivial,trivial,trivial,trivial,trivial,⟨⟨by decide,by decide⟩,⟨by decide,by decide⟩,⟨by decide,by decide⟩,(by decide),(by decide),⟨by decide,by decide⟩,⟨by decide,by decide⟩⟩,⟨⟨by decide,by decide⟩,⟨by decide,by decide⟩,⟨by decide,by decide⟩,(by decide),(by decide),⟨by decide,by decide⟩,⟨by decide,by decide⟩⟩,trivial,⟨by decide,by decide⟩,⟨by decide,by decide⟩,⟨by decide,by decide⟩⟩
def Lm(b:List UInt8):Bv:=if 65536<b.length then IP else(FC b ⟨0,0⟩).1
def NF(b:List UInt8):Int:=if 65536<b.length then 22 else Q0 b (FC b ⟨0,0⟩).2
def Er(b:List UInt8):Bv×Int:=if NF b≠0 then(IP,NF b)else(Lm b,0)
theorem lY{b:List UInt8}(h:65536<b.length):Lm b=IP:=if_pos h
theorem gn{b:List UInt8}(h:¬65536<b.length):Lm b=(FC b ⟨0,0⟩).1:=if_neg h
theorem zn{b:List UInt8}(h:65536<b.length):NF b=22:=if_pos h
theorem oM{b:List UInt8}(h:¬65536<b.length):NF b=Q0 b (FC b ⟨0,0⟩).2:=if_neg h
theorem k8{b:List UInt8}(h:NF b≠0):Er b=(IP,NF b):=if_pos h
theorem fN{b:List UInt8}(h:NF b=0):Er b=(Lm b,0):=if_neg (not_not_intro h)
def Zj(s:Bv):Bool:= !Ih s.CZ|| !X1 [s.DX,s.Dn,s.Jc,s.JL,s.GW]|| !YZ s|| !VP s
def Zk(s:Bv):Bool:= !decide (IA (Fg s.Bz)=0)|| !decide (IA (Is s.Bj)=0)|| !decide (IA (HE s.CX)=0)||decide ((s.AA.length:Int)>8)
def Xe(s:Bv):Bool:=(!decide (s.Bt=⟨0,0,0,ByteArray.empty,ByteArray.empty,0,0⟩))&&(!LK s.Bt|| !decide (s.Bt.Hi=s.CZ)|| !decide (s.Bt.Bc=s.Bc)|| !F' s s.Bt.A6)
def lW(s:Bv):Bool:=LK s.CW&&decide (s.CW.Hi=s.CZ)&&decide ((Er s.Cf).2=0)
def gm(s:Bv):Bool:=allI s.AA.length (fun j=>Mr s (s.AA.getD j default))
def LN(s:Bv):Bool:=if Zj s=true then false else if Zk s=true then false else if gm s=true then(if Xe s=true then false else if decide (s.CW=⟨0,0,0,ByteArray.empty,ByteArray.empty,0,0⟩)=true then decide ((s.Cf.length:Int)=0)else lW s)else false
structure wm where
 Bc:Int
 A6:Int
 deriving DecidableEq,Inhabited
@[reducible] def wide(S:Int):wm:=⟨S / 18446744073709551616,S % 18446744073709551616⟩
def mW(S:Int):Prop:= -1329227995784915872903807060280344576<=S/\S<=1329227995784915872903807060280344576
def gV(S:Int):Prop:= -1298074214633706907132624082305024<=S/\S<=1298074214633706907132624082305024
theorem gV.w{S:Int}(h:gV S):mW S:=by unfold gV at h;unfold mW;omega
def So(f:BD->Int)(b:Int)(l:List BD):Nat->List Int
 |0=>[b]
 |i+1=>So f b l i++[f (l.getD i default)]
theorem bC(f:BD->Int)(b:Int)(l:List BD):∀i,(So f b l i).length=i+1
 |0=>rfl
 |i+1=>by simp[So,bC f b l i]
theorem G3{α:Type}[Inhabited α]{l:List α}{i:Nat}(h:i<l.length):l.getD i default=l[i]:=by simp[List.getD,List.getElem?_eq_getElem h]
theorem j3(f:BD->Int)(b:Int)(l:List BD):∀i,i<=l.length->(So f b l i).sum=b+((l.take i).map f).sum
 |0,_=>by simp[So]
 |i+1,h=>by
  have Cg:=j3 f b l i (by omega)
  rw[So,List.sum_append_int,Cg,List.take_add_one,List.getElem?_eq_getElem (by omega),G3 (by omega),List.map_append,List.sum_append_int]
  simp only[Option.toList_some,List.map_cons,List.map_nil,List.sum_cons,List.sum_nil]
  omega
theorem sum_neg(f:BD->Int):∀l:List BD,(l.map fun h=> -f h).sum= -(l.map f).sum
 |[]=>rfl
 |h::r=>by
  simp only[List.map_cons,List.sum_cons,sum_neg f r]
  omega
theorem AdN(a:AD):(So (fun h=>h.DV) a.BT a.A0 a.A0.length).sum=I7 a:=by
 rw[j3 _ _ _ _ (Nat.le_refl _),List.take_length]
 rfl
theorem AdM(a:AD):(So (fun h=> -h.Fc) a.BT a.A0 a.A0.length).sum=IU a:=by
 rw[j3 _ _ _ _ (Nat.le_refl _),List.take_length,sum_neg]
 show a.BT+ -(a.A0.map fun h=>h.Fc).sum=a.BT-(a.A0.map fun h=>h.Fc).sum
 omega
theorem Wy{l:List BD}(hh:LI l=true){i:Nat}(Ag:i<l.length):Nh (fun k=>(l.getD k default).Bn) i<(l.getD i default).Bn/\(l.getD i default).Bn<=5/\1<=(l.getD i default).G0/\0<=(l.getD i default).DV/\0<=(l.getD i default).Fc:=by
 have h:=Nz.1 hh i Ag
 simp only[eU,Bool.not_eq_true',Bool.or_eq_false_iff,decide_eq_false_iff_not]at h
 omega
theorem jx{l:List BD}(hh:LI l=true):∀i,i<l.length->(i:Int)+1<=(l.getD i default).Bn
 |0,Ag=>by
  have:=(Wy hh Ag).1
  simp only[Nh]at this
  omega
 |i+1,Ag=>by
  have:=(Wy hh Ag).1
  have Cg:=jx hh i (by omega)
  simp only[Nh]at this
  omega
theorem PC{l:List BD}(hh:LI l=true):l.length<=5:=by
 rcases Nat.eq_zero_or_pos l.length with h|h
 · omega
 · have Af:=jx hh (l.length-1) (by omega)
   have h2:=(Wy hh (i:=l.length-1) (by omega)).2.1
   omega
theorem W2{α:Type}[DecidableEq α]{x y:List α}(h:x.length≠y.length):decide (x=y)=false:=decide_eq_false (fun e=>h (by rw[e]))
theorem W1{α:Type}[DecidableEq α][Inhabited α]{x y:List α}(i:Nat)(h:x.getD i default≠y.getD i default):decide (x=y)=false:=decide_eq_false fun e=>h (by rw[e])
theorem W0{α:Type}[DecidableEq α][Inhabited α]{x y:List α}(AN:x.length=y.length)(h:∀j,j<x.length->x.getD j default=y.getD j default):decide (x=y)=true:=by
 refine decide_eq_true (List.ext_getElem AN fun i Af h2=>?_)
 have:=h i Af
 simpa[List.getD,List.getElem?_eq_getElem Af,List.getElem?_eq_getElem h2]using this
def Xc(x y:AD):Bool:=decide (x.Al=y.Al)&&decide (x.Cs=y.Cs)&&decide (x.BT=y.BT)&&decide (x.Cn=y.Cn)&&decide (x.A0=y.A0)&&decide (x.BG=y.BG)
theorem LU:A' 0:=⟨by decide,by decide⟩
def Fj:AD:=⟨ByteArray.empty,⟨0,0⟩,0,0,[],⟨0,0,0,0⟩⟩
def Sq(k:ByteArray):AD:=⟨if Ix k=true then k else ByteArray.empty,⟨0,0⟩,0,0,[],⟨0,0,0,0⟩⟩
theorem rI(k:ByteArray):(Sq k).wf:=by
 refine⟨?_,⟨LU,LU⟩,LU,LU,trivial,LU,LU,LU,LU⟩
 show(if Ix k=true then k else ByteArray.empty).size<=_
 split
 · rename_i h
   simp only[Ix,Bool.and_eq_true,decide_eq_true_eq]at h
   omega
 · decide
def kd(k:ByteArray):Int:=if Ix k=true then 0 else 1
def mV:FL:=⟨0,ByteArray.empty,ByteArray.empty,0,0,0⟩
theorem vF:A' 1:=⟨by decide,by decide⟩
theorem vw:Fs.wf ⟨0,0,0,ByteArray.empty,ByteArray.empty,0,0⟩:=⟨LU,LU,LU,by decide,by decide,LU,LU⟩
def F8(n:Int):Bv:=⟨if Ih n=true then n else 0,0,Ih n&&decide (n=1),ByteArray.empty,ByteArray.empty,if Ih n=true then(if n=1 then 1 else 0)else 0,[],[],[],[],[],⟨0,0,0,ByteArray.empty,ByteArray.empty,0,0⟩,⟨0,0,0,ByteArray.empty,ByteArray.empty,0,0⟩,[],0,0,0⟩
theorem Aeq{n:Int}(h:A' n):(F8 n).wf:=by
 refine⟨?_,LU,trivial,(by show ByteArray.empty.size<=_;decide),(by show ByteArray.empty.size<=_;decide),?_,trivial,trivial,trivial,trivial,trivial,vw,vw,trivial,LU,LU,LU⟩
 · show A' (if Ih n=true then n else 0)
   split
   · exact h
   · exact LU
 · show A' (if Ih n=true then(if n=1 then 1 else 0)else 0)
   split
   · split
     · exact vF
     · exact LU
   · exact LU
structure ZS where
 Yb:AD
 CZ:Int
 deriving DecidableEq,Inhabited
end Go.Apw
namespace Go.A_
section
theorem n6:∀(n:Nat) (f g:Nat->Bool) (i:Nat),i<n->f i=true->g i=false->(∀j,j≠i->g j=f j)->(List.range n).countP g+1=(List.range n).countP f
 |0,_,_,_,h,_,_,_=>by omega
 |n+1,f,g,i,Ag,BI,CK,he=>by
  rw[List.range_succ,List.countP_append,List.countP_append]
  by_cases h:i=n
  · subst h
    have:(List.range i).countP g=(List.range i).countP f:=List.countP_congr fun j Ay=>by rw[he j (by have:=List.mem_range.1 Ay;omega)]
    rw[this]
    simp[BI,CK]
  · have Cg:=n6 n f g i (by omega) BI CK he
    have e:[n].countP g=[n].countP f:=by simp only[List.countP_cons,List.countP_nil,he n (Ne.symm h)]
    rw[e]
    omega
section
variable{c:Cj} {l:List Oper} {s:Iq} {env:Env} {D:List Atom} {Q:Exit->Act->World->Prop}
def R'(AJ n:Nat):Array Bool:=((List.range n).map fun i=>decide (i<AJ)).toArray
theorem OG.Aj8{r:List Oper}{AJ:Nat}(h:OG c l s env D (r.take AJ) 0){i:Nat}(Ag:i<AJ){o:Oper}(A7:r[i]? =some o)(V:Nat->Value)(Az:List Atom)(LC:E7 (fun k=>s.Eb k=none->s.ok k (V k)) (s.E8 i)):
 E7 (fun h=>Cb (Nf c l s (D++Az) i h (h.map V)) c l.toArray [o] (Eo l (EC s.Eb V) (s.E8 i)++env) (s.L h (h.map V)) (FM s.rs (EC s.Eb V) (s.E8 i)++(D++Az))) (Ro l s i):=by
 have:=h.at_ i o (by rw[List.getElem?_take,if_pos Ag];exact A7) V Az (by rw[Nat.zero_add];exact LC)
 rwa [Nat.zero_add]at this
theorem yS(C':ND l=true){k i:Nat}(h:Gp l k i=true):k<i:=by
 rcases Nat.lt_or_ge i l.length with Ee|Ee
 · have A7:l[i]? =some l[i]:=List.getElem?_eq_getElem Ee
   obtain⟨e,he,Aq,rfl⟩:=(S9 A7).1 h
   have M7:=List.all_eq_true.1 C' i (List.mem_range.2 Ee)
   rw[A7]at M7
   have:=List.all_eq_true.1 M7 e (Array.mem_toList_iff.2 he)
   rw[Aq]at this
   exact EU (by simpa using this)
 · rw[Gp,List.getElem?_eq_none Ee]at h
   cases h
theorem AhY(AJ:Nat)(s:Iq)(Yq:s.hs=[[]])(BB:OL l s=true)(C':ND l=true):(s.Eu.all fun x=>Nat.blt x AJ)=true/\E7 (fun h=>∀V:Nat->Value,s.L h (h.map V)=s.L [] []) (Q6 s):=by
 have he:∀x,x∈s.Eu->False:=by
  intro x
  induction x using Nat.strongRecOn with
  |_ x Cg=>
   intro Ab
   simp only[OL,Bool.and_eq_true]at BB
   have h:=BB.2
   rw[Yq]at h
   have h:=List.all_eq_true.1 (List.all_eq_true.1 h [] (List.mem_cons_self ..)) x Ab
   simp only[List.contains_nil,Bool.or_false,Bool.false_or,Bool.or_eq_true,Bool.not_eq_true',List.nil_append]at h
   rcases h with h|h
   · obtain⟨y,Bf,Acz⟩:=List.all_eq_false.1 h
     exact Cg y (yS C' (by simpa using Acz)) Bf
   · simp at h
 refine⟨List.all_eq_true.2 fun x Ab=>(he x Ab).elim,?_⟩
 rw[Q6,Yq]
 refine E7.intro fun h hh=>?_
 have:=(List.mem_filter.1 hh).1
 simp only[List.mem_cons,List.not_mem_nil,or_false]at this
 subst this
 exact fun _=>rfl
theorem AbC(AJ:Nat)(s:Iq)(XJ:(Nat->Value)->Own)(Af:S6 l s.E8=true)(h2:(List.range AJ).all (fun i=>dI l env i)=true)(C':ND l=true)(EY:LX l c.n=true)(BB:OL l s=true)
 (LY:∀A8:Array Bool,(∀i k,A8.getD i false=true->Gp l k i=true->A8.getD k false=true)->∀i,AJ<=i->i<l.length->(∀k,Gp l k i=true->A8.getD k false=true)->∀k,k<AJ->A8.getD k false=true)
 (AbE:(s.Eu.all fun x=>Nat.blt x AJ)=true)(aY:AJ<=l.length){L:Own}(Dv:s.L [] []=L)(Ge:E7 (fun h=>∀V:Nat->Value,s.L h (h.map V)=XJ V) (Q6 s))(Dk:OG c l s env D (l.take AJ) 0)(A:Nat->Array Bool->Act->World->Prop)
 (Cl:∀f A8 a w,Region.ready .any l.toArray A8≠[]->(∀i∈Region.ready .any l.toArray A8,∀Q',wpOp c.P l.toArray Q' i (A f (A8.setIfInBounds i true)) a w)->A (f+1) A8 a w)
 (k:∀V:Nat->Value,E7 (fun i=>(CN l i).isSome=true->s.Eb i=none->s.ok i (V i)) (List.range AJ)->∀a w,Fr c.n a (Eo l (EC s.Eb V) (List.range AJ)++env)->CI c.BW c.M w (XJ V)->BP (FM s.rs (EC s.Eb V) ((List.range AJ).filter fun i=>(CN l i).isSome)++D) w (XJ V)->A (l.length-AJ) (R' AJ l.length) a w)
 {a:Act}{w:World}(f:Fr c.n a env)(st:CI c.BW c.M w L)(AR:BP D w L):A l.length (Array.replicate l.length false) a w.drew:=by
 subst Dv
 have hs:=C8.drew [] w
 have NS:Nu c l s env D (Array.replicate l.length false) a w.drew []:=by
  refine⟨f,st.step hs,AR.step hs.nil,by simp,fun i k h _=>?_,fun i d h _=>?_,fun x _=>?_,fun x Ab=>(by cases Ab),?_⟩
  · rw[Px]at h;cases h
  · rw[Px]at h;cases h
  · rw[Px];simp
  · simp only[OL,Bool.and_eq_true]at BB
    simpa using BB.1.1
 have key:∀(m:Nat) (A8:Array Bool) (a:Act) (w:World) (hh:List Nat),Nu c l s env D A8 a w hh->(∀i,AJ<=i->A8.getD i false=false)->(List.range AJ).countP (fun i=> !A8.getD i false)=m->
  A (m+(l.length-AJ)) A8 a w:=by
  intro m
  induction m with
  |zero=>
   intro A8 a w hh Qn Av Bm
   have C0:∀i,i<AJ->A8.getD i false=true:=fun i Ag=>by
    have:=List.countP_eq_zero.1 Bm i (List.mem_range.2 Ag)
    simpa using this
   have heq:A8=R' AJ l.length:=by
    apply Array.ext
    · simp[Qn.size,R']
    · intro i Hj G1
      have e:A8[i]=A8.getD i false:=by simp[Hj]
      rw[e]
      simp only[R',List.getElem_toArray,List.getElem_map,List.getElem_range]
      by_cases Ag:i<AJ
      · rw[C0 i Ag];simp[Ag]
      · rw[Av i (by omega)];simp[Ag]
   have BI:hh∈Q6 s:=List.mem_filter.2 ⟨Qn.mem,List.all_eq_true.2 fun x Ab=>by simpa using(Qn.done x Ab).1 (C0 x (EU (List.all_eq_true.1 AbE x Ab)))⟩
   have AH:=Ge.mem hh BI (valOf l a)
   have Gg:=Qn.st
   have R_:=Qn.AR
   have NM:=Qn.slot
   rw[AH]at Gg R_ NM
   subst heq
   rw[Nat.zero_add]
   have Se:∀k,k<AJ->(CN l k).isSome=true->s.Rm k (valOf l a k):=fun k AE F6=>by
    obtain⟨d,F6⟩:=Option.isSome_iff_exists.1 F6
    have:=(NM k d (C0 k AE) F6).1
    simpa[valOf,Il,F6]using this
   have B4:Eo l (valOf l a) (List.range AJ)=Eo l (EC s.Eb (valOf l a)) (List.range AJ):=UC fun k AE F6=>bZ (Se k (List.mem_range.1 AE) F6)
   have DC:FM s.rs (valOf l a) ((List.range AJ).filter fun i=>(CN l i).isSome)=FM s.rs (EC s.Eb (valOf l a)) ((List.range AJ).filter fun i=>(CN l i).isSome):=ZY fun k AE=>bZ (Se k (List.mem_range.1 (List.mem_filter.1 AE).1) (by simpa using(List.mem_filter.1 AE).2))
   have AE:=k (valOf l a) (E7.intro fun i Ag F6 Ao=>ky (Se i (List.mem_range.1 Ag) F6) Ao)
   rw[<-B4,<-DC]at AE
   refine AE _ _ (Qn.frame EY fun k AE=>Nat.lt_of_lt_of_le (List.mem_range.1 AE) aY) Gg (BP.app (fun t Av=>?_) R_)
   obtain⟨i,Ag,Av⟩:=WR Av
   obtain⟨Tp,F6⟩:=List.mem_filter.1 Ag
   obtain⟨d,F6⟩:=Option.isSome_iff_exists.1 F6
   have:=(NM i d (C0 i (List.mem_range.1 Tp)) F6).2
   simp only[valOf,Il,F6]at Av
   exact this t Av
  |succ m Cg=>
   intro A8 a w hh Qn Av Bm
   rw[show m+1+(l.length-AJ)=(m+(l.length-AJ))+1 by omega]
   have hex:∃i,i<AJ/\A8.getD i false=false:=by
    refine Classical.byContradiction fun Ao=>?_
    have:(List.range AJ).countP (fun i=> !A8.getD i false)=0:=List.countP_eq_zero.2 fun i Ag=>by
     simp only[Bool.not_eq_true',Bool.not_eq_false]
     refine Classical.byContradiction fun h=>Ao ⟨i,List.mem_range.1 Ag,by simpa using h⟩
    omega
   refine Cl _ _ _ _ (fun Bh=>?_) (fun i Ag Q'=>?_)
   · exfalso
     obtain⟨i0,OW,bh⟩:=hex
     have C0:∀i,i<l.length->A8.getD i false=true:=by
      intro i
      induction i using Nat.strongRecOn with
      |_ i AcC=>
       intro Ee
       cases Tr:A8.getD i false with
       |true=>rfl
       |false=>
        exfalso
        have:i∈Region.ready .any l.toArray A8:=by
         refine mem_ready.2 ⟨by rw[OQ (by rw[Qn.size];exact Ee)];exact Tr,l[i],by simp[List.getElem?_eq_getElem Ee],fun e he Aq=>?_⟩
         have M7:=List.all_eq_true.1 C' i (List.mem_range.2 Ee)
         rw[List.getElem?_eq_getElem Ee]at M7
         have:=List.all_eq_true.1 M7 e (Array.mem_toList_iff.2 he)
         rw[Aq]at this
         have C_:=EU (by simpa using this)
         exact AcC e.on C_ (by omega)
        rw[Bh]at this
        cases this
     rw[C0 i0 (by omega)]at bh
     cases bh
   · obtain⟨Ib,o,Wx,WB⟩:=mem_ready.1 Ag
     have A7:l[i]? =some o:=by simpa using Wx
     have Ee:i<l.length:=(List.getElem?_eq_some_iff.1 A7).1
     have IE:i<A8.size:=by rw[Qn.size];exact Ee
     have Jg:A8.getD i false=false:=by rw[<-OQ IE];exact Ib
     have jo:i<AJ:=by
      rcases Nat.lt_or_ge i AJ with h|h
      · exact h
      · obtain⟨i0,OW,bh⟩:=hex
        have:=LY A8 Qn.closed i h Ee (fun k AE=>by
         obtain⟨e,he,Aq,rfl⟩:=(S9 A7).1 AE
         exact WB e he Aq) i0 OW
        rw[this]at bh;cases bh
     refine(Qn.tE (Q:=Q') Af (List.all_eq_true.1 h2 i (List.mem_range.2 jo)) BB EY Ag (fun Lg Qc V Az LC=>Dk.Aj8 jo Qc V Az LC) fun Dx AT DI WO=>?_)
     refine Cg _ Dx AT DI WO (fun j Ay=>?_) ?_
     · rw[Ia IE,Av j Ay]
       have:(i==j)=false:=by simpa using(by omega:i≠j)
       rw[this];rfl
     · have C_:(List.range AJ).countP (fun k=> !(A8.setIfInBounds i true).getD k false)+1=(List.range AJ).countP (fun k=> !A8.getD k false):=by
        refine n6 AJ _ _ i jo (by rw[Jg];rfl) (by rw[Ia IE];simp) fun j Ay=>?_
        rw[Ia IE]
        have:(i==j)=false:=by simpa using Ne.symm Ay
        rw[this];rfl
       omega
 have Ts:(List.range AJ).countP (fun i=> !(Array.replicate l.length false).getD i false)=AJ:=by
  rw[List.countP_eq_length_filter,List.filter_eq_self.2 fun i _=>by rw[Px];rfl,List.length_range]
 have:=key AJ _ a w.drew [] NS (fun i _=>Px _ _) Ts
 rwa [show AJ+(l.length-AJ)=l.length by omega]at this
end
end
end Go.A_
namespace Go.A_
open Go.RowKit
structure mZ (NT b:Nat) (A B:World):Prop where
 size:A.heap.size<=B.heap.size
 block:∀k,k<NT->k≠b->B.heap[k]? =A.heap[k]?
theorem Below.I3{NT b:Nat}{A B:World}(h:Below NT A B):mZ NT b A B:=⟨h.size,fun k AE _=>h.block k AE⟩
theorem C8.I3{NT b:Nat}{M:List Nat}{A B:World}(h:C8 M A B)(Ao:NT<=A.heap.size)(UU:∀k,k<NT->k∈M->k=b):mZ NT b A B:=
 ⟨h.size,fun k AE Aq=>h.block k (Nat.lt_of_lt_of_le AE Ao) (fun hm=>Aq (UU k AE hm))⟩
end Go.A_
