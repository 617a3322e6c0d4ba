/- Part 23 of shardWhole_holds. -/
import Derived.Test.YtklmcfecakaanaaGreatSq22

set_option maxRecDepth 20000
set_option maxHeartbeats 1000000
open Go.Proofs.Tryz renaming underlying161→ARM,underlying36→ARL,underlying38→ARQ,underlying39→ARN,underlying40→ARR,underlying43→ARO,underlying9→ABO
open List renaming drop_eq_getElem_cons→AC1,drop_eq_nil_of_le→ACc
open Option renaming map_eq_some_iff→ACr
open Go.A_ Go.Proofs Go.Proofs.YtklmcfecakaanaaGreat
namespace Go.Apw
theorem ARC(p:Nat)(nd:List Nat)(o:Cc)(v1:Value)(x:Bool)(Z:Cc)(AW:Gy x o=Z):Aw AG 97 [ALM p 0,v1] [DG p nd o] [⟨v1,(⟨x⟩:Cq Bool)⟩] (fun(_:List Nat) _=>True) (fun y _=>[DG p y Z]) (fun _ _=>[]):=by
 refine Aw.proof Tryz.func97 G 37 G G fun X w=>B5<|Ae<|An G G<|Ch 0 (T2 p _ o) (Ar G) G G Aa G fun xE Aoy Dp=>?_;subst Dp;refine U 1 G<|Ac<|BN G (fun Ct=>?_) (fun Ct=>?_)
 ·
  refine EG<|CU ?_;have AB:o=Z:=(by rw[<-AW,Gy,AA_ Ct]);subst AB;exact Dz xE G trivial G Aa
 refine Am<|L2 fun k Dk=>?_;refine rg<|AX 4 [0] G G<|Q1 ARM G G G<|U 2 G<|Bl G G G<|Co 0 G G G<|Bl G G G<|CQ 0 G G (A2 G) G fun cY=>U 2 G<|Ac<|BN G (fun Fm=>?_) (fun Fm=>?_)
 ·
  refine Mh o k G Dk fun Hr=>rg<|An G G<|BH (xs:=[.const (.int .u8 1)]) (us:=[.int .u8 1]) (E:=5) (bytes:=1) (n:=1) G (by exact QP) G G G G G G fun dB=>KJ (1:UInt8) (fun S w h=>by exact⟨rfl,trivial⟩)<|Ch 0 (Sv p _ o _ [(1:UInt8)] (H4 [(1:UInt8)] o) G) (Ar G) G G (Ad 0 G Aa) G fun VT _ _=>?_;refine nl<|CU ?_;have AB:(H4 [(1:UInt8)] o)=Z:=(by rw[<-AW,Gy,AA9 (by rw[Ct];decide),Fm];rfl);subst AB;exact Dz VT G trivial G Aa
 refine Ae<|AX 4 [0] G G<|Q1 ARM G G G<|U 1 G<|Ac<|Mv G<|Mh o k G Dk fun Hr=>rg<|An G G<|BH (xs:=[.const (.int .u8 0)]) (us:=[.int .u8 0]) (E:=5) (bytes:=1) (n:=1) G (by exact QP) G G G G G G fun xm=>KJ (0:UInt8) (fun S w h=>by exact⟨rfl,trivial⟩)<|Ch 0 (Sv p _ o _ [(0:UInt8)] (H4 [(0:UInt8)] o) G) (Ar G) G G (Ad 0 G Aa) G fun VT _ _=>?_;refine nl<|CU ?_;have AB:(H4 [(0:UInt8)] o)=Z:=by rw[<-AW,Gy,AA9 (by rw[Ct];decide),Fm];rfl
 subst AB;exact Dz VT G trivial G Aa
theorem nN(p:Nat)(nd:List Nat)(o:Cc)(v1:Value)(b:List UInt8)(Z:Cc)(AW:KT b o=Z):Aw AG 110 [ALM p 0,v1] [DG p nd o] [⟨v1,(⟨b⟩:Cq (List UInt8))⟩] (fun(_:List Nat) _=>True) (fun y _=>[DG p y Z]) (fun _ _=>[]):=by
 refine Aw.proof Tryz.func110 G 35 G G fun X w=>B5<|Ae<|An G G<|Ch 0 (T2 p _ o) (Ar G) G G Aa G fun xD Aox EM=>?_;subst EM;refine U 1 G<|Ac<|BN G (fun Dq=>?_) (fun Dq=>?_)
 ·
  refine EG<|CU ?_;have AB:o=Z:=(by rw[<-AW,KT,AA_ Dq]);subst AB;exact Dz xD G trivial G Aa
 refine Am<|L2 fun k Dk=>?_;refine rg<|AX 4 [0] G G<|rF ARM G G G<|U 1 G<|Ac<|LW G<|Ae<|An G G<|Co 0 G G G<|Le 0 G G (A2 G) G fun MR=>C2 0 G G ARO G fun qW=>U 2 G<|Ac<|B9 G (fun JR=>?_) (fun JR=>?_)
 ·
  refine rg<|U 3 G<|Fi 0 G G G (A2 G) G (Da G)<|nl<|CU ?_;have AB:{o with E6:=true}=Z:=(by rw[<-AW,KT,AA9 (by rw[Dq];decide),AA_ AMT]);subst AB;exact Ng {o with E6:=true} k G Dk fun Hr=>Dz Hr G trivial G Aa
 refine Mh o k G Dk fun Hr=>rg<|U 2 G<|Co 1 G G G<|Le 1 G G (A2 G) G fun EZ=>Dm (Akc _ b AMT) (Ar G) G (Ad 0 G Aa) G fun _ T9 _=>JO<|Ch 0 (Sv p _ o _ (RS b) (H4 (RS b) o) G) (Ar G) G G (Ad 0 G Aa) G fun VT _ _=>?_;refine nl<|CU ?_;have AB:(H4 (RS b) o)=Z:=by rw[<-AW,KT,AA9 (by rw[Dq];decide),AA9 AMT]
 subst AB;exact Dz VT G trivial G Aa
theorem cL(p:Nat)(nd:List Nat)(o:Cc)(Bk:Value)(l:List (Cq ByteArray))(Z:Cc)(AW:E0 l o=Z):Aw AG 98 [ALM p 0,Bk] [DG p nd o] [⟨Bk,l⟩] (fun(_:List Nat) _=>True) (fun y _=>[DG p y Z]) (fun _ _=>[]):=by
 refine Aw.proof Tryz.func98 G 44 G G fun X w=>Ae<|An G G<|C2 0 G G Tryz.underlying249 G fun Adl=>An G G<|Ac<|B5<|Hx (σ:=Nat×Cc×List Nat) [(0,_),(7,_),(8,_)] _ (fun s C=>(9,.int .i64 (s.1:Int))::C) (fun s=>[DG p s.2.2 s.2.1,CL X w]) (fun _ Dw=>Dw) (fun s=>s.1<=l.length/\E0 (l.drop s.1) s.2.1=Z) (fun s=>l.length-s.1) (0,o,nd) (Bs G) (Ad 0 G Aa) ⟨ABg _,AW⟩ (Bs G) G (Ad 0 G Aa) ?_;rintro⟨i,Y,JG⟩ ⟨Ag,IZ⟩;simp only at Ag IZ;show CF _ _ _ [(9,.int .i64 ((i:Int))),(0,_),(7,_),(8,_)] [DG p JG Y,CL X w] _;refine AF 1 G<|Am<|B9 G (fun Dq=>?_) (fun Dq=>?_)
 ·
  refine AZ<|Am<|B5<|Ae<|Qh 0 G G G lR AMT (show l[((i:Nat):Int).toNat]? =some (l.getD i default)from by rw[ACS];exact Ly (d:=default) AMT) G fun v11=>q0 0 G G (A2 G) G fun gz=>U 1 G<|Ac<|Am<|Am<|L2 fun k Dk=>?_;refine rg<|AX 4 [0] G G<|Q1 ARM G G G<|U 2 G<|Bl G G G<|Co 0 G G G<|Bl G G G<|CQ 0 G G (A2 G) G fun uv=>Bl G G G<|PI G ABO G<|U 2 G<|Ac<|B9 G (fun F3=>?_) (fun F3=>?_)
  ·
   have AJ:=AC1 (show i<l.length by omega);rw[<-Go.A_.G3 AMT]at AJ;rw[AJ,E0,AA_ AMT]at IZ;refine Ae<|U 3 G<|Fi 0 G G G (A2 G) G (Da G)<|Ac<|BA<|C9<|Cd<|Cd<|C9 ?_;have AB:{Y with E6:=true}=Z:=(by rw[<-IZ]);subst AB;exact Ng {Y with E6:=true} k G Dk fun Hr=>Ej Hr G trivial G Aa
  have AJ:=AC1 (show i<l.length by omega);rw[<-Go.A_.G3 AMT]at AJ;have pU:=IZ;rw[AJ,E0,AA9 AMT]at pU;refine AZ<|Ae<|An G G<|Co 0 G G G<|CQ 0 G G (A2 G) G fun Ao5=>oa ABO ARO Tryz.underlying5 G AMT G fun L5=>CT dg G fun Hg=>J2 0 0 G G G G (A2 G) (Da G)<|Ac<|Am<|B8 2 G<|B8 2 G<|Mh Y k G Dk fun xG=>?_;refine rg<|An G G<|D9 1 G<|M4 (α:=List UInt8) (l.getD i default).x.data.toList (fun S w h=>j4 (h _ (AA' (i:=0) G)))<|Ch 0 (nN p _ Y _ (l.getD i default).x.data.toList (KT (l.getD i default).x.data.toList Y) G) (Ar G) G G (Ad 0 G Aa) G fun nG _ _=>?_;refine Ac<|Am<|L2 fun TB Aa0=>?_;refine rg<|AX 4 [0] G G<|rF ARM G G G<|Ac<|LW G<|EG<|CU<|A5<|Mh (KT (l.getD i default).x.data.toList Y) TB G Aa0 fun K1=>rg<|C5 G G BV G<|An G G<|nl ?_;exact Dy ((i+1,KT (l.getD i default).x.data.toList Y,K1):Nat×Cc×List Nat) ⟨by show i+1<=_;omega,pU⟩ (by show l.length-(i+1)<l.length-i;omega) (Bs G) G (Ad 4 G Aa)
 refine ex<|Ck<|Ck<|D7 ?_;have AB:Y=Z:=by rw[<-IZ,ACc AMT,E0]
 subst AB;exact Dz JG G trivial G Aa
end Go.Apw
namespace Go.A_
section
theorem AhF{α:Type}{r:Be α}{S:Nat->Prop}{w:World}{v:Value}{x:α}(h:Atom.holds (@Atom.mk (Cq α) (@F9 α r) v ⟨x⟩) S w):(@F9 α r).rd S w [v] ⟨x⟩:=by
 obtain⟨b,o,Cx,e,Aq,Bh,AN⟩:=@Rp α r _ _ _ _ h;exact⟨b,o,Cx,by rw[e],Aq,Bh,AN⟩
theorem AhE{α:Type}{r:Be α}{S:Nat->Prop}{w:World}{v:Value}{x:α}(h:Atom.holds (@Atom.mk (Cq α) (@F9 α r) v ⟨x⟩) S w):v.oneCell'=true:=by
 obtain⟨b,o,Cx,e,_⟩:=@Rp α r _ _ _ _ h;rw[e];rfl
theorem kU{α:Type}{r:Be α}{S:Nat->Prop}{w:World}:∀{us:List Value} {l:List (Cq α)},us.length=l.length->(∀q∈us.zip l,Atom.holds (@Atom.mk (Cq α) (@F9 α r) q.1 q.2) S w)->@HM (Cq α) (@F9 α r) S w (us.map fun u=>[u]) l/\us.all (·.oneCell')=true
 |[],[],_,_=>⟨trivial,rfl⟩
 |u::us,x::l,h,k=>by
  have AS:=k (u,x) (ABx ..);obtain⟨Af,h2⟩:=kU (us:=us) (l:=l) (by simpa using h) fun q B'=>k q (ABR _ B');exact⟨⟨AhF AS,Af⟩,by rw[ABn,AhE AS,h2];rfl⟩
theorem Apv:∀us:List Value,(us.map fun u=>[u]).flatten=us
 |[]=>rfl
 |u::us=>by rw[AB8,List.flatten_cons,Apv us];rfl
section
variable{c:Cj} {ops:Array Oper} {rest:List Oper} {env:Env} {L:Own} {D:List Atom} {Q:AuE} {d:Nat} {t:TypeId} {p:String} {af:Array Edge}
theorem Kj{α:Type}{r:Be α}(ix:List Nat)(l:List (Cq α)){us:List Value}{T E:TypeId}{bytes n:Nat}{ps:List (Nat×Operand)}(Av:EH c.P T E 1 bytes)(Ab:Gq env (ps.map Prod.snd)=some us)(Cl:ix.map (fun i=>D[i]?)=(us.zip l).map fun q=>some (@Atom.mk (Cq α) (@F9 α r) q.1 q.2))
 (Bm:(partsOf (ps.map Prod.snd),us.length,l.length,Nat.ble n 1000,us.isEmpty,Nat.blt d c.n)=(ps,n,n,true,false,true))
 (k:∀b,Cb Q c ops rest ((d,.slice (some ⟨b,0,none⟩) n n)::env) L ((@Atom.mk (List (Cq α)) (@FI (Cq α) (@F9 α r)) (.slice (some ⟨b,0,none⟩) l.length l.length) l)::D)):Cb Q c ops (⟨some d,.buildSlice T n ps.toArray,t,p,af,none⟩::rest) env L D:=by
 simp only[Prod.mk.injEq]at Bm;obtain⟨Af,h2,Bo,BB,C',F4⟩:=Bm;have hh:∀S w,(∀u∈D,u.holds S w)->∀q∈us.zip l,Atom.holds (@Atom.mk (Cq α) (@F9 α r) q.1 q.2) S w:=fun S w h q B'=>by
  have hm:some (@Atom.mk (Cq α) (@F9 α r) q.1 q.2)∈ix.map (fun i=>D[i]?):=(by rw[Cl];exact AB6.2 ⟨q,B',rfl⟩);obtain⟨i,_,Ag⟩:=AB6.1 hm;exact h _ (AA' Ag)
 refine GO (q:=us.all (·.oneCell')=true) (fun S w h=>(kU (r:=r) (l:=l) (h2.trans Bo.symm) (hh S w h)).2) fun hu=>?_;have Aq:∀b,Cb Q c ops rest ((d,.slice (some ⟨b,0,none⟩) n n)::env) (AO b E us::L) D:=fun b=>
  Q5 (α:=Cq α) (r:=@F9 α r) l (us.map fun u=>[u]) (Apv us) (fun S w h=>(kU (h2.trans Bo.symm) (hh S w h)).1) (by rw[Bo];exact ABB (ABy BB) ARp) (k b)
 exact BH Ab Av hu (by rw[h2];exact BB) C' h2 F4 Af Aq
end
end
end Go.A_
namespace Go.Apw
variable(p:Nat) (nd:List Nat)
theorem Zu{α:Type}{one:α->Cc->Cc}{l:List α}{w:Cc}(h:l=[]\/w.E6=true):MS one l w=w:=by
 cases l with
 |nil=>rfl
 |cons x r=>
  rcases h with h|h
  ·
   cases h
  rw[MS,AA_ h]
theorem AfB(o:Cc)(v1:Value)(x:FL)(Z:Cc)(AW:Zv x o=Z):Aw AG 179 [ALM p 0,v1] [DG p nd o] [⟨v1,(Ak x)⟩] (fun(_:List Nat) _=>True) (fun y _=>[DG p y Z]) (fun _ _=>[]):=by
 refine Aw.proof Tryz.func179 G 31 G G fun X w=>Ae<|U 2 G<|Co 0 G G G<|CJ 0 AgE G G (BR G) G fun EZ=>Kj [0] [Ak x.Ca] HB G G G fun K0=>Ch 0 (AuS p _ o _ [Ak x.Ca] (B_ [Ak x.Ca] o) G) (Ar G) G G (Ad 0 G Aa) G fun xC _ _=>Ac<|Am<|AuR (ω:=List Nat×Value) [] [(0,[(8,.f1 8 fun BM=>[DG p BM.1 (E0 [Ak x.Al,Ak x.EL] (B_ [Ak x.Ca] o))])])] [(2,CC (Ak x)),(3,CC (Ak x.Al)),(5,CC (Ak x)),(6,CC (Ak x.EL)),(7,CC [Ak x.Al,Ak x.EL]),(8,K8 [0])] [] [0,1] (fun _=>G) (fun _=>G) (fun Ai AV Az=>⟨fun _=>Co 2 G G G<|CD [2] 0 G G,fun _=>CJ 0 AgF G G (BR G) G fun RA=>CD [0] 2 G G,fun _=>Co 2 G G G<|CD [2] 0 G G,fun _=>CJ 0 AgG G G (BR G) G fun Mn=>CD [0] 2 G G,fun _=>Kj [1,3] [Ak x.Al,Ak x.EL] QO G G G fun nu=>CD [0] 5 G G,fun _=>?_,trivial⟩) fun Ai _=>?_
 ·
  refine Ch 0 (cL p _ (B_ [Ak x.Ca] o) _ [Ak x.Al,Ak x.EL] (E0 [Ak x.Al,Ak x.EL] (B_ [Ak x.Ca] o)) G) (Ar G) G G (Ad 4 G Aa) G fun XV _ _=>?_;exact I4 (XV,_) [] 5 G G trivial
 generalize (Ai 2).2=Pd,(Ai 3).2=Mm,(Ai 5).2=Rz,(Ai 6).2=MQ,(Ai 7).2=PR,(Ai 8).1=XV,(Ai 8).2=Nq;refine A5<|AuR (ω:=List Nat×Value) [] [(0,[(11,.f1 11 fun BM=>[DG p BM.1 (B_ [Ak x.B2,Ak x.A6,Ak x.Bc] (E0 [Ak x.Al,Ak x.EL] (B_ [Ak x.Ca] o)))])])] [(2,CC (Ak x)),(3,CC (Ak x.B2)),(5,CC (Ak x)),(6,CC (Ak x.A6)),(8,CC (Ak x)),(9,CC (Ak x.Bc)),(10,CC [Ak x.B2,Ak x.A6,Ak x.Bc]),(11,K8 [0])] [] [] (fun _=>G) (fun _=>G) (fun Ai AV Az=>⟨fun _=>Co 7 G G G<|CD [7] 0 G G,fun _=>CJ 0 AgH G G (BR G) G fun RB=>CD [0] 2 G G,fun _=>Co 7 G G G<|CD [7] 0 G G,fun _=>CJ 0 AgI G G (BR G) G fun T7=>CD [0] 2 G G,fun _=>Co 7 G G G<|CD [7] 0 G G,fun _=>CJ 0 AgJ G G (BR G) G fun Pg=>CD [0] 2 G G,fun _=>Kj [1,3,5] [Ak x.B2,Ak x.A6,Ak x.Bc] HB G G G fun Amf=>CD [0] 7 G G,fun _=>?_,trivial⟩) fun Ai _=>?_
 ·
  refine Ch 0 (AuS p _ (E0 [Ak x.Al,Ak x.EL] (B_ [Ak x.Ca] o)) _ [Ak x.B2,Ak x.A6,Ak x.Bc] (B_ [Ak x.B2,Ak x.A6,Ak x.Bc] (E0 [Ak x.Al,Ak x.EL] (B_ [Ak x.Ca] o))) G) (Ar G) G G (Ad 6 G Aa) G fun hr _ _=>?_;exact I4 (hr,_) [] 7 G G trivial
 generalize (Ai 2).2=Pd,(Ai 3).2=Mm,(Ai 5).2=Rz,(Ai 6).2=MQ,(Ai 8).2=Nq,(Ai 9).2=cP,(Ai 10).2=Vo,(Ai 11).1=hr,(Ai 11).2=Vp;have AB:(B_ [Ak x.B2,Ak x.A6,Ak x.Bc] (E0 [Ak x.Al,Ak x.EL] (B_ [Ak x.Ca] o)))=Z:=by exact AW
 subst AB;exact Dz hr G trivial G Aa
theorem sl(o:Cc)(v1:Value)(x:Fs)(Z:Cc)(AW:Lq x o=Z):Aw AG 109 [ALM p 0,v1] [DG p nd o] [⟨v1,(Ak x)⟩] (fun(_:List Nat) _=>True) (fun y _=>[DG p y Z]) (fun _ _=>[]):=by
 refine Aw.proof Tryz.func109 G 34 G G fun X w=>Am<|AuR (ω:=List Nat×Value) [] [(0,[(11,.f1 11 fun BM=>[DG p BM.1 (B_ [Ak x.Ev,Ak x.Hi,Ak x.IX] o)])])] [(2,CC (Ak x)),(3,CC (Ak x.Ev)),(5,CC (Ak x)),(6,CC (Ak x.Hi)),(8,CC (Ak x)),(9,CC (Ak x.IX)),(10,CC [Ak x.Ev,Ak x.Hi,Ak x.IX]),(11,K8 [0])] [] [0,1] (fun _=>G) (fun _=>G) (fun Ai AV Az=>⟨fun _=>Co 0 G G G<|CD [0] 0 G G,fun _=>CJ 0 sa G G (BR G) G fun EZ=>CD [0] 2 G G,fun _=>Co 0 G G G<|CD [0] 0 G G,fun _=>CJ 0 AgK G G (BR G) G fun v10=>CD [0] 2 G G,fun _=>Co 0 G G G<|CD [0] 0 G G,fun _=>CJ 0 AgL G G (BR G) G fun RA=>CD [0] 2 G G,fun _=>Kj [1,3,5] [Ak x.Ev,Ak x.Hi,Ak x.IX] HB G G G fun Al'=>CD [0] 7 G G,fun _=>?_,trivial⟩) fun Ai _=>?_
 ·
  refine Ch 0 (AuS p _ o _ [Ak x.Ev,Ak x.Hi,Ak x.IX] (B_ [Ak x.Ev,Ak x.Hi,Ak x.IX] o) G) (Ar G) G G (Ad 6 G Aa) G fun nE _ _=>?_;exact I4 (nE,_) [] 7 G G trivial
 generalize (Ai 2).2=Pd,(Ai 3).2=Mm,(Ai 5).2=Rz,(Ai 6).2=MQ,(Ai 8).2=Nq,(Ai 9).2=cP,(Ai 10).2=Vo,(Ai 11).1=nE,(Ai 11).2=Vp;refine A5<|Am<|AuR (ω:=List Nat×Value) [] [(0,[(8,.f1 8 fun BM=>[DG p BM.1 (E0 [Ak x.A6,Ak x.Bc] (B_ [Ak x.Ev,Ak x.Hi,Ak x.IX] o))])])] [(2,CC (Ak x)),(3,CC (Ak x.A6)),(5,CC (Ak x)),(6,CC (Ak x.Bc)),(7,CC [Ak x.A6,Ak x.Bc]),(8,K8 [0])] [] [0,1] (fun _=>G) (fun _=>G) (fun Ai AV Az=>⟨fun _=>Co 7 G G G<|CD [7] 0 G G,fun _=>CJ 0 AgM G G (BR G) G fun KC=>CD [0] 2 G G,fun _=>Co 7 G G G<|CD [7] 0 G G,fun _=>CJ 0 AgN G G (BR G) G fun RB=>CD [0] 2 G G,fun _=>Kj [1,3] [Ak x.A6,Ak x.Bc] QO G G G fun Amc=>CD [0] 5 G G,fun _=>?_,trivial⟩) fun Ai _=>?_
 ·
  refine Ch 0 (cL p _ (B_ [Ak x.Ev,Ak x.Hi,Ak x.IX] o) _ [Ak x.A6,Ak x.Bc] (E0 [Ak x.A6,Ak x.Bc] (B_ [Ak x.Ev,Ak x.Hi,Ak x.IX] o)) G) (Ar G) G G (Ad 4 G Aa) G fun nF _ _=>?_;exact I4 (nF,_) [] 5 G G trivial
 generalize (Ai 2).2=Pd,(Ai 3).2=Mm,(Ai 5).2=Rz,(Ai 6).2=MQ,(Ai 7).2=PR,(Ai 8).1=nF,(Ai 8).2=Nq;refine A5<|AuR (ω:=List Nat×Value) [] [(0,[(8,.f1 8 fun BM=>[DG p BM.1 (B_ [Ak x.Ap,Ak x.As] (E0 [Ak x.A6,Ak x.Bc] (B_ [Ak x.Ev,Ak x.Hi,Ak x.IX] o)))])])] [(2,CC (Ak x)),(3,CC (Ak x.Ap)),(5,CC (Ak x)),(6,CC (Ak x.As)),(7,CC [Ak x.Ap,Ak x.As]),(8,K8 [0])] [] [] (fun _=>G) (fun _=>G) (fun Ai AV Az=>⟨fun _=>Co 12 G G G<|CD [12] 0 G G,fun _=>CJ 0 AgO G G (BR G) G fun Pg=>CD [0] 2 G G,fun _=>Co 12 G G G<|CD [12] 0 G G,fun _=>CJ 0 AgP G G (BR G) G fun L5=>CD [0] 2 G G,fun _=>Kj [1,3] [Ak x.Ap,Ak x.As] HB G G G fun Amh=>CD [0] 5 G G,fun _=>?_,trivial⟩) fun Ai _=>?_
 ·
  refine Ch 0 (AuS p _ (E0 [Ak x.A6,Ak x.Bc] (B_ [Ak x.Ev,Ak x.Hi,Ak x.IX] o)) _ [Ak x.Ap,Ak x.As] (B_ [Ak x.Ap,Ak x.As] (E0 [Ak x.A6,Ak x.Bc] (B_ [Ak x.Ev,Ak x.Hi,Ak x.IX] o))) G) (Ar G) G G (Ad 4 G Aa) G fun dE _ _=>?_;exact I4 (dE,_) [] 5 G G trivial
 generalize (Ai 2).2=Pd,(Ai 3).2=Mm,(Ai 5).2=Rz,(Ai 6).2=MQ,(Ai 7).2=PR,(Ai 8).1=dE,(Ai 8).2=Nq;have AB:(B_ [Ak x.Ap,Ak x.As] (E0 [Ak x.A6,Ak x.Bc] (B_ [Ak x.Ev,Ak x.Hi,Ak x.IX] o)))=Z:=by exact AW
 subst AB;exact Dz dE G trivial G Aa
theorem Ab5(o:Cc)(v1:Value)(x:BD)(Z:Cc)(AW:PY x o=Z):Aw AG 177 [ALM p 0,v1] [DG p nd o] [⟨v1,(Ak x)⟩] (fun(_:List Nat) _=>True) (fun y _=>[DG p y Z]) (fun _ _=>[]):=by
 refine Aw.proof Tryz.func177 G 19 G G fun X w=>AuR (ω:=List Nat×Value) [] [(0,[(14,.f1 14 fun BM=>[DG p BM.1 (B_ [Ak x.Bn,Ak x.G0,Ak x.DV,Ak x.Fc] o)])])] [(2,CC (Ak x)),(3,CC (Ak x.Bn)),(5,CC (Ak x)),(6,CC (Ak x.G0)),(8,CC (Ak x)),(9,CC (Ak x.DV)),(11,CC (Ak x)),(12,CC (Ak x.Fc)),(13,CC [Ak x.Bn,Ak x.G0,Ak x.DV,Ak x.Fc]),(14,K8 [0])] [] [] (fun _=>G) (fun _=>G) (fun Ai AV Az=>⟨fun _=>Co 0 G G G<|CD [0] 0 G G,fun _=>CJ 0 Agt G G (BR G) G fun EZ=>CD [0] 2 G G,fun _=>Co 0 G G G<|CD [0] 0 G G,fun _=>CJ 0 Agu G G (BR G) G fun v10=>CD [0] 2 G G,fun _=>Co 0 G G G<|CD [0] 0 G G,fun _=>CJ 0 Agv G G (BR G) G fun RA=>CD [0] 2 G G,fun _=>Co 0 G G G<|CD [0] 0 G G,fun _=>CJ 0 Agw G G (BR G) G fun Mn=>CD [0] 2 G G,fun _=>Kj [1,3,5,7] [Ak x.Bn,Ak x.G0,Ak x.DV,Ak x.Fc] HB G G G fun nu=>CD [0] 9 G G,fun _=>?_,trivial⟩) fun Ai _=>?_
 ·
  refine Ch 0 (AuS p _ o _ [Ak x.Bn,Ak x.G0,Ak x.DV,Ak x.Fc] (B_ [Ak x.Bn,Ak x.G0,Ak x.DV,Ak x.Fc] o) G) (Ar G) G G (Ad 8 G Aa) G fun XV _ _=>?_;exact I4 (XV,_) [] 9 G G trivial
 generalize (Ai 2).2=Pd,(Ai 3).2=Mm,(Ai 5).2=Rz,(Ai 6).2=MQ,(Ai 8).2=Nq,(Ai 9).2=cP,(Ai 11).2=Vp,(Ai 12).2=cO,(Ai 13).2=me,(Ai 14).1=XV,(Ai 14).2=Xj;have AB:(B_ [Ak x.Bn,Ak x.G0,Ak x.DV,Ak x.Fc] o)=Z:=by exact AW
 subst AB;exact Dz XV G trivial G Aa
theorem y4(o:Cc)(v1:Value)(x:Df)(Z:Cc)(AW:Mq x o=Z):Aw AG 108 [ALM p 0,v1] [DG p nd o] [⟨v1,(Ak x)⟩] (fun(_:List Nat) _=>True) (fun y _=>[DG p y Z]) (fun _ _=>[]):=by
 refine Aw.proof Tryz.func108 G 13 G G fun X w=>AuR (ω:=List Nat×Value) [] [(0,[(8,.f1 8 fun BM=>[DG p BM.1 (B_ [Ak x.Ap,Ak x.As] o)])])] [(2,CC (Ak x)),(3,CC (Ak x.Ap)),(5,CC (Ak x)),(6,CC (Ak x.As)),(7,CC [Ak x.Ap,Ak x.As]),(8,K8 [0])] [] [] (fun _=>G) (fun _=>G) (fun Ai AV Az=>⟨fun _=>Co 0 G G G<|CD [0] 0 G G,fun _=>CJ 0 Ags G G (BR G) G fun EZ=>CD [0] 2 G G,fun _=>Co 0 G G G<|CD [0] 0 G G,fun _=>CJ 0 r' G G (BR G) G fun v10=>CD [0] 2 G G,fun _=>Kj [1,3] [Ak x.Ap,Ak x.As] HB G G G fun XT=>CD [0] 5 G G,fun _=>?_,trivial⟩) fun Ai _=>?_
 ·
  refine Ch 0 (AuS p _ o _ [Ak x.Ap,Ak x.As] (B_ [Ak x.Ap,Ak x.As] o) G) (Ar G) G G (Ad 4 G Aa) G fun P5 _ _=>?_;exact I4 (P5,_) [] 5 G G trivial
 generalize (Ai 2).2=Pd,(Ai 3).2=Mm,(Ai 5).2=Rz,(Ai 6).2=MQ,(Ai 7).2=PR,(Ai 8).1=P5,(Ai 8).2=Nq;have AB:(B_ [Ak x.Ap,Ak x.As] o)=Z:=by exact AW
 subst AB;exact Dz P5 G trivial G Aa
theorem yw(o:Cc)(v1:Value)(x:Bx)(Z:Cc)(AW:LO x o=Z):Aw AG 106 [ALM p 0,v1] [DG p nd o] [⟨v1,(Ak x)⟩] (fun(_:List Nat) _=>True) (fun y _=>[DG p y Z]) (fun _ _=>[]):=by
 refine Aw.proof Tryz.func106 G 37 G G fun X w=>Am<|AuR (ω:=List Nat×Value) [] [(0,[(8,.f1 8 fun BM=>[DG p BM.1 (B_ [Ak x.Ap,Ak x.As] o)])])] [(2,CC (Ak x)),(3,CC (Ak x.Ap)),(5,CC (Ak x)),(6,CC (Ak x.As)),(7,CC [Ak x.Ap,Ak x.As]),(8,K8 [0])] [] [0,1] (fun _=>G) (fun _=>G) (fun Ai AV Az=>⟨fun _=>Co 0 G G G<|CD [0] 0 G G,fun _=>CJ 0 Agl G G (BR G) G fun EZ=>CD [0] 2 G G,fun _=>Co 0 G G G<|CD [0] 0 G G,fun _=>CJ 0 Agm G G (BR G) G fun v10=>CD [0] 2 G G,fun _=>Kj [1,3] [Ak x.Ap,Ak x.As] HB G G G fun XT=>CD [0] 5 G G,fun _=>?_,trivial⟩) fun Ai _=>?_
 ·
  refine Ch 0 (AuS p _ o _ [Ak x.Ap,Ak x.As] (B_ [Ak x.Ap,Ak x.As] o) G) (Ar G) G G (Ad 4 G Aa) G fun P5 _ _=>?_;exact I4 (P5,_) [] 5 G G trivial
 generalize (Ai 2).2=Pd,(Ai 3).2=Mm,(Ai 5).2=Rz,(Ai 6).2=MQ,(Ai 7).2=PR,(Ai 8).1=P5,(Ai 8).2=Nq;refine A5<|Am<|AuR (ω:=List Nat×Value) [] [(0,[(8,.f1 8 fun BM=>[DG p BM.1 (E0 [Ak x.Al,Ak x.EL] (B_ [Ak x.Ap,Ak x.As] o))])])] [(2,CC (Ak x)),(3,CC (Ak x.Al)),(5,CC (Ak x)),(6,CC (Ak x.EL)),(7,CC [Ak x.Al,Ak x.EL]),(8,K8 [0])] [] [0,1] (fun _=>G) (fun _=>G) (fun Ai AV Az=>⟨fun _=>Co 5 G G G<|CD [5] 0 G G,fun _=>CJ 0 Agn G G (BR G) G fun Mn=>CD [0] 2 G G,fun _=>Co 5 G G G<|CD [5] 0 G G,fun _=>CJ 0 Ago G G (BR G) G fun KC=>CD [0] 2 G G,fun _=>Kj [1,3] [Ak x.Al,Ak x.EL] QO G G G fun hp=>CD [0] 5 G G,fun _=>?_,trivial⟩) fun Ai _=>?_
 ·
  refine Ch 0 (cL p _ (B_ [Ak x.Ap,Ak x.As] o) _ [Ak x.Al,Ak x.EL] (E0 [Ak x.Al,Ak x.EL] (B_ [Ak x.Ap,Ak x.As] o)) G) (Ar G) G G (Ad 4 G Aa) G fun Z4 _ _=>?_;exact I4 (Z4,_) [] 5 G G trivial
 generalize (Ai 2).2=Pd,(Ai 3).2=Mm,(Ai 5).2=Rz,(Ai 6).2=MQ,(Ai 7).2=PR,(Ai 8).1=Z4,(Ai 8).2=Nq;refine A5<|AuR (ω:=List Nat×Value) [] [(0,[(14,.f1 14 fun BM=>[DG p BM.1 (B_ [Ak x.B2,Ak x.DN,Ak x.DO,Ak x.C3] (E0 [Ak x.Al,Ak x.EL] (B_ [Ak x.Ap,Ak x.As] o)))])])] [(2,CC (Ak x)),(3,CC (Ak x.B2)),(5,CC (Ak x)),(6,CC (Ak x.DN)),(8,CC (Ak x)),(9,CC (Ak x.DO)),(11,CC (Ak x)),(12,CC (Ak x.C3)),(13,CC [Ak x.B2,Ak x.DN,Ak x.DO,Ak x.C3]),(14,K8 [0])] [] [] (fun _=>G) (fun _=>G) (fun Ai AV Az=>⟨fun _=>Co 10 G G G<|CD [10] 0 G G,fun _=>CJ 0 Agp G G (BR G) G fun T7=>CD [0] 2 G G,fun _=>Co 10 G G G<|CD [10] 0 G G,fun _=>CJ 0 Agq G G (BR G) G fun Pg=>CD [0] 2 G G,fun _=>Co 10 G G G<|CD [10] 0 G G,fun _=>CJ 0 Agr G G (BR G) G fun L5=>CD [0] 2 G G,fun _=>Co 10 G G G<|CD [10] 0 G G,fun _=>CJ 0 r_ G G (BR G) G fun Xm=>CD [0] 2 G G,fun _=>Kj [1,3,5,7] [Ak x.B2,Ak x.DN,Ak x.DO,Ak x.C3] HB G G G fun xm=>CD [0] 9 G G,fun _=>?_,trivial⟩) fun Ai _=>?_
 ·
  refine Ch 0 (AuS p _ (E0 [Ak x.Al,Ak x.EL] (B_ [Ak x.Ap,Ak x.As] o)) _ [Ak x.B2,Ak x.DN,Ak x.DO,Ak x.C3] (B_ [Ak x.B2,Ak x.DN,Ak x.DO,Ak x.C3] (E0 [Ak x.Al,Ak x.EL] (B_ [Ak x.Ap,Ak x.As] o))) G) (Ar G) G G (Ad 8 G Aa) G fun ht _ _=>?_;exact I4 (ht,_) [] 9 G G trivial
 generalize (Ai 2).2=Pd,(Ai 3).2=Mm,(Ai 5).2=Rz,(Ai 6).2=MQ,(Ai 8).2=Nq,(Ai 9).2=cP,(Ai 11).2=Vp,(Ai 12).2=cO,(Ai 13).2=me,(Ai 14).1=ht,(Ai 14).2=Xj;have AB:(B_ [Ak x.B2,Ak x.DN,Ak x.DO,Ak x.C3] (E0 [Ak x.Al,Ak x.EL] (B_ [Ak x.Ap,Ak x.As] o)))=Z:=by exact AW
 subst AB;exact Dz ht G trivial G Aa
theorem Ak6(o:Cc)(v1:Value)(x:BX)(Z:Cc)(AW:KV x o=Z):Aw AG 104 [ALM p 0,v1] [DG p nd o] [⟨v1,(Ak x)⟩] (fun(_:List Nat) _=>True) (fun y _=>[DG p y Z]) (fun _ _=>[]):=by
 refine Aw.proof Tryz.func104 G 27 G G fun X w=>Am<|AuR (ω:=List Nat×Value) [] [(0,[(17,.f1 17 fun BM=>[DG p BM.1 (B_ [Ak x.Ca,Ak x.Ap,Ak x.As,Ak x.Bn,Ak x.DH] o)])])] [(2,CC (Ak x)),(3,CC (Ak x.Ca)),(5,CC (Ak x)),(6,CC (Ak x.Ap)),(8,CC (Ak x)),(9,CC (Ak x.As)),(11,CC (Ak x)),(12,CC (Ak x.Bn)),(14,CC (Ak x)),(15,CC (Ak x.DH)),(16,CC [Ak x.Ca,Ak x.Ap,Ak x.As,Ak x.Bn,Ak x.DH]),(17,K8 [0])] [] [0,1] (fun _=>G) (fun _=>G) (fun Ai AV Az=>⟨fun _=>Co 0 G G G<|CD [0] 0 G G,fun _=>CJ 0 Ahb G G (BR G) G fun EZ=>CD [0] 2 G G,fun _=>Co 0 G G G<|CD [0] 0 G G,fun _=>CJ 0 Ahc G G (BR G) G fun v10=>CD [0] 2 G G,fun _=>Co 0 G G G<|CD [0] 0 G G,fun _=>CJ 0 Ahd G G (BR G) G fun RA=>CD [0] 2 G G,fun _=>Co 0 G G G<|CD [0] 0 G G,fun _=>CJ 0 Ahe G G (BR G) G fun Mn=>CD [0] 2 G G,fun _=>Co 0 G G G<|CD [0] 0 G G,fun _=>CJ 0 Ahf G G (BR G) G fun KC=>CD [0] 2 G G,fun _=>Kj [1,3,5,7,9] [Ak x.Ca,Ak x.Ap,Ak x.As,Ak x.Bn,Ak x.DH] HB G G G fun hp=>CD [0] 11 G G,fun _=>?_,trivial⟩) fun Ai _=>?_
 ·
  refine Ch 0 (AuS p _ o _ [Ak x.Ca,Ak x.Ap,Ak x.As,Ak x.Bn,Ak x.DH] (B_ [Ak x.Ca,Ak x.Ap,Ak x.As,Ak x.Bn,Ak x.DH] o) G) (Ar G) G G (Ad 10 G Aa) G fun Z4 _ _=>?_;exact I4 (Z4,_) [] 11 G G trivial
 generalize (Ai 2).2=Pd,(Ai 3).2=Mm,(Ai 5).2=Rz,(Ai 6).2=MQ,(Ai 8).2=Nq,(Ai 9).2=cP,(Ai 11).2=Vp,(Ai 12).2=cO,(Ai 14).2=Xj,(Ai 15).2=mf,(Ai 16).2=ua,(Ai 17).1=Z4,(Ai 17).2=Ako;refine A5<|rg<|U 2 G<|Co 11 G G G<|CJ 11 Ahg G G (BR G) G fun T7=>Ch 0 (AfB p _ (B_ [Ak x.Ca,Ak x.Ap,Ak x.As,Ak x.Bn,Ak x.DH] o) _ x.AM (Zv x.AM (B_ [Ak x.Ca,Ak x.Ap,Ak x.As,Ak x.Bn,Ak x.DH] o)) G) (Ar G) G G (Ad 0 G Aa) G fun VS _ _=>nl ?_;have AB:(Zv x.AM (B_ [Ak x.Ca,Ak x.Ap,Ak x.As,Ak x.Bn,Ak x.DH] o))=Z:=by exact AW
 subst AB;exact Dz VS G trivial G Aa
variable(p:Nat) (nd:List Nat)
theorem AdH(o:Cc)(v1:Value)(l:List BD)(Z:Cc)(AW:CH PY l o=Z):Aw AG 176 [ALM p 0,v1,.func (.func 177) #[ALM p 0] #[]] [DG p nd o] [⟨v1,(⟨l⟩:Cq (List BD))⟩] (fun(_:List Nat) _=>True) (fun y _=>[DG p y Z]) (fun _ _=>[]):=by
 refine Aw.proof Tryz.func176 G 80 G G fun X w=>Am<|Ae<|An G G<|Ch 0 (T2 p _ o) (Ar G) G G Aa G fun QR cN Ct=>?_;subst Ct;refine Ac<|BN G (fun Ct=>?_) (fun Ct=>?_)
 ·
  refine BA ?_;have AB:o=Z:=(by rw[<-AW,CH,AA_ Ct]);subst AB;exact Ej QR G trivial G Aa
 refine AZ<|Am<|Am<|L2 fun k Dk=>?_;refine rg<|AX 4 [0] G G<|Q1 ARM G G G<|Ac<|Mv G<|Am<|Ae<|An G G<|Co 0 G G G<|Le 0 G G (A2 G) G fun KC=>C2 0 G G ADN G fun U_=>U 1 G<|Ac<|B9 G (fun E1=>?_) (fun E1=>?_)
 ·
  refine Ae<|U 3 G<|Fi 0 G G G (A2 G) G (Da G)<|Ac<|BA<|Cd ?_;have AB:{o with E6:=true}=Z:=(by rw[<-AW,CH,AA9 (by rw[Ct];decide),AA_ AMT]);subst AB;exact Ng {o with E6:=true} k G Dk fun Hr=>Ej Hr G trivial G Aa
 refine AZ<|Am<|Mh o k G Dk fun VU=>rg<|U 2 G<|Co 1 G G G<|Le 1 G G (A2 G) G fun Pg=>C2 0 G G ADN G fun bx=>F0 ABc AC4 G (SI AMT AMT) G<|Dm (TG l.length AMT) (Ar G) G Aa G fun _ L5 _=>JO<|Ch 0 (Sv p _ o _ (GN l.length) (H4 (GN l.length) o) G) (Ar G) G G (Ad 0 G Aa) G fun QS _ _=>?_;refine Ac<|Am<|AF 1 G<|B5<|Hx (σ:=Nat×Cc×List Nat) [(0,_),(1,_),(2,_)] _ (fun s C=>(6,.int .i64 (s.1:Int))::C) (fun s=>[DG p s.2.2 s.2.1,CL X w]) (fun _ Dw=>Dw) (fun s=>s.1<=l.length/\MS PY (l.drop s.1) s.2.1=Z) (fun s=>l.length-s.1) (0,(H4 (GN l.length) o),QS) (Bs G) (Ad 3 G Aa) ⟨ABg _,by rw[<-AW,CH,AA9 (by rw[Ct];decide),AA9 AMT];rfl⟩ (Bs G) G (Ad 3 G Aa) ?_;rintro⟨i,Y,JG⟩ ⟨Ag,IZ⟩;simp only at Ag IZ;show CF _ _ _ [(6,.int .i64 ((i:Int))),(0,_),(1,_),(2,_)] [DG p JG Y,CL X w] _;refine Am<|Am<|L2 fun Nc M6=>?_;refine rg<|U 2 G<|Co 0 G G G<|Le 0 G G (A2 G) G fun SC=>C2 0 G G ADN G fun bz=>U 2 G<|Fu 39 6 [0] [0,1,2,6] G G G<|Ac<|BN G (fun EN=>?_) (fun EN=>?_)
 ·
  have Jw:=EN;rw[ABb,ABa,ABe]at Jw;obtain⟨q1,q2⟩:=Jw;have AJ:=AC1 (show i<l.length by omega);rw[<-Go.A_.G3 AMT]at AJ;have M8:=IZ;rw[AJ,MS,AA9 (by rw[q2];decide)]at M8;refine AZ<|Am<|B5<|Mh Y Nc G M6 fun VV=>rg<|U 2 G<|Co 1 G G G<|Le 1 G G (A2 G) G fun Xn=>An G G<|Qh 0 G G G I6 AMT (show l[((i:Nat):Int).toNat]? =some (l.getD i default)from by rw[ACS];exact Ly (d:=default) AMT) G fun cT=>Uv 0 (Ab5 p _ Y _ (l.getD i default) (PY (l.getD i default) Y) G) (Ar G) G G G G (Ad 0 G Aa) G fun K1 _ _=>nl<|CU<|A5<|rg<|An G G<|C5 G G BV G<|U 1 G<|nl ?_;exact Dy ((i+1,PY (l.getD i default) Y,K1):Nat×Cc×List Nat) ⟨by show i+1<=_;omega,M8⟩ (by show l.length-(i+1)<l.length-i;omega) (Bs G) G (Ad 3 G Aa)
 have Gg:l.drop i=[]\/Y.E6=true:=by
  rw[ACu,ABl]at EN;rcases EN with q|q
  · exact .inl (ACc AMT)
  exact .inr (by simpa using q)
 refine ex<|Ck<|Ck<|D7<|A5<|BA ?_;have AB:Y=Z:=by rw[<-IZ,Zu Gg]
 subst AB;exact Ng Y Nc G M6 fun Hr=>Ej Hr G trivial G Aa
theorem AdE(o:Cc)(v1:Value)(l:List Df)(Z:Cc)(AW:CH Mq l o=Z):Aw AG 107 [ALM p 0,v1,.func (.func 108) #[ALM p 0] #[]] [DG p nd o] [⟨v1,(⟨l⟩:Cq (List Df))⟩] (fun(_:List Nat) _=>True) (fun y _=>[DG p y Z]) (fun _ _=>[]):=by
 refine Aw.proof Tryz.func107 G 80 G G fun X w=>Am<|Ae<|An G G<|Ch 0 (T2 p _ o) (Ar G) G G Aa G fun QR cN Ct=>?_;subst Ct;refine Ac<|BN G (fun Ct=>?_) (fun Ct=>?_)
 ·
  refine BA ?_;have AB:o=Z:=(by rw[<-AW,CH,AA_ Ct]);subst AB;exact Ej QR G trivial G Aa
 refine AZ<|Am<|Am<|L2 fun k Dk=>?_;refine rg<|AX 4 [0] G G<|Q1 ARM G G G<|Ac<|Mv G<|Am<|Ae<|An G G<|Co 0 G G G<|Le 0 G G (A2 G) G fun KC=>C2 0 G G ARR G fun U_=>U 1 G<|Ac<|B9 G (fun E1=>?_) (fun E1=>?_)
 ·
  refine Ae<|U 3 G<|Fi 0 G G G (A2 G) G (Da G)<|Ac<|BA<|Cd ?_;have AB:{o with E6:=true}=Z:=(by rw[<-AW,CH,AA9 (by rw[Ct];decide),AA_ AMT]);subst AB;exact Ng {o with E6:=true} k G Dk fun Hr=>Ej Hr G trivial G Aa
 refine AZ<|Am<|Mh o k G Dk fun VU=>rg<|U 2 G<|Co 1 G G G<|Le 1 G G (A2 G) G fun Pg=>C2 0 G G ARR G fun bx=>F0 ABc AC4 G (SI AMT AMT) G<|Dm (TG l.length AMT) (Ar G) G Aa G fun _ L5 _=>JO<|Ch 0 (Sv p _ o _ (GN l.length) (H4 (GN l.length) o) G) (Ar G) G G (Ad 0 G Aa) G fun QS _ _=>?_;refine Ac<|Am<|AF 1 G<|B5<|Hx (σ:=Nat×Cc×List Nat) [(0,_),(1,_),(2,_)] _ (fun s C=>(6,.int .i64 (s.1:Int))::C) (fun s=>[DG p s.2.2 s.2.1,CL X w]) (fun _ Dw=>Dw) (fun s=>s.1<=l.length/\MS Mq (l.drop s.1) s.2.1=Z) (fun s=>l.length-s.1) (0,(H4 (GN l.length) o),QS) (Bs G) (Ad 3 G Aa) ⟨ABg _,by rw[<-AW,CH,AA9 (by rw[Ct];decide),AA9 AMT];rfl⟩ (Bs G) G (Ad 3 G Aa) ?_;rintro⟨i,Y,JG⟩ ⟨Ag,IZ⟩;simp only at Ag IZ;show CF _ _ _ [(6,.int .i64 ((i:Int))),(0,_),(1,_),(2,_)] [DG p JG Y,CL X w] _;refine Am<|Am<|L2 fun Nc M6=>?_;refine rg<|U 2 G<|Co 0 G G G<|Le 0 G G (A2 G) G fun SC=>C2 0 G G ARR G fun bz=>U 2 G<|Fu 39 6 [0] [0,1,2,6] G G G<|Ac<|BN G (fun EN=>?_) (fun EN=>?_)
 ·
  have Jw:=EN;rw[ABb,ABa,ABe]at Jw;obtain⟨q1,q2⟩:=Jw;have AJ:=AC1 (show i<l.length by omega);rw[<-Go.A_.G3 AMT]at AJ;have M8:=IZ;rw[AJ,MS,AA9 (by rw[q2];decide)]at M8;refine AZ<|Am<|B5<|Mh Y Nc G M6 fun VV=>rg<|U 2 G<|Co 1 G G G<|Le 1 G G (A2 G) G fun Xn=>An G G<|Qh 0 G G G Ky AMT (show l[((i:Nat):Int).toNat]? =some (l.getD i default)from by rw[ACS];exact Ly (d:=default) AMT) G fun cT=>Uv 0 (y4 p _ Y _ (l.getD i default) (Mq (l.getD i default) Y) G) (Ar G) G G G G (Ad 0 G Aa) G fun K1 _ _=>nl<|CU<|A5<|rg<|An G G<|C5 G G BV G<|U 1 G<|nl ?_;exact Dy ((i+1,Mq (l.getD i default) Y,K1):Nat×Cc×List Nat) ⟨by show i+1<=_;omega,M8⟩ (by show l.length-(i+1)<l.length-i;omega) (Bs G) G (Ad 3 G Aa)
 have Gg:l.drop i=[]\/Y.E6=true:=by
  rw[ACu,ABl]at EN;rcases EN with q|q
  · exact .inl (ACc AMT)
  exact .inr (by simpa using q)
 refine ex<|Ck<|Ck<|D7<|A5<|BA ?_;have AB:Y=Z:=by rw[<-IZ,Zu Gg]
 subst AB;exact Ng Y Nc G M6 fun Hr=>Ej Hr G trivial G Aa
theorem AdB(o:Cc)(v1:Value)(l:List Bx)(Z:Cc)(AW:CH LO l o=Z):Aw AG 105 [ALM p 0,v1,.func (.func 106) #[ALM p 0] #[]] [DG p nd o] [⟨v1,(⟨l⟩:Cq (List Bx))⟩] (fun(_:List Nat) _=>True) (fun y _=>[DG p y Z]) (fun _ _=>[]):=by
 refine Aw.proof Tryz.func105 G 80 G G fun X w=>Am<|Ae<|An G G<|Ch 0 (T2 p _ o) (Ar G) G G Aa G fun QR cN Ct=>?_;subst Ct;refine Ac<|BN G (fun Ct=>?_) (fun Ct=>?_)
 ·
  refine BA ?_;have AB:o=Z:=(by rw[<-AW,CH,AA_ Ct]);subst AB;exact Ej QR G trivial G Aa
 refine AZ<|Am<|Am<|L2 fun k Dk=>?_;refine rg<|AX 4 [0] G G<|Q1 ARM G G G<|Ac<|Mv G<|Am<|Ae<|An G G<|Co 0 G G G<|Le 0 G G (A2 G) G fun KC=>C2 0 G G ARN G fun U_=>U 1 G<|Ac<|B9 G (fun E1=>?_) (fun E1=>?_)
 ·
  refine Ae<|U 3 G<|Fi 0 G G G (A2 G) G (Da G)<|Ac<|BA<|Cd ?_;have AB:{o with E6:=true}=Z:=(by rw[<-AW,CH,AA9 (by rw[Ct];decide),AA_ AMT]);subst AB;exact Ng {o with E6:=true} k G Dk fun Hr=>Ej Hr G trivial G Aa
 refine AZ<|Am<|Mh o k G Dk fun VU=>rg<|U 2 G<|Co 1 G G G<|Le 1 G G (A2 G) G fun Pg=>C2 0 G G ARN G fun bx=>F0 ABc AC4 G (SI AMT AMT) G<|Dm (TG l.length AMT) (Ar G) G Aa G fun _ L5 _=>JO<|Ch 0 (Sv p _ o _ (GN l.length) (H4 (GN l.length) o) G) (Ar G) G G (Ad 0 G Aa) G fun QS _ _=>?_;refine Ac<|Am<|AF 1 G<|B5<|Hx (σ:=Nat×Cc×List Nat) [(0,_),(1,_),(2,_)] _ (fun s C=>(6,.int .i64 (s.1:Int))::C) (fun s=>[DG p s.2.2 s.2.1,CL X w]) (fun _ Dw=>Dw) (fun s=>s.1<=l.length/\MS LO (l.drop s.1) s.2.1=Z) (fun s=>l.length-s.1) (0,(H4 (GN l.length) o),QS) (Bs G) (Ad 3 G Aa) ⟨ABg _,by rw[<-AW,CH,AA9 (by rw[Ct];decide),AA9 AMT];rfl⟩ (Bs G) G (Ad 3 G Aa) ?_;rintro⟨i,Y,JG⟩ ⟨Ag,IZ⟩;simp only at Ag IZ;show CF _ _ _ [(6,.int .i64 ((i:Int))),(0,_),(1,_),(2,_)] [DG p JG Y,CL X w] _;refine Am<|Am<|L2 fun Nc M6=>?_;refine rg<|U 2 G<|Co 0 G G G<|Le 0 G G (A2 G) G fun SC=>C2 0 G G ARN G fun bz=>U 2 G<|Fu 39 6 [0] [0,1,2,6] G G G<|Ac<|BN G (fun EN=>?_) (fun EN=>?_)
 ·
  have Jw:=EN;rw[ABb,ABa,ABe]at Jw;obtain⟨q1,q2⟩:=Jw;have AJ:=AC1 (show i<l.length by omega);rw[<-Go.A_.G3 AMT]at AJ;have M8:=IZ;rw[AJ,MS,AA9 (by rw[q2];decide)]at M8;refine AZ<|Am<|B5<|Mh Y Nc G M6 fun VV=>rg<|U 2 G<|Co 1 G G G<|Le 1 G G (A2 G) G fun Xn=>An G G<|Qh 0 G G G Ox AMT (show l[((i:Nat):Int).toNat]? =some (l.getD i default)from by rw[ACS];exact Ly (d:=default) AMT) G fun cT=>Uv 0 (yw p _ Y _ (l.getD i default) (LO (l.getD i default) Y) G) (Ar G) G G G G (Ad 0 G Aa) G fun K1 _ _=>nl<|CU<|A5<|rg<|An G G<|C5 G G BV G<|U 1 G<|nl ?_;exact Dy ((i+1,LO (l.getD i default) Y,K1):Nat×Cc×List Nat) ⟨by show i+1<=_;omega,M8⟩ (by show l.length-(i+1)<l.length-i;omega) (Bs G) G (Ad 3 G Aa)
 have Gg:l.drop i=[]\/Y.E6=true:=by
  rw[ACu,ABl]at EN;rcases EN with q|q
  · exact .inl (ACc AMT)
  exact .inr (by simpa using q)
 refine ex<|Ck<|Ck<|D7<|A5<|BA ?_;have AB:Y=Z:=by rw[<-IZ,Zu Gg]
 subst AB;exact Ng Y Nc G M6 fun Hr=>Ej Hr G trivial G Aa
theorem AdQ(o:Cc)(v1:Value)(l:List BX)(Z:Cc)(AW:CH KV l o=Z):Aw AG 103 [ALM p 0,v1,.func (.func 104) #[ALM p 0] #[]] [DG p nd o] [⟨v1,(⟨l⟩:Cq (List BX))⟩] (fun(_:List Nat) _=>True) (fun y _=>[DG p y Z]) (fun _ _=>[]):=by
 refine Aw.proof Tryz.func103 G 80 G G fun X w=>Am<|Ae<|An G G<|Ch 0 (T2 p _ o) (Ar G) G G Aa G fun QR cN Ct=>?_;subst Ct;refine Ac<|BN G (fun Ct=>?_) (fun Ct=>?_)
 ·
  refine BA ?_;have AB:o=Z:=(by rw[<-AW,CH,AA_ Ct]);subst AB;exact Ej QR G trivial G Aa
 refine AZ<|Am<|Am<|L2 fun k Dk=>?_;refine rg<|AX 4 [0] G G<|Q1 ARM G G G<|Ac<|Mv G<|Am<|Ae<|An G G<|Co 0 G G G<|Le 0 G G (A2 G) G fun KC=>C2 0 G G ARQ G fun U_=>U 1 G<|Ac<|B9 G (fun E1=>?_) (fun E1=>?_)
 ·
  refine Ae<|U 3 G<|Fi 0 G G G (A2 G) G (Da G)<|Ac<|BA<|Cd ?_;have AB:{o with E6:=true}=Z:=(by rw[<-AW,CH,AA9 (by rw[Ct];decide),AA_ AMT]);subst AB;exact Ng {o with E6:=true} k G Dk fun Hr=>Ej Hr G trivial G Aa
 refine AZ<|Am<|Mh o k G Dk fun VU=>rg<|U 2 G<|Co 1 G G G<|Le 1 G G (A2 G) G fun Pg=>C2 0 G G ARQ G fun bx=>F0 ABc AC4 G (SI AMT AMT) G<|Dm (TG l.length AMT) (Ar G) G Aa G fun _ L5 _=>JO<|Ch 0 (Sv p _ o _ (GN l.length) (H4 (GN l.length) o) G) (Ar G) G G (Ad 0 G Aa) G fun QS _ _=>?_;refine Ac<|Am<|AF 1 G<|B5<|Hx (σ:=Nat×Cc×List Nat) [(0,_),(1,_),(2,_)] _ (fun s C=>(6,.int .i64 (s.1:Int))::C) (fun s=>[DG p s.2.2 s.2.1,CL X w]) (fun _ Dw=>Dw) (fun s=>s.1<=l.length/\MS KV (l.drop s.1) s.2.1=Z) (fun s=>l.length-s.1) (0,(H4 (GN l.length) o),QS) (Bs G) (Ad 3 G Aa) ⟨ABg _,by rw[<-AW,CH,AA9 (by rw[Ct];decide),AA9 AMT];rfl⟩ (Bs G) G (Ad 3 G Aa) ?_;rintro⟨i,Y,JG⟩ ⟨Ag,IZ⟩;simp only at Ag IZ;show CF _ _ _ [(6,.int .i64 ((i:Int))),(0,_),(1,_),(2,_)] [DG p JG Y,CL X w] _;refine Am<|Am<|L2 fun Nc M6=>?_;refine rg<|U 2 G<|Co 0 G G G<|Le 0 G G (A2 G) G fun SC=>C2 0 G G ARQ G fun bz=>U 2 G<|Fu 39 6 [0] [0,1,2,6] G G G<|Ac<|BN G (fun EN=>?_) (fun EN=>?_)
 ·
  have Jw:=EN;rw[ABb,ABa,ABe]at Jw;obtain⟨q1,q2⟩:=Jw;have AJ:=AC1 (show i<l.length by omega);rw[<-Go.A_.G3 AMT]at AJ;have M8:=IZ;rw[AJ,MS,AA9 (by rw[q2];decide)]at M8;refine AZ<|Am<|B5<|Mh Y Nc G M6 fun VV=>rg<|U 2 G<|Co 1 G G G<|Le 1 G G (A2 G) G fun Xn=>An G G<|Qh 0 G G G N0 AMT (show l[((i:Nat):Int).toNat]? =some (l.getD i default)from by rw[ACS];exact Ly (d:=default) AMT) G fun cT=>Uv 0 (Ak6 p _ Y _ (l.getD i default) (KV (l.getD i default) Y) G) (Ar G) G G G G (Ad 0 G Aa) G fun K1 _ _=>nl<|CU<|A5<|rg<|An G G<|C5 G G BV G<|U 1 G<|nl ?_;exact Dy ((i+1,KV (l.getD i default) Y,K1):Nat×Cc×List Nat) ⟨by show i+1<=_;omega,M8⟩ (by show l.length-(i+1)<l.length-i;omega) (Bs G) G (Ad 3 G Aa)
 have Gg:l.drop i=[]\/Y.E6=true:=by
  rw[ACu,ABl]at EN;rcases EN with q|q
  · exact .inl (ACc AMT)
  exact .inr (by simpa using q)
 refine ex<|Ck<|Ck<|D7<|A5<|BA ?_;have AB:Y=Z:=by rw[<-IZ,Zu Gg]
 subst AB;exact Ng Y Nc G M6 fun Hr=>Ej Hr G trivial G Aa
theorem wO(o:Cc)(v1:Value)(x:AD)(Z:Cc)(AW:I_ x o=Z):Aw AG 100 [ALM p 0,v1] [DG p nd o] [⟨v1,(Ak x)⟩] (fun(_:List Nat) _=>True) (fun y _=>[DG p y Z]) (fun _ _=>[]):=by
 refine Aw.proof Tryz.func100 G 53 G G fun X w=>Ae<|U 2 G<|Co 0 G G G<|CJ 0 kM G G (BR G) G fun EZ=>Kj [0] [Ak x.Al] QO G G G fun K0=>Ch 0 (cL p _ o _ [Ak x.Al] (E0 [Ak x.Al] o) G) (Ar G) G G (Ad 0 G Aa) G fun xC _ _=>Ac<|Am<|AuR (ω:=List Nat×Value) [] [(0,[(16,.f1 16 fun BM=>[DG p BM.1 (B_ [Ak x.Cs.A6,Ak x.Cs.Bc,Ak x.BT,Ak x.Cn] (E0 [Ak x.Al] o))])])] [(2,CC (Ak x)),(3,CC (Ak x.Cs)),(4,CC (Ak x.Cs.A6)),(6,CC (Ak x)),(7,CC (Ak x.Cs)),(8,CC (Ak x.Cs.Bc)),(10,CC (Ak x)),(11,CC (Ak x.BT)),(13,CC (Ak x)),(14,CC (Ak x.Cn)),(15,CC [Ak x.Cs.A6,Ak x.Cs.Bc,Ak x.BT,Ak x.Cn]),(16,K8 [0])] [] [0,1] (fun _=>G) (fun _=>G) (fun Ai AV Az=>⟨fun _=>Co 2 G G G<|CD [2] 0 G G,fun _=>CJ 0 r9 G G (BR G) G fun RA=>CD [0] 2 G G,fun _=>CJ 1 Ag' G G (BR G) G fun PS=>CD [0] 3 G G,fun _=>Co 2 G G G<|CD [2] 0 G G,fun _=>CJ 0 r9 G G (BR G) G fun T6=>CD [0] 2 G G,fun _=>CJ 1 Aha G G (BR G) G fun Zq=>CD [0] 3 G G,fun _=>Co 2 G G G<|CD [2] 0 G G,fun _=>CJ 0 Agc G G (BR G) G fun SB=>CD [0] 2 G G,fun _=>Co 2 G G G<|CD [2] 0 G G,fun _=>CJ 0 Agd G G (BR G) G fun Xl=>CD [0] 2 G G,fun _=>Kj [2,5,7,9] [Ak x.Cs.A6,Ak x.Cs.Bc,Ak x.BT,Ak x.Cn] HB G G G fun xk=>CD [0] 11 G G,fun _=>?_,trivial⟩) fun Ai _=>?_
 ·
  refine Ch 0 (AuS p _ (E0 [Ak x.Al] o) _ [Ak x.Cs.A6,Ak x.Cs.Bc,Ak x.BT,Ak x.Cn] (B_ [Ak x.Cs.A6,Ak x.Cs.Bc,Ak x.BT,Ak x.Cn] (E0 [Ak x.Al] o)) G) (Ar G) G G (Ad 10 G Aa) G fun VS _ _=>?_;exact I4 (VS,_) [] 11 G G trivial
 generalize (Ai 2).2=Pd,(Ai 3).2=Mm,(Ai 4).2=ub,(Ai 6).2=MQ,(Ai 7).2=PR,(Ai 8).2=Nq,(Ai 10).2=Vo,(Ai 11).2=Vp,(Ai 13).2=me,(Ai 14).2=Xj,(Ai 15).2=mf,(Ai 16).1=VS,(Ai 16).2=ua;refine A5<|Ae<|U 2 G<|Co 13 G G G<|CJ 13 Age G G (BR G) G fun v30=>An G G<|Ql (ys:=[.tmp 31]) (xs:=[]) G G G<|Ch 0 (AdH p _ (B_ [Ak x.Cs.A6,Ak x.Cs.Bc,Ak x.BT,Ak x.Cn] (E0 [Ak x.Al] o)) _ x.A0 (CH PY x.A0 (B_ [Ak x.Cs.A6,Ak x.Cs.Bc,Ak x.BT,Ak x.Cn] (E0 [Ak x.Al] o))) G) (Ar G) G G (Ad 0 G Aa) G fun dE _ _=>?_;refine Ac<|AuR (ω:=List Nat×Value) [] [(0,[(18,.f1 18 fun BM=>[DG p BM.1 (B_ [Ak x.BG.Ap,Ak x.BG.As,Ak x.BG.DH,Ak x.BG.B2] (CH PY x.A0 (B_ [Ak x.Cs.A6,Ak x.Cs.Bc,Ak x.BT,Ak x.Cn] (E0 [Ak x.Al] o))))])])] [(2,CC (Ak x)),(3,CC (Ak x.BG)),(4,CC (Ak x.BG.Ap)),(6,CC (Ak x)),(7,CC (Ak x.BG)),(8,CC (Ak x.BG.As)),(10,CC (Ak x)),(11,CC (Ak x.BG)),(12,CC (Ak x.BG.DH)),(14,CC (Ak x)),(15,CC (Ak x.BG)),(16,CC (Ak x.BG.B2)),(17,CC [Ak x.BG.Ap,Ak x.BG.As,Ak x.BG.DH,Ak x.BG.B2]),(18,K8 [0])] [] [] (fun _=>G) (fun _=>G) (fun Ai AV Az=>⟨fun _=>Co 14 G G G<|CD [14] 0 G G,fun _=>CJ 0 fv G G (BR G) G fun gA=>CD [0] 2 G G,fun _=>CJ 1 Agx G G (BR G) G fun PT=>CD [0] 3 G G,fun _=>Co 14 G G G<|CD [14] 0 G G,fun _=>CJ 0 fv G G (BR G) G fun AkF=>CD [0] 2 G G,fun _=>CJ 1 Agy G G (BR G) G fun ml=>CD [0] 3 G G,fun _=>Co 14 G G G<|CD [14] 0 G G,fun _=>CJ 0 fv G G (BR G) G fun mm=>CD [0] 2 G G,fun _=>CJ 1 Agz G G (BR G) G fun gB=>CD [0] 3 G G,fun _=>Co 14 G G G<|CD [14] 0 G G,fun _=>CJ 0 fv G G (BR G) G fun AoN=>CD [0] 2 G G,fun _=>CJ 1 AgA G G (BR G) G fun uf=>CD [0] 3 G G,fun _=>Kj [2,5,8,11] [Ak x.BG.Ap,Ak x.BG.As,Ak x.BG.DH,Ak x.BG.B2] HB G G G fun Aml=>CD [0] 13 G G,fun _=>?_,trivial⟩) fun Ai _=>?_
 ·
  refine Ch 0 (AuS p _ (CH PY x.A0 (B_ [Ak x.Cs.A6,Ak x.Cs.Bc,Ak x.BT,Ak x.Cn] (E0 [Ak x.Al] o))) _ [Ak x.BG.Ap,Ak x.BG.As,Ak x.BG.DH,Ak x.BG.B2] (B_ [Ak x.BG.Ap,Ak x.BG.As,Ak x.BG.DH,Ak x.BG.B2] (CH PY x.A0 (B_ [Ak x.Cs.A6,Ak x.Cs.Bc,Ak x.BT,Ak x.Cn] (E0 [Ak x.Al] o)))) G) (Ar G) G G (Ad 12 G Aa) G fun hx _ _=>?_;exact I4 (hx,_) [] 13 G G trivial
 generalize (Ai 2).2=Pd,(Ai 3).2=Mm,(Ai 4).2=ub,(Ai 6).2=MQ,(Ai 7).2=PR,(Ai 8).2=Nq,(Ai 10).2=Vo,(Ai 11).2=Vp,(Ai 12).2=cO,(Ai 14).2=Xj,(Ai 15).2=mf,(Ai 16).2=ua,(Ai 17).2=Ako,(Ai 18).1=hx,(Ai 18).2=Akp;have AB:(B_ [Ak x.BG.Ap,Ak x.BG.As,Ak x.BG.DH,Ak x.BG.B2] (CH PY x.A0 (B_ [Ak x.Cs.A6,Ak x.Cs.Bc,Ak x.BT,Ak x.Cn] (E0 [Ak x.Al] o))))=Z:=by exact AW
 subst AB;exact Dz hx G trivial G Aa
theorem Ady(o:Cc)(v1:Value)(l:List AD)(Z:Cc)(AW:CH I_ l o=Z):Aw AG 99 [ALM p 0,v1,.func (.func 100) #[ALM p 0] #[]] [DG p nd o] [⟨v1,(⟨l⟩:Cq (List AD))⟩] (fun(_:List Nat) _=>True) (fun y _=>[DG p y Z]) (fun _ _=>[]):=by
 refine Aw.proof Tryz.func99 G 80 G G fun X w=>Am<|Ae<|An G G<|Ch 0 (T2 p _ o) (Ar G) G G Aa G fun QR cN Ct=>?_;subst Ct;refine Ac<|BN G (fun Ct=>?_) (fun Ct=>?_)
 ·
  refine BA ?_;have AB:o=Z:=(by rw[<-AW,CH,AA_ Ct]);subst AB;exact Ej QR G trivial G Aa
 refine AZ<|Am<|Am<|L2 fun k Dk=>?_;refine rg<|AX 4 [0] G G<|Q1 ARM G G G<|Ac<|Mv G<|Am<|Ae<|An G G<|Co 0 G G G<|Le 0 G G (A2 G) G fun KC=>C2 0 G G ARL G fun U_=>U 1 G<|Ac<|B9 G (fun E1=>?_) (fun E1=>?_)
 ·
  refine Ae<|U 3 G<|Fi 0 G G G (A2 G) G (Da G)<|Ac<|BA<|Cd ?_;have AB:{o with E6:=true}=Z:=(by rw[<-AW,CH,AA9 (by rw[Ct];decide),AA_ AMT]);subst AB;exact Ng {o with E6:=true} k G Dk fun Hr=>Ej Hr G trivial G Aa
 refine AZ<|Am<|Mh o k G Dk fun VU=>rg<|U 2 G<|Co 1 G G G<|Le 1 G G (A2 G) G fun Pg=>C2 0 G G ARL G fun bx=>F0 ABc AC4 G (SI AMT AMT) G<|Dm (TG l.length AMT) (Ar G) G Aa G fun _ L5 _=>JO<|Ch 0 (Sv p _ o _ (GN l.length) (H4 (GN l.length) o) G) (Ar G) G G (Ad 0 G Aa) G fun QS _ _=>?_;refine Ac<|Am<|AF 1 G<|B5<|Hx (σ:=Nat×Cc×List Nat) [(0,_),(1,_),(2,_)] _ (fun s C=>(6,.int .i64 (s.1:Int))::C) (fun s=>[DG p s.2.2 s.2.1,CL X w]) (fun _ Dw=>Dw) (fun s=>s.1<=l.length/\MS I_ (l.drop s.1) s.2.1=Z) (fun s=>l.length-s.1) (0,(H4 (GN l.length) o),QS) (Bs G) (Ad 3 G Aa) ⟨ABg _,by rw[<-AW,CH,AA9 (by rw[Ct];decide),AA9 AMT];rfl⟩ (Bs G) G (Ad 3 G Aa) ?_;rintro⟨i,Y,JG⟩ ⟨Ag,IZ⟩;simp only at Ag IZ;show CF _ _ _ [(6,.int .i64 ((i:Int))),(0,_),(1,_),(2,_)] [DG p JG Y,CL X w] _;refine Am<|Am<|L2 fun Nc M6=>?_;refine rg<|U 2 G<|Co 0 G G G<|Le 0 G G (A2 G) G fun SC=>C2 0 G G ARL G fun bz=>U 2 G<|Fu 39 6 [0] [0,1,2,6] G G G<|Ac<|BN G (fun EN=>?_) (fun EN=>?_)
 ·
  have Jw:=EN;rw[ABb,ABa,ABe]at Jw;obtain⟨q1,q2⟩:=Jw;have AJ:=AC1 (show i<l.length by omega);rw[<-Go.A_.G3 AMT]at AJ;have M8:=IZ;rw[AJ,MS,AA9 (by rw[q2];decide)]at M8;refine AZ<|Am<|B5<|Mh Y Nc G M6 fun VV=>rg<|U 2 G<|Co 1 G G G<|Le 1 G G (A2 G) G fun Xn=>An G G<|Qh 0 G G G Gt AMT (show l[((i:Nat):Int).toNat]? =some (l.getD i default)from by rw[ACS];exact Ly (d:=default) AMT) G fun cT=>Uv 0 (wO p _ Y _ (l.getD i default) (I_ (l.getD i default) Y) G) (Ar G) G G G G (Ad 0 G Aa) G fun K1 _ _=>nl<|CU<|A5<|rg<|An G G<|C5 G G BV G<|U 1 G<|nl ?_;exact Dy ((i+1,I_ (l.getD i default) Y,K1):Nat×Cc×List Nat) ⟨by show i+1<=_;omega,M8⟩ (by show l.length-(i+1)<l.length-i;omega) (Bs G) G (Ad 3 G Aa)
 have Gg:l.drop i=[]\/Y.E6=true:=by
  rw[ACu,ABl]at EN;rcases EN with q|q
  · exact .inl (ACc AMT)
  exact .inr (by simpa using q)
 refine ex<|Ck<|Ck<|D7<|A5<|BA ?_;have AB:Y=Z:=by rw[<-IZ,Zu Gg]
 subst AB;exact Ng Y Nc G M6 fun Hr=>Ej Hr G trivial G Aa
end Go.Apw
namespace Go.A_
open Go.RowKit
section
structure QH where
instance W':Be QH where
 size:=1
 agg:=false
 rd S w cs _:=∃b o,cs=[.pointer (some ⟨b,o,none⟩)]/\S b/\∃c T,w.heap[b]? =some (.cells c T (0,0))
 len:=by rintro S w cs x ⟨b,o,rfl,_⟩;rfl
 one:=by rintro S w cs x ⟨b,o,rfl,_⟩ u hu;simp at hu;rw[hu];rfl
 DY:=by
  rintro S Fq w AT cs x ⟨b,o,rfl,Af,c,T,h2⟩ hs hw;exact⟨b,o,rfl,hs b Af,c,T,by rw[hw b Af];exact h2⟩
structure Kg where
instance Vg:Be Kg where
 size:=1
 agg:=false
 rd S w cs _:=∃A n k,cs=[.slice A n k]/\∀b o q,A=some ⟨b,o,q⟩->S b/\∃c T,w.heap[b]? =some (.cells c T (0,0))
 len:=by rintro S w cs x ⟨A,n,k,rfl,_⟩;rfl
 one:=by rintro S w cs x ⟨A,n,k,rfl,_⟩ u hu;simp at hu;rw[hu];rfl
 DY:=by
  rintro S Fq w AT cs x ⟨A,n,k,rfl,h⟩ hs hw;exact⟨A,n,k,rfl,fun b o q e=>(fun Af:S b/\_=>⟨hs b Af.1,by rw[hw b Af.1];exact Af.2⟩) (h b o q e)⟩
theorem rJ{S:Nat->Prop}{w:World}{v:Value}{x:QH}(h:Atom.holds (@Atom.mk QH W' v x) S w):∃b o,v=.pointer (some ⟨b,o,none⟩)/\S b/\∃c T,w.heap[b]? =some (.cells c T (0,0)):=by
 obtain⟨AK,b,o,BC,Af,h2⟩:=h;simp only at BC AK;rw[NC AK]at BC;exact⟨b,o,by simpa using BC,Af,h2⟩
theorem Aez{S:Nat->Prop}{w:World}{v:Value}{x:Kg}(h:Atom.holds (@Atom.mk Kg Vg v x) S w):∃A n k,v=.slice A n k/\∀b o q,A=some ⟨b,o,q⟩->S b/\∃c T,w.heap[b]? =some (.cells c T (0,0)):=by
 obtain⟨AK,A,n,k,BC,Af⟩:=h;simp only at BC AK;rw[NC AK]at BC;exact⟨A,n,k,by simpa using BC,Af⟩
theorem lk{α:Type}{r:Be α}{e:TypeId}{Bk:Value}{xs:List α}{S Fq:Nat->Prop}{w:World}(h:(@row α r e Bk xs).holds S w)(Aq:∀b∈Bk.ownBlock.toList,Fq b):Atom.holds (@Atom.mk Kg Vg Bk ⟨⟩) Fq w:=by
 obtain⟨Cy,G8,Ep,AN⟩:=h;rcases G8.2 with⟨rfl,Ao⟩|⟨g,cap,cur,rfl,_,CK,Tt,Wp,I0,Md⟩
 · exact⟨rfl,none,0,0,rfl,fun _ _ _ e=>by cases e⟩
 refine⟨rfl,some ⟨g,0,none⟩,_,_,rfl,fun b o q e=>?_⟩;injection e with e;injection e with B4 DC Kk;subst B4;exact⟨Aq _ (by simp[Value.ownBlock]),cur,_,by simpa using CK⟩
theorem zX{α:Type}{r:Be α}{c:Cj}{Q:AuE}{env:Env}{L:Own}{D:List Atom}{KE:Code}{e:TypeId}{Bk:Value}{xs:List α}(k:CF c KE Q env L ((@Atom.mk (List α) (@FI α r) Bk xs)::(@Atom.mk Kg Vg Bk ⟨⟩)::D)):CF c KE Q env (@row α r e Bk xs::L) D:=
 fun a w f st AR=>k a w f st.drop (BP.cons (st.freeze fun _ Aq BO h=>Xb h BO Aq) (BP.cons (st.freeze fun _ Aq _ h=>lk h Aq) AR.drop))
theorem o4{α:Type}{r:Be α}{c:Cj}{ops:Array Oper}{Q:AuE}{env:Env}{L:Own}{D:List Atom}{l:List Oper}{e:TypeId}{Bk:Value}{xs:List α}(k:Cb Q c ops l env L ((@Atom.mk (List α) (@FI α r) Bk xs)::(@Atom.mk Kg Vg Bk ⟨⟩)::D)):Cb Q c ops l env (@row α r e Bk xs::L) D:=
 fun a w f st AR=>k a w f st.drop (BP.cons (st.freeze fun _ Aq BO h=>Xb h BO Aq) (BP.cons (st.freeze fun _ Aq _ h=>lk h Aq) AR.drop))
theorem zY{α:Type}{r:Be α}{c:Cj}{Q:AuE}{env:Env}{L:Own}{D:List Atom}{ar:Exit}{e:TypeId}{Bk:Value}{xs:List α}(k:Eg c Q ar env L ((@Atom.mk (List α) (@FI α r) Bk xs)::(@Atom.mk Kg Vg Bk ⟨⟩)::D)):Eg c Q ar env (@row α r e Bk xs::L) D:=
 fun a w f st AR=>k a w f st.drop (BP.cons (st.freeze fun _ Aq BO h=>Xb h BO Aq) (BP.cons (st.freeze fun _ Aq _ h=>lk h Aq) AR.drop))
section
variable{c:Cj} {ops:Array Oper} {J:Cj->Array Oper->List Oper->Env->Own->List Atom->Prop} [Dr:Ip J] {env:Env} {L:Own} {D:List Atom} {rest:List Oper} {d:Nat} {t:TypeId} {p:String} {af:Array Edge} {x y:Operand}
include Dr
theorem AcW{α:Type}{r:Be α}(i FV:Nat){xs:List α}{e:α}{Bk:Value}{m:Int}{T:TypeId}{E:TypeId}(Ab:AL env x=some Bk)(Cl:D[i]? =some (@Atom.mk (List α) (@FI α r) Bk xs))(Ew:D[FV]? =some (@Atom.mk Kg Vg Bk ⟨⟩))(Bf:AL env y=some (.int .i64 m))(Av:H5 c.P T E r.size)
 (Bw:0<=m)(he:xs[m.toNat]? =some e)(Ao:Nat.blt d c.n=true)(k:∀u,J c ops rest ((d,u)::env) L ((@Atom.mk (Cq α) (@F9 α r) u ⟨e⟩)::(@Atom.mk QH W' u ⟨⟩)::D)):
 J c ops (⟨some d,.indexAddr T x y,t,p,af,none⟩::rest) env L D:=
 Dr.read (σ:=Value) rfl rfl (fun u=>(d,u)::env) (fun u=>(@Atom.mk (Cq α) (@F9 α r) u ⟨e⟩)::(@Atom.mk QH W' u ⟨⟩)::D) (fun a w f st AR=>by
  obtain⟨AK,A,Dc,EX,Af,h2,Bo,BB⟩:=AR.at_ i Cl;simp only at EX AK;rw[NC AK]at EX;have EX:Bk=.slice A xs.length Dc:=(by simpa using EX);subst EX;have C_:m.toNat<xs.length:=(ABF.1 he).1;obtain⟨b,o,rfl,Aq,Ag⟩:=BB (by intro h;have h:xs=[]:=h;rw[h]at C_;simp at C_);obtain⟨Cx,Ep,AN⟩:=Ag _ _ he;obtain⟨j,Ay,hs⟩:=ACr.1 Av.2;obtain⟨Vx,An4,Gh,B4,DC⟩:=Aez (AR.at_ FV Ew);injection B4 with B4;obtain⟨_,Bm⟩:=DC b o none B4.symm;refine⟨.pointer (some ⟨b,o+m.toNat*r.size,none⟩),_,fun AT HW=>?_,f.put _ (EU Ao),BP.cons ⟨rfl,b,_,Cx,rfl,Aq,Ep,AN⟩ (BP.cons ⟨rfl,b,_,rfl,Aq,Bm⟩ AR)⟩;have hm:m<(xs.length:Int):=AMT;simp[execOp,f.AL Ab,f.AL Bf,Instr.indexAt,asIntOf,ABQ Av.1,Bw,hm,sizeOf,typeInfo,Ay,hs,ACm]) k
theorem oO{α β:Type}{FA:Be α}{Kb:Be β}(i FV:Nat){ov:α}{By:Value}{s:TypeId}{j off:Nat}(g:α->β)(Ab:AL env x=some By)(Cl:D[i]? =some (@Atom.mk (Cq α) (@F9 α FA) By ⟨ov⟩))(Ew:D[FV]? =some (@Atom.mk QH W' By ⟨⟩))(BI:QD c.P s j off)
 (CK:∀S w cs,FA.rd S w cs ov->Kb.rd S w ((cs.drop off).take Kb.size) (g ov))(Ao:Nat.blt d c.n=true)(k:∀u,J c ops rest ((d,u)::env) L ((@Atom.mk (Cq β) (@F9 β Kb) u ⟨g ov⟩)::(@Atom.mk QH W' u ⟨⟩)::D)):
 J c ops (⟨some d,.fieldAddr s x j,t,p,af,none⟩::rest) env L D:=
 Dr.read (σ:=Value) rfl rfl (fun u=>(d,u)::env) (fun u=>(@Atom.mk (Cq β) (@F9 β Kb) u ⟨g ov⟩)::(@Atom.mk QH W' u ⟨⟩)::D) (fun a w f st AR=>by
  obtain⟨b,o,Cx,rfl,Aq,Ep,AN⟩:=@Rp α FA _ _ _ _ (AR.at_ i Cl);obtain⟨B1,q,qz,Af,h2,Bo,BB,rfl⟩:=BI;obtain⟨KZ,Lg,B4,_,Bm⟩:=rJ (AR.at_ FV Ew);injection B4 with B4;injection B4 with B4;injection B4 with B4 DC;subst B4;refine⟨.pointer (some ⟨b,o+q.offset,none⟩),_,fun AT hs=>?_,f.put _ (EU Ao),BP.cons ⟨rfl,b,o+q.offset,(Cx.drop q.offset).take Kb.size,rfl,Aq,CK _ _ _ Ep,fun j u hu=>?_⟩ (BP.cons ⟨rfl,b,_,rfl,Aq,Bm⟩ AR)⟩
  · simp[execOp,f.AL Ab,Instr.fieldAt,ABQ Af,h2,Instr.sureAddr,fieldPlace,sizeOf,typeInfo,Bo,BB,ACm]
  rw[ACl]at hu;split at hu
  · rw[ADh]at hu;have:=AN _ _ hu;rw[<-ADs]at this;exact this
  cases hu) k
end
theorem Ajq{w:World}{b o:Nat}{u:Value}{cs:Array Value}{T:TypeId}(hh:w.heap[b]? =some (.cells cs T (0,0)))(Bm:w.cell? ⟨b,o,none⟩=some u):w.setCell ⟨b,o,none⟩ u=w:=by
 have Bm:cs[o]? =some u:=by
  simp only[World.cell?,hh]at Bm;simpa using Bm
 have I0:cs.setIfInBounds o u=cs:=by
  apply Array.ext_getElem?;intro i;rw[Array.getElem?_setIfInBounds];split
  · rename_i e;subst e;split
    · rw[Bm]
    rename_i h;rw[Array.getElem?_eq_none AMT]at Bm;cases Bm
  rfl
 have hm:(w.setCell ⟨b,o,none⟩ u).heap=w.heap:=by
  apply Array.ext_getElem?;intro i;simp only[World.setCell,Array.getElem?_modify];split
  · rename_i e;have e:i=b:=e.symm;subst e;rw[hh];simp[I0]
  rfl
 cases w;simp only[World.setCell]at hm ⊢;rw[hm]
theorem AjL{c:Cj}{ops:Array Oper}{Q:AuE}{env:Env}{L:Own}{D:List Atom}{rest:List Oper}{t:TypeId}{p:String}{af:Array Edge}{x y:Operand}{α:Type}{r:Be α}[q:Vz r](i FV:Nat){ov:α}{By:Value}(Ab:AL env x=some By)(Bf:AL env y=some (q.g ov))
 (Cl:D[i]? =some (@Atom.mk (Cq α) (@F9 α r) By ⟨ov⟩))(Ew:D[FV]? =some (@Atom.mk QH W' By ⟨⟩)){E:TypeId}(Av:Nv c.P E)(k:Cb Q c ops rest env L D):Cb Q c ops (⟨none,.store E x y,t,p,af,none⟩::rest) env L D:=
 c6 (env':=env) rfl rfl (fun a w f st AR=>by
  obtain⟨b,o,Cx,rfl,Aq,Ep,AN⟩:=@Rp α r _ _ _ _ (AR.at_ i Cl);obtain⟨KZ,Lg,B4,_,cs,T,hh⟩:=rJ (AR.at_ FV Ew);injection B4 with B4;injection B4 with B4;injection B4 with B4 DC;subst B4;have e:=(q.h Ep).1;have Af:w.cell? ⟨b,o,none⟩=some (q.g ov):=AN 0 _ (by rw[e];rfl);have hu:(q.g ov).oneCell'=true:=r.one Ep _ (by rw[e];exact ADe.2 rfl);have h2:w.frozen? ⟨b,o,none⟩=false:=by
   simp[World.frozen?,hh]
  have hs:=Ajq hh Af;obtain⟨j,Ay,HW⟩:=ACr.1 Av.2;have aR:(q.g ov).cells= #[q.g ov]:=(by revert hu;cases q.g ov<;>first|exact fun _=>rfl|(intro hu;simp[Value.oneCell']at hu));have Gg:(store ⟨b,o,none⟩ (q.g ov)).run c.P w=.ok () w:=by
   rw[run_store c.P w ⟨b,o,none⟩ (q.g ov) .plain hu];simp[Af,h2,hs]
  exact⟨w,by simp[execOp,f.AL Ab,f.AL Bf,Instr.storeAt,Instr.sureAddr,storeVar,aR,sizeOf,typeInfo,Ay,HW,storeCells,Addr.add,Gg],f.Su _,st,AR⟩) k
end
end Go.A_
namespace Go.Apw
theorem zq(p:Nat)(nd:List Nat)(o:Cc)(v1:Value)(n:Int)(Z:Cc)(AW:B_ [(⟨n⟩:Cq Int)] o=Z):Aw AG 178 [ALM p 0,v1] [DG p nd o] [⟨v1,(⟨n⟩:Cq Int)⟩,⟨v1,(⟨⟩:QH)⟩] (fun(_:List Nat) _=>True) (fun y _=>[DG p y Z]) (fun _ _=>[]):=by
 refine Aw.proof Tryz.func178 G 14 G G fun X w=>Ae<|An G G<|Co 0 G G G<|CQ 0 G G (A2 G) G fun OD=>CT df G fun En=>Fi 0 G G G (A2 G) G (Da G)<|Ac<|Ae<|An G G<|M4 (α:=Int) n (fun S w h=>⟨G,OD⟩)<|Kj [0] [(⟨n⟩:Cq Int)] HB G G G fun H7=>Ch 0 (AuS p _ o _ [(⟨n⟩:Cq Int)] (B_ [(⟨n⟩:Cq Int)] o) G) (Ar G) G G (Ad 0 G Aa) G fun xz _ _=>Ac<|rg<|An G G<|CQ 1 G G (A2 G) G fun Xr=>Co 2 G G G<|AjL 2 3 G G G G (A2 G)<|nl ?_;have AB:(B_ [(⟨n⟩:Cq Int)] o)=Z:=by exact AW
 subst AB;exact Dz xz G trivial G Aa
theorem Aec(p:Nat)(nd:List Nat)(o:Cc)(v1:Value)(x:BL)(Z:Cc)(AW:Kc x o=Z):Aw AG 102 [ALM p 0,v1] [DG p nd o] [⟨v1,(Ak x)⟩,⟨v1,(⟨⟩:QH)⟩] (fun(_:List Nat) _=>True) (fun y _=>[DG p y Z]) (fun _ _=>[]):=by
 refine Aw.proof Tryz.func102 G 39 G G fun X w=>Am<|AuR (ω:=List Nat×Value) [] [(0,[(8,.f1 8 fun BM=>[DG p BM.1 (B_ [Ak x.Ap,Ak x.As] o)])])] [(2,CC (Ak x)),(3,CC (Ak x.Ap)),(5,CC (Ak x)),(6,CC (Ak x.As)),(7,CC [Ak x.Ap,Ak x.As]),(8,K8 [0])] [] [0,1] (fun _=>G) (fun _=>G) (fun Ai AV Az=>⟨fun _=>Co 0 G G G<|CD [0] 0 G G,fun _=>CJ 0 AgB G G (BR G) G fun EZ=>CD [0] 2 G G,fun _=>Co 0 G G G<|CD [0] 0 G G,fun _=>CJ 0 AgC G G (BR G) G fun v10=>CD [0] 2 G G,fun _=>Kj [1,3] [Ak x.Ap,Ak x.As] HB G G G fun XT=>CD [0] 5 G G,fun _=>?_,trivial⟩) fun Ai _=>?_
 ·
  refine Ch 0 (AuS p _ o _ [Ak x.Ap,Ak x.As] (B_ [Ak x.Ap,Ak x.As] o) G) (Ar G) G G (Ad 4 G Aa) G fun P5 _ _=>?_;exact I4 (P5,_) [] 5 G G trivial
 generalize (Ai 2).2=Pd,(Ai 3).2=Mm,(Ai 5).2=Rz,(Ai 6).2=MQ,(Ai 7).2=PR,(Ai 8).1=P5,(Ai 8).2=Nq;refine A5<|Ae<|U 2 G<|Co 5 G G G<|CJ 5 AgD G G (BR G) G fun Mn=>Ch 0 (ARC p _ (B_ [Ak x.Ap,Ak x.As] o) _ x.HV (Gy x.HV (B_ [Ak x.Ap,Ak x.As] o)) G) (Ar G) G G (Ad 0 G Aa) G fun xA _ _=>Ac<|Ae<|U 2 G<|Co 6 G G G<|oO (α:=BL) (β:=De) 6 7 (fun x=>x.Cm) G G G (BR G) fw G fun SB=>oO (α:=De) (β:=Int) 0 1 (fun x=>x.Jd) G G G (BR G) Agf G fun RB=>Ch 0 (zq p _ (Gy x.HV (B_ [Ak x.Ap,Ak x.As] o)) _ x.Cm.Jd (B_ [Ak x.Cm.Jd] (Gy x.HV (B_ [Ak x.Ap,Ak x.As] o))) G) (Ar G) G G (BE [0,1] G) G fun Amv _ _=>Ac<|AuR (ω:=List Nat×Value) [] [(0,[(14,.f1 14 fun BM=>[DG p BM.1 (B_ [Ak x.Cm.JM,Ak x.Cm.JJ,Ak x.Cm.JK] (B_ [Ak x.Cm.Jd] (Gy x.HV (B_ [Ak x.Ap,Ak x.As] o))))])])] [(2,CC (Ak x)),(3,CC (Ak x.Cm)),(4,CC (Ak x.Cm.JM)),(6,CC (Ak x)),(7,CC (Ak x.Cm)),(8,CC (Ak x.Cm.JJ)),(10,CC (Ak x)),(11,CC (Ak x.Cm)),(12,CC (Ak x.Cm.JK)),(13,CC [Ak x.Cm.JM,Ak x.Cm.JJ,Ak x.Cm.JK]),(14,K8 [0])] [] [] (fun _=>G) (fun _=>G) (fun Ai AV Az=>⟨fun _=>Co 10 G G G<|CD [10] 0 G G,fun _=>CJ 0 fw G G (BR G) G fun N4=>CD [0] 2 G G,fun _=>CJ 1 Agg G G (BR G) G fun Pg=>CD [0] 3 G G,fun _=>Co 10 G G G<|CD [10] 0 G G,fun _=>CJ 0 fw G G (BR G) G fun L5=>CD [0] 2 G G,fun _=>CJ 1 Agh G G (BR G) G fun OC=>CD [0] 3 G G,fun _=>Co 10 G G G<|CD [10] 0 G G,fun _=>CJ 0 fw G G (BR G) G fun Mo=>CD [0] 2 G G,fun _=>CJ 1 Agi G G (BR G) G fun SC=>CD [0] 3 G G,fun _=>Kj [2,5,8] [Ak x.Cm.JM,Ak x.Cm.JJ,Ak x.Cm.JK] HB G G G fun Ami=>CD [0] 10 G G,fun _=>?_,trivial⟩) fun Ai _=>?_
 ·
  refine Ch 0 (AuS p _ (B_ [Ak x.Cm.Jd] (Gy x.HV (B_ [Ak x.Ap,Ak x.As] o))) _ [Ak x.Cm.JM,Ak x.Cm.JJ,Ak x.Cm.JK] (B_ [Ak x.Cm.JM,Ak x.Cm.JJ,Ak x.Cm.JK] (B_ [Ak x.Cm.Jd] (Gy x.HV (B_ [Ak x.Ap,Ak x.As] o)))) G) (Ar G) G G (Ad 9 G Aa) G fun hv _ _=>?_;exact I4 (hv,_) [] 10 G G trivial
 generalize (Ai 2).2=Pd,(Ai 3).2=Mm,(Ai 4).2=ub,(Ai 6).2=MQ,(Ai 7).2=PR,(Ai 8).2=Nq,(Ai 10).2=Vo,(Ai 11).2=Vp,(Ai 12).2=cO,(Ai 13).2=me,(Ai 14).1=hv,(Ai 14).2=Xj;have AB:(B_ [Ak x.Cm.JM,Ak x.Cm.JJ,Ak x.Cm.JK] (B_ [Ak x.Cm.Jd] (Gy x.HV (B_ [Ak x.Ap,Ak x.As] o))))=Z:=by exact AW
 subst AB;exact Dz hv G trivial G Aa
theorem AdL(p:Nat)(nd:List Nat)(o:Cc)(v1 A1:Value)(l:List BL)(Z:Cc)(AW:CH Kc l o=Z):Aw AG 101 [ALM p 0,v1,.func (.func 102) #[ALM p 0] #[]] [DG p nd o] [⟨v1,(⟨⟨A1⟩⟩:Cq JD)⟩,⟨A1,l⟩,⟨A1,(⟨⟩:Kg)⟩] (fun(_:List Nat) _=>True) (fun y _=>[DG p y Z]) (fun _ _=>[]):=by
 refine Aw.proof Tryz.func101 G 80 G G fun X w=>Am<|Ae<|An G G<|Ch 0 (T2 p _ o) (Ar G) G G Aa G fun QR cN Ct=>?_;subst Ct;refine Ac<|BN G (fun Ct=>?_) (fun Ct=>?_)
 ·
  refine BA ?_;have AB:o=Z:=(by rw[<-AW,CH,AA_ Ct]);subst AB;exact Ej QR G trivial G Aa
 refine AZ<|Am<|Am<|L2 fun k Dk=>?_;refine rg<|AX 4 [0] G G<|Q1 ARM G G G<|Ac<|Mv G<|Am<|Ae<|An G G<|Co 0 G G G<|CQ 0 G G (A2 G) G fun AkR=>?_;refine C2 1 G G ADL G fun U_=>U 1 G<|Ac<|B9 G (fun E1=>?_) (fun E1=>?_)
 ·
  refine Ae<|U 3 G<|Fi 0 G G G (A2 G) G (Da G)<|Ac<|BA<|Cd ?_;have AB:{o with E6:=true}=Z:=(by rw[<-AW,CH,AA9 (by rw[Ct];decide),AA_ AMT]);subst AB;exact Ng {o with E6:=true} k G Dk fun Hr=>Ej Hr G trivial G Aa
 refine AZ<|Am<|Mh o k G Dk fun VU=>rg<|U 2 G<|Co 0 G G G<|CQ 0 G G (A2 G) G fun Uc=>C2 1 G G ADL G fun bx=>F0 ABc AC4 G (SI AMT AMT) G<|Dm (TG l.length AMT) (Ar G) G Aa G fun _ L5 _=>JO<|Ch 0 (Sv p _ o _ (GN l.length) (H4 (GN l.length) o) G) (Ar G) G G (Ad 0 G Aa) G fun QS _ _=>?_;refine Ac<|Am<|AF 1 G<|B5<|Hx (σ:=Nat×Cc×List Nat) [(0,_),(1,_),(2,_)] _ (fun s C=>(6,.int .i64 (s.1:Int))::C) (fun s=>[DG p s.2.2 s.2.1,CL X w]) (fun _ Dw=>Dw) (fun s=>s.1<=l.length/\MS Kc (l.drop s.1) s.2.1=Z) (fun s=>l.length-s.1) (0,(H4 (GN l.length) o),QS) (Bs G) (Ad 1 G (Ad 2 G (Ad 3 G Aa))) ⟨ABg _,by rw[<-AW,CH,AA9 (by rw[Ct];decide),AA9 AMT];rfl⟩ (Bs G) G (Ad 1 G (Ad 2 G (Ad 3 G Aa))) ?_;rintro⟨i,Y,JG⟩ ⟨Ag,IZ⟩;simp only at Ag IZ;show CF _ _ _ [(6,.int .i64 ((i:Int))),(0,_),(1,_),(2,_)] [DG p JG Y,CL X w] _;refine Am<|Am<|L2 fun Nc M6=>?_;refine rg<|U 2 G<|Co 0 G G G<|CQ 0 G G (A2 G) G fun ux=>C2 1 G G ADL G fun bz=>U 2 G<|Fu 39 6 [0] [0,1,2,6] G G G<|Ac<|BN G (fun EN=>?_) (fun EN=>?_)
 ·
  have Jw:=EN;rw[ABb,ABa,ABe]at Jw;obtain⟨q1,q2⟩:=Jw;have AJ:=AC1 (show i<l.length by omega);rw[<-Go.A_.G3 AMT]at AJ;have M8:=IZ;rw[AJ,MS,AA9 (by rw[q2];decide)]at M8;refine AZ<|Am<|B5<|Mh Y Nc G M6 fun VV=>rg<|U 2 G<|Co 0 G G G<|CQ 0 G G (A2 G) G fun Ao_=>An G G<|AcW 1 2 G G G G J1 AMT (show l[((i:Nat):Int).toNat]? =some (l.getD i default)from by rw[ACS];exact Ly (d:=default) AMT) G fun cT=>Uv 0 (Aec p _ Y _ (l.getD i default) (Kc (l.getD i default) Y) G) (Ar G) G G G G (BE [0,1] G) G fun K1 _ _=>nl<|CU<|A5<|rg<|An G G<|C5 G G BV G<|U 1 G<|nl ?_;exact Dy ((i+1,Kc (l.getD i default) Y,K1):Nat×Cc×List Nat) ⟨by show i+1<=_;omega,M8⟩ (by show l.length-(i+1)<l.length-i;omega) (Bs G) G (BE [2,3,4] G)
 have Gg:l.drop i=[]\/Y.E6=true:=by
  rw[ACu,ABl]at EN;rcases EN with q|q
  · exact .inl (ACc AMT)
  exact .inr (by simpa using q)
 refine ex<|Ck<|Ck<|D7<|A5<|BA ?_;have AB:Y=Z:=by rw[<-IZ,Zu Gg]
 subst AB;exact Ng Y Nc G M6 fun Hr=>Ej Hr G trivial G Aa
end Go.Apw
