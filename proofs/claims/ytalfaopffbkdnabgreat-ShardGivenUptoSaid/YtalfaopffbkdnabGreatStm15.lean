/- Part 15 of shardGiven_holds. -/
import Derived.Test.YtalfaopffbkdnabGreatStm14

set_option maxRecDepth 20000
set_option maxHeartbeats 1000000
open Go.Proofs.Tryz renaming underlying27→AJC,underlying39→AJB
open List renaming append_nil→AB7,drop_eq_nil_of_le→ACc,eraseIdx_eq_take_drop_succ→AJV,length_append→ABP,length_cons→ABv,length_nil→ABo,length_set→ABj
open Nat renaming min_def→ADt,min_eq_left→ADH
open Option renaming map_eq_some_iff→ACr
open Go.A_ Go.Proofs Go.Proofs.YtalfaopffbkdnabGreat
namespace Go.A_
open Go.RowKit
section
section
variable{α:Type} {xs:List α} {i:Nat} {ov:α}
theorem e2(h:i=xs.length):xs++[ov]=FO i ov xs:=by
 subst h;simp[FO]
theorem e3(h:i<=xs.length):(xs.take i).take i++[ov]++(xs.take i).drop (i+1)=xs.take i++[ov]:=by
 rw[List.take_take,Nat.min_self,ACc (by rw[ABz];omega),AB7]
theorem e4(h:i<=xs.length):(xs.take i++[ov]).take (i+1)++xs.drop i++(xs.take i++[ov]).drop (i+1+(xs.length-i))=FO i ov xs:=by
 have AN:(xs.take i++[ov]).length=i+1:=by rw[ABP,ABz];simp;omega
 have e:(xs.take i++[ov]).drop (i+1+(xs.length-i))=[]:=ACc AJv;rw[List.take_of_length_le AJv,e,AB7,FO];simp
theorem e5(h:i<xs.length):xs.take (i+1)++xs.drop i++xs.drop (i+1+(xs.length-i))=xs.take (i+1)++xs.drop i:=by
 have e:xs.drop (i+1+(xs.length-i))=[]:=ACc AJv;rw[e,AB7]
theorem e6(h:i<xs.length):(xs.take (i+1)++xs.drop i).take i++[ov]++(xs.take (i+1)++xs.drop i).drop (i+1)=FO i ov xs:=by
 have AN:(xs.take (i+1)).length=i+1:=by rw[ABz];omega
 rw[List.take_append_of_le_length AJv,List.take_take,ADH AJv,List.drop_left' AN,FO];simp
theorem U7(h:i<xs.length):(xs.take (i+1)++xs.drop i).length=xs.length+1:=by
 rw[ABP,ABz,List.length_drop];omega
end
section
variable{c:Cj} {ops:Array Oper} {AP:Cj->Array Oper->List Oper->Env->Own->List Atom->Prop} [Dr:Ip AP] {env:Env} {L:Own} {D:List Atom} {rest:List Oper} {d:Nat} {v:Value} {t:TypeId} {p:String} {af:Array Edge} {x BQ:Operand} {T:TypeId}
include Dr
theorem gj{α:Type}{r:Be α}(i:Nat){l:Nat}{xs:List α}{E e:TypeId}(Ab:AL env x=some v)(Ag:L[i]? =some (@row α r e v xs))(Av:H5 c.P T E r.size)(B4:AL env BQ=some (.int .i64 (l:Int)))(Af:l<=xs.length)(Ao:Nat.blt d c.n=true)
 (k:∀u,AP c ops rest ((d,u)::env) L D):AP c ops (⟨some d,.slice T x (some BQ) none none,t,p,af,none⟩::rest) env L D:=
 Dr.read (σ:=Value) rfl rfl (fun u=>(d,u)::env) (fun _=>D) (fun a w f st AR=>by
  obtain⟨Cy,G8,_⟩:=st.own _ (AA' Ag);obtain⟨j,Ay,hs⟩:=ACr.1 Av.2;obtain⟨A,cap,rfl,Bm⟩:∃A cap,v=.slice A xs.length cap/\xs.length<=cap:=by
   rcases G8.2 with⟨rfl,Bw⟩|⟨g,cap,cur,rfl,_,_,Bm,_⟩
   · exact⟨none,0,by rw[Bw],AJv⟩
   · exact⟨_,cap,rfl,Bm⟩
  have CY:(0:Int)<=l/\(l:Int)<=(xs.length:Int):=AJv;have Dh:(xs.length:Int)<=(cap:Int):=AJv;refine⟨.slice (if cap=l then A else A.map (·.add (l*r.size))) (xs.length-l) (cap-l),_,fun AT HW=>?_,f.put _ (EU Ao),AR⟩;simp[execOp,f.AL Ab,f.AL B4,Instr.sliceAt,ABQ Av.1,Instr.slice,Instr.sliceBounds,Instr.sliceBound,asIntOf,CY,Af,sizeOf,typeInfo,Ay,hs]) k
theorem Kr{α:Type}{r:Be α}(i:Nat){xs:List α}{e:TypeId}{o:Nat}{x:Operand}(Ab:AL env x=some (JI v o))(Ag:L[i]? =some (@row α r e v xs))(FG:0<xs.length)(Ao:Nat.blt d c.n=true)
 (k:AP c ops rest ((d,JI v o)::env) L D):AP c ops (⟨some d,.nilCheck x,t,p,af,none⟩::rest) env L D:=
 Dr.read (σ:=Unit) rfl rfl (fun _=>(d,JI v o)::env) (fun _=>D) (fun a w f st AR=>by
  obtain⟨g,cap,rfl⟩:=@oz (Et L.J w) w α r e v xs (st.own _ (AA' Ag)) (by intro q;rw[q]at FG;simp at FG);refine⟨(),_,fun AT HW=>?_,f.put _ (EU Ao),AR⟩;simp[execOp,f.AL Ab,JI]) (fun _=>k)
end
section
variable{c:Cj} {ops:Array Oper} {Q:AuE} {env:Env} {L:Own} {D:List Atom} {rest:List Oper} {v:Value} {t:TypeId} {p:String} {af:Array Edge} {x y:Operand}
theorem Sz{α:Type}{s:Shape α}(i m o:Nat)(DI:s.H){xs:List α}{ov ov':α}{u:Value}{e:TypeId}(Ab:AL env x=some (JI v (m*s.size+o)))(Bf:AL env y=some u)(Ag:L[i]? =some (@row α (Be.D5 s) e v xs))(hu:u.oneCell'=true)(hm:xs[m]? =some ov)(A7:o<s.size)
 (Bm:∀h,(s.cells ov h).set o u=s.cells ov' DI)(Cl:Bg (s.sub ov' DI) D)(hw:s.wf ov'){E:TypeId}(Av:Nv c.P E)(k:Cb Q c ops rest env (L.set i (@row α (Be.D5 s) e v (xs.set m ov'))) D):Cb Q c ops (⟨none,.store E x y,t,p,af,none⟩::rest) env L D:=by
 refine c6 (env':=env) rfl rfl (fun a w f st AR=>?_) k;have Hv:=AA' Ag;have jt:m<xs.length:=(ABF.1 hm).1;obtain⟨g,cap,cs,Cy,rfl,CK,Kn,Yt,EY,Md,Ep,hlen⟩:=@Vj α (Be.D5 s) _ _ _ _ _ (st.own _ Hv) (by intro e;rw[e]at hm;simp at hm);have Fy:@Be.size α (Be.D5 s)=s.size:=rfl;rw[Fy]at EY;have Sd:(m+1)*s.size<=cap*s.size:=ACw _ AJv;rw[ACX]at Sd;obtain⟨Cx,⟨h,rfl,_,_⟩,AN⟩:=@PH α (Be.D5 s) _ _ _ Cy xs 0 Ep (ct CK Md) m ov hm;rw[Fy]at AN;have Anr:(s.cells ov h).length=s.size:=s.len ov h;have Ans:(s.cells ov' DI).length=s.size:=s.len ov' DI;have Acf:MO cs (m*s.size) (s.cells ov' DI)=cs.set (m*s.size+o) u:=by
  refine List.ext_getElem? fun q=>?_;rw[T0 _ _ _ _ AJv];by_cases B':m*s.size<=q/\q<m*s.size+(s.cells ov' DI).length
  · rw[AA_ B',<-Bm h,List.getElem?_set,List.getElem?_set];by_cases p4:o=q-m*s.size
    · rw[AA_ p4,AA_ AJv,AA_ AJv,AA_ AJv]
    · rw[AA9 p4,AA9 AJv];have:=AN (q-m*s.size) _ (ABs (show q-m*s.size<(s.cells ov h).length by omega));rw[cell_of_row w g _ _ e (0,0) CK,ACA,show 0+m*s.size+(q-m*s.size)=q by omega]at this;rw[this,ABs AJv]
  · rw[AA9 B',List.getElem?_set_ne AJv]
 have hs:C8 [g] w (w.setCell ⟨g,m*s.size+o,none⟩ u):=lZ w g (m*s.size+o) u;have Mc:(w.setCell ⟨g,m*s.size+o,none⟩ u).heap[g]? =some (.cells (MO cs (m*s.size) (s.cells ov' DI)).toArray e (0,0)):=by
  rw[Acf,heap_setCell_same w g _ _ e u CK];simp
 have p1:=AiH i m DI Ag jt Cl hw st AR CK hs Mc;refine⟨w.setCell ⟨g,m*s.size+o,none⟩ u,?_,f.Su _,p1.1,p1.2⟩;have Af:w.cell? ⟨g,m*s.size+o,none⟩=some cs[m*s.size+o]:=by rw[cell_of_row w g _ _ e (0,0) CK,ACA,ABs AJv]
 have h2:w.frozen? ⟨g,m*s.size+o,none⟩=false:=frozen_of_row w g _ _ e CK;obtain⟨e7,J9,HW⟩:=ACr.1 Av.2;have aR:u.cells= #[u]:=by cases u<;>first|rfl|simp[Value.oneCell']at hu
 have Gg:(store ⟨g,m*s.size+o,none⟩ u).run c.P w=.ok () (w.setCell ⟨g,m*s.size+o,none⟩ u):=by
  rw[run_store c.P w ⟨g,m*s.size+o,none⟩ u .plain hu];simp[Af,h2]
 have HX:=f.AL Ab;simp only[JI,Addr.add_mid,AB0]at HX;simp[execOp,HX,f.AL Bf,Instr.storeAt,Instr.sureAddr,storeVar,aR,sizeOf,typeInfo,J9,HW,storeCells,Addr.add,Gg]
end
end
end Go.A_
namespace Go.Apw
theorem AcK(v:Value)(xs:List BD)(i b:Nat)(ov:BD)(Ag:i<=xs.length)(hw:ov.wf)(hlen:xs.length<=100000):Aw AG 121 [v,.int .i64 (i:Int),.slice (some ⟨b,0,none⟩) 1 1] [@row BD Mj 63 v xs,AO b 63 (JH ov)] [] (fun(_:Unit) _=>True) (fun _ u=>[@row BD Mj 63 u (FO i ov xs)]) (fun _ _=>[]):=by
 refine Aw.proof Tryz.func121 G 95 G G fun X w=>AF 1 G<|Ae<|U 2 G<|gj 0 G G I6 G Ag G fun _=>Ac<|Ae<|An G G<|WN G AJB G<|U 1 G<|Ac<|Am<|AF 2 G<|B9 G (fun CR=>?_) (fun CR=>?_)
 · exact absurd CR AJx --#done
 ·
  refine AZ<|Ae<|An G G<|JX 0 G G AJB G fun U9=>U 1 G<|Ac<|Am<|Ae<|U 2 G<|U 1 G<|Ac<|B9 G (fun JQ=>?_) (fun JQ=>?_)
  ·
   have LM:i=xs.length:=AJv;refine Ae<|U 2 G<|D9 1 G<|KJ (α:=BD) ov (fun S w h=>⟨(),G,by simp,hw⟩)<|ap 0 0 G G G G S1 (by simp only[ABv,ABo];omega) (by simp only[ABv,ABo];omega) G fun T7=>?_;rw[e2 (xs:=xs) (ov:=ov) LM];exact U 1 G<|Ac<|BA<|Bq () G G trivial G Aa
  ·
   have LM:i<xs.length:=AJv;refine Sw 0 G (show 0<xs.length by omega) fun HO cap BC Kn ID=>?_;subst BC;have UZ:cap<=9223372036854775807:=ID;refine AZ<|Am<|Ae<|U 2 G<|C5 G G BV G<|An G G<|dR G AJB G<|U 1 G<|Ac<|B9 G (fun ES=>?_) (fun ES=>?_)
   ·
    refine Ae<|U 2 G<|PO G I6 G AJv G<|U 2 G<|C5 G G BV G<|An G G<|fZ (r:=((xs.length+1-i:Nat):Int)) G G AJv BV G<|dy 0 G G G S1 ABc Ag AJv AJv AJv G fun kb Wb iP Wj=>?_;have iQ:Wb<=9223372036854775807:=Wj;refine U 1 G<|Ac<|Ae<|U 2 G<|H2 G I6 G AJv AJv G<|An G G<|Uz (s:=MN) 0 2 (h:=i+(xs.length+1-i)) (ov:=ov) (hh:=()) G G G G I6 Aa hw (by rw[ABz];omega) AJv AJv (by rw[ABz];omega) G (e3 Ag)<|Ac<|Am<|Ow 8 mixed AJw<|U 3 G<|Hf (r:=((i+1:Nat):Int)) G G AJv BV G<|H2 G I6 G AJv AJv G<|U 2 G<|H2 G I6 G AJv AJv G<|Oq<|UA 0 1 (k:=i+1) (h:=i+(xs.length+1-i)) (l:=i) (h2:=xs.length) G G G G I6 (by rw[ABP,ABz];simp;omega) AJv AJv AJv (by simp only[ADt];split<;>omega) AJv G (ys:=(FO i ov xs)) (e4 Ag) fun _=>Ac<|Am ?_;have Ee:(FO i ov xs).length=i+(xs.length+1-i):=(by rw[Sh _ _ _ Ag];omega);rw[Ee];exact FA 2 G<|A5<|BA<|Au 1 G<|AQ<|Au 1 G<|AQ<|Bq () G G trivial G Aa
   ·
    have Rr:xs.length+1<=cap:=AJv;refine AZ<|Ae<|U 3 G<|Hf (r:=((xs.length+1:Nat):Int)) G G AJv BV G<|PO G I6 G AJv G<|U 1 G<|Ac<|Am<|Ae<|U 4 G<|Hf (r:=((i+1:Nat):Int)) G G AJv BV G<|H2 G I6 G AJv AJv G<|ft 0 1 zu G G G G AJx I6 AJv (ABy G) G<|IH G G<|Ac<|Mv G<|Am<|Ow 8 mixed AJw<|U 3 G<|Hf (r:=((i+1:Nat):Int)) G G AJv BV G<|H2 G I6 G AJv AJv G<|U 2 G<|H2 G I6 G AJv AJv G<|Oq<|UA 0 0 (k:=i+1) (h:=xs.length+1) (l:=i) (h2:=xs.length+1) G G G G I6 AJv AJv AJv AJv (by simp only[ADt];split<;>omega) AJv G (ys:=(xs.take (i+1)++xs.drop i)) (e5 LM) fun _=>Ac<|Ae<|U 2 G<|H2 G I6 G AJv AJv G<|An G G<|Uz (s:=MN) 0 1 (h:=xs.length+1) (ov:=ov) (hh:=()) G G G G I6 Aa hw (by rw[U7 AJv];omega) AJv AJv (by rw[U7 AJv];omega) G (e6 LM)<|Ac<|Am ?_;have Ee:(FO i ov xs).length=xs.length+1:=Sh _ _ _ Ag;rw[Ee];exact FA 2 G<|A5<|BA<|Au 1 G<|AQ<|Bq () G G trivial G Aa
theorem qp(v:Value)(xs:List AD)(i b:Nat)(ov:AD)(AS:Value)(Ag:i<=xs.length)(hw:ov.wf)(hlen:xs.length<=100000):Aw AG 126 [v,.int .i64 (i:Int),.slice (some ⟨b,0,none⟩) 1 1] [@row AD GR 43 v xs,AO b 43 (A3 ov AS)] [⟨AS,ov.A0⟩] (fun(_:Unit) _=>True) (fun _ u=>[@row AD GR 43 u (FO i ov xs)]) (fun _ _=>[]):=by
 refine Aw.proof Tryz.func126 G 95 G G fun X w=>AF 1 G<|Ae<|U 2 G<|gj 0 G G Gt G Ag G fun _=>Ac<|Ae<|An G G<|WN G AB4 G<|U 1 G<|Ac<|Am<|AF 2 G<|B9 G (fun CR=>?_) (fun CR=>?_)
 · exact absurd CR AJx --#done
 ·
  refine AZ<|Ae<|An G G<|JX 0 G G AB4 G fun U9=>U 1 G<|Ac<|Am<|Ae<|U 2 G<|U 1 G<|Ac<|B9 G (fun JQ=>?_) (fun JQ=>?_)
  ·
   have LM:i=xs.length:=AJv;refine Ae<|U 2 G<|D9 1 G ?_;refine KJ (α:=AD) ov (fun S w h=>⟨AS,G,fun t Av=>by
     simp only[ABf,ABh,ABi]at Av;subst Av
     · exact h _ (AA' (i:=0) G),hw⟩) ?_
   refine ap 0 0 G G G G OI (by simp only[ABv,ABo];omega) (by simp only[ABv,ABo];omega) G fun T7=>?_;rw[e2 (xs:=xs) (ov:=ov) LM];exact U 1 G<|Ac<|BA<|Bq () G G trivial G Aa
  ·
   have LM:i<xs.length:=AJv;refine Sw 0 G (show 0<xs.length by omega) fun HO cap BC Kn ID=>?_;subst BC;have UZ:cap<=9223372036854775807:=ID;refine AZ<|Am<|Ae<|U 2 G<|C5 G G BV G<|An G G<|dR G AB4 G<|U 1 G<|Ac<|B9 G (fun ES=>?_) (fun ES=>?_)
   ·
    refine Ae<|U 2 G<|PO G Gt G AJv G<|U 2 G<|C5 G G BV G<|An G G<|fZ (r:=((xs.length+1-i:Nat):Int)) G G AJv BV G<|dy 0 G G G OI ABc Ag AJv AJv AJv G fun kb Wb iP Wj=>?_;have iQ:Wb<=9223372036854775807:=Wj;refine U 1 G<|Ac<|Ae<|U 2 G<|H2 G Gt G AJv AJv G<|An G G<|Uz (s:=Nn) 0 2 (h:=i+(xs.length+1-i)) (ov:=ov) (hh:=AS) G G G G Gt (Ad 0 G Aa) hw (by rw[ABz];omega) AJv AJv (by rw[ABz];omega) G (e3 Ag)<|Ac<|Am<|Ow 8 mixed AJw<|U 3 G<|Hf (r:=((i+1:Nat):Int)) G G AJv BV G<|H2 G Gt G AJv AJv G<|U 2 G<|H2 G Gt G AJv AJv G<|Oq<|UA 0 1 (k:=i+1) (h:=i+(xs.length+1-i)) (l:=i) (h2:=xs.length) G G G G Gt (by rw[ABP,ABz];simp;omega) AJv AJv AJv (by simp only[ADt];split<;>omega) AJv G (ys:=(FO i ov xs)) (e4 Ag) fun _=>Ac<|Am ?_;have Ee:(FO i ov xs).length=i+(xs.length+1-i):=(by rw[Sh _ _ _ Ag];omega);rw[Ee];exact FA 2 G<|A5<|BA<|Au 1 G<|AQ<|Au 1 G<|AQ<|Bq () G G trivial G Aa
   ·
    have Rr:xs.length+1<=cap:=AJv;refine AZ<|Ae<|U 3 G<|Hf (r:=((xs.length+1:Nat):Int)) G G AJv BV G<|PO G Gt G AJv G<|U 1 G<|Ac<|Am<|Ae<|U 4 G<|Hf (r:=((i+1:Nat):Int)) G G AJv BV G<|H2 G Gt G AJv AJv G<|ft 0 1 zv G G G G AJx Gt AJv (ABy G) G<|IH G G<|Ac<|Mv G<|Am<|Ow 8 mixed AJw<|U 3 G<|Hf (r:=((i+1:Nat):Int)) G G AJv BV G<|H2 G Gt G AJv AJv G<|U 2 G<|H2 G Gt G AJv AJv G<|Oq<|UA 0 0 (k:=i+1) (h:=xs.length+1) (l:=i) (h2:=xs.length+1) G G G G Gt AJv AJv AJv AJv (by simp only[ADt];split<;>omega) AJv G (ys:=(xs.take (i+1)++xs.drop i)) (e5 LM) fun _=>Ac<|Ae<|U 2 G<|H2 G Gt G AJv AJv G<|An G G<|Uz (s:=Nn) 0 1 (h:=xs.length+1) (ov:=ov) (hh:=AS) G G G G Gt (Ad 0 G Aa) hw (by rw[U7 AJv];omega) AJv AJv (by rw[U7 AJv];omega) G (e6 LM)<|Ac<|Am ?_;have Ee:(FO i ov xs).length=xs.length+1:=Sh _ _ _ Ag;rw[Ee];exact FA 2 G<|A5<|BA<|Au 1 G<|AQ<|Bq () G G trivial G Aa
theorem qq(v:Value)(xs:List BL)(i b:Nat)(ov:BL)(Ag:i<=xs.length)(hw:ov.wf)(hlen:xs.length<=100000):Aw AG 193 [v,.int .i64 (i:Int),.slice (some ⟨b,0,none⟩) 1 1] [@row BL W8 94 v xs,AO b 94 (H9 ov)] [] (fun(_:Unit) _=>True) (fun _ u=>[@row BL W8 94 u (FO i ov xs)]) (fun _ _=>[]):=by
 refine Aw.proof Tryz.func193 G 95 G G fun X w=>AF 1 G<|Ae<|U 2 G<|gj 0 G G J1 G Ag G fun _=>Ac<|Ae<|An G G<|WN G ACa G<|U 1 G<|Ac<|Am<|AF 2 G<|B9 G (fun CR=>?_) (fun CR=>?_)
 · exact absurd CR AJx --#done
 ·
  refine AZ<|Ae<|An G G<|JX 0 G G ACa G fun U9=>U 1 G<|Ac<|Am<|Ae<|U 2 G<|U 1 G<|Ac<|B9 G (fun JQ=>?_) (fun JQ=>?_)
  ·
   have LM:i=xs.length:=AJv;refine Ae<|U 2 G<|D9 1 G<|KJ (α:=BL) ov (fun S w h=>⟨(),G,by simp,hw⟩)<|ap 0 0 G G G G QN (by simp only[ABv,ABo];omega) (by simp only[ABv,ABo];omega) G fun T7=>?_;rw[e2 (xs:=xs) (ov:=ov) LM];exact U 1 G<|Ac<|BA<|Bq () G G trivial G Aa
  ·
   have LM:i<xs.length:=AJv;refine Sw 0 G (show 0<xs.length by omega) fun HO cap BC Kn ID=>?_;subst BC;have UZ:cap<=9223372036854775807:=ID;refine AZ<|Am<|Ae<|U 2 G<|C5 G G BV G<|An G G<|dR G ACa G<|U 1 G<|Ac<|B9 G (fun ES=>?_) (fun ES=>?_)
   ·
    refine Ae<|U 2 G<|PO G J1 G AJv G<|U 2 G<|C5 G G BV G<|An G G<|fZ (r:=((xs.length+1-i:Nat):Int)) G G AJv BV G<|dy 0 G G G QN ABc Ag AJv AJv AJv G fun kb Wb iP Wj=>?_;have iQ:Wb<=9223372036854775807:=Wj;refine U 1 G<|Ac<|Ae<|U 2 G<|H2 G J1 G AJv AJv G<|An G G<|Uz (s:=cy) 0 2 (h:=i+(xs.length+1-i)) (ov:=ov) (hh:=()) G G G G J1 Aa hw (by rw[ABz];omega) AJv AJv (by rw[ABz];omega) G (e3 Ag)<|Ac<|Am<|Ow 8 mixed AJw<|U 3 G<|Hf (r:=((i+1:Nat):Int)) G G AJv BV G<|H2 G J1 G AJv AJv G<|U 2 G<|H2 G J1 G AJv AJv G<|Oq<|UA 0 1 (k:=i+1) (h:=i+(xs.length+1-i)) (l:=i) (h2:=xs.length) G G G G J1 (by rw[ABP,ABz];simp;omega) AJv AJv AJv (by simp only[ADt];split<;>omega) AJv G (ys:=(FO i ov xs)) (e4 Ag) fun _=>Ac<|Am ?_;have Ee:(FO i ov xs).length=i+(xs.length+1-i):=(by rw[Sh _ _ _ Ag];omega);rw[Ee];exact FA 2 G<|A5<|BA<|Au 1 G<|AQ<|Au 1 G<|AQ<|Bq () G G trivial G Aa
   ·
    have Rr:xs.length+1<=cap:=AJv;refine AZ<|Ae<|U 3 G<|Hf (r:=((xs.length+1:Nat):Int)) G G AJv BV G<|PO G J1 G AJv G<|U 1 G<|Ac<|Am<|Ae<|U 4 G<|Hf (r:=((i+1:Nat):Int)) G G AJv BV G<|H2 G J1 G AJv AJv G<|ft 0 1 zw G G G G AJx J1 AJv (ABy G) G<|IH G G<|Ac<|Mv G<|Am<|Ow 8 mixed AJw<|U 3 G<|Hf (r:=((i+1:Nat):Int)) G G AJv BV G<|H2 G J1 G AJv AJv G<|U 2 G<|H2 G J1 G AJv AJv G<|Oq<|UA 0 0 (k:=i+1) (h:=xs.length+1) (l:=i) (h2:=xs.length+1) G G G G J1 AJv AJv AJv AJv (by simp only[ADt];split<;>omega) AJv G (ys:=(xs.take (i+1)++xs.drop i)) (e5 LM) fun _=>Ac<|Ae<|U 2 G<|H2 G J1 G AJv AJv G<|An G G<|Uz (s:=cy) 0 1 (h:=xs.length+1) (ov:=ov) (hh:=()) G G G G J1 Aa hw (by rw[U7 AJv];omega) AJv AJv (by rw[U7 AJv];omega) G (e6 LM)<|Ac<|Am ?_;have Ee:(FO i ov xs).length=xs.length+1:=Sh _ _ _ Ag;rw[Ee];exact FA 2 G<|A5<|BA<|Au 1 G<|AQ<|Bq () G G trivial G Aa
theorem AcJ(v:Value)(xs:List Df)(i b:Nat)(ov:Df)(Ag:i<=xs.length)(hw:ov.wf)(hlen:xs.length<=100000):Aw AG 198 [v,.int .i64 (i:Int),.slice (some ⟨b,0,none⟩) 1 1] [@row Df Y9 101 v xs,AO b 101 (QT ov)] [] (fun(_:Unit) _=>True) (fun _ u=>[@row Df Y9 101 u (FO i ov xs)]) (fun _ _=>[]):=by
 refine Aw.proof Tryz.func198 G 95 G G fun X w=>AF 1 G<|Ae<|U 2 G<|gj 0 G G Ky G Ag G fun _=>Ac<|Ae<|An G G<|WN G AC4 G<|U 1 G<|Ac<|Am<|AF 2 G<|B9 G (fun CR=>?_) (fun CR=>?_)
 · exact absurd CR AJx --#done
 ·
  refine AZ<|Ae<|An G G<|JX 0 G G AC4 G fun U9=>U 1 G<|Ac<|Am<|Ae<|U 2 G<|U 1 G<|Ac<|B9 G (fun JQ=>?_) (fun JQ=>?_)
  ·
   have LM:i=xs.length:=AJv;refine Ae<|U 2 G<|D9 1 G<|KJ (α:=Df) ov (fun S w h=>⟨(),G,by simp,hw⟩)<|ap 0 0 G G G G RM (by simp only[ABv,ABo];omega) (by simp only[ABv,ABo];omega) G fun T7=>?_;rw[e2 (xs:=xs) (ov:=ov) LM];exact U 1 G<|Ac<|BA<|Bq () G G trivial G Aa
  ·
   have LM:i<xs.length:=AJv;refine Sw 0 G (show 0<xs.length by omega) fun HO cap BC Kn ID=>?_;subst BC;have UZ:cap<=9223372036854775807:=ID;refine AZ<|Am<|Ae<|U 2 G<|C5 G G BV G<|An G G<|dR G AC4 G<|U 1 G<|Ac<|B9 G (fun ES=>?_) (fun ES=>?_)
   ·
    refine Ae<|U 2 G<|PO G Ky G AJv G<|U 2 G<|C5 G G BV G<|An G G<|fZ (r:=((xs.length+1-i:Nat):Int)) G G AJv BV G<|dy 0 G G G RM ABc Ag AJv AJv AJv G fun kb Wb iP Wj=>?_;have iQ:Wb<=9223372036854775807:=Wj;refine U 1 G<|Ac<|Ae<|U 2 G<|H2 G Ky G AJv AJv G<|An G G<|Uz (s:=Ze) 0 2 (h:=i+(xs.length+1-i)) (ov:=ov) (hh:=()) G G G G Ky Aa hw (by rw[ABz];omega) AJv AJv (by rw[ABz];omega) G (e3 Ag)<|Ac<|Am<|Ow 8 mixed AJw<|U 3 G<|Hf (r:=((i+1:Nat):Int)) G G AJv BV G<|H2 G Ky G AJv AJv G<|U 2 G<|H2 G Ky G AJv AJv G<|Oq<|UA 0 1 (k:=i+1) (h:=i+(xs.length+1-i)) (l:=i) (h2:=xs.length) G G G G Ky (by rw[ABP,ABz];simp;omega) AJv AJv AJv (by simp only[ADt];split<;>omega) AJv G (ys:=(FO i ov xs)) (e4 Ag) fun _=>Ac<|Am ?_;have Ee:(FO i ov xs).length=i+(xs.length+1-i):=(by rw[Sh _ _ _ Ag];omega);rw[Ee];exact FA 2 G<|A5<|BA<|Au 1 G<|AQ<|Au 1 G<|AQ<|Bq () G G trivial G Aa
   ·
    have Rr:xs.length+1<=cap:=AJv;refine AZ<|Ae<|U 3 G<|Hf (r:=((xs.length+1:Nat):Int)) G G AJv BV G<|PO G Ky G AJv G<|U 1 G<|Ac<|Am<|Ae<|U 4 G<|Hf (r:=((i+1:Nat):Int)) G G AJv BV G<|H2 G Ky G AJv AJv G<|ft 0 1 zx G G G G AJx Ky AJv (ABy G) G<|IH G G<|Ac<|Mv G<|Am<|Ow 8 mixed AJw<|U 3 G<|Hf (r:=((i+1:Nat):Int)) G G AJv BV G<|H2 G Ky G AJv AJv G<|U 2 G<|H2 G Ky G AJv AJv G<|Oq<|UA 0 0 (k:=i+1) (h:=xs.length+1) (l:=i) (h2:=xs.length+1) G G G G Ky AJv AJv AJv AJv (by simp only[ADt];split<;>omega) AJv G (ys:=(xs.take (i+1)++xs.drop i)) (e5 LM) fun _=>Ac<|Ae<|U 2 G<|H2 G Ky G AJv AJv G<|An G G<|Uz (s:=Ze) 0 1 (h:=xs.length+1) (ov:=ov) (hh:=()) G G G G Ky Aa hw (by rw[U7 AJv];omega) AJv AJv (by rw[U7 AJv];omega) G (e6 LM)<|Ac<|Am ?_;have Ee:(FO i ov xs).length=xs.length+1:=Sh _ _ _ Ag;rw[Ee];exact FA 2 G<|A5<|BA<|Au 1 G<|AQ<|Bq () G G trivial G Aa
theorem oi(v:Value)(xs:List BX)(i:Nat)(Ag:i<xs.length)(hlen:xs.length<=100000):Aw AG 49 [v,.int .i64 (i:Int),.int .i64 ((i+1:Nat):Int)] [@row BX Ha 86 v xs] [] (fun(_:Unit) _=>True) (fun _ u=>[@row BX Ha 86 u (xs.eraseIdx i)]) (fun _ _=>[]):=by
 refine Aw.proof Tryz.func49 G 33 G G fun X w=>Sw 0 G (show 0<xs.length by omega) fun HO cap BC Kn ID=>?_;subst BC;have UZ:cap<=9223372036854775807:=ID;refine AF 1 G<|Ae<|U 4 G<|JX 0 G G ACi G fun qR=>tl G N0 G G G AJv AJv Kn G fun _=>Ac<|Am<|AF 3 G<|B9 G (fun CR=>?_) (fun CR=>?_)
 · exact absurd CR AJv --#done
 ·
  refine AZ<|Ae<|An G G<|JX 0 G G ACi G fun U9=>U 1 G<|Ac<|Am<|sP 6 ⟨fun Rt=>([[],[],[0,1],[],[],[3,4],[],[]]:List (List Nat)).getD Rt [],fun _ _=>True,fun _ _=>[],fun Rt=>([some ((.slice (some ⟨HO,0,none⟩) xs.length cap)),some (.int .i64 ((i:Int))),some (.slice (some ⟨HO,0,none⟩) i cap),some ((.slice (some ⟨HO,0,none⟩) xs.length cap)),some (.int .i64 (((i+1:Nat):Int))),some (cut HO 11 (i+1) xs.length cap),none,none]:List (Option Value)).getD Rt none,fun _ _=>_,[],[[]]⟩ G mixed AJw (ABy G) G ?_ ?_
  · exact⟨fun V Az _=>GK (An G G<|GH G G G G),fun V Az _=>GK (An G G<|GH G G G G),fun V Az _=>GK (PO G N0 G AJv G<|GH G G G G),fun V Az _=>GK (An G G<|GH G G G G),fun V Az _=>GK (An G G<|GH G G G G),fun V Az _=>GK (H2 G N0 G AJv Kn G<|GH G G G G),trivial⟩
  ·
   intro V _;refine Xz [(22,.slice (some ⟨HO,0,none⟩) i cap),(25,cut HO 11 (i+1) xs.length cap),(7,_)] [] (Bs G) Br<|ni 0 (k:=i) (j:=i+1) G G G Mt AJv AJv G ?_;rw[<-AJV];exact U 1 G<|Ac<|Ae<|U 2 G<|WN G ACi G<|An G G<|tk G N0 G G AJv Kn G<|Z' 0 G G Mt SM G (by rw[List.length_eraseIdx,AA_ Ag];omega) AJv Kn (fun a f=>f.Su _)<|Ac<|AF 2 G<|rt<|Bq () G G trivial G Aa
theorem yx(v:Value)(xs:List Bx)(i:Nat)(Ag:i<xs.length)(hlen:xs.length<=100000):Aw AG 162 [v,.int .i64 (i:Int),.int .i64 ((i+1:Nat):Int)] [@row Bx ML 98 v xs] [] (fun(_:Unit) _=>True) (fun _ u=>[@row Bx ML 98 u (xs.eraseIdx i)]) (fun _ _=>[]):=by
 refine Aw.proof Tryz.func162 G 33 G G fun X w=>Sw 0 G (show 0<xs.length by omega) fun HO cap BC Kn ID=>?_;subst BC;have UZ:cap<=9223372036854775807:=ID;refine AF 1 G<|Ae<|U 4 G<|JX 0 G G AJC G fun qR=>tl G Ox G G G AJv AJv Kn G fun _=>Ac<|Am<|AF 3 G<|B9 G (fun CR=>?_) (fun CR=>?_)
 · exact absurd CR AJv --#done
 ·
  refine AZ<|Ae<|An G G<|JX 0 G G AJC G fun U9=>U 1 G<|Ac<|Am<|sP 6 ⟨fun Rt=>([[],[],[0,1],[],[],[3,4],[],[]]:List (List Nat)).getD Rt [],fun _ _=>True,fun _ _=>[],fun Rt=>([some ((.slice (some ⟨HO,0,none⟩) xs.length cap)),some (.int .i64 ((i:Int))),some (.slice (some ⟨HO,0,none⟩) i cap),some ((.slice (some ⟨HO,0,none⟩) xs.length cap)),some (.int .i64 (((i+1:Nat):Int))),some (cut HO 8 (i+1) xs.length cap),none,none]:List (Option Value)).getD Rt none,fun _ _=>_,[],[[]]⟩ G mixed AJw (ABy G) G ?_ ?_
  · exact⟨fun V Az _=>GK (An G G<|GH G G G G),fun V Az _=>GK (An G G<|GH G G G G),fun V Az _=>GK (PO G Ox G AJv G<|GH G G G G),fun V Az _=>GK (An G G<|GH G G G G),fun V Az _=>GK (An G G<|GH G G G G),fun V Az _=>GK (H2 G Ox G AJv Kn G<|GH G G G G),trivial⟩
  ·
   intro V _;refine Xz [(22,.slice (some ⟨HO,0,none⟩) i cap),(25,cut HO 8 (i+1) xs.length cap),(7,_)] [] (Bs G) Br<|ni 0 (k:=i) (j:=i+1) G G G QQ AJv AJv G ?_;rw[<-AJV];exact U 1 G<|Ac<|Ae<|U 2 G<|WN G AJC G<|An G G<|tk G Ox G G AJv Kn G<|Z' 0 G G QQ SO G (by rw[List.length_eraseIdx,AA_ Ag];omega) AJv Kn (fun a f=>f.Su _)<|Ac<|AF 2 G<|rt<|Bq () G G trivial G Aa
variable(a:AD) (Cw:Value) (n le:Int)
theorem Ab2{l:List BD}(h:LI l=true){j:Nat}(Ay:j<l.length):0<=(l.getD j default).Bn/\(l.getD j default).Bn<=100:=by
 have Af:=jx h j Ay;have h2:=(Wy h Ay).2.1;omega
theorem AiE:(0<=Jx a/\Jx a<18446744073709551616)/\0<=K4 a/\K4 a<18446744073709551616:=by
 constructor
 ·
  unfold Jx;split<;>omega
 ·
  unfold K4;split<;>omega
theorem TY{n p i:Int}(Ao:0<=n)(AH:0<=p):0<=JA n p i:=by
 unfold JA;split
 · exact Int.le_refl _
 ·
  have:=Int.ediv_nonneg Ao AH;split<;>omega
theorem ek{n:Int}(h:0<=n):0<=H' n:=by unfold H';omega
theorem oW{n:Int}(h:0<=n):A' (H' n):=by unfold H';exact⟨AJv,AJv⟩
theorem rC{v n:Int}(BC:A' v)(Bw:0<=v)(Ao:0<=n):A' (Iw v n):=by
 obtain⟨Af,h2⟩:=BC;unfold Iw;exact⟨AJv,AJv⟩
section
variable{a:AD} {n le nd:Int} {CA:List BD}
theorem AaB(Mz:CA=if G9 (fun x:BD=>x.Bn) Go.Apw.AGl n a.A0=true then a.A0 else FO (Cz (fun x:BD=>x.Bn) Go.Apw.AGl n a.A0) ⟨n,le,0,0⟩ a.A0):CA.getD (Cz (fun x:BD=>x.Bn) Go.Apw.AGl n a.A0) default=JW a n le/\Cz (fun x:BD=>x.Bn) Go.Apw.AGl n a.A0<CA.length:=by
 have AH:=St (key:=fun x:BD=>x.Bn) (lt:=Go.Apw.AGl) n a.A0;unfold JW;cases AE:G9 (fun x:BD=>x.Bn) Go.Apw.AGl n a.A0 with
 |true=>
  rw[AE,AA_ rfl]at Mz;rw[AA_ rfl,Mz];refine⟨G,?_⟩;unfold G9 at AE;simp only[ABb,ABa]at AE;exact AE.1
 |false=>
  rw[AE,AA9 AJx]at Mz;rw[AA9 AJx,Mz];refine⟨?_,by rw[Sh _ _ _ AH];omega⟩;rw[ACn,FO,List.getElem?_append_right (by rw[ABz];omega),ABz,ADH AH,ADI];rfl
theorem jv(w:D3 a)(ok:Fw a){i:Nat}(AJ:CA.getD i default=JW a n le)(Ao:1<=n/\n<=5)(AN:1<=le/\le<=EW):A' (CA.getD i default).DV/\0<=(CA.getD i default).DV:=by
 have h:=a_ ok.hold w Ao AN;rw[AJ];exact⟨h.2.2.1.2.2.1,h.2.1.up⟩
theorem jw(w:D3 a)(ok:Fw a){i:Nat}{u:Int}(AJ:CA.getD i default=JW a n le)(Ag:i<CA.length)(Ao:1<=n/\n<=5)(AN:1<=le/\le<=EW):A' ((CA.set i {CA.getD i default with DV:=u}).getD i default).Fc/\0<=((CA.set i {CA.getD i default with DV:=u}).getD i default).Fc:=by
 have h:=a_ ok.hold w Ao AN;have e:(CA.set i {CA.getD i default with DV:=u}).getD i default={CA.getD i default with DV:=u}:=by
  rw[ACn,ACP Ag];rfl
 rw[e];show A' (CA.getD i default).Fc/\0<=(CA.getD i default).Fc;rw[AJ];exact⟨h.2.2.1.2.2.2,h.2.1.GV⟩
theorem q3(w:D3 a)(ok:Fw a){i:Nat}{s:Int}(AJ:CA.getD i default=JW a n le)(Ao:1<=n/\n<=5)(AN:1<=le/\le<=EW)(hs:0<=s):({CA.getD i default with DV:=Iw (CA.getD i default).DV (H' s)}:BD).wf:=by
 have h:=a_ ok.hold w Ao AN;have Af:=jv w ok AJ Ao AN;have Bo:(CA.getD i default).wf:=by rw[AJ];exact h.2.2.1
 exact⟨Bo.1,Bo.2.1,rC Af.1 Af.2 (ek hs),Bo.2.2.2⟩
theorem Adu(w:D3 a)(ok:Fw a){i:Nat}{s t:Int}(AJ:CA.getD i default=JW a n le)(Ag:i<CA.length)(Ao:1<=n/\n<=5)(AN:1<=le/\le<=EW)(hs:0<=s)(Av:0<=t):
  ({(CA.set i {CA.getD i default with DV:=Iw (CA.getD i default).DV (H' s)}).getD i default with Fc:=Iw ((CA.set i {CA.getD i default with DV:=Iw (CA.getD i default).DV (H' s)}).getD i default).Fc (H' t)}:BD).wf:=by
 have Af:=jw (u:=Iw (CA.getD i default).DV (H' s)) w ok AJ Ag Ao AN;have e:(CA.set i {CA.getD i default with DV:=Iw (CA.getD i default).DV (H' s)}).getD i default={CA.getD i default with DV:=Iw (CA.getD i default).DV (H' s)}:=by
  rw[ACn,ACP Ag];rfl
 have Bo:=q3 w ok AJ Ao AN hs;rw[<-e]at Bo;exact⟨Bo.1,Bo.2.1,Bo.2.2.1,rC Af.1 Af.2 (ek Av)⟩
theorem AaC{r f:Int}(w:D3 a)(ok:Fw a)(Mz:CA=if G9 (fun x:BD=>x.Bn) Go.Apw.AGl n a.A0=true then a.A0 else FO (Cz (fun x:BD=>x.Bn) Go.Apw.AGl n a.A0) ⟨n,le,0,0⟩ a.A0)(AJ:CA.getD (Cz (fun x:BD=>x.Bn) Go.Apw.AGl n a.A0) default=JW a n le)(Ag:Cz (fun x:BD=>x.Bn) Go.Apw.AGl n a.A0<CA.length)(Ao:1<=n/\n<=5)(AN:1<=le/\le<=EW):
  (CA.set (Cz (fun x:BD=>x.Bn) Go.Apw.AGl n a.A0) {CA.getD (Cz (fun x:BD=>x.Bn) Go.Apw.AGl n a.A0) default with DV:=Iw (CA.getD (Cz (fun x:BD=>x.Bn) Go.Apw.AGl n a.A0) default).DV (H' (JA r (nd+1) nd))}).set (Cz (fun x:BD=>x.Bn) Go.Apw.AGl n a.A0)
   {(CA.set (Cz (fun x:BD=>x.Bn) Go.Apw.AGl n a.A0) {CA.getD (Cz (fun x:BD=>x.Bn) Go.Apw.AGl n a.A0) default with DV:=Iw (CA.getD (Cz (fun x:BD=>x.Bn) Go.Apw.AGl n a.A0) default).DV (H' (JA r (nd+1) nd))}).getD (Cz (fun x:BD=>x.Bn) Go.Apw.AGl n a.A0) default with
    Fc:=Iw ((CA.set (Cz (fun x:BD=>x.Bn) Go.Apw.AGl n a.A0) {CA.getD (Cz (fun x:BD=>x.Bn) Go.Apw.AGl n a.A0) default with DV:=Iw (CA.getD (Cz (fun x:BD=>x.Bn) Go.Apw.AGl n a.A0) default).DV (H' (JA r (nd+1) nd))}).getD (Cz (fun x:BD=>x.Bn) Go.Apw.AGl n a.A0) default).Fc (H' (JA f (nd+1) nd))}
  =FQ (fun x:BD=>x.Bn) AGl (Sn (JW a n le) r f nd) a.A0:=by
 have AbX:=(a_ ok.hold w Ao AN).1;rw[ACn (l:=CA.set _ _),ACP Ag,AJ,List.set_set];have OZ:(Sn (JW a n le) r f nd).Bn=n:=AbX;rw[FQ];simp only[OZ];have AH:=St (key:=fun x:BD=>x.Bn) (lt:=Go.Apw.AGl) n a.A0;cases AE:G9 (fun x:BD=>x.Bn) Go.Apw.AGl n a.A0 with
 |true=>
  rw[AE,AA_ rfl]at Mz;rw[AA_ rfl,Mz];rfl
 |false=>
  rw[AE,AA9 AJx]at Mz;rw[AA9 AJx,Mz,FO,FO,List.set_append_right _ _ (by rw[ABz];omega),ABz,ADH AH,ADI];rfl
end
theorem oT:IC a n=(V8 a n,WK a n):=by
 unfold IC V8 WK a';cases Yn:E4 a
 · rfl
 ·
  rw[AA9 AJx,AA_ rfl];cases Gd a.A0.length (fun j=>decide ((a.A0.getD j default).Bn=n))<;>rfl
theorem zH:(IC a n).1=V8 a n:=by rw[oT]
theorem zI:(IC a n).2=WK a n:=by rw[oT]
theorem zJ{a:AD}(w:D3 a)(n:Int):(IC a n).1.wf/\0<=(IC a n).1.Fc:=by
 cases h:(IC a n).2 with
 |true=>
  obtain⟨Af,h2,_⟩:=oU h;obtain⟨i,Ag,e⟩:=List.getElem_of_mem h2;have:=(Wy ((P3 w.sp).1 Af).hold Ag).2.2.2.2;rw[Go.A_.G3 Ag,e]at this;exact⟨w.A7 _ h2,this⟩
 |false=>
  have e:(IC a n).1=⟨0,0,0,0⟩:=by
   unfold IC at h ⊢;split
   · rfl
   ·
    rename_i Yn;rw[AA9 Yn]at h;cases DC:Gd a.A0.length (fun j=>decide ((a.A0.getD j default).Bn=n))with
    |none=>rfl
    |some j=>rw[DC]at h;cases h
  rw[e];exact⟨⟨⟨AJx,AJx⟩,⟨AJx,AJx⟩,⟨AJx,AJx⟩,⟨AJx,AJx⟩⟩,AJx⟩
theorem Aip(h:BD)(v1:Value)(n:Int)(_:h.wf):Cv AG 153 [.agg (JH h).toArray,v1] [⟨v1,(⟨n⟩:Cq Int)⟩] (.bool (decide (h.Bn=n))):=by
 exact Aw.proof Tryz.func153 G 8 G G fun X w=>Ae<|CV G G G fun Dh=>U 1 G<|Ac<|Ae<|AX 2 [0] G G<|CQ 0 G G (A2 G) G fun Xt=>U 2 G<|Ac<|rt<|AQ<|Bq () G G AJy G Aa
theorem Air(r IG:Int)(Z:AD×Int)(AW:Mk a n le r IG=Z)(C6:a.wf)(MB:A' n)(eH:A' le)(i':A' r)(Abb:A' IG):Aw AG 79 [.agg (A3 a Cw).toArray,.int .i64 n,.int .i64 le,.int .i64 r,.int .i64 IG] [] [⟨Cw,a.A0⟩] (fun(y:Value) u=>u=.tuple #[.agg (A3 Z.1 y).toArray,.int .i64 Z.2]) (fun _ _=>[]) (fun y _=>[⟨y,Z.1.A0⟩]):=by
 refine Aw.proof Tryz.func79 G 71 G G fun X w=>?_;obtain⟨Yk,Yl⟩:=id MB;obtain⟨Aa',Aba⟩:=id eH;obtain⟨Abc,Abd⟩:=id i';obtain⟨Am9,Am_⟩:=id Abb;refine DJ (α:=BD) ?_;refine HP (q:=∀x∈a.A0,x.wf) (fun S w h=>O7 (s:=MN) (h _ (AA' (i:=1) G))) fun F5=>?_;have hw:D3 a:=⟨C6,F5⟩;refine Ae<|CV G G G fun E'=>CV G G G fun Hg=>CT Hd G fun ho=>U 1 G<|Ac<|Am<|Ae<|BJ 2 (A3 a Cw) G G (At G) G G<|B0 (Ps _ _ C6) (Ar G) G (Ad 1 G Aa) G<|IH G G<|Ac<|BN G (fun CR=>?_) (fun CR=>?_)
 ·
  have Ii:E4 a=false:=(by first|exact CR|exact BS.1 CR|exact(fun q=>BS.2 q CR)|exact(fun q=>ABd (CR.symm.trans q))|simpa using CR)
  have AB:((Fj,21):AD×Int)=Z:=(by rw[<-AW,Mk,AA_ Ii]);subst AB;exact Ae<|Db (ps:=[]) (cs:=(A3 FX AI)) AJy AJw G<|BZ 0 (us:=(A3 FX AI)) G G G (At G) G G<|U 1 G<|Ac<|BA<|D8 AI [_,_,_] (Fp 0 G G G G (At G)) AJy G (Ad 0 G Aa)
 ·
  have Ii:¬(E4 a=false):=(by first|exact CR|exact BS.1 CR|exact(fun q=>BS.2 q CR)|exact(fun q=>ABd (CR.symm.trans q))|simpa using CR)
  obtain⟨AbH,pz⟩:=zJ hw n;refine AZ<|Ae<|BJ 2 (A3 a Cw) G G (At G) G G<|AX 1 [1] G G<|B0 (zK a _ n C6) (Ar G) G (Ad 1 G Aa) G ?_;rw[<-zH,<-zI];refine U 3 G<|CT Um G fun ns=>BZ 0 (us:=(JH ((IC a n).1))) G G G (At G) G G<|U 1 G<|Ac<|Am<|B5<|Ae<|U 2 G<|An G G<|ET 27 5 [0] [3,4,5,6,10,12] G G G<|U 1 G<|Ac<|BN G (fun F3=>?_) (fun F3=>?_)
  ·
   have MJ:(!(IC a n).2|| !decide ((IC a n).1.G0=le))=true:=(by first|exact F3|exact BS.1 F3|exact(fun q=>BS.2 q F3)|exact(fun q=>ABd (F3.symm.trans q))|simpa using F3)
   have AB:((Fj,151):AD×Int)=Z:=(by rw[<-AW,Mk,AA9 Ii,AA_ MJ]);subst AB;exact Ae<|Db (ps:=[]) (cs:=(A3 FX AI)) AJy AJw G<|BZ 1 (us:=(A3 FX AI)) G G G (At G) G G<|U 1 G<|Ac<|rt<|C9<|Cd<|D8 AI [_,_,_,_] (Fp 1 G G G G (At G)) AJy G (Ad 0 G Aa)
  ·
   have MJ:¬((!(IC a n).2|| !decide ((IC a n).1.G0=le))=true):=(by first|exact F3|exact BS.1 F3|exact(fun q=>BS.2 q F3)|exact(fun q=>ABd (F3.symm.trans q))|simpa using F3)
   refine Ae<|AX 4 [3] G G<|ET 38 5 [3] [4,5,6,10,12] G G G<|U 1 G<|Ac<|BN G (fun FN=>?_) (fun FN=>?_)
   ·
    have Qu:(decide (a.Cn=0)|| !decide (a.Cn=r))=true:=(by first|exact FN|exact BS.1 FN|exact(fun q=>BS.2 q FN)|exact(fun q=>ABd (FN.symm.trans q))|simpa using FN)
    have AB:((Fj,152):AD×Int)=Z:=(by rw[<-AW,Mk,AA9 Ii,AA9 MJ,AA_ Qu]);subst AB;exact Ae<|Db (ps:=[]) (cs:=(A3 FX AI)) AJy AJw G<|BZ 1 (us:=(A3 FX AI)) G G G (At G) G G<|U 1 G<|Ac<|rt<|C9<|Cd<|D8 AI [_,_,_,_] (Fp 1 G G G G (At G)) AJy G (Ad 0 G Aa)
   ·
    have Qu:¬((decide (a.Cn=0)|| !decide (a.Cn=r))=true):=(by first|exact FN|exact BS.1 FN|exact(fun q=>BS.2 q FN)|exact(fun q=>ABd (FN.symm.trans q))|simpa using FN)
    refine Ae<|AX 5 [0] G G ?_;refine DE 50 6 [4,5,6,10] G G (fun Ra g4=>by
     have Aoe:=ACe Ra;exact AX 3 [0] G G<|Bl G G G<|fl G (BV (by have:=AbH.2.2.2;obtain⟨_,_⟩:=this;omega) AJv) G<|U 2 G<|g4 G Br) ?_
    refine U 1 G<|Ac<|BN G (fun EN=>?_) (fun EN=>?_)
    ·
     have Jw:(decide (IG>(IC a n).1.DV)||decide (IG< -(IC a n).1.Fc))=true:=(by first|exact EN|exact BS.1 EN|exact(fun q=>BS.2 q EN)|exact(fun q=>ABd (EN.symm.trans q))|simpa using EN)
     have AB:((Fj,150):AD×Int)=Z:=(by rw[<-AW,Mk,AA9 Ii,AA9 MJ,AA9 Qu,AA_ Jw]);subst AB;exact Ae<|Db (ps:=[]) (cs:=(A3 FX AI)) AJy AJw G<|BZ 1 (us:=(A3 FX AI)) G G G (At G) G G<|U 1 G<|Ac<|rt<|C9<|Cd<|D8 AI [_,_,_,_] (Fp 1 G G G G (At G)) AJy G (Ad 0 G Aa)
    ·
     have Jw:¬((decide (IG>(IC a n).1.DV)||decide (IG< -(IC a n).1.Fc))=true):=(by first|exact EN|exact BS.1 EN|exact(fun q=>BS.2 q EN)|exact(fun q=>ABd (EN.symm.trans q))|simpa using EN)
     have AB:(({a with BT:=a.BT+IG,A0:=a.A0.filter (fun h=> !decide (h.Bn=n))},0):AD×Int)=Z:=(by rw[<-AW,Mk,AA9 Ii,AA9 MJ,AA9 Qu,AA9 Jw]);subst AB;have Kp:A' (a.BT+IG):=by
      have q:=(lf hw (by rw[AW])).2.2.2.2.2.2.2.2.2.wf.2.2.1;rw[AW]at q;exact q
     have aQ:a.A0.length<=100000:=(ABB (S0 (by simpa using Ii)) AJx);refine EG<|CU<|A5<|Ae<|BJ 3 (A3 a Cw) G G (At G) G G<|Dm (Uy _ _ C6 aQ) (Ar G) G (Ad 1 G Aa) G fun AlJ QB JS=>?_;subst JS;refine GZ 0 G fun Afi=>?_;refine BZ 4 (us:=(A3 a AlJ)) G G G (At G) (by simp only[ABn,ABr,ABp,Afi];rfl) G<|Ac<|Ae<|AX 3 [4] G G<|C5 G G Kp G<|U 1 G<|Fi 4 G G G (A2 G) G (Da G)<|Ac<|Ae<|AX 2 [4] G G<|Nd (xs:=[.tmp 6]) G G<|D9 3 G<|M4 (α:=Int) n (fun S w h=>⟨G,MB⟩)<|AeB<|D9 1 G<|Hs 2 (yy _ _ 153 #[.pointer (some ⟨Hg,0,none⟩)] [⟨.pointer (some ⟨Hg,0,none⟩),(⟨n⟩:Cq Int)⟩] [] rK (fun h=>decide (h.Bn=n)) (fun _ _ _=>DU.nil) (Ar G) (fun x Ab=>Aip x _ n Ab)) (Ar G) G G (Ad 0 G Aa) G fun _ mn _=>U 1 G<|IL 4 0 G G G G (A2 G) (Da G)<|Ac<|Am<|RY<|rg<|BJ 3 (A3 ((⟨a.Al,(⟨a.Cs.A6,a.Cs.Bc⟩:GC),(a.BT+IG),a.Cn,(a.A0.filter (fun h=> !decide (h.Bn=n))),(⟨a.BG.Ap,a.BG.As,a.BG.DH,a.BG.B2⟩:F_)⟩:AD)) mn) G G (At G) G G<|Cp 0 G fun Ae4=>?_;exact BZ 2 (us:=(A3 ((⟨a.Al,(⟨a.Cs.A6,a.Cs.Bc⟩:GC),(a.BT+IG),a.Cn,(a.A0.filter (fun h=> !decide (h.Bn=n))),(⟨a.BG.Ap,a.BG.As,a.BG.DH,a.BG.B2⟩:F_)⟩:AD)) mn)) G G G (At G) (by simp only[ABn,ABr,ABp,Ae4];rfl) G<|U 1 G<|Ac<|rt<|D8 mn [_,_,_,_] (Fp 2 G G G G (At G)) AJy G (Ad 0 G Aa)
theorem AaA(nd:Int)(Z:AD×Int)(AW:Kl a n le nd=Z)(C6:a.wf)(MB:A' n)(eH:A' le)(Tk:A' nd):Aw AG 58 [.agg (A3 a Cw).toArray,.int .i64 n,.int .i64 le,.int .i64 nd] [] [⟨Cw,a.A0⟩] (fun(y:Value) u=>u=.tuple #[.agg (A3 Z.1 y).toArray,.int .i64 Z.2]) (fun _ _=>[]) (fun y _=>[⟨y,Z.1.A0⟩]):=by
 refine Aw.proof Tryz.func58 G 112 G G fun X w=>?_;obtain⟨Yk,Yl⟩:=id MB;obtain⟨Aa',Aba⟩:=id eH;obtain⟨pk,pn⟩:=id Tk;refine DJ (α:=BD) ?_;refine HP (q:=∀x∈a.A0,x.wf) (fun S w h=>O7 (s:=MN) (h _ (AA' (i:=1) G))) fun F5=>?_;have hw:D3 a:=⟨C6,F5⟩;refine Ae<|CV G G G fun En=>CT Hd G fun K0=>U 1 G<|Ac<|Am<|B5<|Ae<|BJ 1 (A3 a Cw) G G (At G) G G<|B0 (Ps _ _ C6) (Ar G) G (Ad 1 G Aa) G<|IH G G<|U 1 G<|Ac<|BN G (fun Ft=>?_) (fun Ft=>?_)
 ·
  have KR:E4 a=false:=(by first|exact Ft|exact BS.1 Ft|exact(fun q=>BS.2 q Ft)|exact(fun q=>ABd (Ft.symm.trans q))|simpa using Ft)
  have AB:((Fj,21):AD×Int)=Z:=(by rw[<-AW,Kl,AA_ KR]);subst AB;exact Ae<|Db (ps:=[]) (cs:=(A3 FX AI)) AJy AJw G<|BZ 0 (us:=(A3 FX AI)) G G G (At G) G G<|U 1 G<|Ac<|rt<|C9<|Cd<|D8 AI [_,_] (Fp 0 G G G G (At G)) AJy G (Ad 0 G Aa)
 ·
  have KR:¬(E4 a=false):=(by first|exact Ft|exact BS.1 Ft|exact(fun q=>BS.2 q Ft)|exact(fun q=>ABd (Ft.symm.trans q))|simpa using Ft)
  refine Ae<|U 3 G<|ET 23 3 [] [1,2,3,4,8] G G G<|An G G<|ET 27 3 [] [1,2,3,4,8] G G G<|An G G<|ET 31 4 [] [1,2,3,4,8] G G G<|An G G<|ET 36 3 [] [1,2,3,4,8] G G G<|An G G<|ET 40 3 [] [1,2,3,4,8] G G G<|U 1 G<|Ac<|BN G (fun HQ=>?_) (fun HQ=>?_)
  ·
   have Qt:(decide (nd<1)||decide (nd>5)||decide (n<1)||decide (n>nd)||decide (le<1)||decide (le>EW))=true:=(by first|exact HQ|exact BS.1 HQ|exact(fun q=>BS.2 q HQ)|exact(fun q=>ABd (HQ.symm.trans q))|simpa using HQ)
   have AB:((Fj,1):AD×Int)=Z:=(by rw[<-AW,Kl,AA9 KR,AA_ Qt]);subst AB;exact Ae<|Db (ps:=[]) (cs:=(A3 FX AI)) AJy AJw G<|BZ 0 (us:=(A3 FX AI)) G G G (At G) G G<|U 1 G<|Ac<|rt<|C9<|Cd<|D8 AI [_,_] (Fp 0 G G G G (At G)) AJy G (Ad 0 G Aa)
  ·
   have Qt:¬((decide (nd<1)||decide (nd>5)||decide (n<1)||decide (n>nd)||decide (le<1)||decide (le>EW))=true):=(by first|exact HQ|exact BS.1 HQ|exact(fun q=>BS.2 q HQ)|exact(fun q=>ABd (HQ.symm.trans q))|simpa using HQ)
   refine Ae<|AX 4 [1] G G ?_;refine DE 49 3 [1,2,3,4,8] G G (fun R3 g3=>by
    have Af':=R3;simp only[ABI,ABa]at Af';exact Bl G G G<|BJ 1 (A3 a Cw) G G (At G) G G<|Bl G G G<|B0 (YP _ _ C6) (Ar G) G (Ad 1 G Aa) G<|U 1 G<|g3 G Br) ?_
   refine U 1 G<|Ac<|BN G (fun EN=>?_) (fun EN=>?_)
   ·
    have Jw:(!decide (a.Cn=0)||G_ a)=true:=(by first|exact EN|exact BS.1 EN|exact(fun q=>BS.2 q EN)|exact(fun q=>ABd (EN.symm.trans q))|simpa using EN)
    have AB:((Fj,152):AD×Int)=Z:=(by rw[<-AW,Kl,AA9 KR,AA9 Qt,AA_ Jw]);subst AB;exact Ae<|Db (ps:=[]) (cs:=(A3 FX AI)) AJy AJw G<|BZ 0 (us:=(A3 FX AI)) G G G (At G) G G<|U 1 G<|Ac<|rt<|C9<|Cd<|D8 AI [_,_] (Fp 0 G G G G (At G)) AJy G (Ad 0 G Aa)
   ·
    have Jw:¬((!decide (a.Cn=0)||G_ a)=true):=(by first|exact EN|exact BS.1 EN|exact(fun q=>BS.2 q EN)|exact(fun q=>ABd (EN.symm.trans q))|simpa using EN)
    have sz:=Qt;simp only[ABk,ABa,ABN]at sz;obtain⟨⟨⟨⟨⟨Hj,G1⟩,Jt⟩,NI⟩,ij⟩,AmT⟩:=sz;have po:E4 a=true:=(by simpa using KR);have CM:=(P3 C6.2.1).1 po;have aQ:a.A0.length<=100000:=(ABB (S0 po) AJx);have AN:∀j,j<a.A0.length->0<=(a.A0.getD j default).Bn/\(a.A0.getD j default).Bn<=100:=fun j Ay=>Ab2 CM.hold Ay;obtain⟨WC,Yp⟩:=AiE a;refine EG<|CU<|A5<|Ae<|BJ 1 (A3 a Cw) G G (At G) G G<|B0 (sR _ _ C6) (Ar G) G (Ad 1 G Aa) G<|U 5 G<|Ac<|Ae<|BJ 1 (A3 a Cw) G G (At G) G G<|Dm (Uy _ _ C6 aQ) (Ar G) G (Ad 1 G Aa) G fun HS uh Tg=>?_;subst Tg;refine GZ 0 G fun Afj=>?_;refine BZ 2 (us:=(A3 a HS)) G G G (At G) (by simp only[ABn,ABr,ABp,Afj];rfl) G<|Ac<|Ae<|AX 3 [2] G G<|P6 [⟨HS,a.A0⟩] (xI HS a.A0 n AN AJv AJv aQ) (Ar G) G (DU.row 0 G DU.nil) (Ad 0 G Aa) G<|U 5 G<|Ac<|Am<|AF 2 G<|qA (σ:=Value×List BD) [(3,_),(4,_),(8,_),(10,_),(11,_),(12,_)] _ (fun s C=>C) (fun s=>[@row BD Mj 63 s.1 s.2,AO En 43 (A3 a s.1),AO K0 43 N9,CL X w]) (fun s=>s.2=(if(G9 (fun x:BD=>x.Bn) Go.Apw.AGl n a.A0)=true then a.A0 else FO (Cz (fun x:BD=>x.Bn) Go.Apw.AGl n a.A0) ⟨n,le,0,0⟩ a.A0)) (Bs G) (Ad 1 G (Ad 0 G Aa)) ?_ ?_
    ·
     refine BN G (fun Ma=>?_) (fun Ma=>?_)
     · exact rg<|AX 5 [2] G G<|Db (ps:=[(0,.tmp 73),(1,.tmp 74)]) (cs:=(JH ((⟨n,le,0,0⟩:BD)))) AJy AJw G<|Lw G S1 G G G G fun xr=>D9 1 G<|Hs 2 (AcK HS a.A0 (Cz (fun x:BD=>x.Bn) Go.Apw.AGl n a.A0) xr ⟨n,le,0,0⟩ (St _ _) ⟨MB,eH,(show A' 0 from⟨AJx,AJx⟩),(show A' 0 from⟨AJx,AJx⟩)⟩ aQ) (Ar G) G G Aa G fun _ AkM _=>U 1 G<|IL 2 0 G G G G (A2 G) (Da G)<|nl<|Au 1 G<|Au 2 G<|Au 2 G<|e9 ((AkM,FO (Cz (fun x:BD=>x.Bn) Go.Apw.AGl n a.A0) ⟨n,le,0,0⟩ a.A0):Value×List BD) (by rw[AA9 (by simpa using Ma)]) (Bs G) G (Ad 1 G (Ad 0 G Aa))
     · exact EG<|Au 1 G<|Au 2 G<|Au 2 G<|e9 ((HS,a.A0):Value×List BD) (by rw[AA_ (by simpa using Ma)]) (Bs G) G (Ad 1 G (Ad 0 G Aa))
    ·
     rintro⟨BC,CA⟩ Mz;simp only at Mz;obtain⟨Wk,eC⟩:=AaB (le:=le) Mz;show Eg _ _ _ [(3,_),(4,_),(8,_),(10,_),(11,_),(12,_)] [@row BD Mj 63 BC CA,AO En 43 (A3 a BC),AO K0 43 N9,CL X w] _;refine A5<|Am<|Sw 0 G (show 0<CA.length by omega) fun HO cap Acn Kn ID=>?_;subst Acn;refine rg<|AX 3 [1] G G<|IF 0 ((Cz (fun x:BD=>x.Bn) Go.Apw.AGl n a.A0)) G G G I6 AJv AJv G<|U 1 G<|Ac<|Am<|Ow 14 mixed AJw<|U 2 G<|Kr 0 G G AJv G<|K3 0 G G AJv (BR G) G<|NR (s:=MN) 0 ((Cz (fun x:BD=>x.Bn) Go.Apw.AGl n a.A0)) 2 (fun _=>.int .i64 (CA.getD ((Cz (fun x:BD=>x.Bn) Go.Apw.AGl n a.A0)) default).DV) G G JP (fun _=>G) (A2 G) G fun Aot Api=>U 2 G<|C5 G G BV G<|An G G<|HD (te (Jx a) (nd+1) nd WC.1 WC.2 BV Tk) (Ar G) G Aa G<|HD (oV _ (TY WC.1 AJv)) (Ar G) G Aa G<|HD (rA _ _ (jv hw CM Wk ⟨AJv,AJv⟩ ⟨AJv,AJv⟩).1 (oW (TY WC.1 AJv)) (jv hw CM Wk ⟨AJv,AJv⟩ ⟨AJv,AJv⟩).2 (ek (TY WC.1 AJv))) (Ar G) G Aa G<|Kr 0 G G AJv G<|K3 0 G G AJv (BR G) G<|Oq<|Sz (s:=MN) 0 ((Cz (fun x:BD=>x.Bn) Go.Apw.AGl n a.A0)) 2 () (ov':=({(CA.getD ((Cz (fun x:BD=>x.Bn) Go.Apw.AGl n a.A0)) default)with DV:=(Iw (CA.getD (Cz (fun x:BD=>x.Bn) Go.Apw.AGl n a.A0) default).DV (H' (JA (Jx a) (nd+1) nd)))}:BD)) G G G G JP (ABy G) (fun _=>G) Aa (q3 hw CM Wk ⟨AJv,AJv⟩ ⟨AJv,AJv⟩ (TY WC.1 AJv)) (A2 G)<|Ac<|Am<|Ow 14 mixed AJw<|U 2 G<|Kr 0 G G (by simp only[ABj];omega) G<|K3 0 G G (by simp only[ABj];omega) (BR G) G<|NR (s:=MN) 0 ((Cz (fun x:BD=>x.Bn) Go.Apw.AGl n a.A0)) 3 (fun _=>.int .i64 ((CA.set ((Cz (fun x:BD=>x.Bn) Go.Apw.AGl n a.A0)) ({(CA.getD ((Cz (fun x:BD=>x.Bn) Go.Apw.AGl n a.A0)) default)with DV:=(Iw (CA.getD (Cz (fun x:BD=>x.Bn) Go.Apw.AGl n a.A0) default).DV (H' (JA (Jx a) (nd+1) nd)))}:BD)).getD ((Cz (fun x:BD=>x.Bn) Go.Apw.AGl n a.A0)) default).Fc) G G (Ly (d:=default) (by simp only[ABj];omega)) (fun _=>G) (A2 G) G fun Aom AoZ=>U 2 G<|C5 G G BV G<|An G G<|HD (te (K4 a) (nd+1) nd Yp.1 Yp.2 BV Tk) (Ar G) G Aa G<|HD (oV _ (TY Yp.1 AJv)) (Ar G) G Aa G<|HD (rA _ _ (jw hw CM Wk eC ⟨AJv,AJv⟩ ⟨AJv,AJv⟩).1 (oW (TY Yp.1 AJv)) (jw hw CM Wk eC ⟨AJv,AJv⟩ ⟨AJv,AJv⟩).2 (ek (TY Yp.1 AJv))) (Ar G) G Aa G<|Kr 0 G G (by simp only[ABj];omega) G<|K3 0 G G (by simp only[ABj];omega) (BR G) G<|Oq<|Sz (s:=MN) 0 ((Cz (fun x:BD=>x.Bn) Go.Apw.AGl n a.A0)) 3 () (ov':=({((CA.set ((Cz (fun x:BD=>x.Bn) Go.Apw.AGl n a.A0)) ({(CA.getD ((Cz (fun x:BD=>x.Bn) Go.Apw.AGl n a.A0)) default)with DV:=(Iw (CA.getD (Cz (fun x:BD=>x.Bn) Go.Apw.AGl n a.A0) default).DV (H' (JA (Jx a) (nd+1) nd)))}:BD)).getD ((Cz (fun x:BD=>x.Bn) Go.Apw.AGl n a.A0)) default)with Fc:=(Iw ((CA.set (Cz (fun x:BD=>x.Bn) Go.Apw.AGl n a.A0) ({(CA.getD (Cz (fun x:BD=>x.Bn) Go.Apw.AGl n a.A0) default)with DV:=(Iw (CA.getD (Cz (fun x:BD=>x.Bn) Go.Apw.AGl n a.A0) default).DV (H' (JA (Jx a) (nd+1) nd)))}:BD)).getD (Cz (fun x:BD=>x.Bn) Go.Apw.AGl n a.A0) default).Fc (H' (JA (K4 a) (nd+1) nd)))}:BD)) G G G G (Ly (d:=default) (by simp only[ABj];omega)) (ABy G) (fun _=>G) Aa (Adu hw CM Wk eC ⟨AJv,AJv⟩ ⟨AJv,AJv⟩ (TY WC.1 AJv) (TY Yp.1 AJv)) (A2 G)<|Ac<|Am ?_;have G7:((CA.set (Cz (fun x:BD=>x.Bn) Go.Apw.AGl n a.A0) ({(CA.getD (Cz (fun x:BD=>x.Bn) Go.Apw.AGl n a.A0) default)with DV:=(Iw (CA.getD (Cz (fun x:BD=>x.Bn) Go.Apw.AGl n a.A0) default).DV (H' (JA (Jx a) (nd+1) nd)))}:BD)).set (Cz (fun x:BD=>x.Bn) Go.Apw.AGl n a.A0) ({((CA.set (Cz (fun x:BD=>x.Bn) Go.Apw.AGl n a.A0) ({(CA.getD (Cz (fun x:BD=>x.Bn) Go.Apw.AGl n a.A0) default)with DV:=(Iw (CA.getD (Cz (fun x:BD=>x.Bn) Go.Apw.AGl n a.A0) default).DV (H' (JA (Jx a) (nd+1) nd)))}:BD)).getD (Cz (fun x:BD=>x.Bn) Go.Apw.AGl n a.A0) default)with Fc:=(Iw ((CA.set (Cz (fun x:BD=>x.Bn) Go.Apw.AGl n a.A0) ({(CA.getD (Cz (fun x:BD=>x.Bn) Go.Apw.AGl n a.A0) default)with DV:=(Iw (CA.getD (Cz (fun x:BD=>x.Bn) Go.Apw.AGl n a.A0) default).DV (H' (JA (Jx a) (nd+1) nd)))}:BD)).getD (Cz (fun x:BD=>x.Bn) Go.Apw.AGl n a.A0) default).Fc (H' (JA (K4 a) (nd+1) nd)))}:BD))=(FQ (fun x:BD=>x.Bn) Go.Apw.AGl (Sn (JW a n le) (Jx a) (K4 a) nd) a.A0):=AaC hw CM Mz Wk eC ⟨AJv,AJv⟩ ⟨AJv,AJv⟩;have Anu:CA.length=(FQ (fun x:BD=>x.Bn) Go.Apw.AGl (Sn (JW a n le) (Jx a) (K4 a) nd) a.A0).length:=(by rw[<-G7,ABj,ABj]);rw[G7];have AB:(({a with A0:=(FQ (fun x:BD=>x.Bn) Go.Apw.AGl (Sn (JW a n le) (Jx a) (K4 a) nd) a.A0)},0):AD×Int)=Z:=(by rw[<-AW,Kl,AA9 KR,AA9 Qt,AA9 Jw]);subst AB;exact RY<|rg<|BJ 0 (A3 ((⟨a.Al,(⟨a.Cs.A6,a.Cs.Bc⟩:GC),a.BT,a.Cn,(FQ (fun x:BD=>x.Bn) Go.Apw.AGl (Sn (JW a n le) (Jx a) (K4 a) nd) a.A0),(⟨a.BG.Ap,a.BG.As,a.BG.DH,a.BG.B2⟩:F_)⟩:AD)) (.slice (some ⟨HO,0,none⟩) CA.length cap)) G G (At G) G G<|BZ 1 (us:=(A3 ((⟨a.Al,(⟨a.Cs.A6,a.Cs.Bc⟩:GC),a.BT,a.Cn,(FQ (fun x:BD=>x.Bn) Go.Apw.AGl (Sn (JW a n le) (Jx a) (K4 a) nd) a.A0),(⟨a.BG.Ap,a.BG.As,a.BG.DH,a.BG.B2⟩:F_)⟩:AD)) (.slice (some ⟨HO,0,none⟩) CA.length cap))) G G G (At G) G G<|U 1 G<|Ac<|rt<|D8 (.slice (some ⟨HO,0,none⟩) CA.length cap) [_,_] (Fp 1 G G G G (At G)) AJy G (Ad 0 G Aa)
end Go.Apw
