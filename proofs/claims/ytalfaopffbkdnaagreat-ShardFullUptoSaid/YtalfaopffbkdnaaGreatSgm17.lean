/- Part 17 of shardFull_holds. -/
import Derived.Test.YtalfaopffbkdnaaGreatSgm16

set_option maxRecDepth 20000
set_option maxHeartbeats 1000000
open Go.A_ Go.Proofs Go.Proofs.YtalfaopffbkdnaaGreat
namespace Go.A_
open Go.RowKit
section
@[reducible] def rK:C4 where
 J:=[]
 holds _ _:=True
 valid:=by intro S w _ b Aq;cases Aq
 DY:=by intros;trivial
section
variable{c:Cj} {ops:Array Oper} {Q:AuE} {env:Env} {L:Own} {D:List Atom} {rest:List Oper} {d:Nat} {v:Value} {t:TypeId} {p:String} {af:Array Edge}
theorem AeB{l:List Oper}(k:Cb Q c ops l env (rK::L) D):Cb Q c ops l env L D:=fun a w f st AR=>
 k a w f (st.push (C8.refl _ _) trivial (by simp) (by simp)) (AR.push (C8.refl _ _) (by simp))
theorem hE(GJ:List Atom){f:FuncId}{vs us:List Value}{DB:List Atom}{v:Value}{first cap:Array Value}{x:Operand}(h:Cv c.P f us DB v)(CM:GU c.P f){xs:List Operand}{ats:Array TypeId}
 (Ab:AL env x=some (.func (.func f) first cap))(Hm:Gq env xs=some vs)(I1:first.toList++vs++cap.toList=us)(Ew:DU L GJ)(Cl:Bg DB (GJ++D))(Ao:Nat.blt d c.n=true)(k:Cb Q c ops rest ((d,v)::env) L D):
 Cb Q c ops (⟨some d,.call {callee:=.value x,args:=xs.toArray,argTypes:=ats},t,p,af,none⟩::rest) env L D:=by
 refine S4 (us:=us) (first:=first) (cap:=cap) (β:=Unit) (R:=fun _ u=>u=v) (out:=fun _ _=>D) Ab Hm I1 CM (fun _ _=>L) (fun w st AR=>?_) (fun _ u=>(d,u)::env) (fun _ u a Gw=>Gw.put u (EU Ao)) (fun _ u hu=>by subst hu;exact k)
 refine(h [] w (by simp[Own.J,Dt]) (by simp) (by simp) (fun t Av=>?_)).mono fun u AT ⟨hs,y,Fy,_⟩=>⟨(),Fy,?_,?_⟩
 · have:=ff Ew Cl st.own st.lt AR t Av;simpa[Own.J,Dt]using this
 · exact st.step (by simpa[Own.J,Dt]using hs)
 · exact AR.step (C8.nil (by simpa[Own.J,Dt]using hs))
end
section
variable{α:Type} [Inhabited α] {p:α->Bool} {xs ys:List α} {i j:Nat}
theorem gl(h:j<xs.length):xs.take (j+1)=xs.take j++[xs.getD j default]:=by
 rw[List.take_add_one];simp[List.getD,List.getElem?_eq_getElem h]
theorem om(h:j<xs.length)(AH:p (xs.getD j default)=true):(xs.take (j+1)).filter (fun x=> !p x)=(xs.take j).filter (fun x=> !p x):=by
 rw[gl h,List.filter_append,List.filter_cons_of_neg (by rw[AH];decide),List.filter_nil,List.append_nil]
theorem yB(h:j<xs.length)(AH:p (xs.getD j default)=false):(xs.take (j+1)).filter (fun x=> !p x)=(xs.take j).filter (fun x=> !p x)++[xs.getD j default]:=by
 rw[gl h,List.filter_append,List.filter_cons_of_pos (by rw[AH];decide),List.filter_nil]
theorem oj(AJ:ys.drop j=xs.drop j):ys.getD j default=xs.getD j default:=by
 have h:=congrArg (fun l=>l.head?) AJ;simp only[List.head?_drop]at h;rw[List.getD_eq_getElem?_getD,List.getD_eq_getElem?_getD,h]
theorem dU(h:∀k,k<xs.length->p (xs.getD k default)=false):xs.filter (fun x=> !p x)=xs:=
 List.filter_eq_self.2 fun x Ab=>by
  obtain⟨k,AE,rfl⟩:=List.getElem_of_mem Ab;have:=h k AE;rw[List.getD_eq_getElem?_getD,List.getElem?_eq_getElem AE]at this;simpa using this
structure Nt (p:α->Bool) (xs:List α) (s:Nat×Nat×List α):Prop where
 lt:s.1<s.2.1
 le:s.2.1<=xs.length
 len:s.2.2.length=xs.length
 gw:s.2.2.take s.1=(xs.take s.2.1).filter (fun x=> !p x)
 ou:s.2.2.drop s.2.1=xs.drop s.2.1
theorem Nt.start(Ag:i<xs.length)(h:∀k,k<i->p (xs.getD k default)=false)(AH:p (xs.getD i default)=true):Nt p xs (i,i+1,xs):=
 ⟨Nat.lt_succ_self _,Ag,rfl,by
  show xs.take i=_;rw[om Ag AH];refine(dU fun k AE=>?_).symm;rw[List.length_take]at AE;rw[List.getD_eq_getElem?_getD,List.getElem?_take,if_pos (by omega),<-List.getD_eq_getElem?_getD];exact h k (by omega),rfl⟩
theorem Nt.yes(h:Nt p xs (i,j,ys))(Ay:j<xs.length)(AH:p (ys.getD j default)=true):Nt p xs (i,j+1,ys):=
 ⟨Nat.lt_succ_of_lt h.lt,Ay,h.len,by
  rw[oj h.ou]at AH;exact h.gw.trans (om Ay AH).symm,by
  show ys.drop (j+1)=xs.drop (j+1);rw[<-List.drop_drop,<-List.drop_drop];exact congrArg (List.drop 1) h.ou⟩
theorem Nt.no(h:Nt p xs (i,j,ys))(Ay:j<xs.length)(AH:p (ys.getD j default)=false):Nt p xs (i+1,j+1,ys.set i (ys.getD j default)):=by
 obtain⟨Af,h2,Bo,BB,C'⟩:=h;simp only at Af h2 Bo BB C';have e:=oj C';refine⟨Nat.succ_lt_succ Af,Ay,by simpa using Bo,?_,?_⟩
 · show(ys.set i (ys.getD j default)).take (i+1)=_;rw[yB Ay (by rw[<-e];exact AH),<-BB,<-e];refine List.ext_getElem? fun k=>?_;by_cases AE:k<i
   · rw[List.getElem?_take,if_pos (by omega),List.getElem?_set_ne (by omega),List.getElem?_append_left (by rw[List.length_take];omega),List.getElem?_take,if_pos AE]
   · by_cases a3:k=i
     · subst a3;rw[List.getElem?_take,if_pos (by omega),List.getElem?_set_self (by omega),List.getElem?_append_right (by rw[List.length_take];omega),List.length_take,Nat.min_eq_left (by omega),Nat.sub_self];rfl
     · rw[List.getElem?_eq_none (by rw[List.length_take];omega),List.getElem?_eq_none (by rw[List.length_append,List.length_take];simp;omega)]
 · show(ys.set i (ys.getD j default)).drop (j+1)=xs.drop (j+1);rw[List.drop_set_of_lt (by omega),<-List.drop_drop,<-List.drop_drop];exact congrArg (List.drop 1) C'
omit [Inhabited α]in
theorem Nt.fin(h:Nt p xs (i,j,ys))(Ay:¬j<xs.length):ys.take i=xs.filter (fun x=> !p x):=by
 have e:j=xs.length:=by have:=h.le;simp only at this;omega
 subst e;have:=h.gw;simp only[List.take_length]at this;exact this
end
end
end Go.A_
namespace Go.Apw
theorem AcH(CP:Value)(l:List BD)(f:Nat)(D0:Array Value)(A:List Atom)(p:BD->Bool)(CM:GU AG f)(E5:∀(x:BD),x.wf->Cv AG f (.agg (JH x).toArray::D0.toList) (A) (.bool (p x))):Cv AG 293 [CP,.func (.func f) #[] D0] (⟨CP,l⟩::A) (.int .i64 (HI (Gd l.length (fun j=>p (l.getD j default))))):=by
 refine Aw.proof Tryz.func293 G 19 G G fun X w=>AF 1 G<|Am<|Ae<|An G G<|C2 0 G G Tryz.underlying69 G fun MD=>An G G<|Ac<|B5<|Ji (σ:=Nat) [(0,_),(1,_),(7,_)] _ (fun i C=>(8,.int .i64 (i:Int))::C) (fun i=>i<=l.length/\(∀j,j<i->p (l.getD j default)=false)) (fun i=>l.length-i) 0 (Bs G) (Ad 0 G (Bg.tail Br)) ⟨Nat.zero_le _,fun j Ay=>absurd Ay (Nat.not_lt_zero j)⟩ (Bs G) ?_;rintro i ⟨Ag,C0⟩;refine AF 1 G<|Am<|B9 G (fun EO=>?_) (fun EO=>?_)
 ·
  refine AZ<|Am<|B5<|AF 2 G<|Ae<|U 2 G<|An G G<|Fo 0 G G G I6 G fun PS=>Gi 0 G G (At G) G fun KR N6=>QV (E5 _ N6) CM G G G (Bg.tail (Bg.tail (Bg.tail Br))) G fun Ui Mn V4=>?_;obtain rfl:Mn=.bool (p (l.getD i default)):=V4;refine Ac<|BN G (fun CR=>?_) (fun CR=>?_)
  · exact AF 2 G<|rt<|C9<|Cd<|Cd<|C9<|Cd<|Bq () G G (by rw[Tc (j:=i) (by omega) C0 CR];try rfl) G Aa
  ·
   refine EG<|CU<|A5<|rg<|C5 G G BV G<|An G G<|nl ?_;exact Dy (i+1) ⟨(by omega),(Ki C0 (CR))⟩ (by omega) (Bs G) G (Ad 2 G (Bg.tail (Bg.tail (Bg.tail Br))))
 · exact ex<|Ck<|Ck<|D7<|A5<|AF 1 G<|rt<|Bq () G G (by rw[Tb (fun k AE=>C0 k (by omega))];try rfl) G Aa
theorem qo(CP:Value)(l:List AD)(f:Nat)(D0:Array Value)(A:List Atom)(p:AD->Bool)(CM:GU AG f)(E5:∀(x:AD) (KW:Value),x.wf->Cv AG f (.agg (A3 x KW).toArray::D0.toList) (⟨KW,x.A0⟩::A) (.bool (p x))):Cv AG 198 [CP,.func (.func f) #[] D0] (⟨CP,l⟩::A) (.int .i64 (HI (Gd l.length (fun j=>p (l.getD j default))))):=by
 refine Aw.proof Tryz.func198 G 19 G G fun X w=>AF 1 G<|Am<|Ae<|An G G<|C2 0 G G Tryz.underlying22 G fun MD=>An G G<|Ac<|B5<|Ji (σ:=Nat) [(0,_),(1,_),(7,_)] _ (fun i C=>(8,.int .i64 (i:Int))::C) (fun i=>i<=l.length/\(∀j,j<i->p (l.getD j default)=false)) (fun i=>l.length-i) 0 (Bs G) (Ad 0 G (Bg.tail Br)) ⟨Nat.zero_le _,fun j Ay=>absurd Ay (Nat.not_lt_zero j)⟩ (Bs G) ?_;rintro i ⟨Ag,C0⟩;refine AF 1 G<|Am<|B9 G (fun EO=>?_) (fun EO=>?_)
 ·
  refine AZ<|Am<|B5<|AF 2 G<|Ae<|U 2 G<|An G G<|Fo 0 G G G Gt G fun PS=>Gi 0 G G (At G) G fun KR N6=>QV (E5 _ _ N6) CM G G G (Ad 1 G (Bg.tail (Bg.tail (Bg.tail (Bg.tail Br))))) G fun Ui Mn V4=>?_;obtain rfl:Mn=.bool (p (l.getD i default)):=V4;refine Ac<|BN G (fun CR=>?_) (fun CR=>?_)
  · exact AF 2 G<|rt<|C9<|Cd<|Cd<|C9<|Cd<|Bq () G G (by rw[Tc (j:=i) (by omega) C0 CR];try rfl) G Aa
  ·
   refine EG<|CU<|A5<|rg<|C5 G G BV G<|An G G<|nl ?_;exact Dy (i+1) ⟨(by omega),(Ki C0 (CR))⟩ (by omega) (Bs G) G (Ad 3 G (Bg.tail (Bg.tail (Bg.tail (Bg.tail Br)))))
 · exact ex<|Ck<|Ck<|D7<|A5<|AF 1 G<|rt<|Bq () G G (by rw[Tb (fun k AE=>C0 k (by omega))];try rfl) G Aa
theorem kR{α:Type}[Inhabited α]{xs:List α}{p:α->Bool}(h:HI (Gd xs.length (fun j=>p (xs.getD j default)))= -1):∀k,k<xs.length->p (xs.getD k default)=false:=fun k AE=>by
 cases e:Gd xs.length (fun j=>p (xs.getD j default))with
 |none=>
  have:=List.find?_range_eq_none.1 e k AE;simpa using this
 |some j=>
  rw[e]at h;simp only[HI]at h;omega
theorem kS{α:Type}[Inhabited α]{xs:List α}{p:α->Bool}(h:¬HI (Gd xs.length (fun j=>p (xs.getD j default)))= -1):∃i,i<xs.length/\(∀k,k<i->p (xs.getD k default)=false)/\p (xs.getD i default)=true/\HI (Gd xs.length (fun j=>p (xs.getD j default)))=(i:Int):=by
 cases e:Gd xs.length (fun j=>p (xs.getD j default))with
 |none=>rw[e]at h;exact absurd rfl h
 |some i=>
  obtain⟨Af,h2,Bo⟩:=List.find?_range_eq_some.1 e;exact⟨i,List.mem_range.1 h2,fun k AE=>by simpa using Bo k AE,Af,G⟩
theorem yy(v:Value)(xs:List BD)(f:Nat)(D0:Array Value)(A GJ:List Atom)(q:C4)(p:BD->Bool)(AN:∀(L:Go.A_.Own) (i:Nat),L[i]? =some q->DU L GJ)(CM:GU AG f)(E5:∀(x:BD),x.wf->Cv AG f (.agg (JH x).toArray::D0.toList) ((GJ++A)) (.bool (p x))):Aw AG 241 [v,.func (.func f) #[] D0] [@row BD Mj 83 v xs,q] A (fun(_:Unit) _=>True) (fun _ u=>[@row BD Mj 83 u (xs.filter (fun x=> !p x)),q]) (fun _ _=>[]):=by
 refine Aw.proof Tryz.func241 G 42 G G fun X w=>AF 1 G<|Ae<|U 2 G<|P6 (⟨v,xs⟩::GJ) (AcH v xs f D0 (GJ++A) p CM E5) (Ar G) G (DU.row 0 G (AN _ 1 G)) Br G<|U 1 G<|Ac<|Am<|AF 2 G<|B9 G (fun EM=>?_) (fun EM=>?_)
 ·
  have Ao:∀k,k<xs.length->p (xs.getD k default)=false:=fun k AE=>kR EM k AE;have Ab:xs.filter (fun x=> !p x)=xs:=dU Ao;exact AF 2 G<|BA<|Bq () G G trivial (by rw[Ab]) Aa
 ·
  obtain⟨i0,OW,Tp,Jf,aZ⟩:=kS EM;rw[aZ];refine Sw 0 G (show 0<xs.length by omega) fun HO cap BC Kn ID=>?_;subst BC;have UZ:cap<=9223372036854775807:=ID;refine AZ<|Am<|Ae<|An G G<|Hf (r:=((i0+1:Nat):Int)) G G (by omega) (BV (by omega) (by simp only[maxLen]at ID;omega)) G<|U 1 G<|Ac<|B5<|Hx (σ:=Nat×Nat×List BD) [(0,_),(1,_)] _ (fun s C=>(5,.int .i64 (s.1:Int))::(6,.int .i64 (s.2.1:Int))::C) (fun s=>[@row BD Mj 83 (.slice (some ⟨HO,0,none⟩) xs.length cap) s.2.2,q,CL X w]) (fun _ Dw=>Dw) (fun s=>Nt p xs s) (fun s=>xs.length-s.2.1) (i0,i0+1,xs) (Bs G) Br (Nt.start OW Tp Jf) (Bs G) G Br ?_;rintro⟨i,j,ys⟩ DK;have Wi:=DK.lt;have aK:=DK.le;have aL:=DK.len;simp only at Wi aK aL;show CF _ _ _ [(5,.int .i64 ((i:Int))),(6,.int .i64 ((j:Int))),(0,_),(1,_)] [@row BD Mj 83 (.slice (some ⟨HO,0,none⟩) xs.length cap) ys,q,CL X w] _;refine Am<|Ae<|U 2 G<|JX 0 G G Tryz.underlying69 G fun qU=>U 1 G<|Ac<|B9 G (fun Fe=>?_) (fun Fe=>?_)
  ·
   refine AZ<|Am<|B5<|Ae<|U 2 G<|IF 0 (j) G G G I6 (by omega) (by omega) G<|Qk (s:=MN) 0 (j) G G JP (At G) G fun PL Vs=>CT Um G fun Jo=>BZ 0 (us:=(JH ((ys.getD (j) default)))) G G G (At G) G G<|Ac<|Ae<|An G G<|BJ 0 (JH ((ys.getD (j) default))) G G (At G) G G ?_;refine hE GJ (E5 _ Vs) CM G G G (AN _ 2 G) (fun t Av=>by
    rcases List.mem_append.1 Av with Av|Av
    · exact List.mem_append_left _ Av
    · exact List.mem_append_right _ ((Bg.tail Br) t Av)) G ?_
   refine IH G G<|Ac<|BN G (fun G5=>?_) (fun G5=>?_)
   ·
    refine Ae<|U 2 G<|BJ 0 (JH ((ys.getD (j) default))) G G (At G) G G<|IF 1 (i) G G G I6 (by omega) (by omega) G<|Qz (s:=MN) 1 (i) (ov:=(ys.getD (j) default)) () G G G (by omega) (At G) Aa Vs<|Ac<|rg<|An G G<|Hf (r:=((i+1:Nat):Int)) G G (by omega) (BV (by omega) (by simp only[maxLen]at ID;omega)) G<|U 1 G<|nl<|CU<|A5<|rg<|An G G<|Hf (r:=((j+1:Nat):Int)) G G (by omega) (BV (by omega) (by simp only[maxLen]at ID;omega)) G<|U 1 G<|nl<|AQ ?_;exact Dy ((i+1,j+1,ys.set i (ys.getD j default)):Nat×Nat×List BD) (DK.no (by omega) (by simpa using G5)) (by show xs.length-(j+1)<xs.length-j;omega) (Bs G) G (Bg.tail Br)
   ·
    refine EG<|CU<|A5<|rg<|An G G<|Hf (r:=((j+1:Nat):Int)) G G (by omega) (BV (by omega) (by simp only[maxLen]at ID;omega)) G<|U 1 G<|nl<|AQ ?_;exact Dy ((i,j+1,ys):Nat×Nat×List BD) (DK.yes (by omega) (by simpa using G5)) (by show xs.length-(j+1)<xs.length-j;omega) (Bs G) G (Bg.tail Br)
  ·
   have G7:=DK.fin (by omega);refine ex<|Ck<|Ck<|D7<|A5<|Ae<|U 2 G<|H2 G I6 G (by omega) Kn G<|hK 0 i G (by omega) ?_;rw[G7];have FF:=congrArg List.length G7;rw[List.length_take]at FF;exact Z' 0 G G S1 Um G (by omega) (by omega) Kn (fun a f=>f.Su _)<|Ac<|Ae<|U 2 G<|PO G I6 G (by omega) G<|U 1 G<|Ac<|rt<|Bq () G G trivial G Aa
theorem yz(v:Value)(xs:List BX)(f:Nat)(D0:Array Value)(A GJ:List Atom)(q:C4)(p:BX->Bool)(AN:∀(L:Go.A_.Own) (i:Nat),L[i]? =some q->DU L GJ)(CM:GU AG f)(E5:∀(x:BX),x.wf->Cv AG f (.agg (Hh x).toArray::D0.toList) ((GJ++A)) (.bool (p x))):Aw AG 249 [v,.func (.func f) #[] D0] [@row BX Ha 50 v xs,q] A (fun(_:Unit) _=>True) (fun _ u=>[@row BX Ha 50 u (xs.filter (fun x=> !p x)),q]) (fun _ _=>[]):=by
 refine Aw.proof Tryz.func249 G 42 G G fun X w=>AF 1 G<|Ae<|U 2 G<|P6 (⟨v,xs⟩::GJ) (jR v xs f D0 (GJ++A) p CM E5) (Ar G) G (DU.row 0 G (AN _ 1 G)) Br G<|U 1 G<|Ac<|Am<|AF 2 G<|B9 G (fun EM=>?_) (fun EM=>?_)
 ·
  have Ao:∀k,k<xs.length->p (xs.getD k default)=false:=fun k AE=>kR EM k AE;have Ab:xs.filter (fun x=> !p x)=xs:=dU Ao;exact AF 2 G<|BA<|Bq () G G trivial (by rw[Ab]) Aa
 ·
  obtain⟨i0,OW,Tp,Jf,aZ⟩:=kS EM;rw[aZ];refine Sw 0 G (show 0<xs.length by omega) fun HO cap BC Kn ID=>?_;subst BC;have UZ:cap<=9223372036854775807:=ID;refine AZ<|Am<|Ae<|An G G<|Hf (r:=((i0+1:Nat):Int)) G G (by omega) (BV (by omega) (by simp only[maxLen]at ID;omega)) G<|U 1 G<|Ac<|B5<|Hx (σ:=Nat×Nat×List BX) [(0,_),(1,_)] _ (fun s C=>(5,.int .i64 (s.1:Int))::(6,.int .i64 (s.2.1:Int))::C) (fun s=>[@row BX Ha 50 (.slice (some ⟨HO,0,none⟩) xs.length cap) s.2.2,q,CL X w]) (fun _ Dw=>Dw) (fun s=>Nt p xs s) (fun s=>xs.length-s.2.1) (i0,i0+1,xs) (Bs G) Br (Nt.start OW Tp Jf) (Bs G) G Br ?_;rintro⟨i,j,ys⟩ DK;have Wi:=DK.lt;have aK:=DK.le;have aL:=DK.len;simp only at Wi aK aL;show CF _ _ _ [(5,.int .i64 ((i:Int))),(6,.int .i64 ((j:Int))),(0,_),(1,_)] [@row BX Ha 50 (.slice (some ⟨HO,0,none⟩) xs.length cap) ys,q,CL X w] _;refine Am<|Ae<|U 2 G<|JX 0 G G Tryz.underlying24 G fun qU=>U 1 G<|Ac<|B9 G (fun Fe=>?_) (fun Fe=>?_)
  ·
   refine AZ<|Am<|B5<|Ae<|U 2 G<|IF 0 (j) G G G N0 (by omega) (by omega) G<|Qk (s:=Zf) 0 (j) G G JP (At G) G fun PL Vs=>CT SM G fun Jo=>BZ 0 (us:=(Hh ((ys.getD (j) default)))) G G G (At G) G G<|Ac<|Ae<|An G G<|BJ 0 (Hh ((ys.getD (j) default))) G G (At G) G G ?_;refine hE GJ (E5 _ Vs) CM G G G (AN _ 2 G) (fun t Av=>by
    rcases List.mem_append.1 Av with Av|Av
    · exact List.mem_append_left _ Av
    · exact List.mem_append_right _ ((Bg.tail Br) t Av)) G ?_
   refine IH G G<|Ac<|BN G (fun G5=>?_) (fun G5=>?_)
   ·
    refine Ae<|U 2 G<|BJ 0 (Hh ((ys.getD (j) default))) G G (At G) G G<|IF 1 (i) G G G N0 (by omega) (by omega) G<|Qz (s:=Zf) 1 (i) (ov:=(ys.getD (j) default)) () G G G (by omega) (At G) Aa Vs<|Ac<|rg<|An G G<|Hf (r:=((i+1:Nat):Int)) G G (by omega) (BV (by omega) (by simp only[maxLen]at ID;omega)) G<|U 1 G<|nl<|CU<|A5<|rg<|An G G<|Hf (r:=((j+1:Nat):Int)) G G (by omega) (BV (by omega) (by simp only[maxLen]at ID;omega)) G<|U 1 G<|nl<|AQ ?_;exact Dy ((i+1,j+1,ys.set i (ys.getD j default)):Nat×Nat×List BX) (DK.no (by omega) (by simpa using G5)) (by show xs.length-(j+1)<xs.length-j;omega) (Bs G) G (Bg.tail Br)
   ·
    refine EG<|CU<|A5<|rg<|An G G<|Hf (r:=((j+1:Nat):Int)) G G (by omega) (BV (by omega) (by simp only[maxLen]at ID;omega)) G<|U 1 G<|nl<|AQ ?_;exact Dy ((i,j+1,ys):Nat×Nat×List BX) (DK.yes (by omega) (by simpa using G5)) (by show xs.length-(j+1)<xs.length-j;omega) (Bs G) G (Bg.tail Br)
  ·
   have G7:=DK.fin (by omega);refine ex<|Ck<|Ck<|D7<|A5<|Ae<|U 2 G<|H2 G N0 G (by omega) Kn G<|hK 0 i G (by omega) ?_;rw[G7];have FF:=congrArg List.length G7;rw[List.length_take]at FF;exact Z' 0 G G Mt SM G (by omega) (by omega) Kn (fun a f=>f.Su _)<|Ac<|Ae<|U 2 G<|PO G N0 G (by omega) G<|U 1 G<|Ac<|rt<|Bq () G G trivial G Aa
theorem oh(v:Value)(xs:List AD)(f:Nat)(D0:Array Value)(A GJ:List Atom)(q:C4)(p:AD->Bool)(AN:∀(L:Go.A_.Own) (i:Nat),L[i]? =some q->DU L GJ)(CM:GU AG f)(E5:∀(x:AD) (KW:Value),x.wf->Cv AG f (.agg (A3 x KW).toArray::D0.toList) (⟨KW,x.A0⟩::(GJ++A)) (.bool (p x))):Aw AG 101 [v,.func (.func f) #[] D0] [@row AD GR 73 v xs,q] A (fun(_:Unit) _=>True) (fun _ u=>[@row AD GR 73 u (xs.filter (fun x=> !p x)),q]) (fun _ _=>[]):=by
 refine Aw.proof Tryz.func101 G 42 G G fun X w=>AF 1 G<|Ae<|U 2 G<|P6 (⟨v,xs⟩::GJ) (qo v xs f D0 (GJ++A) p CM E5) (Ar G) G (DU.row 0 G (AN _ 1 G)) Br G<|U 1 G<|Ac<|Am<|AF 2 G<|B9 G (fun EM=>?_) (fun EM=>?_)
 ·
  have Ao:∀k,k<xs.length->p (xs.getD k default)=false:=fun k AE=>kR EM k AE;have Ab:xs.filter (fun x=> !p x)=xs:=dU Ao;exact AF 2 G<|BA<|Bq () G G trivial (by rw[Ab]) Aa
 ·
  obtain⟨i0,OW,Tp,Jf,aZ⟩:=kS EM;rw[aZ];refine Sw 0 G (show 0<xs.length by omega) fun HO cap BC Kn ID=>?_;subst BC;have UZ:cap<=9223372036854775807:=ID;refine AZ<|Am<|Ae<|An G G<|Hf (r:=((i0+1:Nat):Int)) G G (by omega) (BV (by omega) (by simp only[maxLen]at ID;omega)) G<|U 1 G<|Ac<|B5<|Hx (σ:=Nat×Nat×List AD) [(0,_),(1,_)] _ (fun s C=>(5,.int .i64 (s.1:Int))::(6,.int .i64 (s.2.1:Int))::C) (fun s=>[@row AD GR 73 (.slice (some ⟨HO,0,none⟩) xs.length cap) s.2.2,q,CL X w]) (fun _ Dw=>Dw) (fun s=>Nt p xs s) (fun s=>xs.length-s.2.1) (i0,i0+1,xs) (Bs G) Br (Nt.start OW Tp Jf) (Bs G) G Br ?_;rintro⟨i,j,ys⟩ DK;have Wi:=DK.lt;have aK:=DK.le;have aL:=DK.len;simp only at Wi aK aL;show CF _ _ _ [(5,.int .i64 ((i:Int))),(6,.int .i64 ((j:Int))),(0,_),(1,_)] [@row AD GR 73 (.slice (some ⟨HO,0,none⟩) xs.length cap) ys,q,CL X w] _;refine Am<|Ae<|U 2 G<|JX 0 G G Tryz.underlying22 G fun qU=>U 1 G<|Ac<|B9 G (fun Fe=>?_) (fun Fe=>?_)
  ·
   refine AZ<|Am<|B5<|Ae<|U 2 G<|IF 0 (j) G G G Gt (by omega) (by omega) G<|Qk (s:=Nn) 0 (j) G G JP (At G) G fun PL Vs=>CT Hd G fun Jo=>Cp 1 G fun AeZ=>?_;refine BZ 0 (us:=(A3 ((ys.getD (j) default)) PL)) G G G (At G) (by simp only[List.all_cons,List.all_nil,Bool.and_true,AeZ];rfl) G<|Ac<|Ae<|An G G<|BJ 0 (A3 ((ys.getD (j) default)) PL) G G (At G) G G ?_;refine hE GJ (E5 _ _ Vs) CM G G G (AN _ 2 G) (fun t Av=>by
    rcases List.mem_cons.1 Av with rfl|Av
    · exact List.mem_append_right _ (List.mem_of_getElem? (i:=1) G)
    ·
     rcases List.mem_append.1 Av with Av|Av
     · exact List.mem_append_left _ Av
     · exact List.mem_append_right _ ((Bg.tail (Bg.tail Br)) t Av)) G ?_
   refine IH G G<|Ac<|BN G (fun G5=>?_) (fun G5=>?_)
   ·
    refine Ae<|U 2 G<|BJ 0 (A3 ((ys.getD (j) default)) PL) G G (At G) G G<|IF 1 (i) G G G Gt (by omega) (by omega) G<|Qz (s:=Nn) 1 (i) (ov:=(ys.getD (j) default)) PL G G G (by omega) (At G) (Ad 1 G Aa) Vs<|Ac<|rg<|An G G<|Hf (r:=((i+1:Nat):Int)) G G (by omega) (BV (by omega) (by simp only[maxLen]at ID;omega)) G<|U 1 G<|nl<|CU<|A5<|rg<|An G G<|Hf (r:=((j+1:Nat):Int)) G G (by omega) (BV (by omega) (by simp only[maxLen]at ID;omega)) G<|U 1 G<|nl<|AQ ?_;exact Dy ((i+1,j+1,ys.set i (ys.getD j default)):Nat×Nat×List AD) (DK.no (by omega) (by simpa using G5)) (by show xs.length-(j+1)<xs.length-j;omega) (Bs G) G (Bg.tail (Bg.tail Br))
   ·
    refine EG<|CU<|A5<|rg<|An G G<|Hf (r:=((j+1:Nat):Int)) G G (by omega) (BV (by omega) (by simp only[maxLen]at ID;omega)) G<|U 1 G<|nl<|AQ ?_;exact Dy ((i,j+1,ys):Nat×Nat×List AD) (DK.yes (by omega) (by simpa using G5)) (by show xs.length-(j+1)<xs.length-j;omega) (Bs G) G (Bg.tail (Bg.tail Br))
  ·
   have G7:=DK.fin (by omega);refine ex<|Ck<|Ck<|D7<|A5<|Ae<|U 2 G<|H2 G Gt G (by omega) Kn G<|hK 0 i G (by omega) ?_;rw[G7];have FF:=congrArg List.length G7;rw[List.length_take]at FF;exact Z' 0 G G OI Hd G (by omega) (by omega) Kn (fun a f=>f.Su _)<|Ac<|Ae<|U 2 G<|PO G Gt G (by omega) G<|U 1 G<|Ac<|rt<|Bq () G G trivial G Aa
variable(a t:Int) (CP:Value) (l:List BL)
theorem sub_lt:a-t<0↔Go.Apw.AGl a t=true:=by
 show _↔decide (a<t)=true;rw[decide_eq_true_eq];omega
theorem sub_eq:a-t=0↔a=t:=by omega
def Ux(a t:Int):Int:=if a<t then-1 else if a>t then 1 else 0
theorem n3:Ux a t<0↔Go.Apw.AGl a t=true:=by
 show _↔decide (a<t)=true;rw[decide_eq_true_eq];unfold Ux;split
 ·
  omega
 ·
  split<;>omega
theorem ya:Ux a t=0↔a=t:=by
 unfold Ux;split
 ·
  omega
 ·
  split<;>omega
theorem n2(a t:ByteArray):RO a t<0↔Ds a t=true:=by rw[<-yb,decide_eq_true_eq]
theorem cmpL_eq:∀a b:List UInt8,Go.Lib.compareBytes a b=0↔a=b
 |[],[]=>by simp[Go.Lib.compareBytes]
 |[],b::y=>by simp[Go.Lib.compareBytes]
 |a::x,[]=>by simp[Go.Lib.compareBytes]
 |a::x,b::y=>by
  have Cg:=cmpL_eq x y;simp only[Go.Lib.compareBytes,List.cons.injEq];rcases Nat.lt_trichotomy a.toNat b.toNat with h|h|h
  ·
   have Af:a<b:=UInt8.lt_iff_toNat_lt.2 h;have Bo:¬a=b:=fun e=>by subst e;omega
   simp[Af,Bo]
  ·
   obtain rfl:=UInt8.toNat_inj.1 h;have Af:¬a<a:=fun e=>by have:=UInt8.lt_iff_toNat_lt.1 e;omega
   simpa[Af]using Cg
  ·
   have Af:¬a<b:=fun e=>by have:=UInt8.lt_iff_toNat_lt.1 e;omega
   have h2:b<a:=UInt8.lt_iff_toNat_lt.2 h;have Bo:¬a=b:=fun e=>by subst e;omega
   simp[Af,h2,Bo]
theorem x'(a t:ByteArray):RO a t=0↔a=t:=by
 rw[RO,cmpL_eq];constructor
 ·
  intro h;obtain⟨x⟩:=a;obtain⟨y⟩:=t;congr;exact Array.toList_inj.1 h
 ·
  intro h;rw[h]
theorem pc(h:BD)(t:Int)(_:h.wf)(Af:0<=h.Bn)(h2:h.Bn<=100)(Bo:0<=t)(BB:t<=100):Cv AG 191 [.agg (JH h).toArray,.int .i64 t] [] (.int .i64 (h.Bn-t)):=by
 exact Aw.proof Tryz.func191 G 9 G G fun X w=>Ae<|CV G G G fun Dh=>U 1 G<|Ac<|Ae<|AX 3 [0] G G<|TU G G BV G<|U 1 G<|Ac<|rt<|AQ<|Bq () G G (by rfl) G Aa
theorem xI(l:List BD)(t:Int)(AN:∀j,j<l.length->0<=(l.getD j default).Bn/\(l.getD j default).Bn<=100)(p9:0<=t)(eY:t<=100)(hlen:l.length<=100000):Cv AG 190 [CP,.int .i64 t,.func (.func 191) #[] #[]] [⟨CP,l⟩] (.tuple #[.int .i64 ((Cz (fun x:BD=>x.Bn) AGl t l:Nat):Int),.bool (G9 (fun x:BD=>x.Bn) AGl t l)]):=by
 refine Aw.proof Tryz.func190 G 49 G G fun X w=>AF 2 G<|Ae<|An G G<|C2 0 G G Tryz.underlying69 G fun TC=>U 1 G<|Ac<|AF 3 G<|Am<|B5<|Ji (σ:=Nat×Nat×Nat) [(0,_),(1,_),(2,_),(8,_)] _ (fun s C=>(9,.int .i64 (s.2.1:Int))::(10,.int .i64 (s.2.2:Int))::C) (fun s=>s.2.1<=s.2.2/\s.2.2<=l.length/\s.2.2-s.2.1<=s.1/\search (fun h=>AGl ((fun x:BD=>x.Bn) (l.getD h default)) t) s.1 s.2.1 s.2.2=Cz (fun x:BD=>x.Bn) AGl t l) (fun s=>s.2.2-s.2.1) (l.length,0,l.length) (Bs G) (Ad 0 G Aa) ⟨Nat.zero_le _,Nat.le_refl _,Nat.sub_le _ _,G⟩ (Bs G) ?_;rintro⟨n,i,j⟩ ⟨Af,h2,Ao,hs⟩;simp only at Af h2 Ao hs;show CF _ _ _ [(9,.int .i64 (i:Int)),(10,.int .i64 (j:Int)),(0,_),(1,_),(2,_),(8,_)] _ _;refine Am<|AF 3 G<|B9 G (fun DA=>?_) (fun DA=>?_)
 ·
  refine AZ<|B5<|Ae<|U 2 G<|Hf (r:=((i+j:Nat):Int)) G G (by omega) BV G<|F0 Tryz.underlying3 Tryz.underlying61 G (mh (by omega)) G<|Vl G G (by omega) (lO _) G<|F0 Tryz.underlying61 Tryz.underlying3 G (jO (by omega)) G<|U 1 G<|Ac<|Ae<|U 3 G<|Fo 0 G G G I6 G fun N4=>Gi 0 G G (At G) G fun sA Uc=>An G G<|QV (pc (l.getD ((i+j) / 2) default) t Uc (AN _ (by omega)).1 (AN _ (by omega)).2 p9 eY) (Ar G) G G G Aa G fun _ v30 ak=>?_;subst ak;refine U 1 G<|Ac<|B9 G (fun ES=>?_) (fun ES=>?_)
  ·
   refine rg<|An G G<|Hf (r:=(((i+j) / 2+1:Nat):Int)) G G (by omega) BV G<|U 1 G<|nl<|CU ?_;exact Dy ((n-1,(i+j) / 2+1,j):Nat×Nat×Nat) ⟨by show(i+j) / 2+1<=j;omega,h2,(by show j-((i+j) / 2+1)<=n-1;omega),(lK (fun h=>AGl ((fun x:BD=>x.Bn) (l.getD h default)) t) (by omega) Ao ((sub_lt (l.getD ((i+j) / 2) default).Bn t).1 ES)).symm.trans hs⟩ (by show j-((i+j) / 2+1)<j-i;omega) (Bs G) G (Ad 2 G Aa)
  ·
   refine FA 2 G<|CU ?_;exact Dy ((n-1,i,(i+j) / 2):Nat×Nat×Nat) ⟨by show i<=(i+j) / 2;omega,by show(i+j) / 2<=l.length;omega,(by show(i+j) / 2-i<=n-1;omega),(lH (fun h=>AGl ((fun x:BD=>x.Bn) (l.getD h default)) t) (by omega) Ao (fun q=>ES ((sub_lt (l.getD ((i+j) / 2) default).Bn t).2 q))).symm.trans hs⟩ (by show(i+j) / 2-i<j-i;omega) (Bs G) G (Ad 2 G Aa)
 ·
  have OW:i=Cz (fun x:BD=>x.Bn) AGl t l:=(by rw[<-hs,lG _ _ _ _ (by omega)]);refine ex<|Ck<|Ck<|D7<|A5<|Ae<|U 5 G ?_;refine D4 39 9 [35] G G (fun P7 VG=>by
   have r6:=of_decide_eq_true P7;refine U 3 G<|Bl G G G<|Fo 0 G G G I6 G fun cS=>Bl G G G<|Gi 0 G G (At G) G fun Y7 c0=>U 1 G<|Bl G G G<|QV (pc (l.getD i default) t c0 (AN _ (by omega)).1 (AN _ (by omega)).2 p9 eY) (Ar G) G G G Aa G fun _ gB ao=>?_;subst ao;exact U 2 G<|VG G (Bg.tail (Bg.tail Br))) ?_
  exact U 2 G<|Ac<|rt<|Fl () G G G (by rw[G9,<-OW,decide_eq_decide.2 (sub_eq (l.getD i default).Bn t),decide_eq_decide.2 (Int.ofNat_lt (n:=i) (m:=l.length))]) G Aa
theorem tw(m:BL)(t:Int)(_:m.wf):Cv AG 129 [.agg (H9 m).toArray,.int .i64 t] [] (.int .i64 (Ux m.Ap t)):=by
 refine Aw.proof Tryz.func129 G 15 G G fun X w=>Ae<|CV G G G fun Dh=>U 1 G<|Ac<|Am<|B5<|Ae<|AX 3 [0] G G<|U 2 G<|Ac<|B9 G (fun C'=>?_) (fun C'=>?_)
 · exact AF 1 G<|rt<|C9<|Cd<|AQ<|Bq () G G (by rw[Ux,if_pos C']) G Aa
 ·
  refine I5 5 [0] G G<|B9 G (fun Dq=>?_) (fun Dq=>?_)
  · exact AF 1 G<|rt<|C9<|Cd<|AQ<|Bq () G G (by rw[Ux,if_neg C',if_pos Dq]) G Aa
  · exact EG<|CU<|A5<|AF 1 G<|rt<|AQ<|Bq () G G (by rw[Ux,if_neg C',if_neg Dq]) G Aa
theorem xJ(t:Int)(hlen:l.length<=100000):Cv AG 128 [CP,.int .i64 t,.func (.func 129) #[] #[]] [⟨CP,l⟩] (.tuple #[.int .i64 ((Cz (fun x:BL=>x.Ap) AGl t l:Nat):Int),.bool (G9 (fun x:BL=>x.Ap) AGl t l)]):=by
 refine Aw.proof Tryz.func128 G 49 G G fun X w=>AF 2 G<|Ae<|An G G<|C2 0 G G Tryz.underlying23 G fun TC=>U 1 G<|Ac<|AF 3 G<|Am<|B5<|Ji (σ:=Nat×Nat×Nat) [(0,_),(1,_),(2,_),(8,_)] _ (fun s C=>(9,.int .i64 (s.2.1:Int))::(10,.int .i64 (s.2.2:Int))::C) (fun s=>s.2.1<=s.2.2/\s.2.2<=l.length/\s.2.2-s.2.1<=s.1/\search (fun h=>AGl ((fun x:BL=>x.Ap) (l.getD h default)) t) s.1 s.2.1 s.2.2=Cz (fun x:BL=>x.Ap) AGl t l) (fun s=>s.2.2-s.2.1) (l.length,0,l.length) (Bs G) (Ad 0 G Aa) ⟨Nat.zero_le _,Nat.le_refl _,Nat.sub_le _ _,G⟩ (Bs G) ?_;rintro⟨n,i,j⟩ ⟨Af,h2,Ao,hs⟩;simp only at Af h2 Ao hs;show CF _ _ _ [(9,.int .i64 (i:Int)),(10,.int .i64 (j:Int)),(0,_),(1,_),(2,_),(8,_)] _ _;refine Am<|AF 3 G<|B9 G (fun DA=>?_) (fun DA=>?_)
 ·
  refine AZ<|B5<|Ae<|U 2 G<|Hf (r:=((i+j:Nat):Int)) G G (by omega) BV G<|F0 Tryz.underlying3 Tryz.underlying61 G (mh (by omega)) G<|Vl G G (by omega) (lO _) G<|F0 Tryz.underlying61 Tryz.underlying3 G (jO (by omega)) G<|U 1 G<|Ac<|Ae<|U 3 G<|Fo 0 G G G J1 G fun N4=>Gi 0 G G (At G) G fun sA Uc=>An G G<|QV (tw (l.getD ((i+j) / 2) default) t Uc) (Ar G) G G G Aa G fun _ v30 ak=>?_;subst ak;refine U 1 G<|Ac<|B9 G (fun ES=>?_) (fun ES=>?_)
  ·
   refine rg<|An G G<|Hf (r:=(((i+j) / 2+1:Nat):Int)) G G (by omega) BV G<|U 1 G<|nl<|CU ?_;exact Dy ((n-1,(i+j) / 2+1,j):Nat×Nat×Nat) ⟨by show(i+j) / 2+1<=j;omega,h2,(by show j-((i+j) / 2+1)<=n-1;omega),(lK (fun h=>AGl ((fun x:BL=>x.Ap) (l.getD h default)) t) (by omega) Ao ((n3 (l.getD ((i+j) / 2) default).Ap t).1 ES)).symm.trans hs⟩ (by show j-((i+j) / 2+1)<j-i;omega) (Bs G) G (Ad 2 G Aa)
  ·
   refine FA 2 G<|CU ?_;exact Dy ((n-1,i,(i+j) / 2):Nat×Nat×Nat) ⟨by show i<=(i+j) / 2;omega,by show(i+j) / 2<=l.length;omega,(by show(i+j) / 2-i<=n-1;omega),(lH (fun h=>AGl ((fun x:BL=>x.Ap) (l.getD h default)) t) (by omega) Ao (fun q=>ES ((n3 (l.getD ((i+j) / 2) default).Ap t).2 q))).symm.trans hs⟩ (by show(i+j) / 2-i<j-i;omega) (Bs G) G (Ad 2 G Aa)
 ·
  have OW:i=Cz (fun x:BL=>x.Ap) AGl t l:=(by rw[<-hs,lG _ _ _ _ (by omega)]);refine ex<|Ck<|Ck<|D7<|A5<|Ae<|U 5 G ?_;refine D4 39 9 [35] G G (fun P7 VG=>by
   have r6:=of_decide_eq_true P7;refine U 3 G<|Bl G G G<|Fo 0 G G G J1 G fun cS=>Bl G G G<|Gi 0 G G (At G) G fun Y7 c0=>U 1 G<|Bl G G G<|QV (tw (l.getD i default) t c0) (Ar G) G G G Aa G fun _ gB ao=>?_;subst ao;exact U 2 G<|VG G (Bg.tail (Bg.tail Br))) ?_
  exact U 2 G<|Ac<|rt<|Fl () G G G (by rw[G9,<-OW,decide_eq_decide.2 (ya (l.getD i default).Ap t),decide_eq_decide.2 (Int.ofNat_lt (n:=i) (m:=l.length))]) G Aa
theorem lV(t:Int)(hlen:l.length<=100000):Cv AG 52 [CP,.int .i64 t] [⟨CP,l⟩] (.tuple #[.int .i64 ((Cz (fun x:BL=>x.Ap) AGl t l:Nat):Int),.bool (G9 (fun x:BL=>x.Ap) AGl t l)]):=by
 exact Aw.proof Tryz.func52 G 11 G G fun X w=>AF 2 G<|Ae<|U 2 G<|B0 (xJ _ _ t hlen) (Ar G) G (Ad 0 G Aa) G<|U 2 G<|U 2 G<|Ac<|rt<|Fl () G G G (by rfl) G Aa
theorem nm(a:AD)(Cw:Value)(t:ByteArray)(_:a.wf):Cv AG 265 [.agg (A3 a Cw).toArray,.string t] [⟨Cw,a.A0⟩] (.int .i64 (RO a.Al t)):=by
 exact Aw.proof Tryz.func265 G 9 G G fun X w=>Ae<|CV G G G fun Dh=>U 1 G<|Ac<|Ae<|AX 3 [0] G G<|B0 (yf _ _) (Ar G) G Aa G<|U 1 G<|Ac<|rt<|AQ<|Bq () G G (by rfl) G Aa
theorem xH(l:List AD)(t:ByteArray)(hlen:l.length<=100000):Cv AG 264 [CP,.string t,.func (.func 265) #[] #[]] [⟨CP,l⟩] (.tuple #[.int .i64 ((Cz (fun x:AD=>x.Al) Ds t l:Nat):Int),.bool (G9 (fun x:AD=>x.Al) Ds t l)]):=by
 refine Aw.proof Tryz.func264 G 49 G G fun X w=>AF 2 G<|Ae<|An G G<|C2 0 G G Tryz.underlying22 G fun TC=>U 1 G<|Ac<|AF 3 G<|Am<|B5<|Ji (σ:=Nat×Nat×Nat) [(0,_),(1,_),(2,_),(8,_)] _ (fun s C=>(9,.int .i64 (s.2.1:Int))::(10,.int .i64 (s.2.2:Int))::C) (fun s=>s.2.1<=s.2.2/\s.2.2<=l.length/\s.2.2-s.2.1<=s.1/\search (fun h=>Ds ((fun x:AD=>x.Al) (l.getD h default)) t) s.1 s.2.1 s.2.2=Cz (fun x:AD=>x.Al) Ds t l) (fun s=>s.2.2-s.2.1) (l.length,0,l.length) (Bs G) (Ad 0 G Aa) ⟨Nat.zero_le _,Nat.le_refl _,Nat.sub_le _ _,G⟩ (Bs G) ?_;rintro⟨n,i,j⟩ ⟨Af,h2,Ao,hs⟩;simp only at Af h2 Ao hs;show CF _ _ _ [(9,.int .i64 (i:Int)),(10,.int .i64 (j:Int)),(0,_),(1,_),(2,_),(8,_)] _ _;refine Am<|AF 3 G<|B9 G (fun DA=>?_) (fun DA=>?_)
 ·
  refine AZ<|B5<|Ae<|U 2 G<|Hf (r:=((i+j:Nat):Int)) G G (by omega) BV G<|F0 Tryz.underlying3 Tryz.underlying61 G (mh (by omega)) G<|Vl G G (by omega) (lO _) G<|F0 Tryz.underlying61 Tryz.underlying3 G (jO (by omega)) G<|U 1 G<|Ac<|Ae<|U 3 G<|Fo 0 G G G Gt G fun N4=>Gi 0 G G (At G) G fun sA Uc=>An G G<|QV (nm (l.getD ((i+j) / 2) default) _ t Uc) (Ar G) G G G (Ad 1 G Aa) G fun _ v30 ak=>?_;subst ak;refine U 1 G<|Ac<|B9 G (fun ES=>?_) (fun ES=>?_)
  ·
   refine rg<|An G G<|Hf (r:=(((i+j) / 2+1:Nat):Int)) G G (by omega) BV G<|U 1 G<|nl<|CU ?_;exact Dy ((n-1,(i+j) / 2+1,j):Nat×Nat×Nat) ⟨by show(i+j) / 2+1<=j;omega,h2,(by show j-((i+j) / 2+1)<=n-1;omega),(lK (fun h=>Ds ((fun x:AD=>x.Al) (l.getD h default)) t) (by omega) Ao ((n2 (l.getD ((i+j) / 2) default).Al t).1 ES)).symm.trans hs⟩ (by show j-((i+j) / 2+1)<j-i;omega) (Bs G) G (Ad 3 G Aa)
  ·
   refine FA 2 G<|CU ?_;exact Dy ((n-1,i,(i+j) / 2):Nat×Nat×Nat) ⟨by show i<=(i+j) / 2;omega,by show(i+j) / 2<=l.length;omega,(by show(i+j) / 2-i<=n-1;omega),(lH (fun h=>Ds ((fun x:AD=>x.Al) (l.getD h default)) t) (by omega) Ao (fun q=>ES ((n2 (l.getD ((i+j) / 2) default).Al t).2 q))).symm.trans hs⟩ (by show(i+j) / 2-i<j-i;omega) (Bs G) G (Ad 3 G Aa)
 ·
  have OW:i=Cz (fun x:AD=>x.Al) Ds t l:=(by rw[<-hs,lG _ _ _ _ (by omega)]);refine ex<|Ck<|Ck<|D7<|A5<|Ae<|U 5 G ?_;refine D4 39 9 [35] G G (fun P7 VG=>by
   have r6:=of_decide_eq_true P7;refine U 3 G<|Bl G G G<|Fo 0 G G G Gt G fun cS=>Bl G G G<|Gi 0 G G (At G) G fun Y7 c0=>U 1 G<|Bl G G G<|QV (nm (l.getD i default) _ t c0) (Ar G) G G G (Ad 1 G Aa) G fun _ gB ao=>?_;subst ao;exact U 2 G<|VG G (Bg.tail (Bg.tail (Bg.tail Br)))) ?_
  exact U 2 G<|Ac<|rt<|Fl () G G G (by rw[G9,<-OW,decide_eq_decide.2 (x' (l.getD i default).Al t),decide_eq_decide.2 (Int.ofNat_lt (n:=i) (m:=l.length))]) G Aa
theorem nn(l:List AD)(t:ByteArray)(hlen:l.length<=100000):Cv AG 196 [CP,.string t] [⟨CP,l⟩] (.tuple #[.int .i64 ((Cz (fun x:AD=>x.Al) Ds t l:Nat):Int),.bool (G9 (fun x:AD=>x.Al) Ds t l)]):=by
 exact Aw.proof Tryz.func196 G 11 G G fun X w=>AF 2 G<|Ae<|U 2 G<|B0 (xH _ _ t hlen) (Ar G) G (Ad 0 G Aa) G<|U 2 G<|U 2 G<|Ac<|rt<|Fl () G G G (by rfl) G Aa
end Go.Apw
namespace Go.A_
open Go.RowKit
section
section
variable{α:Type} {xs:List α} {i:Nat} {ov:α}
theorem e2(h:i=xs.length):xs++[ov]=FO i ov xs:=by
 subst h;simp[FO]
theorem e3(h:i<=xs.length):(xs.take i).take i++[ov]++(xs.take i).drop (i+1)=xs.take i++[ov]:=by
 rw[List.take_take,Nat.min_self,List.drop_eq_nil_of_le (by rw[List.length_take];omega),List.append_nil]
theorem e4(h:i<=xs.length):(xs.take i++[ov]).take (i+1)++xs.drop i++(xs.take i++[ov]).drop (i+1+(xs.length-i))=FO i ov xs:=by
 have AN:(xs.take i++[ov]).length=i+1:=by rw[List.length_append,List.length_take];simp;omega
 have e:(xs.take i++[ov]).drop (i+1+(xs.length-i))=[]:=List.drop_eq_nil_of_le (by omega);rw[List.take_of_length_le (by omega),e,List.append_nil,FO];simp
theorem e5(h:i<xs.length):xs.take (i+1)++xs.drop i++xs.drop (i+1+(xs.length-i))=xs.take (i+1)++xs.drop i:=by
 have e:xs.drop (i+1+(xs.length-i))=[]:=List.drop_eq_nil_of_le (by omega);rw[e,List.append_nil]
theorem e6(h:i<xs.length):(xs.take (i+1)++xs.drop i).take i++[ov]++(xs.take (i+1)++xs.drop i).drop (i+1)=FO i ov xs:=by
 have AN:(xs.take (i+1)).length=i+1:=by rw[List.length_take];omega
 rw[List.take_append_of_le_length (by omega),List.take_take,Nat.min_eq_left (by omega),List.drop_left' AN,FO];simp
theorem U7(h:i<xs.length):(xs.take (i+1)++xs.drop i).length=xs.length+1:=by
 rw[List.length_append,List.length_take,List.length_drop];omega
end
section
variable{c:Cj} {ops:Array Oper} {AP:Cj->Array Oper->List Oper->Env->Own->List Atom->Prop} [Dr:Ip AP] {env:Env} {L:Own} {D:List Atom} {rest:List Oper} {d:Nat} {v:Value} {t:TypeId} {p:String} {af:Array Edge} {x BQ:Operand} {T:TypeId}
include Dr
theorem gj{α:Type}{r:Be α}(i:Nat){l:Nat}{xs:List α}{E e:TypeId}(Ab:AL env x=some v)(Ag:L[i]? =some (@row α r e v xs))(Av:H5 c.P T E r.size)(B4:AL env BQ=some (.int .i64 (l:Int)))(Af:l<=xs.length)(Ao:Nat.blt d c.n=true)
 (k:∀u,AP c ops rest ((d,u)::env) L D):AP c ops (⟨some d,.slice T x (some BQ) none none,t,p,af,none⟩::rest) env L D:=
 Dr.read (σ:=Value) rfl rfl (fun u=>(d,u)::env) (fun _=>D) (fun a w f st AR=>by
  obtain⟨Cy,G8,_⟩:=st.own _ (List.mem_of_getElem? Ag);obtain⟨j,Ay,hs⟩:=Option.map_eq_some_iff.1 Av.2;obtain⟨A,cap,rfl,Bm⟩:∃A cap,v=.slice A xs.length cap/\xs.length<=cap:=by
   rcases G8.2 with⟨rfl,Bw⟩|⟨g,cap,cur,rfl,_,_,Bm,_⟩
   · exact⟨none,0,by rw[Bw],by omega⟩
   · exact⟨_,cap,rfl,Bm⟩
  have CY:(0:Int)<=l/\(l:Int)<=(xs.length:Int):=(by omega);have Dh:(xs.length:Int)<=(cap:Int):=(by omega);refine⟨.slice (if cap=l then A else A.map (·.add (l*r.size))) (xs.length-l) (cap-l),_,fun AT HW=>?_,f.put _ (EU Ao),AR⟩;simp[execOp,f.AL Ab,f.AL B4,Instr.sliceAt,run_underlying Av.1,Instr.slice,Instr.sliceBounds,Instr.sliceBound,asIntOf,CY,Af,sizeOf,typeInfo,Ay,hs]) k
theorem Kr{α:Type}{r:Be α}(i:Nat){xs:List α}{e:TypeId}{o:Nat}{x:Operand}(Ab:AL env x=some (JI v o))(Ag:L[i]? =some (@row α r e v xs))(FG:0<xs.length)(Ao:Nat.blt d c.n=true)
 (k:AP c ops rest ((d,JI v o)::env) L D):AP c ops (⟨some d,.nilCheck x,t,p,af,none⟩::rest) env L D:=
 Dr.read (σ:=Unit) rfl rfl (fun _=>(d,JI v o)::env) (fun _=>D) (fun a w f st AR=>by
  obtain⟨g,cap,rfl⟩:=@oz (Et L.J w) w α r e v xs (st.own _ (List.mem_of_getElem? Ag)) (by intro q;rw[q]at FG;simp at FG);refine⟨(),_,fun AT HW=>?_,f.put _ (EU Ao),AR⟩;simp[execOp,f.AL Ab,JI]) (fun _=>k)
end
section
variable{c:Cj} {ops:Array Oper} {Q:AuE} {env:Env} {L:Own} {D:List Atom} {rest:List Oper} {v:Value} {t:TypeId} {p:String} {af:Array Edge} {x y:Operand}
theorem Sz{α:Type}{s:Shape α}(i m o:Nat)(DI:s.H){xs:List α}{ov ov':α}{u:Value}{e:TypeId}(Ab:AL env x=some (JI v (m*s.size+o)))(Bf:AL env y=some u)(Ag:L[i]? =some (@row α (Be.D5 s) e v xs))(hu:u.oneCell'=true)(hm:xs[m]? =some ov)(A7:o<s.size)
 (Bm:∀h,(s.cells ov h).set o u=s.cells ov' DI)(Cl:Bg (s.sub ov' DI) D)(hw:s.wf ov'){E:TypeId}(Av:Nv c.P E)(k:Cb Q c ops rest env (L.set i (@row α (Be.D5 s) e v (xs.set m ov'))) D):Cb Q c ops (⟨none,.store E x y,t,p,af,none⟩::rest) env L D:=by
 refine c6 (env':=env) rfl rfl (fun a w f st AR=>?_) k;have Hv:=List.mem_of_getElem? Ag;have jt:m<xs.length:=(List.getElem?_eq_some_iff.1 hm).1;obtain⟨g,cap,cs,Cy,rfl,CK,Kn,Yt,EY,Md,Ep,hlen⟩:=@Vj α (Be.D5 s) _ _ _ _ _ (st.own _ Hv) (by intro e;rw[e]at hm;simp at hm);have Fy:@Be.size α (Be.D5 s)=s.size:=rfl;rw[Fy]at EY;have Sd:(m+1)*s.size<=cap*s.size:=Nat.mul_le_mul_right _ (by omega);rw[Nat.succ_mul]at Sd;obtain⟨Cx,⟨h,rfl,_,_⟩,AN⟩:=@PH α (Be.D5 s) _ _ _ Cy xs 0 Ep (ct CK Md) m ov hm;rw[Fy]at AN;have Anr:(s.cells ov h).length=s.size:=s.len ov h;have Ans:(s.cells ov' DI).length=s.size:=s.len ov' DI;have Acf:MO cs (m*s.size) (s.cells ov' DI)=cs.set (m*s.size+o) u:=by
  refine List.ext_getElem? fun q=>?_;rw[T0 _ _ _ _ (by omega)];by_cases B':m*s.size<=q/\q<m*s.size+(s.cells ov' DI).length
  · rw[if_pos B',<-Bm h,List.getElem?_set,List.getElem?_set];by_cases p4:o=q-m*s.size
    · rw[if_pos p4,if_pos (by omega),if_pos (by omega),if_pos (by omega)]
    · rw[if_neg p4,if_neg (by omega)];have:=AN (q-m*s.size) _ (List.getElem?_eq_getElem (show q-m*s.size<(s.cells ov h).length by omega));rw[cell_of_row w g _ _ e (0,0) CK,List.getElem?_toArray,show 0+m*s.size+(q-m*s.size)=q by omega]at this;rw[this,List.getElem?_eq_getElem (by omega)]
  · rw[if_neg B',List.getElem?_set_ne (by omega)]
 have hs:C8 [g] w (w.setCell ⟨g,m*s.size+o,none⟩ u):=lZ w g (m*s.size+o) u;have Mc:(w.setCell ⟨g,m*s.size+o,none⟩ u).heap[g]? =some (.cells (MO cs (m*s.size) (s.cells ov' DI)).toArray e (0,0)):=by
  rw[Acf,heap_setCell_same w g _ _ e u CK];simp
 have p1:=AiH i m DI Ag jt Cl hw st AR CK hs Mc;refine⟨w.setCell ⟨g,m*s.size+o,none⟩ u,?_,f.Su _,p1.1,p1.2⟩;have Af:w.cell? ⟨g,m*s.size+o,none⟩=some cs[m*s.size+o]:=by rw[cell_of_row w g _ _ e (0,0) CK,List.getElem?_toArray,List.getElem?_eq_getElem (by omega)]
 have h2:w.frozen? ⟨g,m*s.size+o,none⟩=false:=frozen_of_row w g _ _ e CK;obtain⟨e7,J9,HW⟩:=Option.map_eq_some_iff.1 Av.2;have aR:u.cells= #[u]:=by cases u<;>first|rfl|simp[Value.oneCell']at hu
 have Gg:(store ⟨g,m*s.size+o,none⟩ u).run c.P w=.ok () (w.setCell ⟨g,m*s.size+o,none⟩ u):=by
  rw[run_store c.P w ⟨g,m*s.size+o,none⟩ u .plain hu];simp[Af,h2]
 have HX:=f.AL Ab;simp only[JI,Addr.add_mid,Nat.zero_add]at HX;simp[execOp,HX,f.AL Bf,Instr.storeAt,Instr.sureAddr,storeVar,aR,sizeOf,typeInfo,J9,HW,storeCells,Addr.add,Gg]
end
end
end Go.A_
namespace Go.Apw
theorem AcK(v:Value)(xs:List BD)(i b:Nat)(ov:BD)(Ag:i<=xs.length)(hw:ov.wf)(hlen:xs.length<=100000):Aw AG 192 [v,.int .i64 (i:Int),.slice (some ⟨b,0,none⟩) 1 1] [@row BD Mj 83 v xs,AO b 83 (JH ov)] [] (fun(_:Unit) _=>True) (fun _ u=>[@row BD Mj 83 u (FO i ov xs)]) (fun _ _=>[]):=by
 refine Aw.proof Tryz.func192 G 95 G G fun X w=>AF 1 G<|Ae<|U 2 G<|gj 0 G G I6 G Ag G fun _=>Ac<|Ae<|An G G<|WN G Tryz.underlying69 G<|U 1 G<|Ac<|Am<|AF 2 G<|B9 G (fun CR=>?_) (fun CR=>?_)
 · exact absurd CR (by decide) --#done
 ·
  refine AZ<|Ae<|An G G<|JX 0 G G Tryz.underlying69 G fun U9=>U 1 G<|Ac<|Am<|Ae<|U 2 G<|U 1 G<|Ac<|B9 G (fun JQ=>?_) (fun JQ=>?_)
  ·
   have LM:i=xs.length:=(by omega);refine Ae<|U 2 G<|D9 1 G<|KJ (α:=BD) ov (fun S w h=>⟨(),G,by simp,hw⟩)<|ap 0 0 G G G G S1 (by simp only[List.length_cons,List.length_nil];omega) (by simp only[List.length_cons,List.length_nil];omega) G fun T7=>?_;rw[e2 (xs:=xs) (ov:=ov) LM];exact U 1 G<|Ac<|BA<|Bq () G G trivial G Aa
  ·
   have LM:i<xs.length:=(by omega);refine Sw 0 G (show 0<xs.length by omega) fun HO cap BC Kn ID=>?_;subst BC;have UZ:cap<=9223372036854775807:=ID;refine AZ<|Am<|Ae<|U 2 G<|C5 G G BV G<|An G G<|dR G Tryz.underlying69 G<|U 1 G<|Ac<|B9 G (fun ES=>?_) (fun ES=>?_)
   ·
    refine Ae<|U 2 G<|PO G I6 G (by omega) G<|U 2 G<|C5 G G BV G<|An G G<|fZ (r:=((xs.length+1-i:Nat):Int)) G G (by omega) BV G<|dy 0 G G G S1 Tryz.underlying3 Ag (by omega) (by omega) (by omega) G fun kb Wb iP Wj=>?_;have iQ:Wb<=9223372036854775807:=Wj;refine U 1 G<|Ac<|Ae<|U 2 G<|H2 G I6 G (by omega) (by omega) G<|An G G<|Uz (s:=MN) 0 2 (h:=i+(xs.length+1-i)) (ov:=ov) (hh:=()) G G G G I6 Aa hw (by rw[List.length_take];omega) (by omega) (by omega) (by rw[List.length_take];omega) G (e3 Ag)<|Ac<|Am<|Ow 8 mixed (by kernel_rfl)<|U 3 G<|Hf (r:=((i+1:Nat):Int)) G G (by omega) BV G<|H2 G I6 G (by omega) (by omega) G<|U 2 G<|H2 G I6 G (by omega) (by omega) G<|Oq<|UA 0 1 (k:=i+1) (h:=i+(xs.length+1-i)) (l:=i) (h2:=xs.length) G G G G I6 (by rw[List.length_append,List.length_take];simp;omega) (by omega) (by omega) (by omega) (by simp only[Nat.min_def];split<;>omega) (by omega) G (ys:=(FO i ov xs)) (e4 Ag) fun _=>Ac<|Am ?_;have Ee:(FO i ov xs).length=i+(xs.length+1-i):=(by rw[Sh _ _ _ Ag];omega);rw[Ee];exact FA 2 G<|A5<|BA<|Au 1 G<|AQ<|Au 1 G<|AQ<|Bq () G G trivial G Aa
   ·
    have Rr:xs.length+1<=cap:=(by omega);refine AZ<|Ae<|U 3 G<|Hf (r:=((xs.length+1:Nat):Int)) G G (by omega) BV G<|PO G I6 G (by omega) G<|U 1 G<|Ac<|Am<|Ae<|U 4 G<|Hf (r:=((i+1:Nat):Int)) G G (by omega) BV G<|H2 G I6 G (by omega) (by omega) G<|ft 0 1 zu G G G G (by decide) I6 (by omega) (Nat.le_of_ble_eq_true G) G<|IH G G<|Ac<|Mv G<|Am<|Ow 8 mixed (by kernel_rfl)<|U 3 G<|Hf (r:=((i+1:Nat):Int)) G G (by omega) BV G<|H2 G I6 G (by omega) (by omega) G<|U 2 G<|H2 G I6 G (by omega) (by omega) G<|Oq<|UA 0 0 (k:=i+1) (h:=xs.length+1) (l:=i) (h2:=xs.length+1) G G G G I6 (by omega) (by omega) (by omega) (by omega) (by simp only[Nat.min_def];split<;>omega) (by omega) G (ys:=(xs.take (i+1)++xs.drop i)) (e5 LM) fun _=>Ac<|Ae<|U 2 G<|H2 G I6 G (by omega) (by omega) G<|An G G<|Uz (s:=MN) 0 1 (h:=xs.length+1) (ov:=ov) (hh:=()) G G G G I6 Aa hw (by rw[U7 (by omega)];omega) (by omega) (by omega) (by rw[U7 (by omega)];omega) G (e6 LM)<|Ac<|Am ?_;have Ee:(FO i ov xs).length=xs.length+1:=Sh _ _ _ Ag;rw[Ee];exact FA 2 G<|A5<|BA<|Au 1 G<|AQ<|Bq () G G trivial G Aa
theorem qp(v:Value)(xs:List AD)(i b:Nat)(ov:AD)(AS:Value)(Ag:i<=xs.length)(hw:ov.wf)(hlen:xs.length<=100000):Aw AG 197 [v,.int .i64 (i:Int),.slice (some ⟨b,0,none⟩) 1 1] [@row AD GR 73 v xs,AO b 73 (A3 ov AS)] [⟨AS,ov.A0⟩] (fun(_:Unit) _=>True) (fun _ u=>[@row AD GR 73 u (FO i ov xs)]) (fun _ _=>[]):=by
 refine Aw.proof Tryz.func197 G 95 G G fun X w=>AF 1 G<|Ae<|U 2 G<|gj 0 G G Gt G Ag G fun _=>Ac<|Ae<|An G G<|WN G Tryz.underlying22 G<|U 1 G<|Ac<|Am<|AF 2 G<|B9 G (fun CR=>?_) (fun CR=>?_)
 · exact absurd CR (by decide) --#done
 ·
  refine AZ<|Ae<|An G G<|JX 0 G G Tryz.underlying22 G fun U9=>U 1 G<|Ac<|Am<|Ae<|U 2 G<|U 1 G<|Ac<|B9 G (fun JQ=>?_) (fun JQ=>?_)
  ·
   have LM:i=xs.length:=(by omega);refine Ae<|U 2 G<|D9 1 G ?_;refine KJ (α:=AD) ov (fun S w h=>⟨AS,G,fun t Av=>by
     simp only[List.mem_cons,List.not_mem_nil,or_false]at Av;subst Av
     · exact h _ (List.mem_of_getElem? (i:=0) G),hw⟩) ?_
   refine ap 0 0 G G G G OI (by simp only[List.length_cons,List.length_nil];omega) (by simp only[List.length_cons,List.length_nil];omega) G fun T7=>?_;rw[e2 (xs:=xs) (ov:=ov) LM];exact U 1 G<|Ac<|BA<|Bq () G G trivial G Aa
  ·
   have LM:i<xs.length:=(by omega);refine Sw 0 G (show 0<xs.length by omega) fun HO cap BC Kn ID=>?_;subst BC;have UZ:cap<=9223372036854775807:=ID;refine AZ<|Am<|Ae<|U 2 G<|C5 G G BV G<|An G G<|dR G Tryz.underlying22 G<|U 1 G<|Ac<|B9 G (fun ES=>?_) (fun ES=>?_)
   ·
    refine Ae<|U 2 G<|PO G Gt G (by omega) G<|U 2 G<|C5 G G BV G<|An G G<|fZ (r:=((xs.length+1-i:Nat):Int)) G G (by omega) BV G<|dy 0 G G G OI Tryz.underlying3 Ag (by omega) (by omega) (by omega) G fun kb Wb iP Wj=>?_;have iQ:Wb<=9223372036854775807:=Wj;refine U 1 G<|Ac<|Ae<|U 2 G<|H2 G Gt G (by omega) (by omega) G<|An G G<|Uz (s:=Nn) 0 2 (h:=i+(xs.length+1-i)) (ov:=ov) (hh:=AS) G G G G Gt (Ad 0 G Aa) hw (by rw[List.length_take];omega) (by omega) (by omega) (by rw[List.length_take];omega) G (e3 Ag)<|Ac<|Am<|Ow 8 mixed (by kernel_rfl)<|U 3 G<|Hf (r:=((i+1:Nat):Int)) G G (by omega) BV G<|H2 G Gt G (by omega) (by omega) G<|U 2 G<|H2 G Gt G (by omega) (by omega) G<|Oq<|UA 0 1 (k:=i+1) (h:=i+(xs.length+1-i)) (l:=i) (h2:=xs.length) G G G G Gt (by rw[List.length_append,List.length_take];simp;omega) (by omega) (by omega) (by omega) (by simp only[Nat.min_def];split<;>omega) (by omega) G (ys:=(FO i ov xs)) (e4 Ag) fun _=>Ac<|Am ?_;have Ee:(FO i ov xs).length=i+(xs.length+1-i):=(by rw[Sh _ _ _ Ag];omega);rw[Ee];exact FA 2 G<|A5<|BA<|Au 1 G<|AQ<|Au 1 G<|AQ<|Bq () G G trivial G Aa
   ·
    have Rr:xs.length+1<=cap:=(by omega);refine AZ<|Ae<|U 3 G<|Hf (r:=((xs.length+1:Nat):Int)) G G (by omega) BV G<|PO G Gt G (by omega) G<|U 1 G<|Ac<|Am<|Ae<|U 4 G<|Hf (r:=((i+1:Nat):Int)) G G (by omega) BV G<|H2 G Gt G (by omega) (by omega) G<|ft 0 1 zv G G G G (by decide) Gt (by omega) (Nat.le_of_ble_eq_true G) G<|IH G G<|Ac<|Mv G<|Am<|Ow 8 mixed (by kernel_rfl)<|U 3 G<|Hf (r:=((i+1:Nat):Int)) G G (by omega) BV G<|H2 G Gt G (by omega) (by omega) G<|U 2 G<|H2 G Gt G (by omega) (by omega) G<|Oq<|UA 0 0 (k:=i+1) (h:=xs.length+1) (l:=i) (h2:=xs.length+1) G G G G Gt (by omega) (by omega) (by omega) (by omega) (by simp only[Nat.min_def];split<;>omega) (by omega) G (ys:=(xs.take (i+1)++xs.drop i)) (e5 LM) fun _=>Ac<|Ae<|U 2 G<|H2 G Gt G (by omega) (by omega) G<|An G G<|Uz (s:=Nn) 0 1 (h:=xs.length+1) (ov:=ov) (hh:=AS) G G G G Gt (Ad 0 G Aa) hw (by rw[U7 (by omega)];omega) (by omega) (by omega) (by rw[U7 (by omega)];omega) G (e6 LM)<|Ac<|Am ?_;have Ee:(FO i ov xs).length=xs.length+1:=Sh _ _ _ Ag;rw[Ee];exact FA 2 G<|A5<|BA<|Au 1 G<|AQ<|Bq () G G trivial G Aa
theorem qq(v:Value)(xs:List BL)(i b:Nat)(ov:BL)(Ag:i<=xs.length)(hw:ov.wf)(hlen:xs.length<=100000):Aw AG 292 [v,.int .i64 (i:Int),.slice (some ⟨b,0,none⟩) 1 1] [@row BL W8 54 v xs,AO b 54 (H9 ov)] [] (fun(_:Unit) _=>True) (fun _ u=>[@row BL W8 54 u (FO i ov xs)]) (fun _ _=>[]):=by
 refine Aw.proof Tryz.func292 G 95 G G fun X w=>AF 1 G<|Ae<|U 2 G<|gj 0 G G J1 G Ag G fun _=>Ac<|Ae<|An G G<|WN G Tryz.underlying23 G<|U 1 G<|Ac<|Am<|AF 2 G<|B9 G (fun CR=>?_) (fun CR=>?_)
 · exact absurd CR (by decide) --#done
 ·
  refine AZ<|Ae<|An G G<|JX 0 G G Tryz.underlying23 G fun U9=>U 1 G<|Ac<|Am<|Ae<|U 2 G<|U 1 G<|Ac<|B9 G (fun JQ=>?_) (fun JQ=>?_)
  ·
   have LM:i=xs.length:=(by omega);refine Ae<|U 2 G<|D9 1 G<|KJ (α:=BL) ov (fun S w h=>⟨(),G,by simp,hw⟩)<|ap 0 0 G G G G QN (by simp only[List.length_cons,List.length_nil];omega) (by simp only[List.length_cons,List.length_nil];omega) G fun T7=>?_;rw[e2 (xs:=xs) (ov:=ov) LM];exact U 1 G<|Ac<|BA<|Bq () G G trivial G Aa
  ·
   have LM:i<xs.length:=(by omega);refine Sw 0 G (show 0<xs.length by omega) fun HO cap BC Kn ID=>?_;subst BC;have UZ:cap<=9223372036854775807:=ID;refine AZ<|Am<|Ae<|U 2 G<|C5 G G BV G<|An G G<|dR G Tryz.underlying23 G<|U 1 G<|Ac<|B9 G (fun ES=>?_) (fun ES=>?_)
   ·
    refine Ae<|U 2 G<|PO G J1 G (by omega) G<|U 2 G<|C5 G G BV G<|An G G<|fZ (r:=((xs.length+1-i:Nat):Int)) G G (by omega) BV G<|dy 0 G G G QN Tryz.underlying3 Ag (by omega) (by omega) (by omega) G fun kb Wb iP Wj=>?_;have iQ:Wb<=9223372036854775807:=Wj;refine U 1 G<|Ac<|Ae<|U 2 G<|H2 G J1 G (by omega) (by omega) G<|An G G<|Uz (s:=cy) 0 2 (h:=i+(xs.length+1-i)) (ov:=ov) (hh:=()) G G G G J1 Aa hw (by rw[List.length_take];omega) (by omega) (by omega) (by rw[List.length_take];omega) G (e3 Ag)<|Ac<|Am<|Ow 8 mixed (by kernel_rfl)<|U 3 G<|Hf (r:=((i+1:Nat):Int)) G G (by omega) BV G<|H2 G J1 G (by omega) (by omega) G<|U 2 G<|H2 G J1 G (by omega) (by omega) G<|Oq<|UA 0 1 (k:=i+1) (h:=i+(xs.length+1-i)) (l:=i) (h2:=xs.length) G G G G J1 (by rw[List.length_append,List.length_take];simp;omega) (by omega) (by omega) (by omega) (by simp only[Nat.min_def];split<;>omega) (by omega) G (ys:=(FO i ov xs)) (e4 Ag) fun _=>Ac<|Am ?_;have Ee:(FO i ov xs).length=i+(xs.length+1-i):=(by rw[Sh _ _ _ Ag];omega);rw[Ee];exact FA 2 G<|A5<|BA<|Au 1 G<|AQ<|Au 1 G<|AQ<|Bq () G G trivial G Aa
   ·
    have Rr:xs.length+1<=cap:=(by omega);refine AZ<|Ae<|U 3 G<|Hf (r:=((xs.length+1:Nat):Int)) G G (by omega) BV G<|PO G J1 G (by omega) G<|U 1 G<|Ac<|Am<|Ae<|U 4 G<|Hf (r:=((i+1:Nat):Int)) G G (by omega) BV G<|H2 G J1 G (by omega) (by omega) G<|ft 0 1 zw G G G G (by decide) J1 (by omega) (Nat.le_of_ble_eq_true G) G<|IH G G<|Ac<|Mv G<|Am<|Ow 8 mixed (by kernel_rfl)<|U 3 G<|Hf (r:=((i+1:Nat):Int)) G G (by omega) BV G<|H2 G J1 G (by omega) (by omega) G<|U 2 G<|H2 G J1 G (by omega) (by omega) G<|Oq<|UA 0 0 (k:=i+1) (h:=xs.length+1) (l:=i) (h2:=xs.length+1) G G G G J1 (by omega) (by omega) (by omega) (by omega) (by simp only[Nat.min_def];split<;>omega) (by omega) G (ys:=(xs.take (i+1)++xs.drop i)) (e5 LM) fun _=>Ac<|Ae<|U 2 G<|H2 G J1 G (by omega) (by omega) G<|An G G<|Uz (s:=cy) 0 1 (h:=xs.length+1) (ov:=ov) (hh:=()) G G G G J1 Aa hw (by rw[U7 (by omega)];omega) (by omega) (by omega) (by rw[U7 (by omega)];omega) G (e6 LM)<|Ac<|Am ?_;have Ee:(FO i ov xs).length=xs.length+1:=Sh _ _ _ Ag;rw[Ee];exact FA 2 G<|A5<|BA<|Au 1 G<|AQ<|Bq () G G trivial G Aa
theorem AcJ(v:Value)(xs:List Df)(i b:Nat)(ov:Df)(Ag:i<=xs.length)(hw:ov.wf)(hlen:xs.length<=100000):Aw AG 295 [v,.int .i64 (i:Int),.slice (some ⟨b,0,none⟩) 1 1] [@row Df Y9 125 v xs,AO b 125 (QT ov)] [] (fun(_:Unit) _=>True) (fun _ u=>[@row Df Y9 125 u (FO i ov xs)]) (fun _ _=>[]):=by
 refine Aw.proof Tryz.func295 G 95 G G fun X w=>AF 1 G<|Ae<|U 2 G<|gj 0 G G Ky G Ag G fun _=>Ac<|Ae<|An G G<|WN G Tryz.underlying26 G<|U 1 G<|Ac<|Am<|AF 2 G<|B9 G (fun CR=>?_) (fun CR=>?_)
 · exact absurd CR (by decide) --#done
 ·
  refine AZ<|Ae<|An G G<|JX 0 G G Tryz.underlying26 G fun U9=>U 1 G<|Ac<|Am<|Ae<|U 2 G<|U 1 G<|Ac<|B9 G (fun JQ=>?_) (fun JQ=>?_)
  ·
   have LM:i=xs.length:=(by omega);refine Ae<|U 2 G<|D9 1 G<|KJ (α:=Df) ov (fun S w h=>⟨(),G,by simp,hw⟩)<|ap 0 0 G G G G RM (by simp only[List.length_cons,List.length_nil];omega) (by simp only[List.length_cons,List.length_nil];omega) G fun T7=>?_;rw[e2 (xs:=xs) (ov:=ov) LM];exact U 1 G<|Ac<|BA<|Bq () G G trivial G Aa
  ·
   have LM:i<xs.length:=(by omega);refine Sw 0 G (show 0<xs.length by omega) fun HO cap BC Kn ID=>?_;subst BC;have UZ:cap<=9223372036854775807:=ID;refine AZ<|Am<|Ae<|U 2 G<|C5 G G BV G<|An G G<|dR G Tryz.underlying26 G<|U 1 G<|Ac<|B9 G (fun ES=>?_) (fun ES=>?_)
   ·
    refine Ae<|U 2 G<|PO G Ky G (by omega) G<|U 2 G<|C5 G G BV G<|An G G<|fZ (r:=((xs.length+1-i:Nat):Int)) G G (by omega) BV G<|dy 0 G G G RM Tryz.underlying3 Ag (by omega) (by omega) (by omega) G fun kb Wb iP Wj=>?_;have iQ:Wb<=9223372036854775807:=Wj;refine U 1 G<|Ac<|Ae<|U 2 G<|H2 G Ky G (by omega) (by omega) G<|An G G<|Uz (s:=Ze) 0 2 (h:=i+(xs.length+1-i)) (ov:=ov) (hh:=()) G G G G Ky Aa hw (by rw[List.length_take];omega) (by omega) (by omega) (by rw[List.length_take];omega) G (e3 Ag)<|Ac<|Am<|Ow 8 mixed (by kernel_rfl)<|U 3 G<|Hf (r:=((i+1:Nat):Int)) G G (by omega) BV G<|H2 G Ky G (by omega) (by omega) G<|U 2 G<|H2 G Ky G (by omega) (by omega) G<|Oq<|UA 0 1 (k:=i+1) (h:=i+(xs.length+1-i)) (l:=i) (h2:=xs.length) G G G G Ky (by rw[List.length_append,List.length_take];simp;omega) (by omega) (by omega) (by omega) (by simp only[Nat.min_def];split<;>omega) (by omega) G (ys:=(FO i ov xs)) (e4 Ag) fun _=>Ac<|Am ?_;have Ee:(FO i ov xs).length=i+(xs.length+1-i):=(by rw[Sh _ _ _ Ag];omega);rw[Ee];exact FA 2 G<|A5<|BA<|Au 1 G<|AQ<|Au 1 G<|AQ<|Bq () G G trivial G Aa
   ·
    have Rr:xs.length+1<=cap:=(by omega);refine AZ<|Ae<|U 3 G<|Hf (r:=((xs.length+1:Nat):Int)) G G (by omega) BV G<|PO G Ky G (by omega) G<|U 1 G<|Ac<|Am<|Ae<|U 4 G<|Hf (r:=((i+1:Nat):Int)) G G (by omega) BV G<|H2 G Ky G (by omega) (by omega) G<|ft 0 1 zx G G G G (by decide) Ky (by omega) (Nat.le_of_ble_eq_true G) G<|IH G G<|Ac<|Mv G<|Am<|Ow 8 mixed (by kernel_rfl)<|U 3 G<|Hf (r:=((i+1:Nat):Int)) G G (by omega) BV G<|H2 G Ky G (by omega) (by omega) G<|U 2 G<|H2 G Ky G (by omega) (by omega) G<|Oq<|UA 0 0 (k:=i+1) (h:=xs.length+1) (l:=i) (h2:=xs.length+1) G G G G Ky (by omega) (by omega) (by omega) (by omega) (by simp only[Nat.min_def];split<;>omega) (by omega) G (ys:=(xs.take (i+1)++xs.drop i)) (e5 LM) fun _=>Ac<|Ae<|U 2 G<|H2 G Ky G (by omega) (by omega) G<|An G G<|Uz (s:=Ze) 0 1 (h:=xs.length+1) (ov:=ov) (hh:=()) G G G G Ky Aa hw (by rw[U7 (by omega)];omega) (by omega) (by omega) (by rw[U7 (by omega)];omega) G (e6 LM)<|Ac<|Am ?_;have Ee:(FO i ov xs).length=xs.length+1:=Sh _ _ _ Ag;rw[Ee];exact FA 2 G<|A5<|BA<|Au 1 G<|AQ<|Bq () G G trivial G Aa
theorem oi(v:Value)(xs:List BX)(i:Nat)(Ag:i<xs.length)(hlen:xs.length<=100000):Aw AG 90 [v,.int .i64 (i:Int),.int .i64 ((i+1:Nat):Int)] [@row BX Ha 50 v xs] [] (fun(_:Unit) _=>True) (fun _ u=>[@row BX Ha 50 u (xs.eraseIdx i)]) (fun _ _=>[]):=by
 refine Aw.proof Tryz.func90 G 33 G G fun X w=>Sw 0 G (show 0<xs.length by omega) fun HO cap BC Kn ID=>?_;subst BC;have UZ:cap<=9223372036854775807:=ID;refine AF 1 G<|Ae<|U 4 G<|JX 0 G G Tryz.underlying24 G fun qR=>tl G N0 G G G (by omega) (by omega) Kn G fun _=>Ac<|Am<|AF 3 G<|B9 G (fun CR=>?_) (fun CR=>?_)
 · exact absurd CR (by omega) --#done
 ·
  refine AZ<|Ae<|An G G<|JX 0 G G Tryz.underlying24 G fun U9=>U 1 G<|Ac<|Am<|sP 6 ⟨fun Rt=>([[],[],[0,1],[],[],[3,4],[],[]]:List (List Nat)).getD Rt [],fun _ _=>True,fun _ _=>[],fun Rt=>([some ((.slice (some ⟨HO,0,none⟩) xs.length cap)),some (.int .i64 ((i:Int))),some (.slice (some ⟨HO,0,none⟩) i cap),some ((.slice (some ⟨HO,0,none⟩) xs.length cap)),some (.int .i64 (((i+1:Nat):Int))),some (cut HO 11 (i+1) xs.length cap),none,none]:List (Option Value)).getD Rt none,fun _ _=>_,[],[[]]⟩ G mixed (by kernel_rfl) (Nat.le_of_ble_eq_true G) G ?_ ?_
  · exact⟨fun V Az _=>GK (An G G<|GH G G G G),fun V Az _=>GK (An G G<|GH G G G G),fun V Az _=>GK (PO G N0 G (by omega) G<|GH G G G G),fun V Az _=>GK (An G G<|GH G G G G),fun V Az _=>GK (An G G<|GH G G G G),fun V Az _=>GK (H2 G N0 G (by omega) Kn G<|GH G G G G),trivial⟩
  ·
   intro V _;refine Xz [(22,.slice (some ⟨HO,0,none⟩) i cap),(25,cut HO 11 (i+1) xs.length cap),(7,_)] [] (Bs G) Br<|ni 0 (k:=i) (j:=i+1) G G G Mt (by omega) (by omega) G ?_;rw[<-List.eraseIdx_eq_take_drop_succ];exact U 1 G<|Ac<|Ae<|U 2 G<|WN G Tryz.underlying24 G<|An G G<|tk G N0 G G (by omega) Kn G<|Z' 0 G G Mt SM G (by rw[List.length_eraseIdx,if_pos Ag];omega) (by omega) Kn (fun a f=>f.Su _)<|Ac<|AF 2 G<|rt<|Bq () G G trivial G Aa
theorem yx(v:Value)(xs:List Bx)(i:Nat)(Ag:i<xs.length)(hlen:xs.length<=100000):Aw AG 251 [v,.int .i64 (i:Int),.int .i64 ((i+1:Nat):Int)] [@row Bx ML 52 v xs] [] (fun(_:Unit) _=>True) (fun _ u=>[@row Bx ML 52 u (xs.eraseIdx i)]) (fun _ _=>[]):=by
 refine Aw.proof Tryz.func251 G 33 G G fun X w=>Sw 0 G (show 0<xs.length by omega) fun HO cap BC Kn ID=>?_;subst BC;have UZ:cap<=9223372036854775807:=ID;refine AF 1 G<|Ae<|U 4 G<|JX 0 G G Tryz.underlying25 G fun qR=>tl G Ox G G G (by omega) (by omega) Kn G fun _=>Ac<|Am<|AF 3 G<|B9 G (fun CR=>?_) (fun CR=>?_)
 · exact absurd CR (by omega) --#done
 ·
  refine AZ<|Ae<|An G G<|JX 0 G G Tryz.underlying25 G fun U9=>U 1 G<|Ac<|Am<|sP 6 ⟨fun Rt=>([[],[],[0,1],[],[],[3,4],[],[]]:List (List Nat)).getD Rt [],fun _ _=>True,fun _ _=>[],fun Rt=>([some ((.slice (some ⟨HO,0,none⟩) xs.length cap)),some (.int .i64 ((i:Int))),some (.slice (some ⟨HO,0,none⟩) i cap),some ((.slice (some ⟨HO,0,none⟩) xs.length cap)),some (.int .i64 (((i+1:Nat):Int))),some (cut HO 8 (i+1) xs.length cap),none,none]:List (Option Value)).getD Rt none,fun _ _=>_,[],[[]]⟩ G mixed (by kernel_rfl) (Nat.le_of_ble_eq_true G) G ?_ ?_
  · exact⟨fun V Az _=>GK (An G G<|GH G G G G),fun V Az _=>GK (An G G<|GH G G G G),fun V Az _=>GK (PO G Ox G (by omega) G<|GH G G G G),fun V Az _=>GK (An G G<|GH G G G G),fun V Az _=>GK (An G G<|GH G G G G),fun V Az _=>GK (H2 G Ox G (by omega) Kn G<|GH G G G G),trivial⟩
  ·
   intro V _;refine Xz [(22,.slice (some ⟨HO,0,none⟩) i cap),(25,cut HO 8 (i+1) xs.length cap),(7,_)] [] (Bs G) Br<|ni 0 (k:=i) (j:=i+1) G G G QQ (by omega) (by omega) G ?_;rw[<-List.eraseIdx_eq_take_drop_succ];exact U 1 G<|Ac<|Ae<|U 2 G<|WN G Tryz.underlying25 G<|An G G<|tk G Ox G G (by omega) Kn G<|Z' 0 G G QQ SO G (by rw[List.length_eraseIdx,if_pos Ag];omega) (by omega) Kn (fun a f=>f.Su _)<|Ac<|AF 2 G<|rt<|Bq () G G trivial G Aa
end Go.Apw
