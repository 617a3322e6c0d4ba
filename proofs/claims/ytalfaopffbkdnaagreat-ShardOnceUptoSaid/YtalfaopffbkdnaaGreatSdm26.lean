/- The law ShardOnce holds of every input of bulk at most 1048576: from a new state on no operation of a client is answered in two ways, and one that comes again changes nothing but the index. Condition: the bulk bound, which the given statement names. -/
import Derived.JoinedCond
import Derived.Test.YtalfaopffbkdnaaGreatSdm25

set_option maxRecDepth 20000
set_option maxHeartbeats 1000000
set_option maxRecDepth 20000
namespace Go.Proofs.YtalfaopffbkdnaaGreat
open Go.A_ Go.Apw
theorem Aqw{c:Dg}{e:Int}(h:c.wf)(he:A' e):({c with Ca:=e}:Dg).wf:=⟨he,h.2.1,h.2.2.1,h.2.2.2.1,h.2.2.2.2.1,h.2.2.2.2.2.1,h.2.2.2.2.2.2.1,h.2.2.2.2.2.2.2.1,h.2.2.2.2.2.2.2.2.1,h.2.2.2.2.2.2.2.2.2.1,h.2.2.2.2.2.2.2.2.2.2.1,h.2.2.2.2.2.2.2.2.2.2.2.1,h.2.2.2.2.2.2.2.2.2.2.2.2.1,h.2.2.2.2.2.2.2.2.2.2.2.2.2⟩
theorem AtT{S:Bv}{e:Int}(h:S.wf)(he:A' e):({S with DX:=e}:Bv).wf:=⟨h.1,he,h.2.2.1,h.2.2.2.1,h.2.2.2.2.1,h.2.2.2.2.2.1,h.2.2.2.2.2.2.1,h.2.2.2.2.2.2.2.1,h.2.2.2.2.2.2.2.2.1,h.2.2.2.2.2.2.2.2.2.1,h.2.2.2.2.2.2.2.2.2.2.1,h.2.2.2.2.2.2.2.2.2.2.2.1,h.2.2.2.2.2.2.2.2.2.2.2.2.1,h.2.2.2.2.2.2.2.2.2.2.2.2.2.1,h.2.2.2.2.2.2.2.2.2.2.2.2.2.2.1,h.2.2.2.2.2.2.2.2.2.2.2.2.2.2.2.1,h.2.2.2.2.2.2.2.2.2.2.2.2.2.2.2.2⟩
end Go.Proofs.YtalfaopffbkdnaaGreat
namespace Go.A_
open Go.RowKit
section
section
variable{c:Cj} {ops:Array Oper} {Q:Exit->Act->World->Prop} {env:Env} {L:Own} {D:List Atom} {rest:List Oper} {v:Value} {t:TypeId} {p:String} {af:Array Edge} {x y:Operand}
theorem AtS{α:Type}{s:Shape α}(i m o:Nat){xs:List α}{ov ov':α}{u:Value}{e:TypeId}(Ab:AL env x=some (JI v (m*s.size+o)))(Bf:AL env y=some u)(Ag:L[i]? =some (@row α (Be.D5 s) e v xs))(hu:u.oneCell'=true)(hm:xs[m]? =some ov)(A7:o<s.size)
 (Bm:∀h,(s.cells ov h).set o u=s.cells ov' h)(Cl:∀h,s.sub ov' h=s.sub ov h)(hw:s.wf ov'){E:TypeId}(Av:Nv c.P E)(k:Cb Q c ops rest env (L.set i (@row α (Be.D5 s) e v (xs.set m ov'))) D):Cb Q c ops (⟨none,.store E x y,t,p,af,none⟩::rest) env L D:=by
 refine c6 (env':=env) rfl rfl (fun a w f st AR=>?_) k
 have Hv:=List.mem_of_getElem? Ag
 have jt:m<xs.length:=(List.getElem?_eq_some_iff.1 hm).1
 obtain⟨g,cap,cs,Cy,rfl,CK,Kn,Yt,EY,Md,Ep,hlen⟩:=@Vj α (Be.D5 s) _ _ _ _ _ (st.own _ Hv) (by intro e;rw[e]at hm;simp at hm)
 have Fy:@Be.size α (Be.D5 s)=s.size:=rfl
 rw[Fy]at EY
 have Sd:(m+1)*s.size<=cap*s.size:=Nat.mul_le_mul_right _ (by omega)
 rw[Nat.succ_mul]at Sd
 obtain⟨Cx,⟨h,rfl,Lc,_⟩,AN⟩:=@PH α (Be.D5 s) _ _ _ Cy xs 0 Ep (ct CK Md) m ov hm
 rw[Fy]at AN
 have Anr:(s.cells ov h).length=s.size:=s.len ov h
 have Ans:(s.cells ov' h).length=s.size:=s.len ov' h
 have Acf:MO cs (m*s.size) (s.cells ov' h)=cs.set (m*s.size+o) u:=by
  refine List.ext_getElem? fun q=>?_
  rw[T0 _ _ _ _ (by omega)]
  by_cases B':m*s.size<=q/\q<m*s.size+(s.cells ov' h).length
  · rw[if_pos B',<-Bm h,List.getElem?_set,List.getElem?_set]
    by_cases p4:o=q-m*s.size
    · rw[if_pos p4,if_pos (by omega),if_pos (by omega),if_pos (by omega)]
    · rw[if_neg p4,if_neg (by omega)]
      have:=AN (q-m*s.size) _ (List.getElem?_eq_getElem (show q-m*s.size<(s.cells ov h).length by omega))
      rw[cell_of_row w g _ _ e (0,0) CK,List.getElem?_toArray,show 0+m*s.size+(q-m*s.size)=q by omega]at this
      rw[this,List.getElem?_eq_getElem (by omega)]
  · rw[if_neg B',List.getElem?_set_ne (by omega)]
 have hs:C8 [g] w (w.setCell ⟨g,m*s.size+o,none⟩ u):=lZ w g (m*s.size+o) u
 have Mc:(w.setCell ⟨g,m*s.size+o,none⟩ u).heap[g]? =some (.cells (MO cs (m*s.size) (s.cells ov' h)).toArray e (0,0)):=by
  rw[Acf,heap_setCell_same w g _ _ e u CK]
  simp
 have p1:=AiH (D:=s.sub ov' h++D) i m h Ag jt (fun t Av=>List.mem_append_left _ Av) hw st (BP.app (fun t Av=>Lc t (Cl h▸Av)) AR) CK hs Mc
 refine⟨w.setCell ⟨g,m*s.size+o,none⟩ u,?_,f.Su _,p1.1,fun t Av=>p1.2 t (List.mem_append_right _ Av)⟩
 have Af:w.cell? ⟨g,m*s.size+o,none⟩=some cs[m*s.size+o]:=by rw[cell_of_row w g _ _ e (0,0) CK,List.getElem?_toArray,List.getElem?_eq_getElem (by omega)]
 have h2:w.frozen? ⟨g,m*s.size+o,none⟩=false:=frozen_of_row w g _ _ e CK
 obtain⟨e7,J9,HW⟩:=Option.map_eq_some_iff.1 Av.2
 have aR:u.cells= #[u]:=by cases u<;>first|rfl|simp[Value.oneCell']at hu
 have Gg:(store ⟨g,m*s.size+o,none⟩ u).run c.P w=.ok () (w.setCell ⟨g,m*s.size+o,none⟩ u):=by
  rw[run_store c.P w ⟨g,m*s.size+o,none⟩ u .plain hu]
  simp[Af,h2]
 have HX:=f.AL Ab
 simp only[JI,Addr.add_mid,Nat.zero_add]at HX
 simp[execOp,HX,f.AL Bf,Instr.storeAt,Instr.sureAddr,storeVar,aR,sizeOf,typeInfo,J9,HW,storeCells,Addr.add,Gg]
end
end
end Go.A_
set_option maxRecDepth 20000
namespace Go.Proofs.YtalfaopffbkdnaaGreat
open Go.A_ Go.Apw
theorem Atd(KK:Int)(cU:Value)(cs:List Dg)(AsS:Value)(Ar4:List Int)(hlen:cs.length+Ar4.length<=1048576)(hw:∀c∈cs,c.wf):Cv AG 5 [.int .i64 KK,cU,AsS] [⟨cU,cs⟩,⟨AsS,Ar4⟩] (.bool true):=by
 refine Aw.proof Tryz.func5 G 212 G G fun X w=>AF 1 G<|Am<|Ae<|B0 (xe) (Ar G) G Aa G<|IH G G<|Ac<|LW G<|AZ<|Am ?_
 have CK:=Aef KK
 refine rg<|An G G<|F0 Tryz.underlying3 Tryz.underlying61 G (r:=IntKind.u64.wrap KK) G G<|k' G G (by decide) (r:=KP KK 7) G G ?_
 obtain⟨AmU,AmV⟩:=j_ KK (k:=7) (by decide)
 refine F0 Tryz.underlying61 Tryz.underlying3 G (Uf ⟨by omega,by omega⟩) G<|C5 G G BV G<|U 1 G<|Ac<|AF 1 G<|Am<|Lk Dg 35<|rg<|U 2 G<|ap 0 0 G G G G Asn (by simp only[List.length_nil];omega) (by simp only[List.length_nil];omega) G fun L5=>U 1 G<|Ac<|Am<|AF 1 G<|B5<|Hx (σ:=Nat×Value×List Dg) [(0,_),(1,_),(2,_)] _ (fun s C=>(8,.int .i64 (s.1:Int))::(7,s.2.1)::C) (fun s=>[@row Dg W7 35 s.2.1 s.2.2,CL X w]) (fun _ Dw=>Dw) (fun s=>s.1<=Ar4.length/\s.2.2.length<=cs.length+s.1/\∀c∈s.2.2,c.wf) (fun s=>Ar4.length-s.1) (0,L5,cs) (Bs G) (Ad 0 G (Ad 1 G Aa)) ⟨Nat.zero_le _,Nat.le_refl _,hw⟩ (Bs G) G (Ad 0 G (Ad 1 G Aa)) ?_
 rintro⟨i,Fv,Ar7⟩ ⟨Ag,AN,Jh⟩
 simp only at Ag AN Jh
 show CF _ _ _ [(8,.int .i64 ((i:Int))),(7,Fv),(0,_),(1,_),(2,_)] [@row Dg W7 35 Fv Ar7,CL X w] _
 refine Am<|Ae<|U 2 G<|C2 1 G G Tryz.underlying60 G fun AnS=>U 2 G ?_
 refine D4 36 4 [0,1,2,7,8] G G (fun K6 ZK=>by
  have At9:=of_decide_eq_true K6
  exact U 1 G<|Bl G G G<|C2 0 G G Tryz.underlying56 G fun AnT=>U 2 G<|ZK G Br) ?_
 refine Ac<|BN G (fun K7=>?_) (fun K7=>?_)
 ·
  obtain⟨t1,t2⟩:i<Ar4.length/\0<cs.length:=by simpa using K7
  obtain⟨AtF,AtG⟩:=AtH (Ar4.getD i default) t2
  refine AZ<|Am<|B5<|rg<|U 4 G<|Fo 1 G G G tp G fun AkH=>CQ 0 G G (A2 G) G fun Ao9=>F0 Tryz.underlying3 Tryz.underlying61 G (r:=IntKind.u64.wrap (Ar4.getD i default)) G G<|An G G<|C2 1 G G Tryz.underlying56 G fun At6=>F0 Tryz.underlying3 Tryz.underlying61 G (r:=(cs.length:Int)) (mh (by omega)) G<|k' G G (by omega) (r:=KP (Ar4.getD i default) cs.length) G G<|F0 Tryz.underlying61 Tryz.underlying3 G (r:=(((Asd (Ar4.getD i default) cs.length):Nat):Int)) ((Uf ⟨by omega,by omega⟩).trans AtF) G<|Fo 1 G G G AjE G fun ug=>Gi 0 G G (At G) G fun AhP mx=>Lw G Asn G G G G fun At0=>?_
  refine KJ (α:=Dg) (cs.getD ((Asd (Ar4.getD i default) cs.length)) default) (fun S w h=>⟨AhP,G,fun t Av=>by
    simp only[List.mem_cons,List.not_mem_nil,or_false]at Av
    subst Av
    · exact h _ (List.mem_of_getElem? (i:=1) G),mx⟩) ?_
  refine ap 0 0 G G G G Asn (by simp only[List.length_cons,List.length_nil];omega) (by simp only[List.length_cons,List.length_nil];omega) G fun AtV=>U 1 G<|nl<|CU<|A5<|rg<|An G G<|C5 G G BV G<|U 1 G<|nl ?_
  exact Dy ((i+1,AtV,Ar7++[(cs.getD (Asd (Ar4.getD i default) cs.length) default)]):Nat×Value×List Dg) ⟨by show i+1<=_;omega,by show(Ar7++[_]).length<=_;simp only[List.length_append,List.length_cons,List.length_nil];omega,fun c Bm=>(List.mem_append.1 Bm).elim (Jh c) fun q=>by rw[List.mem_singleton.1 q];exact hw _ (Hl AtG)⟩ (by show Ar4.length-(i+1)<Ar4.length-i;omega) (Bs G) G (BE [5,6] G)
 ·
  refine ex<|Ck<|Ck<|D7<|A5<|Am<|AF 1 G<|B5<|Hx (σ:=Nat×List Dg) [(0,_)] _ (fun s C=>(9,.int .i64 (s.1:Int))::(7,Fv)::C) (fun s=>[@row Dg W7 35 Fv s.2,CL X w]) (fun _ Dw=>Dw) (fun s=>s.1<=Ar7.length/\s.2.length=Ar7.length/\(∀c∈s.2,c.wf)/\∀j,j<s.1->¬(s.2.getD j default).Ca=10) (fun s=>Ar7.length-s.1) (0,Ar7) ⟨G,trivial⟩ (Ad 0 G (Ad 1 G Aa)) ⟨Nat.zero_le _,G,Jh,fun j Ay=>absurd Ay (Nat.not_lt_zero j)⟩ (Bs G) G (Ad 0 G (Ad 1 G Aa)) ?_
  rintro⟨j,Ar0⟩ ⟨Ay,PB,Asb,Dq⟩
  simp only at Ay PB Asb Dq
  show CF _ _ _ [(9,.int .i64 ((j:Int))),(7,Fv),(0,_)] [@row Dg W7 35 Fv Ar0,CL X w] _
  refine Am<|Ae<|U 2 G<|JX 0 G G Tryz.underlying56 G fun At7=>U 1 G<|Ac<|B9 G (fun Th=>?_) (fun Th=>?_)
  ·
   have pM:j<Ar0.length:=by simpa using Th
   refine AZ<|Am<|B5<|Ae<|U 2 G<|IF 0 (j) G G G AjE (by omega) (by omega) G<|K3 0 G G (by omega) (BR G) G<|NR (s:=s7) 0 (j) 0 (fun _=>.int .i64 (Ar0.getD (j) default).Ca) G G JP (fun _=>G) (A2 G) G fun Aua AuB=>U 1 G<|Ac<|B9 G (fun Ti=>?_) (fun Ti=>?_)
   ·
    refine rg<|U 2 G<|IF 0 (j) G G G AjE (by omega) (by omega) G<|K3 0 G G (by omega) (BR G) G<|AtS (s:=s7) 0 (j) 0 (ov':=({(Ar0.getD (j) default)with Ca:=0}:Dg)) G G G G JP (Nat.le_of_ble_eq_true G) (fun _=>G) (fun _=>G) (Aqw (Asb _ (Hl pM)) ⟨by decide,by decide⟩) (A2 G)<|nl<|CU<|A5<|rg<|An G G<|C5 G G BV G<|U 1 G<|nl ?_
    exact Dy ((j+1,(Ar0.set (j) ({(Ar0.getD (j) default)with Ca:=0}:Dg))):Nat×List Dg) ⟨by show j+1<=_;omega,by show(List.set _ _ _).length=_;rw[List.length_set];exact PB,AtJ Asb (Aqw (Asb _ (Hl pM)) ⟨by decide,by decide⟩),Atg pM Dq (by show ¬(0:Int)=10;decide)⟩ (by show Ar7.length-(j+1)<Ar7.length-j;omega) (Bs G) G (BE [1,2] G)
   ·
    refine EG<|CU<|A5<|rg<|An G G<|C5 G G BV G<|U 1 G<|nl ?_
    exact Dy ((j+1,Ar0):Nat×List Dg) ⟨by show j+1<=_;omega,PB,Asb,Ki Dq Ti⟩ (by show Ar7.length-(j+1)<Ar7.length-j;omega) (Bs G) G (BE [1,2] G)
  ·
   have As5:=Ate (l:=Ar0) (by simpa using Th) Dq
   refine ex<|Ck<|Ck<|D7<|A5<|Am<|RY<|rg<|U 2 G ?_
   obtain⟨AGl,AqS,AqB,Ap9⟩:∃a b e,Go.Apw.runN (F8 (1+KP KK 7)) 3 Ar0 Ar0.length=(a,b,e):=⟨_,_,_,rfl⟩
   obtain⟨PN,A7,B'⟩:=Atf Ap9 CK Asb As5 (by omega)
   have el:(AGl,AqS,AqB).2.1.length=AqS.length:=rfl
   obtain⟨Pl,SJ⟩:=AqO PN.ints PN.right
   have ArP:EW=4611686018427387904:=rfl
   have ArX:=PN.ix
   refine Dm (sW (1+KP KK 7) _ Ar0 3 (AGl,AqS,AqB) Ap9 CK ⟨by omega,by omega⟩ (by decide) (by decide) ⟨by decide,by decide⟩ (by omega) Asb) (Ar G) G (Ad 0 G Aa) G fun mN Zr AaN=>?_
   obtain⟨RF,N8,OF,P1,P2,SK,vq⟩:=mN
   obtain⟨yO,Apf⟩:=AaN
   subst yO
   refine U 4 G<|CT LQ G fun ho=>Cp 0 G fun bT=>?_
   refine Cp 1 G fun bU=>?_
   refine Cp 2 G fun bV=>?_
   refine Cp 3 G fun bW=>?_
   refine Cp 4 G fun bX=>?_
   refine Cp 5 G fun bY=>?_
   refine BZ 0 (us:=(BY AGl RF N8 OF P1 P2 SK)) G G G (At G) (by simp only[List.all_cons,List.all_nil,Bool.and_true,bT,bU,bV,bW,bX,bY];rfl) G<|U 2 G<|Ac<|Am<|AF 2 G<|LW G<|AZ<|Am<|AF 1 G<|B5<|Ji (σ:=Nat) [(7,_),(10,_),(11,_)] _ (fun a C=>(13,.int .i64 (a:Int))::C) (fun a=>a<=AqS.length) (fun a=>AqS.length-a) 0 (Bs G) (Ad 0 G (Ad 1 G (Ad 2 G (Ad 3 G (Ad 4 G (Ad 5 G (Ad 6 G (Ad 7 G (Ad 8 G (Ad 9 G Aa)))))))))) (Nat.zero_le _) (Bs G) ?_
   intro a At2
   refine Am<|Ae<|U 2 G<|C2 6 G G Tryz.underlying39 G fun At8=>U 1 G<|Ac<|B9 G (fun AmY=>?_) (fun AmY=>?_)
   ·
    refine AZ<|Am<|B5<|AF 1 G<|B5<|Ji (σ:=Nat) [(7,_),(10,_),(11,_),(13,_)] _ (fun k C=>(14,.int .i64 (k:Int))::C) (fun k=>k<=a) (fun k=>a-k) 0 (Bs G) (Ad 0 G (Ad 1 G (Ad 2 G (Ad 3 G (Ad 4 G (Ad 5 G (Ad 6 G (Ad 7 G (Ad 8 G (Ad 9 G Aa)))))))))) (Nat.zero_le _) (Bs G) ?_
    intro k At3
    refine Am<|AF 3 G<|B9 G (fun AaQ=>?_) (fun AaQ=>?_)
    ·
     refine AZ<|Am<|B5<|Am<|Gx mixed (by kernel_rfl)<|U 2 G<|Fo 6 G G G tn G fun Aus=>CJ 0 AsJ G G (BR G) G fun AoY=>CQ 0 G G (A2 G) G fun AuC=>U 2 G ?_
     refine D4 101 7 [7,10,11,13,14] G G (fun R1 AsU=>by
      have AfY:=of_decide_eq_true R1
      exact U 2 G<|Bl G G G<|Fo 8 G G G tn G fun Aub=>Bl G G G<|CJ 0 AsJ G G (BR G) G fun Auc=>Bl G G G<|CQ 0 G G (A2 G) G fun Aut=>U 2 G<|AsU G (Bg.tail (Bg.tail Br))) ?_
     refine An G G ?_
     refine D4 109 12 [7,10,11,13,14] G G (fun As4 AsV=>by
      have Atx:=As4
      try simp only[Bool.and_eq_true,decide_eq_true_eq]at Atx
      exact U 2 G<|Bl G G G<|Fo 8 G G G tn G fun AoC=>Bl G G G<|CJ 0 AsK G G (BR G) G fun AkA=>Bl G G G<|CQ 0 G G (A2 G) G fun Auu=>U 2 G<|Bl G G G<|Fo 10 G G G tn G fun Aud=>Bl G G G<|CJ 0 AsK G G (BR G) G fun AoE=>Bl G G G<|CQ 0 G G (A2 G) G fun Ao1=>U 2 G<|AsV G (Bg.tail (Bg.tail (Bg.tail (Bg.tail Br))))) ?_
     refine An G G ?_
     refine D4 122 12 [7,10,11,13,14] G G (fun As6 AsW=>by
      have Aty:=As6
      try simp only[Bool.and_eq_true,decide_eq_true_eq]at Aty
      exact U 2 G<|Bl G G G<|Fo 8 G G G tn G fun AkC=>Bl G G G<|CJ 0 AsL G G (BR G) G fun AkD=>Bl G G G<|CQ 0 G G (A2 G) G fun Auv=>U 2 G<|Bl G G G<|Fo 10 G G G tn G fun Aue=>Bl G G G<|CJ 0 AsL G G (BR G) G fun Auf=>Bl G G G<|CQ 0 G G (A2 G) G fun Auw=>U 2 G<|AsW G (Bg.tail (Bg.tail (Bg.tail (Bg.tail Br))))) ?_
     refine An G G ?_
     refine D4 135 12 [7,10,11,13,14] G G (fun Tf AsX=>by
      have Atz:=Tf
      try simp only[Bool.and_eq_true,decide_eq_true_eq]at Atz
      exact U 2 G<|Bl G G G<|Fo 8 G G G tn G fun Aug=>Bl G G G<|CJ 0 AsM G G (BR G) G fun Auh=>Bl G G G<|Gi 0 G G (At G) G fun At_ Aux=>U 2 G<|Bl G G G<|Fo 11 G G G tn G fun Aui=>Bl G G G<|CJ 0 AsM G G (BR G) G fun AkE=>Bl G G G<|Gi 0 G G (At G) G fun At' Auy=>Bl G G G<|Qo zf ((AqS.getD a default).Cm) ((AqS.getD k default).Cm) G G G<|U 1 G<|AsX G (Bg.tail (Bg.tail (Bg.tail (Bg.tail (Bg.tail (Bg.tail Br))))))) ?_
     refine Gj<|A5<|BN G (fun Aso=>?_) (fun Aso=>?_)
     ·
      exfalso
      simp only[Bool.and_eq_true,decide_eq_true_eq,Bool.not_eq_true',decide_eq_false_iff_not]at Aso
      obtain⟨⟨⟨⟨DP,EK⟩,FR⟩,Iz⟩,Lv⟩:=Aso
      exact Lv (A7 _ (Hl (by omega)) _ (Hl (by omega)) DP EK FR Iz) --#done
     ·
      refine EG<|CU<|A5<|rg<|An G G<|C5 G G BV G<|U 1 G<|nl ?_
      exact Dy (k+1) (by omega) (by omega) (Bs G) G (BE [2,3,4,5,6,7,8,9,10,11] G)
    ·
     refine ex<|Ck<|Ck<|D7<|CU<|A5<|rg<|An G G<|C5 G G BV G<|U 1 G<|nl ?_
     exact Dy (a+1) (by omega) (by omega) (Bs G) G (BE [0,1,2,3,4,5,6,7,8,9] G)
   ·
    refine ex<|Ck<|Ck<|D7<|A5<|Am<|AF 1 G<|B5<|Ji (σ:=Nat) [(7,_),(10,_)] _ (fun q C=>(15,.int .i64 (q:Int))::C) (fun q=>q<=Ar0.length) (fun q=>Ar0.length-q) 0 (Bs G) (Ad 0 G (Ad 1 G (Ad 2 G (Ad 3 G (Ad 4 G (Ad 5 G (Ad 7 G (Ad 8 G (Ad 9 G Aa))))))))) (Nat.zero_le _) (Bs G) ?_
    intro q At4
    refine Am<|Ae<|U 2 G<|C2 6 G G Tryz.underlying56 G fun At5=>U 1 G<|Ac<|B9 G (fun As7=>?_) (fun As7=>?_)
    ·
     refine AZ<|Am<|B5<|Am<|FJ [[(11,.f1 11 fun BM=>[AO (FH (BM 0)) 54 dh]),(12,.f1 11 fun BM=>[AO (FH (BM 0)) 54 (H9 ((FU AGl.Bz (Ar0.getD q default).Ap).1))])]] [] [(4,Ff [] (fun A4=>some (A4 0)) fun A4=>[⟨(A4 0),(⟨(Ar0.getD q default)⟩:Cq Dg)⟩]),(5,Ff [] (fun A4=>some (A4 0)) fun A4=>[⟨(A4 0),(⟨(Ar0.getD q default).Ap⟩:Cq Int)⟩]),(6,⟨[],fun _=>some (.int .i64 ((Ar0.getD q default).Ap)),fun _=>[],[A' (Ar0.getD q default).Ap]⟩),(7,DF [] (.tuple #[.agg (H9 ((FU AGl.Bz (Ar0.getD q default).Ap).1)).toArray,.bool ((FU AGl.Bz (Ar0.getD q default).Ap).2)])),(11,O6 [0]),(12,DF [0] undef)] [(1,1)] [7,10,15,16,17] (fun _=>G) (fun _=>G) ⟨fun Ai AV Az _=>?_,fun Ai AV Az _=>?_,fun Ai AV Az _=>?_,fun Ai AV Az QJ=>?_,fun Ai AV Az _=>?_,fun Ai AV Az QJ=>?_,trivial⟩ fun Ai QJ=>?_
     · exact Fo 6 G G G AjE G fun Auj=>BU [_] [0] 1 G G
     · exact CJ 0 Sr G G (BR G) G fun Auk=>BU [_] [0] 2 G G
     ·
      refine CQ 1 G G (A2 G) G fun AsT=>?_
      exact WT [] [] 2 G G ⟨AsT,trivial⟩
     · exact B0 (ej _ _ (Ar0.getD q default).Ap (FU AGl.Bz (Ar0.getD q default).Ap) G) (Ar G) G (Ad 3 G Aa) G<|BU [] [] 2 G G
     · exact CT SN G fun nt=>BU [.pointer (some ⟨nt,0,none⟩)] [] 0 G G
     · exact BZ 0 (us:=(H9 ((FU AGl.Bz (Ar0.getD q default).Ap).1))) G G G (At G) G G<|BU [] [] 2 G G
     ·
      obtain⟨AsT,_⟩:=QJ
      generalize FH (Ai 11 0)=nt,Ai 4 0=ub,Ai 5 0=Rz
      refine A5<|Am<|Am<|Gx mixed (by kernel_rfl)<|U 2 G<|Fo 8 G G G AjE G fun Aul=>CJ 0 AtC G G (BR G) G fun Aum=>CQ 0 G G (A2 G) G fun Auz=>U 2 G<|ET 171 3 [] [7,10,15,16] G G G<|An G G ?_
      refine DE 175 9 [7,10,15] G G (fun As8 AsY=>by
       have AtA:=As8
       try simp only[Bool.or_eq_false_iff,decide_eq_true_eq,Bool.not_eq_false']at AtA
       exact AX 4 [0] G G<|Bl G G G<|Fo 10 G G G AjE G fun Aun=>Bl G G G<|CJ 0 Ss G G (BR G) G fun Auo=>Bl G G G<|CQ 0 G G (A2 G) G fun AuA=>U 2 G<|AsY G (Bg.tail (Bg.tail Br))) ?_
      refine Gj<|A5<|BN G (fun Asi=>?_) (fun Asi=>?_)
      ·
       refine ex<|Ck<|D7<|A5<|rg<|An G G<|C5 G G BV G<|U 1 G<|nl<|AQ ?_
       exact Dy (q+1) (by omega) (by omega) (Bs G) G (BE [4,5,6,7,8,9,10,11,12] G)
      ·
       have Asp:∃l,Gc AGl (Ar0.getD q default) (AGl.DX+1) 3=(({AGl with DX:=AGl.DX+1}:Bv),l,0):=by
        simp only[Bool.or_eq_false_iff,Bool.not_eq_false',decide_eq_true_eq,decide_eq_false_iff_not]at Asi
        try simp only[Int.toNat_natCast]at Asi
        obtain⟨⟨A1,AY⟩,A9⟩:=Asi
        exact B' _ A1 AY (by omega)
       obtain⟨l,Asp⟩:=Asp
       refine AZ<|Am<|FJ [[(13,.f1 13 fun BM=>[AO (FH (BM 0)) 31 IQ]),(14,.f2 13 8 fun BM GL=>[AO (FH (BM 0)) 31 (BY (({AGl with DX:=AGl.DX+1}:Bv)) (GL 0) (GL 1) (GL 2) (GL 3) (GL 4) (GL 5))])]] [] [(3,Ff [] (fun A4=>some (A4 0)) fun A4=>[⟨(A4 0),(⟨(Ar0.getD q default)⟩:Cq Dg)⟩]),(4,⟨[],fun A4=>some (.agg (IT ((Ar0.getD q default)) (A4 0)).toArray),fun A4=>[⟨(A4 0),(Ar0.getD q default).Cf⟩],[(Ar0.getD q default).wf]⟩),(7,DF [] (.int .i64 ((AGl.DX+1)))),(8,⟨[],fun A4=>some (.tuple #[.agg (BY (({AGl with DX:=AGl.DX+1}:Bv)) (A4 0) (A4 1) (A4 2) (A4 3) (A4 4) (A4 5)).toArray,(A4 6),.int .i64 0]),fun A4=>[⟨(A4 0),({AGl with DX:=AGl.DX+1}:Bv).Aj⟩,⟨(A4 1),({AGl with DX:=AGl.DX+1}:Bv).Bz⟩,⟨(A4 2),({AGl with DX:=AGl.DX+1}:Bv).AA⟩,⟨(A4 3),({AGl with DX:=AGl.DX+1}:Bv).Bj⟩,⟨(A4 4),({AGl with DX:=AGl.DX+1}:Bv).CX⟩,⟨(A4 5),({AGl with DX:=AGl.DX+1}:Bv).Cf⟩,⟨(A4 6),l⟩],[({AGl with DX:=AGl.DX+1}:Bv).wf]⟩),(13,O6 [0]),(14,DF [0] undef)] [(0,2),(6,2)] [7,10,15,18,20] (fun _=>G) (fun _=>G) ⟨fun Ai AV Az _=>?_,fun Ai AV Az _=>?_,fun Ai AV Az _=>?_,fun Ai AV Az QJ=>?_,fun Ai AV Az _=>?_,fun Ai AV Az QJ=>?_,trivial⟩ fun Ai QJ=>?_
       · exact Fo 10 G G G AjE G fun Aup=>BU [_] [0] 1 G G
       ·
        refine Gi 0 G G (At G) G fun AsP Asm=>?_
        exact WT [AsP] [1] 3 G G ⟨Asm,trivial⟩
       · exact C5 G G BV G<|BU [] [] 0 G G
       ·
        obtain⟨Asm,_⟩:=QJ
        refine Dm (w4 AGl _ _ _ _ _ _ (Ar0.getD q default) _ (AGl.DX+1) 3 (({AGl with DX:=AGl.DX+1}:Bv),l,0) Asp PN.ints Apf Asm ⟨by omega,by omega⟩ ⟨by decide,by decide⟩) (Ar G) G (BE [6,7,8,9,10,11,1] G) G fun AtY Auq As9=>?_
        obtain⟨gx,Zp,mg,Aqc,Aqd,AoB,ArV⟩:=AtY
        obtain⟨As2,Asx⟩:=As9
        subst As2
        exact WT [gx,Zp,mg,Aqc,Aqd,AoB,ArV] [0,1,2,3,4,5,6] 9 G G ⟨Asx,trivial⟩
       · exact CT LQ G fun Asy=>BU [.pointer (some ⟨Asy,0,none⟩)] [] 0 G G
       ·
        refine Cp 2 G fun Ka=>?_
        refine Cp 3 G fun kh=>?_
        refine Cp 4 G fun ki=>?_
        refine Cp 5 G fun kj=>?_
        refine Cp 6 G fun kk=>?_
        refine Cp 7 G fun kl=>?_
        exact BZ 0 (us:=(BY (({AGl with DX:=AGl.DX+1}:Bv)) (Ai 8 0) (Ai 8 1) (Ai 8 2) (Ai 8 3) (Ai 8 4) (Ai 8 5))) G G G (At G) (by simp only[List.all_cons,List.all_nil,Bool.and_true,Ka,kh,ki,kj,kk,kl];rfl) G<|BU [] [] 9 G G
       ·
        obtain⟨Asm,Asx,_⟩:=QJ
        generalize FH (Ai 13 0)=Asy,Ai 3 0=Mm,Ai 4 0=AsP,Ai 8 0=gx,Ai 8 1=Zp,Ai 8 2=mg,Ai 8 3=Aqc,Ai 8 4=Aqd,Ai 8 5=AoB,Ai 8 6=ArV
        refine A5<|Ae<|BJ 2 (BY AGl RF N8 OF P1 P2 SK) G G (At G) G G<|Dm (Aqz _ _ _ _ _ _ _ Apf (Aqh PN.ints PN.right)) (Ar G) G (BE [13,14,15,16,17,18] G) G fun⟨GD,dG,hB,xR,xS,xT⟩ Aur As_=>?_
        subst As_
        refine CT LQ G fun AtZ=>Cp 0 G fun AqV=>?_
        refine Cp 1 G fun AqW=>?_
        refine Cp 2 G fun AqX=>?_
        refine Cp 3 G fun AqY=>?_
        refine Cp 4 G fun AqZ=>?_
        refine Cp 5 G fun Aq0=>?_
        refine BZ 0 (us:=(BY AGl GD dG hB xR xS xT)) G G G (At G) (by simp only[List.all_cons,List.all_nil,Bool.and_true,AqV,AqW,AqX,AqY,AqZ,Aq0];rfl) G<|Ac<|Ae<|AX 2 [0] G G<|C5 G G BV G<|U 1 G<|Fi 0 G G G (A2 G) G (Da G)<|Ac<|Am ?_
        have AtX:({AGl with DX:=AGl.DX+1}:Bv).wf:=AtT Apf ⟨by omega,by omega⟩
        refine rg<|U 3 G ?_
        refine DE 206 5 [7,10,15] G G (fun As' AsZ=>by
         have AtB:=As'
         simp only[Bool.not_eq_false',decide_eq_true_eq]at AtB
         exact Bl G G G<|BJ 1 (BY (({AGl with DX:=AGl.DX+1}:Bv)) gx Zp mg Aqc Aqd AoB) G G (At G) G G<|Bl G G G<|BJ 0 (BY (({AGl with DX:=AGl.DX+1}:Bv)) GD dG hB xR xS xT) G G (At G) G G<|Bl G G G<|B0 (Ai' (({AGl with DX:=AGl.DX+1}:Bv)) _ _ _ _ _ _ (({AGl with DX:=AGl.DX+1}:Bv)) _ _ _ _ _ _ Asx AtX) (Ar G) G (BE [8,9,10,11,12,13,0,1,2,3,4,5] G) G<|U 2 G<|AsZ G Br) ?_
        refine Ac<|BN G (fun Asz=>?_) (fun Asz=>?_)
        ·
         exfalso
         simp[Aja]at Asz --#done
        ·
         refine EG<|CU<|A5<|rg<|An G G<|C5 G G BV G<|U 1 G<|nl<|AQ<|AQ<|AQ ?_
         exact Dy (q+1) (by omega) (by omega) (Bs G) G (BE [19,20,21,22,23,24,25,26,27] G)
    · exact ex<|Ck<|Ck<|D7<|A5<|AF 1 G<|rt<|AQ<|Bq () G G (by rfl) G Aa
end Go.Proofs.YtalfaopffbkdnaaGreat
namespace Go.Proofs.YtalfaopffbkdnaaGreat
open Go.A_ Go.Apw Go.ChangeShapes Go.WideShapes Go.ChangeAt Go.RowKit
section
theorem Tryz.own:ownKnob Tryz.prog.godebug=none:=by kernel_rfl
theorem Tryz.laidOut:laidOutB Tryz.prog=true:=by kernel_rfl
set_option maxRecDepth 100000 in
theorem AtL(H:Type)(enc:TypeId×Value->H)(W:World)(base:Nat)(args:Array Value)(Cx gs:List (DataW H))(before:List MemPlace)(AE:Rows.uptoSmall H (Cx++gs)=true)
    (PD:∀(j:Nat) t v,Tryz.f5.params[j]? =some t->args[j]? =some v->Value.okWide Tryz.prog W .any base t v)
    (F5:DataW.Whole enc Tryz.prog Tryz.f5.params.toList Rows.shardOnceSpec.vars false W args.toList Cx gs before):
    Calls Tryz.prog 5 args W fun e SY=>∃v,e=.returned v/\Rows.shardOnceSpec.post enc Tryz.prog Tryz.f5 false true false false W args v SY:=by
  have iV:=F5
  obtain⟨p,q,AaS,LC,rfl,AbI,OZ⟩:=F5
  have Cl:DataW.TrodAll enc Tryz.prog W 0 (fun _=>true) true Tryz.f5.params.toList args.toList Cx p:=AaS
  rw[Tryz.params5]at Cl PD
  obtain⟨v0,cg,d0,Fb,An9,L3,AK,rfl,rfl,Bw,Cl⟩:=trodAll_cons Cl
  obtain⟨v1,NY,d1,B4,Rn,Ey,rfl,rfl,rfl,Af,Cl⟩:=trodAll_cons Cl
  obtain⟨v2,MK,d2,DC,WY,Ez,rfl,rfl,rfl,h2,Cl⟩:=trodAll_cons Cl
  obtain⟨rfl,rfl,rfl⟩:=trodAll_nil Cl
  obtain⟨rfl,rfl⟩:=trodVars_none LC
  have eI:args= #[v0,v1,v2]:=Array.toList_inj.1 AK
  subst eI
  obtain⟨KK,rfl,rfl,rfl,Ak0⟩:=open_int Tryz.underlying3 (PD 0 3 v0 rfl rfl) Bw
  simp[Lit.wf,IntKind.min,IntKind.max,IntKind.signed,IntKind.bits]at Ak0
  obtain⟨cs,k1⟩:=w8 Tryz.underlying56 AfJ (PD 1 56 v1 rfl rfl) Af
  have Amu:=AdS Tryz.underlying56 Af k1
  obtain⟨Ar4,AsQ⟩:=w8 Tryz.underlying60 Atw (PD 2 60 v2 rfl rfl) h2
  have At1:=AdS Tryz.underlying60 h2 AsQ
  have AE:Rows.uptoBulk (H:=H) (.lit (.int .i64 KK))+(Rows.uptoBulk d1+(Rows.uptoBulk d2+0))<=1048576:=by simpa[Rows.uptoSmall,Rows.uptoBulkAll]using AE
  have JU:=Atd KK v1 cs v2 Ar4 (by omega) (O7 (s:=s7) k1)
  refine JU.post Tryz.laidOut (by kernel_rfl) rfl (by kernel_rfl) Tryz.underlying4 rfl iV ?_
  intro t Av
  rcases List.mem_cons.1 Av with rfl|h
  · exact k1
  · obtain rfl:=List.mem_singleton.1 h
    exact AsQ
set_option maxRecDepth 100000 in
theorem AtN(os:Os)(started:os.Started)(H:Type)(enc:TypeId×Value->H)(F:Stop.Interp):
    ReturnsInHanded {} Tryz.checked os 5 .any ((Rows.OpenSpec.upto Rows.shardOnceSpec).pre6 enc Tryz.prog Tryz.f5 Rows.shardOnceUptoRow.domain false) (((Rows.OpenSpec.upto Rows.shardOnceSpec).at F).post enc Tryz.prog Tryz.f5 false true false false):=by
  refine returnsInHanded_of_cond (C:=Tryz.checked) (s:=Rows.OpenSpec.upto Rows.shardOnceSpec) (k:=Rows.uptoSmall) rfl Tryz.own started (by kernel_rfl) Tryz.func5
    (OpenSpec.witness (enc:=enc) (C:=Tryz.checked) (s:=Rows.OpenSpec.upto Rows.shardOnceSpec) (k:=Rows.uptoSmall) rfl false ⟨#[],#[.int .i64 0,.slice none 0 0,.slice none 0 0],[]⟩ 8 (by kernel_rfl) (by kernel_rfl) (by kernel_rfl)
      (x:=([.lit (.int .i64 0),.nil,.nil],[],[])) (by kernel_rfl) rfl (by kernel_rfl)) ?_
  intro W base args Cx gs before PD F5 _ AE _
  exact AtL H enc W base args Cx gs before AE PD F5
theorem w2{a b:Bool}(AK:a=true)(Aq:b=true):(a&&b)=true:=by rw[AK,Aq];rfl
set_option maxHeartbeats 40000000 in
theorem AtK:joinedFacts Tryz.prog 5 Tryz.f5 (Rows.OpenSpec.upto Rows.shardOnceSpec).bare Rows.shardOnceUptoRow=true:=by
  unfold joinedFacts
  repeat' (with_reducible apply w2)
  all_goals (as_aux_lemma=>kernel_rfl)
theorem AtO:Tryz.prog.funcNamed Rows.shardOnceUptoRow.func=some 5:=by kernel_rfl
theorem AtM:Tryz.f5.isInstance Tryz.prog Rows.shardOnceUptoRow.origin Rows.shardOnceUptoRow.targs:=of_decide_eq_true (by kernel_rfl)
theorem AtQ:Tryz.f5.isWrapper Tryz.prog Rows.shardOnceUptoRow.wrapper Rows.shardOnceUptoRow.mainSum:=by
  unfold Func.isWrapper
  rw[if_neg (by decide+kernel)]
  exact⟨rfl,rfl⟩
theorem AtP:Rows.shardOnceUptoRow.holds Tryz.pinned (Rows.OpenSpec.upto Rows.shardOnceSpec):=
  OpenClaim.holds_of_cond 5 Tryz.f5 rfl rfl rfl rfl rfl rfl rfl ⟨rfl,rfl,rfl,rfl,rfl⟩ rfl rfl rfl rfl rfl AtO Tryz.func5 AtK AtM AtQ
    (fun os started H enc _ F=>AtN os started H enc F)
theorem shardOnce_holds:Rows.ShardOnceUptoSaid:=AtP
#print axioms shardOnce_holds
end
end Go.Proofs.YtalfaopffbkdnaaGreat
