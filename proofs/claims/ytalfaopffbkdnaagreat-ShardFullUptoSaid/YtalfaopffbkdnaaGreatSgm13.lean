/- Part 13 of shardFull_holds. -/
import Derived.Test.YtalfaopffbkdnaaGreatSgm12

set_option maxRecDepth 20000
set_option maxHeartbeats 1000000
open Go.A_ Go.Apw Go.Proofs Go.Proofs.YtalfaopffbkdnaaGreat
namespace Go.Proofs.YtalfaopffbkdnaaGreat.Ref
section
attribute [local irreducible] UO UM Iu UL Wc L_ HF GG Hk GX F2 FC D6 Gm Kw DT
variable(By bv:Value) (p:Nat) (J:List UInt8) (B3:Bb) (b T:Nat) (q:List Value×Bb) (cells:List Value) (o:Nat)
theorem AdF(AH:B3.pos<=J.length)(Cu:cells[o]? =some AI):Aw AG 275 [By,.pointer (some ⟨b,o,none⟩)] [AO b T cells,AuD p bv B3] [⟨By,(⟨⟨p⟩⟩:Cq AuH)⟩,⟨bv,J⟩] (fun(_:Value) _=>True) (fun y _=>[AO b T (cells.set o y),AuD p bv (CS J (Iu J) B3).2]) (fun y _=>[⟨y,(CS J (Iu J) B3).1⟩]):=by
 refine Aw.proof Tryz.func275 G 55 G G fun X w=>?_;obtain⟨GD,rfl⟩:∃GD:List Value,cells=GD.set o AI:=⟨cells,(TW Cu).symm⟩;have A7:o<GD.length:=by have:=Rj Cu;rwa [List.length_set]at this
 have aM:=W9 J B3;refine Ae<|U 2 G<|ME 0 G G (A2 G) Cu G<|U 1 G<|Ac<|Ae<|U 2 G<|WN G Tryz.underlying69 G<|Ch 1 (Avl By bv p J B3 _ AH) (Ar G) G G (BE [0,1] G) G fun _ PS Fm=>?_;have Fm:PS=.int .i64 ((DT J 1024 B3).1:Int):=Fm;subst Fm;refine U 1 G<|Ac<|Am<|Ae<|An G G<|Co 0 G G G<|CJ 0 AuM G G (BR G) G fun T6=>CQ 0 G G (A2 G) G fun cX=>rG Tryz.underlying105 G G G<|Ac<|Mv G<|rg<|U 2 G<|Fi 0 G G G (A2 G) G (by rw[List.length_set];exact A7) ?_;rw[List.set_set];refine Ac<|AF 1 G<|B5<|Lk BD 83<|Hx (σ:=Nat×Value×List BD×Bb) [(0,_),(1,_),(4,_),(5,_)] _ (fun i C=>(6,.int .i64 (i.1:Int))::C) (fun i=>[row 83 i.2.1 i.2.2.1,AO b T (GD.set o i.2.1),AuD p bv i.2.2.2,CL X w]) (fun _ Dw=>Dw) (fun i=>i.1<=(DT J 1024 B3).1/\i.2.2.1.length=i.1/\i.2.2.2.pos<=J.length/\CS J (Iu J) B3=(i.2.2.1++(GI (Iu J) ((DT J 1024 B3).1-i.1) i.2.2.2).1,(GI (Iu J) ((DT J 1024 B3).1-i.1) i.2.2.2).2)) (fun i=>(DT J 1024 B3).1-i.1) (0,.slice none 0 0,[],(DT J 1024 B3).2) (Bs G) (Ad 1 G (Ad 2 G Aa)) ⟨Nat.zero_le _,G,W_ AH,G⟩ (Bs G) G (Ad 1 G (Ad 2 G Aa)) ?_;rintro⟨i,Fv,acc,s⟩ ⟨Ag,AN,hs,he⟩;simp only at Ag AN hs he;refine Am<|Ae<|U 4 G ?_;refine D4 25 3 [0,1,4,5,6] G G (fun Gr vQ=>by
  have AvB:=of_decide_eq_true Gr;refine U 1 G<|Bl G G G<|Ch 2 (rA By bv p s) (Ar G) G G (Ad 0 G Aa) G fun _ N4 G4=>?_;have G4:N4=.bool (decide ((s.fault:Int)=0)):=G4;subst G4;exact U 1 G<|vQ G Br) ?_
 refine Ac<|BN G (fun R2=>?_) (fun R2=>?_)
 ·
  have sA:=R2;simp at sA;obtain⟨Ey,Ez⟩:=sA;have BI:s.fault=0:=(by omega);have Qa:[(Iu J s).1].length=1:=rfl;refine AZ<|Am<|B5<|Ae<|CT Um G fun Jo=>Ac<|Am<|Ae<|An G G<|Co 0 G G G<|CJ 0 AuM G G (BR G) G fun ue=>CQ 0 G G (A2 G) G fun Zs=>M3 Tryz.underlying105 G G G<|Ac<|LW G<|AZ<|Ae<|An G G<|D9 3 G<|D9 1 G<|Hs 2 (Ab4 By bv p J s Jo hs) (Ar G) G G (BE [1,2] G) G fun _ _ _=>Ac<|Ae<|An G G<|Co 1 G G G<|CJ 1 AuM G G (BR G) G fun AkG=>CQ 0 G G (A2 G) G fun AvH=>rG Tryz.underlying105 G G G<|Ac<|Mv G<|Vh (L:=[AO Jo 83 (JH (Iu J s).1),AuD p bv (Iu J s).2,row 83 Fv acc,AO b T (GD.set o Fv),CL X w]) [(4,.NQ 0)] [(3,⟨some (Fv),fun _=>[],false⟩),(5,⟨none,fun u=>[⟨u,[(Iu J s).1]⟩],false⟩),(6,⟨none,fun _=>[],true⟩),(8,⟨none,fun _=>[],true⟩)] [] [] [(6,fun L Gz=>NZ 2 (row 83 (Gz 6) (acc++[(Iu J s).1])) L),(8,fun L Gz=>NZ 1 (AO b T ((GD.set o Fv).set o (Gz 6))) L)] (fun _=>G) (fun _=>by kernel_rfl) ⟨fun V Az _=>GK (ME 3 G G (A2 G) (Zg A7) G<|GH G G G G),fun V Az _=>GK (Lw G S1 G G G G fun Avv=>KJ (α:=BD) (Iu J s).1 (fun S w h=>⟨(),G,by simp,z_ J s⟩)<|nl (Ig G G G trivial (Ad 0 G Aa) (Bg.tail Br))),fun V Az _=>GK (ap 2 0 G G G G S1 (by omega) (by omega) G fun cT=>nl (Ig G G G trivial Aa (Bg.tail Br))),fun V Az _=>GK (IL 3 2 G G G G (A2 G) (by rw[List.length_set];exact A7)<|nl (YW G G Br)),trivial⟩ fun V _=>Vu [1,2,3,4] G<|?_;generalize V 6=v0;refine CU<|A5<|rg<|An G G<|C5 G G BV G<|U 1 G<|nl<|AQ<|Au 2 G<|Au 2 G ?_;exact Dy ((i+1,v0,acc++[(Iu J s).1],(Iu J s).2):Nat×Value×List BD×Bb) ⟨by omega,by simp[AN],ik hs,Y' (by omega) BI he⟩ (by show _-_<_-_;omega) (Bs G) (by simp only[List.set_set];rfl) (BE [2,3] G)
 ·
  have sA:=R2;simp at sA;have Fx:GI (Iu J) ((DT J 1024 B3).1-i) s=([],s):=by
   by_cases BI:s.fault=0
   ·
    by_cases C_:i<(DT J 1024 B3).1
    · exact absurd BI (sA (by omega))
    ·
     have e:(DT J 1024 B3).1-i=0:=(by omega);rw[e];rfl
   · exact Za BI _
  rw[Fx]at he;simp only[List.append_nil]at he;exact ex<|Ck<|Ck<|D7<|K5<|Dz Fv G trivial (by simp only[he,List.set_set,List.cons_append,List.nil_append]<;>rfl) (by simp only[he];exact(Bg.cons 0 rfl Bg.nil))
theorem AdG(AH:q.2.pos<=J.length)(Cu:q.1[o]? =some AI):Aw AG 275 [By,.pointer (some ⟨b,o,none⟩)] [AO b T q.1,AuD p bv q.2] [⟨By,(⟨⟨p⟩⟩:Cq AuH)⟩,⟨bv,J⟩] (fun(_:Value) _=>True) (fun y _=>[AO b T (C7 o y (CS J (Iu J)) q).1,AuD p bv (C7 o y (CS J (Iu J)) q).2]) (fun y _=>[⟨y,(CS J (Iu J) q.2).1⟩]):=
 AdF By bv p J q.2 b T q.1 o AH Cu
theorem wN(s:Bb)(b:Nat)(AH:s.pos<=J.length):Aw AG 204 [By,.pointer (some ⟨b,0,none⟩)] [AO b 73 N9,AuD p bv s] [⟨By,(⟨⟨p⟩⟩:Cq AuH)⟩,⟨bv,J⟩] (fun(_:Value) _=>True) (fun y _=>[AO b 73 (A3 (F2 J s).1 y),AuD p bv (F2 J s).2]) (fun y _=>[⟨y,(F2 J s).1.A0⟩]):=by
 exact Aw.proof Tryz.func204 G 33 G G fun X w=>Ae<|U 4 G<|Hs 2 (Au7 By bv p J b 73 (N9,s) 0 AH G) (Ar G) G G (BE [0,1] G) G fun _ _ _=>Ac<|Ae<|U 4 G<|Hs 2 (Az6 By bv p J b 73 (Ea J [0] (N9,s)) 1 (MP AH) G G) (Ar G) G G (BE [0,1] G) G fun _ _ _=>Ac<|Am<|MM b [3,4] [1,2,0] (fun u=>NO By bv u p J b 73 (AuJ J 1 (Ea J [0] (N9,s))) [3,4] (AwE (MP AH)) (SL G) (by decide)) (Ar G) HB G G (by kernel_rfl) (fun _=>G)<|A5<|Ae<|U 4 G<|Hs 2 (AdG By bv p J b 73 (CO J [3,4] (AuJ J 1 (Ea J [0] (N9,s)))) 5 (Hw (AwE (MP AH))) G) (Ar G) G G (BE [0,1] G) G fun Pm _ _=>Ac<|rg<|U 4 G<|Hs 2 (AyZ By bv p J b 73 (C7 5 Pm (CS J (Iu J)) (CO J [3,4] (AuJ J 1 (Ea J [0] (N9,s))))) 6 (Ik (Ij (fun _ hh=>ik hh) (Hw (AwE (MP AH))))) G G G G) (Ar G) G G (BE [1,2] G) G fun _ _ _=>nl<|Dz Pm G trivial (by simp only[Ayx,List.cons_append,List.nil_append]<;>rfl) (by rw[<-Ayy J s Pm];exact(Bg.cons 0 rfl Bg.nil))
theorem Adw(AH:B3.pos<=J.length)(Cu:cells[o]? =some AI):Aw AG 109 [By,.pointer (some ⟨b,o,none⟩)] [AO b T cells,AuD p bv B3] [⟨By,(⟨⟨p⟩⟩:Cq AuH)⟩,⟨bv,J⟩] (fun(_:Value) _=>True) (fun y _=>[AO b T (cells.set o y),AuD p bv (CS J (F2 J) B3).2]) (fun y _=>[⟨y,(CS J (F2 J) B3).1⟩]):=by
 refine Aw.proof Tryz.func109 G 55 G G fun X w=>?_;obtain⟨GD,rfl⟩:∃GD:List Value,cells=GD.set o AI:=⟨cells,(TW Cu).symm⟩;have A7:o<GD.length:=by have:=Rj Cu;rwa [List.length_set]at this
 have aM:=W9 J B3;refine Ae<|U 2 G<|ME 0 G G (A2 G) Cu G<|U 1 G<|Ac<|Ae<|U 2 G<|WN G Tryz.underlying22 G<|Ch 1 (Avl By bv p J B3 _ AH) (Ar G) G G (BE [0,1] G) G fun _ PS Fm=>?_;have Fm:PS=.int .i64 ((DT J 1024 B3).1:Int):=Fm;subst Fm;refine U 1 G<|Ac<|Am<|Ae<|An G G<|Co 0 G G G<|CJ 0 AuM G G (BR G) G fun T6=>CQ 0 G G (A2 G) G fun cX=>rG Tryz.underlying105 G G G<|Ac<|Mv G<|rg<|U 2 G<|Fi 0 G G G (A2 G) G (by rw[List.length_set];exact A7) ?_;rw[List.set_set];refine Ac<|AF 1 G<|B5<|Lk AD 73<|Hx (σ:=Nat×Value×List AD×Bb) [(0,_),(1,_),(4,_),(5,_)] _ (fun i C=>(6,.int .i64 (i.1:Int))::C) (fun i=>[row 73 i.2.1 i.2.2.1,AO b T (GD.set o i.2.1),AuD p bv i.2.2.2,CL X w]) (fun _ Dw=>Dw) (fun i=>i.1<=(DT J 1024 B3).1/\i.2.2.1.length=i.1/\i.2.2.2.pos<=J.length/\CS J (F2 J) B3=(i.2.2.1++(GI (F2 J) ((DT J 1024 B3).1-i.1) i.2.2.2).1,(GI (F2 J) ((DT J 1024 B3).1-i.1) i.2.2.2).2)) (fun i=>(DT J 1024 B3).1-i.1) (0,.slice none 0 0,[],(DT J 1024 B3).2) (Bs G) (Ad 1 G (Ad 2 G Aa)) ⟨Nat.zero_le _,G,W_ AH,G⟩ (Bs G) G (Ad 1 G (Ad 2 G Aa)) ?_;rintro⟨i,Fv,acc,s⟩ ⟨Ag,AN,hs,he⟩;simp only at Ag AN hs he;refine Am<|Ae<|U 4 G ?_;refine D4 25 3 [0,1,4,5,6] G G (fun Gr vQ=>by
  have AvB:=of_decide_eq_true Gr;refine U 1 G<|Bl G G G<|Ch 2 (rA By bv p s) (Ar G) G G (Ad 0 G Aa) G fun _ N4 G4=>?_;have G4:N4=.bool (decide ((s.fault:Int)=0)):=G4;subst G4;exact U 1 G<|vQ G Br) ?_
 refine Ac<|BN G (fun R2=>?_) (fun R2=>?_)
 ·
  have sA:=R2;simp at sA;obtain⟨Ey,Ez⟩:=sA;have BI:s.fault=0:=(by omega);have Qa:[(F2 J s).1].length=1:=rfl;refine AZ<|Am<|B5<|Ae<|CT Hd G fun Jo=>Ac<|Am<|Ae<|An G G<|Co 0 G G G<|CJ 0 AuM G G (BR G) G fun ue=>CQ 0 G G (A2 G) G fun Zs=>M3 Tryz.underlying105 G G G<|Ac<|LW G<|AZ<|Ae<|An G G<|D9 3 G<|D9 1 G<|Hs 2 (wN By bv p J s Jo hs) (Ar G) G G (BE [1,2] G) G fun AvX _ _=>Ac<|Ae<|An G G<|Co 2 G G G<|CJ 2 AuM G G (BR G) G fun AkG=>CQ 0 G G (A2 G) G fun AvH=>rG Tryz.underlying105 G G G<|Ac<|Mv G<|Vh (L:=[AO Jo 73 (A3 (F2 J s).1 AvX),AuD p bv (F2 J s).2,row 73 Fv acc,AO b T (GD.set o Fv),CL X w]) [(4,.NQ 0)] [(3,⟨some (Fv),fun _=>[],false⟩),(5,⟨none,fun u=>[⟨u,[(F2 J s).1]⟩],false⟩),(6,⟨none,fun _=>[],true⟩),(8,⟨none,fun _=>[],true⟩)] [] [] [(6,fun L Gz=>NZ 2 (row 73 (Gz 6) (acc++[(F2 J s).1])) L),(8,fun L Gz=>NZ 1 (AO b T ((GD.set o Fv).set o (Gz 6))) L)] (fun _=>G) (fun _=>by kernel_rfl) ?_ fun V _=>?_
  ·
   refine⟨fun V Az _=>GK (ME 3 G G (A2 G) (Zg A7) G<|GH G G G G),?_⟩;refine⟨fun V Az _=>GK ?_,?_⟩
   ·
    refine Lw G OI G G G G fun Avv=>?_;refine KJ (α:=AD) (F2 J s).1 (fun S w h=>⟨AvX,G,fun t Av=>by
      simp only[List.mem_cons,List.not_mem_nil,or_false]at Av;subst Av;exact h _ (List.mem_of_getElem? (i:=1) G),o9 J s⟩) ?_
    exact nl (Ig G G G trivial (Ad 0 G Aa) (Bg.tail Br))
   exact⟨fun V Az _=>GK (ap 2 0 G G G G OI (by omega) (by omega) G fun cT=>nl (Ig G G G trivial Aa (Bg.tail Br))),fun V Az _=>GK (IL 3 2 G G G G (A2 G) (by rw[List.length_set];exact A7)<|nl (YW G G Br)),trivial⟩
  ·
   refine Vu [1,2,3,4,5] G<|?_;generalize V 6=v0;refine CU<|A5<|rg<|An G G<|C5 G G BV G<|U 1 G<|nl<|AQ<|Au 2 G<|Au 2 G ?_;exact Dy ((i+1,v0,acc++[(F2 J s).1],(F2 J s).2):Nat×Value×List AD×Bb) ⟨by omega,by simp[AN],Td hs,Y' (by omega) BI he⟩ (by show _-_<_-_;omega) (Bs G) (by simp only[List.set_set];rfl) (BE [3,4] G)
 ·
  have sA:=R2;simp at sA;have Fx:GI (F2 J) ((DT J 1024 B3).1-i) s=([],s):=by
   by_cases BI:s.fault=0
   ·
    by_cases C_:i<(DT J 1024 B3).1
    · exact absurd BI (sA (by omega))
    ·
     have e:(DT J 1024 B3).1-i=0:=(by omega);rw[e];rfl
   · exact Za BI _
  rw[Fx]at he;simp only[List.append_nil]at he;exact ex<|Ck<|Ck<|D7<|K5<|Dz Fv G trivial (by simp only[he,List.set_set,List.cons_append,List.nil_append]<;>rfl) (by simp only[he];exact(Bg.cons 0 rfl Bg.nil))
theorem Adx(AH:q.2.pos<=J.length)(Cu:q.1[o]? =some AI):Aw AG 109 [By,.pointer (some ⟨b,o,none⟩)] [AO b T q.1,AuD p bv q.2] [⟨By,(⟨⟨p⟩⟩:Cq AuH)⟩,⟨bv,J⟩] (fun(_:Value) _=>True) (fun y _=>[AO b T (C7 o y (CS J (F2 J)) q).1,AuD p bv (C7 o y (CS J (F2 J)) q).2]) (fun y _=>[⟨y,(CS J (F2 J) q.2).1⟩]):=
 Adw By bv p J q.2 b T q.1 o AH Cu
theorem AdJ(AH:B3.pos<=J.length)(Cu:cells[o]? =some AI):Aw AG 110 [By,.pointer (some ⟨b,o,none⟩)] [AO b T cells,AuD p bv B3] [⟨By,(⟨⟨p⟩⟩:Cq AuH)⟩,⟨bv,J⟩] (fun(_:Value) _=>True) (fun y _=>[AO b T (cells.set o y),AuD p bv (CS J (GG J) B3).2]) (fun y _=>[⟨y,(CS J (GG J) B3).1⟩]):=by
 refine Aw.proof Tryz.func110 G 55 G G fun X w=>?_;obtain⟨GD,rfl⟩:∃GD:List Value,cells=GD.set o AI:=⟨cells,(TW Cu).symm⟩;have A7:o<GD.length:=by have:=Rj Cu;rwa [List.length_set]at this
 have aM:=W9 J B3;refine Ae<|U 2 G<|ME 0 G G (A2 G) Cu G<|U 1 G<|Ac<|Ae<|U 2 G<|WN G Tryz.underlying23 G<|Ch 1 (Avl By bv p J B3 _ AH) (Ar G) G G (BE [0,1] G) G fun _ PS Fm=>?_;have Fm:PS=.int .i64 ((DT J 1024 B3).1:Int):=Fm;subst Fm;refine U 1 G<|Ac<|Am<|Ae<|An G G<|Co 0 G G G<|CJ 0 AuM G G (BR G) G fun T6=>CQ 0 G G (A2 G) G fun cX=>rG Tryz.underlying105 G G G<|Ac<|Mv G<|rg<|U 2 G<|Fi 0 G G G (A2 G) G (by rw[List.length_set];exact A7) ?_;rw[List.set_set];refine Ac<|AF 1 G<|B5<|Lk BL 54<|Hx (σ:=Nat×Value×List BL×Bb) [(0,_),(1,_),(4,_),(5,_)] _ (fun i C=>(6,.int .i64 (i.1:Int))::C) (fun i=>[row 54 i.2.1 i.2.2.1,AO b T (GD.set o i.2.1),AuD p bv i.2.2.2,CL X w]) (fun _ Dw=>Dw) (fun i=>i.1<=(DT J 1024 B3).1/\i.2.2.1.length=i.1/\i.2.2.2.pos<=J.length/\CS J (GG J) B3=(i.2.2.1++(GI (GG J) ((DT J 1024 B3).1-i.1) i.2.2.2).1,(GI (GG J) ((DT J 1024 B3).1-i.1) i.2.2.2).2)) (fun i=>(DT J 1024 B3).1-i.1) (0,.slice none 0 0,[],(DT J 1024 B3).2) (Bs G) (Ad 1 G (Ad 2 G Aa)) ⟨Nat.zero_le _,G,W_ AH,G⟩ (Bs G) G (Ad 1 G (Ad 2 G Aa)) ?_;rintro⟨i,Fv,acc,s⟩ ⟨Ag,AN,hs,he⟩;simp only at Ag AN hs he;refine Am<|Ae<|U 4 G ?_;refine D4 25 3 [0,1,4,5,6] G G (fun Gr vQ=>by
  have AvB:=of_decide_eq_true Gr;refine U 1 G<|Bl G G G<|Ch 2 (rA By bv p s) (Ar G) G G (Ad 0 G Aa) G fun _ N4 G4=>?_;have G4:N4=.bool (decide ((s.fault:Int)=0)):=G4;subst G4;exact U 1 G<|vQ G Br) ?_
 refine Ac<|BN G (fun R2=>?_) (fun R2=>?_)
 ·
  have sA:=R2;simp at sA;obtain⟨Ey,Ez⟩:=sA;have BI:s.fault=0:=(by omega);have Qa:[(GG J s).1].length=1:=rfl;refine AZ<|Am<|B5<|Ae<|CT SN G fun Jo=>Ac<|Am<|Ae<|An G G<|Co 0 G G G<|CJ 0 AuM G G (BR G) G fun ue=>CQ 0 G G (A2 G) G fun Zs=>M3 Tryz.underlying105 G G G<|Ac<|LW G<|AZ<|Ae<|An G G<|D9 3 G<|D9 1 G<|Hs 2 (Aeb By bv p J s Jo hs) (Ar G) G G (BE [1,2] G) G fun _ _ _=>Ac<|Ae<|An G G<|Co 1 G G G<|CJ 1 AuM G G (BR G) G fun AkG=>CQ 0 G G (A2 G) G fun AvH=>rG Tryz.underlying105 G G G<|Ac<|Mv G<|Vh (L:=[AO Jo 54 (H9 (GG J s).1),AuD p bv (GG J s).2,row 54 Fv acc,AO b T (GD.set o Fv),CL X w]) [(4,.NQ 0)] [(3,⟨some (Fv),fun _=>[],false⟩),(5,⟨none,fun u=>[⟨u,[(GG J s).1]⟩],false⟩),(6,⟨none,fun _=>[],true⟩),(8,⟨none,fun _=>[],true⟩)] [] [] [(6,fun L Gz=>NZ 2 (row 54 (Gz 6) (acc++[(GG J s).1])) L),(8,fun L Gz=>NZ 1 (AO b T ((GD.set o Fv).set o (Gz 6))) L)] (fun _=>G) (fun _=>by kernel_rfl) ⟨fun V Az _=>GK (ME 3 G G (A2 G) (Zg A7) G<|GH G G G G),fun V Az _=>GK (Lw G QN G G G G fun Avv=>KJ (α:=BL) (GG J s).1 (fun S w h=>⟨(),G,by simp,o_ J s⟩)<|nl (Ig G G G trivial (Ad 0 G Aa) (Bg.tail Br))),fun V Az _=>GK (ap 2 0 G G G G QN (by omega) (by omega) G fun cT=>nl (Ig G G G trivial Aa (Bg.tail Br))),fun V Az _=>GK (IL 3 2 G G G G (A2 G) (by rw[List.length_set];exact A7)<|nl (YW G G Br)),trivial⟩ fun V _=>Vu [1,2,3,4] G<|?_;generalize V 6=v0;refine CU<|A5<|rg<|An G G<|C5 G G BV G<|U 1 G<|nl<|AQ<|Au 2 G<|Au 2 G ?_;exact Dy ((i+1,v0,acc++[(GG J s).1],(GG J s).2):Nat×Value×List BL×Bb) ⟨by omega,by simp[AN],UN hs,Y' (by omega) BI he⟩ (by show _-_<_-_;omega) (Bs G) (by simp only[List.set_set];rfl) (BE [2,3] G)
 ·
  have sA:=R2;simp at sA;have Fx:GI (GG J) ((DT J 1024 B3).1-i) s=([],s):=by
   by_cases BI:s.fault=0
   ·
    by_cases C_:i<(DT J 1024 B3).1
    · exact absurd BI (sA (by omega))
    ·
     have e:(DT J 1024 B3).1-i=0:=(by omega);rw[e];rfl
   · exact Za BI _
  rw[Fx]at he;simp only[List.append_nil]at he;exact ex<|Ck<|Ck<|D7<|K5<|Dz Fv G trivial (by simp only[he,List.set_set,List.cons_append,List.nil_append]<;>rfl) (by simp only[he];exact(Bg.cons 0 rfl Bg.nil))
theorem AdK(AH:q.2.pos<=J.length)(Cu:q.1[o]? =some AI):Aw AG 110 [By,.pointer (some ⟨b,o,none⟩)] [AO b T q.1,AuD p bv q.2] [⟨By,(⟨⟨p⟩⟩:Cq AuH)⟩,⟨bv,J⟩] (fun(_:Value) _=>True) (fun y _=>[AO b T (C7 o y (CS J (GG J)) q).1,AuD p bv (C7 o y (CS J (GG J)) q).2]) (fun y _=>[⟨y,(CS J (GG J) q.2).1⟩]):=
 AdJ By bv p J q.2 b T q.1 o AH Cu
theorem AdO(AH:B3.pos<=J.length)(Cu:cells[o]? =some AI):Aw AG 111 [By,.pointer (some ⟨b,o,none⟩)] [AO b T cells,AuD p bv B3] [⟨By,(⟨⟨p⟩⟩:Cq AuH)⟩,⟨bv,J⟩] (fun(_:Value) _=>True) (fun y _=>[AO b T (cells.set o y),AuD p bv (CS J (GX J) B3).2]) (fun y _=>[⟨y,(CS J (GX J) B3).1⟩]):=by
 refine Aw.proof Tryz.func111 G 55 G G fun X w=>?_;obtain⟨GD,rfl⟩:∃GD:List Value,cells=GD.set o AI:=⟨cells,(TW Cu).symm⟩;have A7:o<GD.length:=by have:=Rj Cu;rwa [List.length_set]at this
 have aM:=W9 J B3;refine Ae<|U 2 G<|ME 0 G G (A2 G) Cu G<|U 1 G<|Ac<|Ae<|U 2 G<|WN G Tryz.underlying24 G<|Ch 1 (Avl By bv p J B3 _ AH) (Ar G) G G (BE [0,1] G) G fun _ PS Fm=>?_;have Fm:PS=.int .i64 ((DT J 1024 B3).1:Int):=Fm;subst Fm;refine U 1 G<|Ac<|Am<|Ae<|An G G<|Co 0 G G G<|CJ 0 AuM G G (BR G) G fun T6=>CQ 0 G G (A2 G) G fun cX=>rG Tryz.underlying105 G G G<|Ac<|Mv G<|rg<|U 2 G<|Fi 0 G G G (A2 G) G (by rw[List.length_set];exact A7) ?_;rw[List.set_set];refine Ac<|AF 1 G<|B5<|Lk BX 50<|Hx (σ:=Nat×Value×List BX×Bb) [(0,_),(1,_),(4,_),(5,_)] _ (fun i C=>(6,.int .i64 (i.1:Int))::C) (fun i=>[row 50 i.2.1 i.2.2.1,AO b T (GD.set o i.2.1),AuD p bv i.2.2.2,CL X w]) (fun _ Dw=>Dw) (fun i=>i.1<=(DT J 1024 B3).1/\i.2.2.1.length=i.1/\i.2.2.2.pos<=J.length/\CS J (GX J) B3=(i.2.2.1++(GI (GX J) ((DT J 1024 B3).1-i.1) i.2.2.2).1,(GI (GX J) ((DT J 1024 B3).1-i.1) i.2.2.2).2)) (fun i=>(DT J 1024 B3).1-i.1) (0,.slice none 0 0,[],(DT J 1024 B3).2) (Bs G) (Ad 1 G (Ad 2 G Aa)) ⟨Nat.zero_le _,G,W_ AH,G⟩ (Bs G) G (Ad 1 G (Ad 2 G Aa)) ?_;rintro⟨i,Fv,acc,s⟩ ⟨Ag,AN,hs,he⟩;simp only at Ag AN hs he;refine Am<|Ae<|U 4 G ?_;refine D4 25 3 [0,1,4,5,6] G G (fun Gr vQ=>by
  have AvB:=of_decide_eq_true Gr;refine U 1 G<|Bl G G G<|Ch 2 (rA By bv p s) (Ar G) G G (Ad 0 G Aa) G fun _ N4 G4=>?_;have G4:N4=.bool (decide ((s.fault:Int)=0)):=G4;subst G4;exact U 1 G<|vQ G Br) ?_
 refine Ac<|BN G (fun R2=>?_) (fun R2=>?_)
 ·
  have sA:=R2;simp at sA;obtain⟨Ey,Ez⟩:=sA;have BI:s.fault=0:=(by omega);have Qa:[(GX J s).1].length=1:=rfl;refine AZ<|Am<|B5<|Ae<|CT SM G fun Jo=>Ac<|Am<|Ae<|An G G<|Co 0 G G G<|CJ 0 AuM G G (BR G) G fun ue=>CQ 0 G G (A2 G) G fun Zs=>M3 Tryz.underlying105 G G G<|Ac<|LW G<|AZ<|Ae<|An G G<|D9 3 G<|D9 1 G<|Hs 2 (Ak5 By bv p J s Jo hs) (Ar G) G G (BE [1,2] G) G fun _ _ _=>Ac<|Ae<|An G G<|Co 1 G G G<|CJ 1 AuM G G (BR G) G fun AkG=>CQ 0 G G (A2 G) G fun AvH=>rG Tryz.underlying105 G G G<|Ac<|Mv G<|Vh (L:=[AO Jo 50 (Hh (GX J s).1),AuD p bv (GX J s).2,row 50 Fv acc,AO b T (GD.set o Fv),CL X w]) [(4,.NQ 0)] [(3,⟨some (Fv),fun _=>[],false⟩),(5,⟨none,fun u=>[⟨u,[(GX J s).1]⟩],false⟩),(6,⟨none,fun _=>[],true⟩),(8,⟨none,fun _=>[],true⟩)] [] [] [(6,fun L Gz=>NZ 2 (row 50 (Gz 6) (acc++[(GX J s).1])) L),(8,fun L Gz=>NZ 1 (AO b T ((GD.set o Fv).set o (Gz 6))) L)] (fun _=>G) (fun _=>by kernel_rfl) ⟨fun V Az _=>GK (ME 3 G G (A2 G) (Zg A7) G<|GH G G G G),fun V Az _=>GK (Lw G Mt G G G G fun Avv=>KJ (α:=BX) (GX J s).1 (fun S w h=>⟨(),G,by simp,Aar J s⟩)<|nl (Ig G G G trivial (Ad 0 G Aa) (Bg.tail Br))),fun V Az _=>GK (ap 2 0 G G G G Mt (by omega) (by omega) G fun cT=>nl (Ig G G G trivial Aa (Bg.tail Br))),fun V Az _=>GK (IL 3 2 G G G G (A2 G) (by rw[List.length_set];exact A7)<|nl (YW G G Br)),trivial⟩ fun V _=>Vu [1,2,3,4] G<|?_;generalize V 6=v0;refine CU<|A5<|rg<|An G G<|C5 G G BV G<|U 1 G<|nl<|AQ<|Au 2 G<|Au 2 G ?_;exact Dy ((i+1,v0,acc++[(GX J s).1],(GX J s).2):Nat×Value×List BX×Bb) ⟨by omega,by simp[AN],Wd hs,Y' (by omega) BI he⟩ (by show _-_<_-_;omega) (Bs G) (by simp only[List.set_set];rfl) (BE [2,3] G)
 ·
  have sA:=R2;simp at sA;have Fx:GI (GX J) ((DT J 1024 B3).1-i) s=([],s):=by
   by_cases BI:s.fault=0
   ·
    by_cases C_:i<(DT J 1024 B3).1
    · exact absurd BI (sA (by omega))
    ·
     have e:(DT J 1024 B3).1-i=0:=(by omega);rw[e];rfl
   · exact Za BI _
  rw[Fx]at he;simp only[List.append_nil]at he;exact ex<|Ck<|Ck<|D7<|K5<|Dz Fv G trivial (by simp only[he,List.set_set,List.cons_append,List.nil_append]<;>rfl) (by simp only[he];exact(Bg.cons 0 rfl Bg.nil))
theorem AdP(AH:q.2.pos<=J.length)(Cu:q.1[o]? =some AI):Aw AG 111 [By,.pointer (some ⟨b,o,none⟩)] [AO b T q.1,AuD p bv q.2] [⟨By,(⟨⟨p⟩⟩:Cq AuH)⟩,⟨bv,J⟩] (fun(_:Value) _=>True) (fun y _=>[AO b T (C7 o y (CS J (GX J)) q).1,AuD p bv (C7 o y (CS J (GX J)) q).2]) (fun y _=>[⟨y,(CS J (GX J) q.2).1⟩]):=
 AdO By bv p J q.2 b T q.1 o AH Cu
theorem Adz(AH:B3.pos<=J.length)(Cu:cells[o]? =some AI):Aw AG 112 [By,.pointer (some ⟨b,o,none⟩)] [AO b T cells,AuD p bv B3] [⟨By,(⟨⟨p⟩⟩:Cq AuH)⟩,⟨bv,J⟩] (fun(_:Value) _=>True) (fun y _=>[AO b T (cells.set o y),AuD p bv (CS J (Hk J) B3).2]) (fun y _=>[⟨y,(CS J (Hk J) B3).1⟩]):=by
 refine Aw.proof Tryz.func112 G 55 G G fun X w=>?_;obtain⟨GD,rfl⟩:∃GD:List Value,cells=GD.set o AI:=⟨cells,(TW Cu).symm⟩;have A7:o<GD.length:=by have:=Rj Cu;rwa [List.length_set]at this
 have aM:=W9 J B3;refine Ae<|U 2 G<|ME 0 G G (A2 G) Cu G<|U 1 G<|Ac<|Ae<|U 2 G<|WN G Tryz.underlying25 G<|Ch 1 (Avl By bv p J B3 _ AH) (Ar G) G G (BE [0,1] G) G fun _ PS Fm=>?_;have Fm:PS=.int .i64 ((DT J 1024 B3).1:Int):=Fm;subst Fm;refine U 1 G<|Ac<|Am<|Ae<|An G G<|Co 0 G G G<|CJ 0 AuM G G (BR G) G fun T6=>CQ 0 G G (A2 G) G fun cX=>rG Tryz.underlying105 G G G<|Ac<|Mv G<|rg<|U 2 G<|Fi 0 G G G (A2 G) G (by rw[List.length_set];exact A7) ?_;rw[List.set_set];refine Ac<|AF 1 G<|B5<|Lk Bx 52<|Hx (σ:=Nat×Value×List Bx×Bb) [(0,_),(1,_),(4,_),(5,_)] _ (fun i C=>(6,.int .i64 (i.1:Int))::C) (fun i=>[row 52 i.2.1 i.2.2.1,AO b T (GD.set o i.2.1),AuD p bv i.2.2.2,CL X w]) (fun _ Dw=>Dw) (fun i=>i.1<=(DT J 1024 B3).1/\i.2.2.1.length=i.1/\i.2.2.2.pos<=J.length/\CS J (Hk J) B3=(i.2.2.1++(GI (Hk J) ((DT J 1024 B3).1-i.1) i.2.2.2).1,(GI (Hk J) ((DT J 1024 B3).1-i.1) i.2.2.2).2)) (fun i=>(DT J 1024 B3).1-i.1) (0,.slice none 0 0,[],(DT J 1024 B3).2) (Bs G) (Ad 1 G (Ad 2 G Aa)) ⟨Nat.zero_le _,G,W_ AH,G⟩ (Bs G) G (Ad 1 G (Ad 2 G Aa)) ?_;rintro⟨i,Fv,acc,s⟩ ⟨Ag,AN,hs,he⟩;simp only at Ag AN hs he;refine Am<|Ae<|U 4 G ?_;refine D4 25 3 [0,1,4,5,6] G G (fun Gr vQ=>by
  have AvB:=of_decide_eq_true Gr;refine U 1 G<|Bl G G G<|Ch 2 (rA By bv p s) (Ar G) G G (Ad 0 G Aa) G fun _ N4 G4=>?_;have G4:N4=.bool (decide ((s.fault:Int)=0)):=G4;subst G4;exact U 1 G<|vQ G Br) ?_
 refine Ac<|BN G (fun R2=>?_) (fun R2=>?_)
 ·
  have sA:=R2;simp at sA;obtain⟨Ey,Ez⟩:=sA;have BI:s.fault=0:=(by omega);have Qa:[(Hk J s).1].length=1:=rfl;refine AZ<|Am<|B5<|Ae<|CT SO G fun Jo=>Ac<|Am<|Ae<|An G G<|Co 0 G G G<|CJ 0 AuM G G (BR G) G fun ue=>CQ 0 G G (A2 G) G fun Zs=>M3 Tryz.underlying105 G G G<|Ac<|LW G<|AZ<|Ae<|An G G<|D9 3 G<|D9 1 G<|Hs 2 (yv By bv p J s Jo hs) (Ar G) G G (BE [1,2] G) G fun _ _ _=>Ac<|Ae<|An G G<|Co 1 G G G<|CJ 1 AuM G G (BR G) G fun AkG=>CQ 0 G G (A2 G) G fun AvH=>rG Tryz.underlying105 G G G<|Ac<|Mv G<|Vh (L:=[AO Jo 52 (H8 (Hk J s).1),AuD p bv (Hk J s).2,row 52 Fv acc,AO b T (GD.set o Fv),CL X w]) [(4,.NQ 0)] [(3,⟨some (Fv),fun _=>[],false⟩),(5,⟨none,fun u=>[⟨u,[(Hk J s).1]⟩],false⟩),(6,⟨none,fun _=>[],true⟩),(8,⟨none,fun _=>[],true⟩)] [] [] [(6,fun L Gz=>NZ 2 (row 52 (Gz 6) (acc++[(Hk J s).1])) L),(8,fun L Gz=>NZ 1 (AO b T ((GD.set o Fv).set o (Gz 6))) L)] (fun _=>G) (fun _=>by kernel_rfl) ⟨fun V Az _=>GK (ME 3 G G (A2 G) (Zg A7) G<|GH G G G G),fun V Az _=>GK (Lw G QQ G G G G fun Avv=>KJ (α:=Bx) (Hk J s).1 (fun S w h=>⟨(),G,by simp,z6 J s⟩)<|nl (Ig G G G trivial (Ad 0 G Aa) (Bg.tail Br))),fun V Az _=>GK (ap 2 0 G G G G QQ (by omega) (by omega) G fun cT=>nl (Ig G G G trivial Aa (Bg.tail Br))),fun V Az _=>GK (IL 3 2 G G G G (A2 G) (by rw[List.length_set];exact A7)<|nl (YW G G Br)),trivial⟩ fun V _=>Vu [1,2,3,4] G<|?_;generalize V 6=v0;refine CU<|A5<|rg<|An G G<|C5 G G BV G<|U 1 G<|nl<|AQ<|Au 2 G<|Au 2 G ?_;exact Dy ((i+1,v0,acc++[(Hk J s).1],(Hk J s).2):Nat×Value×List Bx×Bb) ⟨by omega,by simp[AN],Ye hs,Y' (by omega) BI he⟩ (by show _-_<_-_;omega) (Bs G) (by simp only[List.set_set];rfl) (BE [2,3] G)
 ·
  have sA:=R2;simp at sA;have Fx:GI (Hk J) ((DT J 1024 B3).1-i) s=([],s):=by
   by_cases BI:s.fault=0
   ·
    by_cases C_:i<(DT J 1024 B3).1
    · exact absurd BI (sA (by omega))
    ·
     have e:(DT J 1024 B3).1-i=0:=(by omega);rw[e];rfl
   · exact Za BI _
  rw[Fx]at he;simp only[List.append_nil]at he;exact ex<|Ck<|Ck<|D7<|K5<|Dz Fv G trivial (by simp only[he,List.set_set,List.cons_append,List.nil_append]<;>rfl) (by simp only[he];exact(Bg.cons 0 rfl Bg.nil))
theorem AdA(AH:q.2.pos<=J.length)(Cu:q.1[o]? =some AI):Aw AG 112 [By,.pointer (some ⟨b,o,none⟩)] [AO b T q.1,AuD p bv q.2] [⟨By,(⟨⟨p⟩⟩:Cq AuH)⟩,⟨bv,J⟩] (fun(_:Value) _=>True) (fun y _=>[AO b T (C7 o y (CS J (Hk J)) q).1,AuD p bv (C7 o y (CS J (Hk J)) q).2]) (fun y _=>[⟨y,(CS J (Hk J) q.2).1⟩]):=
 Adz By bv p J q.2 b T q.1 o AH Cu
theorem AdC(AH:B3.pos<=J.length)(Cu:cells[o]? =some AI):Aw AG 113 [By,.pointer (some ⟨b,o,none⟩)] [AO b T cells,AuD p bv B3] [⟨By,(⟨⟨p⟩⟩:Cq AuH)⟩,⟨bv,J⟩] (fun(_:Value) _=>True) (fun y _=>[AO b T (cells.set o y),AuD p bv (CS J (HF J) B3).2]) (fun y _=>[⟨y,(CS J (HF J) B3).1⟩]):=by
 refine Aw.proof Tryz.func113 G 55 G G fun X w=>?_;obtain⟨GD,rfl⟩:∃GD:List Value,cells=GD.set o AI:=⟨cells,(TW Cu).symm⟩;have A7:o<GD.length:=by have:=Rj Cu;rwa [List.length_set]at this
 have aM:=W9 J B3;refine Ae<|U 2 G<|ME 0 G G (A2 G) Cu G<|U 1 G<|Ac<|Ae<|U 2 G<|WN G Tryz.underlying26 G<|Ch 1 (Avl By bv p J B3 _ AH) (Ar G) G G (BE [0,1] G) G fun _ PS Fm=>?_;have Fm:PS=.int .i64 ((DT J 1024 B3).1:Int):=Fm;subst Fm;refine U 1 G<|Ac<|Am<|Ae<|An G G<|Co 0 G G G<|CJ 0 AuM G G (BR G) G fun T6=>CQ 0 G G (A2 G) G fun cX=>rG Tryz.underlying105 G G G<|Ac<|Mv G<|rg<|U 2 G<|Fi 0 G G G (A2 G) G (by rw[List.length_set];exact A7) ?_;rw[List.set_set];refine Ac<|AF 1 G<|B5<|Lk Df 125<|Hx (σ:=Nat×Value×List Df×Bb) [(0,_),(1,_),(4,_),(5,_)] _ (fun i C=>(6,.int .i64 (i.1:Int))::C) (fun i=>[row 125 i.2.1 i.2.2.1,AO b T (GD.set o i.2.1),AuD p bv i.2.2.2,CL X w]) (fun _ Dw=>Dw) (fun i=>i.1<=(DT J 1024 B3).1/\i.2.2.1.length=i.1/\i.2.2.2.pos<=J.length/\CS J (HF J) B3=(i.2.2.1++(GI (HF J) ((DT J 1024 B3).1-i.1) i.2.2.2).1,(GI (HF J) ((DT J 1024 B3).1-i.1) i.2.2.2).2)) (fun i=>(DT J 1024 B3).1-i.1) (0,.slice none 0 0,[],(DT J 1024 B3).2) (Bs G) (Ad 1 G (Ad 2 G Aa)) ⟨Nat.zero_le _,G,W_ AH,G⟩ (Bs G) G (Ad 1 G (Ad 2 G Aa)) ?_;rintro⟨i,Fv,acc,s⟩ ⟨Ag,AN,hs,he⟩;simp only at Ag AN hs he;refine Am<|Ae<|U 4 G ?_;refine D4 25 3 [0,1,4,5,6] G G (fun Gr vQ=>by
  have AvB:=of_decide_eq_true Gr;refine U 1 G<|Bl G G G<|Ch 2 (rA By bv p s) (Ar G) G G (Ad 0 G Aa) G fun _ N4 G4=>?_;have G4:N4=.bool (decide ((s.fault:Int)=0)):=G4;subst G4;exact U 1 G<|vQ G Br) ?_
 refine Ac<|BN G (fun R2=>?_) (fun R2=>?_)
 ·
  have sA:=R2;simp at sA;obtain⟨Ey,Ez⟩:=sA;have BI:s.fault=0:=(by omega);have Qa:[(HF J s).1].length=1:=rfl;refine AZ<|Am<|B5<|Ae<|CT de G fun Jo=>Ac<|Am<|Ae<|An G G<|Co 0 G G G<|CJ 0 AuM G G (BR G) G fun ue=>CQ 0 G G (A2 G) G fun Zs=>M3 Tryz.underlying105 G G G<|Ac<|LW G<|AZ<|Ae<|An G G<|D9 3 G<|D9 1 G<|Hs 2 (y0 By bv p J s Jo hs) (Ar G) G G (BE [1,2] G) G fun _ _ _=>Ac<|Ae<|An G G<|Co 1 G G G<|CJ 1 AuM G G (BR G) G fun AkG=>CQ 0 G G (A2 G) G fun AvH=>rG Tryz.underlying105 G G G<|Ac<|Mv G<|Vh (L:=[AO Jo 125 (QT (HF J s).1),AuD p bv (HF J s).2,row 125 Fv acc,AO b T (GD.set o Fv),CL X w]) [(4,.NQ 0)] [(3,⟨some (Fv),fun _=>[],false⟩),(5,⟨none,fun u=>[⟨u,[(HF J s).1]⟩],false⟩),(6,⟨none,fun _=>[],true⟩),(8,⟨none,fun _=>[],true⟩)] [] [] [(6,fun L Gz=>NZ 2 (row 125 (Gz 6) (acc++[(HF J s).1])) L),(8,fun L Gz=>NZ 1 (AO b T ((GD.set o Fv).set o (Gz 6))) L)] (fun _=>G) (fun _=>by kernel_rfl) ⟨fun V Az _=>GK (ME 3 G G (A2 G) (Zg A7) G<|GH G G G G),fun V Az _=>GK (Lw G RM G G G G fun Avv=>KJ (α:=Df) (HF J s).1 (fun S w h=>⟨(),G,by simp,z8 J s⟩)<|nl (Ig G G G trivial (Ad 0 G Aa) (Bg.tail Br))),fun V Az _=>GK (ap 2 0 G G G G RM (by omega) (by omega) G fun cT=>nl (Ig G G G trivial Aa (Bg.tail Br))),fun V Az _=>GK (IL 3 2 G G G G (A2 G) (by rw[List.length_set];exact A7)<|nl (YW G G Br)),trivial⟩ fun V _=>Vu [1,2,3,4] G<|?_;generalize V 6=v0;refine CU<|A5<|rg<|An G G<|C5 G G BV G<|U 1 G<|nl<|AQ<|Au 2 G<|Au 2 G ?_;exact Dy ((i+1,v0,acc++[(HF J s).1],(HF J s).2):Nat×Value×List Df×Bb) ⟨by omega,by simp[AN],aF hs,Y' (by omega) BI he⟩ (by show _-_<_-_;omega) (Bs G) (by simp only[List.set_set];rfl) (BE [2,3] G)
 ·
  have sA:=R2;simp at sA;have Fx:GI (HF J) ((DT J 1024 B3).1-i) s=([],s):=by
   by_cases BI:s.fault=0
   ·
    by_cases C_:i<(DT J 1024 B3).1
    · exact absurd BI (sA (by omega))
    ·
     have e:(DT J 1024 B3).1-i=0:=(by omega);rw[e];rfl
   · exact Za BI _
  rw[Fx]at he;simp only[List.append_nil]at he;exact ex<|Ck<|Ck<|D7<|K5<|Dz Fv G trivial (by simp only[he,List.set_set,List.cons_append,List.nil_append]<;>rfl) (by simp only[he];exact(Bg.cons 0 rfl Bg.nil))
theorem AdD(AH:q.2.pos<=J.length)(Cu:q.1[o]? =some AI):Aw AG 113 [By,.pointer (some ⟨b,o,none⟩)] [AO b T q.1,AuD p bv q.2] [⟨By,(⟨⟨p⟩⟩:Cq AuH)⟩,⟨bv,J⟩] (fun(_:Value) _=>True) (fun y _=>[AO b T (C7 o y (CS J (HF J)) q).1,AuD p bv (C7 o y (CS J (HF J)) q).2]) (fun y _=>[⟨y,(CS J (HF J) q.2).1⟩]):=
 AdC By bv p J q.2 b T q.1 o AH Cu
end
section
attribute [local irreducible] FC D6 Gm Kw DT
theorem AxQ(By bv:Value)(p:Nat)(J:List UInt8)(s:Bb)(b:Nat)(AH:s.pos<=J.length):Aw AG 32 [By,.pointer (some ⟨b,0,none⟩)] [AO b 31 IQ,AuD p bv s] [⟨By,(⟨⟨p⟩⟩:Cq AuH)⟩,⟨bv,J⟩] (fun(_:Value×Value×Value×Value×Value×Value) _=>True) (fun y _=>[AO b 31 (BY (FC J s).1 y.1 y.2.1 y.2.2.1 y.2.2.2.1 y.2.2.2.2.1 y.2.2.2.2.2),AuD p bv (FC J s).2]) (fun y _=>[⟨y.1,(FC J s).1.Aj⟩,⟨y.2.1,(FC J s).1.Bz⟩,⟨y.2.2.1,(FC J s).1.AA⟩,⟨y.2.2.2.1,(FC J s).1.Bj⟩,⟨y.2.2.2.2.1,(FC J s).1.CX⟩,⟨y.2.2.2.2.2,(FC J s).1.Cf⟩]):=by
 refine Aw.proof Tryz.func32 G 85 G G fun X w=>Am<|MM b [0,1] [1,2,0] (fun u=>NO By bv u p J b 31 (IQ,s) [0,1] AH (SL G) (by decide)) (Ar G) HB G G (by kernel_rfl) (fun _=>G)<|A5<|Ae<|U 4 G<|Hs 2 (o0 By bv p J b 31 (CO J [0,1] (IQ,s)) 2 (Hw AH) G) (Ar G) G G (BE [0,1] G) G fun _ _ _=>Ac<|Ae<|U 4 G<|Hs 2 (Au7 By bv p J b 31 (E9 J 2 (CO J [0,1] (IQ,s))) 3 (Pw (Hw AH)) G) (Ar G) G G (BE [0,1] G) G fun _ _ _=>Ac<|Ae<|U 4 G<|Hs 2 (Au7 By bv p J b 31 (Ea J [3] (E9 J 2 (CO J [0,1] (IQ,s)))) 4 (MP (Pw (Hw AH))) G) (Ar G) G G (BE [0,1] G) G fun _ _ _=>Ac<|Ae<|U 4 G<|Hs 2 (Aw' By bv p J b 31 (Ea J [4] (Ea J [3] (E9 J 2 (CO J [0,1] (IQ,s))))) 5 (MP (MP (Pw (Hw AH)))) G) (Ar G) G G (BE [0,1] G) G fun _ _ _=>Ac<|Ae<|U 4 G<|Hs 2 (Adx By bv p J b 31 (CO J [5] (Ea J [4] (Ea J [3] (E9 J 2 (CO J [0,1] (IQ,s)))))) 6 (Hw (MP (MP (Pw (Hw AH))))) G) (Ar G) G G (BE [0,1] G) G fun db _ _=>Ac<|Ae<|U 4 G<|Hs 2 (AdK By bv p J b 31 (C7 6 db (CS J (F2 J)) (CO J [5] (Ea J [4] (Ea J [3] (E9 J 2 (CO J [0,1] (IQ,s))))))) 7 (Ik (Ij (fun _ hh=>Td hh) (Hw (MP (MP (Pw (Hw AH))))))) G) (Ar G) G G (BE [1,2] G) G fun AuN _ _=>Ac<|Ae<|U 4 G<|Hs 2 (AdP By bv p J b 31 (C7 7 AuN (CS J (GG J)) (C7 6 db (CS J (F2 J)) (CO J [5] (Ea J [4] (Ea J [3] (E9 J 2 (CO J [0,1] (IQ,s)))))))) 8 (Ik (Ij (fun _ hh=>UN hh) (Ik (Ij (fun _ hh=>Td hh) (Hw (MP (MP (Pw (Hw AH))))))))) G) (Ar G) G G (BE [2,3] G) G fun Uk _ _=>Ac<|Ae<|U 4 G<|Hs 2 (AdA By bv p J b 31 (C7 8 Uk (CS J (GX J)) (C7 7 AuN (CS J (GG J)) (C7 6 db (CS J (F2 J)) (CO J [5] (Ea J [4] (Ea J [3] (E9 J 2 (CO J [0,1] (IQ,s))))))))) 9 (Ik (Ij (fun _ hh=>Wd hh) (Ik (Ij (fun _ hh=>UN hh) (Ik (Ij (fun _ hh=>Td hh) (Hw (MP (MP (Pw (Hw AH))))))))))) G) (Ar G) G G (BE [3,4] G) G fun AuP _ _=>Ac<|Ae<|U 4 G<|Hs 2 (AdD By bv p J b 31 (C7 9 AuP (CS J (Hk J)) (C7 8 Uk (CS J (GX J)) (C7 7 AuN (CS J (GG J)) (C7 6 db (CS J (F2 J)) (CO J [5] (Ea J [4] (Ea J [3] (E9 J 2 (CO J [0,1] (IQ,s)))))))))) 10 (Ik (Ij (fun _ hh=>Ye hh) (Ik (Ij (fun _ hh=>Wd hh) (Ik (Ij (fun _ hh=>UN hh) (Ik (Ij (fun _ hh=>Td hh) (Hw (MP (MP (Pw (Hw AH))))))))))))) (by simp only[CO,Ea,E9,C7,List.set_cons_zero,List.set_cons_succ,List.getElem?_cons_succ,List.getElem?_cons_zero])) (Ar G) G G (BE [4,5] G) G fun ArN _ _=>?_;refine Ac<|Ae<|U 4 G<|Hs 2 (sk By bv p J b 31 (C7 10 ArN (CS J (HF J)) (C7 9 AuP (CS J (Hk J)) (C7 8 Uk (CS J (GX J)) (C7 7 AuN (CS J (GG J)) (C7 6 db (CS J (F2 J)) (CO J [5] (Ea J [4] (Ea J [3] (E9 J 2 (CO J [0,1] (IQ,s))))))))))) 11 (Ik (Ij (fun _ hh=>aF hh) (Ik (Ij (fun _ hh=>Ye hh) (Ik (Ij (fun _ hh=>Wd hh) (Ik (Ij (fun _ hh=>UN hh) (Ik (Ij (fun _ hh=>Td hh) (Hw (MP (MP (Pw (Hw AH))))))))))))))) (by simp only[CO,Ea,E9,C7,List.set_cons_zero,List.set_cons_succ,List.getElem?_cons_succ,List.getElem?_cons_zero]) (by simp only[CO,Ea,E9,C7,List.set_cons_zero,List.set_cons_succ,Nat.reduceAdd,List.getElem?_cons_succ,List.getElem?_cons_zero]) (by simp only[CO,Ea,E9,C7,List.set_cons_zero,List.set_cons_succ,Nat.reduceAdd,List.getElem?_cons_succ,List.getElem?_cons_zero]) (by simp only[CO,Ea,E9,C7,List.set_cons_zero,List.set_cons_succ,Nat.reduceAdd,List.getElem?_cons_succ,List.getElem?_cons_zero]) (by simp only[CO,Ea,E9,C7,List.set_cons_zero,List.set_cons_succ,Nat.reduceAdd,List.getElem?_cons_succ,List.getElem?_cons_zero]) (by simp only[CO,Ea,E9,C7,List.set_cons_zero,List.set_cons_succ,Nat.reduceAdd,List.getElem?_cons_succ,List.getElem?_cons_zero]) (by simp only[CO,Ea,E9,C7,List.set_cons_zero,List.set_cons_succ,Nat.reduceAdd,List.getElem?_cons_succ,List.getElem?_cons_zero])) (Ar G) G G (BE [5,6] G) G fun _ _ _=>?_;refine Ac<|Ae<|U 4 G<|Hs 2 (sk By bv p J b 31 (Ga J 11 (C7 10 ArN (CS J (HF J)) (C7 9 AuP (CS J (Hk J)) (C7 8 Uk (CS J (GX J)) (C7 7 AuN (CS J (GG J)) (C7 6 db (CS J (F2 J)) (CO J [5] (Ea J [4] (Ea J [3] (E9 J 2 (CO J [0,1] (IQ,s)))))))))))) 18 (b_ (Ik (Ij (fun _ hh=>aF hh) (Ik (Ij (fun _ hh=>Ye hh) (Ik (Ij (fun _ hh=>Wd hh) (Ik (Ij (fun _ hh=>UN hh) (Ik (Ij (fun _ hh=>Td hh) (Hw (MP (MP (Pw (Hw AH)))))))))))))))) (by simp only[CO,Ea,E9,C7,Ga,List.set_cons_zero,List.set_cons_succ,Nat.reduceAdd,List.getElem?_cons_succ,List.getElem?_cons_zero]) (by simp only[CO,Ea,E9,C7,Ga,List.set_cons_zero,List.set_cons_succ,Nat.reduceAdd,List.getElem?_cons_succ,List.getElem?_cons_zero]) (by simp only[CO,Ea,E9,C7,Ga,List.set_cons_zero,List.set_cons_succ,Nat.reduceAdd,List.getElem?_cons_succ,List.getElem?_cons_zero]) (by simp only[CO,Ea,E9,C7,Ga,List.set_cons_zero,List.set_cons_succ,Nat.reduceAdd,List.getElem?_cons_succ,List.getElem?_cons_zero]) (by simp only[CO,Ea,E9,C7,Ga,List.set_cons_zero,List.set_cons_succ,Nat.reduceAdd,List.getElem?_cons_succ,List.getElem?_cons_zero]) (by simp only[CO,Ea,E9,C7,Ga,List.set_cons_zero,List.set_cons_succ,Nat.reduceAdd,List.getElem?_cons_succ,List.getElem?_cons_zero]) (by simp only[CO,Ea,E9,C7,Ga,List.set_cons_zero,List.set_cons_succ,Nat.reduceAdd,List.getElem?_cons_succ,List.getElem?_cons_zero])) (Ar G) G G (BE [5,6] G) G fun _ _ _=>?_;refine Ac<|Ae<|U 4 G<|oA (α:=UInt8)<|Hs 2 (xP By bv p J b 31 (Ga J 18 (Ga J 11 (C7 10 ArN (CS J (HF J)) (C7 9 AuP (CS J (Hk J)) (C7 8 Uk (CS J (GX J)) (C7 7 AuN (CS J (GG J)) (C7 6 db (CS J (F2 J)) (CO J [5] (Ea J [4] (Ea J [3] (E9 J 2 (CO J [0,1] (IQ,s))))))))))))) 25 AI (b_ (b_ (Ik (Ij (fun _ hh=>aF hh) (Ik (Ij (fun _ hh=>Ye hh) (Ik (Ij (fun _ hh=>Wd hh) (Ik (Ij (fun _ hh=>UN hh) (Ik (Ij (fun _ hh=>Td hh) (Hw (MP (MP (Pw (Hw AH))))))))))))))))) (by simp only[CO,Ea,E9,C7,Ga,List.set_cons_zero,List.set_cons_succ,Nat.reduceAdd,List.getElem?_cons_succ,List.getElem?_cons_zero])) (Ar G) G G (BE [6,7,0] G) G fun AuT _ _=>?_;exact Ac<|MM b [26,27,28] [8,9,0] (fun u=>NO By bv u p J b 31 (C7 25 AuT (Gm J 65535) (Ga J 18 (Ga J 11 (C7 10 ArN (CS J (HF J)) (C7 9 AuP (CS J (Hk J)) (C7 8 Uk (CS J (GX J)) (C7 7 AuN (CS J (GG J)) (C7 6 db (CS J (F2 J)) (CO J [5] (Ea J [4] (Ea J [3] (E9 J 2 (CO J [0,1] (IQ,s)))))))))))))) [26,27,28] (Ik (Vf (b_ (b_ (Ik (Ij (fun _ hh=>aF hh) (Ik (Ij (fun _ hh=>Ye hh) (Ik (Ij (fun _ hh=>Wd hh) (Ik (Ij (fun _ hh=>UN hh) (Ik (Ij (fun _ hh=>Td hh) (Hw (MP (MP (Pw (Hw AH))))))))))))))))))) (by intro x Ab;simp only[List.mem_cons,List.not_mem_nil,or_false]at Ab;rcases Ab with rfl|rfl|rfl<;>simp only[CO,Ea,E9,C7,Ga,List.set_cons_zero,List.set_cons_succ,Nat.reduceAdd,List.getElem?_cons_succ,List.getElem?_cons_zero]) (by decide)) (Ar G) HB G G (by kernel_rfl) (fun _=>G)<|Dz ⟨db,AuN,Uk,AuP,ArN,AuT⟩ G trivial (by simp only[AyD,List.cons_append,List.nil_append]<;>rfl) (by rw[<-AyE J s db AuN Uk AuP ArN AuT,<-AyF J s db AuN Uk AuP ArN AuT,<-AyG J s db AuN Uk AuP ArN AuT,<-AyH J s db AuN Uk AuP ArN AuT,<-AyI J s db AuN Uk AuP ArN AuT,<-AyJ J s db AuN Uk AuP ArN AuT];exact(Bg.cons 6 rfl (Bg.cons 5 rfl (Bg.cons 4 rfl (Bg.cons 3 rfl (Bg.cons 2 rfl (Bg.cons 0 rfl Bg.nil)))))))
end
section
attribute [local irreducible] FC D6 Gm Kw DT Q0 NF Lm
theorem AyS(Bk:Value)(J:List UInt8):Aw AG 31 [Bk] [] [⟨Bk,J⟩] (fun(y:Nat×Nat×Value) v=>v=.tuple #[.pointer (some ⟨y.1,0,none⟩),.int .i64 (if 65536<J.length then 22 else 0)]) (fun y _=>[AO y.1 107 [.slice none 0 0,.pointer (some ⟨y.2.1,0,none⟩),.bool false],AuD y.2.1 y.2.2 ⟨0,0⟩]) (fun y _=>[⟨y.2.2,if 65536<J.length then[]else J⟩]):=by
 refine Aw.proof Tryz.func31 G 14 G G fun X w=>AF 2 G<|Am<|Ae<|An G G<|C2 0 G G Tryz.underlying29 G fun AyX=>U 1 G<|Ac<|B9 G (fun F4=>?_) (fun F4=>?_)
 ·
  have AN:65536<J.length:=(by omega);simp only[if_pos AN];refine DJ (α:=UInt8)<|Ae<|Dm (Aw_ AI [] (by decide)) (Ar G) G (Ad 0 G Aa) G fun AvX EZ GY=>?_;obtain⟨p,bv⟩:=AvX;have GY:EZ=.pointer (some ⟨p,0,none⟩):=GY;subst GY;exact Db (ps:=[(1,.tmp 7)]) (cs:=[.slice none 0 0,.pointer (some ⟨p,0,none⟩),.bool false]) (by rfl) (by kernel_rfl) G<|CV G G G fun H7=>U 2 G<|Ac<|BA<|Fl (H7,p,bv) G G G G G (Ad 0 G Aa)
 ·
  have AN:¬65536<J.length:=(by omega);simp only[if_neg AN];refine AZ<|Ae<|An G G<|Dm (Aw_ Bk J (by omega)) (Ar G) G (Ad 0 G Aa) G fun AAv v11 Ct=>?_;obtain⟨p,bv⟩:=AAv;have Ct:v11=.pointer (some ⟨p,0,none⟩):=Ct;subst Ct;exact Db (ps:=[(1,.tmp 11)]) (cs:=[.slice none 0 0,.pointer (some ⟨p,0,none⟩),.bool false]) (by rfl) (by kernel_rfl) G<|CV G G G fun xj=>U 2 G<|Ac<|rt<|Fl (xj,p,bv) G G G G G (Ad 0 G Aa)
theorem Ain(Bk:Value)(J:List UInt8):Aw AG 13 [Bk] [] [⟨Bk,J⟩] (fun(y:Value×Value×Value×Value×Value×Value) r=>r=.tuple #[.agg (BY (Er J).1 y.1 y.2.1 y.2.2.1 y.2.2.2.1 y.2.2.2.2.1 y.2.2.2.2.2).toArray,.int .i64 (Er J).2]) (fun _ _=>[]) (fun y _=>[⟨y.1,(Er J).1.Aj⟩,⟨y.2.1,(Er J).1.Bz⟩,⟨y.2.2.1,(Er J).1.AA⟩,⟨y.2.2.2.1,(Er J).1.Bj⟩,⟨y.2.2.2.2.1,(Er J).1.CX⟩,⟨y.2.2.2.2.2,(Er J).1.Cf⟩]):=by
 refine Aw.proof Tryz.func13 G 28 G G fun X w=>Ae<|CT LQ G fun Dh=>U 1 G<|Ac<|Ae<|An G G<|Dm (AyS Bk J) (Ar G) G (Ad 0 G Aa) G fun XD Nr EO=>?_;obtain⟨Axh,p,bv⟩:=XD;have EO:Nr=.tuple #[.pointer (some ⟨Axh,0,none⟩),.int .i64 (if 65536<J.length then 22 else 0)]:=EO;subst EO;refine U 5 G<|Ac<|Am<|AF 2 G<|Fa G (fun Dp=>?_) (fun Dp=>?_)
 ·
  have AN:65536<J.length:=by
   by_cases h:65536<J.length
   · exact h
   ·
    rw[if_neg h]at Dp;exact absurd G Dp
  simp only[if_pos AN];rw[k8 (by rw[zn AN];decide),zn AN];exact DJ (α:=AD)<|DJ (α:=BL)<|DJ (α:=BX)<|DJ (α:=Bx)<|DJ (α:=Df)<|DJ (α:=UInt8)<|Ae<|Db (ps:=[]) (cs:=(BY Np AI AI AI AI AI AI)) (by rfl) (by kernel_rfl) G<|An G G<|BZ 2 (us:=(BY Np AI AI AI AI AI AI)) G G G (At G) G G<|U 1 G<|Ac<|BA<|D8 (AI,AI,AI,AI,AI,AI) [_,_,_] (Fp 2 G G G G (At G)) (by rfl) G (Ad 5 G (Ad 4 G (Ad 3 G (Ad 2 G (Ad 1 G (Ad 0 G Aa))))))
 ·
  have AN:¬65536<J.length:=by
   intro h;rw[if_pos h]at Dp;exact absurd Dp (by decide)
  simp only[if_neg AN];refine AZ<|Ae<|CT LQ G fun Hg=>Ac<|Ae<|An G G<|D9 1 G<|M4 (α:=AuH) ⟨p⟩ (fun S w h=>⟨(),G,by simp,trivial⟩)<|Hs 2 (AxQ (.pointer (some ⟨Axh,0,none⟩)) bv p J ⟨0,0⟩ Hg (Nat.zero_le _)) (Ar G) G G (BE [0,1] G) G fun y _ _=>?_;obtain⟨KX,J5,Kd,Ke,IN,Ls⟩:=y;refine Ac<|Ae<|An G G<|Co 6 G G G<|CJ 6 AuM G G (BR G) G fun v20=>CQ 0 G G (A2 G) G fun uv=>Ch 1 (Ayl p bv J (FC J ⟨0,0⟩).2) (Ar G) G G (Ad 8 G Aa) G fun _ RB JQ=>?_;have JQ:RB=.int .i64 (Q0 J (FC J ⟨0,0⟩).2):=JQ;subst JQ;refine U 1 G<|Ac<|Am<|AF 2 G<|Fa G (fun F3=>?_) (fun F3=>?_)
  ·
   rw[k8 (by rw[oM AN];exact F3),oM AN];exact DJ (α:=AD)<|DJ (α:=BL)<|DJ (α:=BX)<|DJ (α:=Bx)<|DJ (α:=Df)<|DJ (α:=UInt8)<|Ae<|Db (ps:=[]) (cs:=(BY Np AI AI AI AI AI AI)) (by rfl) (by kernel_rfl) G<|An G G<|BZ 2 (us:=(BY Np AI AI AI AI AI AI)) G G G (At G) G G<|U 1 G<|Ac<|BA<|D8 (AI,AI,AI,AI,AI,AI) [_,_,_] (Fp 2 G G G G (At G)) (by rfl) G (Ad 5 G (Ad 4 G (Ad 3 G (Ad 2 G (Ad 1 G (Ad 0 G Aa))))))
  ·
   rw[fN (by rw[oM AN];first|exact F3|exact not_not.1 F3),gn AN]
   refine AZ<|Ae<|BJ 0 (BY ((FC J ⟨0,0⟩).1) KX J5 Kd Ke IN Ls) G G (At G) G G<|Cp 1 G fun bM=>?_;refine Cp 2 G fun WW=>?_;refine Cp 3 G fun bP=>?_;refine Cp 4 G fun bQ=>?_;refine Cp 5 G fun TH=>?_;refine Cp 6 G fun bS=>?_;exact BZ 2 (us:=(BY ((FC J ⟨0,0⟩).1) KX J5 Kd Ke IN Ls)) G G G (At G) (by simp only[List.all_cons,List.all_nil,Bool.and_true,bM,WW,bP,bQ,TH,bS];rfl) G<|U 1 G<|Ac<|rt<|D8 (KX,J5,Kd,Ke,IN,Ls) [_,_,_] (Fp 2 G G G G (At G)) (by rfl) G (Ad 1 G (Ad 2 G (Ad 3 G (Ad 4 G (Ad 5 G (Ad 6 G Aa))))))
end
end Go.Proofs.YtalfaopffbkdnaaGreat.Ref
namespace Go.Apw
theorem ln(PU:Value)(b:List UInt8):Aw AG 71 [PU] [] [⟨PU,b⟩] (fun(y:Value×Value×Value×Value×Value×Value) r=>r=.tuple #[.agg (BY (Er b).1 y.1 y.2.1 y.2.2.1 y.2.2.2.1 y.2.2.2.2.1 y.2.2.2.2.2).toArray,.int .i64 (Er b).2]) (fun _ _=>[]) (fun y _=>[⟨y.1,(Er b).1.Aj⟩,⟨y.2.1,(Er b).1.Bz⟩,⟨y.2.2.1,(Er b).1.AA⟩,⟨y.2.2.2.1,(Er b).1.Bj⟩,⟨y.2.2.2.2.1,(Er b).1.CX⟩,⟨y.2.2.2.2.2,(Er b).1.Cf⟩]):=XM.Ain PU b
theorem N0:H5 AG 24 50 11:=⟨Tryz.underlying24,by kernel_rfl⟩
theorem SM:E3 AG 50 [.int .i64 0,.int .i64 0,.int .i64 0,.int .i64 0,.int .i64 0,.int .i64 0,.string ByteArray.empty,.string ByteArray.empty,.int .i64 0,.int .i64 0,.int .i64 0]:=E3.mk (by kernel_rfl)
theorem LQ:E3 AG 31 [.int .i64 0,.int .i64 0,.bool false,.string ByteArray.empty,.string ByteArray.empty,.int .i64 0,.slice none 0 0,.slice none 0 0,.slice none 0 0,.slice none 0 0,.slice none 0 0,.int .i64 0,.int .i64 0,.int .i64 0,.string ByteArray.empty,.string ByteArray.empty,.int .i64 0,.int .i64 0,.int .i64 0,.int .i64 0,.int .i64 0,.string ByteArray.empty,.string ByteArray.empty,.int .i64 0,.int .i64 0,.slice none 0 0,.int .i64 0,.int .i64 0,.int .i64 0]:=E3.mk (by kernel_rfl)
theorem tx(s:Bv)(El EV D_ EA Em Eh:Value)(J8:s.wf):Cv AG 25 [.agg (BY s El EV D_ EA Em Eh).toArray] [⟨El,s.Aj⟩,⟨EV,s.Bz⟩,⟨D_,s.AA⟩,⟨EA,s.Bj⟩,⟨Em,s.CX⟩,⟨Eh,s.Cf⟩] (.bool (LN s)):=by
 refine Aw.proof Tryz.func25 G 133 G G fun X w=>Ae<|CV G G G fun CY=>U 1 G<|Ac<|Am<|Ae<|AX 2 [0] G G<|B0 (Zh _ J8.1) (Ar G) G Aa G<|U 2 G ?_;refine DE 11 14 [1] G G (fun Ct ZI=>by
  exact AX 7 [0,0,0] G G<|AX 3 [0,0] G G<|Bl G G G<|BH (xs:=[.tmp 13,.tmp 15,.tmp 17,.tmp 19,.tmp 21]) (us:=[.int .i64 s.DX,.int .i64 s.Dn,.int .i64 s.Jc,.int .i64 s.JL,.int .i64 s.GW]) (E:=3) (bytes:=8) (n:=5) G (by exact RL) G G G G G G fun Amb=>Q5 (α:=Int) [s.DX,s.Dn,s.Jc,s.JL,s.GW] [[.int .i64 s.DX],[.int .i64 s.Dn],[.int .i64 s.Jc],[.int .i64 s.JL],[.int .i64 s.GW]] G (fun S w h=>⟨⟨G,J8.2.1⟩,⟨G,J8.2.2.2.2.2.1⟩,⟨G,J8.2.2.2.2.2.2.2.2.2.2.2.2.2.2.1⟩,⟨G,J8.2.2.2.2.2.2.2.2.2.2.2.2.2.2.2.1⟩,⟨G,J8.2.2.2.2.2.2.2.2.2.2.2.2.2.2.2.2⟩,trivial⟩) (Nat.le_of_ble_eq_true G)<|Bl G G G<|B0 (yn _ _) (Ar G) G (Ad 0 G Aa) G<|U 2 G<|ZI G (Bg.tail Br)) ?_
 refine An G G<|DE 26 4 [1] G G (fun JR VE=>Bl G G G<|BJ 0 (BY s El EV D_ EA Em Eh) G G (At G) G G<|Bl G G G<|B0 (AfW _ _ _ _ _ _ _ J8) (Ar G) G (BE [0,1,2,3,4,5] G) G<|U 2 G<|VE G Br)<|An G G<|DE 31 4 [1] G G (fun ES g1=>Bl G G G<|BJ 0 (BY s El EV D_ EA Em Eh) G G (At G) G G<|Bl G G G<|B0 (Ai6 _ _ _ _ _ _ _ J8) (Ar G) G (BE [0,1,2,3,4,5] G) G<|U 2 G<|g1 G Br)<|Ac<|BN G (fun Lz=>?_) (fun Lz=>?_)
 ·
  have S8:(Zj s)=true:=Lz;exact AF 1 G<|BA<|AQ<|Bq () G G (by rw[LN,if_pos S8]) G Aa
 ·
  have S8:(Zj s)=false:=Lz;refine AZ<|Am<|Ae<|AX 2 [0] G G<|B0 (Xd _ _) (Ar G) G (Ad 1 G Aa) G<|U 2 G ?_;refine DE 40 5 [1] G G (fun K7 ZN=>by
   have Af7:=K7;simp only[Bool.not_eq_false',decide_eq_true_eq]at Af7;exact AX 2 [0] G G<|Bl G G G<|B0 (dS _ _) (Ar G) G (Ad 3 G Aa) G<|U 2 G<|ZN G Br) ?_
  refine An G G<|DE 46 5 [1] G G (fun US ZO=>AX 2 [0] G G<|Bl G G G<|B0 (X2 _ _) (Ar G) G (Ad 4 G Aa) G<|U 2 G<|ZO G Br)<|An G G<|DE 52 5 [1] G G (fun iK g5=>AX 2 [0] G G<|Bl G G G<|C2 2 G G Tryz.underlying24 G fun AnW=>U 2 G<|g5 G Br)<|Ac<|BN G (fun ev=>?_) (fun ev=>?_)
  ·
   have X6:(Zk s)=true:=ev;exact AF 1 G<|BA<|AQ<|Bq () G G (by rw[LN,if_neg (by rw[S8];decide),if_pos X6]) G Aa
  ·
   have X6:(Zk s)=false:=ev;refine AZ<|Am<|Ae<|AX 2 [0] G G<|C2 2 G G Tryz.underlying24 G fun Adk=>An G G<|Ac<|B5<|Ji (σ:=Nat) [(1,_),(59,_),(60,_)] _ (fun i C=>(61,.int .i64 (i:Int))::C) (fun i=>i<=s.AA.length/\(∀j,j<i->Mr s (s.AA.getD j default)=true)) (fun i=>s.AA.length-i) 0 (Bs G) (Ad 0 G (Ad 1 G (Ad 2 G (Ad 3 G (Ad 4 G (Ad 5 G Aa)))))) ⟨Nat.zero_le _,fun j Ay=>absurd Ay (Nat.not_lt_zero j)⟩ (Bs G) ?_;rintro i ⟨Ag,C0⟩;refine AF 1 G<|Am<|B9 G (fun Th=>?_) (fun Th=>?_)
   ·
    refine AZ<|Am<|B5<|Ae<|Fo 2 G G G N0 G fun AoO=>Gi 0 G G (At G) G fun Aor uz=>CT SM G fun En=>BZ 0 (us:=(Hh ((s.AA.getD i default)))) G G G (At G) G G<|Ac<|Ae<|BJ 1 (BY s El EV D_ EA Em Eh) G G (At G) G G<|BJ 0 (Hh ((s.AA.getD i default))) G G (At G) G G<|B0 (Ak8 _ _ _ _ _ _ _ _ J8 uz) (Ar G) G (BE [2,3,4,5,6,7] G) G<|IH G G<|Ac<|BN G (fun R5=>?_) (fun R5=>?_)
    · exact AF 1 G<|rt<|C9<|Cd<|Cd<|C9<|Cd<|AQ<|AQ<|Bq () G G (by rw[LN,if_neg (by rw[S8];decide),if_neg (by rw[X6];decide),if_neg (by rw[gm,Ur i (by omega) (by simpa using R5)];decide)]) G Aa
    ·
     refine EG<|CU<|A5<|rg<|C5 G G BV G<|An G G<|nl<|AQ ?_;exact Dy (i+1) ⟨(by omega),(Ki C0 (by simpa using R5))⟩ (by omega) (Bs G) G (BE [2,3,4,5,6,7] G)
   ·
    have h0:gm s=true:=Us (fun j Ay=>C0 j (by omega));refine ex<|Ck<|Ck<|D7<|A5<|Am<|Ae<|U 1 G<|BJ 0 (ED s.Bt) G G (At G) G G<|Db (ps:=[]) (cs:=(ED (Gs))) (by rfl) (by kernel_rfl) G<|Qo RV (s.Bt) (Gs) G G G<|An G G ?_;refine D4 74 29 [1] G G (fun ew vI=>by
     have Aga:=ew;simp only[Bool.not_eq_true',decide_eq_false_iff_not]at Aga;refine U 1 G<|Bl G G G<|BJ 0 (ED s.Bt) G G (At G) G G<|Bl G G G<|B0 (fC _ J8.2.2.2.2.2.2.2.2.2.2.2.1) (Ar G) G Aa G<|U 2 G ?_;refine DE 79 7 [1,74] G G (fun AmX g_=>by
      exact AX 7 [0,0] G G<|g_ G Br) ?_
     refine U 1 G ?_;refine DE 87 7 [1,74] G G (fun AmY g'=>by
      exact AX 7 [0,0] G G<|g' G Br) ?_
     refine U 1 G ?_;refine DE 95 7 [1,74] G G (fun Yg vH=>by
      exact Bl G G G<|BJ 0 (BY s El EV D_ EA Em Eh) G G (At G) G G<|AX 3 [0] G G<|Bl G G G<|B0 (kJ _ _ _ _ _ _ _ _ J8) (Ar G) G (BE [0,1,2,3,4,5] G) G<|U 2 G<|vH G Br) ?_
     exact U 1 G<|vI G Br) ?_
    refine Ac<|BN G (fun iA=>?_) (fun iA=>?_)
    ·
     have dY:(Xe s)=true:=iA;exact AF 1 G<|BA<|AQ<|Bq () G G (by rw[LN,if_neg (by rw[S8];decide),if_neg (by rw[X6];decide),if_pos h0,dY];first|(rw[dZ];try rfl)|(try rfl)) G Aa
    ·
     have dY:(Xe s)=false:=iA;refine AZ<|Am<|Ae<|U 1 G<|BJ 0 (ED s.CW) G G (At G) G G<|Db (ps:=[]) (cs:=(ED (Gs))) (by rfl) (by kernel_rfl) G<|RU RV (s.CW) (Gs) G G G<|Ac<|B9 G (fun iC=>?_) (fun iC=>?_)
     ·
      have dZ:(decide (s.CW=⟨0,0,0,ByteArray.empty,ByteArray.empty,0,0⟩))=true:=(decide_eq_true iC);exact Ae<|AX 2 [0] G G<|C2 5 G G Tryz.underlying29 G fun Adf=>U 2 G<|Ac<|BA<|AQ<|Bq () G G (by rw[LN,if_neg (by rw[S8];decide),if_neg (by rw[X6];decide),if_pos h0,dY];first|(rw[dZ];try rfl)|(try rfl)) G Aa
     ·
      have dZ:(decide (s.CW=⟨0,0,0,ByteArray.empty,ByteArray.empty,0,0⟩))=false:=(decide_eq_false iC);refine AZ<|Ae<|AX 2 [0] G G<|Dm (ln _ _) (Ar G) G (Ad 5 G Aa) G fun AlF AkB Wf=>?_;obtain⟨uZ,u0,u1,u2,u3,u4⟩:=AlF;replace Wf:AkB=.tuple #[.agg (BY (Er _).1 uZ u0 u1 u2 u3 u4).toArray,.int .i64 (Er _).2]:=Wf;subst Wf;refine U 3 G<|CT LQ G fun E'=>Cp 0 G fun Ae5=>?_;refine Cp 1 G fun Ae6=>?_;refine Cp 2 G fun Ae7=>?_;refine Cp 3 G fun Ae8=>?_;refine Cp 4 G fun Ae9=>?_;refine Cp 5 G fun Ae_=>?_;exact BZ 0 (us:=(BY ((Er s.Cf).1) uZ u0 u1 u2 u3 u4)) G G G (At G) (by simp only[List.all_cons,List.all_nil,Bool.and_true,Ae5,Ae6,Ae7,Ae8,Ae9,Ae_];rfl) G<|U 1 G<|Ac<|Ae<|U 1 G<|BJ 1 (ED s.CW) G G (At G) G G<|B0 (fC _ J8.2.2.2.2.2.2.2.2.2.2.2.2.1) (Ar G) G Aa G<|An G G<|Fu 121 7 [1,1] [6] G G G<|An G G<|Fu 129 3 [] [] G G G<|U 1 G<|Ac<|rt<|AQ<|AQ<|Bq () G G (by rw[LN,if_neg (by rw[S8];decide),if_neg (by rw[X6];decide),if_pos h0,dY];first|(rw[dZ];try rfl)|(try rfl)) G Aa
theorem AjA(s:Bv)(El EV D_ EA Em Eh:Value)(J8:s.wf):Cv AG 10 [.agg (BY s El EV D_ EA Em Eh).toArray] [⟨El,s.Aj⟩,⟨EV,s.Bz⟩,⟨D_,s.AA⟩,⟨EA,s.Bj⟩,⟨Em,s.CX⟩,⟨Eh,s.Cf⟩] (.int .i64 (IA (LN s))):=by
 refine Aw.proof Tryz.func10 G 6 G G fun X w=>Ae<|CV G G G fun CY=>U 1 G<|Ac<|Am<|Ae<|BJ 0 (BY s El EV D_ EA Em Eh) G G (At G) G G<|B0 (tx _ _ _ _ _ _ _ J8) (Ar G) G (BE [0,1,2,3,4,5] G) G<|IH G G<|Ac<|BN G (fun C'=>?_) (fun C'=>?_)
 · exact AF 1 G<|BA<|AQ<|Bq () G G (by rw[IA,if_neg (by have q:=C';rw[Bool.not_eq_true']at q;rw[q];decide)]) G Aa
 · exact AZ<|AF 1 G<|rt<|AQ<|Bq () G G (by rw[IA,if_pos (by have q:=C';rw[Bool.not_eq_false']at q;exact q)]) G Aa
theorem AjF(n:Int)(MB:A' n):Cv AG 24 [.int .i64 n] [] (.tuple #[.agg (BY (F8 n) AI AI AI AI AI AI).toArray,.int .i64 (if Ih n=true then 0 else 1)]):=by
 refine Aw.proof Tryz.func24 G 16 G G fun X w=>?_;obtain⟨Yk,Yl⟩:=id MB;refine Ae<|CT LQ G fun Dh=>U 1 G<|Ac<|Am<|Ae<|An G G<|B0 (Zh _ MB) (Ar G) G Aa G<|IH G G<|Ac<|BN G (fun GY=>?_) (fun GY=>?_)
 ·
  have q:Ih n=false:=(by simpa using GY);exact Ae<|Db (ps:=[]) (cs:=(BY Np AI AI AI AI AI AI)) (by rfl) (by kernel_rfl) G<|BZ 0 (us:=(BY Np AI AI AI AI AI AI)) G G G (At G) G G<|U 1 G<|Ac<|BA<|D8 () [_] (Fp 0 G G G G (At G)) (by rw[F8,q];rfl) G Aa
 ·
  have q:Ih n=true:=(by simpa using GY);refine AZ<|Ae<|An G G<|Db (ps:=[(0,.tmp 9)]) (cs:=(BY ((⟨n,0,false,ByteArray.empty,ByteArray.empty,0,[],[],[],[],[],Gs,Gs,[],0,0,0⟩:Bv)) AI AI AI AI AI AI)) (by rfl) (by kernel_rfl) G<|CT LQ G fun En=>BZ 0 (us:=(BY ((⟨n,0,false,ByteArray.empty,ByteArray.empty,0,[],[],[],[],[],Gs,Gs,[],0,0,0⟩:Bv)) AI AI AI AI AI AI)) G G G (At G) G G<|Ac<|Am<|Ae<|An G G<|U 1 G<|Ac<|B9 G (fun EM=>?_) (fun EM=>?_)
  · exact Ae<|U 1 G<|Fi 0 G G G (A2 G) G (Da G)<|Ac<|rg<|U 1 G<|Fi 0 G G G (A2 G) G (Da G)<|Ac<|Ae<|BJ 0 (BY ((⟨n,0,true,ByteArray.empty,ByteArray.empty,1,([]),([]),([]),([]),([]),Gs,Gs,([]),0,0,0⟩:Bv)) AI AI AI AI AI AI) G G (At G) G G<|BZ 1 (us:=(BY ((⟨n,0,true,ByteArray.empty,ByteArray.empty,1,([]),([]),([]),([]),([]),Gs,Gs,([]),0,0,0⟩:Bv)) AI AI AI AI AI AI)) G G G (At G) G G<|U 1 G<|Ac<|rt<|D8 () [_,_] (Fp 1 G G G G (At G)) (by rw[F8,q,if_pos rfl,if_pos rfl,if_pos rfl];simp[EM]) G Aa
  · exact AZ<|Ae<|BJ 0 (BY ((⟨n,0,false,ByteArray.empty,ByteArray.empty,0,[],[],[],[],[],Gs,Gs,[],0,0,0⟩:Bv)) AI AI AI AI AI AI) G G (At G) G G<|BZ 1 (us:=(BY ((⟨n,0,false,ByteArray.empty,ByteArray.empty,0,[],[],[],[],[],Gs,Gs,[],0,0,0⟩:Bv)) AI AI AI AI AI AI)) G G G (At G) G G<|U 1 G<|Ac<|rt<|D8 () [_,_] (Fp 1 G G G G (At G)) (by rw[F8,q];simp[EM]) G Aa
theorem QN:EH AG 23 54 7 56:=EH.mk Tryz.underlying23 (by kernel_rfl) (by decide)
theorem OI:EH AG 22 73 10 104:=EH.mk Tryz.underlying22 (by kernel_rfl) (by decide)
theorem Mt:EH AG 24 50 11 104:=EH.mk Tryz.underlying24 (by kernel_rfl) (by decide)
theorem QQ:EH AG 25 52 8 80:=EH.mk Tryz.underlying25 (by kernel_rfl) (by decide)
theorem RM:EH AG 26 125 2 16:=EH.mk Tryz.underlying26 (by kernel_rfl) (by decide)
theorem S1:EH AG 69 83 4 32:=EH.mk Tryz.underlying69 (by kernel_rfl) (by decide)
theorem ei(CP:Value)(l:List Bx)(c q:Int)(BK:A' c)(Ed:A' q):Cv AG 179 [CP,.int .i64 c,.int .i64 q] [⟨CP,l⟩] (.tuple #[.agg (H8 (findD l c q)).toArray,.bool (Tz l c q)]):=by
 refine Aw.proof Tryz.func179 G 25 G G fun X w=>?_;obtain⟨K9,K_⟩:=id BK;obtain⟨LD,LF⟩:=id Ed;refine Ae<|CT SO G fun Hg=>U 1 G<|Ac<|Ae<|U 3 G<|B0 (fA _ _ _ _ BK Ed) (Ar G) G (Ad 0 G Aa) G<|U 1 G<|Ac<|Am<|Ae<|U 3 G ?_;refine DE 15 4 [0,6,8] G G (fun Ft ZH=>by
  have An_:=of_decide_eq_false Ft;exact U 1 G<|Bl G G G<|B0 (dS _ _) (Ar G) G (Ad 0 G Aa) G<|U 2 G<|ZH G Br) ?_
 refine Ac<|BN G (fun Fe=>?_) (fun Fe=>?_)
 · exact Ae<|Db (ps:=[]) (cs:=(H8 ((⟨0,0,ByteArray.empty,ByteArray.empty,0,0,0,0⟩:Bx)))) (by rfl) (by kernel_rfl) G<|BZ 0 (us:=(H8 ((⟨0,0,ByteArray.empty,ByteArray.empty,0,0,0,0⟩:Bx)))) G G G (At G) G G<|U 1 G<|Ac<|BA<|D8 () [_] (Fp 0 G G G G (At G)) (by rw[findD,Tz,if_pos Fe,if_pos Fe];rfl) G Aa
 ·
  obtain⟨k,AE,Lb⟩:=Ahq Fe;exact AZ<|Ae<|An G G<|An (v:=.int .i64 ((k:Nat):Int)) (congrArg (fun x=>some (Value.int .i64 x)) (by rw[AE];rfl)) G<|Fo 0 G G G Ox G fun Pe=>Gi 0 G G (At G) G fun MJ PW=>BZ 0 (us:=(H8 ((l.getD k default)))) G G G (At G) G G<|U 1 G<|Ac<|rt<|D8 () [_] (Fp 0 G G G G (At G)) (by rw[findD,Tz,if_neg (by rw[Fe];decide),if_neg (by rw[Fe];decide),AE];try rfl) G Aa
theorem QP:EH AG 29 5 1 1:=EH.mk Tryz.underlying29 (by kernel_rfl) (by decide)
end Go.Apw
namespace Go.A_
open Go.RowKit
def wu(m:Nat)(Q:AuE)(c:Cj)(ops:Array Oper)(l:List Oper)(env:Env)(L:Own)(D:List Atom):Prop:=
 ∀a w,Fr c.n a env->CI c.BW c.M w L->BP D w L->wpListIn Fence.wide m c.P ops Q l a w
instance AnG (m:Nat) (Q:AuE):Ip (wu m Q) where
 read:=by
  intro c ops env L D rest o dst σ CK AJ env' Dd Ek k a w f st AR;obtain⟨s,u,Bh,Jq,KI⟩:=Ek a w f st AR;refine AdI CK ⟨fun _ _=>trivial,?_⟩;have hs:Oper.semAt Fence.wide.round a.eval o=execOp a.eval o:=rfl;rw[hs,Bh w (C8.refl _ _)];simp only[Oper.uponIn,AJ];exact k s _ _ Jq st KI
 gI:=by
  intro c ops env L D rest dst op t p af g hw k a w f st AR;have:=k a w f st AR;unfold wpListIn at this ⊢;rw[if_pos (hw a w f st AR)];rw[if_pos (show Region.wanted ⟨dst,op,t,p,af,none⟩ (yielded ops a.tmps)=true from rfl)]at this;exact this
 c4:=by
  intro c ops env env' L D rest o hw k a w f st AR;obtain⟨Af,h2⟩:=hw a w f st AR;unfold wpListIn;rw[Af];simp only[Bool.false_eq_true,if_false];exact⟨fun _ _=>trivial,k _ _ h2 st AR⟩
 mono:=by
  intro c ops env env' L D Dd l h k a w f st AR;obtain⟨Af,h2⟩:=h a w f st AR;exact k a w Af st h2
 fact:=by
  intro c ops env L D l q h k a w f st AR;exact k (h a w f st AR) a w f st AR
section
section
variable{c:Cj} {ops:Array Oper} {AP:Cj->Array Oper->List Oper->Env->Own->List Atom->Prop} [Dr:Ip AP] {env:Env} {L:Own} {D:List Atom} {rest:List Oper} {d:Nat} {t:TypeId} {p:String} {af:Array Edge} {T:TypeId}
include Dr
theorem dC{ps:List (Nat×Operand)}{us:List Value}{cs:List Value}(Ab:Gq env (ps.map (·.2))=some us)(Aq:c.P.built T ((ps.map (·.1)).zip us)=some cs.toArray)(Ao:Nat.blt d c.n=true)(k:AP c ops rest ((d,.agg cs.toArray)::env) L D):
 AP c ops (⟨some d,.build T ps.toArray,t,p,af,none⟩::rest) env L D:=
 pu rfl rfl Ao (fun a w f=>by
  have e:=f.Gq Ab;subst e;have h2:(ps.toArray.map fun(i,x)=>(i,a.eval x)).toList=(ps.map (·.1)).zip ((ps.map (·.2)).map a.eval):=by
   simp only[List.map_toArray];clear Ab Aq;induction ps with
   |nil=>rfl
   |cons q r Cg=>simp only[List.map_cons,List.zip_cons_cons,Cg]
  have:=run_build (P:=c.P) w T (ps.toArray.map fun(i,x)=>(i,a.eval x)) cs.toArray (by rw[h2];exact Aq);simp only[execOp,Sem.run_bind,this,Result.andThen_ok,Sem.run_pure]) k
end
end
end Go.A_
namespace Go.Apw
theorem Aqx(a:AD)(Cw:Value)(_:a.wf)(Aq:a.A0.length<=1048576):Aw AG 103 [.agg (A3 a Cw).toArray] [] [⟨Cw,a.A0⟩] (fun(y:Value) u=>u=.agg (A3 a y).toArray) (fun _ _=>[]) (fun y _=>[⟨y,a.A0⟩]):=by
 refine Aw.proof Tryz.func103 G 8 G G fun X w=>Ae<|CV G G G fun CY=>CT Hd G fun Dh=>Ac<|Ae<|AX 2 [1] G G<|ApK BD 83<|ap 0 0 G G G G S1 (by simp only[List.length_nil];omega) (by simp only[List.length_nil];omega) G fun Mp=>JO<|U 1 G<|J2 1 0 G G G G (A2 G) (Da G)<|Ac<|Ae<|BJ 1 (A3 ((⟨a.Al,(⟨a.Cs.A6,a.Cs.Bc⟩:GC),a.BT,a.Cn,a.A0,(⟨a.BG.Ap,a.BG.As,a.BG.DH,a.BG.B2⟩:F_)⟩:AD)) Mp) G G (At G) G G<|Cp 0 G fun WV=>?_;exact BZ 0 (us:=(A3 ((⟨a.Al,(⟨a.Cs.A6,a.Cs.Bc⟩:GC),a.BT,a.Cn,a.A0,(⟨a.BG.Ap,a.BG.As,a.BG.DH,a.BG.B2⟩:F_)⟩:AD)) Mp)) G G G (At G) (by simp only[List.all_cons,List.all_nil,Bool.and_true,WV];rfl) G<|Ac<|rt<|D8 Mp [_,_] (Qv 0 G G G (At G)) (by rfl) G (Ad 0 G Aa)
theorem Aqy(CP:Value)(l:List AD)(AN:l.length<=1048576)(Aq:∀j,(l.getD j default).A0.length<=1048576):Aw AG 30 [CP] [] [⟨CP,l⟩] (fun(_:Unit) _=>True) (fun _ _=>[]) (fun _ v=>[⟨v,l⟩]):=by
 refine Aw.proof Tryz.func30 G 20 G G fun X w=>AF 1 G<|AF 1 G<|Am<|AF 1 G<|B5<|Lk AD 73<|Hx (σ:=Nat×Value) [(0,_)] _ (fun s C=>(4,.int .i64 (s.1:Int))::(3,s.2)::C) (fun s=>[row 73 s.2 (l.take s.1),CL X w]) (fun _ Dw=>Dw) (fun s=>s.1<=l.length) (fun s=>l.length-s.1) (0,_) ⟨G,trivial⟩ (Ad 0 G Aa) (Nat.zero_le _) (Bs G) G (Ad 0 G Aa) ?_;rintro⟨i,Fv⟩ Ag;simp only at Ag;show CF _ _ _ [(4,.int .i64 ((i:Int))),(3,_),(0,_)] [row 73 Fv (l.take i),CL X w] _;refine Am<|Ae<|U 2 G<|C2 0 G G Tryz.underlying22 G fun MD=>U 1 G<|Ac<|B9 G (fun D2=>?_) (fun D2=>?_)
 ·
  refine AZ<|Am<|B5<|rg<|U 3 G<|Fo 0 G G G Gt G fun PS=>Gi 0 G G (At G) G fun KR N6=>Dm (Aqx _ _ N6 (Aq i)) (Ar G) G (Ad 1 G Aa) G fun Ui Mn CR=>?_;subst CR;refine Lw G OI G G G G fun nu=>?_;refine KJ (α:=AD) (l.getD i default) (fun S w h=>⟨Ui,G,fun t Av=>by
    simp only[List.mem_cons,List.not_mem_nil,or_false]at Av;subst Av
    · exact h _ (List.mem_of_getElem? (i:=0) G),N6⟩) ?_
  refine ap 0 0 G G G G OI (by have:=List.length_take_le i l;simp only[List.length_cons,List.length_nil];omega) (by have:=List.length_take_le i l;simp only[List.length_cons,List.length_nil];omega) G fun Zq=>U 1 G<|nl<|CU<|A5<|rg<|An G G<|C5 G G BV G<|U 1 G<|nl ?_;rw[ArE (by omega)];exact Dy ((i+1,Zq):Nat×Value) (by show i+1<=l.length;omega) (by show l.length-(i+1)<l.length-i;omega) (Bs G) G (Ad 5 G Aa)
 ·
  obtain rfl:i=l.length:=(by omega);rw[List.take_length];exact ex<|Ck<|Ck<|D7<|A5<|AF 2 G<|rt<|K5<|Bq () G G trivial G (Ad 0 G Aa)
theorem ApC{n k:Nat}(h:n<=1048576)(AE:k<=1000000):(0+n)*k<=140737488355328:=by
 have:=Nat.mul_le_mul h AE;rw[Nat.zero_add];omega
theorem ApD{n:Nat}(h:n<=1048576):0+n<=140737488355328:=by omega
theorem Aqz(S:Bv)(El EV D_ EA Em Eh:Value)(_:S.wf)(Aq:Ap2 S):Aw AG 12 [.agg (BY S El EV D_ EA Em Eh).toArray] [] [⟨El,S.Aj⟩,⟨EV,S.Bz⟩,⟨D_,S.AA⟩,⟨EA,S.Bj⟩,⟨Em,S.CX⟩,⟨Eh,S.Cf⟩] (fun(y:DL.H) u=>u=.agg (BY S (y.1) (y.2.1) (y.2.2.1) (y.2.2.2.1) (y.2.2.2.2.1) (y.2.2.2.2.2)).toArray) (fun _ _=>[]) (fun y _=>[⟨y.1,S.Aj⟩,⟨y.2.1,S.Bz⟩,⟨y.2.2.1,S.AA⟩,⟨y.2.2.2.1,S.Bj⟩,⟨y.2.2.2.2.1,S.CX⟩,⟨y.2.2.2.2.2,S.Cf⟩]):=by
 refine Aw.proof Tryz.func12 G 28 G G fun X w=>?_;obtain⟨je,R9,ApP,ApQ,aQ,ApR,ApS⟩:=Aq;refine Ae<|CV G G G fun CY=>CT LQ G fun Dh=>Ac<|Ae<|AX 2 [1] G G<|Dm (Aqy _ _ je R9) (Ar G) G (Ad 0 G Aa) G fun _ Mp _=>U 1 G<|J2 1 0 G G G G (A2 G) (Da G)<|Ac<|Ae<|AX 2 [1] G G<|ApK BL 54<|ap 0 2 G G G G QN (by first|exact ApC ApP (by decide)|exact ApD ApP) (by first|exact ApC ApP (by decide)|exact ApD ApP) G fun Nr=>JO<|U 1 G<|J2 1 0 G G G G (A2 G) (Da G)<|Ac<|Ae<|AX 2 [1] G G<|ApK BX 50<|ap 0 4 G G G G Mt (by first|exact ApC ApQ (by decide)|exact ApD ApQ) (by first|exact ApC ApQ (by decide)|exact ApD ApQ) G fun RA=>JO<|U 1 G<|J2 1 0 G G G G (A2 G) (Da G)<|Ac<|Ae<|AX 2 [1] G G<|ApK Bx 52<|ap 0 6 G G G G QQ (by first|exact ApC aQ (by decide)|exact ApD aQ) (by first|exact ApC aQ (by decide)|exact ApD aQ) G fun T6=>JO<|U 1 G<|J2 1 0 G G G G (A2 G) (Da G)<|Ac<|Ae<|AX 2 [1] G G<|ApK Df 125<|ap 0 8 G G G G RM (by first|exact ApC ApR (by decide)|exact ApD ApR) (by first|exact ApC ApR (by decide)|exact ApD ApR) G fun SB=>JO<|U 1 G<|J2 1 0 G G G G (A2 G) (Da G)<|Ac<|Ae<|AX 2 [1] G G<|ApK UInt8 5<|ap 0 10 G G G G QP (by first|exact ApC ApS (by decide)|exact ApD ApS) (by first|exact ApC ApS (by decide)|exact ApD ApS) G fun T7=>JO<|U 1 G<|J2 1 0 G G G G (A2 G) (Da G)<|Ac<|Ae ?_
 have Anj:=je;refine BJ 1 (BY ((⟨S.CZ,S.DX,S.Du,S.A6,S.Bc,S.Dn,S.Aj,S.Bz,S.AA,S.Bj,S.CX,(⟨S.Bt.Ev,S.Bt.Hi,S.Bt.IX,S.Bt.A6,S.Bt.Bc,S.Bt.Ap,S.Bt.As⟩:Fs),(⟨S.CW.Ev,S.CW.Hi,S.CW.IX,S.CW.A6,S.CW.Bc,S.CW.Ap,S.CW.As⟩:Fs),S.Cf,S.Jc,S.JL,S.GW⟩:Bv)) Mp Nr RA T6 SB T7) G G (At G) G G<|Cp 5 G fun WV=>?_;refine Cp 4 G fun Aq'=>?_;refine Cp 3 G fun Aq7=>?_;refine Cp 2 G fun Aq8=>?_;refine Cp 1 G fun Aq9=>?_;refine Cp 0 G fun Aq_=>?_;exact BZ 0 (us:=(BY ((⟨S.CZ,S.DX,S.Du,S.A6,S.Bc,S.Dn,S.Aj,S.Bz,S.AA,S.Bj,S.CX,(⟨S.Bt.Ev,S.Bt.Hi,S.Bt.IX,S.Bt.A6,S.Bt.Bc,S.Bt.Ap,S.Bt.As⟩:Fs),(⟨S.CW.Ev,S.CW.Hi,S.CW.IX,S.CW.A6,S.CW.Bc,S.CW.Ap,S.CW.As⟩:Fs),S.Cf,S.Jc,S.JL,S.GW⟩:Bv)) Mp Nr RA T6 SB T7)) G G G (At G) (by simp only[List.all_cons,List.all_nil,Bool.and_true,WV,Aq',Aq7,Aq8,Aq9,Aq_];rfl) G<|Ac<|rt<|D8 ⟨Mp,Nr,RA,T6,SB,T7⟩ [_,_] (Qv 0 G G G (At G)) (by rfl) G (Ad 5 G (Ad 4 G (Ad 3 G (Ad 2 G (Ad 1 G (Ad 0 G Aa))))))
end Go.Apw
namespace Go.A_
open Go.RowKit
end Go.A_
namespace Go.Apw
theorem jS(k:ByteArray):isNil k=decide ((k.size:Int)<1):=by
 unfold isNil;refine decide_eq_decide.2 ⟨fun h=>by rw[h];decide,fun h=>?_⟩;have Bw:k.size=0:=by omega
 rcases k with⟨a⟩;have:a.size=0:=Bw;rw[Array.size_eq_zero_iff]at this;rw[this];rfl
theorem l2:∀{l:List Int},(∀x∈l,0<=x)->0<=l.sum
 |[],_=>by simp
 |x::r,h=>by
  have Cg:=l2 (l:=r) fun y Bf=>h y (List.mem_cons_of_mem _ Bf);have:=h x (List.mem_cons_self ..);simp only[List.sum_cons];omega
theorem pY{l:List BD}(hh:LI l=true){x:BD}(Ab:x∈l):0<=x.DV/\0<=x.Fc:=by
 obtain⟨i,Ag,rfl⟩:=List.getElem_of_mem Ab;have:=Wy hh Ag;rw[G3 Ag]at this;exact⟨this.2.2.2.1,this.2.2.2.2⟩
theorem cR{a:AD}(hh:LI a.A0=true):a.BT<=I7 a:=by
 unfold I7;have:=l2 (l:=a.A0.map (·.DV)) fun x Ab=>by
  obtain⟨y,Bf,rfl⟩:=List.mem_map.1 Ab;exact(pY hh Bf).1
 omega
theorem ag{a:AD}(hh:LI a.A0=true):IU a<=a.BT:=by
 unfold IU;have:=l2 (l:=a.A0.map (·.Fc)) fun x Ab=>by
  obtain⟨y,Bf,rfl⟩:=List.mem_map.1 Ab;exact(pY hh Bf).2
 omega
theorem Vn{x:Int}(h:J3 x=true):Lo x=x/\No x=0:=by unfold Lo No;rw[if_pos h,if_pos h];exact⟨rfl,rfl⟩
theorem tL{x:Int}(h:J3 x=false):Lo x=0/\No x=10:=by unfold Lo No;rw[h];exact⟨rfl,rfl⟩
theorem rP(k:ByteArray):Ix k= !(isNil k||decide ((k.size:Int)>16)):=by
 rw[jS];unfold Ix;rw[Bool.eq_iff_iff];simp only[Bool.and_eq_true,decide_eq_true_eq,Bool.not_eq_true',Bool.or_eq_false_iff,decide_eq_false_iff_not];omega
end Go.Apw
