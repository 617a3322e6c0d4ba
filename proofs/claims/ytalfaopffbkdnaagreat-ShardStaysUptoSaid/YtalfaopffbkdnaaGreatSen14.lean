/- Part 14 of shardStays_holds. -/
import Derived.Test.YtalfaopffbkdnaaGreatSen13

set_option maxRecDepth 20000
set_option maxHeartbeats 1000000
namespace Go
theorem ACL:∀{p q:Prop} {_:Decidable p} {_:Decidable q},decide p=decide q↔(p↔q):=@decide_eq_decide
end Go
open Bool renaming and_assoc→ACY,not_not→ADu
open Eq renaming trans→ABS
open Go renaming run_equalIn_struct→AC6
open Go.Proofs.Tryz renaming underlying125→ADB,underlying33→ACR,underlying4→ADM,underlying44→AC5,underlying50→ADa,underlying52→AC0,underlying54→ADk
open List renaming getD_cons_succ→ADb,getD_cons_zero→AC7,length_cons→ABv,length_nil→ABo
open Go.A_ Go.Proofs Go.Proofs.YtalfaopffbkdnaaGreat
namespace Go.Apw
theorem Axs(v:Value)(n:Int):Cv AG 57 [v] [⟨v,[n]⟩] (.agg (AuI (wide n)).toArray):=by
 have:=Axt v [n] (by simp)
 rwa [show[n].sum=n by simp]at this
theorem AAr(v:Value)(m n:Int):Cv AG 57 [v] [⟨v,[m,n]⟩] (.agg (AuI (wide (m+n))).toArray):=by
 have:=Axt v [m,n] (by simp)
 rwa [show[m,n].sum=m+n by simp]at this
theorem Aym(a:AD)(Cw:Value)(C6:a.wf)(hh:LI a.A0=true):Cv AG 211 [.agg (A3 a Cw).toArray] [⟨Cw,a.A0⟩] (.tuple #[.agg (AuI (wide (IU a))).toArray,.agg (AuI (wide (I7 a))).toArray]):=by
 refine Aw.proof Tryz.func211 G 40 G G fun X w=>HP (q:=∀x∈a.A0,x.wf) (fun S w h=>O7 (s:=MN) (h _ (AA' (i:=0) G))) fun F5=>?_;have Ys:=PC hh;refine Ae<|CV G G G fun CY=>CT AuZ G fun Dh=>CT AuZ G fun DQ=>Ac<|Am<|Vh (L:=[AO DQ 138 Au9,AO Dh 138 Au9,AO CY 73 (A3 a Cw),CL X w]) [] [(1,⟨some (.int .i64 a.BT),fun _=>[],false⟩),(2,⟨none,fun u=>[⟨u,[a.BT]⟩],false⟩),(3,⟨some (.agg (AuI ((wide (a.BT)))).toArray),fun _=>[],false⟩),(4,⟨some (.pointer (some ⟨CY,3,none⟩)),fun _=>[],false⟩),(5,⟨some (.int .i64 a.BT),fun _=>[],false⟩),(6,⟨none,fun u=>[⟨u,[a.BT]⟩],false⟩),(7,⟨some (.agg (AuI ((wide (a.BT)))).toArray),fun _=>[],false⟩),(8,⟨none,fun _=>[],true⟩),(9,⟨none,fun _=>[],true⟩),(10,⟨none,fun _=>[],true⟩),(11,⟨none,fun _=>[],true⟩)] [(8,fun u=>u=.pointer (some ⟨FH u,0,none⟩)),(9,fun u=>u=.pointer (some ⟨FH u,0,none⟩))] [[],[8],[9],[8,9],[9,8],[8,9,10],[9,8,10],[8,9,10,11],[9,8,10,11]] [(8,fun L Gz=>Aw7 4 (AO (FH (Gz 8)) 138 Au9) L),(9,fun L Gz=>(AO (FH (Gz 9)) 138 Au9)::L),(10,fun L Gz=>NZ 4 (AO (FH (Gz 8)) 138 (AuI ((wide (a.BT))))) L),(11,fun L Gz=>NZ 5 (AO (FH (Gz 9)) 138 (AuI ((wide (a.BT))))) L)] (fun _=>G) (fun _=>AGo) ?_ fun V LC=>?_
 ·
  refine⟨fun V Az _=>wI (ME 2 G G (A2 G) G G<|GH G G G G) (ME 3 G G (A2 G) G G<|GH G G G G) (ME 3 G G (A2 G) G G<|GH G G G G) (ME 4 G G (A2 G) G G<|GH G G G G) (ME 4 G G (A2 G) G G<|GH G G G G),fun V Az _=>(by(repeat (refine dt ?_ ?_;exact BH (xs:=[.tmp 8]) (us:=[.int .i64 a.BT]) (E:=3) (bytes:=8) (n:=1) G (by exact RL) G G G G G G fun H7=>Q5 (α:=Int) [a.BT] [[.int .i64 (a.BT)]] G (fun S w h=>⟨⟨G,C6.2.2.1⟩,trivial⟩) (ABy G)<|nl (Ig G G G trivial (Ad 0 G Aa) (Bg.tail Br))));trivial),fun V Az _=>(by(repeat (refine dt ?_ ?_;exact B0 (Axs _ a.BT) (Ar G) G (Ad 0 G Aa) G<|nl (Ig G G G G Aa (Bg.tail Br))));trivial),?_⟩
  refine⟨fun V Az _=>?_,?_⟩
  ·
   repeat
    refine dt ?_ ?_
    · exact U 1 G<|GH G G G G
   trivial
  refine⟨fun V Az _=>AxS ?_ ?_ ?_ ?_ ?_ ?_ ?_,?_⟩
  · exact AX 1 [2] G G<|GH G G G G
  · exact AX 1 [3] G G<|GH G G G G
  · exact AX 1 [3] G G<|GH G G G G
  · exact AX 1 [4] G G<|GH G G G G
  · exact AX 1 [4] G G<|GH G G G G
  · exact AX 1 [4] G G<|GH G G G G
  · exact AX 1 [4] G G<|GH G G G G
  refine⟨fun V Az _=>?_,?_⟩
  ·
   repeat
    refine dt ?_ ?_
    · exact BH (xs:=[.tmp 12]) (us:=[.int .i64 a.BT]) (E:=3) (bytes:=8) (n:=1) G (by exact RL) G G G G G G fun xj=>Q5 (α:=Int) [a.BT] [[.int .i64 (a.BT)]] G (fun S w h=>⟨⟨G,C6.2.2.1⟩,trivial⟩) (ABy G)<|nl (Ig G G G trivial (Ad 0 G Aa) (Bg.tail Br))
   trivial
  refine⟨fun V Az _=>(by(repeat (refine dt ?_ ?_;exact B0 (Axs _ a.BT) (Ar G) G (Ad 0 G Aa) G<|nl (Ig G G G G Aa (Bg.tail Br))));trivial),fun V Az _=>m6 (CT AuZ G fun En=>GH G G G G) (CT AuZ G fun En=>D9 4 G<|D9 4 G<|D9 4 G<|D9 3 G<|D9 4 G<|GH G G G G),fun V Az _=>m6 (CT AuZ G fun E'=>GH G G G G) (CT AuZ G fun E'=>GH G G G G),?_⟩
  refine⟨fun V Az LC=>?_,?_⟩
  ·
   repeat
    refine dt ?_ ?_
    · exact BZ 1 (us:=(AuI ((wide (a.BT))))) (ABE some (LC.mem 8 (Aw9 G) G)) G G (At G) G G<|AvU G G
   trivial
  refine⟨fun V Az LC=>?_,?_⟩
  ·
   repeat
    refine dt ?_ ?_
    · exact BZ 0 (us:=(AuI ((wide (a.BT))))) (ABE some (LC.mem 9 (Aw9 G) G)) G G (At G) G G<|AvU G G
   trivial
  trivial
 ·
  refine Vu [2] G<|?_;obtain⟨En,ApQ⟩:∃b,V 8=.pointer (some ⟨b,0,none⟩):=⟨_,LC.mem 8 AGp rfl rfl⟩;obtain⟨E',aQ⟩:∃b,V 9=.pointer (some ⟨b,0,none⟩):=⟨_,LC.mem 9 AGp rfl rfl⟩;simp only[ApQ,aQ,AzC];refine A5<|Am<|AF 1 G<|B5<|Hx (σ:=Nat) [(1,_),(2,_),(3,_),(4,_),(5,_)] _ (fun i C=>(6,.int .i64 (i:Int))::C) (fun i=>[AO E' 138 (AuI (wide (AuW (fun h=>h.DV) a.BT a.A0 i))),AO En 138 (AuI (wide (AuV (fun h=>h.Fc) a.BT a.A0 i))),AO DQ 138 Au9,AO Dh 138 Au9,AO CY 73 (A3 a Cw),CL X w]) (fun _ Dw=>Dw) (fun i=>i<=a.A0.length) (fun i=>a.A0.length-i) 0 (Bs G) (Ad 0 G Aa) (ABg _) (Bs G) G (Ad 0 G Aa) ?_;intro i Ag;refine Am<|Ae<|AX 3 [4] G G<|C2 0 G G AB5 G fun qU=>U 1 G<|Ac<|B9 G (fun Fe=>?_) (fun Fe=>?_)
  ·
   have Aw5:=F5 _ (Hl (l:=a.A0) (i:=i) AGn);have je:=AvS (i:=i) AGn (Av4 (l:=a.A0) C6.2.2.1 (fun x Ab=>(F5 x Ab).2.2.2) i Ag);have R9:=AvS (i:=i) AGn (Av5 (l:=a.A0) C6.2.2.1 (fun x Ab=>(F5 x Ab).2.2.1) i Ag);refine AZ<|Am<|B5<|Vh (L:=[AO E' 138 (AuI ((wide (AuW (fun h=>h.DV) a.BT a.A0 i)))),AO En 138 (AuI ((wide (AuV (fun h=>h.Fc) a.BT a.A0 i)))),AO DQ 138 Au9,AO Dh 138 Au9,AO CY 73 (A3 a Cw),CL X w]) [(0,.NQ 1),(2,.NQ 4),(7,.F0 [] ⟨_,_,_,_,Awr (AuV (fun h=>h.Fc) a.BT a.A0 i) (a.A0.getD i default).Fc je Aw5.2.2.2,(Ar G)⟩),(8,.NQ 0),(10,.NQ 4),(15,.F0 [] ⟨_,_,_,_,AvV (AuW (fun h=>h.DV) a.BT a.A0 i) (a.A0.getD i default).DV R9.w Aw5.2.2.1,(Ar G)⟩)] [(4,⟨none,fun u=>[⟨u,(⟨(a.A0.getD i default)⟩:Cq BD)⟩],false⟩),(5,⟨none,fun u=>[⟨u,(⟨(a.A0.getD i default).Fc⟩:Cq Int)⟩],false⟩),(6,⟨some (.int .i64 ((a.A0.getD i default).Fc)),fun _=>[],false⟩),(12,⟨none,fun u=>[⟨u,(⟨(a.A0.getD i default)⟩:Cq BD)⟩],false⟩),(13,⟨none,fun u=>[⟨u,(⟨(a.A0.getD i default).DV⟩:Cq Int)⟩],false⟩),(14,⟨some (.int .i64 ((a.A0.getD i default).DV)),fun _=>[],false⟩),(16,⟨none,fun _=>[],true⟩),(17,⟨none,fun _=>[],true⟩)] [] [] [(16,fun L _=>NZ 4 (AO En 138 (AuI ((wide ((AuV (fun h=>h.Fc) a.BT a.A0 i)-(a.A0.getD i default).Fc))))) L),(17,fun L _=>NZ 5 (AO E' 138 (AuI ((wide ((AuW (fun h=>h.DV) a.BT a.A0 i)+(a.A0.getD i default).DV))))) L)] (fun _=>G) (fun _=>AGo) ?_ fun V _=>?_
   ·
    refine⟨fun V Az _=>GK (Fo 0 G G G I6 G fun Pf=>nl (Ig G G G trivial (Ad 0 G Aa) (Bg.tail Br))),fun V Az _=>GK (CJ 0 Agw G G (BR G) G fun N4=>nl (Ig G G G trivial (Ad 0 G Aa) (Bg.tail (Bg.tail Br)))),?_⟩;refine⟨fun V Az _=>GK ?_,?_⟩
    ·
     refine CQ 0 G G (A2 G) G fun Uc=>?_;exact nl (Ig G G G G Aa (Bg.tail Br))
    refine⟨fun V Az _=>(by(repeat (refine dt ?_ ?_;exact Fo 0 G G G I6 G fun Xm=>nl (Ig G G G trivial (Ad 0 G Aa) (Bg.tail Br))));trivial),fun V Az _=>(by(repeat (refine dt ?_ ?_;exact CJ 0 Agv G G (BR G) G fun Mo=>nl (Ig G G G trivial (Ad 0 G Aa) (Bg.tail (Bg.tail Br)))));trivial),?_⟩
    refine⟨fun V Az _=>?_,?_⟩
    ·
     repeat
      refine dt ?_ ?_
      ·
       refine CQ 0 G G (A2 G) G fun ux=>?_;exact nl (Ig G G G G Aa (Bg.tail Br))
     trivial
    exact⟨fun V Az _=>GK (BZ 1 (us:=(AuI ((wide ((AuV (fun h=>h.Fc) a.BT a.A0 i)-(a.A0.getD i default).Fc))))) G G G (At G) G G<|AvU G G),fun V Az _=>GK (BZ 0 (us:=(AuI ((wide ((AuW (fun h=>h.DV) a.BT a.A0 i)+(a.A0.getD i default).DV))))) G G G (At G) G G<|AvU G G),trivial⟩
   ·
    refine Vu [4] G<|CU<|A5<|rg<|An G G<|C5 G G BV G<|U 1 G<|nl ?_;exact Dy (i+1) AGn AGn (Bs G) G (Ad 0 G Aa)
  · exact ex<|Ck<|Ck<|D7<|A5<|Am<|AzQ [(0,.NQ 1),(1,.NQ 0),(2,.st 3),(3,.st 2)] G AGo<|A5<|rt<|D8 () [_,_,_,_,_] (AzJ 3 2 G G G G G (At G) (At G)) (by have e:i=a.A0.length:=AGn;subst e;rw[AwP,AwM];try rfl) G Aa
theorem AzS(a:AD)(Cw:Value)(C6:a.wf):Cv AG 116 [.agg (A3 a Cw).toArray] [⟨Cw,a.A0⟩] (.bool (Au6 a)):=by
 refine Aw.proof Tryz.func116 G 121 G G fun X w=>HP (q:=∀x∈a.A0,x.wf) (fun S w h=>O7 (s:=MN) (h _ (AA' (i:=0) G))) fun F5=>Ae<|CV G G G fun CY=>U 1 G<|Ac<|Am<|Ae<|AX 2 [0] G G<|B0 (Avz _) (Ar G) G Aa G<|U 2 G<|DE 14 7 [1] G G (fun Fm SS=>U 1 G<|Bl G G G<|BJ 0 (Od a.Cs) G G (At G) G G<|AX 2 [0] G G<|Bl G G G<|B0 (Aw2 _ _ C6.2.1 C6.2.2.1) (Ar G) G Aa G<|U 2 G<|SS G Br)<|An G G<|ET 22 4 [0] [1] G G G<|Ac<|BN G (fun JR=>?_) (fun JR=>?_)
 ·
  have Avj:(Avg a)=true:=JR;exact AF 1 G<|BA<|AQ<|Bq () G G (by rw[Au6,AA_ Avj]) G Aa
 ·
  have Avj:(Avg a)=false:=JR;refine AZ<|AF 1 G<|Am<|AF 1 G<|B5<|Ji (σ:=Nat) [(1,_)] _ (fun i C=>(4,.int .i64 (i:Int))::(3,.int .i64 (Nh (fun k=>(a.A0.getD k default).Bn) i))::C) (fun i=>i<=a.A0.length/\(∀j,j<i->(!eU (Nh (fun k=>(a.A0.getD k default).Bn) j) (a.A0.getD j default))=true)) (fun i=>a.A0.length-i) 0 ⟨G,trivial⟩ (Ad 0 G Aa) ⟨ABg _,fun j Ay=>absurd Ay (AB2 j)⟩ (Bs G) ?_;rintro i ⟨Ag,C0⟩;refine Am<|Ae<|AX 3 [0] G G<|C2 0 G G AB5 G fun qW=>U 1 G<|Ac<|B9 G (fun ES=>?_) (fun ES=>?_)
  ·
   refine AZ<|Am<|B5<|Ae<|AX 3 [0] G G<|Fo 0 G G G I6 G fun gA=>Gi 0 G G (At G) G fun AA0 Zt=>CT Um G fun E'=>BZ 0 (us:=(JH ((a.A0.getD i default)))) G G G (At G) G G<|Ac<|Am<|Ae<|AX 5 [0] G G<|ET 43 4 [0] [1,4,5] G G G<|An G G<|ET 48 4 [0] [1,4,5] G G G<|An G G<|ET 53 4 [0] [1,4,5] G G G<|An G G<|ET 58 4 [0] [1,4,5] G G G<|Ac<|BN G (fun Th=>?_) (fun Th=>?_)
   · exact AF 1 G<|BA<|C9<|Cd<|Cd<|C9<|Cd<|AQ<|AQ<|Bq () G G (by rw[Au6,AA9 (by rw[Avj];decide),AA9 (by rw[LI,Ur i AGn (YU Th)];decide)]) G Aa
   ·
    refine AZ<|Kb 3 [0] G G<|CU<|A5<|rg<|An G G<|C5 G G BV G<|U 1 G<|nl<|AQ ?_;exact Dy (i+1) ⟨AGn,(Ki C0 (YT Th))⟩ AGn (Bs G) G (Ad 2 G Aa)
  ·
   have hh:LI a.A0=true:=Us (fun j Ay=>C0 j AGn);have je:=AAf C6 F5 hh;have R9:=Ayg C6 F5 hh;refine ex<|Ck<|Ck<|D7<|A5<|Ae<|BJ 0 (A3 a Cw) G G (At G) G G<|B0 (Aym a Cw C6 hh) (Ar G) G (Ad 0 G Aa) G<|U 3 G<|CT AuZ G fun Hg=>CT AuZ G fun Jo=>BZ 1 (us:=(AuI ((wide (IU a))))) G G G (At G) G G<|BZ 0 (us:=(AuI ((wide (I7 a))))) G G G (At G) G G<|Ac<|Am<|Ae<|BJ 0 (AuI ((wide (I7 a)))) G G (At G) G G<|AX 3 [2] G G<|B0 (AxT (I7 a) a.Cs.Bc je C6.2.1.2) (Ar G) G Aa G<|An G G ?_;refine DE 75 8 [1] G G (fun AyP AxN=>by
    exact Bl G G G<|BJ 1 (AuI ((wide (IU a)))) G G (At G) G G<|AX 3 [2] G G<|Bl G G G<|B0 (Awr (IU a) a.Cs.A6 R9 C6.2.1.1) (Ar G) G Aa G<|Bl G G G<|fd G Ayt G G<|U 1 G<|U 1 G<|AxN G Br) ?_
   refine Ac<|BN G (fun AqI=>?_) (fun AqI=>?_)
   ·
    have AvN:(AvF a)=true:=AqI;exact AF 1 G<|BA<|AQ<|AQ<|AQ<|Bq () G G (by rw[Au6,AA9 (by rw[Avj];decide),AA_ hh,AA_ AvN]) G Aa
   ·
    have AvN:(AvF a)=false:=AqI;refine AZ<|Am<|I5 4 [2] G G<|B9 G (fun AmY=>?_) (fun AmY=>?_)
    ·
     have Awf:(decide (a.BG.Ap=0))=true:=(ABG AmY);exact Ae<|U 1 G<|BJ 2 (Lx a.BG) G G (At G) G G<|Db (ps:=[]) (cs:=(Lx PF)) AGq AGo G<|RU oK (a.BG) PF G G G<|U 1 G<|Ac<|BA<|AQ<|AQ<|AQ<|Bq () G G (by rw[Au6,AA9 (by rw[Avj];decide),AA_ hh,AA9 (by rw[AvN];decide),AA_ Awf];try rfl) G Aa
    ·
     have Awf:(decide (a.BG.Ap=0))=false:=(ABM AmY);exact AZ<|Ae<|AX 5 [2,2] G G<|BH (xs:=[.tmp 94,.tmp 97]) (us:=[.int .i64 a.BT,.int .i64 a.BG.B2]) (E:=3) (bytes:=8) (n:=2) G (by exact RL) G G G G G G fun AAC=>Q5 (α:=Int) [a.BT,a.BG.B2] [[.int .i64 (a.BT)],[.int .i64 (a.BG.B2)]] G (fun S w h=>⟨⟨G,C6.2.2.1⟩,⟨G,C6.2.2.2.2.2.2.2.2⟩,trivial⟩) (ABy G)<|B0 (AAr _ a.BT a.BG.B2) (Ar G) G (Ad 0 G Aa) G<|B0 (AAp (a.BT+a.BG.B2) (Az9 C6)) (Ar G) G Aa G<|An G G<|U 4 G<|Ac<|Ae<|U 1 G<|BJ 2 (Lx a.BG) G G (At G) G G<|B0 (Ay0 _ C6.2.2.2.2.2) (Ar G) G Aa G<|An G G<|D4 106 5 [1,8,9] G G (fun AAD AxC=>AX 2 [2] G G<|Bl G G G<|C2 1 G G AB5 G fun AAJ=>U 2 G<|AxC G Br)<|An G G<|Fu 112 2 [] [1,8] G G G<|An G G<|D4 115 5 [] G G (fun Wf AxE=>U 1 G<|Bl G G G<|BJ 2 (Od a.Cs) G G (At G) G G<|U 1 G<|Bl G G G<|B0 (Aw2 _ _ C6.2.1 (Alo _)) (Ar G) G Aa G<|U 1 G<|AxE G Br)<|U 1 G<|Ac<|rt<|AQ<|AQ<|AQ<|Bq () G G (by rw[Au6,AA9 (by rw[Avj];decide),AA_ hh,AA9 (by rw[AvN];decide),AA9 (by rw[Awf];decide)];try rfl) G Aa
theorem AzU(CP:Value)(l:List AD):Cv AG 37 [CP] [⟨CP,l⟩] (.bool (Au3 l)):=by
 refine Aw.proof Tryz.func37 G 44 G G fun X w=>HP (q:=l.length<=9223372036854775807) (fun S w h=>L1 (h _ (AA' (i:=0) G))) fun hlen=>AF 1 G<|Am<|AF 1 G<|B5<|Ji (σ:=Nat) [(0,_)] _ (fun i C=>(3,.int .i64 (i:Int))::C) (fun i=>i<=l.length/\(∀j,j<i->(!AwC l j)=true)) (fun i=>l.length-i) 0 ⟨G,trivial⟩ (Ad 0 G Aa) ⟨ABg _,fun j Ay=>absurd Ay (AB2 j)⟩ (Bs G) ?_;rintro i ⟨Ag,C0⟩;refine Am<|Ae<|U 2 G<|C2 0 G G ABH G fun qY=>U 1 G<|Ac<|B9 G (fun GY=>?_) (fun GY=>?_)
 ·
  refine AZ<|Am<|B5<|Am<|Gx mixed AGo<|U 2 G<|Fo 0 G G G Gt G fun gz=>Gi 0 G G (At G) G fun HJ AkQ=>HD (AzS _ _ AkQ) (Ar G) G (Ad 1 G Aa) G<|U 2 G ?_;refine DE 16 6 [0,3] G G (fun CR VD=>by
   have Af2:=CR;try simp only[ABI]at Af2
   exact U 2 G<|Bl G G G<|Fo 3 G G G Gt G fun KC=>Bl G G G<|Gi 0 G G (At G) G fun Qt Vr=>Bl G G G<|HD (AzA _ _ Vr) (Ar G) G (Ad 1 G Aa) G<|U 1 G<|VD G (Bg.tail (Bg.tail (Bg.tail Br)))) ?_
  refine An G G ?_;refine DE 23 17 [0,3] G G (fun Km ZK=>by
   have Azy:=Km;try simp only[ABD,ABI]at Azy
   refine U 3 G ?_;refine D4 26 13 [0,3,23] G G (fun JR vT=>by
    have Axd:=ABA JR;exact U 2 G<|Bl G G G<|Fo 3 G G G Gt G fun MR=>Bl G G G<|CJ 0 kM G G (BR G) G fun v30=>Bl G G G<|CQ 0 G G (A2 G) G fun cZ=>U 2 G<|Bl G G G<|TU G G BV G<|Bl G G G<|Fo 5 G G G Gt G fun Mo=>Bl G G G<|CJ 0 kM G G (BR G) G fun SC=>Bl G G G<|CQ 0 G G (A2 G) G fun AkU=>Bl G G G<|j2 G G G<|U 1 G<|vT G (Bg.tail (Bg.tail (Bg.tail (Bg.tail Br))))) ?_
   exact U 1 G<|ZK G Br) ?_
  refine Gj<|A5<|BN G (fun K7=>?_) (fun K7=>?_)
  · exact AF 1 G<|rt<|C9<|Cd<|Cd<|C9<|Cd<|Bq () G G (by rw[Au3,AA9 (by rw[Ur i AGn (YU K7)];decide)]) G Aa
  ·
   refine EG<|CU<|A5<|rg<|An G G<|C5 G G BV G<|U 1 G<|nl ?_;exact Dy (i+1) ⟨AGn,(Ki C0 (YT K7))⟩ AGn (Bs G) G (Ad 3 G Aa)
 · exact ex<|Ck<|Ck<|D7<|A5<|Ae<|An G G<|C2 0 G G ABH G fun AAP=>U 2 G<|Ac<|rt<|Bq () G G (by rw[Au3,AA_ (Us (fun j Ay=>C0 j AGn))];try rfl) G Aa
theorem Axo(s:Bv)(El EV D_ EA Em Eh:Value)(J8:s.wf):Cv AG 14 [.agg (BY s El EV D_ EA Em Eh).toArray] [⟨El,s.Aj⟩,⟨EV,s.Bz⟩,⟨D_,s.AA⟩,⟨EA,s.Bj⟩,⟨Em,s.CX⟩,⟨Eh,s.Cf⟩] (.bool (AuY s)):=by
 refine Aw.proof Tryz.func14 G 210 G G fun X w=>Ae<|CV G G G fun CY=>U 1 G<|Ac<|Am<|Ae<|AX 2 [0] G G<|B0 (AvP _ J8.1) (Ar G) G Aa G<|U 2 G<|DE 11 5 [1] G G (fun Ct ZG=>AX 2 [0] G G<|Bl G G G<|B0 (Avn _ J8.2.1) (Ar G) G Aa G<|U 2 G<|ZG G Br)<|An G G<|DE 17 5 [1] G G (fun DA VD=>AX 2 [0] G G<|Bl G G G<|B0 (Avn _ J8.2.2.2.2.2.1) (Ar G) G Aa G<|U 2 G<|VD G Br)<|An G G<|DE 23 5 [1] G G (fun Km vQ=>AX 2 [0] G G<|Bl G G G<|B0 (Avn _ J8.2.2.2.2.2.2.2.2.2.2.2.2.2.2.1) (Ar G) G Aa G<|U 2 G<|vQ G Br)<|An G G<|DE 29 5 [1] G G (fun G5 ZJ=>AX 2 [0] G G<|Bl G G G<|B0 (Avn _ J8.2.2.2.2.2.2.2.2.2.2.2.2.2.2.2.1) (Ar G) G Aa G<|U 2 G<|ZJ G Br)<|An G G<|DE 35 5 [1] G G (fun Lz ZK=>AX 2 [0] G G<|Bl G G G<|B0 (Avn _ J8.2.2.2.2.2.2.2.2.2.2.2.2.2.2.2.2) (Ar G) G Aa G<|U 2 G<|ZK G Br)<|Ac<|BN G (fun K7=>?_) (fun K7=>?_)
 ·
  have yN:(Avr s)=true:=K7;exact AF 1 G<|BA<|AQ<|Bq () G G (by rw[AuY,AA_ yN]) G Aa
 ·
  have yN:(Avr s)=false:=K7;refine AZ<|Am<|Ae<|AX 4 [0] G G ?_;refine D4 44 27 [1] G G (fun Q_ v8=>by
   exact AX 4 [0] G G<|ET 48 4 [0] [1,44] G G G<|U 1 G<|DE 53 5 [1,44] G G (fun AmW VH=>AX 2 [0] G G<|Bl G G G<|C2 0 G G ABH G fun AAQ=>U 2 G<|VH G Br)<|U 1 G<|DE 59 5 [1,44] G G (fun JS AxM=>AX 2 [0] G G<|Bl G G G<|C2 2 G G AB4 G fun AAR=>U 2 G<|AxM G Br)<|U 1 G<|DE 65 5 [1,44] G G (fun Ju v7=>U 1 G<|Bl G G G<|BJ 0 (ED s.Bt) G G (At G) G G<|Bl G G G<|Db (ps:=[]) (cs:=(ED (Gs))) AGq AGo G<|Bl G G G<|Qo RV (s.Bt) (Gs) G G G<|U 1 G<|v7 G Br)<|U 1 G<|v8 G Br) ?_
  refine An G G ?_;refine DE 72 16 [1] G G (fun iM AxO=>by
   refine AX 3 [0] G G ?_;refine D4 75 12 [1,72] G G (fun AyP wa=>by
    refine AX 4 [0] G G ?_;refine DE 79 7 [1,72,75] G G (fun AmX g_=>by
     have AAY:=ACe AmX;exact AX 4 [0,0] G G<|Bl G G G<|B0 (Axn _ _) (Ar G) G Aa G<|U 2 G<|g_ G Br) ?_
    exact U 1 G<|wa G Br) ?_
   exact U 1 G<|AxO G Br) ?_
  refine Ac<|BN G (fun pe=>?_) (fun pe=>?_)
  ·
   have Au_:(Avf s)=true:=pe;exact AF 1 G<|BA<|AQ<|Bq () G G (by rw[AuY,AA9 (by rw[yN];decide),AA_ Au_]) G Aa
  ·
   have Au_:(Avf s)=false:=pe;refine AZ<|Am<|Ae<|AX 2 [0] G G<|B0 (AzU _ _) (Ar G) G (Ad 0 G Aa) G<|U 2 G<|DE 93 5 [1] G G (fun Ap7 AvZ=>AX 2 [0] G G<|Bl G G G<|B0 (AzR _ _) (Ar G) G (Ad 1 G Aa) G<|U 2 G<|AvZ G Br)<|An G G<|DE 99 5 [1] G G (fun AAH AxA=>AX 2 [0] G G<|Bl G G G<|B0 (AzT _ _) (Ar G) G (Ad 3 G Aa) G<|U 2 G<|AxA G Br)<|An G G<|DE 105 5 [1] G G (fun iB AxB=>AX 2 [0] G G<|Bl G G G<|B0 (Ayn _ _) (Ar G) G (Ad 4 G Aa) G<|U 2 G<|AxB G Br)<|An G G<|DE 111 5 [1] G G (fun AAE AxD=>AX 2 [0] G G<|Bl G G G<|C2 2 G G AB4 G fun AnO=>U 2 G<|AxD G Br)<|Ac<|BN G (fun Awj=>?_) (fun Awj=>?_)
   ·
    have Avb:(AvD s)=true:=Awj;exact AF 1 G<|BA<|AQ<|Bq () G G (by rw[AuY,AA9 (by rw[yN];decide),AA9 (by rw[Au_];decide),AA_ Avb]) G Aa
   ·
    have Avb:(AvD s)=false:=Awj;refine AZ<|Am<|AF 1 G<|B5<|Ji (σ:=Nat) [(1,_)] _ (fun i C=>(3,.int .i64 (i:Int))::C) (fun i=>i<=s.Aj.length/\(∀j,j<i->F' s (s.Aj.getD j default).Al=true)) (fun i=>s.Aj.length-i) 0 ⟨G,trivial⟩ (Ad 0 G (Ad 1 G (Ad 2 G (Ad 3 G (Ad 4 G (Ad 5 G Aa)))))) ⟨ABg _,fun j Ay=>absurd Ay (AB2 j)⟩ (Bs G) ?_;rintro i ⟨Ag,C0⟩;refine Am<|Ae<|AX 3 [0] G G<|C2 0 G G ABH G fun AAK=>U 1 G<|Ac<|B9 G (fun AyL=>?_) (fun AyL=>?_)
    ·
     refine AZ<|Am<|B5<|Am<|Gx mixed AGo<|BJ 0 (BY s El EV D_ EA Em Eh) G G (At G) G G<|AX 3 [0] G G<|Fo 0 G G G Gt G fun AA2=>CJ 0 kM G G (BR G) G fun AA3=>CQ 0 G G (A2 G) G fun AA6=>HD (Awu _ _ _ _ _ _ _ _ J8) (Ar G) G (BE [2,3,4,5,6,7] G) G<|IH G G<|Gj<|A5<|BN G (fun Awk=>?_) (fun Awk=>?_)
     · exact AF 1 G<|rt<|C9<|Cd<|Cd<|C9<|Cd<|AQ<|Bq () G G (by rw[AuY,AA9 (by rw[yN];decide),AA9 (by rw[Au_];decide),AA9 (by rw[Avb];decide),AA9 (by rw[Ava,Ur i AGn (by simpa using Awk)];decide)]) G Aa
     ·
      refine EG<|CU<|A5<|rg<|An G G<|C5 G G BV G<|U 1 G<|nl ?_;exact Dy (i+1) ⟨AGn,(Ki C0 (by simpa using Awk))⟩ AGn (Bs G) G (BE [2,3,4,5,6,7] G)
    ·
     have AvO:Ava s=true:=Us (fun j Ay=>C0 j AGn);refine ex<|Ck<|Ck<|D7<|A5<|Am<|AF 1 G<|B5<|Ji (σ:=Nat) [(1,_)] _ (fun k C=>(4,.int .i64 (k:Int))::C) (fun k=>k<=s.AA.length/\(∀j,j<k->Au8 s (s.AA.getD j default)=true)) (fun k=>s.AA.length-k) 0 ⟨G,trivial⟩ (Ad 0 G (Ad 1 G (Ad 2 G (Ad 3 G (Ad 4 G (Ad 5 G Aa)))))) ⟨ABg _,fun j Ay=>absurd Ay (AB2 j)⟩ (Bs G) ?_;rintro k ⟨At3,Aw1⟩;refine Am<|Ae<|AX 3 [0] G G<|C2 2 G G AB4 G fun AAL=>U 1 G<|Ac<|B9 G (fun AyM=>?_) (fun AyM=>?_)
     ·
      refine AZ<|Am<|B5<|Am<|Gx mixed AGo<|BJ 0 (BY s El EV D_ EA Em Eh) G G (At G) G G<|AX 3 [0] G G<|Fo 2 G G G N0 G fun AkE=>Gi 0 G G (At G) G fun At' Auy=>HD (AAj _ _ _ _ _ _ _ _ J8 Auy) (Ar G) G (BE [2,3,4,5,6,7] G) G<|IH G G<|Gj<|A5<|BN G (fun Aso=>?_) (fun Aso=>?_)
      · exact AF 1 G<|rt<|C9<|Cd<|Cd<|C9<|Cd<|AQ<|Bq () G G (by rw[AuY,AA9 (by rw[yN];decide),AA9 (by rw[Au_];decide),AA9 (by rw[Avb];decide),AA_ AvO,AA9 (by rw[Avt,Ur k AGn (by simpa using Aso)];decide)]) G Aa
      ·
       refine EG<|CU<|A5<|rg<|An G G<|C5 G G BV G<|U 1 G<|nl ?_;exact Dy (k+1) ⟨AGn,(Ki Aw1 (by simpa using Aso))⟩ AGn (Bs G) G (BE [2,3,4,5,6,7] G)
     ·
      have h0:Avt s=true:=Us (fun j Ay=>Aw1 j AGn);refine ex<|Ck<|Ck<|D7<|A5<|Am<|Ae<|U 1 G<|BJ 0 (ED s.Bt) G G (At G) G G<|Db (ps:=[]) (cs:=(ED (Gs))) AGq AGo G<|Qo RV (s.Bt) (Gs) G G G<|An G G ?_;refine D4 152 29 [1] G G (fun AyN AxI=>by
       have Azx:=AyN;simp only[ABe,ABl]at Azx;refine U 1 G<|Bl G G G<|BJ 0 (ED s.Bt) G G (At G) G G<|Bl G G G<|B0 (Axe _ J8.2.2.2.2.2.2.2.2.2.2.2.1) (Ar G) G Aa G<|U 2 G ?_;refine DE 157 7 [1,152] G G (fun AAF AxF=>by
        exact AX 7 [0,0] G G<|AxF G Br) ?_
       refine U 1 G ?_;refine DE 165 7 [1,152] G G (fun AAG AxG=>by
        exact AX 7 [0,0] G G<|AxG G Br) ?_
       refine U 1 G ?_;refine DE 173 7 [1,152] G G (fun iH AxH=>by
        exact Bl G G G<|BJ 0 (BY s El EV D_ EA Em Eh) G G (At G) G G<|AX 3 [0] G G<|Bl G G G<|B0 (Awu _ _ _ _ _ _ _ _ J8) (Ar G) G (BE [0,1,2,3,4,5] G) G<|U 2 G<|AxH G Br) ?_
       exact U 1 G<|AxI G Br) ?_
      refine Ac<|BN G (fun Awl=>?_) (fun Awl=>?_)
      ·
       have AvM:(AvE s)=true:=Awl;exact AF 1 G<|BA<|AQ<|Bq () G G (by rw[AuY,AA9 (by rw[yN];decide),AA9 (by rw[Au_];decide),AA9 (by rw[Avb];decide),AA_ AvO,AA_ h0,AA_ AvM]) G Aa
      ·
       have AvM:(AvE s)=false:=Awl;refine AZ<|Am<|Ae<|U 1 G<|BJ 0 (ED s.CW) G G (At G) G G<|Db (ps:=[]) (cs:=(ED (Gs))) AGq AGo G<|RU RV (s.CW) (Gs) G G G<|Ac<|B9 G (fun Awm=>?_) (fun Awm=>?_)
       ·
        have Awd:(decide (s.CW=⟨0,0,0,ByteArray.empty,ByteArray.empty,0,0⟩))=true:=(ABG Awm);exact Ae<|AX 2 [0] G G<|C2 5 G G ABT G fun AAN=>U 2 G<|Ac<|BA<|AQ<|Bq () G G (by rw[AuY,AA9 (by rw[yN];decide),AA9 (by rw[Au_];decide),AA9 (by rw[Avb];decide),AA_ AvO,AA_ h0,AA9 (by rw[AvM];decide),AA_ Awd];try rfl) G Aa
       ·
        have Awd:(decide (s.CW=⟨0,0,0,ByteArray.empty,ByteArray.empty,0,0⟩))=false:=(ABM Awm);refine AZ<|Ae<|AX 2 [0] G G<|Dm (Awq _ _) (Ar G) G (Ad 5 G Aa) G fun AAw AAg Awn=>?_;obtain⟨Axu,Axv,Axw,Axx,Axy,Axz⟩:=AAw;replace Awn:AAg=.tuple #[.agg (BY (Er _).1 Axu Axv Axw Axx Axy Axz).toArray,.bool (decide ((Er _).2=0))]:=Awn;subst Awn;refine U 3 G<|CT LQ G fun E'=>Cp 0 G fun Ay9=>?_;refine Cp 1 G fun Ay_=>?_;refine Cp 2 G fun Ay'=>?_;refine Cp 3 G fun Aza=>?_;refine Cp 4 G fun Azb=>?_;refine Cp 5 G fun Azc=>?_;refine BZ 0 (us:=(BY ((Er s.Cf).1) Axu Axv Axw Axx Axy Axz)) G G G (At G) (by simp only[ABn,ABr,ABp,Ay9,Ay_,Ay',Aza,Azb,Azc];rfl) G<|U 1 G<|Ac<|Ae<|U 2 G ?_;refine D4 197 4 [1] G G (fun AyO AxJ=>by
         have AAV:=ABA AyO;exact U 1 G<|Bl G G G<|BJ 1 (ED s.CW) G G (At G) G G<|Bl G G G<|B0 (Axe _ J8.2.2.2.2.2.2.2.2.2.2.2.2.1) (Ar G) G Aa G<|U 1 G<|AxJ G Br) ?_
        exact An G G<|Fu 202 7 [1,1] [] G G G<|U 1 G<|Ac<|rt<|AQ<|AQ<|Bq () G G (by rw[AuY,AA9 (by rw[yN];decide),AA9 (by rw[Au_];decide),AA9 (by rw[Avb];decide),AA_ AvO,AA_ h0,AA9 (by rw[AvM];decide),AA9 (by rw[Awd];decide)];try rfl) G Aa
theorem AjF(n:Int)(MB:A' n):Cv AG 24 [.int .i64 n] [] (.tuple #[.agg (BY (F8 n) AI AI AI AI AI AI).toArray,.int .i64 (if Ih n=true then 0 else 1)]):=by
 refine Aw.proof Tryz.func24 G 16 G G fun X w=>?_;obtain⟨Yk,Yl⟩:=id MB;refine Ae<|CT LQ G fun Dh=>U 1 G<|Ac<|Am<|Ae<|An G G<|B0 (Zh _ MB) (Ar G) G Aa G<|IH G G<|Ac<|BN G (fun GY=>?_) (fun GY=>?_)
 ·
  have q:Ih n=false:=(by simpa using GY);exact Ae<|Db (ps:=[]) (cs:=(BY Np AI AI AI AI AI AI)) AGq AGo G<|BZ 0 (us:=(BY Np AI AI AI AI AI AI)) G G G (At G) G G<|U 1 G<|Ac<|BA<|D8 () [_] (Fp 0 G G G G (At G)) (by rw[F8,q];rfl) G Aa
 ·
  have q:Ih n=true:=(by simpa using GY);refine AZ<|Ae<|An G G<|Db (ps:=[(0,.tmp 9)]) (cs:=(BY ((⟨n,0,false,ByteArray.empty,ByteArray.empty,0,[],[],[],[],[],Gs,Gs,[],0,0,0⟩:Bv)) AI AI AI AI AI AI)) AGq AGo G<|CT LQ G fun En=>BZ 0 (us:=(BY ((⟨n,0,false,ByteArray.empty,ByteArray.empty,0,[],[],[],[],[],Gs,Gs,[],0,0,0⟩:Bv)) AI AI AI AI AI AI)) G G G (At G) G G<|Ac<|Am<|Ae<|An G G<|U 1 G<|Ac<|B9 G (fun EM=>?_) (fun EM=>?_)
  · exact Ae<|U 1 G<|Fi 0 G G G (A2 G) G (Da G)<|Ac<|rg<|U 1 G<|Fi 0 G G G (A2 G) G (Da G)<|Ac<|Ae<|BJ 0 (BY ((⟨n,0,true,ByteArray.empty,ByteArray.empty,1,([]),([]),([]),([]),([]),Gs,Gs,([]),0,0,0⟩:Bv)) AI AI AI AI AI AI) G G (At G) G G<|BZ 1 (us:=(BY ((⟨n,0,true,ByteArray.empty,ByteArray.empty,1,([]),([]),([]),([]),([]),Gs,Gs,([]),0,0,0⟩:Bv)) AI AI AI AI AI AI)) G G G (At G) G G<|U 1 G<|Ac<|rt<|D8 () [_,_] (Fp 1 G G G G (At G)) (by rw[F8,q,AA_ rfl,AA_ rfl,AA_ rfl];simp[EM]) G Aa
  · exact AZ<|Ae<|BJ 0 (BY ((⟨n,0,false,ByteArray.empty,ByteArray.empty,0,[],[],[],[],[],Gs,Gs,[],0,0,0⟩:Bv)) AI AI AI AI AI AI) G G (At G) G G<|BZ 1 (us:=(BY ((⟨n,0,false,ByteArray.empty,ByteArray.empty,0,[],[],[],[],[],Gs,Gs,[],0,0,0⟩:Bv)) AI AI AI AI AI AI)) G G G (At G) G G<|U 1 G<|Ac<|rt<|D8 () [_,_] (Fp 1 G G G G (At G)) (by rw[F8,q];simp[EM]) G Aa
theorem QN:EH AG 23 54 7 56:=EH.mk ACh AGo AGp
theorem OI:EH AG 22 73 10 104:=EH.mk ABH AGo AGp
theorem Mt:EH AG 24 50 11 104:=EH.mk AB4 AGo AGp
theorem QQ:EH AG 25 52 8 80:=EH.mk ACa AGo AGp
theorem RM:EH AG 26 125 2 16:=EH.mk ACi AGo AGp
theorem S1:EH AG 69 83 4 32:=EH.mk AB5 AGo AGp
theorem ei(CP:Value)(l:List Bx)(c q:Int)(BK:A' c)(Ed:A' q):Cv AG 179 [CP,.int .i64 c,.int .i64 q] [⟨CP,l⟩] (.tuple #[.agg (H8 (findD l c q)).toArray,.bool (Tz l c q)]):=by
 refine Aw.proof Tryz.func179 G 25 G G fun X w=>?_;obtain⟨K9,K_⟩:=id BK;obtain⟨LD,LF⟩:=id Ed;refine Ae<|CT SO G fun Hg=>U 1 G<|Ac<|Ae<|U 3 G<|B0 (fA _ _ _ _ BK Ed) (Ar G) G (Ad 0 G Aa) G<|U 1 G<|Ac<|Am<|Ae<|U 3 G ?_;refine DE 15 4 [0,6,8] G G (fun Ft ZH=>by
  have An_:=ACe Ft;exact U 1 G<|Bl G G G<|B0 (dS _ _) (Ar G) G (Ad 0 G Aa) G<|U 2 G<|ZH G Br) ?_
 refine Ac<|BN G (fun Fe=>?_) (fun Fe=>?_)
 · exact Ae<|Db (ps:=[]) (cs:=(H8 ((⟨0,0,ByteArray.empty,ByteArray.empty,0,0,0,0⟩:Bx)))) AGq AGo G<|BZ 0 (us:=(H8 ((⟨0,0,ByteArray.empty,ByteArray.empty,0,0,0,0⟩:Bx)))) G G G (At G) G G<|U 1 G<|Ac<|BA<|D8 () [_] (Fp 0 G G G G (At G)) (by rw[findD,Tz,AA_ Fe,AA_ Fe];rfl) G Aa
 ·
  obtain⟨k,AE,Lb⟩:=Ahq Fe;exact AZ<|Ae<|An G G<|An (v:=.int .i64 ((k:Nat):Int)) (ABE (fun x=>some (Value.int .i64 x)) (by rw[AE];rfl)) G<|Fo 0 G G G Ox G fun Pe=>Gi 0 G G (At G) G fun MJ PW=>BZ 0 (us:=(H8 ((l.getD k default)))) G G G (At G) G G<|U 1 G<|Ac<|rt<|D8 () [_] (Fp 0 G G G G (At G)) (by rw[findD,Tz,AA9 (by rw[Fe];decide),AA9 (by rw[Fe];decide),AE];try rfl) G Aa
theorem QP:EH AG 29 5 1 1:=EH.mk ABT AGo AGp
theorem AjE:H5 AG 56 35 25:=⟨Tryz.underlying56,AGo⟩
end Go.Apw
namespace Go.A_
open Go.RowKit
def wu(m:Nat)(Q:AuE)(c:Cj)(ops:Array Oper)(l:List Oper)(env:Env)(L:Own)(D:List Atom):Prop:=
 ∀a w,Fr c.n a env->CI c.BW c.M w L->BP D w L->wpListIn Fence.wide m c.P ops Q l a w
instance AnG (m:Nat) (Q:AuE):Ip (wu m Q) where
 read:=by
  intro c ops env L D rest o dst σ CK AJ env' Dd Ek k a w f st AR;obtain⟨s,u,Bh,Jq,KI⟩:=Ek a w f st AR;refine AdI CK ⟨fun _ _=>trivial,?_⟩;have hs:Oper.semAt Fence.wide.round a.eval o=execOp a.eval o:=rfl;rw[hs,Bh w (C8.refl _ _)];simp only[Oper.uponIn,AJ];exact k s _ _ Jq st KI
 gI:=by
  intro c ops env L D rest dst op t p af g hw k a w f st AR;have:=k a w f st AR;unfold wpListIn at this ⊢;rw[AA_ (hw a w f st AR)];rw[AA_ (show Region.wanted ⟨dst,op,t,p,af,none⟩ (yielded ops a.tmps)=true from rfl)]at this;exact this
 c4:=by
  intro c ops env env' L D rest o hw k a w f st AR;obtain⟨Af,h2⟩:=hw a w f st AR;unfold wpListIn;rw[Af];simp only[ADJ,if_false];exact⟨fun _ _=>trivial,k _ _ h2 st AR⟩
 mono:=by
  intro c ops env env' L D Dd l h k a w f st AR;obtain⟨Af,h2⟩:=h a w f st AR;exact k a w Af st h2
 fact:=by
  intro c ops env L D l q h k a w f st AR;exact k (h a w f st AR) a w f st AR
section
section
variable{c:Cj} {ops:Array Oper} {AP:Cj->Array Oper->List Oper->Env->Own->List Atom->Prop} [Dr:Ip AP] {env:Env} {L:Own} {D:List Atom} {rest:List Oper} {d:Nat} {t:TypeId} {p:String} {af:Array Edge} {T:TypeId}
include Dr
theorem Aek{x y:Operand}{Ec FK:TypeId}{b KZ:Bool}(hu:c.P.underlying Ec=some .bool)(Ab:AL env x=some (.bool b))(Bf:AL env y=some (.bool KZ))(Ao:Nat.blt d c.n=true)(k:AP c ops rest ((d,.bool (!decide (b=KZ)))::env) L D):
 AP c ops (⟨some d,.binOp .neq Ec x y FK,t,p,af,none⟩::rest) env L D:=
 pu rfl rfl Ao (fun a w f=>by
  have h:=run_eql_bool (P:=c.P) w _ b KZ hu;simp[binOp]at h;simp[execOp,f.AL Ab,f.AL Bf,eqGuard,binOp];generalize Sem.run c.P (Op.equal Ec (.bool b) (.bool KZ)) w=r at h ⊢;cases r with
  |ok v AT=>
   simp[Result.andThen]at h ⊢;obtain⟨rfl,rfl⟩:=h;cases b<;>cases KZ<;>simp
  |halt v AT=>simp[Result.andThen]at h) k
theorem dC{ps:List (Nat×Operand)}{us:List Value}{cs:List Value}(Ab:Gq env (ps.map (·.2))=some us)(Aq:c.P.built T ((ps.map (·.1)).zip us)=some cs.toArray)(Ao:Nat.blt d c.n=true)(k:AP c ops rest ((d,.agg cs.toArray)::env) L D):
 AP c ops (⟨some d,.build T ps.toArray,t,p,af,none⟩::rest) env L D:=
 pu rfl rfl Ao (fun a w f=>by
  have e:=f.Gq Ab;subst e;have h2:(ps.toArray.map fun(i,x)=>(i,a.eval x)).toList=(ps.map (·.1)).zip ((ps.map (·.2)).map a.eval):=by
   simp only[List.map_toArray];clear Ab Aq;induction ps with
   |nil=>rfl
   |cons q r Cg=>simp only[AB8,List.zip_cons_cons,Cg]
  have:=run_build (P:=c.P) w T (ps.toArray.map fun(i,x)=>(i,a.eval x)) cs.toArray (by rw[h2];exact Aq);simp only[execOp,Sem.run_bind,this,Result.andThen_ok,Sem.run_pure]) k
end
theorem zb{P:Program}{d:Nat}{T:TypeId}(hu:P.underlying T=some .bool)(a b:Bool)(w:World):(Op.equalIn (d+1) T (.bool a) (.bool b)).run P w=.ok (decide (a=b)) w:=by
 rw[run_equalIn_bool w d T a b hu];cases a<;>cases b<;>rfl
end
end Go.A_
namespace Go.Apw
theorem zk:Po AG 54 H9:=by
 refine⟨AGo,fun a b w=>?_⟩;rw[AC6 w 9999 54 _ _ (by simp only[Program.fieldsOf,ADk]) AGo];simp only[Program.fieldsOf,ADk];refine ABS (EI G ABc G G G (Fk ABc _ _) (fun w=>EI G ABc G G G (Fk ABc _ _) (fun w=>EI G ADM G G G (zb ADM _ _) (fun w=>h7 (m:=4) (zs1:= #[.int .i64 a.Cm.Jd,.int .i64 a.Cm.JM,.int .i64 a.Cm.JJ,.int .i64 a.Cm.JK]) (zs2:= #[.int .i64 b.Cm.Jd,.int .i64 b.Cm.JM,.int .i64 b.Cm.JJ,.int .i64 b.Cm.JK]) (r:=(decide (a.Cm.Jd=b.Cm.Jd)&&(decide (a.Cm.JM=b.Cm.JM)&&(decide (a.Cm.JJ=b.Cm.JJ)&&(decide (a.Cm.JK=b.Cm.JK)&&true))))) G AC5 G AGo (by simp) (by simp) (fun w=>?_) (fun w=>OO w))))) ?_
 ·
  rw[AC6 w 9998 44 _ _ (by simp only[Program.fieldsOf,AC5]) AGo];simp only[Program.fieldsOf,AC5];exact EI G Tryz.underlying37 G G G (Fk Tryz.underlying37 _ _) (fun w=>EI G ABc G G G (Fk ABc _ _) (fun w=>EI G ABc G G G (Fk ABc _ _) (fun w=>EI G ABc G G G (Fk ABc _ _) (fun w=>OO w))))
 congr 1;obtain⟨He,DP,EK,⟨wD,wE,wF,wG⟩⟩:=a;obtain⟨Pt,CY,Dh,⟨xn,xo,xp,xq⟩⟩:=b;simp[BL.mk.injEq,De.mk.injEq]
theorem zm:Po AG 50 Hh:=by
 refine⟨AGo,fun a b w=>?_⟩;rw[AC6 w 9999 50 _ _ (by simp only[Program.fieldsOf,ADa]) AGo];simp only[Program.fieldsOf,ADa];refine ABS (EI G ABc G G G (Fk ABc _ _) (fun w=>EI G ABc G G G (Fk ABc _ _) (fun w=>EI G ABc G G G (Fk ABc _ _) (fun w=>EI G ABc G G G (Fk ABc _ _) (fun w=>EI G ABc G G G (Fk ABc _ _) (fun w=>h7 (m:=6) (zs1:= #[.int .i64 a.AM.Ca,.string a.AM.Al,.string a.AM.EL,.int .i64 a.AM.B2,.int .i64 a.AM.A6,.int .i64 a.AM.Bc]) (zs2:= #[.int .i64 b.AM.Ca,.string b.AM.Al,.string b.AM.EL,.int .i64 b.AM.B2,.int .i64 b.AM.A6,.int .i64 b.AM.Bc]) (r:=(decide (a.AM.Ca=b.AM.Ca)&&(decide (a.AM.Al=b.AM.Al)&&(decide (a.AM.EL=b.AM.EL)&&(decide (a.AM.B2=b.AM.B2)&&(decide (a.AM.A6=b.AM.A6)&&(decide (a.AM.Bc=b.AM.Bc)&&true))))))) G ACR G AGo (by simp) (by simp) (fun w=>?_) (fun w=>OO w))))))) ?_
 ·
  rw[AC6 w 9998 33 _ _ (by simp only[Program.fieldsOf,ACR]) AGo];simp only[Program.fieldsOf,ACR];exact EI G ABc G G G (Fk ABc _ _) (fun w=>EI G ABO G G G (UF ABO _ _) (fun w=>EI G ABO G G G (UF ABO _ _) (fun w=>EI G ABc G G G (Fk ABc _ _) (fun w=>EI G ABc G G G (Fk ABc _ _) (fun w=>EI G ABc G G G (Fk ABc _ _) (fun w=>OO w))))))
 congr 1;obtain⟨He,DP,EK,FR,Iz,⟨Al0,Al1,Al2,Al3,Al4,Al5⟩⟩:=a;obtain⟨Pt,CY,Dh,DQ,En,⟨Amm,Amn,Amo,Amp,Amq,Amr⟩⟩:=b;simp[BX.mk.injEq,FL.mk.injEq]
theorem zg:Po AG 52 H8:=by
 refine⟨AGo,fun a b w=>?_⟩;rw[AC6 w 9999 52 _ _ (by simp only[Program.fieldsOf,AC0]) AGo];simp only[Program.fieldsOf,AC0];refine ABS (EI G ABc G G G (Fk ABc _ _) (fun w=>EI G ABc G G G (Fk ABc _ _) (fun w=>EI G ABO G G G (UF ABO _ _) (fun w=>EI G ABO G G G (UF ABO _ _) (fun w=>EI G ABc G G G (Fk ABc _ _) (fun w=>EI G ABc G G G (Fk ABc _ _) (fun w=>EI G ABc G G G (Fk ABc _ _) (fun w=>EI G ABc G G G (Fk ABc _ _) (fun w=>OO w))))))))) ?_;congr 1;obtain⟨He,DP,EK,FR,Iz,Lv,KY,OH⟩:=a;obtain⟨Pt,CY,Dh,DQ,En,E',Hg,Jo⟩:=b;simp[Bx.mk.injEq]
theorem zi:Po AG 125 QT:=by
 refine⟨AGo,fun a b w=>?_⟩;rw[AC6 w 9999 125 _ _ (by simp only[Program.fieldsOf,ADB]) AGo];simp only[Program.fieldsOf,ADB];refine ABS (EI G ABc G G G (Fk ABc _ _) (fun w=>EI G ABc G G G (Fk ABc _ _) (fun w=>OO w))) ?_;congr 1;obtain⟨He,DP⟩:=a;obtain⟨Pt,CY⟩:=b;simp[Df.mk.injEq]
theorem Ahw(I8:Value)(x:List BL)(I9:Value)(y:List BL):Cv AG 46 [I8,I9] [⟨I8,x⟩,⟨I9,y⟩] (.bool (decide (x=y))):=by
 refine Aw.proof Tryz.func46 G 26 G G fun X w=>HP (q:=x.length<=9223372036854775807) (fun S w h=>L1 (h _ (AA' (i:=0) G))) fun Wv=>HP (q:=y.length<=9223372036854775807) (fun S w h=>L1 (h _ (AA' (i:=1) G))) fun Ww=>AF 1 G<|Am<|Ae<|An G G<|C2 0 G G ACh G fun MD=>An G G<|C2 1 G G ACh G fun Sm=>U 1 G<|Ac<|Fa G (fun Dq=>?_) (fun Dq=>?_)
 · exact AF 1 G<|BA<|Bq () G G (by rw[W2 AGn]) G Aa
 ·
  have AN:x.length=y.length:=AGn;refine AZ<|Am<|AF 1 G<|B5<|Ji (σ:=Nat) [(0,_),(1,_)] _ (fun i C=>(5,.int .i64 (i:Int))::C) (fun i=>i<=x.length/\(∀j,j<i->x.getD j default=y.getD j default)) (fun i=>x.length-i) 0 (Bs G) (Ad 0 G (Ad 1 G Aa)) ⟨ABg _,fun j Ay=>absurd Ay (AB2 j)⟩ (Bs G) ?_;rintro i ⟨Ag,C0⟩;refine Am<|Ae<|U 2 G<|C2 0 G G ACh G fun TC=>U 1 G<|Ac<|B9 G (fun Fm=>?_) (fun Fm=>?_)
  ·
   refine AZ<|Am<|B5<|Am<|Gx mixed AGo<|U 2 G<|Fo 0 G G G J1 G fun KC=>Gi 0 G G (At G) G fun Qt Vr=>U 2 G<|Fo 3 G G G J1 G fun Pe=>Gi 0 G G (At G) G fun MJ PW=>Qo zk ((x.getD i default)) ((y.getD i default)) G G G<|Gj<|A5<|Fa G (fun Gr=>?_) (fun Gr=>?_)
   · exact AF 1 G<|rt<|C9<|Cd<|Cd<|C9<|Cd<|Bq () G G (by rw[W1 i (by simpa using Gr)]) G Aa
   ·
    refine EG<|CU<|A5<|rg<|An G G<|C5 G G BV G<|U 1 G<|nl ?_;exact Dy (i+1) ⟨AGn,(Ki C0 (by simpa using Gr))⟩ AGn (Bs G) G (BE [4,5] G)
  · exact ex<|Ck<|Ck<|D7<|A5<|AF 1 G<|rt<|Bq () G G (by rw[W0 AN (fun j Ay=>C0 j AGn)]) G Aa
theorem Ahx(I8:Value)(x:List BX)(I9:Value)(y:List BX):Cv AG 47 [I8,I9] [⟨I8,x⟩,⟨I9,y⟩] (.bool (decide (x=y))):=by
 refine Aw.proof Tryz.func47 G 26 G G fun X w=>HP (q:=x.length<=9223372036854775807) (fun S w h=>L1 (h _ (AA' (i:=0) G))) fun Wv=>HP (q:=y.length<=9223372036854775807) (fun S w h=>L1 (h _ (AA' (i:=1) G))) fun Ww=>AF 1 G<|Am<|Ae<|An G G<|C2 0 G G AB4 G fun MD=>An G G<|C2 1 G G AB4 G fun Sm=>U 1 G<|Ac<|Fa G (fun Dq=>?_) (fun Dq=>?_)
 · exact AF 1 G<|BA<|Bq () G G (by rw[W2 AGn]) G Aa
 ·
  have AN:x.length=y.length:=AGn;refine AZ<|Am<|AF 1 G<|B5<|Ji (σ:=Nat) [(0,_),(1,_)] _ (fun i C=>(5,.int .i64 (i:Int))::C) (fun i=>i<=x.length/\(∀j,j<i->x.getD j default=y.getD j default)) (fun i=>x.length-i) 0 (Bs G) (Ad 0 G (Ad 1 G Aa)) ⟨ABg _,fun j Ay=>absurd Ay (AB2 j)⟩ (Bs G) ?_;rintro i ⟨Ag,C0⟩;refine Am<|Ae<|U 2 G<|C2 0 G G AB4 G fun TC=>U 1 G<|Ac<|B9 G (fun Fm=>?_) (fun Fm=>?_)
  ·
   refine AZ<|Am<|B5<|Am<|Gx mixed AGo<|U 2 G<|Fo 0 G G G N0 G fun KC=>Gi 0 G G (At G) G fun Qt Vr=>U 2 G<|Fo 3 G G G N0 G fun Pe=>Gi 0 G G (At G) G fun MJ PW=>Qo zm ((x.getD i default)) ((y.getD i default)) G G G<|Gj<|A5<|Fa G (fun Gr=>?_) (fun Gr=>?_)
   · exact AF 1 G<|rt<|C9<|Cd<|Cd<|C9<|Cd<|Bq () G G (by rw[W1 i (by simpa using Gr)]) G Aa
   ·
    refine EG<|CU<|A5<|rg<|An G G<|C5 G G BV G<|U 1 G<|nl ?_;exact Dy (i+1) ⟨AGn,(Ki C0 (by simpa using Gr))⟩ AGn (Bs G) G (BE [4,5] G)
  · exact ex<|Ck<|Ck<|D7<|A5<|AF 1 G<|rt<|Bq () G G (by rw[W0 AN (fun j Ay=>C0 j AGn)]) G Aa
theorem Ahs(I8:Value)(x:List Bx)(I9:Value)(y:List Bx):Cv AG 48 [I8,I9] [⟨I8,x⟩,⟨I9,y⟩] (.bool (decide (x=y))):=by
 refine Aw.proof Tryz.func48 G 26 G G fun X w=>HP (q:=x.length<=9223372036854775807) (fun S w h=>L1 (h _ (AA' (i:=0) G))) fun Wv=>HP (q:=y.length<=9223372036854775807) (fun S w h=>L1 (h _ (AA' (i:=1) G))) fun Ww=>AF 1 G<|Am<|Ae<|An G G<|C2 0 G G ACa G fun MD=>An G G<|C2 1 G G ACa G fun Sm=>U 1 G<|Ac<|Fa G (fun Dq=>?_) (fun Dq=>?_)
 · exact AF 1 G<|BA<|Bq () G G (by rw[W2 AGn]) G Aa
 ·
  have AN:x.length=y.length:=AGn;refine AZ<|Am<|AF 1 G<|B5<|Ji (σ:=Nat) [(0,_),(1,_)] _ (fun i C=>(5,.int .i64 (i:Int))::C) (fun i=>i<=x.length/\(∀j,j<i->x.getD j default=y.getD j default)) (fun i=>x.length-i) 0 (Bs G) (Ad 0 G (Ad 1 G Aa)) ⟨ABg _,fun j Ay=>absurd Ay (AB2 j)⟩ (Bs G) ?_;rintro i ⟨Ag,C0⟩;refine Am<|Ae<|U 2 G<|C2 0 G G ACa G fun TC=>U 1 G<|Ac<|B9 G (fun Fm=>?_) (fun Fm=>?_)
  ·
   refine AZ<|Am<|B5<|Am<|Gx mixed AGo<|U 2 G<|Fo 0 G G G Ox G fun KC=>Gi 0 G G (At G) G fun Qt Vr=>U 2 G<|Fo 3 G G G Ox G fun Pe=>Gi 0 G G (At G) G fun MJ PW=>Qo zg ((x.getD i default)) ((y.getD i default)) G G G<|Gj<|A5<|Fa G (fun Gr=>?_) (fun Gr=>?_)
   · exact AF 1 G<|rt<|C9<|Cd<|Cd<|C9<|Cd<|Bq () G G (by rw[W1 i (by simpa using Gr)]) G Aa
   ·
    refine EG<|CU<|A5<|rg<|An G G<|C5 G G BV G<|U 1 G<|nl ?_;exact Dy (i+1) ⟨AGn,(Ki C0 (by simpa using Gr))⟩ AGn (Bs G) G (BE [4,5] G)
  · exact ex<|Ck<|Ck<|D7<|A5<|AF 1 G<|rt<|Bq () G G (by rw[W0 AN (fun j Ay=>C0 j AGn)]) G Aa
theorem Ahu(I8:Value)(x:List Df)(I9:Value)(y:List Df):Cv AG 49 [I8,I9] [⟨I8,x⟩,⟨I9,y⟩] (.bool (decide (x=y))):=by
 refine Aw.proof Tryz.func49 G 26 G G fun X w=>HP (q:=x.length<=9223372036854775807) (fun S w h=>L1 (h _ (AA' (i:=0) G))) fun Wv=>HP (q:=y.length<=9223372036854775807) (fun S w h=>L1 (h _ (AA' (i:=1) G))) fun Ww=>AF 1 G<|Am<|Ae<|An G G<|C2 0 G G ACi G fun MD=>An G G<|C2 1 G G ACi G fun Sm=>U 1 G<|Ac<|Fa G (fun Dq=>?_) (fun Dq=>?_)
 · exact AF 1 G<|BA<|Bq () G G (by rw[W2 AGn]) G Aa
 ·
  have AN:x.length=y.length:=AGn;refine AZ<|Am<|AF 1 G<|B5<|Ji (σ:=Nat) [(0,_),(1,_)] _ (fun i C=>(5,.int .i64 (i:Int))::C) (fun i=>i<=x.length/\(∀j,j<i->x.getD j default=y.getD j default)) (fun i=>x.length-i) 0 (Bs G) (Ad 0 G (Ad 1 G Aa)) ⟨ABg _,fun j Ay=>absurd Ay (AB2 j)⟩ (Bs G) ?_;rintro i ⟨Ag,C0⟩;refine Am<|Ae<|U 2 G<|C2 0 G G ACi G fun TC=>U 1 G<|Ac<|B9 G (fun Fm=>?_) (fun Fm=>?_)
  ·
   refine AZ<|Am<|B5<|Am<|Gx mixed AGo<|U 2 G<|Fo 0 G G G Ky G fun KC=>Gi 0 G G (At G) G fun Qt Vr=>U 2 G<|Fo 3 G G G Ky G fun Pe=>Gi 0 G G (At G) G fun MJ PW=>Qo zi ((x.getD i default)) ((y.getD i default)) G G G<|Gj<|A5<|Fa G (fun Gr=>?_) (fun Gr=>?_)
   · exact AF 1 G<|rt<|C9<|Cd<|Cd<|C9<|Cd<|Bq () G G (by rw[W1 i (by simpa using Gr)]) G Aa
   ·
    refine EG<|CU<|A5<|rg<|An G G<|C5 G G BV G<|U 1 G<|nl ?_;exact Dy (i+1) ⟨AGn,(Ki C0 (by simpa using Gr))⟩ AGn (Bs G) G (BE [4,5] G)
  · exact ex<|Ck<|Ck<|D7<|A5<|AF 1 G<|rt<|Bq () G G (by rw[W0 AN (fun j Ay=>C0 j AGn)]) G Aa
theorem Ai9(I8:Value)(x:List AD)(I9:Value)(y:List AD):Cv AG 125 [I8,I9,.func (.func 126) #[] #[]] [⟨I8,x⟩,⟨I9,y⟩] (.bool (RK Xc x y)):=by
 refine Aw.proof Tryz.func125 G 30 G G fun X w=>HP (q:=x.length<=9223372036854775807) (fun S w h=>L1 (h _ (AA' (i:=0) G))) fun Wv=>HP (q:=y.length<=9223372036854775807) (fun S w h=>L1 (h _ (AA' (i:=1) G))) fun Ww=>AF 1 G<|Am<|Ae<|An G G<|C2 0 G G ABH G fun Sm=>An G G<|C2 1 G G ABH G fun e'=>U 1 G<|Ac<|Fa G (fun EM=>?_) (fun EM=>?_)
 · exact AF 1 G<|BA<|Bq () G G (by rw[wX AGn]) G Aa
 ·
  have AN:x.length=y.length:=AGn;refine AZ<|Am<|AF 1 G<|B5<|Ji (σ:=Nat) [(0,_),(1,_),(2,_)] _ (fun i C=>(7,.int .i64 (i:Int))::C) (fun i=>i<=x.length/\(∀j,j<i->Xc (x.getD j default) (y.getD j default)=true)) (fun i=>x.length-i) 0 (Bs G) (Ad 0 G (Ad 1 G Aa)) ⟨ABg _,fun j Ay=>absurd Ay (AB2 j)⟩ (Bs G) ?_;rintro i ⟨Ag,C0⟩;refine Am<|Ae<|U 2 G<|C2 0 G G ABH G fun qT=>U 1 G<|Ac<|B9 G (fun CR=>?_) (fun CR=>?_)
  ·
   refine AZ<|Am<|B5<|Am<|Ow 9 mixed AGo<|U 3 G<|Fo 0 G G G Gt G fun RB=>Gi 0 G G (At G) G fun AhM cY=>U 2 G<|Fo 4 G G G Gt G fun Pf=>Gi 0 G G (At G) G fun NX PX=>Oq<|QV (Ai7 _ _ _ _ cY PX) (Ar G) G G G (BE [4,1] G) G fun Apm Pg R2=>?_;subst R2;refine IH G G<|Ac<|BN G (fun G5=>?_) (fun G5=>?_)
   · exact AF 1 G<|rt<|C9<|Cd<|Cd<|C9<|Cd<|Bq () G G (by rw[wY i AGn (not_true G5)]) G Aa
   ·
    refine EG<|CU<|A5<|rg<|An G G<|C5 G G BV G<|U 1 G<|nl ?_;exact Dy (i+1) ⟨AGn,(Ki C0 (Aey G5))⟩ AGn (Bs G) G (BE [6,7] G)
  · exact ex<|Ck<|Ck<|D7<|A5<|AF 1 G<|rt<|Bq () G G (by rw[nc AN (fun j Ay=>C0 j AGn)]) G Aa
theorem wP(I8:Value)(x:List AD)(I9:Value)(y:List AD):Cv AG 45 [I8,I9] [⟨I8,x⟩,⟨I9,y⟩] (.bool (RK Xc x y)):=by
 exact Aw.proof Tryz.func45 G 8 G G fun X w=>AF 1 G<|Ae<|U 2 G<|B0 (Ai9 _ _ _ _) (Ar G) G (BE [0,1] G) G<|U 1 G<|Ac<|rt<|Bq () G G AGq G Aa
theorem Ai'(x:Bv)(KW uT uU uV uW uX:Value)(y:Bv)(dc vl vm vn vo vp:Value)(_:x.wf)(_:y.wf):Cv AG 15 [.agg (BY x KW uT uU uV uW uX).toArray,.agg (BY y dc vl vm vn vo vp).toArray] [⟨KW,x.Aj⟩,⟨uT,x.Bz⟩,⟨uU,x.AA⟩,⟨uV,x.Bj⟩,⟨uW,x.CX⟩,⟨uX,x.Cf⟩,⟨dc,y.Aj⟩,⟨vl,y.Bz⟩,⟨vm,y.AA⟩,⟨vn,y.Bj⟩,⟨vo,y.CX⟩,⟨vp,y.Cf⟩] (.bool (cA x y)):=by
 refine Aw.proof Tryz.func15 G 123 G G fun X w=>Ae<|CV G G G fun Dh=>CV G G G fun DQ=>U 1 G<|Ac<|Am<|Ae<|AX 3 [1] G G<|AX 3 [0] G G<|ET 10 6 [1,0] [2,3] G G G<|An G G<|DE 17 6 [2,3] G G (fun DA SU=>AX 4 [1,0] G G<|Bl G G G<|Aek ADM G G G<|U 1 G<|SU G Br)<|An G G<|ET 24 6 [1,0] [2,3] G G G<|An G G<|ET 31 6 [1,0] [2,3] G G G<|An G G<|ET 38 6 [1,0] [2,3] G G G<|An G G<|DE 45 7 [2,3] G G (fun EN g3=>AX 4 [1,0] G G<|Bl G G G<|B0 (wP _ _ _ _) (Ar G) G (BE [0,6] G) G<|U 2 G<|g3 G Br)<|An G G ?_;refine DE 53 7 [2,3] G G (fun AmW vY=>AX 4 [1,0] G G<|Bl G G G<|B0 (Ahw _ _ _ _) (Ar G) G (BE [1,7] G) G<|U 2 G<|vY G Br)<|An G G<|DE 61 7 [2,3] G G (fun Yf v5=>AX 4 [1,0] G G<|Bl G G G<|B0 (Ahx _ _ _ _) (Ar G) G (BE [2,8] G) G<|U 2 G<|v5 G Br)<|Ac<|BN G (fun R5=>?_) (fun R5=>?_)
 ·
  have hY:(cB x y)=true:=R5;exact AF 1 G<|BA<|AQ<|AQ<|Bq () G G (by rw[cA,hY];try rfl) G Aa
 ·
  have hY:(cB x y)=false:=R5;refine AZ<|Ae<|AX 4 [1,0] G G<|B0 (Ahs _ _ _ _) (Ar G) G (BE [3,9] G) G<|An G G<|D4 74 6 [2,3] G G (fun ew g8=>AX 4 [1,0] G G<|Bl G G G<|B0 (Ahu _ _ _ _) (Ar G) G (BE [4,10] G) G<|U 1 G<|g8 G Br)<|An G G<|D4 81 6 [2,3] G G (fun ez wa=>U 1 G<|Bl G G G<|BJ 1 (ED x.Bt) G G (At G) G G<|U 1 G<|Bl G G G<|BJ 0 (ED y.Bt) G G (At G) G G<|Bl G G G<|RU RV (x.Bt) (y.Bt) G G G<|U 1 G<|wa G Br)<|An G G<|D4 88 6 [2,3] G G (fun pe g'=>U 1 G<|Bl G G G<|BJ 1 (ED x.CW) G G (At G) G G<|U 1 G<|Bl G G G<|BJ 0 (ED y.CW) G G (At G) G G<|Bl G G G<|RU RV (x.CW) (y.CW) G G G<|U 1 G<|g' G Br)<|An G G<|D4 95 6 [2,3] G G (fun Yg ZD=>AX 4 [1,0] G G<|Bl G G G<|B0 (Ai_ _ _ _ _) (Ar G) G (BE [5,11] G) G<|U 1 G<|ZD G Br)<|An G G<|Fu 102 6 [1,0] [2,3] G G G<|An G G<|Fu 109 6 [1,0] [2,3] G G G<|An G G<|Fu 116 6 [1,0] [] G G G ?_;exact U 1 G<|Ac<|rt<|AQ<|AQ<|Bq () G G (by rw[cA,hY];try rfl) G Aa
theorem Aqx(a:AD)(Cw:Value)(_:a.wf)(Aq:a.A0.length<=1048576):Aw AG 103 [.agg (A3 a Cw).toArray] [] [⟨Cw,a.A0⟩] (fun(y:Value) u=>u=.agg (A3 a y).toArray) (fun _ _=>[]) (fun y _=>[⟨y,a.A0⟩]):=by
 refine Aw.proof Tryz.func103 G 8 G G fun X w=>Ae<|CV G G G fun CY=>CT Hd G fun Dh=>Ac<|Ae<|AX 2 [1] G G<|ApK BD 83<|ap 0 0 G G G G S1 (by simp only[ABo];omega) (by simp only[ABo];omega) G fun Mp=>JO<|U 1 G<|J2 1 0 G G G G (A2 G) (Da G)<|Ac<|Ae<|BJ 1 (A3 ((⟨a.Al,(⟨a.Cs.A6,a.Cs.Bc⟩:GC),a.BT,a.Cn,a.A0,(⟨a.BG.Ap,a.BG.As,a.BG.DH,a.BG.B2⟩:F_)⟩:AD)) Mp) G G (At G) G G<|Cp 0 G fun WV=>?_;exact BZ 0 (us:=(A3 ((⟨a.Al,(⟨a.Cs.A6,a.Cs.Bc⟩:GC),a.BT,a.Cn,a.A0,(⟨a.BG.Ap,a.BG.As,a.BG.DH,a.BG.B2⟩:F_)⟩:AD)) Mp)) G G G (At G) (by simp only[ABn,ABr,ABp,WV];rfl) G<|Ac<|rt<|D8 Mp [_,_] (Qv 0 G G G (At G)) AGq G (Ad 0 G Aa)
theorem Aqy(CP:Value)(l:List AD)(AN:l.length<=1048576)(Aq:∀j,(l.getD j default).A0.length<=1048576):Aw AG 30 [CP] [] [⟨CP,l⟩] (fun(_:Unit) _=>True) (fun _ _=>[]) (fun _ v=>[⟨v,l⟩]):=by
 refine Aw.proof Tryz.func30 G 20 G G fun X w=>AF 1 G<|AF 1 G<|Am<|AF 1 G<|B5<|Lk AD 73<|Hx (σ:=Nat×Value) [(0,_)] _ (fun s C=>(4,.int .i64 (s.1:Int))::(3,s.2)::C) (fun s=>[row 73 s.2 (l.take s.1),CL X w]) (fun _ Dw=>Dw) (fun s=>s.1<=l.length) (fun s=>l.length-s.1) (0,_) ⟨G,trivial⟩ (Ad 0 G Aa) (ABg _) (Bs G) G (Ad 0 G Aa) ?_;rintro⟨i,Fv⟩ Ag;simp only at Ag;show CF _ _ _ [(4,.int .i64 ((i:Int))),(3,_),(0,_)] [row 73 Fv (l.take i),CL X w] _;refine Am<|Ae<|U 2 G<|C2 0 G G ABH G fun MD=>U 1 G<|Ac<|B9 G (fun D2=>?_) (fun D2=>?_)
 ·
  refine AZ<|Am<|B5<|rg<|U 3 G<|Fo 0 G G G Gt G fun PS=>Gi 0 G G (At G) G fun KR N6=>Dm (Aqx _ _ N6 (Aq i)) (Ar G) G (Ad 1 G Aa) G fun Ui Mn CR=>?_;subst CR;refine Lw G OI G G G G fun nu=>?_;refine KJ (α:=AD) (l.getD i default) (fun S w h=>⟨Ui,G,fun t Av=>by
    simp only[ABf,ABh,ABi]at Av;subst Av
    · exact h _ (AA' (i:=0) G),N6⟩) ?_
  refine ap 0 0 G G G G OI (by have:=List.length_take_le i l;simp only[ABv,ABo];omega) (by have:=List.length_take_le i l;simp only[ABv,ABo];omega) G fun Zq=>U 1 G<|nl<|CU<|A5<|rg<|An G G<|C5 G G BV G<|U 1 G<|nl ?_;rw[ArE AGn];exact Dy ((i+1,Zq):Nat×Value) (by show i+1<=l.length;omega) (by show l.length-(i+1)<l.length-i;omega) (Bs G) G (Ad 5 G Aa)
 ·
  obtain rfl:i=l.length:=AGn;rw[ACB];exact ex<|Ck<|Ck<|D7<|A5<|AF 2 G<|rt<|K5<|Bq () G G trivial G (Ad 0 G Aa)
theorem ApC{n k:Nat}(h:n<=1048576)(AE:k<=1000000):(0+n)*k<=140737488355328:=by
 have:=Nat.mul_le_mul h AE;rw[AB0];omega
theorem ApD{n:Nat}(h:n<=1048576):0+n<=140737488355328:=AGn
theorem Aqz(S:Bv)(El EV D_ EA Em Eh:Value)(_:S.wf)(Aq:Ap2 S):Aw AG 12 [.agg (BY S El EV D_ EA Em Eh).toArray] [] [⟨El,S.Aj⟩,⟨EV,S.Bz⟩,⟨D_,S.AA⟩,⟨EA,S.Bj⟩,⟨Em,S.CX⟩,⟨Eh,S.Cf⟩] (fun(y:DL.H) u=>u=.agg (BY S (y.1) (y.2.1) (y.2.2.1) (y.2.2.2.1) (y.2.2.2.2.1) (y.2.2.2.2.2)).toArray) (fun _ _=>[]) (fun y _=>[⟨y.1,S.Aj⟩,⟨y.2.1,S.Bz⟩,⟨y.2.2.1,S.AA⟩,⟨y.2.2.2.1,S.Bj⟩,⟨y.2.2.2.2.1,S.CX⟩,⟨y.2.2.2.2.2,S.Cf⟩]):=by
 refine Aw.proof Tryz.func12 G 28 G G fun X w=>?_;obtain⟨je,R9,ApP,ApQ,aQ,ApR,ApS⟩:=Aq;refine Ae<|CV G G G fun CY=>CT LQ G fun Dh=>Ac<|Ae<|AX 2 [1] G G<|Dm (Aqy _ _ je R9) (Ar G) G (Ad 0 G Aa) G fun _ Mp _=>U 1 G<|J2 1 0 G G G G (A2 G) (Da G)<|Ac<|Ae<|AX 2 [1] G G<|ApK BL 54<|ap 0 2 G G G G QN (by first|exact ApC ApP AGp|exact ApD ApP) (by first|exact ApC ApP AGp|exact ApD ApP) G fun Nr=>JO<|U 1 G<|J2 1 0 G G G G (A2 G) (Da G)<|Ac<|Ae<|AX 2 [1] G G<|ApK BX 50<|ap 0 4 G G G G Mt (by first|exact ApC ApQ AGp|exact ApD ApQ) (by first|exact ApC ApQ AGp|exact ApD ApQ) G fun RA=>JO<|U 1 G<|J2 1 0 G G G G (A2 G) (Da G)<|Ac<|Ae<|AX 2 [1] G G<|ApK Bx 52<|ap 0 6 G G G G QQ (by first|exact ApC aQ AGp|exact ApD aQ) (by first|exact ApC aQ AGp|exact ApD aQ) G fun T6=>JO<|U 1 G<|J2 1 0 G G G G (A2 G) (Da G)<|Ac<|Ae<|AX 2 [1] G G<|ApK Df 125<|ap 0 8 G G G G RM (by first|exact ApC ApR AGp|exact ApD ApR) (by first|exact ApC ApR AGp|exact ApD ApR) G fun SB=>JO<|U 1 G<|J2 1 0 G G G G (A2 G) (Da G)<|Ac<|Ae<|AX 2 [1] G G<|ApK UInt8 5<|ap 0 10 G G G G QP (by first|exact ApC ApS AGp|exact ApD ApS) (by first|exact ApC ApS AGp|exact ApD ApS) G fun T7=>JO<|U 1 G<|J2 1 0 G G G G (A2 G) (Da G)<|Ac<|Ae ?_
 have Anj:=je;refine BJ 1 (BY ((⟨S.CZ,S.DX,S.Du,S.A6,S.Bc,S.Dn,S.Aj,S.Bz,S.AA,S.Bj,S.CX,(⟨S.Bt.Ev,S.Bt.Hi,S.Bt.IX,S.Bt.A6,S.Bt.Bc,S.Bt.Ap,S.Bt.As⟩:Fs),(⟨S.CW.Ev,S.CW.Hi,S.CW.IX,S.CW.A6,S.CW.Bc,S.CW.Ap,S.CW.As⟩:Fs),S.Cf,S.Jc,S.JL,S.GW⟩:Bv)) Mp Nr RA T6 SB T7) G G (At G) G G<|Cp 5 G fun WV=>?_;refine Cp 4 G fun Aq'=>?_;refine Cp 3 G fun Aq7=>?_;refine Cp 2 G fun Aq8=>?_;refine Cp 1 G fun Aq9=>?_;refine Cp 0 G fun Aq_=>?_;exact BZ 0 (us:=(BY ((⟨S.CZ,S.DX,S.Du,S.A6,S.Bc,S.Dn,S.Aj,S.Bz,S.AA,S.Bj,S.CX,(⟨S.Bt.Ev,S.Bt.Hi,S.Bt.IX,S.Bt.A6,S.Bt.Bc,S.Bt.Ap,S.Bt.As⟩:Fs),(⟨S.CW.Ev,S.CW.Hi,S.CW.IX,S.CW.A6,S.CW.Bc,S.CW.Ap,S.CW.As⟩:Fs),S.Cf,S.Jc,S.JL,S.GW⟩:Bv)) Mp Nr RA T6 SB T7)) G G G (At G) (by simp only[ABn,ABr,ABp,WV,Aq',Aq7,Aq8,Aq9,Aq_];rfl) G<|Ac<|rt<|D8 ⟨Mp,Nr,RA,T6,SB,T7⟩ [_,_] (Qv 0 G G G (At G)) AGq G (Ad 5 G (Ad 4 G (Ad 3 G (Ad 2 G (Ad 1 G (Ad 0 G Aa))))))
end Go.Apw
namespace Go.A_
open Go.RowKit
end Go.A_
namespace Go.Apw
theorem Ax2{n:Nat}{p q:Nat->Bool}(h:∀j,j<n->(∀k,k<j->q k=true)->p j=q j):allI n p=allI n q:=by
 rw[ACy,Nz,Nz];constructor
 · intro AH j;induction j using Nat.strongRecOn with
   |_ j Cg=>
    intro Ay;rw[<-h j Ay fun k AE=>Cg k AE AGn];exact AH j Ay
 · intro B' j Ay;rw[h j Ay fun k AE=>B' k AGn];exact B' j Ay
theorem Ax1{n:Nat}{p q:Nat->Bool}:(allI n p&&allI n q)=allI n (fun j=>p j&&q j):=by
 rw[ACy,ABb,Nz,Nz,Nz];constructor
 · rintro⟨Af,h2⟩ j Ay;rw[Af j Ay,h2 j Ay];rfl
 · intro h;exact⟨fun j Ay=>(ABb .. ▸h j Ay).1,fun j Ay=>(ABb .. ▸h j Ay).2⟩
theorem Ay1(p:Int)(m:BL):fk p m=AvT p m:=by
 unfold fk AvT;by_cases h:m.As<0
 · simp[h]
 · rw[show decide (m.As=0)=decide (m.As<1)from ACL.2 AGn]
theorem Ay2(l:List BL):Fg l=AvA l:=AvK fun j _=>by rw[Ay1]
theorem Axg{f:Nat->Int}:∀{j:Nat},(∀k,k<j->Nh f k<f k)->0<=Nh f j
 |0,_=>by simp[Nh]
 |j+1,h=>by
  have Cg:=Axg (f:=f) (j:=j) fun k AE=>h k AGn;have:=h j AGn;simp only[Nh];omega
theorem Ayo(l:List Df):HE l=Avx l:=Ax2 fun j Ay AE=>by
 have AH:0<=Nh (fun k=>(l.getD k default).Ap) j:=Axg fun k Anq=>by
  have:=AE k Anq;simp only[ABe,ABD,ABl]at this;omega
 rw[ACy];simp only[Jj,Au5,ABe,ABD,ABl,ABI,ABb,ABa];omega
theorem Ays(m t:Int):JN m t=Au' m t:=by
 unfold JN Au';by_cases Af:m=1<;>by_cases h2:t=1<;>by_cases Bo:m=2<;>by_cases BB:t=2<;>simp_all
theorem Ayf(d:Bx):M1 d=Ave d:=by
 unfold M1 Ave;rw[Ays];have key:(V2 d||ae d)=Avm d:=by
  rw[ACy];by_cases AE:d.Al=d.EL
  · simp[V2,Avm,AE]
  · simp only[V2,ae,Avm,Ix,Jj,Avp,Au5,AE,decide_false,Bool.or_false,ABk,ABe,ACu,ABa,ABl];omega
 rw[<-key];cases V2 d<;>cases ae d<;>rfl
theorem Aye(l:List Bx):Is l=Avi l:=by
 unfold Is Avi AvL;by_cases h:(l.length:Int)>4
 · rw[AA_ (ABG h),ABM (show ¬(l.length:Int)<=4 by omega),Bool.and_false]
 · rw[AA9 (by simpa using h),ABG (show(l.length:Int)<=4 by omega),ABp];exact AvK fun j _=>by unfold ab;rw[Ayf]
theorem AAl(s:Bv)(w:BX):Zx s w=AvI s w:=by
 unfold Zx AvI;rw[show Jj w.Ap w.As=(Avp w.Ap&&Au5 w.As)by simp only[Jj,Avp,Au5,ACY],Bool.not_and]
theorem AAm(s:Bv)(w:BX):Mr s w=Au8 s w:=by
 unfold Mr Au8;rw[AAl,show Xv w=AwF w by unfold Xv AwF;rw[Bool.and_assoc (decide _&&_),Bool.and_assoc (decide _&&_),Bool.and_comm (!decide _)]];rfl
theorem Axf(p:Fs):LK p=Avq p:=by
 unfold LK Avq AuX;rw[show(decide (p.Ev>=1)&&decide (p.Ev<=EW))=(decide (p.Ev>=0)&&decide (p.Ev<=EW)&&decide (p.Ev>0))by
  rw[ACy];simp only[ABb,ABa];omega]
theorem jS(k:ByteArray):isNil k=decide ((k.size:Int)<1):=by
 unfold isNil;refine ACL.2 ⟨fun h=>by rw[h];decide,fun h=>?_⟩;have Bw:k.size=0:=AGn;rcases k with⟨a⟩;have:a.size=0:=Bw;rw[Array.size_eq_zero_iff]at this;rw[this];rfl
theorem Azw(s:Bv):YZ s= !Avf s:=by
 unfold YZ Avf isNil;cases s.Du with
 |false=>
  rw[show decide ((s.Aj.length:Int)=0)= !decide ((s.Aj.length:Int)>0)by rw[<-decide_not];exact ACL.2 AGn,
   show decide ((s.AA.length:Int)=0)= !decide ((s.AA.length:Int)>0)by rw[<-decide_not];exact ACL.2 AGn]
  simp[ACY]
 |true=>
  rw[show decide (s.Dn>=1)= !decide (s.Dn<1)by rw[<-decide_not];exact ACL.2 AGn];simp
theorem Aya(a b c d e:Int):X1 [a,b,c,d,e]=(AuX a&&AuX b&&AuX c&&AuX d&&AuX e):=by
 rw[ACy];unfold X1;rw[Nz];simp only[AuX,ABb,ABa,ABv,ABo,ABe,ABD,ABl];constructor
 · intro h;have Bw:=h 0 AGn;have Af:=h 1 AGn;have h2:=h 2 AGn;have Bo:=h 3 AGn;have BB:=h 4 AGn;simp only[AC7,ADb]at Bw Af h2 Bo BB;omega
 · intro h j Ay
   match j,Ay with
   |0,_=>simp only[AC7];omega
   |1,_=>simp only[AC7,ADb];omega
   |2,_=>simp only[AC7,ADb];omega
   |3,_=>simp only[AC7,ADb];omega
   |4,_=>simp only[AC7,ADb];omega
theorem l2:∀{l:List Int},(∀x∈l,0<=x)->0<=l.sum
 |[],_=>by simp
 |x::r,h=>by
  have Cg:=l2 (l:=r) fun y Bf=>h y (ABR _ Bf);have:=h x (ABx ..);simp only[List.sum_cons];omega
theorem pY{l:List BD}(hh:LI l=true){x:BD}(Ab:x∈l):0<=x.DV/\0<=x.Fc:=by
 obtain⟨i,Ag,rfl⟩:=List.getElem_of_mem Ab;have:=Wy hh Ag;rw[G3 Ag]at this;exact⟨this.2.2.2.1,this.2.2.2.2⟩
theorem cR{a:AD}(hh:LI a.A0=true):a.BT<=I7 a:=by
 unfold I7;have:=l2 (l:=a.A0.map (·.DV)) fun x Ab=>by
  obtain⟨y,Bf,rfl⟩:=AB6.1 Ab;exact(pY hh Bf).1
 omega
theorem ag{a:AD}(hh:LI a.A0=true):IU a<=a.BT:=by
 unfold IU;have:=l2 (l:=a.A0.map (·.Fc)) fun x Ab=>by
  obtain⟨y,Bf,rfl⟩:=AB6.1 Ab;exact(pY hh Bf).2
 omega
theorem Vn{x:Int}(h:J3 x=true):Lo x=x/\No x=0:=by unfold Lo No;rw[if_pos h,if_pos h];exact⟨rfl,rfl⟩
theorem tL{x:Int}(h:J3 x=false):Lo x=0/\No x=10:=by unfold Lo No;rw[h];exact⟨rfl,rfl⟩
theorem AxV{a:AD}(hw:a.wf)(hh:LI a.A0=true):XQ a=AvF a:=by
 have Af:=cR hh;have h2:=ag hh;obtain⟨jD,jE⟩:=hw.2.1;obtain⟨Om,Sl⟩:=jD;obtain⟨Zp,mg⟩:=jE;obtain⟨CY,Dh⟩:=hw.2.2.1;have AJ:decide ((wide (IU a-a.Cs.A6)).Bc<0)=decide (IU a<a.Cs.A6):=ACL.2 (by
  show(IU a-a.Cs.A6) / 18446744073709551616<0↔_;omega)
 have hu:Av3 (I7 a) a.Cs.Bc=decide (I7 a>a.Cs.Bc):=ACL.2 AGn;unfold XQ AvF;rw[AJ,hu];cases B4:J3 (I7 a)with
 |true=>
  rw[(Vn B4).1,(Vn B4).2];cases DC:J3 (IU a)with
  |true=>rw[(Vn DC).1,(Vn DC).2];simp
  |false=>
   rw[(tL DC).1,(tL DC).2];have:IU a<a.Cs.A6:=by
    simp only[J3,ACu,ABl]at DC;omega
   simp[this]
 |false=>
  rw[(tL B4).1,(tL B4).2];have:I7 a>a.Cs.Bc:=by
   simp only[J3,ACu,ABl]at B4;omega
  simp[this]
theorem Ayu{a:AD}:(J3 (a.BT+a.BG.B2)&&Awh a)=UJ a a.BG:=by
 unfold UJ Awh;cases e:J3 (a.BT+a.BG.B2)with
 |true=>
  rw[(Vn e).1,(Vn e).2];have:IntKind.i64.wrap ((a.BT+a.BG.B2) % 18446744073709551616)=a.BT+a.BG.B2:=by
   rw[mC];simp only[J3,ABb,ABa]at e;omega
  rw[this];simp
 |false=>rw[(tL e).1,(tL e).2];simp
theorem AwL(a:AD):VO a=(Avg a|| !LI a.A0):=by
 unfold VO Avg Ix;rw[show(decide ((a.Al.size:Int)<1)||decide ((a.Al.size:Int)>16))= !(decide ((a.Al.size:Int)>=1)&&decide ((a.Al.size:Int)<=16))by
  rw[ACy];simp only[ABk,ABe,ACu,ABa,ABl];omega]
theorem AxX{a:AD}(hw:a.wf):E4 a=Au6 a:=by
 unfold E4 Au6;rw[AwL];cases Avg a with
 |true=>rfl
 |false=>
  cases hh:LI a.A0 with
  |false=>rfl
  |true=>
   simp only[Bool.not_true,Bool.or_false,ADJ,if_false,if_true];rw[AxV hw hh,ACY _ (J3 _),Ayu]
theorem AxY{a:AD}(h:E4 a=true):Ix a.Al=true/\(a.BG.Ap=0->a.BG=⟨0,0,0,0⟩):=by
 unfold E4 at h;split at h
 · cases h
 · rename_i Af;rw[AwL]at Af;simp only[ABk,ABN,Avg,ABe,AB_]at Af;refine⟨Af.1.1.1,fun Bm=>?_⟩;split at h
   · cases h
   · rw[AA_ (ABG Bm)]at h;exact ABA h
theorem AzB{a:AD}(h:E4 a=true):FT a=AvC a:=by
 obtain⟨AE,AN⟩:=AxY h;unfold FT AvC Xc Sq kd G_;rw[h,AE];simp only[if_true,decide_true,Bool.true_and,ADu];rw[show decide (a.A0=[])=decide ((a.A0.length:Int)=0)from ACL.2 (by
  rw[<-ADd];omega)]
 rw[show decide (a.BG=⟨0,0,0,0⟩)=decide (a.BG.Ap=0)from ACL.2 ⟨fun e=>by rw[e],AN⟩];cases decide (a.Cs=⟨0,0⟩)<;>cases decide (a.BT=0)<;>cases decide ((a.A0.length:Int)=0)<;>cases decide (a.Cn=0)<;>cases decide (a.BG.Ap=0)<;>rfl
theorem AxZ{s:Bv}(hw:∀a∈s.Aj,a.wf):VP s=(Au3 s.Aj&&Ava s):=by
 unfold VP Au3 Ava;by_cases h:(s.Aj.length:Int)>12
 · rw[AA_ (ABG h),ABM (show ¬(s.Aj.length:Int)<=12 by omega)];split<;>rfl
 · rw[AA9 (by simpa using h),ABG (show(s.Aj.length:Int)<=12 by omega)];have e:∀b:Bool,(if b=true then true else false)=b:=fun b=>by cases b<;>rfl
   rw[e,Ax1];refine AvK fun j Ay=>?_;have hm:=hw _ (Hl (l:=s.Aj) Ay);unfold dv AwC;rw[aA,<-AxX hm];cases AK:E4 (s.Aj.getD j default)with
   |false=>rfl
   |true=>
    rw[AzB AK];cases AvC (s.Aj.getD j default)<;>cases F' s (s.Aj.getD j default).Al<;>simp
theorem Axp{s:Bv}(hw:∀a∈s.Aj,a.wf):LN s=AuY s:=by
 unfold LN AuY;have Af:Zj s=(Avr s||Avf s|| !(Au3 s.Aj&&Ava s)):=by
  unfold Zj Avr;rw[Aya,Azw,AxZ hw];simp only[Bool.not_and,ADu,Bool.or_assoc]
 have h2:(Zk s|| !Au3 s.Aj)=AvD s:=by
  unfold Zk AvD;rw[aA,aA,aA,Ay2,Aye,Ayo];cases Au3 s.Aj<;>simp
 have Bo:Xe s=AvE s:=by unfold Xe AvE;rw[Axf]
 have BB:gm s=Avt s:=by unfold gm Avt;exact AvK fun j _=>AAm _ _
 have C':lW s=Awv s:=by
  unfold lW Awv;rw[Axf];cases Avq s.CW<;>cases decide (s.CW.Hi=s.CZ)<;>cases decide ((Er s.Cf).2=0)<;>rfl
 rw[Af,Bo,BB,C',<-h2];cases Avr s<;>cases Avf s<;>cases Au3 s.Aj<;>cases Ava s<;>cases Zk s<;>cases Avt s<;>rfl
theorem rP(k:ByteArray):Ix k= !(isNil k||decide ((k.size:Int)>16)):=by
 rw[jS];unfold Ix;rw[ACy];simp only[ABb,ABa,ABe,ABD,ABl];omega
theorem n0(Bk:Value)(l:List BL)(hlen:l.length<=100000):Aw AG 73 [Bk] [] [⟨Bk,l⟩] (fun(_:Unit) _=>True) (fun _ v=>[]) (fun _ v=>[⟨v,l⟩]):=by
 refine Aw.proof Tryz.func73 G 8 G G fun X w=>AF 1 G<|Am<|Ae<|An G G<|RT 0 ACh G G G G fun PM J'=>Ac<|BN G (fun BB=>?_) (fun BB=>?_)
 ·
  have Ab:l=[]:=J' BB;subst Ab;exact DJ (α:=BL)<|AF 1 G<|BA<|Bq () G G trivial G (Ad 0 G Aa)
 · exact AZ<|Ae<|NB QN G fun E'=>Nm (α:=BL) [] [] G G (fun _ _ _=>trivial) G<|An G G<|ap 0 0 G G G G QN (by simp only[ABo];omega) (by simp only[ABo];omega) G fun EZ=>U 1 G<|Ac<|rt<|K5<|Bq () G G trivial G (Ad 0 G Aa)
theorem hI(Bk:Value)(l:List Bx)(hlen:l.length<=100000):Aw AG 75 [Bk] [] [⟨Bk,l⟩] (fun(_:Unit) _=>True) (fun _ v=>[]) (fun _ v=>[⟨v,l⟩]):=by
 refine Aw.proof Tryz.func75 G 8 G G fun X w=>AF 1 G<|Am<|Ae<|An G G<|RT 0 ACa G G G G fun PM J'=>Ac<|BN G (fun BB=>?_) (fun BB=>?_)
 ·
  have Ab:l=[]:=J' BB;subst Ab;exact DJ (α:=Bx)<|AF 1 G<|BA<|Bq () G G trivial G (Ad 0 G Aa)
 · exact AZ<|Ae<|NB QQ G fun E'=>Nm (α:=Bx) [] [] G G (fun _ _ _=>trivial) G<|An G G<|ap 0 0 G G G G QQ (by simp only[ABo];omega) (by simp only[ABo];omega) G fun EZ=>U 1 G<|Ac<|rt<|K5<|Bq () G G trivial G (Ad 0 G Aa)
theorem hJ(Bk:Value)(l:List Df)(hlen:l.length<=100000):Aw AG 76 [Bk] [] [⟨Bk,l⟩] (fun(_:Unit) _=>True) (fun _ v=>[]) (fun _ v=>[⟨v,l⟩]):=by
 refine Aw.proof Tryz.func76 G 8 G G fun X w=>AF 1 G<|Am<|Ae<|An G G<|RT 0 ACi G G G G fun PM J'=>Ac<|BN G (fun BB=>?_) (fun BB=>?_)
 ·
  have Ab:l=[]:=J' BB;subst Ab;exact DJ (α:=Df)<|AF 1 G<|BA<|Bq () G G trivial G (Ad 0 G Aa)
 · exact AZ<|Ae<|NB RM G fun E'=>Nm (α:=Df) [] [] G G (fun _ _ _=>trivial) G<|An G G<|ap 0 0 G G G G RM (by simp only[ABo];omega) (by simp only[ABo];omega) G fun EZ=>U 1 G<|Ac<|rt<|K5<|Bq () G G trivial G (Ad 0 G Aa)
end Go.Apw
