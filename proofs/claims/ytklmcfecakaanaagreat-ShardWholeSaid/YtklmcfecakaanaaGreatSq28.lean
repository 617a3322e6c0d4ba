/- The law ShardWhole holds of every input: transfers between two shards, whatever is brought in whatever order, late, again, or given up; at each moment all counters together are what they were, each within its bounds, and once each fate was brought no account is locked. No condition. -/
import Derived.Test.YtklmcfecakaanaaGreatSq27

set_option maxRecDepth 20000
set_option maxHeartbeats 1000000
open Go.Proofs.Tryz renaming underlying22→ABH,underlying30→ARU,underlying63→ARP
open List renaming length_cons→ABv,length_nil→ABo
open Go.A_ Go.Proofs.YtklmcfecakaanaaGreat Go.Proofs
namespace Go.Apw
def AHG(l:List AD):Bv:={F8 1 with Bc:=⟨#[109]⟩,Aj:=l}
def Fsb(l:List AD):Bv:={F8 2 with Du:=true,A6:=⟨#[109]⟩,Dn:=1,Aj:=l}
def AI8:ByteArray:=⟨#[97,98,99,109,110,111]⟩
def AHn(l:List Int)(i:Nat):AD:=⟨AI8.extract i (i+1),⟨0,20⟩,AGX l i,0,[],XG⟩
def AHV(l:List Int):List AD:=AHX 0 (AGX l 0) (AGX l 1) (AGX l 2)
def AHW(l:List Int):List AD:=AHX 1 (AGX l 3) (AGX l 4) (AGX l 5)
theorem AMW(l:List Int){i:Nat}(h:i<6):(AHn l i).wf:=by
 have z:A' 0:=⟨ARp,ARp⟩;obtain⟨a,b⟩:=AHx l i;refine⟨?_,⟨z,⟨by show _<=(20:Int);decide,by show(20:Int)<=_;decide⟩⟩,⟨by show _<=AGX l i;omega,by show AGX l i<=_;omega⟩,z,trivial,z,z,z,z⟩;have:i=0\/i=1\/i=2\/i=3\/i=4\/i=5:=AMT;show(AI8.extract i (i+1)).size<=_;rcases this with rfl|rfl|rfl|rfl|rfl|rfl<;>decide
theorem AOz:(F8 1).wf:=Aeq ⟨ARp,ARp⟩
theorem AOA:(F8 2).wf:=Aeq ⟨ARp,ARp⟩
theorem APm(l:List AD):(AHG l).wf:=by
 obtain⟨a,b,c,d,e,f,g⟩:=AOz;exact⟨a,b,c,d,by show(ByteArray.mk #[109]).size<=_;decide,f,trivial,g.2⟩
theorem APn(l:List AD):(Fsb l).wf:=by
 obtain⟨a,b,c,d,e,f,g⟩:=AOA;exact⟨a,b,trivial,by show(ByteArray.mk #[109]).size<=_;decide,e,(show A' 1 from⟨ARp,ARp⟩),trivial,g.2⟩
theorem ALZ{i:Nat}(h:i<6):AI8.extract i (i+1)=AGC (if i<3 then 0 else 1) ((i % 3:Nat):Int):=by
 have:i=0\/i=1\/i=2\/i=3\/i=4\/i=5:=AMT;rcases this with rfl|rfl|rfl|rfl|rfl|rfl<;>decide
theorem AK6{l:List Int}{i:Nat}(h:i<3):(AHV l).take i++[AHn l i]=(AHV l).take (i+1)/\(AHW l).take (i-3)=(AHW l).take (i+1-3):=by
 have:i=0\/i=1\/i=2:=AMT;unfold AHn;rw[ALZ AMT,AA_ h];rcases this with rfl|rfl|rfl
 · exact⟨G,G⟩
 · exact⟨G,G⟩
 exact⟨G,G⟩
theorem AK7{l:List Int}{i:Nat}(h:¬i<3)(F4:i<6):(AHV l).take i=(AHV l).take (i+1)/\(AHW l).take (i-3)++[AHn l i]=(AHW l).take (i+1-3):=by
 have:i=3\/i=4\/i=5:=AMT;unfold AHn;rw[ALZ AMT,AA9 h];rcases this with rfl|rfl|rfl
 · exact⟨G,G⟩
 · exact⟨G,G⟩
 exact⟨G,G⟩
theorem AM3{l:List Int}{i:Nat}(h:i<l.length):AGX l i=KP (l.getD i 0) 21:=AA_ h
theorem AM2{l:List Int}{i:Nat}(h:¬i<l.length):AGX l i=5:=AA9 h
section
variable{c:Cj} {ops:Array Oper} {Q:AuE} {env:Env} {L L':Go.A_.Own} {D:List Atom}
theorem ANh{x:Code}(h:L=L')(k:CF c x Q env L' D):CF c x Q env L D:=h▸k
end
end Go.Apw
namespace Go.A_
section
variable{c:Cj} {ops:Array Oper} {J:Cj->Array Oper->List Oper->Env->Own->List Atom->Prop} [Dr:Ip J] {env:Env} {L:Own} {D:List Atom} {rest:List Oper} {d:Nat} {t:TypeId} {p:String} {af:Array Edge} {x:Operand} {T:TypeId}
include Dr
theorem APc{s u:ByteArray}{BQ Ag:Operand}{l h:Nat}(Ab:AL env x=some (.string s))(Av:c.P.underlying T=some .string)(B4:AL env BQ=some (.int .i64 (l:Int)))(DC:AL env Ag=some (.int .i64 (h:Int)))(Af:l<=h)(Bo:h<=s.size)(hu:s.extract l h=u)(Ao:Nat.blt d c.n=true)
 (k:J c ops rest ((d,.string u)::env) L D):J c ops (⟨some d,.slice T x (some BQ) (some Ag) none,t,p,af,none⟩::rest) env L D:=
 pu rfl rfl Ao (fun a w f=>by
  subst hu;have Dh:(0:Int)<=h/\(h:Int)<=(s.size:Int):=AMT;have DQ:(0:Int)<=l/\(l:Int)<=(h:Int):=AMT;simp[execOp,f.AL Ab,f.AL B4,f.AL DC,Instr.sliceAt,ABQ Av,Instr.slice,Instr.sliceBounds,Instr.sliceBound,asIntOf,Dh,DQ,Af,Bo]) k
end
end Go.A_
namespace Go.Apw
theorem APf:Cv AG 8 [.int .i64 1] [] (.tuple #[.agg (BY (F8 1) AI AI AI AI AI AI).toArray,ALu]):=AjF 1 ⟨ARp,ARp⟩
theorem APg:Cv AG 8 [.int .i64 2] [] (.tuple #[.agg (BY (F8 2) AI AI AI AI AI AI).toArray,ALu]):=AjF 2 ⟨ARp,ARp⟩
theorem AM7(CP:Value)(l:List Int):Aw AG 4 [CP] [] [⟨CP,l⟩] (fun(y:Nat×List Nat) u=>u=.tuple #[ALM y.1 0,.bool true]) (fun y _=>[AG_ y.1 y.2 (AHy l)]) (fun _ _=>[]):=by
 refine Aw.proof Tryz.func4 G 77 G G fun X w=>Lk BL 130<|RY<|Lk BX 108<|RY<|Lk Bx 67<|RY<|Lk Df 125<|RY<|Lk UInt8 5<|RY<|Ae<|U 1 G<|U 1 G<|Ac<|Ae<|B0 (APf) (Ar G) G Aa G<|U 3 G<|CT LQ G fun En=>BZ 0 (us:=(BY ((F8 1)) AI AI AI AI AI AI)) G G G (At G) G G<|U 1 G<|Ac<|Ae<|B0 (APg) (Ar G) G Aa G<|U 3 G<|CT LQ G fun Hg=>BZ 0 (us:=(BY ((F8 2)) AI AI AI AI AI AI)) G G G (At G) G G<|U 1 G<|Ac<|Am<|Ae<|U 3 G<|ET 23 3 [] [0,4,6] G G G<|Ac<|BN G (fun JR=>?_) (fun JR=>?_)
 ·
  exfalso;simp at JR --#done
 refine AZ<|Ae<|U 1 G<|Fi 1 G G G (A2 G) G (Da G)<|Ac<|Ae<|U 1 G<|Fi 0 G G G (A2 G) G (Da G)<|U 1 G<|Fi 0 G G G (A2 G) G (Da G)<|U 1 G<|Fi 0 G G G (A2 G) G (Da G)<|Ac<|Am<|ANh (L':=[AO Hg 45 (BY (Fsb []) AI AI AI AI AI AI),AO En 45 (BY (AHG []) AI AI AI AI AI AI),CL X w]) G<|rg<|BJ 1 (BY ((AHG [])) AI AI AI AI AI AI) G G (At G) G G<|BJ 0 (BY ((Fsb [])) AI AI AI AI AI AI) G G (At G) G G<|Db (ps:=[(0,_),(1,_)]) (cs:=BY (AHG []) AI AI AI AI AI AI++BY (Fsb []) AI AI AI AI AI AI) ARz ARs G<|Db (ps:=[(0,_)]) (cs:=AGr (AHG []) AI AI AI AI AI AI (Fsb []) AI AI AI AI AI AI AI 0 0 false false) ARz ARs G<|CV (cs:=AGr (AHG []) AI AI AI AI AI AI (Fsb []) AI AI AI AI AI AI AI 0 0 false false) G G G fun xm=>ApK AGL 81<|ApK AD 58<|ApK AD 58<|U 1 G<|Ac<|Am<|AF 1 G<|B5<|B8 4 G<|ALr<|B8 4 G<|ALr<|B8 2 G<|B8 2 G<|B8 2 G<|B8 3 G<|Hx (σ:=Nat×Value×Value) [(0,_)] _ (fun s C=>(8,ALM xm 0)::(9,.int .i64 (s.1:Int))::C) (fun s=>[AO xm 51 (AGr (AHG []) s.2.1 AI AI AI AI AI (Fsb []) s.2.2 AI AI AI AI AI AI 0 0 false false),@row AD GR 58 s.2.1 ((AHV l).take s.1),@row AD GR 58 s.2.2 ((AHW l).take (s.1-3)),@row AGL AH3 81 AI [],CL X w]) (fun _ Dw=>Dw) (fun s=>s.1<=6) (fun s=>6-s.1) ⟨0,AI,AI⟩ ⟨G,trivial⟩ (Ad 0 G (Ad 1 G (Ad 2 G (Ad 3 G (Ad 4 G (Ad 5 G Aa)))))) (by show 0<=6;omega) (Bs G) G (Ad 0 G (Ad 1 G (Ad 2 G (Ad 3 G (Ad 4 G (Ad 5 G Aa)))))) ?_;rintro⟨i,NY,MK⟩ Ag;simp only at Ag;show CF _ _ _ [(8,ALM xm 0),(9,.int .i64 ((i:Int))),(0,_)] [AO xm 51 (AGr (AHG []) NY AI AI AI AI AI (Fsb []) MK AI AI AI AI AI AI 0 0 false false),@row AD GR 58 NY ((AHV l).take i),@row AD GR 58 MK ((AHW l).take (i-3)),@row AGL AH3 81 AI [],CL X w] _;refine Am<|AF 2 G<|B9 G (fun M5=>?_) (fun M5=>?_)
 ·
  have F4:i<6:=AMT;have AMK:=AMW l F4;refine AZ<|Am<|B5<|Ae<|U 2 G<|C5 G G BV G<|APc (s:=AI8) (l:=i) (h:=i+1) (u:=AI8.extract i (i+1)) G Tryz.underlying9 G G AMT (by show i+1<=6;omega) G G<|U 1 G<|Ac<|AF 1 G<|Am<|Ae<|U 2 G<|C2 5 G G ABH G fun AQu=>U 1 G<|Ac<|qA (σ:=Int) [(0,_),(8,_),(9,_),(10,_)] _ (fun s C=>(11,.int .i64 s)::C) (fun s=>[AO xm 51 (AGr (AHG []) NY AI AI AI AI AI (Fsb []) MK AI AI AI AI AI AI 0 0 false false),row 58 NY ((AHV l).take i),row 58 MK ((AHW l).take (i-3)),row 81 AI ([]:List AGL),CL X w]) (fun s=>s=AGX l i) (Bs G) (Ad 0 G (Ad 1 G (Ad 2 G (Ad 3 G (Ad 4 G (Ad 5 G Aa)))))) ?_ ?_
  ·
   refine B9 G (fun Wg=>?_) (fun Wg=>?_)
   ·
    refine rg<|U 2 G<|Fo 5 G G G tp G fun uf=>CQ 0 G G (A2 G) G fun Ao_=>F0 ABc ARP G (r:=IntKind.u64.wrap (l.getD i 0)) G G<|k' G G ARp (r:=KP (l.getD i 0) 21) G G ?_;obtain⟨AQA,AQB⟩:=j_ (l.getD i 0) (k:=21) ARp;exact F0 ARP ABc G (Uf ⟨AMT,AMT⟩) G<|U 1 G<|nl<|e9 (KP (l.getD i 0) 21) (AM3 (by simpa using Wg)).symm (Bs G) G (Ad 1 G (Ad 2 G (Ad 3 G (Ad 4 G (Ad 5 G (Ad 6 G Aa))))))
   exact EG<|e9 5 (AM2 (by simpa using Wg)).symm (Bs G) G (Ad 0 G (Ad 1 G (Ad 2 G (Ad 3 G (Ad 4 G (Ad 5 G Aa))))))
  rintro _ rfl;show Eg _ _ _ [(11,.int .i64 ((AGX l i))),(0,_),(8,_),(9,_),(10,_)] [AO xm 51 (AGr (AHG []) NY AI AI AI AI AI (Fsb []) MK AI AI AI AI AI AI 0 0 false false),row 58 NY ((AHV l).take i),row 58 MK ((AHW l).take (i-3)),row 81 AI ([]:List AGL),CL X w] _;refine A5<|Ae<|An G G<|Axj G G ARp (r:=((i / 3:Nat):Int)) (by rw[show((i:Int)).tdiv 3=((i / 3:Nat):Int)from(Int.ofNat_tdiv i 3).symm];exact Uf ⟨AMT,AMT⟩) G<|U 1 G<|Ac ?_;by_cases AE:i<3
  ·
   refine AuG [] [(0,[(19,.f1 14 fun BM=>[AO xm 51 (AGr (AHG []) (BM 0) AI AI AI AI AI (Fsb []) MK AI AI AI AI AI AI 0 0 false false)])]),(1,[(14,.f1 14 fun BM=>[row 58 (BM 0) (((AHV l).take i)++[(AHn l i)])])])] [(6,DF [] (ALM xm 0)),(10,DF [] (.agg (Od ((⟨0,20⟩:GC))).toArray)),(12,DF [] (.agg (A3 ((AHn l i)) AI).toArray)),(13,Ff [] (fun A4=>some (A4 0)) fun A4=>[⟨(A4 0),[(AHn l i)]⟩]),(14,Ol [1] fun A4=>some ((A4 0))),(17,DF [] (ALM xm 0)),(19,DF [0,1] undef)] [(8,0)] [0,8,9] (fun _=>G) (fun _=>G) (fun Ai AV Az=>⟨fun _=>AGD (k:=0) G G AGW AMT ARp G<|BU [] [] 0 G G,fun _=>Db (ps:=[(0,.const (.int .i64 0)),(1,.const (.int .i64 20))]) (cs:=(Od ((⟨0,20⟩:GC)))) ARz ARs G<|BU [] [] 0 G G,fun _=>Db (ps:=[(0,_),(1,_),(2,_)]) (cs:=A3 (AHn l i) AI) ARz ARs G<|BU [] [] 0 G G,fun _=>?_,fun _=>?_,fun _=>AGD (k:=0) G G AGW AMT ARp G<|BU [] [] 1 G G,fun _=>IL 0 1 G G G G (A2 G) (Da G)<|BU [] [] 1 G G,trivial⟩) fun Ai _=>?_
   ·
    refine Lw G OI G G G G fun AM1=>?_;refine KJ (α:=AD) (AHn l i) (fun S w h=>⟨AI,G,fun t Av=>by
      simp only[ABf,ABh,ABi]at Av;subst Av;exact ke S w,AMK⟩) ?_
    exact BU [_] [0] 1 G G
   · exact ap 0 0 G G G G OI (by simp only[ABv,ABo,ABz];omega) (by simp only[ABv,ABo,ABz];omega) G fun AoQ=>BU [AoQ] [] 1 G G
   generalize Ai 13 0=me,Ai 14 0=PS;refine CU<|A5<|rg<|An G G<|C5 G G BV G<|U 1 G<|nl ?_;exact Dy ⟨i+1,PS,MK⟩ (by show i+1<=6;omega) (by show 6-(i+1)<6-i;omega) (Bs G) (by rw[(AK6 AE).1,(AK6 AE).2]) (BE [1,2,3,4,5,6] G)
  refine AuG [] [(0,[(19,.f1 14 fun BM=>[AO xm 51 (AGr (AHG []) NY AI AI AI AI AI (Fsb []) (BM 0) AI AI AI AI AI AI 0 0 false false)])]),(2,[(14,.f1 14 fun BM=>[row 58 (BM 0) (((AHW l).take (i-3))++[(AHn l i)])])])] [(6,DF [] (ALM xm 29)),(10,DF [] (.agg (Od ((⟨0,20⟩:GC))).toArray)),(12,DF [] (.agg (A3 ((AHn l i)) AI).toArray)),(13,Ff [] (fun A4=>some (A4 0)) fun A4=>[⟨(A4 0),[(AHn l i)]⟩]),(14,Ol [2] fun A4=>some ((A4 0))),(17,DF [] (ALM xm 29)),(19,DF [0,2] undef)] [(8,0)] [0,8,9] (fun _=>G) (fun _=>G) (fun Ai AV Az=>⟨fun _=>AGD (k:=1) G G AGW AMT ARp G<|BU [] [] 0 G G,fun _=>Db (ps:=[(0,.const (.int .i64 0)),(1,.const (.int .i64 20))]) (cs:=(Od ((⟨0,20⟩:GC)))) ARz ARs G<|BU [] [] 0 G G,fun _=>Db (ps:=[(0,_),(1,_),(2,_)]) (cs:=A3 (AHn l i) AI) ARz ARs G<|BU [] [] 0 G G,fun _=>?_,fun _=>?_,fun _=>AGD (k:=1) G G AGW AMT ARp G<|BU [] [] 1 G G,fun _=>IL 0 1 G G G G (A2 G) (Da G)<|BU [] [] 1 G G,trivial⟩) fun Ai _=>?_
  ·
   refine Lw G OI G G G G fun AM1=>?_;refine KJ (α:=AD) (AHn l i) (fun S w h=>⟨AI,G,fun t Av=>by
     simp only[ABf,ABh,ABi]at Av;subst Av;exact ke S w,AMK⟩) ?_
   exact BU [_] [0] 1 G G
  · exact ap 0 0 G G G G OI (by simp only[ABv,ABo,ABz];omega) (by simp only[ABv,ABo,ABz];omega) G fun AoQ=>BU [AoQ] [] 1 G G
  generalize Ai 13 0=me,Ai 14 0=PS;refine CU<|A5<|rg<|An G G<|C5 G G BV G<|U 1 G<|nl ?_;exact Dy ⟨i+1,NY,PS⟩ (by show i+1<=6;omega) (by show 6-(i+1)<6-i;omega) (Bs G) (by rw[(AK7 AE F4).1,(AK7 AE F4).2]) (BE [1,2,3,4,5,6] G)
 obtain rfl:i=6:=AMT;exact ex<|Ck<|Ck<|D7<|A5<|AF 3 G<|rt<|Au 1 G<|K5<|Au 1 G<|K5<|AIa (AHy l) NY AI AI AI AI AI MK AI AI AI AI AI AI G ⟨APm _,APn _⟩ (BE [1,6,5,4,3,2,0,6,5,4,3,2] G) fun BH=>Fl (xm,BH) G G G G G Aa
theorem ALs:Po AG 30 AuI:=by
 refine⟨ARs,fun a b w=>?_⟩;rw[run_equalIn_struct w 9999 30 _ _ (by simp only[Program.fieldsOf,ARU]) ARs];simp only[Program.fieldsOf,ARU];refine Eq.trans (EI G Tryz.underlying2 G G G (Fk Tryz.underlying2 _ _) (fun w=>EI G AC4 G G G (Fk AC4 _ _) (fun w=>OO w))) ?_;congr 1;obtain⟨He,DP⟩:=a;obtain⟨Pt,CY⟩:=b;simp[wm.mk.injEq]
theorem APP(CP:Value)(l:List Int)(AMH:Value)(ms:List AGA)(hw:∀m∈ms,m.wf):Cv AG 3 [CP,AMH] [⟨CP,l⟩,⟨AMH,ms⟩] (.bool true):=by
 refine Aw.proof Tryz.func3 G 182 G G fun X w=>?_;have ArP:EW=4611686018427387904:=rfl;have ALS:∀m∈ms,A' m.B2:=fun m hm=>(hw m hm).2.2.2.2;refine AF 1 G<|Ae<|An G G<|Dm (AM7 CP l) (Ar G) G (Ad 0 G Aa) G fun da SB ANx=>?_;obtain⟨b,NB⟩:=da;subst ANx;obtain⟨AG6,Aa1⟩:∃t,tZ (AHy l).a (AHy l).b=t:=⟨_,rfl⟩;have AKf:=AM6 l;refine U 5 G<|Ac<|Am<|Ae<|B0 (xe) (Ar G) G Aa G<|U 2 G<|Bl G G G<|U 3 G<|Ac<|LW G<|AZ<|Ae<|An G G<|Ch 0 (AKH b NB (AHy l) 0 AKf) (Ar G) G G Aa G fun BH OC yL=>?_;subst yL;rw[Aa1];refine U 3 G<|CT AuZ G fun Jo=>BZ 0 (us:=(AuI ((wide AG6)))) G G G (At G) G G<|U 1 G<|Ac<|Am<|AF 1 G<|B5<|B8 1 G<|Hx (σ:=Nat×List Nat) [(1,_),(5,_),(7,_),(8,_)] _ (fun s C=>(9,.int .i64 (s.1:Int))::C) (fun s=>[AG_ b s.2 (AGl.AHP ms s.1 (AHy l)),AO Jo 30 (AuI (wide AG6)),CL X w]) (fun _ Dw=>Dw) (fun s=>s.1<=ms.length/\s.1<=300) (fun s=>300-s.1) ⟨0,BH⟩ (Bs G) (Ad 0 G (Ad 1 G Aa)) ⟨ABg _,ABg _⟩ (Bs G) G (Ad 0 G (Ad 1 G Aa)) ?_;rintro⟨i,JG⟩ ⟨Ag,aZ⟩;simp only at Ag aZ;obtain⟨AJd,AMU⟩:=AKx ALS AKf i Ag aZ;show CF _ _ _ [(9,.int .i64 ((i:Int))),(1,_),(5,_),(7,_),(8,_)] [AG_ b JG (AGl.AHP ms i (AHy l)),AO Jo 30 (AuI (wide AG6)),CL X w] _;refine Am<|Ae<|U 2 G<|C2 1 G G Tryz.underlying23 G fun bz=>U 2 G<|Fu 39 3 [] [1,5,7,8,9] G G G<|Ac<|BN G (fun Q9=>?_) (fun Q9=>?_)
 ·
  obtain⟨AK,Aq⟩:i<ms.length/\i<300:=(by simp at Q9;omega);obtain⟨AMR,AMV⟩:=AKx ALS AKf (i+1) AMT AMT;refine AZ<|Am<|B5<|Am<|Ae<|U 3 G<|Fo 1 G G G APd G fun AoM=>Gi 0 G G (At G) G fun AQO APK=>Ch 0 (AKv b JG (AGl.AHP ms i (AHy l)) (i) AJd AMT (ms.getD i default) APK (AGl.AHP ms (i+1) (AHy l)) (G)) (Ar G) G G Aa G fun Z6 uf AND=>?_;subst AND;refine IH G G<|Ac<|LW G<|AZ<|Ae<|An G G<|Ch 0 (AKH b Z6 (AGl.AHP ms (i+1) (AHy l)) (i+1) AMR) (Ar G) G G Aa G fun ANc AkI ANE=>?_;subst ANE;rw[AMV,Aa1];refine U 3 G<|CT AuZ G fun ho=>BZ 0 (us:=(AuI ((wide AG6)))) G G G (At G) G G<|U 1 G<|Ac<|Ae<|U 3 G<|Bl G G G<|U 4 G<|Bl G G G<|BJ 0 (AuI ((wide AG6))) G G (At G) G G<|Bl G G G<|BJ 2 (AuI ((wide AG6))) G G (At G) G G<|Bl G G G<|Qo ALs ((wide AG6)) ((wide AG6)) G G G<|ApG (ABE Value.bool (show _=false from ABE not (ABG G)))<|U 1 G<|Ac<|LW G<|EG<|CU<|A5<|rg<|An G G<|C5 G G BV G<|U 1 G<|nl<|AQ ?_;exact Dy (i+1,ANc) ⟨by show i+1<=_;omega,by show i+1<=300;omega⟩ (by show 300-(i+1)<300-i;omega) (Bs G) G (BE [2,3] G)
 refine ex<|Ck<|Ck<|D7<|A5<|Am<|Am ?_;obtain⟨AHI,AKg⟩:∃AHI,AGl.fin (AGl.AHP ms i (AHy l))=AHI:=⟨_,rfl⟩;refine FA 1 G<|A5<|B5<|Hx (σ:=Nat×AGl×List Nat) [(5,_),(7,_)] _ (fun s C=>(12,.int .i64 (s.1:Int))::C) (fun s=>[AG_ b s.2.2 s.2.1,AO Jo 30 (AuI (wide AG6)),CL X w]) (fun _ Dw=>Dw) (fun s=>s.1<=3/\AGv s.2.1 (300+16*s.1)/\AGl.AJI (3-s.1) s.2.1=AHI) (fun s=>3-s.1) ⟨0,(AGl.AHP ms i (AHy l)),JG⟩ (Bs G) (Ad 0 G (Ad 1 G Aa)) ⟨by show 0<=3;omega,AJd.more (by show i<=300+16*0;omega),AKg⟩ (Bs G) G (Ad 0 G (Ad 1 G Aa)) ?_;rintro⟨r,PK,ALf⟩ ⟨Bh,AKP,AJU⟩;simp only at Bh AKP AJU;show CF _ _ _ [(12,.int .i64 ((r:Int))),(5,_),(7,_)] [AG_ b ALf PK,AO Jo 30 (AuI (wide AG6)),CL X w] _;refine Am<|AF 2 G<|B9 G (fun Ma=>?_) (fun Ma=>?_)
 ·
  refine AZ<|Am<|B5<|AF 1 G<|B5<|Hx (σ:=Nat×AGl×List Nat) [(5,_),(7,_),(12,_)] _ (fun s C=>(13,.int .i64 (s.1:Int))::C) (fun s=>[AG_ b s.2.2 s.2.1,AO Jo 30 (AuI (wide AG6)),CL X w]) (fun _ Dw=>Dw) (fun s=>s.1<=2/\AGv s.2.1 (300+16*r+8*s.1)/\AGl.AJm s.1 s.2.1=PK.AHi) (fun s=>2-s.1) ⟨0,PK,ALf⟩ (Bs G) (Ad 0 G (Ad 1 G Aa)) ⟨by show 0<=2;omega,AKP.more (by show _<=300+16*r+8*0;omega),G⟩ (Bs G) G (Ad 0 G (Ad 1 G Aa)) ?_;rintro⟨j,ps,ALg⟩ ⟨Ay,GJ,AIM⟩;simp only at Ay GJ AIM;show CF _ _ _ [(13,.int .i64 ((j:Int))),(5,_),(7,_),(12,_)] [AG_ b ALg ps,AO Jo 30 (AuI (wide AG6)),CL X w] _;refine Am<|AF 2 G<|B9 G (fun AaM=>?_) (fun AaM=>?_)
  ·
   have U2:j<2:=AMT;refine AZ<|Am<|B5<|Am<|AIJ fun APU APW APY AP0 AP2 AP4 AP7 AP9 AP' AQb AQd AQf AMo AN7=>?_;obtain⟨APL,APN⟩:=AN7;have AOe:(j:Int)=0\/(j:Int)=1:=AMT;have a6:=ALm GJ AOe;refine AIt (p:=ps) (k:=j) (rv:=AMo) U2 (BE [0,1,2,3,4,5,6,7,8,9,10,11] G)<|rg<|U 4 G<|AGD (k:=j) G G AGW AMT AMT G<|U 1 G<|AHo 0 9 U2 G G (A2 G) G G<|C2 3 G G Tryz.underlying39 G fun AQw=>TU G G BV G<|U 1 G<|Ac<|B5<|AMi ps APU APW APY AP0 AP2 AP4 AP7 AP9 AP' AQb AQd AQf AMo G ⟨APL,APN⟩ (BE [6,7,8,9,10,11,12,13,14,15,16,17] G) fun ANd=>Hx (σ:=Nat×AGl×List Nat) [(5,_),(7,_),(12,_),(13,_)] _ (fun s C=>(14,.int .i64 ((s.1:Int)-1))::C) (fun s=>[AG_ b s.2.2 s.2.1,AO Jo 30 (AuI (wide AG6)),CL X w]) (fun _ Dw=>Dw) (fun s=>s.1<=4/\AGv s.2.1 (300+16*r+8*j+8-2*s.1)/\AGl.GV (j:Int) s.1 s.2.1=AGl.GV (j:Int) (ps.st (j:Int)).Bj.length ps) (fun s=>s.1) ⟨(ps.st (j:Int)).Bj.length,ps,ANd⟩ (Bs G) (Ad 18 G (Ad 19 G Aa)) ⟨a6,GJ.more (by show _<=300+16*r+8*j+8-2*(ps.st (j:Int)).Bj.length;omega),G⟩ (Bs G) G (Ad 18 G (Ad 19 G Aa)) ?_;rintro⟨q,AIq,AJY⟩ ⟨B',AJc,AJT⟩;simp only at B' AJc AJT;show CF _ _ _ [(14,.int .i64 (((q:Int)-1))),(5,_),(7,_),(12,_),(13,_)] [AG_ b AJY AIq,AO Jo 30 (AuI (wide AG6)),CL X w] _;refine Am<|AF 2 G<|B9 G (fun Wh=>?_) (fun Wh=>?_)
   ·
    obtain⟨q,rfl⟩:∃L3,q=L3+1:=⟨q-1,AMT⟩;have AKN:=(AKw (m:=(⟨6,(j:Int),0,0,(q:Int)⟩:AGA)) AJc AMT (show A' (q:Int)from⟨AMT,AMT⟩)).1;have AMQ:=(AKw (m:=(⟨4,(j:Int),0,0,(q:Int)⟩:AGA)) AKN AMT (show A' (q:Int)from⟨AMT,AMT⟩)).1;refine AZ<|Am<|B5<|Ae<|U 3 G<|ApG (ABE (Value.int .i64) (show((q+1:Nat):Int)-1=(q:Int)by omega))<|Db (ps:=[(0,_),(1,_),(4,_)]) (cs:=AH4 (⟨6,(j:Int),0,0,(q:Int)⟩:AGA)) ARz ARs G<|Ch 0 (AKv b AJY AIq (300+16*r+8*j+8-2*(q+1)) AJc AMT (⟨6,(j:Int),0,0,(q:Int)⟩:AGA) (AL9 i6 ⟨AMT,AMT⟩ ⟨AMT,AMT⟩) (AIq.move (⟨6,(j:Int),0,0,(q:Int)⟩:AGA)) (G)) (Ar G) G G Aa G fun ANa AQ3 ANF=>?_;subst ANF;refine U 5 G<|ApG (ABE (Value.int .i64) (show((q+1:Nat):Int)-1=(q:Int)by omega))<|Bl G G G<|Db (ps:=[(0,_),(1,_),(4,_)]) (cs:=AH4 (⟨4,(j:Int),0,0,(q:Int)⟩:AGA)) ARz ARs G<|Bl G G G<|Ch 0 (AKv b ANa (AIq.move (⟨6,(j:Int),0,0,(q:Int)⟩:AGA)) (300+16*r+8*j+8-2*(q+1)+1) AKN AMT (⟨4,(j:Int),0,0,(q:Int)⟩:AGA) (AL9 i4 ⟨AMT,AMT⟩ ⟨AMT,AMT⟩) ((AIq.move (⟨6,(j:Int),0,0,(q:Int)⟩:AGA)).move (⟨4,(j:Int),0,0,(q:Int)⟩:AGA)) (G)) (Ar G) G G Aa G fun ANb Akz ANs=>?_;subst ANs;refine U 2 G<|Ac<|LW G<|EG<|CU<|A5<|rg<|An G G<|TU G G BV G<|ApG (ABE (Value.int .i64) (show((q+1:Nat):Int)-1-1=(q:Int)-1 by omega))<|U 1 G<|nl ?_;exact Dy (q,_,ANb) ⟨by show q<=4;omega,by show AGv _ (300+16*r+8*j+8-2*q);rw[show 300+16*r+8*j+8-2*q=300+16*r+8*j+8-2*(q+1)+1+1 by omega];exact AMQ,AJT⟩ (by show q<q+1;omega) (Bs G) G (BE [0,1] G)
   obtain rfl:q=0:=AMT;refine ex<|Ck<|Ck<|D7<|CU<|A5<|rg<|An G G<|C5 G G BV G<|U 1 G<|nl ?_;exact Dy (j+1,AIq,AJY) ⟨by show j+1<=2;omega,AJc.more (by show _<=300+16*r+8*(j+1);omega),by show AGl.AJm (j+1) AIq=_;rw[<-AIM,ANY U2,<-AJT];rfl⟩ (by show 2-(j+1)<2-j;omega) (Bs G) G (BE [0,1] G)
  obtain rfl:j=2:=AMT;have AIM:ps=PK.AHi:=AIM;refine ex<|Ck<|Ck<|D7<|CU<|A5<|rg<|An G G<|C5 G G BV G<|U 1 G<|nl ?_;exact Dy (r+1,ps,ALg) ⟨by show r+1<=3;omega,GJ.more (by show _<=300+16*(r+1);omega),by show AGl.AJI (3-(r+1)) ps=AHI;rw[<-AJU,show 3-r=3-(r+1)+1 by omega];exact ABE (AGl.AJI (3-(r+1))) AIM⟩ (by show 3-(r+1)<3-r;omega) (Bs G) G (BE [0,1] G)
 obtain rfl:r=3:=AMT;obtain rfl:AHI=PK:=AJU.symm;refine ex<|Ck<|Ck<|D7<|A5<|Am<|Am<|AIJ fun APV APX APZ AP1 AP3 AP5 AP8 AP_ AQa AQc AQe AQg AMp iR=>?_;obtain⟨APM,APO⟩:=iR;refine FA 1 G<|A5<|B5<|Ji (σ:=Nat) [(5,_),(7,_)] _ (fun s C=>(15,.int .i64 (s:Int))::C) (fun s=>s<=2) (fun s=>2-s) 0 (Bs G) (Ad 0 G (Ad 1 G (Ad 2 G (Ad 3 G (Ad 4 G (Ad 5 G (Ad 6 G (Ad 7 G (Ad 8 G (Ad 9 G (Ad 10 G (Ad 11 G Aa)))))))))))) AMT (Bs G) ?_;intro j Ay;refine Am<|AF 2 G<|B9 G (fun Te=>?_) (fun Te=>?_)
 ·
  have U2:j<2:=AMT;obtain⟨ALR,AbH⟩:=ANM AJd AMT U2;rw[AKg]at ALR AbH;refine AIt (p:=AHI) (k:=j) (rv:=AMp) U2 (BE [0,1,2,3,4,5,6,7,8,9,10,11] G)<|AZ<|Am<|B5<|Am<|AF 1 G<|B5<|Ji (σ:=Nat) [(5,_),(7,_),(15,_)] _ (fun s C=>(16,.int .i64 (s:Int))::C) (fun s=>s<=(AHI.st (j:Int)).Aj.length) (fun s=>(AHI.st (j:Int)).Aj.length-s) 0 (Bs G) (Ad 0 G (Ad 1 G (Ad 2 G (Ad 3 G (Ad 4 G (Ad 5 G (Ad 6 G (Ad 7 G (Ad 8 G (Ad 9 G (Ad 10 G (Ad 11 G (Ad 12 G (Ad 13 G (Ad 14 G (Ad 15 G (Ad 16 G (Ad 17 G Aa)))))))))))))))))) (ABg _) (Bs G) ?_;intro a AK;refine Am<|Ae<|U 5 G<|AGD (k:=j) G G AGW AMT AMT G<|U 1 G<|AHo 0 6 U2 G G (A2 G) G G<|C2 0 G G Tryz.underlying36 G fun AQp=>U 1 G<|Ac<|B9 G (fun Awj=>?_) (fun Awj=>?_)
  ·
   have AvQ:a<(AHI.st (j:Int)).Aj.length:=AMT;obtain⟨FF,eM⟩:=ALR _ (Hl AvQ);refine AZ<|Am<|B5<|Ae<|U 4 G<|AGD (k:=j) G G AGW AMT AMT G<|U 1 G<|AHo 0 6 U2 G G (A2 G) G G<|An G G<|Fo 0 G G G Gt G fun ArH=>CJ 0 fv G G (BR G) G fun AA2=>CJ 0 Agx G G (BR G) G fun AA3=>CQ 0 G G (A2 G) G fun AA6=>U 1 G<|ApG (ABE Value.bool (show _=false from ABE not (ABG FF)))<|U 5 G<|Bl G G G<|AGD (k:=j) G G AGW AMT AMT G<|Bl G G G<|U 1 G<|Bl G G G<|AHo 0 6 U2 G G (A2 G) G G<|U 1 G<|Bl G G G<|Fo 3 G G G Gt G fun AQU=>Bl G G G<|CJ 0 Agd G G (BR G) G fun AoH=>Bl G G G<|CQ 0 G G (A2 G) G fun AQ9=>U 1 G<|ApG (ABE Value.bool (show _=false from ABE not (ABG eM)))<|U 1 G<|Ac<|LW G<|EG<|CU<|A5<|rg<|An G G<|C5 G G BV G<|U 1 G<|nl ?_;exact Dy (a+1) AMT AMT (Bs G) G (BE [5,6,7,8,9,10,11,12,13,14,15,16,17,18,19,20,21,22] G)
  refine ex<|Ck<|Ck<|D7<|A5<|Ae<|U 4 G<|AGD (k:=j) G G AGW AMT AMT G<|U 1 G<|AHo 0 8 U2 G G (A2 G) G G<|C2 2 G G Tryz.underlying38 G fun AQs=>U 1 G<|ApG (ABE Value.bool (show _=false by rw[AbH];rfl))<|Ac<|LW G<|EG<|CU<|A5<|rg<|An G G<|C5 G G BV G<|U 1 G<|nl ?_;exact Dy (j+1) AMT AMT (Bs G) G (BE [6,7,8,9,10,11,12,13,14,15,16,17] G)
 refine ex<|Ck<|Ck<|D7<|A5<|Am<|AMi AHI APV APX APZ AP1 AP3 AP5 AP8 AP_ AQa AQc AQe AQg AMp G ⟨APM,APO⟩ (BE [0,1,2,3,4,5,6,7,8,9,10,11] G) fun ANe=>?_;obtain⟨AKO,AK4,⟨_,_,Wx⟩,_,_,ALT⟩:=ALt AJd AMT;rw[AKg]at AKO AK4 Wx ALT;refine rg<|An G G<|Ch 0 (AKH b ANe AHI (i+48) AKO) (Ar G) G G Aa G fun AQk AQV ANv=>?_;subst ANv;rw[AK4,AMU,Aa1];refine U 3 G<|CT AuZ G fun nu=>BZ 0 (us:=(AuI ((wide AG6)))) G G G (At G) G G<|U 1 G<|Ac<|Am<|B8 1 G<|AIJ fun ARb ARc ARd ARe ARf ARg ARh ARi ARj ARk ARl ARm AQP Ht=>?_;obtain⟨AQ',ARa⟩:=Ht;exact rg<|U 2 G<|Bl G G G<|BJ 2 (AuI ((wide AG6))) G G (At G) G G<|Bl G G G<|BJ 3 (AuI ((wide AG6))) G G (At G) G G<|Bl G G G<|RU ALs ((wide AG6)) ((wide AG6)) G G G<|ApG (ABE Value.bool (ABG G))<|U 3 G<|U 2 G<|Bl G G G<|AKo G G AIf ARp ARp G<|AX 1 [0] G G<|ApG (ABE Value.bool (Wx))<|U 3 G<|Bl G G G<|U 3 G<|Bl G G G<|AKo G G AIf ARp ARp G<|AX 1 [0] G G<|ApG (ABE Value.bool (ALT))<|U 3 G<|Ac<|rt<|AQ<|AQ<|AQ<|AQ<|Bq () G G ARz G Aa
end Go.Apw
namespace Go.Proofs.YtklmcfecakaanaaGreat
open Go.A_ Go.Apw Go.ChangeShapes Go.WideShapes Go.ChangeAt Go.RowKit
section
theorem Tryz.own:ownKnob Tryz.prog.godebug=none:=ARs
theorem Tryz.laidOut:laidOutB Tryz.prog=true:=ARs
set_option maxRecDepth 100000 in
theorem AO'(os:Os)(started:os.Started)(H:Type)(enc:TypeId×Value->H):
    ReturnsInHanded {} Tryz.checked os 3 .any (Rows.shardWholeSpec.pre6 enc Tryz.prog Tryz.f3 Rows.shardWholeRow.domain false) (Rows.shardWholeSpec.post enc Tryz.prog Tryz.f3 false true false false):=by
  refine returnsInHanded_of_change (C:=Tryz.checked) Tryz.own started ARs Tryz.func3
    (ChangeSpec.witness6 (enc:=enc) (C:=Tryz.checked) false ⟨#[],#[AI,AI],[]⟩ 8 ARs ARs ARs ARs) ?_
  intro W base args Cx gs before AOd F5 _ _;have PD:∀(j:Nat) t v,Tryz.f3.params[j]? =some t->args[j]? =some v->Value.okWide Tryz.prog W .any base t v:=AOd;have iV:=F5;obtain⟨p,q,AaS,LC,rfl,AbI,OZ⟩:=F5;have Cl:DataW.TrodAll enc Tryz.prog W 0 (fun _=>true) true Tryz.f3.params.toList args.toList Cx p:=AaS;rw[Tryz.params3]at Cl PD;obtain⟨v0,cg,d0,Fb,An9,L3,AK,rfl,rfl,Bw,Cl⟩:=trodAll_cons Cl;obtain⟨v1,NY,d1,B4,Rn,q1,rfl,rfl,rfl,Af,Cl⟩:=trodAll_cons Cl;obtain⟨rfl,rfl,rfl⟩:=trodAll_nil Cl;obtain⟨rfl,rfl⟩:=trodVars_none LC;have eI:args= #[v0,v1]:=Array.toList_inj.1 AK;subst eI;obtain⟨l,AO0⟩:=w8 ABH Atw (PD 0 22 v0 rfl rfl) Bw;obtain⟨ms,AMk⟩:=w8 Tryz.underlying23 AOL (PD 1 23 v1 rfl rfl) Af;have JU:=APP v0 l v1 ms (O7 (s:=AMq) AMk);refine JU.post Tryz.laidOut ARs rfl ARs Tryz.underlying4 rfl iV (fun t Av=>?_);simp only[ABf,ABh,ABi]at Av;rcases Av with rfl|rfl
  · exact AO0
  exact AMk
theorem w2{a b:Bool}(AK:a=true)(Aq:b=true):(a&&b)=true:=by rw[AK,Aq];rfl
set_option maxHeartbeats 40000000 in
theorem AO9:joinedFacts Tryz.prog 3 Tryz.f3 Rows.shardWholeSpec Rows.shardWholeRow=true:=by
  unfold joinedFacts;repeat' (with_reducible apply w2)
  all_goals (as_aux_lemma=>kernel_rfl)
theorem APa:Tryz.prog.funcNamed Rows.shardWholeRow.func=some 3:=ARs
theorem AO_:Tryz.f3.isInstance Tryz.prog Rows.shardWholeRow.origin Rows.shardWholeRow.targs:=ABA ARs
theorem APb:Tryz.f3.isWrapper Tryz.prog Rows.shardWholeRow.wrapper Rows.shardWholeRow.mainSum:=by
  unfold Func.isWrapper;rw[AA9 (by decide+kernel)];exact⟨rfl,rfl⟩
theorem shardWhole_holds:Rows.ShardWholeSaid:=
  OpenClaim.holds_of_wide 3 Tryz.f3 rfl rfl rfl rfl rfl rfl rfl ⟨rfl,rfl,rfl,rfl,rfl⟩ rfl rfl rfl rfl rfl APa Tryz.func3 AO9 AO_ APb
    (fun os started H enc _=>AO' os started H enc)
#print axioms shardWhole_holds
end
end Go.Proofs.YtklmcfecakaanaaGreat
