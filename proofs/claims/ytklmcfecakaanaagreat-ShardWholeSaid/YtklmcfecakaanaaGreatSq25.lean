/- Part 25 of shardWhole_holds. -/
import Derived.Test.YtklmcfecakaanaaGreatSq24

set_option maxRecDepth 20000
set_option maxHeartbeats 1000000
open Eq renaming symm→AB3,trans→ABS
open Go.A_ Go.Proofs Go.Proofs.YtklmcfecakaanaaGreat
namespace Go.Apw
theorem uS{S:Bv}(h:Ce S):S.Aj.length<=100000/\S.Bz.length<=100000/\S.AA.length<=100000/\S.Bj.length<=100000/\S.CX.length<=100000/\S.Cf.length<=100000:=by
 refine⟨ABB h.len ARp,ABB (TE h.marks) ARp,ABB h.wl ARp,ABB (V0 h.VZ) ARp,ABB (ed h.ends) ARp,?_⟩;rcases h.out with q|q
 ·
  rw[q.2];exact ABg _
 exact ABB (Aii q.2.2) ARp
theorem Abn{S:Bv}(Aq:Py S=false):LG S=S:=AA_ Aq
theorem Abo{S:Bv}(Aq:Py S=true)(he:¬(IW (Gl S S.Bt.A6 S.Bt.Bc)).2=0):LG S=S:=(AA9 (fun q=>ABd (q.symm.trans Aq))).trans (AA_ he)
theorem Abr{S:Bv}(Aq:Py S=true)(he:(IW (Gl S S.Bt.A6 S.Bt.Bc)).2=0)(AN:S.Bt.A6=S.A6):LG S=({S with CW:=S.Bt,Cf:=(IW (Gl S S.Bt.A6 S.Bt.Bc)).1,Aj:=S.Aj.filter (fun x=> !Ef S x.Al),Bc:=ByteArray.empty,Bt:=FP,Du:=false,A6:=ByteArray.empty}:Bv):=(AA9 (fun q=>ABd (q.symm.trans Aq))).trans ((AA9 (fun q=>q he)).trans (AA_ AN))
theorem Abq{S:Bv}(Aq:Py S=true)(he:(IW (Gl S S.Bt.A6 S.Bt.Bc)).2=0)(AN:¬S.Bt.A6=S.A6):LG S=({S with CW:=S.Bt,Cf:=(IW (Gl S S.Bt.A6 S.Bt.Bc)).1,Aj:=S.Aj.filter (fun x=> !Ef S x.Al),Bc:=S.Bt.A6,Bt:=FP}:Bv):=(AA9 (fun q=>ABd (q.symm.trans Aq))).trans ((AA9 (fun q=>q he)).trans (AA9 AN))
theorem Abm(b:Nat)(nd:List Nat)(W:Ah)(Z:Ah)(AW:{W with S:=LG W.S}=Z)(BO:Ce W.S):Aw AG 82 [ALM b 0] [DS b nd W] [] (fun(_:List Nat) _=>True) (fun y _=>[DS b y Z]) (fun _ _=>[]):=by
 refine Aw.proof Tryz.func82 G 89 G G fun X w=>Gu fun AS A1 AY A9 Ba Bd Bp Bi AU=>Ae<|CV G G G fun CY=>Ac<|Ae<|M4 (α:=JD) ⟨ALM b 0⟩ (fun S w h=>⟨G,G⟩)<|CQ 0 G G (A2 G) G fun Ud=>U 3 G<|BJ 0 (ED W.S.Bt) G G (At G) G G<|CT gS G fun Dh=>BZ 0 (us:=(ED W.S.Bt)) G G G (At G) G G<|Ac<|Am<|Ae<|BJ 0 (ED W.S.Bt) G G (At G) G G<|Db (ps:=[]) (cs:=(ED (Gs))) ARz ARs G<|RU RV (W.S.Bt) (Gs) G G G<|An G G ?_;refine DE 13 8 [1,2] G G (fun Dp SS=>by
  have Af0:=ACe Dp;refine Bl G G G<|CQ 0 G G (A2 G) G fun SE=>AX 4 [1] G G<|Bl G G G<|Nd (xs:=[.tmp 1]) G G<|Bl G G G<|GZ 2 G fun JZ=>GZ 3 G fun o2=>?_;refine GZ 4 G fun MG=>?_;refine GZ 5 G fun NU=>?_;exact GO (q:=Value.oneCell' _=true) (fun S w h=>Fh (h _ (AA' (i:=1) G))) fun o1=>GO (q:=Value.oneCell' _=true) (fun S w h=>Fh (h _ (AA' (i:=2) G))) fun IJ=>GO (q:=Value.oneCell' _=true) (fun S w h=>Fh (h _ (AA' (i:=3) G))) fun J0=>GO (q:=Value.oneCell' _=true) (fun S w h=>Fh (h _ (AA' (i:=4) G))) fun Ks=>P6 [Ov b W AS A1 AY A9 Ba Bd Bp Bi,⟨AS,W.S.Aj⟩] (yh AS W.S.Aj 148 #[_] [Ov b W AS A1 AY A9 Ba Bd Bp Bi,⟨_,(⟨⟨ALM b 0⟩⟩:Cq JD)⟩] (fun x=>Ef W.S x.Al&&(decide ((x.A0.length:Int)>0)|| !decide (x.BG.Ap=0))) (Ar G) (fun x Pl h=>Abk x Pl _ b W AS A1 AY A9 Ba Bd Bp Bi h)) (Ar G) G (DU.AO 1 G (Y_ JZ o1 o2 IJ J0 Ks MG NU AU) (DU.row 2 G DU.nil)) (Ad 1 G (Ad 0 G (Ad 2 G Aa))) G<|U 1 G<|SS G Br) ?_
 refine Ac<|BN G (fun E1=>?_) (fun E1=>?_)
 ·
  refine BA ?_;have AB:W=Z:=(by rw[<-AW,Abn (ABE (fun z=> !z) E1)]);subst AB;exact Au 5 G<|Au 5 G<|Au 5 G<|Au 5 G<|Au 5 G<|Es W AS A1 AY A9 Ba Bd Bp Bi G AU (BE [1,2,3,4] G) fun BH=>Au 1 G<|AQ<|Ej BH G trivial G Aa
 refine AZ<|Am ?_;have B7:=uS BO;have Aln:(Gl W.S W.S.Bt.A6 W.S.Bt.Bc).wf:=(sb BO _ _).1;refine AuG [] [] [(0,DF [] (ALM b 0)),(8,Ff [1,2,3,4,5] (fun A4=>some (.agg (BY ((Gl W.S W.S.Bt.A6 W.S.Bt.Bc)) (A4 0) (A4 1) (A4 2) (A4 3) (A4 4) (A4 5)).toArray)) fun A4=>[⟨(A4 0),(Gl W.S W.S.Bt.A6 W.S.Bt.Bc).Aj⟩,⟨(A4 1),(Gl W.S W.S.Bt.A6 W.S.Bt.Bc).Bz⟩,⟨(A4 2),(Gl W.S W.S.Bt.A6 W.S.Bt.Bc).AA⟩,⟨(A4 3),(Gl W.S W.S.Bt.A6 W.S.Bt.Bc).Bj⟩,⟨(A4 4),(Gl W.S W.S.Bt.A6 W.S.Bt.Bc).CX⟩,⟨(A4 5),(Gl W.S W.S.Bt.A6 W.S.Bt.Bc).Cf⟩,⟨(A4 1),(⟨⟩:Kg)⟩]),(9,Ff [] (fun A4=>some (.tuple #[(A4 0),.int .i64 ((IW (Gl W.S W.S.Bt.A6 W.S.Bt.Bc)).2)])) fun A4=>[⟨(A4 0),(IW (Gl W.S W.S.Bt.A6 W.S.Bt.Bc)).1⟩])] [(3,1),(5,0),(7,0)] [1,2,3,4] (fun _=>G) (fun _=>G) (fun Ai AV Az=>⟨fun _=>?_,fun _=>?_,fun _=>?_,trivial⟩) fun Ai _=>?_
 ·
  refine CQ 0 G G (A2 G) G fun cY=>?_;exact BU [] [] 0 G G
 ·
  refine GZ 1 G fun JZ=>?_;refine GZ 2 G fun o2=>?_;refine GZ 3 G fun MG=>?_;refine GZ 4 G fun NU=>?_;refine GO (q:=Value.oneCell' _=true) (fun S w h=>Fh (h _ (AA' (i:=1) G))) fun o1=>GO (q:=Value.oneCell' _=true) (fun S w h=>Fh (h _ (AA' (i:=2) G))) fun IJ=>GO (q:=Value.oneCell' _=true) (fun S w h=>Fh (h _ (AA' (i:=3) G))) fun J0=>GO (q:=Value.oneCell' _=true) (fun S w h=>Fh (h _ (AA' (i:=4) G))) fun Ks=>D9 2 G<|D9 2 G<|Hs 2 (Ahh W.S AS A1 AY A9 Ba Bd W.S.Bt.A6 W.S.Bt.Bc BO AU.1 (Au1 BO) B7.1 B7.2.1 B7.2.2.1 B7.2.2.2.1 B7.2.2.2.2.1 B7.2.2.2.2.2) (Ar G) G G (BE [1,2,3,4] G) G fun Vw L5 ES=>?_;obtain⟨u9,u_,u',va,vb,vc⟩:=Vw;subst ES;exact D9 4 G<|D9 4 G<|D9 3 G<|D9 3 G<|D9 4 G<|BU [u9,u_,u',va,vb,vc] [1,2,3,4,5,6,0] 7 G G
 ·
  refine Dm (Alf (Gl W.S W.S.Bt.A6 W.S.Bt.Bc) ((Ai 8 0)) ((Ai 8 1)) ((Ai 8 2)) ((Ai 8 3)) ((Ai 8 4)) ((Ai 8 5)) Aln) (Ar G) G (BE [6,0,1,2,3,4,5] G) G fun QC OC aG=>?_;subst aG;exact BU [QC] [0] 8 G G
 generalize Ai 8 0=u9,Ai 8 1=u_,Ai 8 2=u',Ai 8 3=va,Ai 8 4=vb,Ai 8 5=vc,Ai 9 0=QC;refine A5<|Am<|AF 2 G<|Fa G (fun K6=>?_) (fun K6=>?_)
 ·
  refine BA ?_;have AB:W=Z:=(by rw[<-AW,Abo (ABE (fun z=> !z) E1) K6]);subst AB;exact Au 5 G<|Au 5 G<|Au 5 G<|Au 5 G<|Au 5 G<|Es W AS A1 AY A9 Ba Bd Bp Bi G AU (BE [9,10,11,12] G) fun BH=>Au 1 G<|AQ<|Ej BH G trivial G Aa
 refine AZ<|Am ?_
 -- ('sl', 'c32', '(encState (partS W.S W.S.fSeal.fLo W.S.fSeal.fHi)).1', 'y32', 35)
 refine AuG [] [(1,[(7,.f0 (AO b 118 (FB ({W with S:={W.S with CW:=W.S.Bt}}:Ah) AS A1 AY A9 Ba Bd Bp Bi))),(11,.f0 (AO b 118 (FB ({W with S:={W.S with CW:=W.S.Bt,Cf:=(IW (Gl W.S W.S.Bt.A6 W.S.Bt.Bc)).1}}:Ah) AS A1 AY A9 Ba QC Bp Bi)))])] [(0,DF [] (ALM b 0)),(1,DF [] (ALM b 0)),(7,DF [1] undef),(11,DF [1] undef)] [(2,0)] [1,2] (fun _=>G) (fun _=>G) (fun Ai AV Az=>⟨fun _=>?_,fun _=>?_,fun _=>stM 0 (us:=(ED W.S.Bt)) G G G (At G) G (ABy G)<|BU [] [] 0 G G,fun _=>J2 0 7 G G G G (A2 G) (Da G)<|BU [] [] 0 G G,trivial⟩) fun Ai _=>?_
 ·
  refine CQ 8 G G (A2 G) G fun AkU=>?_;exact BU [] [] 0 G G
 ·
  refine CQ 8 G G (A2 G) G fun Zt=>?_;exact BU [] [] 0 G G
 refine A5<|Am ?_;have Mb:Ah.wf ({W with S:={W.S with CW:=W.S.Bt,Cf:=(IW (Gl W.S W.S.Bt.A6 W.S.Bt.Bc)).1}}:Ah):=⟨⟨AU.1.1,AU.1.2.1,AU.1.2.2.1,AU.1.2.2.2.1,AU.1.2.2.2.2.1,AU.1.2.2.2.2.2.1,AU.1.2.2.2.2.2.2.1,AU.1.2.2.2.2.2.2.2.1,AU.1.2.2.2.2.2.2.2.2.1,AU.1.2.2.2.2.2.2.2.2.2.1,AU.1.2.2.2.2.2.2.2.2.2.2.1,AU.1.2.2.2.2.2.2.2.2.2.2.2.1,AU.1.2.2.2.2.2.2.2.2.2.2.2.1,AU.1.2.2.2.2.2.2.2.2.2.2.2.2.2.1,AU.1.2.2.2.2.2.2.2.2.2.2.2.2.2.2.1,AU.1.2.2.2.2.2.2.2.2.2.2.2.2.2.2.2.1,AU.1.2.2.2.2.2.2.2.2.2.2.2.2.2.2.2.2⟩,AU.2⟩;obtain⟨Hq,R6⟩:∃V:Ah,({W with S:={W.S with CW:=W.S.Bt,Cf:=(IW (Gl W.S W.S.Bt.A6 W.S.Bt.Bc)).1}}:Ah)=V:=⟨_,rfl⟩;rw[R6];rw[R6]at Mb;have WE:∀k,Ef Hq.S k=Ef W.S k:=fun k=>by rw[<-R6];rfl
 have Anw:Hq.S.A6=W.S.A6:=by rw[<-R6]
 refine AuG [] [(1,[(11,.f1 7 fun BM=>[AO b 118 (FB Hq (BM 0) A1 AY A9 Ba QC Bp Bi)])]),(2,[(7,.f1 7 fun BM=>[@row AD GR 58 (BM 0) (W.S.Aj.filter (fun x=> !Ef W.S x.Al))])])] [(0,DF [] (ALM b 0)),(1,DF [] (ALM b 0)),(6,DF [] (.func (.func 151) #[] #[ALM CY 0])),(7,Ol [1,2,3,4,5] fun A4=>some ((A4 0))),(11,DF [1,2] undef)] [(5,1)] [1,2] (fun _=>G) (fun _=>G) (fun Ai AV Az=>⟨fun _=>?_,fun _=>?_,fun _=>Nd (xs:=[.tmp 1]) G G<|BU [] [] 0 G G,fun _=>?_,fun _=>IL 0 1 G G G G (A2 G) (Da G)<|BU [] [] 0 G G,trivial⟩) fun Ai _=>?_
 ·
  refine CQ 8 G G (A2 G) G fun Ao8=>?_;exact BU [] [] 0 G G
 ·
  refine CQ 8 G G (A2 G) G fun Ao9=>?_;exact BU [] [] 0 G G
 ·
  refine GZ 1 G fun JZ=>?_;refine GZ 2 G fun o2=>?_;refine GZ 3 G fun MG=>?_;refine GZ 4 G fun NU=>?_;exact GO (q:=Value.oneCell' _=true) (fun S w h=>Fh (h _ (AA' (i:=9) G))) fun o1=>GO (q:=Value.oneCell' _=true) (fun S w h=>Fh (h _ (AA' (i:=10) G))) fun IJ=>GO (q:=Value.oneCell' _=true) (fun S w h=>Fh (h _ (AA' (i:=11) G))) fun J0=>GO (q:=Value.oneCell' _=true) (fun S w h=>Fh (h _ (AA' (i:=7) G))) fun Ks=>D9 1 G<|Hs 2 (oh AS W.S.Aj 151 #[_] [⟨_,(⟨⟨ALM b 0⟩⟩:Cq JD)⟩] [Ov b Hq AS A1 AY A9 Ba QC Bp Bi] (AO b 118 (FB Hq AS A1 AY A9 Ba QC Bp Bi)) (fun x=>Ef W.S x.Al) (fun _ i Ag=>DU.AO i Ag (Y_ JZ o1 o2 IJ J0 Ks MG NU Mb) DU.nil) (Ar G) (fun x Pl h=>by rw[<-WE];exact Abl x Pl _ b Hq AS A1 AY A9 Ba QC Bp Bi h)) (Ar G) G G (Ad 8 G Aa) G fun _ AkI _=>D9 4 G<|D9 4 G<|D9 4 G<|D9 3 G<|D9 4 G<|BU [AkI] [] 0 G G
 generalize Ai 7 0=EZ;refine A5<|Ae<|CQ 8 G G (A2 G) G fun Vt=>AX 5 [0] G G<|Fi 1 G G G (A2 G) G (Da G)<|Ac<|Am<|Am ?_;subst R6;refine B8 5 G<|B8 5 G<|B8 5 G<|B8 5 G<|B8 5 G<|Ho ({W with S:={W.S with CW:=W.S.Bt,Cf:=(IW (Gl W.S W.S.Bt.A6 W.S.Bt.Bc)).1,Aj:=(W.S.Aj.filter (fun x=> !Ef W.S x.Al)),Bc:=W.S.Bt.A6}}:Ah) EZ A1 AY A9 Ba QC Bp Bi G ⟨⟨Mb.1.1,Mb.1.2.1,Mb.1.2.2.1,Mb.1.2.2.2.1,AU.1.2.2.2.2.2.2.2.2.2.2.2.1.2.2.2.1,Mb.1.2.2.2.2.2.1,Mb.1.2.2.2.2.2.2.1,Mb.1.2.2.2.2.2.2.2.1,Mb.1.2.2.2.2.2.2.2.2.1,Mb.1.2.2.2.2.2.2.2.2.2.1,Mb.1.2.2.2.2.2.2.2.2.2.2.1,Mb.1.2.2.2.2.2.2.2.2.2.2.2.1,Mb.1.2.2.2.2.2.2.2.2.2.2.2.2.1,Mb.1.2.2.2.2.2.2.2.2.2.2.2.2.2.1,Mb.1.2.2.2.2.2.2.2.2.2.2.2.2.2.2.1,Mb.1.2.2.2.2.2.2.2.2.2.2.2.2.2.2.2.1,Mb.1.2.2.2.2.2.2.2.2.2.2.2.2.2.2.2.2⟩,Mb.2⟩ (Ad 9 G (Ad 10 G (Ad 11 G (Ad 7 G Aa)))) fun AmF=>?_;obtain⟨VM,eE⟩:∃V:Ah,({W with S:={W.S with CW:=W.S.Bt,Cf:=(IW (Gl W.S W.S.Bt.A6 W.S.Bt.Bc)).1,Aj:=(W.S.Aj.filter (fun x=> !Ef W.S x.Al)),Bc:=W.S.Bt.A6}}:Ah)=V:=⟨_,rfl⟩;rw[eE];have pK:VM.S.A6=W.S.A6:=by rw[<-eE]
 refine Gu fun TA O2 M' O3 O4 O5 Na Nb G6=>?_;refine Gx mixed ARs<|AX 2 [5] G G<|CQ 12 G G (A2 G) G fun Apb=>AX 5 [0] G G<|Gj<|A5<|B9 G (fun KM=>?_) (fun KM=>?_)
 ·
  refine AuG [] [(0,[(6,.f0 (AO b 118 (FB ({VM with S:={VM.S with Du:=false}}:Ah) TA O2 M' O3 O4 O5 Na Nb))),(10,.f0 (AO b 118 (FB ({VM with S:={VM.S with Du:=false,A6:=ByteArray.empty}}:Ah) TA O2 M' O3 O4 O5 Na Nb))),(14,.f0 (AO b 118 (FB ({VM with S:={VM.S with Du:=false,A6:=ByteArray.empty,Bc:=ByteArray.empty}}:Ah) TA O2 M' O3 O4 O5 Na Nb)))])] [(0,DF [] (ALM b 0)),(1,DF [] (ALM b 0)),(2,DF [] (ALM b 0)),(6,DF [0] undef),(10,DF [0] undef),(14,DF [0] undef)] [] [1] (fun _=>G) (fun _=>G) (fun Ai AV Az=>⟨fun _=>?_,fun _=>?_,fun _=>?_,fun _=>Fi 0 G G G (A2 G) G (Da G)<|BU [] [] 0 G G,fun _=>Fi 0 G G G (A2 G) G (Da G)<|BU [] [] 0 G G,fun _=>Fi 0 G G G (A2 G) G (Da G)<|BU [] [] 0 G G,trivial⟩) fun Ai _=>?_
  ·
   refine CQ 12 G G (A2 G) G fun Apc=>?_;exact BU [] [] 0 G G
  ·
   refine CQ 12 G G (A2 G) G fun uA=>?_;exact BU [] [] 0 G G
  ·
   refine CQ 12 G G (A2 G) G fun Apd=>?_;exact BU [] [] 0 G G
  refine A5<|rg<|CQ 12 G G (A2 G) G fun uB=>Db (ps:=[]) (cs:=(ED (Gs))) ARz ARs G<|U 3 G<|stM 0 (us:=(ED (Gs))) G G G (At G) G (ABy G)<|nl ?_;subst eE;have AB:({W with S:={W.S with CW:=W.S.Bt,Cf:=(IW (Gl W.S W.S.Bt.A6 W.S.Bt.Bc)).1,Aj:=(W.S.Aj.filter (fun x=> !Ef W.S x.Al)),Bc:=ByteArray.empty,Bt:=FP,Du:=false,A6:=ByteArray.empty}}:Ah)=Z:=(by rw[<-AW,Abr (ABE (fun z=> !z) E1) K6 (KM.trans pK)]);subst AB;exact Es ({W with S:={W.S with CW:=W.S.Bt,Cf:=(IW (Gl W.S W.S.Bt.A6 W.S.Bt.Bc)).1,Aj:=(W.S.Aj.filter (fun x=> !Ef W.S x.Al)),Bc:=ByteArray.empty,Bt:=FP,Du:=false,A6:=ByteArray.empty}}:Ah) TA O2 M' O3 O4 O5 Na Nb G ⟨⟨G6.1.1,G6.1.2.1,G6.1.2.2.1,(show ByteArray.empty.size<=9223372036854775807 from by decide),(show ByteArray.empty.size<=9223372036854775807 from by decide),G6.1.2.2.2.2.2.1,G6.1.2.2.2.2.2.2.1,G6.1.2.2.2.2.2.2.2.1,G6.1.2.2.2.2.2.2.2.2.1,G6.1.2.2.2.2.2.2.2.2.2.1,G6.1.2.2.2.2.2.2.2.2.2.2.1,(show Fs.wf FP from⟨DW,DW,DW,ARp,ARp,DW,DW⟩),G6.1.2.2.2.2.2.2.2.2.2.2.2.2.1,G6.1.2.2.2.2.2.2.2.2.2.2.2.2.2.1,G6.1.2.2.2.2.2.2.2.2.2.2.2.2.2.2.1,G6.1.2.2.2.2.2.2.2.2.2.2.2.2.2.2.2.1,G6.1.2.2.2.2.2.2.2.2.2.2.2.2.2.2.2.2⟩,G6.2⟩ (Ad 0 G (Ad 1 G (Ad 2 G (Ad 3 G Aa)))) fun BH=>Au 1 G<|AQ<|Ej BH G trivial G Aa
 refine AZ<|rg<|CQ 12 G G (A2 G) G fun uB=>Db (ps:=[]) (cs:=(ED (Gs))) ARz ARs G<|U 3 G<|stM 0 (us:=(ED (Gs))) G G G (At G) G (ABy G)<|nl ?_;subst eE;have AB:({W with S:={W.S with CW:=W.S.Bt,Cf:=(IW (Gl W.S W.S.Bt.A6 W.S.Bt.Bc)).1,Aj:=(W.S.Aj.filter (fun x=> !Ef W.S x.Al)),Bc:=W.S.Bt.A6,Bt:=FP}}:Ah)=Z:=by rw[<-AW,Abq (ABE (fun z=> !z) E1) K6 (fun q=>KM (q.trans pK.symm))]
 subst AB;exact Es ({W with S:={W.S with CW:=W.S.Bt,Cf:=(IW (Gl W.S W.S.Bt.A6 W.S.Bt.Bc)).1,Aj:=(W.S.Aj.filter (fun x=> !Ef W.S x.Al)),Bc:=W.S.Bt.A6,Bt:=FP}}:Ah) TA O2 M' O3 O4 O5 Na Nb G ⟨⟨G6.1.1,G6.1.2.1,G6.1.2.2.1,G6.1.2.2.2.1,AU.1.2.2.2.2.2.2.2.2.2.2.2.1.2.2.2.1,G6.1.2.2.2.2.2.1,G6.1.2.2.2.2.2.2.1,G6.1.2.2.2.2.2.2.2.1,G6.1.2.2.2.2.2.2.2.2.1,G6.1.2.2.2.2.2.2.2.2.2.1,G6.1.2.2.2.2.2.2.2.2.2.2.1,(show Fs.wf FP from⟨DW,DW,DW,ARp,ARp,DW,DW⟩),G6.1.2.2.2.2.2.2.2.2.2.2.2.2.1,G6.1.2.2.2.2.2.2.2.2.2.2.2.2.2.1,G6.1.2.2.2.2.2.2.2.2.2.2.2.2.2.2.1,G6.1.2.2.2.2.2.2.2.2.2.2.2.2.2.2.2.1,G6.1.2.2.2.2.2.2.2.2.2.2.2.2.2.2.2.2⟩,G6.2⟩ (Ad 0 G (Ad 1 G (Ad 2 G (Ad 3 G Aa)))) fun BH=>Au 1 G<|AQ<|Ej BH G trivial G Aa
theorem AqL{S:Bv}(Ag:VB S)(Bh:LN S=true):Ap3 S:=fun j=>by
 have h:=((Zc Ag.ac Ag.PZ Ag.O8).1 Bh).1;rcases ACq j S.Aj.length with Ay|Ay
 ·
  obtain⟨q1,q2,_⟩:=h.acc _ (Hl Ay);exact ABB (S0 (q1.acc q2)) ARp
 rw[ACn,ACd Ay];decide
section
variable{c:Cj} {ops:Array Oper} {env:Env} {L:Go.A_.Own} {D:List Atom} {rest:List Oper} {d:Nat}
theorem ApG{J:Cj->Array Oper->List Oper->Env->Go.A_.Own->List Atom->Prop}{v J4:Value}(h:v=J4)(k:J c ops rest ((d,J4)::env) L D):J c ops rest ((d,v)::env) L D:=h▸k
end
theorem AjC:H5 AG 116 156 2:=⟨Tryz.underlying116,ARs⟩
theorem AlU:E3 AG 156 [ALu,AL7]:=E3.mk ARs
theorem tn:H5 AG 91 97 7:=⟨Tryz.underlying91,ARs⟩
theorem AhJ(b:Nat)(W:Ah)(AS A1 AY A9 Ba Bd Bp Bi:Value)(a:AD)(Cw:Value)(Z:Ah)(AW:W.put a=Z)(_:W.wf)(hlen:W.S.Aj.length<=100000)(C6:a.wf):Aw AG 87 [ALM b 0,.agg (A3 a Cw).toArray] [AO b 118 (FB W AS A1 AY A9 Ba Bd Bp Bi),@row AD GR 58 AS W.S.Aj,@row BX Ha 108 AY W.S.AA,@row FE Nk 97 Bp W.EF,@row JE TQ 156 Bi W.BQ] [⟨Cw,a.A0⟩] (fun(_:Value) _=>True) (fun y _=>[AO b 118 (FB Z y A1 AY A9 Ba Bd Bp Bi),@row AD GR 58 y Z.S.Aj,@row BX Ha 108 AY Z.S.AA,@row FE Nk 97 Bp Z.EF,@row JE TQ 156 Bi Z.BQ]) (fun _ _=>[]):=by
 refine Aw.proof Tryz.func87 G 39 G G fun X w=>Ae<|CV G G G fun DQ=>Ac<|Am<|Gx mixed ARs<|AX 6 [1] G G<|AX 1 [0] G G<|dH [⟨AS,W.S.Aj⟩] (nn AS W.S.Aj a.Al hlen) (Ar G) G (DU.row 2 G DU.nil) (Ad 0 G Aa) G<|U 5 G<|Gj<|A5<|Am<|Ae<|An G G<|Ac<|BN G (fun DA=>?_) (fun DA=>?_)
 ·
  have C_:(Cz (fun x:AD=>x.Al) Ds a.Al W.S.Aj)<W.S.Aj.length:=YD (by rw[DA];decide);refine Am<|Ow 8 mixed ARs<|AX 6 [1] G G<|BJ 0 (A3 a Cw) G G (At G) G G<|IF 2 ((Cz (fun x:AD=>x.Al) Ds a.Al W.S.Aj)) G G G Gt AMT AMT G<|Oq<|Qz (s:=Nn) 2 ((Cz (fun x:AD=>x.Al) Ds a.Al W.S.Aj)) (ov:=a) Cw G G G AMT (At G) (Ad 0 G Aa) C6<|Ac<|BA ?_;have AB:{W with S:={W.S with Aj:=W.S.Aj.set (Cz (fun x:AD=>x.Al) Ds a.Al W.S.Aj) a}}=Z:=(by rw[<-AW,Ah.put,FQ,AA_ DA]);subst AB;exact AQ<|Ej AS G trivial G Aa
 refine AZ<|AuG [[(8,.f1 8 fun BM=>[AO (FH (BM 0)) 58 (A3 a Cw)]),(9,.f1 9 fun _=>[])]] [(2,[(13,.f1 9 fun BM=>[AO b 118 (FB W (BM 0) A1 AY A9 Ba Bd Bp Bi)])]),(3,[(9,.f1 9 fun BM=>[@row AD GR 58 (BM 0) (FO (Cz (fun x:AD=>x.Al) Ds a.Al W.S.Aj) a W.S.Aj)])])] [(8,Ol [0] fun A4=>some (.slice (some ⟨(FH (A4 0)),0,none⟩) 1 1)),(9,Ol [0,3] fun A4=>some ((A4 0))),(13,DF [2,3] undef)] [(5,2),(7,1)] [] (fun _=>G) (fun _=>G) (fun Ai AV Az=>⟨fun _=>Lw G OI G G G G fun ZZ=>BU [ALM ZZ 0] [] 0 G G,fun _=>D9 1 G<|Hs 2 (qp AS W.S.Aj (Cz (fun x:AD=>x.Al) Ds a.Al W.S.Aj) _ a Cw (St _ _) C6 hlen) (Ar G) G G (Ad 0 G Aa) G fun _ Mo _=>BU [Mo] [] 0 G G,fun _=>IL 0 1 G G G G (A2 G) (Da G)<|BU [] [] 0 G G,trivial⟩) fun Ai _=>?_;generalize FH (Ai 8 0)=ZZ,Ai 9 0=Nr;have AB:{W with S:={W.S with Aj:=FO (Cz (fun x:AD=>x.Al) Ds a.Al W.S.Aj) a W.S.Aj}}=Z:=by rw[<-AW,Ah.put,FQ,AA9 (by rw[DA];decide)]
 subst AB;exact AQ<|Dz Nr G trivial G Aa
@[reducible] def Jn(Bu:Ah)(Hz:List AD):=({Bu with S:={Bu.S with Aj:=Hz}}:Ah)
@[reducible] def KO(Ax:Ah)(i:Nat):=HY (Jv Ax.S Ax.ix) Ax.S.Aj i
theorem Ads(W:Ah)(x:JE):∃A,W.Iv x={W with S:={W.S with Aj:=A}}:=by
 unfold Ah.Iv;split
 · exact⟨W.S.Aj,G⟩
 split
 · exact⟨_,G⟩
 exact⟨W.S.Aj,G⟩
theorem ARI:∀(l:List JE) (W:Ah),∃A,l.foldl Ah.Iv W={W with S:={W.S with Aj:=A}}
 |[],W=>⟨W.S.Aj,rfl⟩
 |x::l,W=>by
  obtain⟨A,h⟩:=Ads W x;obtain⟨vB,h2⟩:=ARI l (W.Iv x);rw[h]at h2;exact⟨vB,by rw[List.foldl_cons,h];exact h2⟩
theorem Aiu{W Ax Bu:Ah}{A:List AD}(Af:({W with S:=LG W.S}:Ah)=Ax)(h2:({Ax with S:={Ax.S with Aj:=Ax.S.Aj.map (Jv Ax.S Ax.ix)}}:Ah)=Bu)(Ag:Bu.BQ.foldl Ah.Iv Bu={Bu with S:={Bu.S with Aj:=A}}):({Bu with S:={Bu.S with Aj:=A.filter (fun a=> !FT a)}}:Ah)=W.rest:=by
 have e:W.rest={Bu.BQ.foldl Ah.Iv Bu with S:={(Bu.BQ.foldl Ah.Iv Bu).S with Aj:=(Bu.BQ.foldl Ah.Iv Bu).S.Aj.filter (fun a=> !FT a)}}:=by
  subst Af;subst h2;rfl
 rw[e,Ag]
theorem Ais(b:Nat)(nd:List Nat)(W:Ah)(Z:Ah)(AW:W.rest=Z)(BO:Ce W.S)(Af:1<=W.ix)(h2:W.ix<=EW):Aw AG 41 [ALM b 0] [DS b nd W] [] (fun(_:List Nat) _=>True) (fun y _=>[DS b y Z]) (fun _ _=>[]):=by
 refine Aw.proof Tryz.func41 G 117 G G fun X w=>Ae<|An G G ?_;obtain⟨Ax,CB⟩:∃V,{W with S:=LG W.S}=V:=⟨_,rfl⟩;refine Ch 0 (Abm b _ W Ax CB BO) (Ar G) G G Aa G fun HC _ _=>?_;have HR:Ce Ax.S:=by rw[<-CB];exact(jc BO).1
 have SJ:1<=Ax.ix:=by rw[<-CB];exact Af
 have Ug:Ax.ix<=EW:=by rw[<-CB];exact h2
 refine Ac<|Am<|Am<|Gu fun AS A1 AY A9 Ba Bd Bp Bi AU=>?_;refine rg<|AX 5 [0] G G<|JX 1 G G Tryz.underlying36 G fun Adg=>An G G<|Ac<|B5<|Hx (σ:=Nat) [(0,_),(16,_),(17,_)] _ (fun i C=>(18,.int .i64 (i:Int))::C) (fun i=>[AO b 118 (FB Ax AS A1 AY A9 Ba Bd Bp Bi),row 58 AS (KO Ax i),row 108 AY Ax.S.AA,row 97 Bp Ax.EF,row 156 Bi Ax.BQ,CL X w]) (fun _ Dw=>Dw) (fun i=>i<=Ax.S.Aj.length) (fun i=>Ax.S.Aj.length-i) 0 (Bs G) (Ad 0 G (Ad 1 G (Ad 2 G (Ad 3 G Aa)))) (ABg _) (Bs G) G (Ad 0 G (Ad 1 G (Ad 2 G (Ad 3 G Aa)))) ?_;intro i Ag;show CF _ _ _ [(18,.int .i64 ((i:Int))),(0,_),(16,_),(17,_)] [AO b 118 (FB Ax AS A1 AY A9 Ba Bd Bp Bi),row 58 AS (KO Ax i),row 108 AY Ax.S.AA,row 97 Bp Ax.EF,row 156 Bi Ax.BQ,CL X w] _;refine AF 1 G<|Am<|B9 G (fun Fe=>?_) (fun Fe=>?_)
 ·
  refine AZ<|Am<|B5<|Am ?_;have jt:(KO Ax i).length=Ax.S.Aj.length:=rq;refine rg<|An G G<|IF 1 (i) G G G Gt AMT AMT G<|Qk (s:=Nn) 1 (i) G G JP (At G) G fun LM mu=>CT Hd G fun DQ=>U 1 G<|Cp 1 G fun AeY=>?_;refine BZ 0 (us:=(A3 (((KO Ax i).getD (i) default)) LM)) G G G (At G) (by simp only[ABn,ABr,ABp,AeY];rfl) G<|Ac<|Am<|Gx mixed ARs<|AX 3 [0] G G<|GZ 2 G fun JZ=>GZ 3 G fun o2=>?_;refine GZ 4 G fun MG=>?_;refine GZ 5 G fun NU=>?_;refine GO (q:=Value.oneCell' _=true) (fun S w h=>Fh (h _ (AA' (i:=2) G))) fun o1=>GO (q:=Value.oneCell' _=true) (fun S w h=>Fh (h _ (AA' (i:=3) G))) fun IJ=>GO (q:=Value.oneCell' _=true) (fun S w h=>Fh (h _ (AA' (i:=4) G))) fun J0=>GO (q:=Value.oneCell' _=true) (fun S w h=>Fh (h _ (AA' (i:=5) G))) fun Ks=>dH [Ov b Ax AS A1 AY A9 Ba Bd Bp Bi,⟨AY,Ax.S.AA⟩] (uJ b Ax AS A1 AY A9 Ba Bd Bp Bi ((KO Ax i).getD i default).Al mu.1) (Ar G) G (DU.AO 1 G (Y_ JZ o1 o2 IJ J0 Ks MG NU AU) (DU.row 3 G DU.nil)) (Ad 0 G (Ad 1 G Aa)) G<|An G G ?_;refine DE 27 8 [0,2,3,16,17,18] G G (fun G4 g1=>by
   exact U 3 G<|Bl G G G<|BJ 1 (BY Ax.S AS A1 AY A9 Ba Bd) G G (At G) G G<|AX 2 [0] G G<|Bl G G G<|HD (TV _ _ _ _ _ _ _ _ AU.1) (Ar G) G Aa G<|U 1 G<|g1 G Br) ?_
  refine Gj<|A5<|BN G (fun Lz=>?_) (fun Lz=>?_)
  ·
   refine AuG [] [(2,[(16,.f0 (row 58 AS ((KO Ax i).set (i) (Mx ((KO Ax i).getD i default) Ax.ix).1)))])] [(11,Ff [] (fun A4=>some (.tuple #[.agg (A3 ((Mx ((KO Ax i).getD i default) Ax.ix).1) (A4 0)).toArray,.int .i64 ((Mx ((KO Ax i).getD i default) Ax.ix).2)])) fun A4=>[⟨(A4 0),(Mx ((KO Ax i).getD i default) Ax.ix).1.A0⟩]),(15,DF [2] ((JI AS ((i)*10)))),(16,DF [2] undef)] [(4,1),(6,0),(10,1)] [0,16,17,18] (fun _=>G) (fun _=>G) (fun Ai AV Az=>⟨fun _=>?_,fun _=>IF 0 (i) G G G Gt AMT AMT G<|BU [] [] 1 G G,fun _=>Qz (s:=Nn) 0 (i) (ov:=(Mx ((KO Ax i).getD i default) Ax.ix).1) (Ai 11 0) G G G AMT (At G) (Ad 0 G Aa) (by rw[Rk AMT];exact(ig (HR.acc (Ax.S.Aj.getD i default) (Hl AMT)).2.1 (HR.acc (Ax.S.Aj.getD i default) (Hl AMT)).1 SJ Ug).2.2.wf)<|BU [] [] 1 G G,trivial⟩) fun Ai _=>?_
   ·
    refine Dm (zZ _ _ Ax.ix (Mx ((KO Ax i).getD i default) Ax.ix) G mu AU.2.1) (Ar G) G (Ad 1 G Aa) G fun vi AoM aH=>?_;subst aH;exact BU [vi] [0] 1 G G
   generalize Ai 11 0=vi;refine CU<|A5<|rg<|C5 G G BV G<|An G G<|nl<|AQ ?_;have Wq:(KO Ax i).set i (Mx ((KO Ax i).getD i default) Ax.ix).1=HY (Jv Ax.S Ax.ix) Ax.S.Aj (i+1):=fj AMT (by rw[Rk AMT];rw[Rk AMT]at Lz;exact(AA_ Lz).symm);rw[Wq];exact Dy (i+1) AMT AMT (Bs G) G (BE [3,4,5,6] G)
  refine AuG [] [(2,[(12,.f0 (row 58 AS ((KO Ax i).set (i) (OA ((KO Ax i).getD i default)).1)))])] [(7,Ff [] (fun A4=>some (.tuple #[.agg (A3 ((OA ((KO Ax i).getD i default)).1) (A4 0)).toArray,.int .i64 ((OA ((KO Ax i).getD i default)).2)])) fun A4=>[⟨(A4 0),(OA ((KO Ax i).getD i default)).1.A0⟩]),(11,DF [2] ((JI AS ((i)*10)))),(12,DF [2] undef)] [(4,1),(6,0)] [0,16,17,18] (fun _=>G) (fun _=>G) (fun Ai AV Az=>⟨fun _=>?_,fun _=>IF 0 (i) G G G Gt AMT AMT G<|BU [] [] 1 G G,fun _=>Qz (s:=Nn) 0 (i) (ov:=(OA ((KO Ax i).getD i default)).1) (Ai 7 0) G G G AMT (At G) (Ad 0 G Aa) (by rw[Rk AMT];exact(l8 (HR.acc (Ax.S.Aj.getD i default) (Hl AMT)).2.1 (HR.acc (Ax.S.Aj.getD i default) (Hl AMT)).1).2.2.wf)<|BU [] [] 1 G G,trivial⟩) fun Ai _=>?_
  ·
   refine Dm (Akf _ _ (OA ((KO Ax i).getD i default)) G mu) (Ar G) G (Ad 1 G Aa) G fun HS uh Tg=>?_;subst Tg;exact BU [HS] [0] 1 G G
  generalize Ai 7 0=HS;refine CU<|A5<|rg<|C5 G G BV G<|An G G<|nl<|AQ ?_;have Wq:(KO Ax i).set i (OA ((KO Ax i).getD i default)).1=HY (Jv Ax.S Ax.ix) Ax.S.Aj (i+1):=fj AMT (by rw[Rk AMT];rw[Rk AMT]at Lz;exact(AA9 (by rw[Lz];decide)).symm);rw[Wq];exact Dy (i+1) AMT AMT (Bs G) G (BE [3,4,5,6] G)
 obtain rfl:i=Ax.S.Aj.length:=AMT;rw[show KO Ax Ax.S.Aj.length=_ from rp];refine ex<|Ck<|Ck<|D7<|A5<|Am<|Am<|Ho ({Ax with S:={Ax.S with Aj:=Ax.S.Aj.map (Jv Ax.S Ax.ix)}}:Ah) AS A1 AY A9 Ba Bd Bp Bi G AU (BE [0,1,2,3] G) fun BH=>?_;obtain⟨Bu,Fz⟩:∃V:Ah,({Ax with S:={Ax.S with Aj:=Ax.S.Aj.map (Jv Ax.S Ax.ix)}}:Ah)=V:=⟨_,rfl⟩;rw[Fz];have Sy:Ce Bu.S:=by
  rw[<-Fz];exact HR.bE fun a AK=>jP SJ Ug (HR.acc a AK).1 (HR.acc a AK).2.1
 refine Gu fun TA O2 M' O3 O4 O5 Na Nb G6=>?_;refine rg<|AX 4 [0] G G<|JX 4 G G Tryz.underlying116 G fun AnX=>An G G<|Ac<|B5<|Hx (σ:=Nat×Value) [(0,_),(68,_),(69,_)] _ (fun s C=>(70,.int .i64 (s.1:Int))::C) (fun s=>[AO b 118 (FB Bu s.2 O2 M' O3 O4 O5 Na Nb),@row AD GR 58 s.2 ((Bu.BQ.take s.1).foldl Ah.Iv Bu).S.Aj,row 108 M' Bu.S.AA,row 97 Na Bu.EF,row 156 Nb Bu.BQ,CL X w]) (fun _ Dw=>Dw) (fun s=>s.1<=Bu.BQ.length) (fun s=>Bu.BQ.length-s.1) (0,TA) (Bs G) (Ad 0 G (Ad 1 G (Ad 2 G (Ad 3 G (Ad 4 G (Ad 5 G (Ad 6 G (Ad 7 G Aa)))))))) (ABg _) (Bs G) G (Ad 0 G (Ad 1 G (Ad 2 G (Ad 3 G (Ad 4 G (Ad 5 G (Ad 6 G (Ad 7 G Aa)))))))) ?_;rintro⟨i,L3⟩ Ag;simp only at Ag;obtain⟨Hz,Og⟩:=ARI (Bu.BQ.take i) Bu;have tO:=Yd (fun u d hu=>fe (x:=d) hu) (Bu.BQ.take i) Sy;rw[Og]at tO;have fW:=tO.ws;show CF _ _ _ [(70,.int .i64 (i:Int)),(0,_),(68,_),(69,_)] [AO b 118 (FB Bu L3 O2 M' O3 O4 O5 Na Nb),@row AD GR 58 L3 ((Bu.BQ.take i).foldl Ah.Iv Bu).S.Aj,row 108 M' Bu.S.AA,row 97 Na Bu.EF,row 156 Nb Bu.BQ,CL X w] _;rw[Og];show CF _ _ _ [(70,.int .i64 ((i:Int))),(0,_),(68,_),(69,_)] [AO b 118 (FB Bu L3 O2 M' O3 O4 O5 Na Nb),@row AD GR 58 L3 Hz,row 108 M' Bu.S.AA,row 97 Na Bu.EF,row 156 Nb Bu.BQ,CL X w] _;refine AF 1 G<|Am<|B9 G (fun KM=>?_) (fun KM=>?_)
 ·
  refine AZ<|Am<|B5<|Ae<|IF 4 (i) G G G AjC AMT AMT G<|Qk (s:=tm) 4 (i) G G JP (At G) G fun Aos uA=>CT AlU G fun E'=>BZ 0 (us:=(dK ((Bu.BQ.getD (i) default)))) G G G (At G) G G<|Ac<|Am<|AuG [[(10,.f1 10 fun BM=>[AO (FH (BM 0)) 58 N9]),(11,.f2 10 6 fun BM GL=>[AO (FH (BM 0)) 58 (A3 ((BF (Jn Bu Hz).S.Aj (Bu.BQ.getD (i) default).Al).1) (GL 0))])]] [] [(6,Ff [3] (fun A4=>some (.tuple #[.agg (A3 ((BF (Jn Bu Hz).S.Aj (Bu.BQ.getD (i) default).Al).1) (A4 0)).toArray,.bool ((BF (Jn Bu Hz).S.Aj (Bu.BQ.getD (i) default).Al).2)])) fun A4=>[⟨(A4 0),(BF (Jn Bu Hz).S.Aj (Bu.BQ.getD (i) default).Al).1.A0⟩]),(10,O6 [0]),(11,DF [0] undef)] [(3,2),(5,1)] [0,5,68,69,70,6,7] (fun _=>G) (fun _=>G) (fun Ai AV Az=>⟨fun _=>?_,fun _=>CT Hd G fun Hg=>BU [ALM Hg 0] [] 0 G G,fun _=>?_,trivial⟩) fun Ai _=>?_
  ·
   refine Uw [⟨L3,(Jn Bu Hz).S.Aj⟩] (UI (Jn Bu Hz).S _ _ _ _ _ _ (Bu.BQ.getD (i) default).Al (BF (Jn Bu Hz).S.Aj (Bu.BQ.getD (i) default).Al) G (Au1 fW)) (fun _ _=>Vi) (Ar G) G (DU.row 0 G DU.nil) (Ad 0 G Aa) G fun vk gC ez=>?_;obtain⟨yP,Apg⟩:=ez;subst yP;exact JO<|BU [vk] [0] 1 G G
  ·
   refine Cp 0 G fun Ka=>?_;exact BZ 0 (us:=(A3 ((BF (Jn Bu Hz).S.Aj (Bu.BQ.getD (i) default).Al).1) (Ai 6 0))) G G G (At G) (by simp only[ABn,ABr,ABp,Ka];rfl) G<|BU [] [] 1 G G
  generalize FH (Ai 10 0)=Hg,Ai 6 0=vk;refine A5<|Am<|AF 2 G<|BN G (fun iN=>?_) (fun iN=>?_)
  ·
   have AhS:(BF (Jn Bu Hz).S.Aj (Bu.BQ.getD i default).Al).2=false:=(by simpa using iN);refine ex<|Ck<|D7<|A5<|rg<|C5 G G BV G<|An G G<|nl<|AQ<|AQ ?_;have JU:((Bu.BQ.take (i+1)).foldl Ah.Iv Bu)=(Jn Bu Hz):=(NH AMT).trans (by rw[Og,Ah.Iv];exact AA_ AhS);have he:Hz=((Bu.BQ.take (i+1)).foldl Ah.Iv Bu).S.Aj:=(by rw[JU]);rw[he];exact Dy ((i+1,L3):Nat×Value) (by show i+1<=_;omega) (by show Bu.BQ.length-(i+1)<Bu.BQ.length-i;omega) (Bs G) G (BE [2,3,4,5,6,7,8,9] G)
  have f1:(BF (Jn Bu Hz).S.Aj (Bu.BQ.getD i default).Al).2=true:=(by simpa using iN);have f2:=en fW f1;refine AZ<|Am<|AuG [[(15,.f1 15 fun BM=>[AO (FH (BM 0)) 58 N9]),(16,.f2 15 11 fun BM GL=>[AO (FH (BM 0)) 58 (A3 ((Kl (BF (Jn Bu Hz).S.Aj (Bu.BQ.getD i default).Al).1 (Bu.BQ.getD i default).Bn Bu.ix Bu.AGm).1) (GL 0))])]] [] [(11,Ff [] (fun A4=>some (.tuple #[.agg (A3 ((Kl (BF (Jn Bu Hz).S.Aj (Bu.BQ.getD i default).Al).1 (Bu.BQ.getD i default).Bn Bu.ix Bu.AGm).1) (A4 0)).toArray,.int .i64 ((Kl (BF (Jn Bu Hz).S.Aj (Bu.BQ.getD i default).Al).1 (Bu.BQ.getD i default).Bn Bu.ix Bu.AGm).2)])) fun A4=>[⟨(A4 0),(Kl (BF (Jn Bu Hz).S.Aj (Bu.BQ.getD i default).Al).1 (Bu.BQ.getD i default).Bn Bu.ix Bu.AGm).1.A0⟩]),(15,O6 [0]),(16,DF [0] undef)] [(0,1),(2,2),(6,3),(10,3)] [0,68,69,70,8,9] (fun _=>G) (fun _=>G) (fun Ai AV Az=>⟨fun _=>?_,fun _=>CT Hd G fun K0=>BU [ALM K0 0] [] 0 G G,fun _=>?_,trivial⟩) fun Ai _=>?_
  ·
   refine Dm (AaA _ _ (Bu.BQ.getD i default).Bn Bu.ix Bu.AGm (Kl (BF (Jn Bu Hz).S.Aj (Bu.BQ.getD i default).Al).1 (Bu.BQ.getD i default).Bn Bu.ix Bu.AGm) G (Q3 fW) uA.1 G6.2.1 G6.2.2.1) (Ar G) G (Ad 0 G Aa) G fun mU AoY AaR=>?_;subst AaR;exact BU [mU] [0] 1 G G
  ·
   refine Cp 0 G fun Ka=>?_;exact BZ 0 (us:=(A3 ((Kl (BF (Jn Bu Hz).S.Aj (Bu.BQ.getD i default).Al).1 (Bu.BQ.getD i default).Bn Bu.ix Bu.AGm).1) (Ai 11 0))) G G G (At G) (by simp only[ABn,ABr,ABp,Ka];rfl) G<|BU [] [] 1 G G
  generalize FH (Ai 15 0)=K0,Ai 11 0=mU;refine A5<|AF 2 G<|B9 G (fun Q7=>?_) (fun Q7=>?_)
  ·
   have z0:=(iv f2.2.1 Q7).2.2.2.2.2.2.2.2.2.2;refine rg<|An G G<|BJ 0 (A3 ((Kl (BF (Jn Bu Hz).S.Aj (Bu.BQ.getD i default).Al).1 (Bu.BQ.getD i default).Bn Bu.ix Bu.AGm).1) mU) G G (At G) G G<|D9 7 G<|D9 7 G<|D9 7 G<|D9 7 G<|D9 7 G<|Hs 5 (AhJ b (Jn Bu Hz) L3 O2 M' O3 O4 O5 Na Nb (Kl (BF (Jn Bu Hz).S.Aj (Bu.BQ.getD i default).Al).1 (Bu.BQ.getD i default).Bn Bu.ix Bu.AGm).1 _ (Ah.put (Jn Bu Hz) (Kl (BF (Jn Bu Hz).S.Aj (Bu.BQ.getD i default).Al).1 (Bu.BQ.getD i default).Bn Bu.ix Bu.AGm).1) G G6 (ABB fW.len ARp) z0.wf) (Ar G) G G (Ad 0 G Aa) G fun AlE _ _=>nl<|CU<|A5<|rg<|C5 G G BV G<|An G G<|nl<|Au 5 G<|AQ<|Au 5 G<|AQ<|Au 5 G<|AQ ?_;have JU:((Bu.BQ.take (i+1)).foldl Ah.Iv Bu)=Ah.put (Jn Bu Hz) (Kl (BF (Jn Bu Hz).S.Aj (Bu.BQ.getD i default).Al).1 (Bu.BQ.getD i default).Bn Bu.ix Bu.AGm).1:=(NH AMT).trans (by rw[Og,Ah.Iv];exact(AA9 (fun q=>ABd (ABS (AB3 q) f1))).trans (AA_ Q7));have he:(Ah.put (Jn Bu Hz) (Kl (BF (Jn Bu Hz).S.Aj (Bu.BQ.getD i default).Al).1 (Bu.BQ.getD i default).Bn Bu.ix Bu.AGm).1).S.Aj=((Bu.BQ.take (i+1)).foldl Ah.Iv Bu).S.Aj:=(by rw[JU]);rw[he];exact Dy ((i+1,AlE):Nat×Value) (by show i+1<=_;omega) (by show Bu.BQ.length-(i+1)<Bu.BQ.length-i;omega) (Bs G) G (BE [3,4,5,6,7,8,9,10] G)
  refine EG<|CU<|A5<|rg<|C5 G G BV G<|An G G<|nl<|AQ<|AQ<|AQ ?_;have JU:((Bu.BQ.take (i+1)).foldl Ah.Iv Bu)=(Jn Bu Hz):=(NH AMT).trans (by rw[Og,Ah.Iv];exact(AA9 (fun q=>ABd (ABS (AB3 q) f1))).trans (AA9 Q7));have he:Hz=((Bu.BQ.take (i+1)).foldl Ah.Iv Bu).S.Aj:=(by rw[JU]);rw[he];exact Dy ((i+1,L3):Nat×Value) (by show i+1<=_;omega) (by show Bu.BQ.length-(i+1)<Bu.BQ.length-i;omega) (Bs G) G (BE [3,4,5,6,7,8,9,10] G)
 obtain rfl:i=Bu.BQ.length:=AMT;rw[ACB]at Og;refine ex<|Ck<|Ck<|D7<|A5<|rg<|AX 6 [0] G G<|D9 1 G<|Hs 2 (oh L3 Hz 46 #[] [] [] (AO b 118 (FB Bu L3 O2 M' O3 O4 O5 Na Nb)) FT (fun _ _ _=>DU.nil) (Ar G) (fun x Pl h=>dz x Pl h)) (Ar G) G G Aa G fun _ AkA _=>U 3 G<|IL 1 0 G G G G (A2 G) (Da G)<|nl ?_;have AB:({Bu with S:={Bu.S with Aj:=(Hz.filter (fun a=> !FT a))}}:Ah)=Z:=(Aiu CB Fz Og).trans AW;subst AB;exact Au 4 G<|Au 4 G<|Au 4 G<|Au 3 G<|Au 4 G<|Es ({Bu with S:={Bu.S with Aj:=(Hz.filter (fun a=> !FT a))}}:Ah) AkA O2 M' O3 O4 O5 Na Nb G G6 (BE [0,1,2,3] G) fun BH=>Dz BH G trivial G Aa
def Dl(n:Nat)(W Z:Ah):Prop:=Z.B7<=W.B7+n
theorem Dl.refl{W:Ah}{n:Nat}:Dl n W W:=Nat.le_add_right ..
theorem Dl.ite{n:Nat}{W A B:Ah}{p:Prop}[Decidable p](AK:Dl n W A)(Aq:Dl n W B):Dl n W (if p then A else B):=by
 split
 · exact AK
 exact Aq
theorem Dl.mono{m n:Nat}{W Z:Ah}(h:Dl m W Z)(hm:m<=n):Dl n W Z:=ABB h (Nat.add_le_add_left hm _)
theorem Dl.eq{n:Nat}{W Z:Ah}(h:Z.B7=W.B7):Dl n W Z:=by unfold Dl;omega
theorem Dl.from{n:Nat}{W V Z:Ah}(h:Dl n V Z)(e:V.B7=W.B7):Dl n W Z:=by unfold Dl at*;omega
theorem ga(W:Ah)(c q n:Int)(k:ByteArray)(a:De):Dl 2 W (W.served c q n k a):=ta W c q n k a
theorem AfC(W:Ah)(c:Dg):Dl 12 W (W.op c):=by
 have Sl:(2:Nat)<=12:=ARp;unfold Ah.op;refine Dl.ite .refl ?_;simp only;refine Dl.ite .refl (Dl.ite (Dl.ite ?_ .refl) (Dl.ite ?_ ?_))
 · exact ABB (ACo (Xh ..)) AMT
 · exact ABB (ACo (Xh ..)) AMT
 generalize BC:({W with S:={W.S with Bz:=(IS W.S.Bz c.Ap c.As).1}}:Ah)=v;have e:v.B7=W.B7:=by rw[<-BC];rfl
 refine Dl.ite ?_ (Dl.ite ?_ (Dl.ite ((ga ..).mono Sl |>.from e) (Dl.eq e)))
 ·
  refine Dl.from ?_ e;unfold Ah.T5;refine Dl.ite ((ga ..).mono Sl) ?_;simp only;exact Dl.ite (Dl.eq G) (Dl.eq G)
 refine Dl.from ?_ e;exact(Dl.from (ga ..) G).mono Sl
theorem pa(W:Ah)(c q:Int):Dl 1 W (W.OR c q):=o' W c q
theorem Aaz(W:Ah)(c:Dg):Dl 12 W (W.UQ c):=by
 unfold Ah.UQ;simp only;refine Dl.mono (m:=2) ?_ ARp;split
 ·
  refine ABB (pa _ _ _) ?_;rw[X4];exact ABW _
 exact(pa ..).mono ARp
theorem AkP(W:Ah)(c:Dg):Dl 12 W (W.T' c):=by
 unfold Ah.T';simp only;refine Dl.ite .refl (Dl.ite (ABB (ACo (og ..)) ?_) (Dl.eq G));show W.B7+1<=W.B7+12;omega
theorem x0(W:Ah)(c:Dg):Dl 12 W (W.S5 c):=by
 unfold Ah.S5;refine Dl.ite .refl (Dl.eq ?_);simp only;rw[k3,hR];split<;>rfl
theorem l4(W:Ah)(l:List AD)(p:Fs):(W.Ry l p).B7=W.B7:=by
 have h:∀(l:List AD) (W:Ah),(l.foldl Ah.put W).B7=W.B7:=fun l=>by
  induction l with
  |nil=>exact fun _=>rfl
  |cons a l Cg=>exact fun W=>Cg (W.put a)
 unfold Ah.Ry;simp only;have:=h l W;split<;>exact this
theorem Ajm{W:Ah}(h:Ce W.S)(c:Dg):Dl 12 W (W.seal c):=by
 have D2:=h.wl;have AJ:=V0 h.VZ;unfold Ah.seal;simp only;refine Dl.ite .refl (Dl.ite .refl ?_);generalize BC:({W with S:={W.S with Bt:=c.Dj}}:Ah)=v;have e:v.B7=W.B7:=by rw[<-BC];rfl
 obtain⟨M,E,AN⟩:=j8 W.S.AA v;have N8:=j7 W.S.AA v;generalize List.foldl Ah.Ic v W.S.AA=u at AN N8 ⊢;have yR:u.S.Bj=W.S.Bj:=by rw[AN,<-BC]
 have OF:=lF (u.drop fun x=>Ef u.S x.AM.Al).S.Bj (u.drop fun x=>Ef u.S x.AM.Al);rw[hR]at OF;have DC:(u.drop fun x=>Ef u.S x.AM.Al).S.Bj.length<=4:=by show u.S.Bj.length<=4;rw[yR];exact AJ
 show Ah.B7 (List.foldl O' (u.drop fun x=>Ef u.S x.AM.Al) (u.drop fun x=>Ef u.S x.AM.Al).S.Bj)<=W.B7+12;omega
theorem Aku(W:Ah)(c:Dg):Dl 12 W (W.unseal c):=by
 unfold Ah.unseal;simp only;refine Dl.ite .refl (Dl.ite (Dl.ite (Dl.eq G) .refl) (Dl.ite .refl (Dl.ite .refl ?_)));refine Dl.ite (Dl.eq ?_) (Dl.eq ?_)
 · exact l4 ..
 exact l4 ..
theorem wL(W:Ah)(c:Dg):Dl 12 W (W.RI c):=by
 unfold Ah.RI;simp only;refine Dl.ite .refl (Dl.ite .refl (Dl.ite (Dl.eq G) (Dl.eq ?_)));exact l4 ..
theorem n1{W:Ah}(h:Ce W.S)(c:Dg):Dl 12 W (W.cmd c):=by
 unfold Ah.cmd;refine Dl.ite (AfC ..) (Dl.ite ?_ (Dl.ite (Aaz ..) (Dl.ite ?_ (Dl.ite (AkP ..) (Dl.ite (x0 ..) (Dl.ite ?_ (Dl.ite (Ajm h c) (Dl.ite (Aku ..) (Dl.ite (wL ..) (Dl.ite ?_ .refl))))))))))
 ·
  unfold Ah.report;exact Dl.ite .refl (Dl.ite (Dl.eq G) .refl)
 ·
  unfold Ah.Vc;exact Dl.ite .refl (Dl.ite .refl (Dl.eq G))
 ·
  unfold Ah.forget;exact Dl.ite (Dl.eq G) .refl
 unfold Ah.WS;exact Dl.ite .refl (Dl.eq G)
end Go.Apw
namespace Go.A_
section
def Yc:Value->Option Bool
 | .nilFunc=>some true
 | .func .. =>some false
 |_=>none
theorem AiN{P:Program}{T:TypeId}{ps rs:Array TypeId}{Pk:Bool}(hu:P.underlying T=some (.func ps rs Pk)){v:Value}{q:Bool}(BC:Yc v=some q)(w:World):(Op.equal T v .nilFunc).run P w=.ok q w:=by
 have h:∀d:Nat,(Op.equalIn (d+1) T v .nilFunc).run P w=.ok q w:=fun d=>by
  cases v<;>simp[Yc]at BC<;>subst BC<;>simp[Op.equalIn,ABQ hu]
 exact h 9999
section
variable{c:Cj} {ops:Array Oper} {J:Cj->Array Oper->List Oper->Env->Own->List Atom->Prop} [Dr:Ip J] {env:Env} {L:Own} {D:List Atom} {rest:List Oper} {d:Nat} {t:TypeId} {p:String} {af:Array Edge} {x y:Operand} {Ec FK:TypeId}
include Dr
theorem Ael{ps rs:Array TypeId}{Pk:Bool}{v:Value}{q:Bool}(BC:Yc v=some q)(hu:c.P.underlying Ec=some (.func ps rs Pk))(Ab:AL env x=some v)(Bf:AL env y=some .nilFunc)(Ao:Nat.blt d c.n=true)(k:J c ops rest ((d,.bool (!q))::env) L D):
 J c ops (⟨some d,.binOp .neq Ec x y FK,t,p,af,none⟩::rest) env L D:=
 pu rfl rfl Ao (fun a w f=>by
  have B4:=AiN hu BC w;have DC:(binOp .neq Ec v .nilFunc).run c.P w=.ok (.bool (!q)) w:=by
   cases v<;>simp[Yc]at BC<;>simp[binOp,B4]
  have Kk:(eqGuard .neq Ec x y v .nilFunc).run c.P w=.ok () w:=by
   cases v<;>simp[Yc]at BC<;>simp[eqGuard]
  simp[execOp,f.AL Ab,f.AL Bf,DC,Kk]) k
theorem AcV{T E:TypeId}{n:Nat}{ps rs:Array TypeId}{Pk:Bool}{tW:TypeInfo}{cs:Array Value}{m:Int}{u:Value}(hu:c.P.underlying T=some (.array n E))(he:c.P.underlying E=some (.func ps rs Pk))(Ag:c.P.info? E=some tW)(Cu:tW.size=1)
 (Ab:AL env x=some (.agg cs))(Bf:AL env y=some (.int .i64 m))(Bw:0<=m)(Af:m<n)(BC:cs[m.toNat]? =some u)(Ao:Nat.blt d c.n=true)(k:J c ops rest ((d,u)::env) L D):J c ops (⟨some d,.index T x y,t,p,af,none⟩::rest) env L D:=
 pu rfl rfl Ao (fun a w f=>by
  simp[execOp,f.AL Ab,f.AL Bf,Instr.index,asIntOf,ABQ hu,Bw,Af,sizeOf,typeInfo,Ag,Cu,part,isAgg,ABQ he,BC]) k
end
end
end Go.A_
namespace Go.Apw
def l5:Array Value:= #[.nilFunc,.func (.func 66) #[] #[],.func (.func 67) #[] #[],.func (.func 68) #[] #[],.func (.func 69) #[] #[],.func (.func 70) #[] #[],.func (.func 71) #[] #[],.func (.func 72) #[] #[],.func (.func 73) #[] #[],.func (.func 74) #[] #[],.func (.func 75) #[] #[],.func (.func 76) #[] #[]]
def Zl(k:Int):Value:=if(decide (k<1)||decide (k>11))=true then .nilFunc else l5.getD k.toNat .nilFunc
theorem tS{k:Int}(Af:1<=k)(h2:k<=11):Zl k=l5.getD k.toNat .nilFunc:=AA9 (by simp only[ABk,ABa];omega)
theorem Aj'(k:Int):Yc (Zl k)=some (decide (k<1)||decide (k>11)):=by
 by_cases h:1<=k/\k<=11
 ·
  rw[tS h.1 h.2];have:k=1\/k=2\/k=3\/k=4\/k=5\/k=6\/k=7\/k=8\/k=9\/k=10\/k=11:=AMT;rcases this with rfl|rfl|rfl|rfl|rfl|rfl|rfl|rfl|rfl|rfl|rfl<;>rfl
 have h:(decide (k<1)||decide (k>11))=true:=by simp only[ABk,ABa];omega
 rw[Zl,AA_ h,h];rfl
theorem Aj_{k:Int}(Af:1<=k)(h2:k<=11):l5[k.toNat]? =some (Zl k):=by
 rw[tS Af h2];have:k=1\/k=2\/k=3\/k=4\/k=5\/k=6\/k=7\/k=8\/k=9\/k=10\/k=11:=AMT;rcases this with rfl|rfl|rfl|rfl|rfl|rfl|rfl|rfl|rfl|rfl|rfl<;>rfl
theorem V_{P:Program}{f:Nat}{vs:List Value}{L0:Go.A_.Own}{DB:List Atom}{β:Type}{R:β->Value->Prop}{DM:β->Value->Go.A_.Own}{out:β->Value->List Atom}{A:Atom}(h:Aw P f vs L0 DB R DM out):Aw P f vs L0 (A::DB) R DM out:=fun X w Af h2 Bo BB=>h X w Af h2 Bo fun t Av=>BB t (ABR _ Av)
theorem x_{W:Ah}{c:Dg}(h:(decide (c.Ca<1)||decide (c.Ca>11))=true):W.cmd c=W:=by
 simp only[ABk,ABa]at h;unfold Ah.cmd;rw[AA9 AMT,AA9 AMT,AA9 AMT,AA9 AMT,AA9 AMT,AA9 AMT,AA9 AMT,AA9 AMT,AA9 AMT,AA9 AMT,AA9 AMT]
theorem Aj3(k:Int):Cv AG 39 [.int .i64 k] [] (Zl k):=by
 refine Aw.proof Tryz.func39 G 12 G G fun X w=>AF 1 G<|Am<|Ae<|U 3 G<|ET 5 3 [] [0] G G G<|Ac<|BN G (fun D2=>?_) (fun D2=>?_)
 · exact AF 1 G<|BA<|Bq () G G (by exact(AA_ D2).symm) G Aa
 refine AZ<|Ae<|Db (ps:=[(1,_),(2,_),(3,_),(4,_),(5,_),(6,_),(7,_),(8,_),(9,_),(10,_),(11,_)]) (cs:=[.nilFunc,.func (.func 66) #[] #[],.func (.func 67) #[] #[],.func (.func 68) #[] #[],.func (.func 69) #[] #[],.func (.func 70) #[] #[],.func (.func 71) #[] #[],.func (.func 72) #[] #[],.func (.func 73) #[] #[],.func (.func 74) #[] #[],.func (.func 75) #[] #[],.func (.func 76) #[] #[]]) ARz ARs G<|An G G ?_;have HZ:=D2;simp only[ABD,ABl]at HZ;exact AcV Tryz.underlying147 Tryz.underlying119 G ARs G G AMT AMT (Aj_ AMT AMT) G<|U 1 G<|Ac<|rt<|Bq () G G ARz G Aa
theorem x9(b:Nat)(nd:List Nat)(W:Ah)(c:Dg)(EE:Value)(Z:Ah)(AW:W.cmd c=Z)(BO:Ce W.S)(Ge:W.B7<=900)(BK:c.wf)(Af:1<=c.Ca)(h2:c.Ca<=11):∃f,Zl c.Ca=.func (.func f) #[] #[]/\GU AG f/\Aw AG f [ALM b 0,.agg (IT c EE).toArray] [DS b nd W] [⟨EE,c.Cf⟩] (fun(_:List Nat) _=>True) (fun y _=>[DS b y Z]) (fun _ _=>[]):=by
 have h:c.Ca=1\/c.Ca=2\/c.Ca=3\/c.Ca=4\/c.Ca=5\/c.Ca=6\/c.Ca=7\/c.Ca=8\/c.Ca=9\/c.Ca=10\/c.Ca=11:=AMT;rcases h with e|e|e|e|e|e|e|e|e|e|e
 ·
  rw[e];exact⟨_,G,(Ar G),V_ (Afv b nd W c EE Z (by rw[<-AW,Ah.cmd,AA_ e]) BO AMT BK)⟩
 ·
  rw[e];exact⟨_,G,(Ar G),V_ (Alp b nd W c EE Z (by rw[<-AW,Ah.cmd,AA9 (by rw[e];decide),AA_ e]) BO BK)⟩
 ·
  rw[e];exact⟨_,G,(Ar G),Ale b nd W c EE Z (by rw[<-AW,Ah.cmd,AA9 (by rw[e];decide),AA9 (by rw[e];decide),AA_ e]) BO AMT BK⟩
 ·
  rw[e];exact⟨_,G,(Ar G),Alm b nd W c EE Z (by rw[<-AW,Ah.cmd,AA9 (by rw[e];decide),AA9 (by rw[e];decide),AA9 (by rw[e];decide),AA_ e]) BO BK⟩
 ·
  rw[e];exact⟨_,G,(Ar G),V_ (AkN b nd W c EE Z (by rw[<-AW,Ah.cmd,AA9 (by rw[e];decide),AA9 (by rw[e];decide),AA9 (by rw[e];decide),AA9 (by rw[e];decide),AA_ e]) BO AMT BK)⟩
 ·
  rw[e];exact⟨_,G,(Ar G),Alc b nd W c EE Z (by rw[<-AW,Ah.cmd,AA9 (by rw[e];decide),AA9 (by rw[e];decide),AA9 (by rw[e];decide),AA9 (by rw[e];decide),AA9 (by rw[e];decide),AA_ e]) BO BK⟩
 ·
  rw[e];exact⟨_,G,(Ar G),V_ (Ald b nd W c EE Z (by rw[<-AW,Ah.cmd,AA9 (by rw[e];decide),AA9 (by rw[e];decide),AA9 (by rw[e];decide),AA9 (by rw[e];decide),AA9 (by rw[e];decide),AA9 (by rw[e];decide),AA_ e]) BO BK)⟩
 ·
  rw[e];exact⟨_,G,(Ar G),V_ (Ajj b nd W c EE Z (by rw[<-AW,Ah.cmd,AA9 (by rw[e];decide),AA9 (by rw[e];decide),AA9 (by rw[e];decide),AA9 (by rw[e];decide),AA9 (by rw[e];decide),AA9 (by rw[e];decide),AA9 (by rw[e];decide),AA_ e]) BO AMT BK)⟩
 ·
  rw[e];exact⟨_,G,(Ar G),V_ (Akr b nd W c EE Z (by rw[<-AW,Ah.cmd,AA9 (by rw[e];decide),AA9 (by rw[e];decide),AA9 (by rw[e];decide),AA9 (by rw[e];decide),AA9 (by rw[e];decide),AA9 (by rw[e];decide),AA9 (by rw[e];decide),AA9 (by rw[e];decide),AA_ e]) BO BK)⟩
 ·
  rw[e];exact⟨_,G,(Ar G),wJ b nd W c EE Z (by rw[<-AW,Ah.cmd,AA9 (by rw[e];decide),AA9 (by rw[e];decide),AA9 (by rw[e];decide),AA9 (by rw[e];decide),AA9 (by rw[e];decide),AA9 (by rw[e];decide),AA9 (by rw[e];decide),AA9 (by rw[e];decide),AA9 (by rw[e];decide),AA_ e]) BO BK⟩
 rw[e];exact⟨_,G,(Ar G),V_ (Aeh b nd W c EE Z (by rw[<-AW,Ah.cmd,AA9 (by rw[e];decide),AA9 (by rw[e];decide),AA9 (by rw[e];decide),AA9 (by rw[e];decide),AA9 (by rw[e];decide),AA9 (by rw[e];decide),AA9 (by rw[e];decide),AA9 (by rw[e];decide),AA9 (by rw[e];decide),AA9 (by rw[e];decide),AA_ e]) BO BK)⟩
theorem w4(S:Bv)(El EV D_ EA Em Eh:Value)(c:Dg)(EE:Value)(ix AGm:Int)(Z:Bv×List FE×Int)(AW:Gc S c ix AGm=Z)(Ag:VB S)(JV:S.wf)(BK:c.wf)(iZ:A' ix)(Tk:A' AGm):Aw AG 22 [.agg (BY S El EV D_ EA Em Eh).toArray,.agg (IT c EE).toArray,.int .i64 ix,.int .i64 AGm] [] [⟨El,S.Aj⟩,⟨EV,S.Bz⟩,⟨D_,S.AA⟩,⟨EA,S.Bj⟩,⟨Em,S.CX⟩,⟨Eh,S.Cf⟩,⟨EE,c.Cf⟩] (fun(y:Value×Value×Value×Value×Value×Value×Value) u=>u=.tuple #[.agg (BY Z.1 y.1 y.2.1 y.2.2.1 y.2.2.2.1 y.2.2.2.2.1 y.2.2.2.2.2.1).toArray,y.2.2.2.2.2.2,.int .i64 Z.2.2]/\Z.1.wf) (fun _ _=>[]) (fun y _=>[⟨y.1,Z.1.Aj⟩,⟨y.2.1,Z.1.Bz⟩,⟨y.2.2.1,Z.1.AA⟩,⟨y.2.2.2.1,Z.1.Bj⟩,⟨y.2.2.2.2.1,Z.1.CX⟩,⟨y.2.2.2.2.2.1,Z.1.Cf⟩,⟨y.2.2.2.2.2.2,Z.2.1⟩]):=by
 refine Aw.proof Tryz.func22 G 68 G G fun X w=>?_;obtain⟨Am5,Am6⟩:=id iZ;obtain⟨pk,pn⟩:=id Tk;refine DJ (α:=AD) ?_;refine DJ (α:=BL) ?_;refine DJ (α:=BX) ?_;refine DJ (α:=Bx) ?_;refine DJ (α:=Df) ?_;refine DJ (α:=UInt8) ?_;refine DJ (α:=FE) ?_;refine Ae<|CV G G G fun En=>CV G G G fun E'=>CT LQ G fun K0=>U 2 G<|Ac<|Am<|B5<|Ae<|BJ 2 (BY S El EV D_ EA Em Eh) G G (At G) G G<|B0 (tx _ _ _ _ _ _ _ JV) (Ar G) G (BE [7,8,9,10,11,12] G) G<|U 2 G<|Ac<|BN G (fun Dp=>?_) (fun Dp=>?_)
 ·
  have HJ:LN S=false:=(by simpa using Dp);have AB:((IP,[],21):Bv×List FE×Int)=Z:=by
   rw[<-AW,Gc];exact(AA_ HJ).symm
  subst AB;exact Ae<|Db (ps:=[]) (cs:=(BY Np AI AI AI AI AI AI)) ARz ARs G<|BZ 0 (us:=(BY Np AI AI AI AI AI AI)) G G G (At G) G G<|U 2 G<|Ac<|rt<|C9<|Cd<|D8 ⟨AI,AI,AI,AI,AI,AI,AI⟩ [_,_,_] (cj 0 G G G G G (At G)) (by exact⟨rfl,dd⟩) G (Ad 6 G (Ad 5 G (Ad 4 G (Ad 3 G (Ad 2 G (Ad 1 G (Ad 0 G Aa)))))))
 have HJ:¬LN S=false:=by
  rw[ABI]at Dp;rw[Dp];decide
 obtain⟨TS,_⟩:=(Zc Ag.ac Ag.PZ Ag.O8).1 (by simpa using HJ);have B7:=uS TS;refine Ae<|U 3 G<|ET 21 3 [] [2,3,4,5,8] G G G<|U 1 G<|Ac<|BN G (fun ER=>?_) (fun ER=>?_)
 ·
  have AB:((IP,[],1):Bv×List FE×Int)=Z:=by
   rw[<-AW,Gc];exact((AA9 HJ).trans (AA_ ER)).symm
  subst AB;exact Ae<|Db (ps:=[]) (cs:=(BY Np AI AI AI AI AI AI)) ARz ARs G<|BZ 0 (us:=(BY Np AI AI AI AI AI AI)) G G G (At G) G G<|U 2 G<|Ac<|rt<|C9<|Cd<|D8 ⟨AI,AI,AI,AI,AI,AI,AI⟩ [_,_,_] (cj 0 G G G G G (At G)) (by exact⟨rfl,dd⟩) G (Ad 6 G (Ad 5 G (Ad 4 G (Ad 3 G (Ad 2 G (Ad 1 G (Ad 0 G Aa)))))))
 have Nj:=ER;simp only[ABD,ABl]at Nj;refine Ae<|AX 5 [2] G G<|ET 31 3 [] [2,3,4,5,8] G G G<|U 1 G<|Ac<|BN G (fun JR=>?_) (fun JR=>?_)
 ·
  have AB:((IP,[],80):Bv×List FE×Int)=Z:=by
   rw[<-AW,Gc];exact((AA9 HJ).trans ((AA9 (fun q=>ABd (ABS (AB3 ER) q))).trans (AA_ JR))).symm
  subst AB;exact Ae<|Db (ps:=[]) (cs:=(BY Np AI AI AI AI AI AI)) ARz ARs G<|BZ 0 (us:=(BY Np AI AI AI AI AI AI)) G G G (At G) G G<|U 2 G<|Ac<|rt<|C9<|Cd<|D8 ⟨AI,AI,AI,AI,AI,AI,AI⟩ [_,_,_] (cj 0 G G G G G (At G)) (by exact⟨rfl,dd⟩) G (Ad 6 G (Ad 5 G (Ad 4 G (Ad 3 G (Ad 2 G (Ad 1 G (Ad 0 G Aa)))))))
 have Rq:=JR;simp only[ABD,ABl]at Rq;have AnI:ix<=EW:=by unfold EW;omega
 refine EG<|CU<|A5<|Ae<|BJ 2 (BY S El EV D_ EA Em Eh) G G (At G) G G<|Dm (yk S El EV D_ EA Em Eh JV (Au1 TS) B7.1 B7.2.1 B7.2.2.1 B7.2.2.2.1 B7.2.2.2.2.1 B7.2.2.2.2.2) (Ar G) G (BE [7,8,9,10,11,12] G) G fun db gA M5=>?_;obtain⟨KX,J5,Kd,Ke,IN,Ls⟩:=db;subst M5;refine U 2 G<|Db (ps:=[(0,.tmp 37),(1,.tmp 38),(2,.tmp 39)]) (cs:=(FB ((⟨S,ix,AGm,[],[]⟩:Ah)) KX J5 Kd Ke IN Ls AI AI)) ARz ARs G<|CV G G G fun b=>U 1 G<|Ac<|Ae<|U 5 G<|Fi 0 G G G (A2 G) G (Da G)<|Ac<|Am<|Am<|Lk JE 156<|Lk FE 97<|B8 1 G<|B8 1 G<|B8 4 G<|B8 4 G<|B8 4 G<|Ho (⟨{S with DX:=ix},ix,AGm,[],[]⟩:Ah) KX J5 Kd Ke IN Ls AI AI G ⟨⟨JV.1,iZ,JV.2.2.1,JV.2.2.2.1,JV.2.2.2.2.1,JV.2.2.2.2.2.1,JV.2.2.2.2.2.2.1,JV.2.2.2.2.2.2.2.1,JV.2.2.2.2.2.2.2.2.1,JV.2.2.2.2.2.2.2.2.2.1,JV.2.2.2.2.2.2.2.2.2.2.1,JV.2.2.2.2.2.2.2.2.2.2.2.1,JV.2.2.2.2.2.2.2.2.2.2.2.2.1,JV.2.2.2.2.2.2.2.2.2.2.2.2.2.1,JV.2.2.2.2.2.2.2.2.2.2.2.2.2.2.1,JV.2.2.2.2.2.2.2.2.2.2.2.2.2.2.2.1,JV.2.2.2.2.2.2.2.2.2.2.2.2.2.2.2.2⟩,iZ,Tk,trivial,trivial⟩ (Ad 0 G (Ad 2 G (Ad 3 G (Ad 4 G Aa)))) fun NB=>?_;obtain⟨VL,Yi⟩:∃V:Ah,(⟨{S with DX:=ix},ix,AGm,[],[]⟩:Ah)=V:=⟨_,rfl⟩;rw[Yi];obtain⟨Ax,CB⟩:∃V,VL.cmd c=V:=⟨_,rfl⟩;have Pl:=TS.ix;have ly:Ce VL.S:=by
  rw[<-Yi];exact{TS with ix:=⟨by show 0<=ix;obtain⟨Sp,_⟩:=Pl;omega,by show ix<=EW;omega⟩,own:=⟨TS.own.no,TS.own.yes⟩,acc:=TS.acc,wt:=TS.wt,Hc:=TS.Hc}
 have Aps:VL.B7=0:=by rw[<-Yi];rfl
 have i0:VL.ix=ix:=by rw[<-Yi]
 have Sp:VL.AGm=AGm:=by rw[<-Yi]
 have JC:=n1 ly c;rw[CB]at JC;unfold Dl at JC;have JB:=dO (c:=c) ly BK AMT;rw[CB]at JB;have HR:=JB.ws;have i1:=JB.x;refine rg<|AX 2 [2] G G<|B0 (Aj3 _) (Ar G) G Aa G<|U 1 G<|Ac<|Ae<|An G G<|Ael (Aj' c.Ca) Tryz.underlying119 G G G<|Ac<|qA (σ:=List Nat) [(8,_),(11,_)] _ (fun Z6 C=>C) (fun Z6=>[DS b Z6 Ax,AO K0 45 IQ,CL X w]) (fun Z6=>True) (Bs G) (Ad 5 G (Ad 6 G (Ad 7 G (Ad 8 G (Ad 9 G (Ad 10 G (Ad 11 G (Ad 12 G (Ad 13 G (Ad 14 G (Ad 15 G (Ad 16 G (Ad 17 G (Ad 18 G Aa)))))))))))))) ?_ ?_
 ·
  refine BN G (fun LA=>?_) (fun LA=>?_)
  ·
   have AhO:=LA;simp only[ABe,ABD,ABl]at AhO;obtain⟨f,BI,Afq,zF⟩:=x9 b NB VL c EE Ax CB ly AMT BK AMT AMT;rw[BI];refine rg<|U 2 G<|BJ 2 (IT c EE) G G (At G) G G<|Uv 0 zF Afq G G G G (Ad 18 G Aa) G fun BH _ _=>?_;exact nl<|Au 2 G<|AQ<|Au 2 G<|AQ<|e9 BH trivial (Bs G) G (Ad 5 G (Ad 6 G (Ad 7 G (Ad 8 G (Ad 9 G (Ad 10 G (Ad 11 G (Ad 12 G (Ad 13 G (Ad 14 G (Ad 15 G (Ad 16 G (Ad 17 G (Ad 18 G Aa))))))))))))))
  refine EG<|Au 2 G<|AQ<|Au 2 G<|AQ ?_;rw[show VL=Ax from(x_ (Bool.not_inj (y:=true) LA)).symm.trans CB];exact e9 NB trivial (Bs G) G (BE [5,6,7,8,9,10,11,12,13,14,15,16,17,18] G)
 intro Z6 _;show Eg _ _ _ [(8,_),(11,_)] [DS b Z6 Ax,AO K0 45 IQ,CL X w] _;refine A5<|Ae<|An G G ?_;obtain⟨Bu,Fz⟩:∃V,Ah.waits Ax.S.AA.length Ax=V:=⟨_,rfl⟩;refine Ch 0 (Ak9 b _ Ax Bu Fz HR AMT) (Ar G) G G Aa G fun K2 _ _=>?_;have Xg:=gH Ax.S.AA.length HR;rw[Fz]at Xg;have Sy:=Xg.ws;have i2:=Xg.x;refine Ac<|Ae<|An G G ?_;obtain⟨Nx,P9⟩:∃V,Bu.rest=V:=⟨_,rfl⟩;refine Ch 0 (Ais b _ Bu Nx P9 Sy (by obtain⟨NS,_⟩:=Pl;omega) AMT) (Ar G) G G Aa G fun Z5 _ _=>?_;refine Ac<|Am<|Gu fun AS A1 AY A9 Ba Bd Bp Bi AU=>?_;refine B8 1 G<|RY<|B8 1 G<|RY<|B8 1 G<|RY<|AuG [] [(2,[(8,.f0 (AO K0 45 (BY Nx.S AS A1 AY A9 Ba Bd)))])] [(8,DF [2] undef)] [(3,0),(7,0)] [8,9,10] (fun _=>G) (fun _=>G) (fun Ai AV Az=>⟨fun _=>?_,trivial⟩) fun Ai _=>?_
 ·
  refine Cp 2 G fun AeQ=>?_;refine Cp 3 G fun AeR=>?_;refine Cp 1 G fun AeS=>?_;refine Cp 4 G fun AeT=>?_;refine Cp 5 G fun AeU=>?_;refine Cp 6 G fun AeV=>?_;exact BZ 0 (us:=(BY Nx.S AS A1 AY A9 Ba Bd)) G G G (At G) (by simp only[ABn,ABr,ABp,AeQ,AeR,AeS,AeT,AeU,AeV];rfl) G<|BU [] [] 0 G G
 refine A5<|rt ?_;have AB:((Nx.S,Nx.EF,0):Bv×List FE×Int)=Z:=by
  rw[<-AW,Gc,AA9 HJ,AA9 (by rw[ER];decide),AA9 (by intro q;exact ABd (JR.symm.trans q)),<-P9,<-Fz,<-CB,<-Yi]
 subst AB;exact D8 ⟨AS,A1,AY,A9,Ba,Bd,Bp⟩ [_,_,_] (cj 2 G G G G G (At G)) (by exact⟨rfl,AU.1⟩) G (Ad 2 G (Ad 3 G (Ad 1 G (Ad 4 G (Ad 5 G (Ad 6 G (Ad 0 G Aa)))))))
theorem rH(g:Int)(Wo:A' g)(CK:Ih g=true):Cv AG 8 [.int .i64 g] [] (.tuple #[.agg (BY (F8 g) AI AI AI AI AI AI).toArray,ALu]):=by
 have h:=AjF g Wo;rw[AA_ CK]at h;exact h
def xd:Bool:=decide ((0:Int)=0)&&(F8 1).Du&&decide ((F8 1).Dn=1)&&decide (IA (LN IP)=21)
theorem xf:xd=true:=ARp
def KP(n k:Int):Int:=(IntKind.u64.wrap n).tmod k
theorem j_(n:Int){k:Int}(h:0<k):0<=KP n k/\KP n k<k:=by
 have Bw:0<=IntKind.u64.wrap n:=by rw[IntKind.wrap_u64];omega
 exact⟨Int.tmod_nonneg _ Bw,Int.tmod_lt_of_pos _ h⟩
theorem xe:Cv AG 5 [] [] (.bool true):=by
 refine Aw.proof Tryz.func5 G 23 G G fun X w=>DJ (α:=AD) ?_;refine DJ (α:=BL) ?_;refine DJ (α:=BX) ?_;refine DJ (α:=Bx) ?_;refine DJ (α:=Df) ?_;refine DJ (α:=UInt8) ?_;exact AF 1 G<|Ae<|B0 (rH 1 ⟨ARp,ARp⟩ G) (Ar G) G Aa G<|U 3 G<|CT LQ G fun CY=>BZ 0 (us:=(BY ((F8 1)) AI AI AI AI AI AI)) G G G (At G) G G<|U 1 G<|Ac<|Ae<|U 3 G<|Fu 9 3 [0] [1] G G G<|An G G<|Fu 13 4 [0] [] G G G<|An G G<|D4 18 4 [] G G (fun ER VD=>Bl G G G<|Db (ps:=[]) (cs:=(BY Np AI AI AI AI AI AI)) ARz ARs G<|Bl G G G<|B0 (AjA IP AI AI AI AI AI AI dd) (Ar G) G (BE [5,4,3,2,1,0] G) G<|U 2 G<|VD G Br)<|U 1 G<|Ac<|rt<|AQ<|Bq () G G (by exact ABE Value.bool xf.symm) G Aa
def Asd(x:Int)(n:Nat):Nat:=(KP x n).toNat
theorem AtH(x:Int){n:Nat}(h:0<n):KP x n=((Asd x n:Nat):Int)/\Asd x n<n:=by
 obtain⟨a,b⟩:=j_ x (k:=(n:Int)) AMT;unfold Asd;omega
def AOk:ByteArray:=⟨#[97]⟩
def AIh:Dg:={Ca:=1,Ap:=1,As:=1,Dn:=1,Bn:=1,DH:=0,Al:=ByteArray.empty,G0:=0,Cn:=0,It:=0,Jr:=false,AM:={mV with Ca:=5,Al:=AOk,A6:=0,Bc:=20},Dj:=FP,Cf:=[]}
structure AGA where
 Ca:Int
 AGF:Int
 Hi:Int
 IX:Int
 B2:Int
 deriving DecidableEq,Inhabited
structure AGL where
 AGF:Int
 AGy:Dg
 deriving DecidableEq,Inhabited
structure AGl where
 a:Bv
 b:Bv
 all:List AGL
 q1:Int
 q2:Int
 o1:Bool
 o2:Bool
def AGC(s:Int)(i:Int):ByteArray:=⟨#[if s=0 then(if i=0 then 97 else if i=1 then 98 else 99)else(if i=0 then 109 else if i=1 then 110 else 111)]⟩
namespace AGl
def st(p:AGl)(s:Int):Bv:=if s=0 then p.a else p.b
def Am(p:AGl)(s:Int):Int:=if s=0 then p.q1 else p.q2
def op(p:AGl)(s:Int):Bool:=if s=0 then p.o1 else p.o2
def AGw(p:AGl)(s:Int)(c:Dg):AGl:=
 {a:=if s=0 then(Gc p.a c (p.a.DX+1) 3).1 else p.a
  b:=if s=0 then p.b else(Gc p.b c (p.b.DX+1) 3).1
  all:=if p.all.length<500 then p.all++[⟨s,c⟩]else p.all
  q1:=p.q1
  q2:=p.q2
  o1:=p.o1&& !AGV (Gc (p.st s) c ((p.st s).DX+1) 3).2.1 1 p.q1
  o2:=p.o2&& !AGV (Gc (p.st s) c ((p.st s).DX+1) 3).2.1 2 p.q2}
def AG9(p:AGl)(s:Int)(m:AGA):Dg:=
 {AIh with Ap:=1+s,As:=p.Am s+1,Dn:=(p.st s).Dn,Bn:=1,AM:=⟨6,AGC s (KP m.Hi 3),AGC (1-s) (KP m.IX 3),m.B2,0,0⟩}
def ask(p:AGl)(s:Int)(m:AGA):AGl:=
 if p.op s=true then p
 else({p with q1:=if s=0 then p.q1+1 else p.q1,q2:=if s=0 then p.q2 else p.q2+1,o1:=if s=0 then decide (1<=m.B2)else p.o1,o2:=if s=0 then p.o2 else decide (1<=m.B2)}:AGl).AGw s (p.AG9 s m)
def Li(p:AGl)(s:Int)(d:Bx):Dg:={AIh with Ca:=4,Ap:=d.Ap,As:=d.As,DH:=s+1,Al:=d.EL,It:=d.B2,Dn:=(p.st (1-s)).Dn,Bn:=0,AM:=mV}
def AIu(d:Bx)(y:Bool):Dg:={AIh with Ca:=5,Ap:=d.Ap,As:=d.As,Jr:=y,Dn:=0,Bn:=0,AM:=mV}
def AHR(d:Bx):Dg:={AIh with Ca:=6,Ap:=d.Ap,As:=d.As,Al:=d.EL,Jr:=decide (d.C3=1),Dn:=0,Bn:=0,AM:=mV}
def AIk(d:Bx):Dg:={AIh with Ca:=7,Ap:=d.Ap,As:=d.As,Dn:=0,Bn:=0,AM:=mV}
def AHN(d:Bx):Dg:={AIh with Ca:=3,Ap:=d.Ap,As:=d.As,Dn:=0,Bn:=0,AM:=mV}
def AHh(p:AGl)(s:Int)(d:Bx):Bool:=decide ((BF (p.st (1-s)).Aj d.EL).1.BG.Ap=d.Ap)&&decide ((BF (p.st (1-s)).Aj d.EL).1.BG.As=d.As)
def AHQ(p:AGl)(s:Int)(d:Bx):Bool:=fx (p.st (1-s)).CX d.Ap d.As
def AHg(p:AGl)(s k:Int)(d:Bx):AGl:=
 if k=2/\d.C3=0 then p.AGw (1-s) (p.Li s d)
 else if k=3/\d.C3=0/\(p.AHh s d||p.AHQ s d)=true then p.AGw s (AIu d (p.AHh s d))
 else if k=4/\¬d.C3=0 then p.AGw (1-s) (AHR d)
 else if k=5/\¬d.C3=0/\p.AHQ s d=true/\p.AHh s d=false then p.AGw s (AIk d)
 else if k=6 then p.AGw s (AHN d)
 else p
def move(p:AGl)(m:AGA):AGl:=
 if m.Ca=1 then p.ask (KP m.AGF 2) m
 else if m.Ca<1\/6<m.Ca then(if p.all=[]then p else p.AGw (p.all.getD (Asd m.B2 p.all.length) default).AGF (p.all.getD (Asd m.B2 p.all.length) default).AGy)
 else if(p.st (KP m.AGF 2)).Bj=[]then p
 else p.AHg (KP m.AGF 2) m.Ca ((p.st (KP m.AGF 2)).Bj.getD (Asd m.B2 (p.st (KP m.AGF 2)).Bj.length) default)
end AGl
def AHb(s:Int):List ByteArray:=[AGC s 0,AGC s 1,AGC s 2]
structure One (S F:Bv) (s q:Int) (o:Bool) (n:Nat):Prop where
 AGo:AG' S F q o n
 g:S.CZ=s+1
 BQ:S.A6=if s=0 then ByteArray.empty else⟨#[109]⟩
 Ag:S.Bc=if s=0 then⟨#[109]⟩else ByteArray.empty
 ks:S.Aj.map (·.Al)=AHb s
 GV:∀d∈S.Bj,d.B2<=9223372036854775807
structure AGv (p:AGl) (n:Nat):Prop where
 a:One p.a p.b 0 p.q1 p.o1 n
 b:One p.b p.a 1 p.q2 p.o2 n
 CT:∀x∈p.all,x.AGF=0/\AGN p.a p.b p.q1 x.AGy\/x.AGF=1/\AGN p.b p.a p.q2 x.AGy
theorem AJv(s i:Int)(_:s=0\/s=1)(Bw:0<=i)(Af:i<3):AGC s i∈AHb s:=by
 have:i=0\/i=1\/i=2:=AMT;rcases this with rfl|rfl|rfl<;>simp[AHb]
theorem AKA{S F:Bv}{s q:Int}{o:Bool}{n:Nat}(h:One S F s q o n)(hs:s=0\/s=1):(∀k∈AHb s,F' S k=true)/\∀k∈AHb (1-s),F' S k=false:=by
 have e:∀k,F' S k=within (if s=0 then ByteArray.empty else⟨#[109]⟩) (if s=0 then⟨#[109]⟩else ByteArray.empty) k:=fun k=>by rw[F',h.AGo.AJB,h.BQ,h.Ag,Bool.true_and]
 rcases hs with rfl|rfl
 · refine⟨fun k AE=>?_,fun k AE=>?_⟩<;>rw[e]<;>simp only[AHb,ABf,ABh,ABi]at AE<;>rcases AE with rfl|rfl|rfl<;>kernel_rfl
 refine⟨fun k AE=>?_,fun k AE=>?_⟩<;>rw[e]<;>simp only[AHb,ABf,ABh,ABi]at AE<;>rcases AE with rfl|rfl|rfl<;>kernel_rfl
theorem One.DY{S F T:Bv}{s q EJ:Int}{o Lg:Bool}{n m:Nat}(h:One S F s q o n)(AGo:AG' T F EJ Lg m)(Gw:Fr S T)(st:AHw S T F):One T F s EJ Lg m:=
 ⟨AGo,Gw.1.trans h.g,Gw.2.2.1.trans h.BQ,Gw.2.2.2.1.trans h.Ag,st.ks.trans h.ks,fun e he=>(st.dl e he).elim (fun⟨d,AJ,t⟩=>by rw[t.2.2.2.2.1];exact h.GV d AJ) fun q=>q.2⟩
theorem AJW{p:AGl}{n:Nat}{q:Int}{o:Bool}{x:Dg}(h:AGv p n)(Ab:AHe p.a p.b x)(Ao:(n:Int)+1<=EW)(B':p.q1<=q)(Tu:x.Ca=1->x.As<=q)(AI2:q<=(n:Int)+1)(A7:o=true->AHC q ((BW p.a).cmd x))(BI:AHJ p.a p.b x\/AGN p.a p.b p.q1 x):
 AGv (({p with q1:=q,o1:=o}:AGl).AGw 0 x) (n+1)/\tZ (({p with q1:=q,o1:=o}:AGl).AGw 0 x).a (({p with q1:=q,o1:=o}:AGl).AGw 0 x).b=tZ p.a p.b/\(Gc p.a x (p.a.DX+1) 3).2.2=0/\AGI p.a (Gc p.a x (p.a.DX+1) 3).1 p.b/\AGI ((BW p.a).cmd x).S (Gc p.a x (p.a.DX+1) 3).1 p.b/\AGN (Gc p.a x (p.a.DX+1) 3).1 p.b q x:=by
 obtain⟨T,E,d⟩:=AMs h.a.AGo h.b.AGo.BI Ab Ao B' Tu AI2 A7;have e:=d.e;have JY:AGN T p.b q x:=by
  rcases BI with BI|BI
  · exact AMu h.a.AGo h.b.AGo.BI Ab BI Ao Tu d
  exact BI.own h.b.AGo.BI.aE d.Qj.s d.Gw B'
 have AGo:AG' T p.b q (o&& !AGV E 1 q) (n+1):=by
  have:=d.AGo;rw[h.a.g]at this;exact this
 have h1:({p with q1:=q,o1:=o}:AGl).AGw 0 x={a:=T,b:=p.b,all:=if p.all.length<500 then p.all++[⟨0,x⟩]else p.all,q1:=q,q2:=p.q2,o1:=o&& !AGV E 1 q,o2:=p.o2&& !AGV E 2 p.q2}:=by
  unfold AGl.AGw AGl.st;simp only[if_true];rw[e]
 rw[h1,e];have CT:∀y∈p.all,y.AGF=0/\AGN T p.b q y.AGy\/y.AGF=1/\AGN p.b T p.q2 y.AGy:=fun y Bf=>by
  rcases h.CT y Bf with⟨a,b⟩|⟨a,b⟩
  · exact .inl ⟨a,b.own h.b.AGo.BI.aE d.Qj.s d.Gw B'⟩
  exact .inr ⟨a,b.EW h.a.AGo.BI.hH d.Qj.s⟩
 refine⟨⟨h.a.DY AGo d.Gw d.Qj.s,⟨h.b.AGo.AI4 d.Qj (Nat.le_succ n) fun z=>by rw[ABb]at z;exact z.1,h.b.g,h.b.BQ,h.b.Ag,h.b.ks,h.b.GV⟩,fun y Bf=>?_⟩,d.Qj.t,rfl,d.Qj,d.Asf,JY⟩;simp only at Bf;split at Bf
 · rcases ABm.1 Bf with Bf|Bf
   · exact CT y Bf
   rw[ADe.1 Bf];exact .inl ⟨rfl,JY⟩
 exact CT y Bf
theorem AJX{p:AGl}{n:Nat}{q:Int}{o:Bool}{x:Dg}(h:AGv p n)(Ab:AHe p.b p.a x)(Ao:(n:Int)+1<=EW)(B':p.q2<=q)(Tu:x.Ca=1->x.As<=q)(AI2:q<=(n:Int)+1)(A7:o=true->AHC q ((BW p.b).cmd x))(BI:AHJ p.b p.a x\/AGN p.b p.a p.q2 x):
 AGv (({p with q2:=q,o2:=o}:AGl).AGw 1 x) (n+1)/\tZ (({p with q2:=q,o2:=o}:AGl).AGw 1 x).a (({p with q2:=q,o2:=o}:AGl).AGw 1 x).b=tZ p.a p.b/\(Gc p.b x (p.b.DX+1) 3).2.2=0/\AGI p.b (Gc p.b x (p.b.DX+1) 3).1 p.a/\AGI ((BW p.b).cmd x).S (Gc p.b x (p.b.DX+1) 3).1 p.a/\AGN (Gc p.b x (p.b.DX+1) 3).1 p.a q x:=by
 obtain⟨T,E,d⟩:=AMs h.b.AGo h.a.AGo.BI Ab Ao B' Tu AI2 A7;have e:=d.e;have JY:AGN T p.a q x:=by
  rcases BI with BI|BI
  · exact AMu h.b.AGo h.a.AGo.BI Ab BI Ao Tu d
  exact BI.own h.a.AGo.BI.aE d.Qj.s d.Gw B'
 have AGo:AG' T p.a q (o&& !AGV E 2 q) (n+1):=by
  have:=d.AGo;rw[h.b.g]at this;exact this
 have h1:({p with q2:=q,o2:=o}:AGl).AGw 1 x={a:=p.a,b:=T,all:=if p.all.length<500 then p.all++[⟨1,x⟩]else p.all,q1:=p.q1,q2:=q,o1:=p.o1&& !AGV E 1 p.q1,o2:=o&& !AGV E 2 q}:=by
  unfold AGl.AGw AGl.st;simp only[show ¬(1:Int)=0 by decide,if_false];rw[e]
 rw[h1,e];have CT:∀y∈p.all,y.AGF=0/\AGN p.a T p.q1 y.AGy\/y.AGF=1/\AGN T p.a q y.AGy:=fun y Bf=>by
  rcases h.CT y Bf with⟨a,b⟩|⟨a,b⟩
  · exact .inl ⟨a,b.EW h.b.AGo.BI.hH d.Qj.s⟩
  exact .inr ⟨a,b.own h.a.AGo.BI.aE d.Qj.s d.Gw B'⟩
 have Av:tZ p.a T=tZ p.a p.b:=by
  rw[AME d.Qj.h2.ne,d.Qj.t,AME h.b.AGo.BI.ne]
 refine⟨⟨⟨h.a.AGo.AI4 d.Qj (Nat.le_succ n) fun z=>by rw[ABb]at z;exact z.1,h.a.g,h.a.BQ,h.a.Ag,h.a.ks,h.a.GV⟩,h.b.DY AGo d.Gw d.Qj.s,fun y Bf=>?_⟩,Av,rfl,d.Qj,d.Asf,JY⟩;simp only at Bf;split at Bf
 · rcases ABm.1 Bf with Bf|Bf
   · exact CT y Bf
   rw[ADe.1 Bf];exact .inr ⟨rfl,JY⟩
 exact CT y Bf
end Go.Apw
