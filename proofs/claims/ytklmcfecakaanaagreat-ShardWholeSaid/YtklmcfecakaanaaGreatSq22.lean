/- Part 22 of shardWhole_holds. -/
import Derived.Test.YtklmcfecakaanaaGreatSq21

set_option maxRecDepth 20000
set_option maxHeartbeats 1000000
open Eq renaming symm→AB3,trans→ABS
open Go.Proofs.Tryz renaming underlying161→ARM,underlying38→ARQ,underlying43→ARO,underlying5→AC'
open List renaming foldl_cons→ACO,length_append→ABP,length_cons→ABv,length_nil→ABo
open Nat renaming lt_succ_iff_lt_or_eq→AEh
open Go.A_ Go.Proofs Go.Proofs.YtklmcfecakaanaaGreat
namespace Go.Apw
@[reducible] def Gn(W:Ah)(x:BX):=KA (BF W.S.Aj x.AM.Al).1 (fg x)
@[reducible] def Lp(W Ax:Ah)(x:BX):=Jk Ax.S.Bj x.Ap x.As (decide (x.AM.Al=(findD Ax.S.Bj x.Ap x.As).Al)) (decide ((Gn W x).2=0))
theorem s9{l:List Bx}{c q:Int}{m i:Bool}(h:(Jk l c q m i).2.1=true):(Jk l c q m i).2.2=0:=by
 unfold Jk at h ⊢;split
 ·
  rename_i Af;rw[AA_ Af]at h;cases h
 rfl
theorem AdX(b:Nat)(nd:List Nat)(W:Ah)(x:BX)(Z:Ah)(AW:W.Lf x=Z)(BO:Ce W.S)(Ge:W.B7<=930)(GP:x.wf)(AE:Ix x.AM.Al=true)(A7:F' W.S x.AM.Al=true)(Ao:¬x.AM.B2=0):Aw AG 81 [ALM b 0,.agg (Hh x).toArray] [DS b nd W] [] (fun(_:List Nat) _=>True) (fun y _=>[DS b y Z]) (fun _ _=>[]):=by
 refine Aw.proof Tryz.func81 G 142 G G fun X w=>Gu fun AS A1 AY A9 Ba Bd Bp Bi AU=>Ae<|CV G G G fun DQ=>Ac<|Am<|Am<|Gx mixed ARs<|AX 6 [1] G G<|AX 3 [0,0] G G<|HD (sd _ _ x.Ap x.As GP.2.1 GP.2.2.1) (Ar G) G (Ad 2 G Aa) G<|Gj<|A5<|BN G (fun Km=>?_) (fun Km=>?_)
 ·
  rw[fy]at Km;refine BA ?_;have AB:W=Z:=(by rw[<-AW,Ah.Lf,AA_ Km]);subst AB;exact Au 5 G<|Au 5 G<|Au 5 G<|Au 5 G<|Au 5 G<|Es W AS A1 AY A9 Ba Bd Bp Bi G AU (BE [0,1,2,3] G) fun BH=>Au 1 G<|AQ<|Ej BH G trivial G Aa
 rw[fy]at Km;obtain⟨Hj,G1,Jt⟩:=V9 BO AE;have C_:(fg x).wf:=⟨GP.2.1,GP.2.2.1,GP.2.2.2.2.1,GP.2.2.2.2.2.2.2.2.1⟩;have Zw:=Aj6 G1 C_;refine AZ<|Am<|AuG [[(11,.f1 11 fun BM=>[AO (FH (BM 0)) 58 N9]),(12,.f2 11 7 fun BM GL=>[AO (FH (BM 0)) 58 (A3 ((BF W.S.Aj x.AM.Al).1) (GL 0))])]] [] [(7,Ff [3] (fun A4=>some (.tuple #[.agg (A3 ((BF W.S.Aj x.AM.Al).1) (A4 0)).toArray,.bool ((BF W.S.Aj x.AM.Al).2)])) fun A4=>[⟨(A4 0),(BF W.S.Aj x.AM.Al).1.A0⟩]),(11,O6 [0]),(12,DF [0] undef)] [(3,2),(6,1)] [0,3,4] (fun _=>G) (fun _=>G) (fun Ai AV Az=>⟨fun _=>?_,fun _=>CT Hd G fun En=>BU [ALM En 0] [] 0 G G,fun _=>?_,trivial⟩) fun Ai _=>?_
 ·
  refine Uw [⟨AS,W.S.Aj⟩] (UI W.S _ _ _ _ _ _ x.AM.Al (BF W.S.Aj x.AM.Al) G (Au1 BO)) (fun _ _=>Vi) (Ar G) G (DU.row 0 G DU.nil) (Ad 0 G Aa) G fun QC OC aG=>?_;obtain⟨yL,AkS⟩:=aG;subst yL;exact JO<|BU [QC] [0] 1 G G
 ·
  refine Cp 0 G fun Ka=>?_;exact BZ 0 (us:=(A3 ((BF W.S.Aj x.AM.Al).1) (Ai 7 0))) G G G (At G) (by simp only[ABn,ABr,ABp,Ka];rfl) G<|BU [] [] 1 G G
 generalize FH (Ai 11 0)=En,Ai 7 0=QC;refine A5<|Ae<|BJ 0 (A3 ((BF W.S.Aj x.AM.Al).1) QC) G G (At G) G G<|AX 9 [1,1,1,1] G G<|Db (ps:=[(0,.tmp 38),(1,.tmp 40),(2,.tmp 42),(3,.tmp 45)]) (cs:=(Lx (fg x))) ARz ARs G<|Dm (Aj5 _ _ (fg x) (Gn W x) G (Q3 BO) C_) (Ar G) G (Ad 0 G Aa) G fun Uk AkH Wg=>?_;subst Wg;refine U 3 G<|Cp 0 G fun bR=>?_;refine BZ 0 (us:=(A3 ((Gn W x).1) Uk)) G G G (At G) (by simp only[ABn,ABr,ABp,bR];rfl) G<|U 1 G<|Ac<|Am<|AF 2 G<|B9 G (fun LA=>?_) (fun LA=>?_)
 ·
  have gw:=gu G1 C_ LA;have tT:=Aj9 BO AE C_ Ao LA;refine B8 6 G<|B8 6 G<|B8 6 G<|B8 6 G<|B8 6 G<|Ho W AS A1 AY A9 Ba Bd Bp Bi G AU (BE [2,3,4,5] G) fun BH=>rg<|An G G<|BJ 1 (A3 ((Gn W x).1) Uk) G G (At G) G G ?_;obtain⟨Ax,CB⟩:∃V,Ah.put W (Gn W x).1=V:=⟨_,rfl⟩;refine Ch 0 (Vd b _ W (Gn W x).1 _ Ax CB BO Zw.wf) (Ar G) G G (Ad 0 G Aa) G fun HC _ _=>?_;have JB:CE W Ax:=CB▸kV BO gw.2.2.2.2.2.2.1 Zw A7 tT.2 tT.1;have HR:=JB.ws;have JC:Ax.B7=W.B7:=(by rw[<-CB];rfl);refine Ac<|Am<|Am<|Gu fun AS A1 AY A9 Ba Bd Bp Bi AU=>?_;refine Gx mixed ARs<|AX 8 [6,0] G G<|Gj<|A5<|Fa G (fun Ma=>?_) (fun Ma=>?_)
  ·
   refine Am<|AF 2 G<|Fa G (fun KM=>?_) (fun KM=>?_)
   ·
    refine Ho Ax AS A1 AY A9 Ba Bd Bp Bi G AU (BE [0,1,2,3] G) fun BH=>rg<|AX 5 [2,2] G G ?_;obtain⟨Bu,Fz⟩:∃V,Ax.raise x.Ap x.As=V:=⟨_,rfl⟩;refine Ch 0 (c8 b _ Ax x.Ap x.As Bu Fz HR GP.2.1 GP.2.2.1) (Ar G) G G Aa G fun K2 _ _=>?_;refine Ac<|BA ?_;have BC:(if(Gn W x).2=0 then W.put (Gn W x).1 else W.tell 3 x.Ap x.As GS)=Ax:=(AA_ LA).trans CB;have AB:Bu=Z:=(by rw[<-AW,Ah.Lf,AA9 (by rw[Km];decide)];simp only[BC];rw[<-Fz];exact((AA_ Ma).trans (AA_ KM)).symm);subst AB;exact Au 1 G<|AQ<|Au 1 G<|AQ<|Ej K2 G trivial G Aa
   refine AZ<|BA ?_;have BC:(if(Gn W x).2=0 then W.put (Gn W x).1 else W.tell 3 x.Ap x.As GS)=Ax:=(AA_ LA).trans CB;have AB:Ax=Z:=(by rw[<-AW,Ah.Lf,AA9 (by rw[Km];decide)];simp only[BC];exact((AA_ Ma).trans (AA9 (fun q=>q KM))).symm);subst AB;exact Es Ax AS A1 AY A9 Ba Bd Bp Bi G AU (BE [0,1,2,3] G) fun BH=>Au 1 G<|AQ<|Au 1 G<|AQ<|Ej BH G trivial G Aa
  refine AZ<|Am<|AuG [[(13,.f1 13 fun BM=>[AO (FH (BM 0)) 67 XH]),(14,.f1 13 fun BM=>[AO (FH (BM 0)) 67 (H8 ((findD Ax.S.Bj x.Ap x.As)))])]] [] [(9,DF [] (.tuple #[.agg (H8 ((findD Ax.S.Bj x.Ap x.As))).toArray,.bool ((Tz Ax.S.Bj x.Ap x.As))])),(13,O6 [0]),(14,DF [0] undef)] [(4,1),(6,7),(8,7)] [0,3,4,6,7,8] (fun _=>G) (fun _=>G) (fun Ai AV Az=>⟨fun _=>B0 (ei _ _ x.Ap x.As GP.2.1 GP.2.2.1) (Ar G) G (Ad 1 G Aa) G<|BU [] [] 0 G G,fun _=>CT SO G fun Jo=>BU [ALM Jo 0] [] 0 G G,fun _=>BZ 0 (us:=(H8 ((findD Ax.S.Bj x.Ap x.As)))) G G G (At G) G G<|BU [] [] 0 G G,trivial⟩) fun Ai _=>?_;generalize FH (Ai 13 0)=Jo;refine A5<|Am<|Ae<|U 3 G<|ET 93 4 [0] [0,3,4,6,7] G G G<|Ac<|BN G (fun P8=>?_) (fun P8=>?_)
  ·
   refine Am<|Ae<|BJ 6 (A3 ((Gn W x).1) Uk) G G (At G) G G<|Dm (eo _ _ false (D1 (Gn W x).1 false) G Zw.wf) (Ar G) G (Ad 4 G Aa) G fun c' Akz iz=>?_;subst iz;refine U 3 G<|CT Hd G fun H7=>Cp 0 G fun kr=>?_;refine BZ 0 (us:=(A3 ((D1 (Gn W x).1 false).1) c')) G G G (At G) (by simp only[ABn,ABr,ABp,kr];rfl) G<|U 1 G<|Ac<|AF 2 G<|B9 G (fun Te=>?_) (fun Te=>?_)
   ·
    have mq:=(UK Zw Te).2.2.2.2.wf;refine B8 6 G<|B8 6 G<|B8 6 G<|B8 6 G<|B8 6 G<|Ho Ax AS A1 AY A9 Ba Bd Bp Bi G AU (BE [1,2,3,4] G) fun BH=>rg<|An G G<|BJ 1 (A3 ((D1 (Gn W x).1 false).1) c') G G (At G) G G ?_;obtain⟨Bu,Fz⟩:∃V,Ah.put Ax (D1 (Gn W x).1 false).1=V:=⟨_,rfl⟩;refine Ch 0 (Vd b _ Ax (D1 (Gn W x).1 false).1 _ Bu Fz HR mq) (Ar G) G G (Ad 0 G Aa) G fun K2 _ _=>?_;have AlN:Bu.B7=Ax.B7:=(by rw[<-Fz];rfl);refine Ac<|BA ?_;have BC:(if(Gn W x).2=0 then W.put (Gn W x).1 else W.tell 3 x.Ap x.As GS)=Ax:=(AA_ LA).trans CB;have AB:Bu=Z:=(by rw[<-AW,Ah.Lf,AA9 (by rw[Km];decide)];simp only[BC];rw[<-Fz];exact((AA9 (fun q=>q Ma)).trans ((AA_ P8).trans (AA_ Te))).symm);subst AB;exact Au 1 G<|AQ<|Au 1 G<|AQ<|Au 1 G<|AQ<|Au 1 G<|AQ<|Ej K2 G trivial G Aa
   refine AZ<|BA ?_;have BC:(if(Gn W x).2=0 then W.put (Gn W x).1 else W.tell 3 x.Ap x.As GS)=Ax:=(AA_ LA).trans CB;have AB:Ax=Z:=(by rw[<-AW,Ah.Lf,AA9 (by rw[Km];decide)];simp only[BC];exact((AA9 (fun q=>q Ma)).trans ((AA_ P8).trans (AA9 Te))).symm);subst AB;exact Au 6 G<|Au 6 G<|Au 6 G<|Au 6 G<|Au 6 G<|Es Ax AS A1 AY A9 Ba Bd Bp Bi G AU (BE [1,2,3,4] G) fun BH=>Au 1 G<|AQ<|Au 1 G<|AQ<|Au 1 G<|AQ<|Au 1 G<|AQ<|Ej BH G trivial G Aa
  refine AZ<|Am<|AuG [] [] [(17,Ff [] (fun A4=>some (.tuple #[(A4 0),.bool ((Lp W Ax x).2.1),.int .i64 ((Lp W Ax x).2.2)])) fun A4=>[⟨(A4 0),(Lp W Ax x).1⟩])] [(4,1),(6,7),(8,7),(11,7),(13,0)] [0,3,11,12] (fun _=>G) (fun _=>G) (fun Ai AV Az=>⟨fun _=>?_,trivial⟩) fun Ai _=>?_
  ·
   refine Dm (lD _ _ x.Ap x.As (decide (x.AM.Al=(findD Ax.S.Bj x.Ap x.As).Al)) (decide ((Gn W x).2=0)) (Lp W Ax x) G GP.2.1 GP.2.2.1) (Ar G) G (Ad 1 G Aa) G fun Uh AkD iF=>?_;subst iF;exact BU [Uh] [0] 1 G G
  generalize Ai 17 0=Uh;refine A5<|Ae<|U 5 G<|J2 1 0 G G G G (A2 G) (Da G)<|Ac<|Ae<|An G G<|Ac<|BN G (fun Tf=>?_) (fun Tf=>?_)
  ·
   refine B8 5 G<|B8 5 G<|B8 5 G<|B8 5 G<|B8 5 G<|Ho ({Ax with S:={Ax.S with Bj:=(Lp W Ax x).1}}:Ah) AS A1 AY Uh Ba Bd Bp Bi G AU (BE [1,0,3,4] G) fun BH=>?_;have jJ:(Lp W Ax x).2.2=0:=s9 (by rw[Tf]);have lA:Ce ({Ax with S:={Ax.S with Bj:=(Lp W Ax x).1}}:Ah).S:=HR.SH (cC jJ);refine rg<|AX 5 [3,3] G G ?_;obtain⟨Bu,Fz⟩:∃V,Ah.RR ({Ax with S:={Ax.S with Bj:=(Lp W Ax x).1}}:Ah) x.Ap x.As=V:=⟨_,rfl⟩;refine Ch 0 (hM b _ ({Ax with S:={Ax.S with Bj:=(Lp W Ax x).1}}:Ah) x.Ap x.As Bu Fz lA (show Ax.B7<=960 by omega) GP.2.1 GP.2.2.1) (Ar G) G G Aa G fun K2 _ _=>?_;refine nl ?_;have BC:(if(Gn W x).2=0 then W.put (Gn W x).1 else W.tell 3 x.Ap x.As GS)=Ax:=(AA_ LA).trans CB;have AB:Bu=Z:=(by rw[<-AW,Ah.Lf,AA9 (by rw[Km];decide)];simp only[BC];rw[<-Fz];exact((AA9 (fun q=>q Ma)).trans ((AA9 (fun q=>ABd (ABS (AB3 P8) q))).trans (AA_ Tf))).symm);subst AB;exact Au 1 G<|AQ<|Au 1 G<|AQ<|Au 1 G<|AQ<|Dz K2 G trivial G Aa
  refine EG ?_;have BC:(if(Gn W x).2=0 then W.put (Gn W x).1 else W.tell 3 x.Ap x.As GS)=Ax:=(AA_ LA).trans CB;have AB:({Ax with S:={Ax.S with Bj:=(Lp W Ax x).1}}:Ah)=Z:=(by rw[<-AW,Ah.Lf,AA9 (by rw[Km];decide)];simp only[BC];exact((AA9 (fun q=>q Ma)).trans ((AA9 (fun q=>ABd (ABS (AB3 P8) q))).trans (AA9 (fun q=>ABd (ABS (AB3 Tf) q))))).symm);subst AB;exact Au 5 G<|Au 5 G<|Au 5 G<|Au 5 G<|Au 5 G<|Es ({Ax with S:={Ax.S with Bj:=(Lp W Ax x).1}}:Ah) AS A1 AY Uh Ba Bd Bp Bi G AU (BE [1,0,3,4] G) fun BH=>Au 1 G<|AQ<|Au 1 G<|AQ<|Au 1 G<|AQ<|Dz BH G trivial G Aa
 refine B8 6 G<|B8 6 G<|B8 6 G<|B8 6 G<|B8 6 G<|Ho W AS A1 AY A9 Ba Bd Bp Bi G AU (BE [2,3,4,5] G) fun BH=>rg<|AX 5 [2,2] G G<|Db (ps:=[]) (cs:=(GM ((⟨0,0,0,0⟩:De)))) ARz ARs G ?_;obtain⟨Ax,CB⟩:∃V,W.tell 3 x.Ap x.As GS=V:=⟨_,rfl⟩;refine Ch 0 (gv b _ W 3 x.Ap x.As GS Ax CB BO AMT ⟨ARp,ARp⟩ GP.2.1 GP.2.2.1 ZA) (Ar G) G G Aa G fun HC _ _=>?_;have JB:CE W Ax:=CB▸cJ BO 3 x.Ap x.As GS;have HR:=JB.ws;have JC:=Xh W 3 x.Ap x.As GS;rw[CB]at JC;refine Ac<|Am<|Am<|Gu fun AS A1 AY A9 Ba Bd Bp Bi AU=>?_;refine Gx mixed ARs<|AX 8 [6,0] G G<|Gj<|A5<|Fa G (fun Ma=>?_) (fun Ma=>?_)
 ·
  refine Am<|AF 2 G<|Fa G (fun KM=>?_) (fun KM=>?_)
  ·
   refine Ho Ax AS A1 AY A9 Ba Bd Bp Bi G AU (BE [0,1,2,3] G) fun BH=>rg<|AX 5 [2,2] G G ?_;obtain⟨Bu,Fz⟩:∃V,Ax.raise x.Ap x.As=V:=⟨_,rfl⟩;refine Ch 0 (c8 b _ Ax x.Ap x.As Bu Fz HR GP.2.1 GP.2.2.1) (Ar G) G G Aa G fun K2 _ _=>?_;refine Ac<|BA ?_;have BC:(if(Gn W x).2=0 then W.put (Gn W x).1 else W.tell 3 x.Ap x.As GS)=Ax:=(AA9 LA).trans CB;have AB:Bu=Z:=(by rw[<-AW,Ah.Lf,AA9 (by rw[Km];decide)];simp only[BC];rw[<-Fz];exact((AA_ Ma).trans (AA_ KM)).symm);subst AB;exact Au 1 G<|AQ<|Au 1 G<|AQ<|Ej K2 G trivial G Aa
  refine AZ<|BA ?_;have BC:(if(Gn W x).2=0 then W.put (Gn W x).1 else W.tell 3 x.Ap x.As GS)=Ax:=(AA9 LA).trans CB;have AB:Ax=Z:=(by rw[<-AW,Ah.Lf,AA9 (by rw[Km];decide)];simp only[BC];exact((AA_ Ma).trans (AA9 (fun q=>q KM))).symm);subst AB;exact Es Ax AS A1 AY A9 Ba Bd Bp Bi G AU (BE [0,1,2,3] G) fun BH=>Au 1 G<|AQ<|Au 1 G<|AQ<|Ej BH G trivial G Aa
 refine AZ<|Am<|AuG [[(13,.f1 13 fun BM=>[AO (FH (BM 0)) 67 XH]),(14,.f1 13 fun BM=>[AO (FH (BM 0)) 67 (H8 ((findD Ax.S.Bj x.Ap x.As)))])]] [] [(9,DF [] (.tuple #[.agg (H8 ((findD Ax.S.Bj x.Ap x.As))).toArray,.bool ((Tz Ax.S.Bj x.Ap x.As))])),(13,O6 [0]),(14,DF [0] undef)] [(4,1),(6,7),(8,7)] [0,3,4,6,7,8] (fun _=>G) (fun _=>G) (fun Ai AV Az=>⟨fun _=>B0 (ei _ _ x.Ap x.As GP.2.1 GP.2.2.1) (Ar G) G (Ad 1 G Aa) G<|BU [] [] 0 G G,fun _=>CT SO G fun Jo=>BU [ALM Jo 0] [] 0 G G,fun _=>BZ 0 (us:=(H8 ((findD Ax.S.Bj x.Ap x.As)))) G G G (At G) G G<|BU [] [] 0 G G,trivial⟩) fun Ai _=>?_;generalize FH (Ai 13 0)=Jo;refine A5<|Am<|Ae<|U 3 G<|ET 93 4 [0] [0,3,4,6,7] G G G<|Ac<|BN G (fun P8=>?_) (fun P8=>?_)
 ·
  refine Am<|Ae<|BJ 6 (A3 ((Gn W x).1) Uk) G G (At G) G G<|Dm (eo _ _ false (D1 (Gn W x).1 false) G Zw.wf) (Ar G) G (Ad 4 G Aa) G fun c' Akz iz=>?_;subst iz;refine U 3 G<|CT Hd G fun H7=>Cp 0 G fun kr=>?_;refine BZ 0 (us:=(A3 ((D1 (Gn W x).1 false).1) c')) G G G (At G) (by simp only[ABn,ABr,ABp,kr];rfl) G<|U 1 G<|Ac<|AF 2 G<|B9 G (fun Te=>?_) (fun Te=>?_)
  ·
   have mq:=(UK Zw Te).2.2.2.2.wf;refine B8 6 G<|B8 6 G<|B8 6 G<|B8 6 G<|B8 6 G<|Ho Ax AS A1 AY A9 Ba Bd Bp Bi G AU (BE [1,2,3,4] G) fun BH=>rg<|An G G<|BJ 1 (A3 ((D1 (Gn W x).1 false).1) c') G G (At G) G G ?_;obtain⟨Bu,Fz⟩:∃V,Ah.put Ax (D1 (Gn W x).1 false).1=V:=⟨_,rfl⟩;refine Ch 0 (Vd b _ Ax (D1 (Gn W x).1 false).1 _ Bu Fz HR mq) (Ar G) G G (Ad 0 G Aa) G fun K2 _ _=>?_;have AlN:Bu.B7=Ax.B7:=(by rw[<-Fz];rfl);refine Ac<|BA ?_;have BC:(if(Gn W x).2=0 then W.put (Gn W x).1 else W.tell 3 x.Ap x.As GS)=Ax:=(AA9 LA).trans CB;have AB:Bu=Z:=(by rw[<-AW,Ah.Lf,AA9 (by rw[Km];decide)];simp only[BC];rw[<-Fz];exact((AA9 (fun q=>q Ma)).trans ((AA_ P8).trans (AA_ Te))).symm);subst AB;exact Au 1 G<|AQ<|Au 1 G<|AQ<|Au 1 G<|AQ<|Au 1 G<|AQ<|Ej K2 G trivial G Aa
  refine AZ<|BA ?_;have BC:(if(Gn W x).2=0 then W.put (Gn W x).1 else W.tell 3 x.Ap x.As GS)=Ax:=(AA9 LA).trans CB;have AB:Ax=Z:=(by rw[<-AW,Ah.Lf,AA9 (by rw[Km];decide)];simp only[BC];exact((AA9 (fun q=>q Ma)).trans ((AA_ P8).trans (AA9 Te))).symm);subst AB;exact Au 6 G<|Au 6 G<|Au 6 G<|Au 6 G<|Au 6 G<|Es Ax AS A1 AY A9 Ba Bd Bp Bi G AU (BE [1,2,3,4] G) fun BH=>Au 1 G<|AQ<|Au 1 G<|AQ<|Au 1 G<|AQ<|Au 1 G<|AQ<|Ej BH G trivial G Aa
 refine AZ<|Am<|AuG [] [] [(17,Ff [] (fun A4=>some (.tuple #[(A4 0),.bool ((Lp W Ax x).2.1),.int .i64 ((Lp W Ax x).2.2)])) fun A4=>[⟨(A4 0),(Lp W Ax x).1⟩])] [(4,1),(6,7),(8,7),(11,7),(13,0)] [0,3,11,12] (fun _=>G) (fun _=>G) (fun Ai AV Az=>⟨fun _=>?_,trivial⟩) fun Ai _=>?_
 ·
  refine Dm (lD _ _ x.Ap x.As (decide (x.AM.Al=(findD Ax.S.Bj x.Ap x.As).Al)) (decide ((Gn W x).2=0)) (Lp W Ax x) G GP.2.1 GP.2.2.1) (Ar G) G (Ad 1 G Aa) G fun Uh AkD iF=>?_;subst iF;exact BU [Uh] [0] 1 G G
 generalize Ai 17 0=Uh;refine A5<|Ae<|U 5 G<|J2 1 0 G G G G (A2 G) (Da G)<|Ac<|Ae<|An G G<|Ac<|BN G (fun Tf=>?_) (fun Tf=>?_)
 ·
  refine B8 5 G<|B8 5 G<|B8 5 G<|B8 5 G<|B8 5 G<|Ho ({Ax with S:={Ax.S with Bj:=(Lp W Ax x).1}}:Ah) AS A1 AY Uh Ba Bd Bp Bi G AU (BE [1,0,3,4] G) fun BH=>?_;have jJ:(Lp W Ax x).2.2=0:=s9 (by rw[Tf]);have lA:Ce ({Ax with S:={Ax.S with Bj:=(Lp W Ax x).1}}:Ah).S:=HR.SH (cC jJ);refine rg<|AX 5 [3,3] G G ?_;obtain⟨Bu,Fz⟩:∃V,Ah.RR ({Ax with S:={Ax.S with Bj:=(Lp W Ax x).1}}:Ah) x.Ap x.As=V:=⟨_,rfl⟩;refine Ch 0 (hM b _ ({Ax with S:={Ax.S with Bj:=(Lp W Ax x).1}}:Ah) x.Ap x.As Bu Fz lA (show Ax.B7<=960 by omega) GP.2.1 GP.2.2.1) (Ar G) G G Aa G fun K2 _ _=>?_;refine nl ?_;have BC:(if(Gn W x).2=0 then W.put (Gn W x).1 else W.tell 3 x.Ap x.As GS)=Ax:=(AA9 LA).trans CB;have AB:Bu=Z:=(by rw[<-AW,Ah.Lf,AA9 (by rw[Km];decide)];simp only[BC];rw[<-Fz];exact((AA9 (fun q=>q Ma)).trans ((AA9 (fun q=>ABd (ABS (AB3 P8) q))).trans (AA_ Tf))).symm);subst AB;exact Au 1 G<|AQ<|Au 1 G<|AQ<|Au 1 G<|AQ<|Dz K2 G trivial G Aa
 refine EG ?_;have BC:(if(Gn W x).2=0 then W.put (Gn W x).1 else W.tell 3 x.Ap x.As GS)=Ax:=(AA9 LA).trans CB;have AB:({Ax with S:={Ax.S with Bj:=(Lp W Ax x).1}}:Ah)=Z:=by rw[<-AW,Ah.Lf,AA9 (by rw[Km];decide)];simp only[BC];exact((AA9 (fun q=>q Ma)).trans ((AA9 (fun q=>ABd (ABS (AB3 P8) q))).trans (AA9 (fun q=>ABd (ABS (AB3 Tf) q))))).symm
 subst AB;exact Au 5 G<|Au 5 G<|Au 5 G<|Au 5 G<|Au 5 G<|Es ({Ax with S:={Ax.S with Bj:=(Lp W Ax x).1}}:Ah) AS A1 AY Uh Ba Bd Bp Bi G AU (BE [1,0,3,4] G) fun BH=>Au 1 G<|AQ<|Au 1 G<|AQ<|Au 1 G<|AQ<|Dz BH G trivial G Aa
def k4(S:Bv)(i:Nat):Bool:=allI i (fun j=> !decide ((S.AA.getD j default).AM.Al=(S.AA.getD i default).AM.Al))&&(Io (BF S.Aj (S.AA.getD i default).AM.Al).1).2
structure Nw (S:Bv) (i:Nat) (l:List ByteArray):Prop where
 no:∀j,j<i->k4 S j=false
 mem:∀k,k∈l↔∃j,j<i/\(S.AA.getD j default).AM.Al=k
 len:l.length<=i
theorem Nw.start(S:Bv):Nw S 0 []:=⟨fun j h=>absurd h (AB2 j),fun _=>⟨fun h=>absurd h ABh,fun⟨j,h,_⟩=>absurd h (AB2 j)⟩,ABW _⟩
theorem ng{l:List ByteArray}{k:ByteArray}:l.any (fun y=>decide (k=y))=true↔k∈l:=by
 rw[List.any_eq_true];constructor
 ·
  rintro⟨x,Ab,h⟩;rw[ABA h];exact Ab
 exact fun h=>⟨k,h,ABG G⟩
theorem Nw.Afr{S:Bv}{i:Nat}{l:List ByteArray}(r:Nw S i l)(h:l.any (fun y=>decide ((S.AA.getD i default).AM.Al=y))=true):Nw S (i+1) l:=by
 have hm:=ng.1 h;obtain⟨qu,Yr,Fb⟩:=(r.mem _).1 hm;refine⟨fun j Ay=>?_,fun k=>?_,Nat.le_succ_of_le r.len⟩
 ·
  rcases AEh.1 Ay with Ay|rfl
  · exact r.no j Ay
  rw[k4,ACu];left;cases q:allI j (fun x=> !decide ((S.AA.getD x default).AM.Al=(S.AA.getD j default).AM.Al))with
  |false=>rfl
  |true=>
   have:=Nz.1 q qu Yr;rw[ABG Fb]at this;cases this
 rw[r.mem];constructor
 ·
  rintro⟨j,Ay,e⟩;exact⟨j,AMT,e⟩
 rintro⟨j,Ay,e⟩;rcases AEh.1 Ay with Ay|rfl
 · exact⟨j,Ay,e⟩
 exact⟨qu,Yr,by rw[Fb,e]⟩
theorem Nw.fresh{S:Bv}{i:Nat}{l:List ByteArray}(r:Nw S i l)(h:l.any (fun y=>decide ((S.AA.getD i default).AM.Al=y))=false):allI i (fun j=> !decide ((S.AA.getD j default).AM.Al=(S.AA.getD i default).AM.Al))=true:=Nz.2 fun j Ay=>by
 rw[ABe,ABl];intro e;have:l.any (fun y=>decide ((S.AA.getD i default).AM.Al=y))=true:=ng.2 ((r.mem _).2 ⟨j,Ay,e⟩);rw[h]at this;cases this
theorem Nw.new{S:Bv}{i:Nat}{l:List ByteArray}(r:Nw S i l)(Av:(Io (BF S.Aj (S.AA.getD i default).AM.Al).1).2=false):Nw S (i+1) (l++[(S.AA.getD i default).AM.Al]):=by
 refine⟨fun j Ay=>?_,fun k=>?_,by rw[ABP];exact Nat.succ_le_succ r.len⟩
 ·
  rcases AEh.1 Ay with Ay|rfl
  · exact r.no j Ay
  rw[k4,Av,Bool.and_false]
 rw[ABm,ADe,r.mem];constructor
 ·
  rintro(⟨j,Ay,e⟩|e)
  · exact⟨j,AMT,e⟩
  exact⟨i,AMT,e.symm⟩
 rintro⟨j,Ay,e⟩;rcases AEh.1 Ay with Ay|rfl
 · exact .inl ⟨j,Ay,e⟩
 exact .inr e.symm
theorem Nw.yes{S:Bv}{i:Nat}{l:List ByteArray}(r:Nw S i l)(Ag:i<S.AA.length)(h:l.any (fun y=>decide ((S.AA.getD i default).AM.Al=y))=false)(Av:(Io (BF S.Aj (S.AA.getD i default).AM.Al).1).2=true):KS S=some i:=
 Tc Ag r.no (by rw[r.fresh h,Av];rfl)
theorem Nw.none{S:Bv}{i:Nat}{l:List ByteArray}(r:Nw S i l)(Ag:S.AA.length<=i):KS S=none:=Tb fun j Ay=>r.no j AMT
theorem AcI(CP:Value)(l:List ByteArray)(k:ByteArray):Cv AG 198 [CP,.string k] [⟨CP,l⟩] (.int .i64 (HI (Gd l.length (fun j=>decide (k=l.getD j default))))):=by
 refine Aw.proof Tryz.func198 G 19 G G fun X w=>AF 1 G<|Am<|Ae<|An G G<|C2 0 G G Tryz.underlying73 G fun MD=>An G G<|Ac<|B5<|Ji (σ:=Nat) [(0,_),(1,_),(7,_)] _ (fun i C=>(8,.int .i64 (i:Int))::C) (fun i=>i<=l.length/\(∀j,j<i->decide (k=l.getD j default)=false)) (fun i=>l.length-i) 0 (Bs G) (Ad 0 G Aa) ⟨ABg _,fun j Ay=>absurd Ay (AB2 j)⟩ (Bs G) ?_;rintro i ⟨Ag,C0⟩;refine AF 1 G<|Am<|B9 G (fun EO=>?_) (fun EO=>?_)
 ·
  refine AZ<|Am<|B5<|AF 2 G<|Ae<|U 2 G<|An G G<|Fo 0 G G G AjD G fun PS=>CQ 0 G G (A2 G) G fun N6=>U 1 G<|Ac<|B9 G (fun CR=>?_) (fun CR=>?_)
  · exact AF 2 G<|rt<|C9<|Cd<|Cd<|C9<|Cd<|Bq () G G (by rw[Tc AMT C0 (ABG CR)];rfl) G Aa
  refine EG<|CU<|A5<|rg<|C5 G G BV G<|An G G<|nl ?_;exact Dy (i+1) ⟨AMT,(Ki C0 (ABM CR))⟩ AMT (Bs G) G (Ad 1 G Aa)
 exact ex<|Ck<|Ck<|D7<|A5<|AF 1 G<|rt<|Bq () G G (by rw[Tb (fun k AE=>C0 k AMT)];rfl) G Aa
theorem yj(CP:Value)(l:List ByteArray)(k:ByteArray):Cv AG 139 [CP,.string k] [⟨CP,l⟩] (.bool (l.any (fun y=>decide (k=y)))):=by
 exact Aw.proof Tryz.func139 G 9 G G fun X w=>AF 1 G<|Ae<|U 2 G<|B0 (AcI _ l k) (Ar G) G (Ad 0 G Aa) G<|U 2 G<|Ac<|rt<|Bq () G G (by exact ABE _ (dx (p:=fun y=>decide (k=y)))) G Aa
theorem la(b:Nat)(nd:List Nat)(W:Ah)(BO:Ce W.S):Aw AG 77 [ALM b 0] [DS b nd W] [] (fun(_:List Nat) u=>u=.int .i64 (HI (KS W.S))) (fun y _=>[DS b y W]) (fun _ _=>[]):=by
 refine Aw.proof Tryz.func77 G 51 G G fun X w=>Gu fun AS A1 AY A9 Ba Bd Bp Bi AU=>AF 1 G<|AF 1 G<|Am<|Am<|Lk ByteArray 9<|rg<|AX 5 [1] G G<|JX 3 G G ARQ G fun qT=>An G G<|Ac<|B5<|Hx (σ:=Nat×List ByteArray×Value) [(0,_),(14,_),(15,_)] _ (fun s C=>(16,.int .i64 (s.1:Int))::(3,s.2.2)::C) (fun s=>[@row ByteArray Nl 9 s.2.2 s.2.1,AO b 118 (FB W AS A1 AY A9 Ba Bd Bp Bi),row 58 AS W.S.Aj,row 108 AY W.S.AA,row 97 Bp W.EF,row 156 Bi W.BQ,CL X w]) (fun _ Dw=>Dw) (fun s=>s.1<=W.S.AA.length/\Nw W.S s.1 s.2.1) (fun s=>W.S.AA.length-s.1) (0,[],AI) (Bs G) (Ad 0 G (Ad 1 G (Ad 2 G (Ad 3 G Aa)))) ⟨ABg _,Nw.start _⟩ (Bs G) G (Ad 0 G (Ad 1 G (Ad 2 G (Ad 3 G Aa)))) ?_;rintro⟨i,seen,Bk⟩ ⟨Ag,Bh⟩;simp only at Ag Bh;have jN:=BO.wl;have NM:=Bh.len;show CF _ _ _ [(16,.int .i64 ((i:Int))),(3,Bk),(0,_),(14,_),(15,_)] [@row ByteArray Nl 9 Bk seen,AO b 118 (FB W AS A1 AY A9 Ba Bd Bp Bi),row 58 AS W.S.Aj,row 108 AY W.S.AA,row 97 Bp W.EF,row 156 Bi W.BQ,CL X w] _;refine AF 1 G<|Am<|B9 G (fun DA=>?_) (fun DA=>?_)
 ·
  refine AZ<|Am<|B5<|Ae<|An G G<|IF 3 (i) G G G N0 AMT AMT G<|Qk (s:=Zf) 3 (i) G G JP (At G) G fun Qt Vr=>CT SM G fun E'=>U 1 G<|BZ 0 (us:=(Hh ((W.S.AA.getD (i) default)))) G G G (At G) G G<|Ac<|Am<|Ae<|AX 4 [0] G G<|P6 [(@Atom.mk (List ByteArray) (@FI ByteArray Nl) Bk seen)] (yj Bk seen (W.S.AA.getD i default).AM.Al) (Ar G) G (DU.row 1 G DU.nil) (Ad 0 G Aa) G<|Ac<|BN G (fun Gr=>?_) (fun Gr=>?_)
  ·
   refine ex<|Ck<|D7<|A5<|rg<|C5 G G BV G<|An G G<|nl<|AQ ?_;exact Dy ((i+1,seen,Bk):Nat×List ByteArray×Value) ⟨by show i+1<=_;omega,Bh.Afr Gr⟩ (by show W.S.AA.length-(i+1)<W.S.AA.length-i;omega) (Bs G) G (BE [1,2,3,4] G)
  refine AZ<|Ae<|AX 4 [0] G G<|BH (xs:=[.tmp 29]) (us:=[.string (W.S.AA.getD (i) default).AM.Al]) (E:=9) (bytes:=16) (n:=1) G (by exact nq) G G G G G G fun Amg=>Q5 (α:=ByteArray) (r:=Nl) [(W.S.AA.getD i default).AM.Al] [[.string (W.S.AA.getD i default).AM.Al]] G (fun S w h=>⟨⟨G,Vr.2.2.2.2.2.2.1⟩,trivial⟩) (ABy G)<|ap 1 0 G G G G nq (by simp only[ABv,ABo];omega) (by simp only[ABv,ABo];omega) G fun L5=>U 1 G<|Ac<|Am<|AuG [[(11,.f1 11 fun BM=>[AO (FH (BM 0)) 58 N9]),(12,.f2 11 7 fun BM GL=>[AO (FH (BM 0)) 58 (A3 ((BF W.S.Aj (W.S.AA.getD (i) default).AM.Al).1) (GL 0))])]] [] [(7,Ff [4] (fun A4=>some (.tuple #[.agg (A3 ((BF W.S.Aj (W.S.AA.getD (i) default).AM.Al).1) (A4 0)).toArray,.bool ((BF W.S.Aj (W.S.AA.getD (i) default).AM.Al).2)])) fun A4=>[⟨(A4 0),(BF W.S.Aj (W.S.AA.getD (i) default).AM.Al).1.A0⟩]),(11,O6 [0]),(12,DF [0] undef)] [(3,3),(6,1)] [0,3,4,14,15,16,6] (fun _=>G) (fun _=>G) (fun Ai AV Az=>⟨fun _=>?_,fun _=>CT Hd G fun Hg=>BU [ALM Hg 0] [] 0 G G,fun _=>?_,trivial⟩) fun Ai _=>?_
  ·
   refine Uw [⟨AS,W.S.Aj⟩] (UI W.S _ _ _ _ _ _ (W.S.AA.getD (i) default).AM.Al (BF W.S.Aj (W.S.AA.getD (i) default).AM.Al) G (Au1 BO)) (fun _ _=>Vi) (Ar G) G (DU.row 0 G DU.nil) (Ad 0 G Aa) G fun mK AoL K7=>?_;obtain⟨yN,Ao6⟩:=K7;subst yN;exact JO<|BU [mK] [0] 1 G G
  ·
   refine Cp 0 G fun Ka=>?_;exact BZ 0 (us:=(A3 ((BF W.S.Aj (W.S.AA.getD (i) default).AM.Al).1) (Ai 7 0))) G G G (At G) (by simp only[ABn,ABr,ABp,Ka];rfl) G<|BU [] [] 1 G G
  generalize FH (Ai 11 0)=Hg,Ai 7 0=mK;refine A5<|Ae<|BJ 0 (A3 ((BF W.S.Aj (W.S.AA.getD (i) default).AM.Al).1) mK) G G (At G) G G<|B0 (ma _ _ (Q3 BO)) (Ar G) G (Ad 0 G Aa) G<|U 5 G<|Ac<|Ae<|An G G<|Ac<|BN G (fun aH=>?_) (fun aH=>?_)
  ·
   refine AF 2 G<|rt<|C9<|Cd<|Cd<|C9<|Cd ?_;have Fb:KS W.S=some i:=Bh.yes AMT Gr aH;exact Au 7 G<|Au 7 G<|Au 7 G<|Au 7 G<|Au 7 G<|Es W AS A1 AY A9 Ba Bd Bp Bi G AU (BE [3,4,5,6] G) fun BH=>Au 1 G<|AQ<|Au 1 G<|AQ<|Au 1 G<|AQ<|Bq BH G G (by rw[Fb];rfl) G Aa
  refine EG<|CU<|A5<|rg<|C5 G G BV G<|An G G<|nl<|AQ<|AQ ?_;exact Dy ((i+1,seen++[(W.S.AA.getD i default).AM.Al],L5):Nat×List ByteArray×Value) ⟨by show i+1<=_;omega,Bh.new aH⟩ (by show W.S.AA.length-(i+1)<W.S.AA.length-i;omega) (Bs G) G (BE [3,4,5,6] G)
 refine ex<|Ck<|Ck<|D7<|A5<|AF 1 G<|rt ?_;have Fb:KS W.S=none:=Bh.none AMT;exact Au 5 G<|Au 5 G<|Au 5 G<|Au 5 G<|Au 5 G<|Es W AS A1 AY A9 Ba Bd Bp Bi G AU (BE [0,1,2,3] G) fun BH=>Au 1 G<|AQ<|Bq BH G G (by rw[Fb];rfl) G Aa
end Go.Apw
namespace Go.A_
section
section
variable{G:Type}
structure AL3 (G:Type) where
 E8:Nat->List Nat
 ok:Nat->Value->Prop
 at_:Nat->Value->List Atom
 Eb:Nat->Option Value
 L:List Nat->List Value->G->Own
 Eu:List Nat
 hs:List (List Nat)
@[reducible] def AL3.rs(s:AL3 G):MV:=⟨s.E8,s.ok,s.at_,fun _=>[],[]⟩
end
end
end Go.A_
namespace Go.Apw
theorem tJ(w:Ah)(o:FL):(H3 w o).1.B7=w.B7:=by
 unfold H3;simp only;repeat' split
 all_goals rfl
theorem ri(W:Ah)(x:BX):(W.Lf x).B7<=W.B7+2:=by
 unfold Ah.Lf;split
 ·
  omega
 simp only;generalize KA (BF W.S.Aj x.AM.Al).1 ⟨x.Ap,x.As,x.DH,x.AM.B2⟩=r;have BC:(if r.2=0 then W.put r.1 else W.tell 3 x.Ap x.As GS).B7<=W.B7+1:=by
  split
  ·
   rw[sv];omega
  rw[Xh];exact ABW _
 generalize (if r.2=0 then W.put r.1 else W.tell 3 x.Ap x.As GS)=v at*;split
 ·
  split
  ·
   rw[k3];omega
  omega
 split
 ·
  split
  ·
   rw[sv];omega
  omega
 split
 ·
  rw[og];show v.B7+1<=_;omega
 show v.B7<=_;omega
theorem Ak9(b:Nat)(nd:List Nat)(W:Ah)(Z:Ah)(AW:Ah.waits W.S.AA.length W=Z)(BO:Ce W.S)(Ge:W.B7<=880):Aw AG 40 [ALM b 0] [DS b nd W] [] (fun(_:List Nat) _=>True) (fun y _=>[DS b y Z]) (fun _ _=>[]):=by
 refine Aw.proof Tryz.func40 G 52 G G fun X w=>Ae<|An G G<|Ch 0 (la b _ W BO) (Ar G) G G Aa G fun VV AoB C'=>?_;subst C';refine U 1 G<|Ac<|B5<|Hx (σ:=Nat×Ah×List Nat) [(0,_)] _ (fun s C=>(2,.int .i64 (HI (KS s.2.1.S)))::C) (fun s=>[DS b s.2.2 s.2.1,CL X w]) (fun _ Dw=>Dw) (fun s=>s.2.1.S.AA.length<=s.1/\Ah.waits s.1 s.2.1=Z/\Ce s.2.1.S/\s.2.1.B7+2*s.1<=900) (fun s=>s.1) (W.S.AA.length,W,VV) ⟨G,trivial⟩ Aa ⟨ABW _,AW,BO,by show W.B7+2*W.S.AA.length<=900;have:=BO.wl;omega⟩ (Bs G) G Aa ?_;rintro⟨m,Y,JG⟩ ⟨i1,i2,i3,i4⟩;simp only at i1 i2 i3 i4;show CF _ _ _ [(2,.int .i64 ((HI (KS Y.S)))),(0,_)] [DS b JG Y,CL X w] _;refine Am<|AF 2 G<|B9 G (fun GY=>?_) (fun GY=>?_)
 ·
  obtain⟨i,Fb⟩:∃i,KS Y.S=some i:=by
   cases e:KS Y.S with
   |none=>rw[e]at GY;exact absurd GY ARp
   |some i=>exact⟨i,rfl⟩
  have QX:HI (KS Y.S)=(i:Int):=(by rw[Fb];rfl);rw[QX];have C_:=lb Fb;obtain⟨m,rfl⟩:∃k,m=k+1:=⟨m-1,AMT⟩;have pj:Ah.waits m (Y.L6 i)=Z:=(by rw[<-i2,Ah.waits,Fb]);obtain⟨PZ,Xw,Alb,wd,uM⟩:=SF.1 (i3.wt _ (Hl C_));have WG:=i3.ww _ (Hl C_);have hlen:=uH C_;have eT:=(uG i3 C_).ws;have jN:=i3.wl;refine AZ<|Am<|B5<|Am<|Gu fun AS A1 AY A9 Ba Bd Bp Bi AU=>?_;refine rg<|AX 6 [0] G G<|IF 2 (i) G G G N0 AMT AMT G<|Qk (s:=Zf) 2 (i) G G JP (At G) G fun O_ mr=>CT SM G fun DQ=>BZ 0 (us:=(Hh ((Y.S.AA.getD (i) default)))) G G G (At G) G G<|Ac<|Ae<|AX 8 [1] G G<|Hf (r:=((i+1:Nat):Int)) G G AMT BV G<|Ch 3 (oi AY Y.S.AA i C_ AMT) (Ar G) G G Aa G fun _ N4 _=>?_;refine U 3 G<|IL 1 3 G G G G (A2 G) (Da G)<|Ac<|Am<|B8 5 G<|B8 5 G<|B8 5 G<|B8 5 G<|B8 5 G<|Ho ({Y with S:={Y.S with AA:=Y.S.AA.eraseIdx i}}:Ah) AS A1 N4 A9 Ba Bd Bp Bi G AU (BE [1,2,3,4] G) fun BH=>?_;obtain⟨Lu,Yh⟩:∃V:Ah,({Y with S:={Y.S with AA:=Y.S.AA.eraseIdx i}}:Ah)=V:=⟨_,rfl⟩;rw[Yh];have fV:Ce Lu.S:=Yh▸i3.bB (AD1 ..);have Apq:Lu.B7=Y.B7:=(by rw[<-Yh];rfl);have rM:F' Lu.S (Y.S.AA.getD i default).AM.Al=true:=Yh▸Alb;refine Kb 3 [1] G G<|A5<|B9 G (fun ARB=>?_) (fun ARB=>?_)
  ·
   have A7:Xu (Y.S.AA.getD i default)=true:=by
    rcases uM with e|e
    · exact e.2
    rw[ARB]at e;exact absurd e.1 ARp
   obtain⟨o1,o2,IJ⟩:=uI A7;have Aj1:=tI fV Xw rM WG.2.2.2.2.2 IJ ⟨o1,o2⟩;have Ak':=tH (o:=(Y.S.AA.getD i default).AM) fV Xw;have Apr:=tJ Lu (Y.S.AA.getD i default).AM;refine AuR (ω:=List Nat×Value) [] [(0,[(13,.f1 13 fun BM=>[DS b BM.1 (H3 Lu (Y.S.AA.getD i default).AM).1]),(14,.f1 14 fun BM=>[DS b BM.1 (Ah.served (H3 Lu (Y.S.AA.getD i default).AM).1 (Y.S.AA.getD i default).Ap (Y.S.AA.getD i default).As (Y.S.AA.getD i default).Bn (Y.S.AA.getD i default).AM.Al (H3 Lu (Y.S.AA.getD i default).AM).2)])])] [(13,⟨[0],fun _=>some (.agg (GM (H3 Lu (Y.S.AA.getD i default).AM).2).toArray),fun _=>[],[]⟩),(14,K8 [0])] [(2,1),(4,1),(6,1),(9,1),(12,1)] [0] (fun _=>G) (fun _=>G) (fun Ai AV Az=>⟨fun _=>?_,fun _=>?_,trivial⟩) fun Ai _=>?_
   ·
    refine Ch 0 (AjU b _ Lu (Y.S.AA.getD i default).AM (H3 Lu (Y.S.AA.getD i default).AM) G fV WG.2.2.2.2.2 Xw IJ ⟨o1,o2⟩) (Ar G) G G Aa G fun nH AoA Wg=>?_;subst Wg;exact I4 (nH,undef) [] 0 G G trivial
   ·
    refine Ch 0 (f_ b _ (H3 Lu (Y.S.AA.getD i default).AM).1 (Y.S.AA.getD i default).Ap (Y.S.AA.getD i default).As (Y.S.AA.getD i default).Bn (Y.S.AA.getD i default).AM.Al (H3 Lu (Y.S.AA.getD i default).AM).2 (Ah.served (H3 Lu (Y.S.AA.getD i default).AM).1 (Y.S.AA.getD i default).Ap (Y.S.AA.getD i default).As (Y.S.AA.getD i default).Bn (Y.S.AA.getD i default).AM.Al (H3 Lu (Y.S.AA.getD i default).AM).2) G Aj1.ws AMT WG.2.1 WG.2.2.1 WG.2.2.2.1 WG.2.2.2.2.2.2.1 Ak') (Ar G) G G Aa G fun nI _ _=>?_;exact I4 (nI,_) [] 0 G G trivial
   generalize (Ai 13).1=nH,(Ai 14).1=nI,(Ai 14).2=Xj;obtain⟨RH,Wn⟩:∃V,(Ah.served (H3 Lu (Y.S.AA.getD i default).AM).1 (Y.S.AA.getD i default).Ap (Y.S.AA.getD i default).As (Y.S.AA.getD i default).Bn (Y.S.AA.getD i default).AM.Al (H3 Lu (Y.S.AA.getD i default).AM).2)=V:=⟨_,rfl⟩;rw[Wn];have V5:Y.L6 i=RH:=(by rw[<-Wn,<-Yh,Ah.L6];exact AA_ ARB);have lx:Ce RH.S:=V5▸eT;have AlM:RH.B7<=Y.B7+2:=(by rw[<-Wn];have:=ta (H3 Lu (Y.S.AA.getD i default).AM).1 (Y.S.AA.getD i default).Ap (Y.S.AA.getD i default).As (Y.S.AA.getD i default).Bn (Y.S.AA.getD i default).AM.Al (H3 Lu (Y.S.AA.getD i default).AM).2;omega);refine CU<|A5<|rg<|An G G<|Ch 0 (la b _ RH lx) (Ar G) G G Aa G fun K1 uc EO=>?_;subst EO;refine U 1 G<|nl<|Au 1 G<|AQ ?_;rw[<-V5];exact Dy ((m,Y.L6 i,K1):Nat×Ah×List Nat) ⟨by show(Y.L6 i).S.AA.length<=m;omega,pj,eT,by show(Y.L6 i).B7+2*m<=900;rw[V5];omega⟩ (by show m<m+1;omega) (Bs G) G Aa
  have A7:Xv (Y.S.AA.getD i default)=true:=by
   rcases uM with e|e
   · exact absurd e.1 ARB
   exact e.2
  simp only[Xv,ABb,ABe,ABl]at A7;refine rg<|An G G<|BJ 1 (Hh ((Y.S.AA.getD (i) default))) G G (At G) G G ?_;obtain⟨RH,Wn⟩:∃V,Lu.Lf (Y.S.AA.getD i default)=V:=⟨_,rfl⟩;refine Ch 0 (AdX b _ Lu (Y.S.AA.getD i default) RH Wn fV AMT WG Xw rM A7.1.2) (Ar G) G G Aa G fun AmG _ _=>?_;have V5:Y.L6 i=RH:=(by rw[<-Wn,<-Yh,Ah.L6];exact AA9 ARB);have lx:Ce RH.S:=V5▸eT;have AlM:RH.B7<=Y.B7+2:=(by rw[<-Wn];have:=ri Lu (Y.S.AA.getD i default);omega);refine nl<|CU<|A5<|rg<|An G G<|Ch 0 (la b _ RH lx) (Ar G) G G Aa G fun K1 uc EO=>?_;subst EO;refine U 1 G<|nl<|Au 1 G<|AQ ?_;rw[<-V5];exact Dy ((m,Y.L6 i,K1):Nat×Ah×List Nat) ⟨by show(Y.L6 i).S.AA.length<=m;omega,pj,eT,by show(Y.L6 i).B7+2*m<=900;rw[V5];omega⟩ (by show m<m+1;omega) (Bs G) G Aa
 have Fb:KS Y.S=none:=by
  cases e:KS Y.S with
  |none=>rfl
  |some i=>rw[e]at GY;exact absurd (by show(i:Int)>=0;omega) GY
 refine ex<|Ck<|Ck<|D7 ?_;have AB:Y=Z:=by rw[<-i2,Ak_ Fb]
 subst AB;exact Dz JG G trivial G Aa
theorem Ad2(W:Ah)(x:BX):∃M E,W.Ic x={W with S:={W.S with Bz:=M},EF:=E}:=by
 unfold Ah.Ic;simp only;split
 · exact⟨W.S.Bz,W.EF,G⟩
 split
 · exact⟨_,_,G⟩
 exact⟨W.S.Bz,_,G⟩
theorem j8:∀(l:List BX) (W:Ah),∃M E,l.foldl Ah.Ic W={W with S:={W.S with Bz:=M},EF:=E}
 |[],W=>⟨W.S.Bz,W.EF,rfl⟩
 |x::l,W=>by
  obtain⟨M,E,h⟩:=Ad2 W x;obtain⟨M2,vD,h2⟩:=j8 l (W.Ic x);rw[h]at h2;exact⟨M2,vD,by rw[ACO,h];exact h2⟩
theorem Ad4(W:Ah)(x:BX):(W.Ic x).B7<=W.B7+1:=by
 have h:=Xh W 2 x.Ap x.As GS;unfold Ah.Ic;simp only;split
 ·
  omega
 split
 · exact ACo h
 exact ACo h
theorem j7:∀(l:List BX) (W:Ah),(l.foldl Ah.Ic W).B7<=W.B7+l.length
 |[],_=>ABW _
 |x::l,W=>by
  have h:=j7 l (W.Ic x);have h2:=Ad4 W x;simp only[ACO,ABv];omega
def O'(u:Ah)(d:Bx):Ah:=if Ef u.S d.Al=true then u.OR d.Ap d.As else u
theorem Aji{u:Ah}{d:Bx}(h:Ce u.S):CE u (O' u d):=by
 unfold O';split
 · exact er h _ _
 exact CE.refl h
theorem lF:∀(l:List Bx) (u:Ah),(l.foldl O' u).B7<=u.B7+l.length
 |[],_=>ABW _
 |d::l,u=>by
  have h:=lF l (O' u d);have h2:(O' u d).B7<=u.B7+1:=by
   unfold O';split
   · exact o' u _ _
   omega
  simp only[ACO,ABv];omega
theorem Ajk{w:Ah}{c:Dg}(h:Ce w.S)(Af:¬(!LK c.Dj|| !decide (c.Dj.Hi=w.S.CZ)|| !decide (w.S.Bt=FP)|| !decide (w.S.CW=FP)|| !w.S.Du|| !decide (c.Dn=w.S.Dn))=true)
  (h2:¬(decide (c.Dj.Ev<=w.S.GW)|| !decide (c.Dj.Bc=w.S.Bc)|| !within w.S.A6 w.S.Bc c.Dj.A6)=true){v:Ah}(qb:w.S.AA.foldl Ah.Ic {w with S:={w.S with Bt:=c.Dj}}=v):
  Ce (v.drop fun x=>Ef v.S x.AM.Al).S:=by
 simp only[ABk,ABN,ABe,AB_,ABa]at Af h2;obtain⟨⟨⟨⟨⟨AH,BI⟩,Yx⟩,AbZ⟩,A7⟩,he⟩:=Af;obtain⟨⟨Ao,hh⟩,hw⟩:=h2;generalize BC:({w with S:={w.S with Bt:=c.Dj}}:Ah)=v0 at qb;have Xo:v0.S={w.S with Bt:=c.Dj}:=by rw[<-BC]
 have NS:XK v0 v0:=⟨rfl,by rw[Xo];exact h.marks,by rw[Xo];exact h.Me,rfl,rfl⟩;have Kq:=foldl_mk w.S.AA NS;rw[qb]at Kq;have e:v.S={w.S with Bt:=c.Dj,Bz:=v.S.Bz}:=by
  have:=Kq.s;rw[Xo]at this;exact this
 have hm:=Kq.m;have U5:=Kq.Me;generalize v.S.Bz=mk at e hm U5;have Wx:F' v.S c.Dj.A6=true:=by rw[e];show(w.S.Du&&within w.S.A6 w.S.Bc c.Dj.A6)=true;rw[A7,hw];rfl
 show Ce {v.S with AA:=v.S.AA.filter (fun x=> !Ef v.S x.AM.Al)};have Tv:∀x∈v.S.AA.filter (fun x=> !Ef v.S x.AM.Al),Mr v.S x=true/\x.wf:=fun x Ab=>by
  obtain⟨a,b⟩:=List.mem_filter.1 Ab;have a:x∈w.S.AA:=(by rw[e]at a;exact a);have Ab:=h.wt x a;refine⟨c2 Ab ?_ (by simpa using b),h.ww x a⟩;have:=(SF.1 Ab).2.2.1;rw[e];exact this
 have AN:(v.S.AA.filter (fun x=> !Ef v.S x.AM.Al)).length<=8:=ABB (List.length_filter_le ..) (by rw[e];exact h.wl);generalize v.S.AA.filter (fun x=> !Ef v.S x.AM.Al)=ws at Tv AN;have O0:w.S.Du=false->False:=fun q=>by rw[A7]at q;cases q
 rw[e]at Tv Wx ⊢;exact{h with marks:=hm,Me:=U5,wl:=AN,wt:=fun x Ab=>(Tv x Ab).1,ww:=fun x Ab=>(Tv x Ab).2,own:=⟨fun q=>(O0 q).elim,h.own.yes⟩,acc:=h.acc,Hc:=.inr ⟨AH,BI,hh,Wx⟩}
theorem Aka(b:Nat)(W:Ah)(AS A1 AY A9 Ba Bd Bp Bi:Value)(k c q:Int)(a:De)(_:W.wf)(Ge:W.B7<=1000)(R8:A' k)(BK:A' c)(Ed:A' q)(C6:a.wf):Aw AG 114 [ALM b 0,.int .i64 k,.int .i64 c,.int .i64 q,.agg (GM a).toArray] [AO b 118 (FB W AS A1 AY A9 Ba Bd Bp Bi),@row AD GR 58 AS W.S.Aj,@row BX Ha 108 AY W.S.AA,@row FE Nk 97 Bp W.EF,@row JE TQ 156 Bi W.BQ] [] (fun(_:Value) _=>True) (fun y _=>[AO b 118 (FB (W.tell k c q a) AS A1 AY A9 Ba Bd y Bi),@row AD GR 58 AS (W.tell k c q a).S.Aj,@row BX Ha 108 AY (W.tell k c q a).S.AA,@row FE Nk 97 y (W.tell k c q a).EF,@row JE TQ 156 Bi (W.tell k c q a).BQ]) (fun _ _=>[]):=by
 refine Aw.proof Tryz.func114 G 24 G G fun X w=>?_;obtain⟨Aa9,Aa_⟩:=id R8;obtain⟨K9,K_⟩:=id BK;obtain⟨LD,LF⟩:=id Ed;refine Ae<|CV G G G fun H7=>Ac<|AuG [] [(1,[(14,.f1 11 fun BM=>[AO b 118 (FB W AS A1 AY A9 Ba Bd (BM 0) Bi)])]),(4,[(11,.f1 11 fun BM=>[@row FE Nk 97 (BM 0) (W.EF++[(⟨k,c,q,a⟩:FE)])])])] [(9,DF [] (.agg (VW ((⟨k,c,q,a⟩:FE))).toArray)),(10,Ff [] (fun A4=>some (A4 0)) fun A4=>[⟨(A4 0),[(⟨k,c,q,a⟩:FE)]⟩]),(11,Ol [4] fun A4=>some ((A4 0))),(14,DF [1,4] undef)] [(4,1),(8,0)] [] (fun _=>G) (fun _=>G) (fun Ai AV Az=>⟨fun _=>Db (ps:=[(0,.tmp 15),(1,.tmp 16),(2,.tmp 17),(3,.tmp 18)]) (cs:=(VW ((⟨k,c,q,a⟩:FE)))) ARz ARs G<|BU [] [] 0 G G,fun _=>Lw G ZV G G G G fun hp=>KJ (α:=FE) ⟨k,c,q,a⟩ (fun S w h=>⟨(),G,by simp,R8,BK,Ed,C6⟩)<|BU [_] [0] 1 G G,fun _=>?_,fun _=>IL 0 1 G G G G (A2 G) (Da G)<|BU [] [] 1 G G,trivial⟩) fun Ai _=>?_
 · exact ap 0 0 G G G G ZV (by have:=cI Ge;simp only[ABv,ABo];omega) (by have:=cI Ge;simp only[ABv,ABo];omega) G fun SB=>BU [SB] [] 1 G G
 generalize Ai 10 0=Vo,Ai 11 0=v11;exact AQ<|Dz v11 G trivial G Aa
theorem Ajh(x:BX)(v1:Value)(b:Nat)(W:Ah)(AS A1 AY A9 Ba Bd Bp Bi:Value)(_:x.wf):Cv AG 134 [.agg (Hh x).toArray,v1] [Ov b W AS A1 AY A9 Ba Bd Bp Bi,⟨v1,(⟨⟨ALM b 0⟩⟩:Cq JD)⟩] (.bool (Ef W.S x.AM.Al)):=by
 exact Aw.proof Tryz.func134 G 12 G G fun X w=>Ae<|CV G G G fun Dh=>U 1 G<|Ac<|Am<|Gx mixed ARs<|CQ 1 G G (A2 G) G fun RD=>Co 0 G G G<|IY (α:=Ah×QA.H) (β:=Bv×DL.H) 0 (fun x=>(x.1.S,(x.2.1,x.2.2.1,x.2.2.2.1,x.2.2.2.2.1,x.2.2.2.2.2.1,x.2.2.2.2.2.2.1))) G G (BR G) WZ G fun v6=>j1 (s:=DL) (ov:=W.S) (hh:=(AS,A1,AY,A9,Ba,Bd)) 0 G G (At G) G fun OD=>AX 3 [0] G G<|HD (TV _ _ _ _ _ _ _ _ OD) (Ar G) G Aa G<|U 1 G<|Gj<|A5<|rt<|AQ<|Bq () G G ARz G Aa
theorem Ajj(b:Nat)(nd:List Nat)(W:Ah)(c:Dg)(EE:Value)(Z:Ah)(AW:W.seal c=Z)(BO:Ce W.S)(Ge:W.B7<=900)(BK:c.wf):Aw AG 73 [ALM b 0,.agg (IT c EE).toArray] [DS b nd W] [] (fun(_:List Nat) _=>True) (fun y _=>[DS b y Z]) (fun _ _=>[]):=by
 refine Aw.proof Tryz.func73 G 181 G G fun X w=>Gu fun AS A1 AY A9 Ba Bd Bp Bi AU=>Ae<|CV G G G fun Dh=>CV G G G fun DQ=>Ac<|Ae<|U 1 G<|BJ 0 (ED c.Dj) G G (At G) G G<|CT gS G fun En=>BZ 0 (us:=(ED c.Dj)) G G G (At G) G G<|Ac<|Am<|Am<|Gx mixed ARs<|BJ 0 (ED c.Dj) G G (At G) G G<|HD (fC _ BK.2.2.2.2.2.2.2.2.2.2.2.2.1) (Ar G) G Aa G<|U 2 G ?_;refine DE 16 9 [2,3,4] G G (fun CR ZI=>by
  exact AX 7 [0,2,3] G G<|U 2 G<|ZI G Br) ?_
 refine An G G ?_;refine DE 26 8 [2,3,4] G G (fun JR ZJ=>by
  exact AX 4 [2] G G<|Bl G G G<|BJ 3 (ED W.S.Bt) G G (At G) G G<|Bl G G G<|dC (ps:=[]) (cs:=(ED (Gs))) ARz ARs G<|Bl G G G<|Qo RV (W.S.Bt) (Gs) G G G<|U 1 G<|ZJ G Br) ?_
 refine An G G ?_;refine DE 35 8 [2,3,4] G G (fun Lz ZL=>by
  exact AX 4 [2] G G<|Bl G G G<|BJ 3 (ED W.S.CW) G G (At G) G G<|Bl G G G<|dC (ps:=[]) (cs:=(ED (Gs))) ARz ARs G<|Bl G G G<|Qo RV (W.S.CW) (Gs) G G G<|U 1 G<|ZL G Br) ?_
 refine An G G<|ET 44 7 [2,3] [2,3,4] G G G<|An G G ?_;refine DE 52 9 [2,4] G G (fun iK vZ=>by
  exact AX 7 [1,2,3] G G<|U 2 G<|vZ G Br) ?_
 refine Gj<|A5<|BN G (fun Yf=>?_) (fun Yf=>?_)
 ·
  refine BA ?_;have AB:W=Z:=(by rw[<-AW,Ah.seal];exact(AA_ Yf).symm);subst AB;exact Au 7 G<|Au 7 G<|Au 7 G<|Au 7 G<|Au 7 G<|Es W AS A1 AY A9 Ba Bd Bp Bi G AU (BE [0,1,2,3] G) fun BH=>Au 1 G<|AQ<|Au 1 G<|AQ<|Au 1 G<|AQ<|Ej BH G trivial G Aa
 refine AZ<|Am<|Am<|Gx mixed ARs<|AX 9 [0,2,3] G G ?_;refine DE 70 9 [2,4] G G (fun Ti ZP=>by
  have Aoi:=ACe Ti;exact AX 7 [0,2,3] G G<|U 2 G<|ZP G Br) ?_
 refine An G G ?_;refine DE 80 15 [2,4] G G (fun ey we=>by
  exact AX 7 [2,3,2] G G<|AX 5 [3,0] G G<|Bl G G G<|HD (Xx _ _ _) (Ar G) G Aa G<|U 1 G<|U 1 G<|we G Br) ?_
 refine Gj<|A5<|BN G (fun Yg=>?_) (fun Yg=>?_)
 ·
  refine BA ?_;have AB:W=Z:=(by rw[<-AW,Ah.seal];exact((AA9 (fun q=>ABd (ABS (AB3 Yf) q))).trans (AA_ Yg)).symm);subst AB;exact Au 7 G<|Au 7 G<|Au 7 G<|Au 7 G<|Au 7 G<|Es W AS A1 AY A9 Ba Bd Bp Bi G AU (BE [0,1,2,3] G) fun BH=>Au 1 G<|AQ<|Au 1 G<|AQ<|Au 1 G<|AQ<|Ej BH G trivial G Aa
 refine AZ<|Ae<|AX 1 [2] G G<|BJ 0 (ED c.Dj) G G (At G) G G<|U 3 G<|stM 3 (us:=(ED c.Dj)) G G G (At G) G (ABy G)<|Ac<|Am<|Am<|B8 7 G<|B8 7 G<|B8 7 G<|B8 7 G<|B8 7 G<|Ho ({W with S:={W.S with Bt:=c.Dj}}:Ah) AS A1 AY A9 Ba Bd Bp Bi G ⟨⟨AU.1.1,AU.1.2.1,AU.1.2.2.1,AU.1.2.2.2.1,AU.1.2.2.2.2.1,AU.1.2.2.2.2.2.1,AU.1.2.2.2.2.2.2.1,AU.1.2.2.2.2.2.2.2.1,AU.1.2.2.2.2.2.2.2.2.1,AU.1.2.2.2.2.2.2.2.2.2.1,AU.1.2.2.2.2.2.2.2.2.2.2.1,BK.2.2.2.2.2.2.2.2.2.2.2.2.1,AU.1.2.2.2.2.2.2.2.2.2.2.2.2.1,AU.1.2.2.2.2.2.2.2.2.2.2.2.2.2.1,AU.1.2.2.2.2.2.2.2.2.2.2.2.2.2.2.1,AU.1.2.2.2.2.2.2.2.2.2.2.2.2.2.2.2.1,AU.1.2.2.2.2.2.2.2.2.2.2.2.2.2.2.2.2⟩,AU.2⟩ (Ad 0 G (Ad 1 G (Ad 2 G (Ad 3 G Aa)))) fun BH=>?_;obtain⟨Ax,CB⟩:∃V:Ah,({W with S:={W.S with Bt:=c.Dj}}:Ah)=V:=⟨_,rfl⟩;rw[CB];have jM:Ax.S.AA=W.S.AA:=by rw[<-CB]
 have JC:Ax.B7=W.B7:=by rw[<-CB];rfl
 refine Gu fun AS A1 AY A9 Ba Bd Bp Bi AU=>?_;refine rg<|AX 5 [7,0] G G<|JX 2 G G ARQ G fun AnN=>An G G<|Ac<|B5<|Hx (σ:=Nat×Value×Value) [(2,_),(105,_),(106,_)] _ (fun s C=>(107,.int .i64 (s.1:Int))::C) (fun s=>[AO b 118 (FB Ax AS s.2.1 AY A9 Ba Bd s.2.2 Bi),row 58 AS Ax.S.Aj,row 108 AY Ax.S.AA,@row FE Nk 97 s.2.2 ((Ax.S.AA.take s.1).foldl Ah.Ic Ax).EF,row 156 Bi Ax.BQ,AO En 42 (ED c.Dj),AO DQ 79 (IT c EE),AO Dh 114 [ALM b 0],CL X w]) (fun s Dw=>(⟨s.2.1,((Ax.S.AA.take s.1).foldl Ah.Ic Ax).S.Bz⟩:Atom)::Dw) (fun s=>s.1<=Ax.S.AA.length) (fun s=>Ax.S.AA.length-s.1) (0,A1,Bp) (Bs G) (Ad 1 G (Ad 2 G (Ad 3 G (Ad 4 G (Ad 5 G (Ad 6 G (Ad 7 G Aa))))))) (ABg _) (Bs G) G (Ad 0 G (Ad 1 G (Ad 2 G (Ad 3 G (Ad 4 G (Ad 5 G (Ad 6 G (Ad 7 G Aa)))))))) ?_;rintro⟨i,q1,Mi⟩ Ag;simp only at Ag;obtain⟨Ms,Pn,Og⟩:=j8 (Ax.S.AA.take i) Ax;show CF _ _ _ [(107,.int .i64 (i:Int)),(2,_),(105,_),(106,_)] [AO b 118 (FB Ax AS q1 AY A9 Ba Bd Mi Bi),row 58 AS Ax.S.Aj,row 108 AY Ax.S.AA,@row FE Nk 97 Mi ((Ax.S.AA.take i).foldl Ah.Ic Ax).EF,row 156 Bi Ax.BQ,AO En 42 (ED c.Dj),AO DQ 79 (IT c EE),AO Dh 114 [ALM b 0],CL X w] ((⟨q1,((Ax.S.AA.take i).foldl Ah.Ic Ax).S.Bz⟩:Atom)::_);rw[Og];have AlO:=j7 (Ax.S.AA.take i) Ax;rw[Og,ABz]at AlO;have jN:=BO.wl;have Jh:=ABE List.length jM;show CF _ _ _ [(107,.int .i64 ((i:Int))),(2,_),(105,_),(106,_)] [AO b 118 (FB Ax AS q1 AY A9 Ba Bd Mi Bi),row 58 AS Ax.S.Aj,row 108 AY Ax.S.AA,@row FE Nk 97 Mi Pn,row 156 Bi Ax.BQ,AO En 42 (ED c.Dj),AO DQ 79 (IT c EE),AO Dh 114 [ALM b 0],CL X w] _;refine AF 1 G<|Am<|B9 G (fun We=>?_) (fun We=>?_)
 ·
  refine AZ<|Am<|B5<|Ae<|IF 2 (i) G G G N0 AMT AMT G<|Qk (s:=Zf) 2 (i) G G JP (At G) G fun Aon Ao0=>CT SM G fun Hg=>BZ 0 (us:=(Hh ((Ax.S.AA.getD (i) default)))) G G G (At G) G G<|Ac<|Am<|Am<|Gx mixed ARs<|AX 4 [0] G G ?_;refine DE 114 10 [2,6,105,106,107] G G (fun AaF vN=>by
   have AfZ:=AaF;simp only[ABI,ABa]at AfZ;exact AX 3 [8] G G<|Bl G G G<|BJ 1 (BY Ax.S AS q1 AY A9 Ba Bd) G G (At G) G G<|AX 3 [0] G G<|Bl G G G<|HD (TV _ _ _ _ _ _ _ _ AU.1) (Ar G) G Aa G<|U 2 G<|vN G Br) ?_
  refine Gj<|A5<|BN G (fun et=>?_) (fun et=>?_)
  ·
   refine ex<|Ck<|D7<|A5<|rg<|C5 G G BV G<|An G G<|nl<|AQ ?_;have JU:((Ax.S.AA.take (i+1)).foldl Ah.Ic Ax)=({Ax with S:={Ax.S with Bz:=Ms},EF:=Pn}:Ah):=(NH AMT).trans (by rw[Og,Ah.Ic];exact AA_ et);have he:Pn=((Ax.S.AA.take (i+1)).foldl Ah.Ic Ax).EF:=(by rw[JU]);rw[he];have hm:Ms=((Ax.S.AA.take (i+1)).foldl Ah.Ic Ax).S.Bz:=(by rw[JU]);rw[hm];exact Dy ((i+1,q1,Mi):Nat×Value×Value) (by show i+1<=_;omega) (by show Ax.S.AA.length-(i+1)<Ax.S.AA.length-i;omega) (Bs G) G (BE [1,2,3,4,5,6,7,8] G)
  have qd:(Ax.S.AA.getD i default)∈W.S.AA:=(by rw[<-jM];exact Hl AMT);have bj:=BO.ww _ qd;have Acx:=(SF.1 (BO.wt _ qd)).1;simp only[Jj,ABb,ABa]at Acx;have Tu:A' ((Ax.S.AA.getD i default).As-1):=by
   obtain⟨DP,EK⟩:=bj.2.2.1;exact⟨AMT,AMT⟩
  refine AZ<|Ae<|AX 5 [8,0,0] G G<|Db (ps:=[]) (cs:=(GM ((⟨0,0,0,0⟩:De)))) ARz ARs G<|D9 5 G<|D9 5 G<|D9 5 G<|D9 5 G<|D9 5 G<|Hs 5 (Aka b ({Ax with S:={Ax.S with Bz:=Ms},EF:=Pn}:Ah) AS q1 AY A9 Ba Bd Mi Bi 2 (Ax.S.AA.getD i default).Ap (Ax.S.AA.getD i default).As GS AU (show Ah.B7 ({Ax with S:={Ax.S with Bz:=Ms},EF:=Pn}:Ah)<=1000 by omega) ⟨ARp,ARp⟩ bj.2.1 bj.2.2.1 ZA) (Ar G) G G Aa G fun u5 _ _=>Ac<|Am<|AuG [] [] [(9,Ff [] (fun A4=>some (.tuple #[(A4 0),.int .i64 ((G' Ms (Ax.S.AA.getD i default).Ap (Ax.S.AA.getD i default).As).2)])) fun A4=>[⟨(A4 0),(G' Ms (Ax.S.AA.getD i default).Ap (Ax.S.AA.getD i default).As).1⟩])] [(0,8),(4,0),(6,5),(8,5)] [2,105,106,107,7,8] (fun _=>G) (fun _=>G) (fun Ai AV Az=>⟨fun _=>?_,trivial⟩) fun Ai _=>?_
  ·
   refine Dm (Ad0 _ _ (Ax.S.AA.getD i default).Ap (Ax.S.AA.getD i default).As (G' Ms (Ax.S.AA.getD i default).Ap (Ax.S.AA.getD i default).As) G bj.2.1 bj.2.2.1 Tu) (Ar G) G (Ad 1 G Aa) G fun mG AoH AaH=>?_;subst AaH;exact BU [mG] [0] 1 G G
  generalize Ai 9 0=mG;refine A5<|AF 2 G<|B9 G (fun iG=>?_) (fun iG=>?_)
  ·
   refine rg<|AX 5 [8] G G<|J2 0 0 G G G G (A2 G) (Da G)<|nl<|CU<|A5<|rg<|C5 G G BV G<|An G G<|nl<|Au 5 G<|AQ ?_;have JU:((Ax.S.AA.take (i+1)).foldl Ah.Ic Ax)=({(Ah.tell ({Ax with S:={Ax.S with Bz:=Ms},EF:=Pn}:Ah) 2 (Ax.S.AA.getD i default).Ap (Ax.S.AA.getD i default).As GS)with S:={(Ah.tell ({Ax with S:={Ax.S with Bz:=Ms},EF:=Pn}:Ah) 2 (Ax.S.AA.getD i default).Ap (Ax.S.AA.getD i default).As GS).S with Bz:=(G' Ms (Ax.S.AA.getD i default).Ap (Ax.S.AA.getD i default).As).1}}:Ah):=(NH AMT).trans (by rw[Og,Ah.Ic];exact(AA9 (fun q=>ABd (ABS (AB3 et) q))).trans (AA_ iG));have he:(Ah.tell ({Ax with S:={Ax.S with Bz:=Ms},EF:=Pn}:Ah) 2 (Ax.S.AA.getD i default).Ap (Ax.S.AA.getD i default).As GS).EF=((Ax.S.AA.take (i+1)).foldl Ah.Ic Ax).EF:=(by rw[JU];first|done|rfl);rw[he];have hm:(G' Ms (Ax.S.AA.getD i default).Ap (Ax.S.AA.getD i default).As).1=((Ax.S.AA.take (i+1)).foldl Ah.Ic Ax).S.Bz:=(by rw[JU];first|done|rfl);rw[hm];exact Dy ((i+1,mG,u5):Nat×Value×Value) (by show i+1<=_;omega) (by show Ax.S.AA.length-(i+1)<Ax.S.AA.length-i;omega) (Bs G) G (BE [0,3,4,5,6,7,8,9] G)
  refine EG<|CU<|A5<|rg<|C5 G G BV G<|An G G<|nl<|Au 5 G<|AQ ?_;have JU:((Ax.S.AA.take (i+1)).foldl Ah.Ic Ax)=(Ah.tell ({Ax with S:={Ax.S with Bz:=Ms},EF:=Pn}:Ah) 2 (Ax.S.AA.getD i default).Ap (Ax.S.AA.getD i default).As GS):=(NH AMT).trans (by rw[Og,Ah.Ic];exact(AA9 (fun q=>ABd (ABS (AB3 et) q))).trans (AA9 iG));have he:(Ah.tell ({Ax with S:={Ax.S with Bz:=Ms},EF:=Pn}:Ah) 2 (Ax.S.AA.getD i default).Ap (Ax.S.AA.getD i default).As GS).EF=((Ax.S.AA.take (i+1)).foldl Ah.Ic Ax).EF:=(by rw[JU];first|done|rfl);rw[he];have hm:Ms=((Ax.S.AA.take (i+1)).foldl Ah.Ic Ax).S.Bz:=(by rw[JU];first|done|rfl);rw[hm];exact Dy ((i+1,q1,u5):Nat×Value×Value) (by show i+1<=_;omega) (by show Ax.S.AA.length-(i+1)<Ax.S.AA.length-i;omega) (Bs G) G (BE [2,3,4,5,6,7,8,9] G)
 obtain rfl:i=Ax.S.AA.length:=AMT;rw[ACB]at Og;refine ex<|Ck<|Ck<|D7<|A5<|Ae<|AX 1 [7] G G<|D9 7 G<|M4 (α:=JD) ⟨ALM b 0⟩ (fun S w h=>⟨G,G⟩)<|Nd (xs:=[.tmp 2]) G G<|mz ({Ax with S:={Ax.S with Bz:=Ms},EF:=Pn}:Ah) AS q1 AY A9 Ba Bd Mi Bi G AU (BE [1,2,3,4] G) fun VT=>?_;obtain⟨Uq,iX⟩:∃V:Ah,({Ax with S:={Ax.S with Bz:=Ms},EF:=Pn}:Ah)=V:=⟨_,rfl⟩;rw[iX];have qa:W.S.AA.foldl Ah.Ic ({W with S:={W.S with Bt:=c.Dj}}:Ah)=Uq:=by rw[CB,<-jM,Og];exact iX
 have AiY:=Ajk BO (fun q=>ABd (Yf.symm.trans q)) (fun q=>ABd (Yg.symm.trans q)) qa;have Apu:Uq.B7<=W.B7+8:=by rw[<-iX];show Ah.B7 ({Ax with S:={Ax.S with Bz:=Ms},EF:=Pn}:Ah)<=_;omega
 obtain⟨Hq,R6⟩:∃V,Ah.drop Uq (fun x:BX=>Ef Uq.S x.AM.Al)=V:=⟨_,rfl⟩;refine Ch 0 (ow b _ Uq _ #[_] [⟨_,(⟨⟨ALM b 0⟩⟩:Cq JD)⟩] (fun x:BX=>Ef Uq.S x.AM.Al) (Ar G) (fun AS A1 AY A9 Ba Bd Bp Bi x h=>Ajh x _ b Uq AS A1 AY A9 Ba Bd Bp Bi h) Hq R6) (Ar G) G G (Ad 0 G Aa) G fun AmH _ _=>?_;have lz:Ce Hq.S:=R6▸AiY;have Apt:Hq.B7=Uq.B7:=by rw[<-R6];rfl
 refine Ac<|Am<|Gu fun TA O2 M' O3 O4 O5 Na Nb G6=>?_;refine rg<|CQ 4 G G (A2 G) G fun Ao2=>AX 4 [0] G G<|Dm (hI _ _ (ABB (V0 lz.VZ) ARp)) (Ar G) G (Ad 1 G Aa) G fun _ AoJ _=>C2 0 G G Tryz.underlying39 G fun AnP=>mz Hq TA O2 M' O3 O4 O5 Na Nb G G6 (BE [1,2,3,4] G) fun VU=>An G G<|Ac<|B5<|Hx (σ:=Nat×List Nat) [(2,_),(161,_),(162,_)] _ (fun s C=>(163,.int .i64 (s.1:Int))::C) (fun s=>[DS b s.2 ((Hq.S.Bj.take s.1).foldl O' Hq),AO En 42 (ED c.Dj),AO DQ 79 (IT c EE),CL X w]) (fun _ Dw=>Dw) (fun s=>s.1<=Hq.S.Bj.length) (fun s=>Hq.S.Bj.length-s.1) (0,VU) (Bs G) (Ad 0 G (Ad 5 G (Ad 6 G Aa))) (ABg _) (Bs G) G (Ad 0 G (Ad 5 G (Ad 6 G Aa))) ?_;rintro⟨i,JG⟩ Ag;simp only at Ag;obtain⟨SX,Wm⟩:∃wo,((Hq.S.Bj.take i).foldl O' Hq)=wo:=⟨_,rfl⟩;show CF _ _ _ [(163,.int .i64 (i:Int)),(2,_),(161,_),(162,_)] [DS b JG ((Hq.S.Bj.take i).foldl O' Hq),AO En 42 (ED c.Dj),AO DQ 79 (IT c EE),CL X w] _;rw[Wm];have Ai4:Ce SX.S:=Wm▸(Yd (fun u d h=>Aji h) (Hq.S.Bj.take i) lz).ws;have AlL:=lF (Hq.S.Bj.take i) Hq;rw[Wm,ABz]at AlL;have jh:=V0 lz.VZ;show CF _ _ _ [(163,.int .i64 ((i:Int))),(2,_),(161,_),(162,_)] [DS b JG SX,AO En 42 (ED c.Dj),AO DQ 79 (IT c EE),CL X w] _;refine AF 1 G<|Am<|B9 G (fun AaJ=>?_) (fun AaJ=>?_)
 ·
  refine AZ<|Am<|B5<|Ae<|Fo 0 G G G Ox G fun AoK=>Gi 0 G G (At G) G fun Aoo uu=>CT SO G fun ho=>BZ 0 (us:=(H8 ((Hq.S.Bj.getD i default)))) G G G (At G) G G<|Ac<|Am<|B8 1 G<|Gu fun jU jV jW jX jY jZ qJ qL iR=>?_;refine Gx mixed ARs<|CQ 7 G G (A2 G) G fun Ao3=>U 2 G<|BJ 0 (BY SX.S jU jV jW jX jY jZ) G G (At G) G G<|AX 2 [5] G G<|HD (TV _ _ _ _ _ _ _ _ iR.1) (Ar G) G Aa G<|Gj<|A5<|BN G (fun iH=>?_) (fun iH=>?_)
  ·
   refine Ho SX jU jV jW jX jY jZ qJ qL G iR (BE [0,1,2,3] G) fun BH=>rg<|CQ 7 G G (A2 G) G fun Ao4=>AX 4 [1,1] G G ?_;obtain⟨m4,pg⟩:∃V,SX.OR (Hq.S.Bj.getD i default).Ap (Hq.S.Bj.getD i default).As=V:=⟨_,rfl⟩;refine Ch 0 (iq b _ SX (Hq.S.Bj.getD i default).Ap (Hq.S.Bj.getD i default).As m4 pg Ai4 AMT uu.1 uu.2.1) (Ar G) G G Aa G fun xK _ _=>?_;refine nl<|CU<|A5<|rg<|C5 G G BV G<|An G G<|nl<|Au 1 G<|AQ ?_;rw[show m4=((Hq.S.Bj.take (i+1)).foldl O' Hq)from by rw[NH AMT,Wm,<-pg,O'];exact(AA_ iH).symm];exact Dy ((i+1,xK):Nat×List Nat) (by show i+1<=_;omega) (by show Hq.S.Bj.length-(i+1)<Hq.S.Bj.length-i;omega) (Bs G) G (BE [6,7,8] G)
  refine EG<|CU<|A5<|Ho SX jU jV jW jX jY jZ qJ qL G iR (BE [0,1,2,3] G) fun K1=>rg<|C5 G G BV G<|An G G<|nl<|Au 1 G<|AQ ?_;rw[show SX=((Hq.S.Bj.take (i+1)).foldl O' Hq)from by rw[NH AMT,Wm,O'];exact(AA9 (by rw[iH];decide)).symm];exact Dy ((i+1,K1):Nat×List Nat) (by show i+1<=_;omega) (by show Hq.S.Bj.length-(i+1)<Hq.S.Bj.length-i;omega) (Bs G) G (BE [6,7,8] G)
 obtain rfl:i=Hq.S.Bj.length:=AMT;rw[ACB]at Wm;refine ex<|Ck<|Ck<|D7 ?_;have AB:SX=Z:=by rw[<-AW,Ah.seal];rw[<-Wm,<-R6,<-qa];exact((AA9 (fun q=>ABd (ABS (AB3 Yf) q))).trans (AA9 (fun q=>ABd (ABS (AB3 Yg) q)))).symm
 subst AB;exact Au 1 G<|AQ<|Au 1 G<|AQ<|Dz JG G trivial G Aa
theorem TG(v:Nat)(BC:v<2^64):Aw AG 174 [.int .u64 (v:Int)] [] [] (fun(_:Unit) _=>True) (fun _ r=>[row 5 r (GN v)]) (fun _ _=>[]):=by
 refine Aw.proof Tryz.func174 G 19 G G fun X w=>AF 1 G<|AF 1 G<|Am<|B5<|Lk UInt8 5<|Hx (σ:=Nat×Value×List UInt8) [] _ (fun s C=>(0,.int .u64 (s.1:Int))::(3,s.2.1)::C) (fun s=>[row 5 s.2.1 s.2.2,CL X w]) (fun _ Dw=>Dw) (fun s=>s.2.2.length<=9/\s.1<2^(64-7*s.2.2.length)/\GN v=s.2.2++GN s.1) (fun s=>s.1) (v,AI,[]) trivial Aa ⟨ABg _,BC,G⟩ (Bs G) G Aa ?_;rintro⟨u,r,acc⟩ ⟨Af,h2,Bo⟩;simp only at Af h2 Bo;show CF _ _ _ ((0,.int .u64 (u:Int))::(3,r)::_) [row 5 r acc,CL X w] _;refine Am<|AF 2 G<|B9 G (fun C'=>?_) (fun C'=>?_)
 ·
  refine AZ<|B5<|Ae<|U 2 G<|F0 AC4 AC' G G G<|dF G G (AfR u) G<|BH (xs:=[.tmp 9]) ARz QP ARz ARz ARz ARz ARz ARz fun ho=>KJ (UInt8.ofNat (u % 128+128)) (fun S w h=>by exact⟨rfl,trivial⟩)<|ap 0 0 G G G G QP (by simp;omega) (by simp;omega) G fun v11=>U 1 G<|Ac<|rg<|An G G<|Vl G G AMT (AjB _) G<|U 1 G<|nl<|CU ?_;have q:=sm AMT Af h2;exact Dy ((u / 128,v11,acc++[UInt8.ofNat (u % 128+128)]):Nat×Value×List UInt8) ⟨by simp;omega,by simpa using q.2,by rw[Bo,eb AMT];simp⟩ (by show u / 128<u;omega) (Bs G) G Aa
 refine ex<|Ck<|Ck<|D7<|A5<|Ae<|U 2 G<|F0 AC4 AC' G (wrap_u8' AMT) G<|BH (xs:=[.tmp 16]) ARz QP ARz ARz ARz ARz ARz ARz fun nu=>KJ (UInt8.ofNat u) (fun S w h=>by exact⟨rfl,trivial⟩)<|ap 0 0 G G G G QP (by simp;omega) (by simp;omega) G fun Zq=>U 1 G<|Ac<|rt ?_;rw[Bo,ec AMT];exact Bq () G G trivial G Aa
theorem AcL(x:Int)(Ab:A' x):Aw AG 171 [.int .i64 x] [] [] (fun(_:Unit) _=>True) (fun _ r=>[row 5 r (QZ x)]) (fun _ _=>[]):=by
 refine Aw.proof Tryz.func171 G 15 G G fun X w=>?_;obtain⟨Acs,e1⟩:=id Ab;refine AF 1 G<|Am<|AF 2 G<|B9 G (fun BB=>?_) (fun BB=>?_)
 ·
  refine Ae<|An G G<|n_ G (n' Ab) G<|F0 ABc AC4 G (SI AMT AMT) G<|gb G G AMT (tg AMT AMT) G<|dF G G (AfP AMT) G<|Dm (TG _ AMT) (Ar G) G Aa G fun _ v10 _=>U 1 G<|Ac<|BA ?_;rw[show QZ x=GN ((-x-1).toNat*2+1)from by unfold QZ XF;rw[if_pos AMT]];exact Bq () G G trivial G Aa
 refine AZ<|Ae<|An G G<|F0 ABc AC4 G (SI AMT AMT) G<|gb G G AMT (tg AMT AMT) G<|Dm (TG _ AMT) (Ar G) G Aa G fun _ PS _=>U 1 G<|Ac<|rt ?_;rw[show QZ x=GN (x.toNat*2)from by unfold QZ XF;rw[if_neg AMT]];exact Bq () G G trivial G Aa
theorem Akc(Bk:Value)(nd:List UInt8)(AN:nd.length<=100000):Aw AG 181 [Bk] [] [⟨Bk,nd⟩] (fun(_:Unit) _=>True) (fun _ r=>[row 5 r (RS nd)]) (fun _ _=>[]):=by
 refine Aw.proof Tryz.func181 G 9 G G fun X w=>?_;have B':=yU (v:=nd.length) AMT;exact AF 1 G<|Ae<|An G G<|C2 0 G G ARO G fun qX=>F0 ABc AC4 G (SI AMT AMT) G<|Dm (TG nd.length AMT) (Ar G) G Aa G fun _ v6 _=>An G G<|ap 0 0 G G G G QP AMT AMT G fun T9=>U 1 G<|Ac<|rt<|Bq () G G trivial G Aa
end Go.Apw
namespace Go.A_
section
theorem sY{P:Program}{T E:TypeId}(hu:P.underlying T=some (.pointer E))(w:World):(Op.equal T (.pointer none) (.pointer none)).run P w=.ok true w:=by
 have h:∀d:Nat,(Op.equalIn (d+1) T (.pointer none) (.pointer none)).run P w=.ok true w:=fun d=>by simp[Op.equalIn,ABQ hu]
 exact h 9999
section
variable{c:Cj} {ops:Array Oper} {J:Cj->Array Oper->List Oper->Env->Own->List Atom->Prop} [Dr:Ip J] {env:Env} {L:Own} {D:List Atom} {rest:List Oper} {d:Nat} {t:TypeId} {p:String} {af:Array Edge} {x y:Operand} {Ec FK:TypeId}
include Dr
theorem Q1{E:TypeId}(hu:c.P.underlying Ec=some (.pointer E))(Ab:AL env x=some (.pointer none))(Bf:AL env y=some (.pointer none))(Ao:Nat.blt d c.n=true)(k:J c ops rest ((d,.bool true)::env) L D):
 J c ops (⟨some d,.binOp .eql Ec x y FK,t,p,af,none⟩::rest) env L D:=
 pu rfl rfl Ao (fun a w f=>by simp[execOp,f.AL Ab,f.AL Bf,eqGuard,binOp,sY hu]) k
theorem rF{E:TypeId}(hu:c.P.underlying Ec=some (.pointer E))(Ab:AL env x=some (.pointer none))(Bf:AL env y=some (.pointer none))(Ao:Nat.blt d c.n=true)(k:J c ops rest ((d,.bool false)::env) L D):
 J c ops (⟨some d,.binOp .neq Ec x y FK,t,p,af,none⟩::rest) env L D:=
 pu rfl rfl Ao (fun a w f=>by simp[execOp,f.AL Ab,f.AL Bf,eqGuard,binOp,sY hu]) k
theorem q0{α:Type}{r:Be α}(i:Nat){ov:Cq α}{By:Value}(Ab:AL env x=some By)(Cl:D[i]? =some (@Atom.mk (Cq (Cq α)) (@F9 (Cq α) (@F9 α r)) By ⟨ov⟩)){E:TypeId}(Av:Nv c.P E)(Ao:Nat.blt d c.n=true)(k:∀u,J c ops rest ((d,u)::env) L ((@Atom.mk (Cq α) (@F9 α r) u ⟨ov.x⟩)::D)):
 J c ops (⟨some d,.load E x,t,p,af,none⟩::rest) env L D:=
 qZ (r:=@F9 α r) i Ab Cl rfl rfl (by rintro S w cs ⟨_,_,_,rfl,_⟩;rfl) Av Ao k
end
end
end Go.A_
namespace Go.Apw
theorem T2(p:Nat)(nd:List Nat)(o:Cc):Aw AG 169 [ALM p 0] [DG p nd o] [] (fun(_:List Nat) u=>u=.bool o.E6) (fun y _=>[DG p y o]) (fun _ _=>[]):=by
 exact Aw.proof Tryz.func169 G 31 G G fun X w=>L2 fun k Dk=>AF 1 G<|Am<|Ae<|AX 4 [0] G G<|Q1 ARM G G G<|Ac<|Mv G<|I5 5 [0] G G<|BA<|Ng o k G Dk fun Hr=>Bq Hr G G G G Aa
theorem Sv(p:Nat)(nd:List Nat)(o:Cc)(Bk:Value)(b:List UInt8)(Z:Cc)(AW:H4 b o=Z):Aw AG 170 [ALM p 0,Bk] [DG p nd o] [⟨Bk,b⟩] (fun(_:List Nat) _=>True) (fun y _=>[DG p y Z]) (fun _ _=>[]):=by
 refine Aw.proof Tryz.func170 G 31 G G fun X w=>L2 fun k Dk=>Am<|Ae<|AX 5 [0] G G ?_;refine DE 8 10 [0,1] G G (fun D2 N'=>by
  have kL:=D2;try simp only[ABD,ABb,ABa,ABl,ABe,ABI]at kL
  exact U 1 G<|Bl G G G<|C2 0 G G ARO G fun Ade=>AX 4 [0] G G<|Bl G G G<|JX 1 G G ARO G fun qT=>Bl G G G<|TU G G BV G<|U 2 G<|N' G Br) ?_
 refine Ac<|BN G (fun ER=>?_) (fun ER=>?_)
 ·
  rw[uQ Dk]at ER;refine Ae<|U 3 G<|Fi 0 G G G (A2 G) G (Da G)<|Ac<|BA ?_;have AB:{o with E6:=true}=Z:=(by rw[<-AW,H4,AA_ ER]);subst AB;exact Ng {o with E6:=true} k G Dk fun Hr=>Ej Hr G trivial G Aa
 rw[uQ Dk]at ER;have AN:=AkZ (b:=b) Dk;rw[H4,AA9 (by rw[ER];decide)]at AN;have PB:o.out.length+b.length<=65536:=by rw[<-ABP];exact AN
 refine AZ<|rg<|AX 6 [0] G G<|ap 1 0 G G G G QP AMT AMT G fun Pg=>U 2 G<|IL 0 1 G G G G (A2 G) (Da G)<|nl ?_;have AB:{o with out:=o.out++b}=Z:=by rw[<-AW,H4,AA9 (by rw[ER];decide)]
 subst AB;exact Ng {o with out:=o.out++b} Pg G AN fun Hr=>Dz Hr G trivial G Aa
theorem uC{l:List (Cq Int)}{i:Nat}(h:i<l.length){w:Cc}:B_ (l.take (i+1)) w=E2 (l.getD i default).x (B_ (l.take i) w):=NH h
theorem AkX{n:Int}{w:Cc}(h:w.E6=true):E2 n w=w:=by rw[E2,AA_ h]
theorem AkY{n:Int}{w:Cc}(h:w.E6=false):E2 n w=H4 (QZ n) w:=by rw[E2,AA9 (by rw[h];decide)]
theorem AuS(p:Nat)(nd:List Nat)(o:Cc)(Bk:Value)(l:List (Cq Int))(Z:Cc)(AW:B_ l o=Z):Aw AG 96 [ALM p 0,Bk] [DG p nd o] [⟨Bk,l⟩] (fun(_:List Nat) _=>True) (fun y _=>[DG p y Z]) (fun _ _=>[]):=by
 refine Aw.proof Tryz.func96 G 35 G G fun X w=>Ae<|An G G<|C2 0 G G Tryz.underlying246 G fun MD=>An G G<|Ac<|B5<|Hx (σ:=Nat×List Nat) [(0,_),(6,_),(7,_)] _ (fun s C=>(8,.int .i64 (s.1:Int))::C) (fun s=>[DG p s.2 (B_ (l.take s.1) o),CL X w]) (fun _ Dw=>Dw) (fun s=>s.1<=l.length) (fun s=>l.length-s.1) (0,nd) (Bs G) (Ad 0 G Aa) (ABg _) (Bs G) G (Ad 0 G Aa) ?_;rintro⟨i,JG⟩ Ag;simp only at Ag;show CF _ _ _ [(8,.int .i64 ((i:Int))),(0,_),(6,_),(7,_)] [DG p JG (B_ (l.take i) o),CL X w] _;refine AF 1 G<|Am<|B9 G (fun EO=>?_) (fun EO=>?_)
 ·
  refine AZ<|Am<|B5<|Ae<|Fo 0 G G G lQ G fun v10=>q0 0 G G (A2 G) G fun v11=>U 1 G<|Ac<|B5<|Ae<|An G G<|Ch 0 (T2 p _ (B_ (l.take i) o)) (Ar G) G G Aa G fun xF Aoz E1=>?_;subst E1;refine U 1 G<|Ac<|BN G (fun Fe=>?_) (fun Fe=>?_)
  ·
   refine EG<|CU<|CU<|A5<|rg<|C5 G G BV G<|An G G<|nl ?_;rw[show(B_ (l.take i) o)=(B_ (l.take (i+1)) o)from by rw[uC AMT];exact(AkX Fe).symm];exact Dy ((i+1,xF):Nat×List Nat) (by show i+1<=_;omega) (by show l.length-(i+1)<l.length-i;omega) (Bs G) G (Ad 2 G Aa)
  refine Am<|L2 fun k Dk=>?_;refine rg<|AX 4 [0] G G<|Q1 ARM G G G<|U 1 G<|Ac<|Mv G<|Mh (B_ (l.take i) o) k G Dk fun xG=>rg<|U 2 G<|Co 0 G G G<|CQ 0 G G (A2 G) G fun cZ=>Dm (AcL (l.getD i default).x cZ) (Ar G) G Aa G fun _ OC _=>JO<|Ch 0 (Sv p _ (B_ (l.take i) o) _ (QZ (l.getD i default).x) (H4 (QZ (l.getD i default).x) (B_ (l.take i) o)) G) (Ar G) G G (Ad 0 G Aa) G fun nG _ _=>?_;refine nl<|CU<|CU<|A5<|rg<|C5 G G BV G<|An G G<|nl ?_;rw[show(H4 (QZ (l.getD i default).x) (B_ (l.take i) o))=(B_ (l.take (i+1)) o)from by rw[uC AMT];exact(AkY Fe).symm];exact Dy ((i+1,nG):Nat×List Nat) (by show i+1<=_;omega) (by show l.length-(i+1)<l.length-i;omega) (Bs G) G (Ad 3 G Aa)
 obtain rfl:i=l.length:=AMT;rw[ACB];refine ex<|Ck<|Ck<|D7 ?_;have AB:(B_ l o)=Z:=by exact AW
 subst AB;exact Dz JG G trivial G Aa
end Go.Apw
