/- Part 21 of shardWhole_holds. -/
import Derived.Test.YtklmcfecakaanaaGreatSq20

set_option maxRecDepth 20000
set_option maxHeartbeats 1000000
open Eq renaming symm→AB3,trans→ABS
open Go.Proofs.Tryz renaming underlying36→ARL
open List renaming length_append→ABP,length_cons→ABv,length_nil→ABo
open Go.A_ Go.Proofs Go.Proofs.YtklmcfecakaanaaGreat
namespace Go.Apw
theorem zL{l:List BL}{t:Int}(hw:∀x∈l,x.Cm.wf):(FU l t).1.Cm.wf:=by
 unfold FU;split
 · exact⟨DW,DW,DW,DW⟩
 split
 · exact⟨DW,DW,DW,DW⟩
 rename_i h;exact hw _ (Hl (YD h))
theorem Afv(b:Nat)(nd:List Nat)(W:Ah)(c:Dg)(EE:Value)(Z:Ah)(AW:W.op c=Z)(BO:Ce W.S)(Ge:W.B7<=930)(BK:c.wf):Aw AG 66 [ALM b 0,.agg (IT c EE).toArray] [DS b nd W] [] (fun(_:List Nat) _=>True) (fun y _=>[DS b y Z]) (fun _ _=>[]):=by
 refine Aw.proof Tryz.func66 G 148 G G fun X w=>Gu fun AS A1 AY A9 Ba Bd Bp Bi AU=>?_;refine Ae<|CV G G G fun DQ=>Ac<|Am<|Am<|Gx mixed ARs<|BJ 0 (IT c EE) G G (At G) G G<|AX 4 [1] G G<|HD (w_ _ _ _ BK AU.2.2.1) (Ar G) G Aa G<|IH G G<|Gj<|A5<|BN G (fun Ft=>?_) (fun Ft=>?_)
 ·
  have Q8:NA c W.AGm=false:=(by simpa using Ft);refine BA ?_;have AB:W=Z:=(by rw[<-AW,Ah.op,AA_ Q8]);subst AB;exact Au 5 G<|Au 5 G<|Au 5 G<|Au 5 G<|Au 5 G<|Es W AS A1 AY A9 Ba Bd Bp Bi G AU (BE [0,1,2,3] G) fun BH=>Au 1 G<|AQ<|Ej BH G trivial G Aa
 have Q8:NA c W.AGm=true:=by simpa using Ft
 refine AZ<|Am<|AuG [] [] [(9,Ff [] (fun A4=>some (.tuple #[(A4 0),.bool ((IS W.S.Bz c.Ap c.As).2.1),.int .i64 ((IS W.S.Bz c.Ap c.As).2.2)])) fun A4=>[⟨(A4 0),(IS W.S.Bz c.Ap c.As).1⟩])] [(4,1),(6,0),(8,0)] [0,3,4,5,6] (fun _=>G) (fun _=>G) (fun Ai AV Az=>⟨fun _=>?_,trivial⟩) fun Ai _=>?_
 ·
  refine Dm (xv _ _ c.Ap c.As (IS W.S.Bz c.Ap c.As) G BK.2.1 BK.2.2.1) (Ar G) G (Ad 0 G Aa) G fun mJ Pf JR=>?_;subst JR;exact BU [mJ] [0] 1 G G
 generalize Ai 9 0=mJ;refine A5<|Am<|AF 2 G<|Fa G (fun ES=>?_) (fun ES=>?_)
 ·
  refine BA ?_;have AB:W=Z:=(by rw[<-AW,Ah.op,AA9 (by rw[Q8];decide)];simp only;rw[AA_ ES]);subst AB;exact Au 5 G<|Au 5 G<|Au 5 G<|Au 5 G<|Au 5 G<|Es W AS A1 AY A9 Ba Bd Bp Bi G AU (BE [1,2,3,4] G) fun BH=>Au 1 G<|AQ<|Ej BH G trivial G Aa
 have U5:=nx ES BO.Me;refine AZ<|Am<|AF 2 G<|BN G (fun ARB=>?_) (fun ARB=>?_)
 ·
  have UR:(IS W.S.Bz c.Ap c.As).2.1=false:=(by simpa using ARB);refine Am<|Ae<|AX 3 [0] G G<|B0 (ej _ _ c.Ap (FU (IS W.S.Bz c.Ap c.As).1 c.Ap) G) (Ar G) G (Ad 0 G Aa) G<|U 3 G<|CT SN G fun Jo=>BZ 0 (us:=(H9 ((FU (IS W.S.Bz c.Ap c.As).1 c.Ap).1))) G G G (At G) G G<|U 1 G<|Ac<|Ae<|AX 4 [0] G G<|Fu 44 5 [0] [0,3,7] G G G<|Ac<|BN G (fun R3=>?_) (fun R3=>?_)
  ·
   refine B8 6 G<|B8 6 G<|B8 6 G<|B8 6 G<|B8 6 G<|Ho W AS A1 AY A9 Ba Bd Bp Bi G AU (BE [1,2,3,4] G) fun BH=>rg<|AX 6 [2,2] G G<|BJ 1 (GM ((FU (IS W.S.Bz c.Ap c.As).1 c.Ap).1.Cm)) G G (At G) G G ?_;obtain⟨Ax,CB⟩:∃V,W.tell 1 c.Ap c.As (FU (IS W.S.Bz c.Ap c.As).1 c.Ap).1.Cm=V:=⟨_,rfl⟩;refine Ch 0 (gv b _ W 1 c.Ap c.As (FU (IS W.S.Bz c.Ap c.As).1 c.Ap).1.Cm Ax CB BO AMT ⟨ARp,ARp⟩ BK.2.1 BK.2.2.1 (zL U5)) (Ar G) G G Aa G fun HC _ _=>?_;refine Ac<|BA ?_;have AB:Ax=Z:=(by rw[<-AW,Ah.op,AA9 (by rw[Q8];decide)];simp only;rw[AA9 (fun q=>q ES),AA_ UR,AA_ R3];exact CB.symm);subst AB;exact Au 1 G<|AQ<|Au 1 G<|AQ<|Ej HC G trivial G Aa
  refine AZ<|BA ?_;have AB:W=Z:=(by rw[<-AW,Ah.op,AA9 (by rw[Q8];decide)];simp only;rw[AA9 (fun q=>q ES),AA_ UR,AA9 (by rw[R3];decide)]);subst AB;exact Au 6 G<|Au 6 G<|Au 6 G<|Au 6 G<|Au 6 G<|Es W AS A1 AY A9 Ba Bd Bp Bi G AU (BE [1,2,3,4] G) fun BH=>Au 1 G<|AQ<|Au 1 G<|AQ<|Ej BH G trivial G Aa
 have UR:(IS W.S.Bz c.Ap c.As).2.1=true:=by simpa using ARB
 refine AZ<|Am<|Am<|Gx mixed ARs<|U 3 G<|BJ 1 (BY W.S AS A1 AY A9 Ba Bd) G G (At G) G G<|AX 3 [0] G G<|HD (fu _ _ _ _ _ _ _ _ AU.1) (Ar G) G Aa G<|U 2 G ?_;refine DE 67 9 [0,3,4] G G (fun JT g7=>by
  exact U 3 G<|Bl G G G<|BJ 1 (BY W.S AS A1 AY A9 Ba Bd) G G (At G) G G<|AX 3 [0] G G<|Bl G G G<|HD (TV _ _ _ _ _ _ _ _ AU.1) (Ar G) G Aa G<|U 1 G<|g7 G Br) ?_
 refine An G G ?_;refine DE 77 9 [0,3,4] G G (fun pd g_=>by
  exact AX 7 [0,1] G G<|U 2 G<|g_ G Br) ?_
 refine Gj<|A5<|BN G (fun Wh=>?_) (fun Wh=>?_)
 ·
  refine Am<|B8 5 G<|B8 5 G<|B8 5 G<|B8 5 G<|B8 5 G<|Ho W AS A1 AY A9 Ba Bd Bp Bi G AU (BE [1,2,3,4] G) fun BH=>rg<|AX 5 [1,1] G G<|Db (ps:=[]) (cs:=(GM ((⟨0,0,0,0⟩:De)))) ARz ARs G ?_;obtain⟨Ax,CB⟩:∃V,W.tell 2 c.Ap c.As GS=V:=⟨_,rfl⟩;refine Ch 0 (gv b _ W 2 c.Ap c.As GS Ax CB BO AMT ⟨ARp,ARp⟩ BK.2.1 BK.2.2.1 ZA) (Ar G) G G Aa G fun HC _ _=>?_;refine Ac<|BA ?_;have AB:Ax=Z:=(by rw[<-AW,Ah.op,AA9 (by rw[Q8];decide)];simp only;rw[AA9 (fun q=>q ES),AA9 (by rw[UR];decide),AA_ Wh];exact CB.symm);subst AB;exact Au 1 G<|AQ<|Ej HC G trivial G Aa
 have sD:=Wh;simp only[ABD,ABI]at sD;obtain⟨⟨A7,hs⟩,_⟩:=sD;refine AZ<|Ae<|U 5 G<|J2 1 0 G G G G (A2 G) (Da G)<|Ac<|Am<|Am<|B8 5 G<|B8 5 G<|B8 5 G<|B8 5 G<|B8 5 G<|Ho ({W with S:={W.S with Bz:=(IS W.S.Bz c.Ap c.As).1}}:Ah) AS mJ AY A9 Ba Bd Bp Bi G AU (BE [0,2,3,4] G) fun BH=>?_;obtain⟨KG,R7⟩:∃V:Ah,({W with S:={W.S with Bz:=(IS W.S.Bz c.Ap c.As).1}}:Ah)=V:=⟨_,rfl⟩;rw[R7];have cx:Ce KG.S:=R7▸BO.gJ (nw ES) U5;have pW:F' KG.S c.AM.Al=true:=R7▸A7;have Ace:Ef KG.S c.AM.Al=false:=R7▸hs;have pr:NA c KG.AGm=true:=R7▸Q8;have Apo:KG.B7=W.B7:=by rw[<-R7];rfl
 refine Kb 4 [1] G G<|A5<|B9 G (fun Q7=>?_) (fun Q7=>?_)
 ·
  refine Ae<|An G G<|BJ 1 (IT c EE) G G (At G) G G ?_;obtain⟨Ax,CB⟩:∃V,KG.T5 c=V:=⟨_,rfl⟩;refine Ch 0 (Akm b _ KG c _ Ax CB cx AMT BK pr Q7 pW Ace) (Ar G) G G Aa G fun HC _ _=>?_;refine Ac<|BA ?_;have AB:Ax=Z:=(by subst R7;rw[<-AW,Ah.op,AA9 (by rw[Q8];decide)];simp only;rw[AA9 (fun q=>q ES),AA9 (by rw[UR];decide),AA9 (by rw[Wh];decide),AA_ Q7];exact CB.symm);subst AB;exact Au 1 G<|AQ<|Ej HC G trivial G Aa
 refine AZ<|Am<|Ae<|An G G<|BJ 1 (IT c EE) G G (At G) G G ?_;obtain⟨ds,aO⟩:∃V:Ah×Bool,(if Mu KG c=true then KG.VR c else KG,Mu KG c)=V:=⟨_,rfl⟩;refine Ch 0 (xa b _ KG c _ ds aO cx AMT BK pr pW) (Ar G) G G Aa G fun Kj Aow aj=>?_;subst aj;refine Ac<|BN G (fun We=>?_) (fun We=>?_)
 ·
  have XP:Mu KG c=true:=(by rw[<-aO]at We;exact We);have aj:KG.VR c=ds.1:=(by rw[<-aO];exact(AA_ XP).symm);refine BA ?_;have AB:ds.1=Z:=(by subst R7;rw[<-AW,Ah.op,AA9 (by rw[Q8];decide)];simp only;rw[AA9 (fun q=>q ES),AA9 (by rw[UR];decide),AA9 (by rw[Wh];decide),AA9 Q7,AA_ XP];exact aj.symm);subst AB;exact Au 1 G<|AQ<|Ej Kj G trivial G Aa
 have XP:Mu KG c=false:=by rw[<-aO]at We;exact We
 have aj:ds.1=KG:=by rw[<-aO];exact AA9 (by rw[XP];decide)
 rw[aj];refine AZ<|Am<|Am<|Gu fun AS A1 AY A9 Ba Bd Bp Bi AU=>?_;refine rg<|AX 5 [0] G G<|JX 2 G G Tryz.underlying38 G fun AnO=>U 1 G<|Ac<|B9 G (fun Wf=>?_) (fun Wf=>?_)
 ·
  refine Am<|Ho KG AS A1 AY A9 Ba Bd Bp Bi G AU (BE [0,1,2,3] G) fun BH=>rg<|AX 10 [1,1,1,1] G G<|Db (ps:=[(0,.const (.int .i64 3))]) (cs:=(GM ((⟨3,0,0,0⟩:De)))) ARz ARs G ?_;obtain⟨Ax,CB⟩:∃V,KG.served c.Ap c.As c.Bn c.AM.Al (HN 3)=V:=⟨_,rfl⟩;refine Ch 0 (f_ b _ KG c.Ap c.As c.Bn c.AM.Al (HN 3) Ax CB cx AMT BK.2.1 BK.2.2.1 BK.2.2.2.2.1 BK.2.2.2.2.2.2.2.2.2.2.2.1.2.1 (OM ⟨ARp,ARp⟩)) (Ar G) G G Aa G fun HC _ _=>?_;refine Ac<|BA ?_;have AB:Ax=Z:=(by subst R7;rw[<-AW,Ah.op,AA9 (by rw[Q8];decide)];simp only;rw[AA9 (fun q=>q ES),AA9 (by rw[UR];decide),AA9 (by rw[Wh];decide),AA9 Q7,AA9 (by rw[XP];decide),AA_ Wf];exact CB.symm);subst AB;exact Au 1 G<|AQ<|Ej HC G trivial G Aa
 refine AZ<|AuG [] [(0,[(20,.f1 16 fun BM=>[AO b 118 (FB KG AS A1 (BM 0) A9 Ba Bd Bp Bi)])]),(2,[(16,.f1 16 fun BM=>[@row BX Ha 108 (BM 0) (KG.S.AA++[(⟨1,c.Ap,c.As,c.Bn,0,c.AM⟩:BX)])])])] [(14,DF [] (.agg (Hh ((⟨1,c.Ap,c.As,c.Bn,0,c.AM⟩:BX))).toArray)),(15,Ff [] (fun A4=>some (A4 0)) fun A4=>[⟨(A4 0),[(⟨1,c.Ap,c.As,c.Bn,0,c.AM⟩:BX)]⟩]),(16,Ol [2] fun A4=>some ((A4 0))),(20,DF [0,2] undef)] [(5,0),(7,5),(9,5),(11,5),(13,5)] [] (fun _=>G) (fun _=>G) (fun Ai AV Az=>⟨fun _=>Db (ps:=[(0,.const (.int .i64 1)),(1,.tmp 135),(2,.tmp 137),(3,.tmp 139),(5,.tmp 141)]) (cs:=(Hh ((⟨1,c.Ap,c.As,c.Bn,0,c.AM⟩:BX)))) ARz ARs G<|BU [] [] 0 G G,fun _=>Lw G Mt G G G G fun Ama=>KJ (α:=BX) (⟨1,c.Ap,c.As,c.Bn,0,c.AM⟩:BX) (fun S w h=>⟨(),G,by simp,(show A' 1 from⟨ARp,ARp⟩),BK.2.1,BK.2.2.1,BK.2.2.2.2.1,DW,BK.2.2.2.2.2.2.2.2.2.2.2.1⟩)<|BU [_] [0] 1 G G,fun _=>?_,fun _=>IL 0 1 G G G G (A2 G) (Da G)<|BU [] [] 1 G G,trivial⟩) fun Ai _=>?_
 · exact ap 0 0 G G G G Mt (by have:=cx.wl;simp only[ABv,ABo];omega) (by have:=cx.wl;simp only[ABv,ABo];omega) G fun AkE=>BU [AkE] [] 1 G G
 generalize Ai 15 0=mf,Ai 16 0=Mn;have AB:(Ah.wait KG {Ca:=1,Ap:=c.Ap,As:=c.As,Bn:=c.Bn,DH:=0,AM:=c.AM})=Z:=by subst R7;rw[<-AW,Ah.op,AA9 (by rw[Q8];decide)];simp only;rw[AA9 (fun q=>q ES),AA9 (by rw[UR];decide),AA9 (by rw[Wh];decide),AA9 Q7,AA9 (by rw[XP];decide),AA9 Wf]
 subst AB;exact Es (Ah.wait KG {Ca:=1,Ap:=c.Ap,As:=c.As,Bn:=c.Bn,DH:=0,AM:=c.AM}) AS A1 Mn A9 Ba Bd Bp Bi G AU (BE [1,2,3,4] G) fun BH=>Au 1 G<|AQ<|Dz BH G trivial G Aa
theorem AcD{b:List UInt8}{p:Fs}(h:(!decide ((Er b).2=0)||decide (((Er b).1.Aj.length:Int)>12))=true):FD b p=(IP,false):=by
 rw[FD,AA_ h]
theorem qn{b:List UInt8}{p:Fs}{i:Nat}(h:(!decide ((Er b).2=0)||decide (((Er b).1.Aj.length:Int)>12))=false)(Ag:i<(Er b).1.Aj.length)(Ay:Ty (Er b).1.Aj p i=true):FD b p=(IP,false):=by
 rw[FD,AA9 (by rw[h];decide),AA9];intro q;have:=Nz.1 q i Ag;rw[Ay]at this;cases this
theorem AcE{b:List UInt8}{p:Fs}(h:(!decide ((Er b).2=0)||decide (((Er b).1.Aj.length:Int)>12))=false)(Ay:∀j,j<(Er b).1.Aj.length->Ty (Er b).1.Aj p j=false):FD b p=((Er b).1,true):=by
 rw[FD,AA9 (by rw[h];decide),AA_];exact Nz.2 fun j J9=>by rw[Ay j J9];rfl
theorem cb{q:List AD}{a:AD}:(FQ (·.Al) Ds a q).length<=q.length+1:=by
 unfold FQ;split
 ·
  rw[List.length_set];omega
 rw[FO,ABP,ABv,<-ADs,<-ABP,List.take_append_drop];exact ABW _
theorem AhK(l:List AD)(W:Ah):(l.foldl Ah.put W).S.Aj.length<=W.S.Aj.length+l.length:=by
 induction l generalizing W with
 |nil=>exact ABW _
 |cons a l Cg=>
  have:=Cg (W.put a);have h2:(W.put a).S.Aj.length<=W.S.Aj.length+1:=cb;simp only[List.foldl_cons,ABv];omega
theorem AcF{a b:Int}(AK:A' a)(Aq:A' b):A' (max a b):=by
 obtain⟨DP,EK⟩:=AK;obtain⟨CY,Dh⟩:=Aq;exact⟨AMT,AMT⟩
theorem oB{c:Cj}{Q:AuE}{env:Env}{L:Go.A_.Own}{D:List Atom}{α:Type}[r:Be α]{e:Exit}(k:Eg c Q e env L ((@Atom.mk (List α) (@FI α r) AI [])::D)):Eg c Q e env L D:=
 fun a w f st AR=>k a w f st (BP.cons (ke _ _) AR)
theorem qj(PU:Value)(b:List UInt8)(p:Fs)(Z:Bv×Bool)(AW:FD b p=Z)(_:p.wf):Aw AG 135 [PU,.agg (ED p).toArray] [] [⟨PU,b⟩] (fun(y:Value×Value×Value×Value×Value×Value) u=>u=.tuple #[.agg (BY Z.1 y.1 y.2.1 y.2.2.1 y.2.2.2.1 y.2.2.2.2.1 y.2.2.2.2.2).toArray,.bool Z.2]) (fun _ _=>[]) (fun y _=>[⟨y.1,Z.1.Aj⟩,⟨y.2.1,Z.1.Bz⟩,⟨y.2.2.1,Z.1.AA⟩,⟨y.2.2.2.1,Z.1.Bj⟩,⟨y.2.2.2.2.1,Z.1.CX⟩,⟨y.2.2.2.2.2,Z.1.Cf⟩]):=by
 refine Aw.proof Tryz.func135 G 84 G G fun X w=>Ae<|CV G G G fun DQ=>CT LQ G fun En=>U 1 G<|Ac<|Ae<|An G G<|Dm (ln PU b) (Ar G) G (Ad 0 G Aa) G fun AlG gz EM=>?_;obtain⟨RF,N8,OF,P1,P2,SK⟩:=AlG;subst EM;refine U 3 G<|CT LQ G fun Hg=>Cp 0 G fun bT=>?_;refine Cp 1 G fun bU=>?_;refine Cp 2 G fun bV=>?_;refine Cp 3 G fun bW=>?_;refine Cp 4 G fun bX=>?_;refine Cp 5 G fun bY=>?_;refine BZ 0 (us:=(BY ((Er b).1) RF N8 OF P1 P2 SK)) G G G (At G) (by simp only[ABn,ABr,ABp,bT,bU,bV,bW,bX,bY];rfl) G<|U 1 G<|Ac<|Am<|Ae<|U 3 G ?_;refine DE 17 5 [3,4,6] G G (fun DA VD=>by
  have r2:=DA;simp only[ABI,ABa]at r2;exact AX 2 [0] G G<|Bl G G G<|C2 0 G G ARL G fun U_=>U 2 G<|VD G Br) ?_
 refine Ac<|BN G (fun JQ=>?_) (fun JQ=>?_)
 ·
  have AB:((IP,false):Bv×Bool)=Z:=(by rw[<-AW,AcD JQ]);subst AB;exact DJ (α:=AD)<|DJ (α:=BL)<|DJ (α:=BX)<|DJ (α:=Bx)<|DJ (α:=Df)<|DJ (α:=UInt8)<|Ae<|Db (ps:=[]) (cs:=(BY Np AI AI AI AI AI AI)) ARz ARs G<|BZ 1 (us:=(BY Np AI AI AI AI AI AI)) G G G (At G) G G<|U 1 G<|Ac<|BA<|D8 ⟨AI,AI,AI,AI,AI,AI⟩ [_,_,_] (Fp 1 G G G G (At G)) ARz G (Ad 5 G (Ad 4 G (Ad 3 G (Ad 2 G (Ad 1 G (Ad 0 G Aa))))))
 refine AZ<|Am<|Ae<|AX 2 [0] G G<|C2 0 G G ARL G fun Adh=>An G G<|Ac<|B5<|Ji (σ:=Nat) [(3,_),(4,_),(6,_),(25,_),(26,_)] _ (fun i C=>(27,.int .i64 (i:Int))::C) (fun i=>i<=(Er b).1.Aj.length/\(∀j,j<i->Ty (Er b).1.Aj p j=false)) (fun i=>(Er b).1.Aj.length-i) 0 (Bs G) (Ad 0 G (Ad 1 G (Ad 2 G (Ad 3 G (Ad 4 G (Ad 5 G (Ad 6 G Aa))))))) ⟨ABg _,fun j Ay=>absurd Ay (AB2 j)⟩ (Bs G) ?_;rintro i ⟨Ag,C0⟩;refine AF 1 G<|Am<|B9 G (fun R2=>?_) (fun R2=>?_)
 ·
  refine AZ<|Am<|B5<|Ae<|An G G<|Fo 0 G G G Gt G fun v30=>Gi 0 G G (At G) G fun Rr cZ=>?_;refine CT Hd G fun H7=>U 1 G<|Cp 1 G fun Ae1=>?_;refine BZ 0 (us:=(A3 (((Er b).1.Aj.getD i default)) Rr)) G G G (At G) (by simp only[ABn,ABr,ABp,Ae1];rfl) G<|Ac<|Am<|Ae<|BJ 0 (A3 (((Er b).1.Aj.getD i default)) Rr) G G (At G) G G<|B0 (m8 _ _ cZ) (Ar G) G (Ad 1 G Aa) G<|U 2 G ?_;refine DE 35 3 [3,4,6,8,9,25,26,27] G G (fun Lz g2=>by
   have r4:=Lz;simp only[ABI,ABa]at r4;exact Bl G G G<|BJ 0 (A3 (((Er b).1.Aj.getD i default)) Rr) G G (At G) G G<|Bl G G G<|B0 (dz _ _ cZ) (Ar G) G (Ad 1 G Aa) G<|U 1 G<|g2 G Br) ?_
  refine An G G<|ET 39 5 [0] [3,4,6,8,9,25,26,27] G G G<|An G G<|DE 45 5 [3,4,6,8,9,25,26,27] G G (fun EN vW=>AX 2 [0] G G<|Bl G G G<|C2 1 G G ADN G fun Adj=>U 2 G<|vW G Br)<|An G G<|ET 51 4 [0] [3,4,6,8,9,25,26,27] G G G<|Ac<|BN G (fun aI=>?_) (fun aI=>?_)
  ·
   have AB:((IP,false):Bv×Bool)=Z:=(by rw[<-AW,qn JQ (i:=i) AMT (by have q:=aI;(try simp only[ACS]at q);rw[Ty,ABk];exact .inl q)]);subst AB;exact DJ (α:=AD)<|DJ (α:=BL)<|DJ (α:=BX)<|DJ (α:=Bx)<|DJ (α:=Df)<|DJ (α:=UInt8)<|Ae<|Db (ps:=[]) (cs:=(BY Np AI AI AI AI AI AI)) ARz ARs G<|BZ 2 (us:=(BY Np AI AI AI AI AI AI)) G G G (At G) G G<|U 1 G<|Ac<|BA<|C9<|Cd<|Cd<|C9<|Cd<|D8 ⟨AI,AI,AI,AI,AI,AI⟩ [_,_,_,_] (Fp 2 G G G G (At G)) ARz G (Ad 5 G (Ad 4 G (Ad 3 G (Ad 2 G (Ad 1 G (Ad 0 G Aa))))))
  refine AZ<|Am<|Gx mixed ARs<|AX 6 [3,3,0] G G<|HD (Xx _ _ _) (Ar G) G Aa G<|U 2 G ?_;refine DE 65 15 [3,4,6,25,26,27] G G (fun Ju g8=>by
   have r7:=Ju;try simp only[ABI]at r7
   refine U 3 G ?_;refine D4 68 11 [3,4,6,25,26,27,65] G G (fun R5 ZP=>by
    have Aoh:=ABA R5;exact AX 5 [0,1] G G<|Bl G G G<|TU G G BV G<|Bl G G G<|Fo 3 G G G Gt G fun AoR=>Bl G G G<|CJ 0 kM G G (BR G) G fun AkL=>Bl G G G<|CQ 0 G G (A2 G) G fun Ape=>Bl G G G<|j2 G G G<|U 1 G<|ZP G (Bg.tail (Bg.tail Br))) ?_
   exact U 1 G<|g8 G Br) ?_
  refine Gj<|A5<|BN G (fun ey=>?_) (fun ey=>?_)
  ·
   have AB:((IP,false):Bv×Bool)=Z:=(by rw[<-AW,qn JQ (i:=i) AMT (by have q:=ey;(try simp only[ACS]at q);rw[Ty,ABk];exact .inr q)]);subst AB;exact DJ (α:=AD)<|DJ (α:=BL)<|DJ (α:=BX)<|DJ (α:=Bx)<|DJ (α:=Df)<|DJ (α:=UInt8)<|Ae<|Db (ps:=[]) (cs:=(BY Np AI AI AI AI AI AI)) ARz ARs G<|BZ 2 (us:=(BY Np AI AI AI AI AI AI)) G G G (At G) G G<|U 1 G<|Ac<|rt<|C9<|Cd<|Cd<|C9<|Cd<|D8 ⟨AI,AI,AI,AI,AI,AI⟩ [_,_,_,_] (Fp 2 G G G G (At G)) ARz G (Ad 5 G (Ad 4 G (Ad 3 G (Ad 2 G (Ad 1 G (Ad 0 G Aa))))))
  have AbN:Ty (Er b).1.Aj p i=false:=by
   have q:=aI;have q2:=ey;try simp only[ACS]at q
   try simp only[ACS]at q2
   rw[Ty,ABD];exact⟨q,q2⟩
  refine EG<|CU<|A5<|rg<|C5 G G BV G<|An G G<|nl<|AQ ?_;exact Dy (i+1) ⟨AMT,(Ki C0 (AbN))⟩ AMT (Bs G) G (BE [3,4,5,6,7,8,9] G)
 have AB:(((Er b).1,true):Bv×Bool)=Z:=by rw[<-AW,AcE JQ (fun j Ay=>C0 j AMT)]
 subst AB;refine ex<|Ck<|Ck<|D7<|A5<|Ae<|BJ 0 (BY ((Er b).1) RF N8 OF P1 P2 SK) G G (At G) G G<|Cp 0 G fun bT=>?_;refine Cp 1 G fun bU=>?_;refine Cp 2 G fun bV=>?_;refine Cp 3 G fun bW=>?_;refine Cp 4 G fun bX=>?_;refine Cp 5 G fun bY=>?_;exact BZ 1 (us:=(BY ((Er b).1) RF N8 OF P1 P2 SK)) G G G (At G) (by simp only[ABn,ABr,ABp,bT,bU,bV,bW,bX,bY];rfl) G<|U 1 G<|Ac<|rt<|D8 ⟨RF,N8,OF,P1,P2,SK⟩ [_,_,_] (Fp 1 G G G G (At G)) ARz G (Ad 0 G (Ad 1 G (Ad 2 G (Ad 3 G (Ad 4 G (Ad 5 G Aa))))))
theorem Aeh(b:Nat)(nd:List Nat)(W:Ah)(c:Dg)(EE:Value)(Z:Ah)(AW:W.WS c=Z)(_:Ce W.S)(BK:c.wf):Aw AG 76 [ALM b 0,.agg (IT c EE).toArray] [DS b nd W] [] (fun(_:List Nat) _=>True) (fun y _=>[DS b y Z]) (fun _ _=>[]):=by
 refine Aw.proof Tryz.func76 G 58 G G fun X w=>Gu fun AS A1 AY A9 Ba Bd Bp Bi AU=>Ae<|CV G G G fun DQ=>Ac<|Am<|Am<|Gx mixed ARs<|AX 5 [0] G G ?_;refine DE 8 11 [0,3] G G (fun D2 ZH=>by
  have kL:=ACe D2;exact AX 7 [0] G G<|AX 4 [1] G G<|ZH G Br) ?_
 refine An G G<|ET 20 4 [0] [0,3] G G G<|An G G<|ET 25 4 [0] [0,3] G G G<|Gj<|A5<|BN G (fun G5=>?_) (fun G5=>?_)
 ·
  refine BA ?_;have AB:W=Z:=(by rw[<-AW,Ah.WS];exact(AA_ G5).symm);subst AB;exact Au 5 G<|Au 5 G<|Au 5 G<|Au 5 G<|Au 5 G<|Es W AS A1 AY A9 Ba Bd Bp Bi G AU (BE [0,1,2,3] G) fun BH=>Au 1 G<|AQ<|Ej BH G trivial G Aa
 refine AZ<|AuG [] [(1,[(19,.f0 (AO b 118 (FB ({W with S:={W.S with CW:=FP}}:Ah) AS A1 AY A9 Ba Bd Bp Bi))),(23,.f0 (AO b 118 (FB ({W with S:={W.S with CW:=FP}}:Ah) AS A1 AY A9 Ba AI Bp Bi))),(27,.f0 (AO b 118 (FB ({W with S:={W.S with CW:=FP,GW:=c.Dj.Ev}}:Ah) AS A1 AY A9 Ba AI Bp Bi))),(31,.f0 (AO b 118 (FB ({W with S:={W.S with CW:=FP,Cf:=[],GW:=c.Dj.Ev,Dn:=max W.S.Dn c.Dn}}:Ah) AS A1 AY A9 Ba AI Bp Bi)))])] [(4,DF [] (.agg (ED (Gs)).toArray)),(15,DF [] (.int .i64 ((max W.S.Dn c.Dn)))),(19,DF [1] undef),(23,DF [1] undef),(27,DF [1] undef),(31,DF [1] undef)] [(7,0),(12,1),(14,0)] [] (fun _=>G) (fun _=>G) (fun Ai AV Az=>⟨fun _=>Db (ps:=[]) (cs:=(ED (Gs))) ARz ARs G<|BU [] [] 0 G G,fun _=>ka G G G G<|BU [] [] 0 G G,fun _=>stM 0 (us:=(ED (Gs))) G G G (At G) G (ABy G)<|BU [] [] 0 G G,fun _=>Fi 0 G G G (A2 G) G (Da G)<|BU [] [] 0 G G,fun _=>Fi 0 G G G (A2 G) G (Da G)<|BU [] [] 0 G G,fun _=>Fi 0 G G G (A2 G) G (Da G)<|BU [] [] 0 G G,trivial⟩) fun Ai _=>?_;have AB:({W with S:={W.S with CW:=FP,Cf:=[],GW:=c.Dj.Ev,Dn:=max W.S.Dn c.Dn}}:Ah)=Z:=by rw[<-AW,Ah.WS];exact(AA9 (fun q=>ABd (G5.symm.trans q))).symm
 subst AB;exact oB (α:=UInt8)<|Au 5 G<|Au 5 G<|Au 5 G<|Au 5 G<|Au 5 G<|Es ({W with S:={W.S with CW:=FP,Cf:=[],GW:=c.Dj.Ev,Dn:=max W.S.Dn c.Dn}}:Ah) AS A1 AY A9 Ba AI Bp Bi G ⟨⟨AU.1.1,AU.1.2.1,AU.1.2.2.1,AU.1.2.2.2.1,AU.1.2.2.2.2.1,(AcF AU.1.2.2.2.2.2.1 BK.2.2.2.1),AU.1.2.2.2.2.2.2.1,AU.1.2.2.2.2.2.2.2.1,AU.1.2.2.2.2.2.2.2.2.1,AU.1.2.2.2.2.2.2.2.2.2.1,AU.1.2.2.2.2.2.2.2.2.2.2.1,AU.1.2.2.2.2.2.2.2.2.2.2.2.1,(show Fs.wf FP from⟨DW,DW,DW,ARp,ARp,DW,DW⟩),AU.1.2.2.2.2.2.2.2.2.2.2.2.2.2.1,AU.1.2.2.2.2.2.2.2.2.2.2.2.2.2.2.1,AU.1.2.2.2.2.2.2.2.2.2.2.2.2.2.2.2.1,BK.2.2.2.2.2.2.2.2.2.2.2.2.1.1⟩,AU.2⟩ (Ad 1 G (Ad 2 G (Ad 3 G (Ad 0 G Aa)))) fun BH=>Au 1 G<|AQ<|Dz BH G trivial G Aa
theorem tP(b:Nat)(nd:List Nat)(W:Ah)(S:Bv)(El EV D_ EA Em Eh:Value)(p:Fs)(Z:Ah)(AW:W.Ry S.Aj p=Z)(AN:W.S.Aj.length+S.Aj.length<=100000)(Tm:p.wf):Aw AG 136 [ALM b 0,.agg (BY S El EV D_ EA Em Eh).toArray,.agg (ED p).toArray] [DS b nd W] [⟨El,S.Aj⟩] (fun(_:List Nat) _=>True) (fun y _=>[DS b y Z]) (fun _ _=>[]):=by
 refine Aw.proof Tryz.func136 G 41 G G fun X w=>Ae<|CV G G G fun En=>CV G G G fun E'=>Ac<|Am<|Ae<|AX 2 [1] G G<|C2 0 G G ARL G fun Ade=>An G G<|Ac<|B5<|Hx (σ:=Nat×List Nat) [(0,_),(5,_),(9,_),(10,_)] _ (fun s C=>(11,.int .i64 (s.1:Int))::C) (fun s=>[AO E' 42 (ED p),AO En 45 (BY S El EV D_ EA Em Eh),DS b s.2 ((S.Aj.take s.1).foldl Ah.put W),CL X w]) (fun _ Dw=>Dw) (fun s=>s.1<=S.Aj.length) (fun s=>S.Aj.length-s.1) (0,nd) (Bs G) (Ad 0 G Aa) (ABg _) (Bs G) G (Ad 0 G Aa) ?_;rintro⟨i,JG⟩ Ag;simp only at Ag;show CF _ _ _ [(11,.int .i64 ((i:Int))),(0,_),(5,_),(9,_),(10,_)] [AO E' 42 (ED p),AO En 45 (BY S El EV D_ EA Em Eh),DS b JG ((S.Aj.take i).foldl Ah.put W),CL X w] _;refine AF 1 G<|Am<|B9 G (fun EM=>?_) (fun EM=>?_)
 ·
  refine AZ<|Am<|B5<|Ae<|Fo 0 G G G Gt G fun RA=>Gi 0 G G (At G) G fun MI SE=>?_;refine CT Hd G fun Jo=>Cp 1 G fun AeX=>?_;refine BZ 0 (us:=(A3 ((S.Aj.getD i default)) MI)) G G G (At G) (by simp only[ABn,ABr,ABp,AeX];rfl) G<|Ac<|rg<|An G G<|BJ 0 (A3 ((S.Aj.getD i default)) MI) G G (At G) G G ?_;obtain⟨Ax,CB⟩:∃V,Ah.put ((S.Aj.take i).foldl Ah.put W) (S.Aj.getD i default)=V:=⟨_,rfl⟩;have Tr:=AhK (S.Aj.take i) W;rw[ABz]at Tr;refine Ch 3 (ss b _ ((S.Aj.take i).foldl Ah.put W) (S.Aj.getD i default) _ Ax CB AMT SE) (Ar G) G G (Ad 1 G Aa) G fun HC _ _=>?_;refine nl<|CU<|A5<|rg<|C5 G G BV G<|An G G<|nl<|AQ ?_;rw[<-CB,show Ah.put ((S.Aj.take i).foldl Ah.put W) (S.Aj.getD i default)=((S.Aj.take (i+1)).foldl Ah.put W)from(NH AMT).symm];exact Dy ((i+1,HC):Nat×List Nat) (by show i+1<=_;omega) (by show S.Aj.length-(i+1)<S.Aj.length-i;omega) (Bs G) G (Ad 3 G Aa)
 obtain rfl:i=S.Aj.length:=AMT;rw[ACB];refine ex<|Ck<|Ck<|D7<|A5<|Am<|Am ?_;obtain⟨WF,iW⟩:∃V:Ah,(S.Aj.foldl Ah.put W)=V:=⟨_,rfl⟩;rw[iW];refine B8 2 G<|Gu fun AS A1 AY A9 Ba Bd Bp Bi AU=>?_;refine Kb 6 [0] G G<|A5<|BN G (fun F3=>?_) (fun F3=>?_)
 ·
  have iJ:WF.S.Du=false:=(by simpa using F3);refine Ae<|U 4 G<|Fi 0 G G G (A2 G) G (Da G)<|Ac<|rg<|AX 4 [5] G G<|U 2 G<|Fi 0 G G G (A2 G) G (Da G)<|Ac<|rg<|AX 6 [5] G G<|Fi 0 G G G (A2 G) G (Da G)<|nl ?_;have AB:({WF with S:={WF.S with Du:=true,A6:=p.A6,Bc:=p.Bc}}:Ah)=Z:=(by rw[<-AW,Ah.Ry];simp only[iW];rw[AA_ iJ]);subst AB;exact Es ({WF with S:={WF.S with Du:=true,A6:=p.A6,Bc:=p.Bc}}:Ah) AS A1 AY A9 Ba Bd Bp Bi G ⟨⟨AU.1.1,AU.1.2.1,AU.1.2.2.1,Tm.2.2.2.1,Tm.2.2.2.2.1,AU.1.2.2.2.2.2.1,AU.1.2.2.2.2.2.2.1,AU.1.2.2.2.2.2.2.2.1,AU.1.2.2.2.2.2.2.2.2.1,AU.1.2.2.2.2.2.2.2.2.2.1,AU.1.2.2.2.2.2.2.2.2.2.2.1,AU.1.2.2.2.2.2.2.2.2.2.2.2.1,AU.1.2.2.2.2.2.2.2.2.2.2.2.2.1,AU.1.2.2.2.2.2.2.2.2.2.2.2.2.2.1,AU.1.2.2.2.2.2.2.2.2.2.2.2.2.2.2.1,AU.1.2.2.2.2.2.2.2.2.2.2.2.2.2.2.2.1,AU.1.2.2.2.2.2.2.2.2.2.2.2.2.2.2.2.2⟩,AU.2⟩ (Ad 0 G (Ad 1 G (Ad 2 G (Ad 3 G Aa)))) fun BH=>Au 1 G<|AQ<|Au 1 G<|AQ<|Dz BH G trivial G Aa
 have iJ:¬WF.S.Du=false:=by simpa using F3
 refine AZ<|rg<|AX 6 [5] G G<|Fi 0 G G G (A2 G) G (Da G)<|nl ?_;have AB:({WF with S:={WF.S with Bc:=p.Bc}}:Ah)=Z:=by rw[<-AW,Ah.Ry];simp only[iW];rw[AA9 iJ]
 subst AB;exact Es ({WF with S:={WF.S with Bc:=p.Bc}}:Ah) AS A1 AY A9 Ba Bd Bp Bi G ⟨⟨AU.1.1,AU.1.2.1,AU.1.2.2.1,AU.1.2.2.2.1,Tm.2.2.2.2.1,AU.1.2.2.2.2.2.1,AU.1.2.2.2.2.2.2.1,AU.1.2.2.2.2.2.2.2.1,AU.1.2.2.2.2.2.2.2.2.1,AU.1.2.2.2.2.2.2.2.2.2.1,AU.1.2.2.2.2.2.2.2.2.2.2.1,AU.1.2.2.2.2.2.2.2.2.2.2.2.1,AU.1.2.2.2.2.2.2.2.2.2.2.2.2.1,AU.1.2.2.2.2.2.2.2.2.2.2.2.2.2.1,AU.1.2.2.2.2.2.2.2.2.2.2.2.2.2.2.1,AU.1.2.2.2.2.2.2.2.2.2.2.2.2.2.2.2.1,AU.1.2.2.2.2.2.2.2.2.2.2.2.2.2.2.2.2⟩,AU.2⟩ (Ad 0 G (Ad 1 G (Ad 2 G (Ad 3 G Aa)))) fun BH=>Au 1 G<|AQ<|Au 1 G<|AQ<|Dz BH G trivial G Aa
theorem qm{b:List UInt8}{p:Fs}:(FD b p).1.Aj.length<=12:=by
 unfold FD;split
 · exact ABg _
 rename_i h;simp only[ABk,ABa,ABN]at h;split
 ·
  show(Er b).1.Aj.length<=12;omega
 exact ABg _
theorem ef(b:Bool):decide (IA b=0)=b:=by cases b<;>rfl
theorem Akr(b:Nat)(nd:List Nat)(W:Ah)(c:Dg)(EE:Value)(Z:Ah)(AW:W.unseal c=Z)(BO:Ce W.S)(BK:c.wf):Aw AG 74 [ALM b 0,.agg (IT c EE).toArray] [DS b nd W] [] (fun(_:List Nat) _=>True) (fun y _=>[DS b y Z]) (fun _ _=>[]):=by
 refine Aw.proof Tryz.func74 G 130 G G fun X w=>Gu fun AS A1 AY A9 Ba Bd Bp Bi AU=>Ae<|CV G G G fun DQ=>Ac<|I5 4 [0] G G<|Am<|AF 2 G<|B9 G (fun EM=>?_) (fun EM=>?_)
 ·
  refine BA ?_;have AB:W=Z:=(by rw[<-AW,Ah.unseal];exact(AA_ EM).symm);subst AB;exact Au 5 G<|Au 5 G<|Au 5 G<|Au 5 G<|Au 5 G<|Es W AS A1 AY A9 Ba Bd Bp Bi G AU (BE [0,1,2,3] G) fun BH=>Au 1 G<|AQ<|Ej BH G trivial G Aa
 refine AZ<|Am<|I5 3 [0] G G<|BN G (fun Ft=>?_) (fun Ft=>?_)
 ·
  have KR:c.Jr=false:=(by simpa using Ft);refine Am<|I5 8 [1] G G<|B9 G (fun Km=>?_) (fun Km=>?_)
  ·
   refine Ae<|An G G<|Db (ps:=[]) (cs:=(ED (Gs))) ARz ARs G<|U 3 G<|stM 1 (us:=(ED (Gs))) G G G (At G) G (ABy G)<|Ac<|rg<|U 3 G<|U 2 G<|Fi 1 G G G (A2 G) G (Da G)<|Ac<|BA ?_;have AB:({W with S:={W.S with Bt:=FP,GW:=c.Dj.Ev}}:Ah)=Z:=(by rw[<-AW,Ah.unseal];exact((AA9 EM).trans ((AA_ KR).trans (AA_ Km))).symm);subst AB;exact Au 5 G<|Au 5 G<|Au 5 G<|Au 5 G<|Au 5 G<|Es ({W with S:={W.S with Bt:=FP,GW:=c.Dj.Ev}}:Ah) AS A1 AY A9 Ba Bd Bp Bi G ⟨⟨AU.1.1,AU.1.2.1,AU.1.2.2.1,AU.1.2.2.2.1,AU.1.2.2.2.2.1,AU.1.2.2.2.2.2.1,AU.1.2.2.2.2.2.2.1,AU.1.2.2.2.2.2.2.2.1,AU.1.2.2.2.2.2.2.2.2.1,AU.1.2.2.2.2.2.2.2.2.2.1,AU.1.2.2.2.2.2.2.2.2.2.2.1,(show Fs.wf FP from⟨DW,DW,DW,ARp,ARp,DW,DW⟩),AU.1.2.2.2.2.2.2.2.2.2.2.2.2.1,AU.1.2.2.2.2.2.2.2.2.2.2.2.2.2.1,AU.1.2.2.2.2.2.2.2.2.2.2.2.2.2.2.1,AU.1.2.2.2.2.2.2.2.2.2.2.2.2.2.2.2.1,BK.2.2.2.2.2.2.2.2.2.2.2.2.1.1⟩,AU.2⟩ (Ad 0 G (Ad 1 G (Ad 2 G (Ad 3 G Aa)))) fun BH=>Au 1 G<|AQ<|Ej BH G trivial G Aa
  refine AZ<|BA ?_;have AB:W=Z:=(by rw[<-AW,Ah.unseal];exact((AA9 EM).trans ((AA_ KR).trans (AA9 Km))).symm);subst AB;exact Au 5 G<|Au 5 G<|Au 5 G<|Au 5 G<|Au 5 G<|Es W AS A1 AY A9 Ba Bd Bp Bi G AU (BE [0,1,2,3] G) fun BH=>Au 1 G<|AQ<|Ej BH G trivial G Aa
 have KR:¬c.Jr=false:=by simpa using Ft
 refine AZ<|Ae<|U 4 G<|BJ 1 (ED W.S.CW) G G (At G) G G<|CT gS G fun E'=>BZ 0 (us:=(ED W.S.CW)) G G G (At G) G G<|Ac<|Am<|Am<|Gx mixed ARs<|AX 5 [0] G G ?_;refine DE 43 8 [0,4,5] G G (fun KL ZO=>by
  have Af8:=KL;simp only[ABI,ABa]at Af8;exact U 4 G<|Bl G G G<|BJ 2 (ED W.S.Bt) G G (At G) G G<|Bl G G G<|dC (ps:=[]) (cs:=(ED (Gs))) ARz ARs G<|Bl G G G<|Qo RV (W.S.Bt) (Gs) G G G<|U 1 G<|ZO G Br) ?_
 refine An G G ?_;refine DE 52 24 [0,4,5] G G (fun iK g7=>by
  refine AX 6 [2] G G ?_;refine D4 58 17 [0,4,5,52] G G (fun R4 v'=>by
   refine AX 7 [2] G G ?_;refine DE 65 9 [0,4,5,52,58] G G (fun Ju v_=>by
    have r7:=ACe Ju;exact AX 7 [2,0] G G<|U 2 G<|v_ G Br) ?_
   exact U 1 G<|v' G Br) ?_
  exact U 1 G<|g7 G Br) ?_
 refine Gj<|A5<|BN G (fun aJ=>?_) (fun aJ=>?_)
 ·
  refine BA ?_;have AB:W=Z:=(by rw[<-AW,Ah.unseal];exact((AA9 EM).trans ((AA9 KR).trans (AA_ aJ))).symm);subst AB;exact Au 6 G<|Au 6 G<|Au 6 G<|Au 6 G<|Au 6 G<|Es W AS A1 AY A9 Ba Bd Bp Bi G AU (BE [0,1,2,3] G) fun BH=>Au 1 G<|AQ<|Au 1 G<|AQ<|Ej BH G trivial G Aa
 refine AZ<|Am<|AuG [[(10,.f1 10 fun BM=>[AO (FH (BM 0)) 45 IQ]),(11,.f2 10 6 fun BM GL=>[AO (FH (BM 0)) 45 (BY ((FD W.S.Cf W.S.CW).1) (GL 0) (GL 1) (GL 2) (GL 3) (GL 4) (GL 5))])]] [] [(6,Ff [] (fun A4=>some (.tuple #[.agg (BY ((FD W.S.Cf W.S.CW).1) (A4 0) (A4 1) (A4 2) (A4 3) (A4 4) (A4 5)).toArray,.bool ((FD W.S.Cf W.S.CW).2)])) fun A4=>[⟨(A4 0),(FD W.S.Cf W.S.CW).1.Aj⟩,⟨(A4 1),(FD W.S.Cf W.S.CW).1.Bz⟩,⟨(A4 2),(FD W.S.Cf W.S.CW).1.AA⟩,⟨(A4 3),(FD W.S.Cf W.S.CW).1.Bj⟩,⟨(A4 4),(FD W.S.Cf W.S.CW).1.CX⟩,⟨(A4 5),(FD W.S.Cf W.S.CW).1.Cf⟩]),(10,O6 [0]),(11,DF [0] undef)] [(4,3),(5,1)] [0,4,5,6,7] (fun _=>G) (fun _=>G) (fun Ai AV Az=>⟨fun _=>?_,fun _=>CT LQ G fun Hg=>BU [ALM Hg 0] [] 0 G G,fun _=>?_,trivial⟩) fun Ai _=>?_
 ·
  refine Dm (qj _ W.S.Cf W.S.CW (FD W.S.Cf W.S.CW) G AU.1.2.2.2.2.2.2.2.2.2.2.2.2.1) (Ar G) G (Ad 3 G Aa) G fun AlK AoT AaO=>?_;obtain⟨mO,mP,mQ,mR,mS,mT⟩:=AlK;subst AaO;exact BU [mO,mP,mQ,mR,mS,mT] [0,1,2,3,4,5] 6 G G
 ·
  refine Cp 0 G fun Ka=>?_;refine Cp 1 G fun kh=>?_;refine Cp 2 G fun ki=>?_;refine Cp 3 G fun kj=>?_;refine Cp 4 G fun kk=>?_;refine Cp 5 G fun kl=>?_;exact BZ 0 (us:=(BY ((FD W.S.Cf W.S.CW).1) (Ai 6 0) (Ai 6 1) (Ai 6 2) (Ai 6 3) (Ai 6 4) (Ai 6 5))) G G G (At G) (by simp only[ABn,ABr,ABp,Ka,kh,ki,kj,kk,kl];rfl) G<|BU [] [] 6 G G
 generalize FH (Ai 10 0)=Hg,Ai 6 0=mO,Ai 6 1=mP,Ai 6 2=mQ,Ai 6 3=mR,Ai 6 4=mS,Ai 6 5=mT;refine A5<|Am<|Am ?_;have Ee:=qm (b:=W.S.Cf) (p:=W.S.CW);have NM:=BO.len;refine Gx mixed ARs<|U 3 G ?_;refine DE 89 12 [0,4,5,6] G G (fun AaP ZD=>by
  have Agb:=AaP;try simp only[ABI]at Agb
  exact AX 2 [0] G G<|Bl G G G<|C2 0 G G ARL G fun AnZ=>U 4 G<|AX 1 [3] G G<|Bl G G G<|JX 4 G G ARL G fun An0=>Bl G G G<|C5 G G BV G<|U 2 G<|ZD G Br) ?_
 refine Gj<|A5<|BN G (fun R1=>?_) (fun R1=>?_)
 ·
  refine BA ?_;have AB:W=Z:=(by rw[<-AW,Ah.unseal];exact((AA9 EM).trans ((AA9 KR).trans ((AA9 (fun q=>ABd (ABS (AB3 aJ) q))).trans (AA_ R1)))).symm);subst AB;exact Au 7 G<|Au 7 G<|Au 7 G<|Au 7 G<|Au 7 G<|Es W AS A1 AY A9 Ba Bd Bp Bi G AU (BE [6,7,8,9] G) fun BH=>Au 1 G<|AQ<|Au 1 G<|AQ<|Au 1 G<|AQ<|Ej BH G trivial G Aa
 refine AZ<|Ae<|U 3 G<|Db (ps:=[]) (cs:=(ED (Gs))) ARz ARs G<|U 4 G<|stM 3 (us:=(ED (Gs))) G G G (At G) G (ABy G)<|Va G G<|U 2 G<|Fi 3 G G G (A2 G) G (Da G)<|U 3 G<|Fi 3 G G G (A2 G) G (Da G)<|Ac<|Am<|DJ (α:=UInt8)<|B8 7 G<|B8 7 G<|B8 7 G<|B8 7 G<|B8 7 G<|Ho ({W with S:={W.S with CW:=FP,Cf:=[],GW:=c.Dj.Ev}}:Ah) AS A1 AY A9 Ba AI Bp Bi G ⟨⟨AU.1.1,AU.1.2.1,AU.1.2.2.1,AU.1.2.2.2.1,AU.1.2.2.2.2.1,AU.1.2.2.2.2.2.1,AU.1.2.2.2.2.2.2.1,AU.1.2.2.2.2.2.2.2.1,AU.1.2.2.2.2.2.2.2.2.1,AU.1.2.2.2.2.2.2.2.2.2.1,AU.1.2.2.2.2.2.2.2.2.2.2.1,AU.1.2.2.2.2.2.2.2.2.2.2.2.1,(show Fs.wf FP from⟨DW,DW,DW,ARp,ARp,DW,DW⟩),AU.1.2.2.2.2.2.2.2.2.2.2.2.2.2.1,AU.1.2.2.2.2.2.2.2.2.2.2.2.2.2.2.1,AU.1.2.2.2.2.2.2.2.2.2.2.2.2.2.2.2.1,BK.2.2.2.2.2.2.2.2.2.2.2.2.1.1⟩,AU.2⟩ (Ad 7 G (Ad 8 G (Ad 9 G (Ad 0 G Aa)))) fun BH=>rg<|An G G<|BJ 1 (BY ((FD W.S.Cf W.S.CW).1) mO mP mQ mR mS mT) G G (At G) G G<|BJ 2 (ED W.S.CW) G G (At G) G G ?_;obtain⟨Bu,Fz⟩:∃V,Ah.Ry ({W with S:={W.S with CW:=FP,Cf:=[],GW:=c.Dj.Ev}}:Ah) (FD W.S.Cf W.S.CW).1.Aj W.S.CW=V:=⟨_,rfl⟩;refine Ch 0 (tP b _ ({W with S:={W.S with CW:=FP,Cf:=[],GW:=c.Dj.Ev}}:Ah) (FD W.S.Cf W.S.CW).1 _ _ _ _ _ _ W.S.CW Bu Fz (show W.S.Aj.length+_<=100000 by omega) AU.1.2.2.2.2.2.2.2.2.2.2.2.2.1) (Ar G) G G (Ad 1 G Aa) G fun K2 _ _=>?_;refine Ac<|Am<|Gu fun YE e_ YF YG bt YH YI YJ Ht=>?_;refine Kb 6 [0] G G<|A5<|B9 G (fun iE=>?_) (fun iE=>?_)
 ·
  refine rg<|U 4 G<|Fi 0 G G G (A2 G) G (Da G)<|nl ?_;have AB:({Bu with S:={Bu.S with Dn:=1}}:Ah)=Z:=(by subst Fz;rw[<-AW,Ah.unseal];exact((AA9 EM).trans ((AA9 KR).trans ((AA9 (fun q=>ABd (ABS (AB3 aJ) q))).trans ((AA9 (fun q=>ABd (ABS (AB3 R1) q))).trans (AA_ iE))))).symm);subst AB;exact Es ({Bu with S:={Bu.S with Dn:=1}}:Ah) YE e_ YF YG bt YH YI YJ G ⟨⟨Ht.1.1,Ht.1.2.1,Ht.1.2.2.1,Ht.1.2.2.2.1,Ht.1.2.2.2.2.1,(show A' 1 from⟨ARp,ARp⟩),Ht.1.2.2.2.2.2.2.1,Ht.1.2.2.2.2.2.2.2.1,Ht.1.2.2.2.2.2.2.2.2.1,Ht.1.2.2.2.2.2.2.2.2.2.1,Ht.1.2.2.2.2.2.2.2.2.2.2.1,Ht.1.2.2.2.2.2.2.2.2.2.2.2.1,Ht.1.2.2.2.2.2.2.2.2.2.2.2.2.1,Ht.1.2.2.2.2.2.2.2.2.2.2.2.2.2.1,Ht.1.2.2.2.2.2.2.2.2.2.2.2.2.2.2.1,Ht.1.2.2.2.2.2.2.2.2.2.2.2.2.2.2.2.1,Ht.1.2.2.2.2.2.2.2.2.2.2.2.2.2.2.2.2⟩,Ht.2⟩ (Ad 0 G (Ad 1 G (Ad 2 G (Ad 3 G Aa)))) fun BH=>Au 1 G<|AQ<|Au 1 G<|AQ<|Au 1 G<|AQ<|Dz BH G trivial G Aa
 refine EG ?_;have AB:Bu=Z:=by subst Fz;rw[<-AW,Ah.unseal];exact((AA9 EM).trans ((AA9 KR).trans ((AA9 (fun q=>ABd (ABS (AB3 aJ) q))).trans ((AA9 (fun q=>ABd (ABS (AB3 R1) q))).trans (AA9 iE))))).symm
 subst AB;exact Es Bu YE e_ YF YG bt YH YI YJ G Ht (BE [0,1,2,3] G) fun BH=>Au 1 G<|AQ<|Au 1 G<|AQ<|Au 1 G<|AQ<|Dz BH G trivial G Aa
theorem wJ(b:Nat)(nd:List Nat)(W:Ah)(c:Dg)(EE:Value)(Z:Ah)(AW:W.RI c=Z)(BO:Ce W.S)(BK:c.wf):Aw AG 75 [ALM b 0,.agg (IT c EE).toArray] [DS b nd W] [⟨EE,c.Cf⟩] (fun(_:List Nat) _=>True) (fun y _=>[DS b y Z]) (fun _ _=>[]):=by
 refine Aw.proof Tryz.func75 G 160 G G fun X w=>Gu fun AS A1 AY A9 Ba Bd Bp Bi AU=>Ae<|CV G G G fun DQ=>Ac<|Ae<|U 1 G<|BJ 0 (ED c.Dj) G G (At G) G G<|CT gS G fun En=>BZ 0 (us:=(ED c.Dj)) G G G (At G) G G<|Ac<|Am<|Am<|Gx mixed ARs<|BJ 0 (ED c.Dj) G G (At G) G G<|HD (fC _ BK.2.2.2.2.2.2.2.2.2.2.2.2.1) (Ar G) G Aa G<|U 2 G ?_;refine DE 12 9 [0,3,4] G G (fun EM SS=>by
  exact AX 7 [0,2] G G<|U 2 G<|SS G Br) ?_
 refine An G G ?_;refine DE 22 9 [0,3,4] G G (fun JQ VF=>by
  exact AX 7 [0,2] G G<|U 2 G<|VF G Br) ?_
 refine An G G<|ET 32 4 [1] [0,3,4] G G G<|An G G<|ET 37 4 [1] [0,3,4] G G G<|Gj<|A5<|BN G (fun My=>?_) (fun My=>?_)
 ·
  refine BA ?_;have AB:W=Z:=(by rw[<-AW,Ah.RI];exact(AA_ My).symm);subst AB;exact Au 6 G<|Au 6 G<|Au 6 G<|Au 6 G<|Au 6 G<|Es W AS A1 AY A9 Ba Bd Bp Bi G AU (BE [0,1,2,3] G) fun BH=>Au 1 G<|AQ<|Au 1 G<|AQ<|Ej BH G trivial G Aa
 refine AZ<|Ae<|AX 2 [1] G G<|BJ 0 (ED c.Dj) G G (At G) G G<|Dm (qj _ c.Cf c.Dj (FD c.Cf c.Dj) G BK.2.2.2.2.2.2.2.2.2.2.2.2.1) (Ar G) G (Ad 4 G Aa) G fun Ja gB US=>?_;obtain⟨ve,mL,vf,vg,mM,vh⟩:=Ja;subst US;refine U 3 G<|CT LQ G fun E'=>Cp 0 G fun Afc=>?_;refine Cp 1 G fun Afd=>?_;refine Cp 2 G fun Afe=>?_;refine Cp 3 G fun Aff=>?_;refine Cp 4 G fun Afg=>?_;refine Cp 5 G fun Afh=>?_;refine BZ 0 (us:=(BY ((FD c.Cf c.Dj).1) ve mL vf vg mM vh)) G G G (At G) (by simp only[ABn,ABr,ABp,Afc,Afd,Afe,Aff,Afg,Afh];rfl) G<|U 1 G<|Ac<|Am<|Ae<|U 3 G<|DE 51 5 [0,3,4,5] G G (fun LA g4=>AX 2 [0] G G<|Bl G G G<|B0 (Xd _ _) (Ar G) G (Ad 1 G Aa) G<|U 2 G<|g4 G Br)<|An G G<|DE 57 5 [0,3,4,5] G G (fun ev g6=>AX 2 [0] G G<|Bl G G G<|B0 (X2 _ _) (Ar G) G (Ad 4 G Aa) G<|U 2 G<|g6 G Br)<|Ac<|BN G (fun Th=>?_) (fun Th=>?_)
 ·
  rw[ef,ef]at Th;refine BA ?_;have AB:W=Z:=(by rw[<-AW,Ah.RI];exact((AA9 (fun q=>ABd (ABS (AB3 My) q))).trans (AA_ Th)).symm);subst AB;exact Au 7 G<|Au 7 G<|Au 7 G<|Au 7 G<|Au 7 G<|Es W AS A1 AY A9 Ba Bd Bp Bi G AU (BE [6,7,8,9] G) fun BH=>Au 1 G<|AQ<|Au 1 G<|AQ<|Au 1 G<|AQ<|Ej BH G trivial G Aa
 rw[ef,ef]at Th;have Ee:=qm (b:=c.Cf) (p:=c.Dj);have NM:=BO.len;refine AZ<|Ae<|AX 6 [1] G G<|Fi 3 G G G (A2 G) G (Da G)<|Ac<|Am<|Am<|B8 7 G<|B8 7 G<|B8 7 G<|B8 7 G<|B8 7 G<|Ho ({W with S:={W.S with Jc:=c.Dj.Ev}}:Ah) AS A1 AY A9 Ba Bd Bp Bi G ⟨⟨AU.1.1,AU.1.2.1,AU.1.2.2.1,AU.1.2.2.2.1,AU.1.2.2.2.2.1,AU.1.2.2.2.2.2.1,AU.1.2.2.2.2.2.2.1,AU.1.2.2.2.2.2.2.2.1,AU.1.2.2.2.2.2.2.2.2.1,AU.1.2.2.2.2.2.2.2.2.2.1,AU.1.2.2.2.2.2.2.2.2.2.2.1,AU.1.2.2.2.2.2.2.2.2.2.2.2.1,AU.1.2.2.2.2.2.2.2.2.2.2.2.2.1,AU.1.2.2.2.2.2.2.2.2.2.2.2.2.2.1,BK.2.2.2.2.2.2.2.2.2.2.2.2.1.1,AU.1.2.2.2.2.2.2.2.2.2.2.2.2.2.2.2.1,AU.1.2.2.2.2.2.2.2.2.2.2.2.2.2.2.2.2⟩,AU.2⟩ (Ad 6 G (Ad 7 G (Ad 8 G (Ad 9 G Aa)))) fun BH=>?_;obtain⟨D3,eF⟩:∃V:Ah,({W with S:={W.S with Jc:=c.Dj.Ev}}:Ah)=V:=⟨_,rfl⟩;rw[eF];have AnC:D3.S.Aj.length<=12:=by rw[<-eF];exact NM
 refine Gu fun qD qE qF qG qH qI qK qM MA=>?_;refine Gx mixed ARs<|AX 6 [0] G G ?_;refine D4 74 17 [0,3,4,5] G G (fun ew wc=>by
  refine AX 7 [0] G G ?_;refine DE 81 9 [0,3,4,5,74] G G (fun ez wb=>by
   have Aol:=ACe ez;exact AX 7 [0,6] G G<|U 2 G<|wb G Br) ?_
  exact U 1 G<|wc G Br) ?_
 refine An G G ?_;refine DE 92 8 [0,3,4,5] G G (fun AaQ vG=>by
  exact U 4 G<|Bl G G G<|BJ 0 (ED D3.S.Bt) G G (At G) G G<|Bl G G G<|dC (ps:=[]) (cs:=(ED (Gs))) ARz ARs G<|Bl G G G<|Qo RV (D3.S.Bt) (Gs) G G G<|U 1 G<|vG G Br) ?_
 refine An G G ?_;refine DE 101 12 [0,3,4,5] G G (fun R1 vL=>by
  have AfY:=R1;try simp only[ABD,ABa,ABI]at AfY
  exact AX 2 [5] G G<|Bl G G G<|C2 4 G G ARL G fun AnM=>U 4 G<|AX 1 [0] G G<|Bl G G G<|JX 1 G G ARL G fun Adf=>Bl G G G<|C5 G G BV G<|U 2 G<|vL G Br) ?_
 refine Gj<|A5<|BN G (fun iD=>?_) (fun iD=>?_)
 ·
  refine Ae<|AX 6 [6] G G<|Fi 0 G G G (A2 G) G (Da G)<|Ac<|BA ?_;have AB:({D3 with S:={D3.S with JL:=c.Dj.Ev}}:Ah)=Z:=(by subst eF;rw[<-AW,Ah.RI];exact((AA9 (fun q=>ABd (ABS (AB3 My) q))).trans ((AA9 (fun q=>ABd (ABS (AB3 Th) q))).trans (AA_ iD))).symm);subst AB;exact Es ({D3 with S:={D3.S with JL:=c.Dj.Ev}}:Ah) qD qE qF qG qH qI qK qM G ⟨⟨MA.1.1,MA.1.2.1,MA.1.2.2.1,MA.1.2.2.2.1,MA.1.2.2.2.2.1,MA.1.2.2.2.2.2.1,MA.1.2.2.2.2.2.2.1,MA.1.2.2.2.2.2.2.2.1,MA.1.2.2.2.2.2.2.2.2.1,MA.1.2.2.2.2.2.2.2.2.2.1,MA.1.2.2.2.2.2.2.2.2.2.2.1,MA.1.2.2.2.2.2.2.2.2.2.2.2.1,MA.1.2.2.2.2.2.2.2.2.2.2.2.2.1,MA.1.2.2.2.2.2.2.2.2.2.2.2.2.2.1,MA.1.2.2.2.2.2.2.2.2.2.2.2.2.2.2.1,BK.2.2.2.2.2.2.2.2.2.2.2.2.1.1,MA.1.2.2.2.2.2.2.2.2.2.2.2.2.2.2.2.2⟩,MA.2⟩ (Ad 0 G (Ad 1 G (Ad 2 G (Ad 3 G Aa)))) fun BH=>Au 1 G<|AQ<|Au 1 G<|AQ<|Au 1 G<|AQ<|Ej BH G trivial G Aa
 refine AZ<|Am<|Ho D3 qD qE qF qG qH qI qK qM G MA (BE [0,1,2,3] G) fun BH=>rg<|An G G<|BJ 1 (BY ((FD c.Cf c.Dj).1) ve mL vf vg mM vh) G G (At G) G G<|BJ 2 (ED c.Dj) G G (At G) G G ?_;obtain⟨Bu,Fz⟩:∃V,Ah.Ry D3 (FD c.Cf c.Dj).1.Aj c.Dj=V:=⟨_,rfl⟩;refine Ch 0 (tP b _ D3 (FD c.Cf c.Dj).1 _ _ _ _ _ _ c.Dj Bu Fz AMT BK.2.2.2.2.2.2.2.2.2.2.2.2.1) (Ar G) G G (Ad 4 G Aa) G fun K2 _ _=>?_;refine Ac<|Am<|Gu fun YE e_ YF YG bt YH YI YJ Ht=>?_;refine AuG [] [(0,[(15,.f1 8 fun BM=>[AO b 118 (FB Bu YE (BM 0) YF YG bt YH YI YJ)])])] [(8,Ff [] (fun A4=>some (.tuple #[(A4 0),.int .i64 ((M_ Bu.S.Bz (FD c.Cf c.Dj).1.Bz).2)])) fun A4=>[⟨(A4 0),(M_ Bu.S.Bz (FD c.Cf c.Dj).1.Bz).1⟩]),(15,DF [0] undef)] [(5,0),(7,5)] [0,3,5] (fun _=>G) (fun _=>G) (fun Ai AV Az=>⟨fun _=>?_,fun _=>J2 0 0 G G G G (A2 G) (Da G)<|BU [] [] 1 G G,trivial⟩) fun Ai _=>?_
 ·
  refine Dm (Ac4 e_ Bu.S.Bz mL (FD c.Cf c.Dj).1.Bz (M_ Bu.S.Bz (FD c.Cf c.Dj).1.Bz) G) (Ar G) G (BE [0,9] G) G fun gM AoG AaG=>?_;subst AaG;exact BU [gM] [0] 1 G G
 generalize Ai 8 0=gM;refine A5<|Am<|AuG [] [(0,[(15,.f1 8 fun BM=>[AO b 118 (FB Bu YE gM YF YG (BM 0) YH YI YJ)])])] [(8,Ff [] (fun A4=>some (.tuple #[(A4 0),.int .i64 ((Ok Bu.S.CX (FD c.Cf c.Dj).1.CX).2)])) fun A4=>[⟨(A4 0),(Ok Bu.S.CX (FD c.Cf c.Dj).1.CX).1⟩]),(15,DF [0] undef)] [(5,0),(7,5)] [0,3] (fun _=>G) (fun _=>G) (fun Ai AV Az=>⟨fun _=>?_,fun _=>J2 0 0 G G G G (A2 G) (Da G)<|BU [] [] 1 G G,trivial⟩) fun Ai _=>?_
 ·
  refine Dm (Ac0 bt Bu.S.CX mM (FD c.Cf c.Dj).1.CX (Ok Bu.S.CX (FD c.Cf c.Dj).1.CX) G) (Ar G) G (BE [3,13] G) G fun mH AoI AaI=>?_;subst AaI;exact BU [mH] [0] 1 G G
 generalize Ai 8 0=mH;refine A5<|rg<|AX 6 [7] G G<|Fi 0 G G G (A2 G) G (Da G)<|nl ?_;have AB:({Bu with S:={Bu.S with Bz:=(M_ Bu.S.Bz (FD c.Cf c.Dj).1.Bz).1,CX:=(Ok Bu.S.CX (FD c.Cf c.Dj).1.CX).1,Dn:=c.Dn}}:Ah)=Z:=by subst Fz;subst eF;rw[<-AW,Ah.RI];exact((AA9 (fun q=>ABd (ABS (AB3 My) q))).trans ((AA9 (fun q=>ABd (ABS (AB3 Th) q))).trans (AA9 (fun q=>ABd (ABS (AB3 iD) q))))).symm
 subst AB;exact Es ({Bu with S:={Bu.S with Bz:=(M_ Bu.S.Bz (FD c.Cf c.Dj).1.Bz).1,CX:=(Ok Bu.S.CX (FD c.Cf c.Dj).1.CX).1,Dn:=c.Dn}}:Ah) YE gM YF YG mH YH YI YJ G ⟨⟨Ht.1.1,Ht.1.2.1,Ht.1.2.2.1,Ht.1.2.2.2.1,Ht.1.2.2.2.2.1,BK.2.2.2.1,Ht.1.2.2.2.2.2.2.1,Ht.1.2.2.2.2.2.2.2.1,Ht.1.2.2.2.2.2.2.2.2.1,Ht.1.2.2.2.2.2.2.2.2.2.1,Ht.1.2.2.2.2.2.2.2.2.2.2.1,Ht.1.2.2.2.2.2.2.2.2.2.2.2.1,Ht.1.2.2.2.2.2.2.2.2.2.2.2.2.1,Ht.1.2.2.2.2.2.2.2.2.2.2.2.2.2.1,Ht.1.2.2.2.2.2.2.2.2.2.2.2.2.2.2.1,Ht.1.2.2.2.2.2.2.2.2.2.2.2.2.2.2.2.1,Ht.1.2.2.2.2.2.2.2.2.2.2.2.2.2.2.2.2⟩,Ht.2⟩ (Ad 1 G (Ad 3 G (Ad 0 G (Ad 5 G Aa)))) fun BH=>Au 1 G<|AQ<|Au 1 G<|AQ<|Au 1 G<|AQ<|Dz BH G trivial G Aa
theorem sK{α:Type}(rd:Bb->α×Bb):∀(n:Nat) (s:Bb),(GI rd n s).1.length<=n
 |0,_=>ABW _
 |n+1,s=>by
  unfold GI;split
  ·
   simp only[ABv];have:=sK rd n (rd s).2;omega
  exact ABg _
theorem Ah_{α:Type}{nd:List UInt8}{rd:Bb->α×Bb}{s:Bb}:(CS nd rd s).1.length<=1024:=ABB (sK rd _ _) (W9 nd s)
theorem Aah{nd:List UInt8}{s:Bb}:(FC nd s).1.Aj.length<=1024:=by
 unfold FC;simp only[Di];exact Ah_
theorem Aic{b:List UInt8}:(Er b).1.Aj.length<=1024:=by
 unfold Er;split
 · exact ABg _
 show(Lm b).Aj.length<=1024;unfold Lm;split
 · exact ABg _
 exact Aah
theorem xg{S:Bv}:0<=S2 S/\S2 S<=1024:=by
 unfold S2;split
 · exact⟨ADn _,ARp⟩
 have:=Aic (b:=S.Cf);omega
theorem Aj7{a:AD}{l:F_}(h:¬(KA a l).2=0):(KA a l).1=Fj:=by
 revert h;unfold KA;repeat' split
 all_goals (intro h;first|rfl|exact absurd rfl h)
theorem AlQ:D3 Fj:=⟨⟨ARp,⟨DW,DW⟩,DW,DW,trivial,DW,DW,DW,DW⟩,fun x Ab=>absurd Ab ABh⟩
theorem Aj6{a:AD}{l:F_}(w:D3 a)(AN:l.wf):D3 (KA a l).1:=by
 by_cases h:(KA a l).2=0
 · exact(gu w AN h).2.2.2.2.2.2.2
 rw[Aj7 h];exact AlQ
theorem Ag9{Ei:Bv}{h:DL.H}:∀S w cs,(Iy DL).rd S w cs (Ei,h)->Ru.rd S w ((cs.drop 18).take 7) Ei.CW:=by
 rintro S w cs ⟨_,rfl,hs,hw⟩;exact⟨(),G,by simp,hw.2.2.2.2.2.2.2.2.2.2.2.2.1⟩
theorem Ag8{Ei:Bv}{h:DL.H}:∀S w cs,(Iy DL).rd S w cs (Ei,h)->Qx.rd S w ((cs.drop 25).take 1) ⟨h.2.2.2.2.2⟩:=by
 rintro S w cs ⟨_,rfl,hs,hw⟩;exact⟨G,TJ (hs _ (AB6.2 ⟨_,ACF (l:=BY Ei h.1 h.2.1 h.2.2.1 h.2.2.2.1 h.2.2.2.2.1 h.2.2.2.2.2) (n:=25) (ABy G),G⟩))⟩
theorem xh(b:Nat)(W:Ah)(AS A1 AY A9 Ba Bd Bp Bi:Value):Cv AG 141 [ALM b 0] [Ov b W AS A1 AY A9 Ba Bd Bp Bi,⟨Bd,W.S.Cf⟩] (.int .i64 (S2 W.S)):=by
 refine Aw.proof Tryz.func141 G 24 G G fun X w=>AF 1 G<|Am<|Ae<|An G G<|Co 0 G G G<|IY (α:=Ah×QA.H) (β:=Bv×DL.H) 0 (fun x=>(x.1.S,(x.2.1,x.2.2.1,x.2.2.2.1,x.2.2.2.2.1,x.2.2.2.2.2.1,x.2.2.2.2.2.2.1))) G G (BR G) WZ G fun EZ=>IY (α:=Bv×DL.H) (β:=Fs) 0 (fun x=>x.1.CW) G G (BR G) Ag9 G fun T9=>CJ 0 sa G G (BR G) G fun Nr=>CQ 0 G G (A2 G) G fun cW=>?_;refine U 1 G<|Ac<|B9 G (fun Ct=>?_) (fun Ct=>?_)
 · exact AF 1 G<|BA<|Bq () G G (by rw[S2,AA_ Ct]) G Aa
 refine AZ<|Ae<|An G G<|Co 3 G G G<|IY (α:=Ah×QA.H) (β:=Bv×DL.H) 3 (fun x=>(x.1.S,(x.2.1,x.2.2.1,x.2.2.2.1,x.2.2.2.2.1,x.2.2.2.2.2.1,x.2.2.2.2.2.2.1))) G G (BR G) WZ G fun Xk=>IY (α:=Bv×DL.H) (β:=JD) 0 (fun x=>⟨x.2.2.2.2.2.2⟩) G G (BR G) Ag8 G fun Mn=>CQ 0 G G (A2 G) G fun mr=>Dm (ln _ W.S.Cf) (Ar G) G (Ad 6 G Aa) G fun Uj Zq ER=>?_;obtain⟨RF,N8,OF,P1,P2,SK⟩:=Uj;subst ER;refine U 3 G<|CT LQ G fun DQ=>Cp 0 G fun bT=>?_;refine Cp 1 G fun bU=>?_;refine Cp 2 G fun bV=>?_;refine Cp 3 G fun bW=>?_;refine Cp 4 G fun bX=>?_;refine Cp 5 G fun bY=>?_;exact BZ 0 (us:=(BY ((Er W.S.Cf).1) RF N8 OF P1 P2 SK)) G G G (At G) (by simp only[ABn,ABr,ABp,bT,bU,bV,bW,bX,bY];rfl) G<|U 1 G<|Ac<|Ae<|AX 2 [0] G G<|C2 0 G G ARL G fun qV=>U 1 G<|Ac<|rt<|AQ<|Bq () G G (by rw[S2,AA9 Ct]) G Aa
@[reducible] def LV(W:Ah)(o:FL):=Pu (BF W.S.Aj o.Al).1 ⟨o.A6,o.Bc⟩
@[reducible] def Jm(W:Ah)(o:FL):=JF (BF W.S.Aj o.Al).1 (signed o)
theorem AjU(b:Nat)(nd:List Nat)(W:Ah)(o:FL)(Z:Ah×De)(AW:H3 W o=Z)(BO:Ce W.S)(Tl:o.wf)(AE:Ix o.Al=true)(Ao:o.Ca=1\/o.Ca=2->1<=o.B2)(AbR:1<=o.Ca/\o.Ca<=5):Aw AG 80 [ALM b 0,.agg (MZ o).toArray] [DS b nd W] [] (fun(_:List Nat) u=>u=.agg (GM Z.2).toArray) (fun y _=>[DS b y Z.1]) (fun _ _=>[]):=by
 refine Aw.proof Tryz.func80 G 77 G G fun X w=>?_;obtain⟨Hj,G1,Jt⟩:=V9 BO AE;refine Gu fun AS A1 AY A9 Ba Bd Bp Bi AU=>?_;refine Ae<|CV G G G fun DQ=>CT AlV G fun En=>Ac<|Am<|AuG [[(10,.f1 10 fun BM=>[AO (FH (BM 0)) 58 N9]),(11,.f2 10 6 fun BM GL=>[AO (FH (BM 0)) 58 (A3 ((BF W.S.Aj o.Al).1) (GL 0))])]] [] [(6,Ff [4] (fun A4=>some (.tuple #[.agg (A3 ((BF W.S.Aj o.Al).1) (A4 0)).toArray,.bool ((BF W.S.Aj o.Al).2)])) fun A4=>[⟨(A4 0),(BF W.S.Aj o.Al).1.A0⟩]),(10,O6 [0]),(11,DF [0] undef)] [(3,3),(5,2)] [0,3,4,5,6] (fun _=>G) (fun _=>G) (fun Ai AV Az=>⟨fun _=>?_,fun _=>CT Hd G fun E'=>BU [ALM E' 0] [] 0 G G,fun _=>?_,trivial⟩) fun Ai _=>?_
 ·
  refine Uw [⟨AS,W.S.Aj⟩] (UI W.S _ _ _ _ _ _ o.Al (BF W.S.Aj o.Al) G (Au1 BO)) (fun _ _=>Vi) (Ar G) G (DU.row 0 G DU.nil) (Ad 0 G Aa) G fun Zz T6 DA=>?_;obtain⟨yJ,mr⟩:=DA;subst yJ;exact JO<|BU [Zz] [0] 1 G G
 ·
  refine Cp 0 G fun Ka=>?_;exact BZ 0 (us:=(A3 ((BF W.S.Aj o.Al).1) (Ai 6 0))) G G G (At G) (by simp only[ABn,ABr,ABp,Ka];rfl) G<|BU [] [] 1 G G
 generalize FH (Ai 10 0)=E',Ai 6 0=Zz;refine A5<|Ae<|BJ 0 (A3 ((BF W.S.Aj o.Al).1) Zz) G G (At G) G G<|B0 (ma _ _ (Q3 BO)) (Ar G) G (Ad 0 G Aa) G<|U 5 G<|Ac<|AF 1 G<|Am<|I5 2 [2] G G<|B5<|Ae<|U 1 G<|U 1 G<|Ac<|B9 G (fun FN=>?_) (fun FN=>?_)
 ·
  refine Ae<|An G G<|Db (ps:=[(1,.tmp 36)]) (cs:=(GM ((⟨0,(Io (BF W.S.Aj o.Al).1).1,0,0⟩:De)))) ARz ARs G<|BZ 1 (us:=(GM ((⟨0,(Io (BF W.S.Aj o.Al).1).1,0,0⟩:De)))) G G G (At G) G G<|Ac<|rt<|C9<|Cd ?_;have AB:((W,(⟨0,(Io (BF W.S.Aj o.Al).1).1,0,0⟩:De)):Ah×De)=Z:=(by rw[<-AW,H3];exact(AA_ FN).symm);subst AB;exact Au 7 G<|Au 7 G<|Au 7 G<|Au 7 G<|Au 7 G<|Es W AS A1 AY A9 Ba Bd Bp Bi G AU (BE [1,2,3,4] G) fun BH=>Au 3 G<|Au 3 G<|Au 3 G<|D8 BH [_,_,_] (Qv 1 G G G (At G)) ARz G Aa
 refine AF 2 G<|B9 G (fun NK=>?_) (fun NK=>?_)
 ·
  refine Ae<|U 2 G<|Db (ps:=[(2,.tmp 40),(3,.tmp 41)]) (cs:=(GM ((⟨0,0,(Io (BF W.S.Aj o.Al).1).1,(Io (BF W.S.Aj o.Al).1).1⟩:De)))) ARz ARs G<|BZ 1 (us:=(GM ((⟨0,0,(Io (BF W.S.Aj o.Al).1).1,(Io (BF W.S.Aj o.Al).1).1⟩:De)))) G G G (At G) G G<|Ac<|rt<|C9<|Cd ?_;have AB:((W,(⟨0,0,(Io (BF W.S.Aj o.Al).1).1,(Io (BF W.S.Aj o.Al).1).1⟩:De)):Ah×De)=Z:=(by rw[<-AW,H3];exact((AA9 FN).trans (AA_ NK)).symm);subst AB;exact Au 7 G<|Au 7 G<|Au 7 G<|Au 7 G<|Au 7 G<|Es W AS A1 AY A9 Ba Bd Bp Bi G AU (BE [1,2,3,4] G) fun BH=>Au 3 G<|Au 3 G<|Au 3 G<|D8 BH [_,_,_] (Qv 1 G G G (At G)) ARz G Aa
 refine AF 2 G<|B9 G (fun KL=>?_) (fun KL=>?_)
 ·
  refine Am<|Am ?_;have NM:=BO.len;obtain⟨Al7,Al8⟩:=xg (S:=W.S);refine Gx mixed ARs<|U 3 G ?_;refine D4 47 11 [0,3,4,5] G G (fun Wg VH=>by
   have Af_:=Wg;try simp only[ABe]at Af_
   refine AX 5 [3] G G<|Bl G G G<|JX 4 G G ARL G fun AnV=>U 1 G<|Bl G G G<|GZ 4 G fun JZ=>GZ 5 G fun o2=>?_;refine GZ 6 G fun MG=>?_;refine GZ 7 G fun NU=>?_;exact GO (q:=Value.oneCell' _=true) (fun S w h=>Fh (h _ (AA' (i:=1) G))) fun o1=>GO (q:=Value.oneCell' _=true) (fun S w h=>Fh (h _ (AA' (i:=2) G))) fun IJ=>GO (q:=Value.oneCell' _=true) (fun S w h=>Fh (h _ (AA' (i:=3) G))) fun J0=>GO (q:=Value.oneCell' _=true) (fun S w h=>Fh (h _ (AA' (i:=4) G))) fun Ks=>dH [Ov b W AS A1 AY A9 Ba Bd Bp Bi] (xh b W AS A1 AY A9 Ba Bd Bp Bi) (Ar G) G (DU.AO 3 G (Y_ JZ o1 o2 IJ J0 Ks MG NU AU) DU.nil) (Ad 0 G (Ad 5 G Aa)) G<|Bl G G G<|C5 G G BV G<|U 2 G<|VH G Br) ?_
  refine Gj<|A5<|BN G (fun R4=>?_) (fun R4=>?_)
  ·
   refine Ae<|Db (ps:=[(0,.const (.int .i64 3))]) (cs:=(GM ((⟨3,0,0,0⟩:De)))) ARz ARs G<|BZ 1 (us:=(GM ((⟨3,0,0,0⟩:De)))) G G G (At G) G G<|Ac<|BA<|C9<|Cd ?_;have AB:((W,(HN 3:De)):Ah×De)=Z:=(by rw[<-AW,H3];exact((AA9 FN).trans ((AA9 NK).trans ((AA_ KL).trans (AA_ R4)))).symm);subst AB;exact Au 7 G<|Au 7 G<|Au 7 G<|Au 7 G<|Au 7 G<|Es W AS A1 AY A9 Ba Bd Bp Bi G AU (BE [1,2,3,4] G) fun BH=>Au 3 G<|Au 3 G<|Au 3 G<|D8 BH [_,_,_] (Qv 1 G G G (At G)) ARz G Aa
  refine AZ<|rg<|BJ 0 (A3 ((BF W.S.Aj o.Al).1) Zz) G G (At G) G G<|AX 4 [2,2] G G<|Db (ps:=[(0,.tmp 63),(1,.tmp 65)]) (cs:=(Od ((⟨o.A6,o.Bc⟩:GC)))) ARz ARs G<|Dm (xx _ _ ⟨o.A6,o.Bc⟩ (LV W o) G (Q3 BO) ⟨Tl.2.2.2.2.1,Tl.2.2.2.2.2⟩) (Ar G) G (Ad 0 G Aa) G fun KF AoP JT=>?_;subst JT;refine U 3 G<|Cp 0 G fun Afk=>?_;refine BZ 0 (us:=(A3 ((LV W o).1) KF)) G G G (At G) (by simp only[ABn,ABr,ABp,Afk];rfl) G<|U 1 G<|nl<|CU<|A5<|Am<|AF 2 G<|B9 G (fun KM=>?_) (fun KM=>?_)
  ·
   obtain⟨kK,_,Afn,Ala,_⟩:=nD G1 ⟨Tl.2.2.2.2.1,Tl.2.2.2.2.2⟩ KM;have Ac':(LV W o).1.Al=o.Al:=(by rw[kK];exact Jt);refine B8 7 G<|B8 7 G<|B8 7 G<|B8 7 G<|B8 7 G<|Ho W AS A1 AY A9 Ba Bd Bp Bi G AU (BE [2,3,4,5] G) fun BH=>rg<|An G G<|BJ 1 (A3 ((LV W o).1) KF) G G (At G) G G ?_;obtain⟨Ax,CB⟩:∃V,Ah.put W (LV W o).1=V:=⟨_,rfl⟩;refine Ch 0 (Vd b _ W (LV W o).1 _ Ax CB BO Ala.wf) (Ar G) G G (Ad 0 G Aa) G fun HC _ _=>?_;have JC:Ax.B7=W.B7:=(by rw[<-CB];rfl);refine Ac<|Ae<|An G G<|Db (ps:=[(0,.tmp 75)]) (cs:=(GM ((⟨(LV W o).2,0,0,0⟩:De)))) ARz ARs G<|BZ 2 (us:=(GM ((⟨(LV W o).2,0,0,0⟩:De)))) G G G (At G) G G<|Ac<|rt ?_;have AB:((Ax,HN (LV W o).2):Ah×De)=Z:=by rw[<-AW,H3];exact((AA9 FN).trans ((AA9 NK).trans ((AA_ KL).trans ((AA9 (fun q=>ABd (ABS (AB3 R4) q))).trans (AB3 (show((Ax,HN (LV W o).2):Ah×De)=(if(LV W o).2=0 then W.put (LV W o).1 else W,HN (LV W o).2)from by rw[AA_ KM,CB])))))).symm
   subst AB;exact Au 3 G<|Au 3 G<|Au 3 G<|D8 HC [_,_,_] (Qv 1 G G G (At G)) ARz G Aa
  refine AZ<|Ae<|An G G<|Db (ps:=[(0,.tmp 75)]) (cs:=(GM ((⟨(LV W o).2,0,0,0⟩:De)))) ARz ARs G<|BZ 1 (us:=(GM ((⟨(LV W o).2,0,0,0⟩:De)))) G G G (At G) G G<|Ac<|rt ?_;have AB:((W,HN (LV W o).2):Ah×De)=Z:=by rw[<-AW,H3];exact((AA9 FN).trans ((AA9 NK).trans ((AA_ KL).trans ((AA9 (fun q=>ABd (ABS (AB3 R4) q))).trans (AB3 (show((W,HN (LV W o).2):Ah×De)=(if(LV W o).2=0 then W.put (LV W o).1 else W,HN (LV W o).2)from by rw[AA9 KM])))))).symm
  subst AB;exact Au 7 G<|Au 7 G<|Au 7 G<|Au 7 G<|Au 7 G<|Es W AS A1 AY A9 Ba Bd Bp Bi G AU (BE [2,3,4,5] G) fun BH=>Au 3 G<|Au 3 G<|Au 3 G<|D8 BH [_,_,_] (Qv 1 G G G (At G)) ARz G Aa
 have eP:1<=o.B2:=Ao AMT;have bf:=gg (o:=o) Tl.2.2.2.1 eP;refine AuG [] [(0,[(7,.f1 3 fun BM=>[AO E' 58 (A3 ((Jm W o).1) (BM 0))])])] [(2,DF [] (.int .i64 ((signed o)))),(3,Ff [] (fun A4=>some (.tuple #[.agg (A3 ((Jm W o).1) (A4 0)).toArray,.int .i64 ((Jm W o).2)])) fun A4=>[⟨(A4 0),(Jm W o).1.A0⟩]),(7,DF [0] undef)] [(0,0),(1,2)] [0,4,5,9] (fun _=>G) (fun _=>G) (fun Ai AV Az=>⟨fun _=>B0 (tj o Tl eP) (Ar G) G Aa G<|BU [] [] 0 G G,fun _=>?_,fun _=>?_,trivial⟩) fun Ai _=>?_
 ·
  refine Dm (m' _ _ (signed o) (Jm W o) G (Q3 BO) bf) (Ar G) G (Ad 0 G Aa) G fun Vw L5 ES=>?_;subst ES;exact BU [Vw] [0] 1 G G
 ·
  refine Cp 0 G fun Ka=>?_;exact BZ 0 (us:=(A3 ((Jm W o).1) (Ai 3 0))) G G G (At G) (by simp only[ABn,ABr,ABp,Ka];rfl) G<|BU [] [] 1 G G
 generalize Ai 3 0=Vw;refine CU<|A5<|Am<|AF 2 G<|B9 G (fun KM=>?_) (fun KM=>?_)
 ·
  obtain⟨_,_,kK,Afn,Ak2⟩:=ZU G1 bf KM;have Ac':(Jm W o).1.Al=o.Al:=(by rw[kK];exact Jt);refine B8 7 G<|B8 7 G<|B8 7 G<|B8 7 G<|B8 7 G<|Ho W AS A1 AY A9 Ba Bd Bp Bi G AU (BE [2,3,4,5] G) fun BH=>rg<|An G G<|BJ 1 (A3 ((Jm W o).1) Vw) G G (At G) G G ?_;obtain⟨Ax,CB⟩:∃V,Ah.put W (Jm W o).1=V:=⟨_,rfl⟩;refine Ch 0 (Vd b _ W (Jm W o).1 _ Ax CB BO Ak2.wf) (Ar G) G G (Ad 0 G Aa) G fun HC _ _=>?_;have JC:Ax.B7=W.B7:=(by rw[<-CB];rfl);refine Ac<|Ae<|An G G<|Db (ps:=[(0,.tmp 75)]) (cs:=(GM ((⟨(Jm W o).2,0,0,0⟩:De)))) ARz ARs G<|BZ 2 (us:=(GM ((⟨(Jm W o).2,0,0,0⟩:De)))) G G G (At G) G G<|Ac<|rt ?_;have AB:((Ax,HN (Jm W o).2):Ah×De)=Z:=by rw[<-AW,H3];exact((AA9 FN).trans ((AA9 NK).trans ((AA9 KL).trans (AB3 (show((Ax,HN (Jm W o).2):Ah×De)=(if(Jm W o).2=0 then W.put (Jm W o).1 else W,HN (Jm W o).2)from by rw[AA_ KM,CB]))))).symm
  subst AB;exact Au 3 G<|Au 3 G<|Au 3 G<|D8 HC [_,_,_] (Qv 1 G G G (At G)) ARz G Aa
 refine AZ<|Ae<|An G G<|Db (ps:=[(0,.tmp 75)]) (cs:=(GM ((⟨(Jm W o).2,0,0,0⟩:De)))) ARz ARs G<|BZ 1 (us:=(GM ((⟨(Jm W o).2,0,0,0⟩:De)))) G G G (At G) G G<|Ac<|rt ?_;have AB:((W,HN (Jm W o).2):Ah×De)=Z:=by rw[<-AW,H3];exact((AA9 FN).trans ((AA9 NK).trans ((AA9 KL).trans (AB3 (show((W,HN (Jm W o).2):Ah×De)=(if(Jm W o).2=0 then W.put (Jm W o).1 else W,HN (Jm W o).2)from by rw[AA9 KM]))))).symm
 subst AB;exact Au 7 G<|Au 7 G<|Au 7 G<|Au 7 G<|Au 7 G<|Es W AS A1 AY A9 Ba Bd Bp Bi G AU (BE [2,3,4,5] G) fun BH=>Au 3 G<|Au 3 G<|Au 3 G<|D8 BH [_,_,_] (Qv 1 G G G (At G)) ARz G Aa
end Go.Apw
