/- Part 19 of shardGiven_holds. -/
import Derived.Test.YtalfaopffbkdnabGreatStm18

set_option maxRecDepth 20000
set_option maxHeartbeats 1000000
open List renaming drop_eq_getElem_cons→AC1,length_append→ABP,length_cons→ABv,length_map→ADi,length_nil→ABo,set_cons_zero→ABt
open Go.A_ Go.Proofs Go.Proofs.YtalfaopffbkdnabGreat
namespace Go.Apw
def HY{α:Type}(f:α->α)(l:List α)(i:Nat):List α:=(l.take i).map f++l.drop i
theorem rq{α:Type}{f:α->α}{l:List α}{i:Nat}:(HY f l i).length=l.length:=by
 rw[HY,ABP,ADi,<-ABP,List.take_append_drop]
theorem Rk{α:Type}[Inhabited α]{f:α->α}{l:List α}{i:Nat}(h:i<l.length):(HY f l i).getD i default=l.getD i default:=by
 have e:((l.take i).map f).length=i:=by rw[ADi,ABz];omega
 rw[HY,ACn,List.getElem?_append_right AJv,e,ADI,List.getElem?_drop,Nat.add_zero,<-ACn]
theorem fj{α:Type}[Inhabited α]{f:α->α}{l:List α}{i:Nat}(h:i<l.length){x:α}(Ab:x=f (l.getD i default)):(HY f l i).set i x=HY f l (i+1):=by
 have e:((l.take i).map f).length=i:=by rw[ADi,ABz];omega
 rw[HY,HY,List.set_append_right _ _ AJv,e,ADI,AC1 h,ABt,List.take_succ_eq_append_getElem h,List.map_append,List.append_assoc,Ab,Go.A_.G3 h];rfl
theorem Ad'{α:Type}[Inhabited α]{f:α->α}{l:List α}{i:Nat}(h:i<l.length)(Ab:f (l.getD i default)=l.getD i default):HY f l i=HY f l (i+1):=by
 rw[<-fj h rfl,Ab,HY,List.set_append_right _ _ (by rw[ADi,ABz];omega)];have e:((l.take i).map f).length=i:=by rw[ADi,ABz];omega
 rw[e,ADI,AC1 h,ABt,Go.A_.G3 h]
theorem rp{α:Type}{f:α->α}{l:List α}:HY f l l.length=l.map f:=by
 rw[HY,ACB,List.drop_length,List.append_nil]
theorem rf{S:Bv}(h:Ce S){a:AD}(AK:a∈S.Aj){c q:Int}{y:Bool}(AN:Hn a c q=true):Fw (D1 a y).1/\D3 (D1 a y).1/\(D1 a y).1.Al=a.Al:=by
 obtain⟨Af,h2,_⟩:=h.acc a AK;obtain⟨_,_,p,r,t⟩:=UK (c:=y) h2 (ep Af h2 (fi AN));exact⟨r,t,by rw[p]⟩
theorem AdT{S:Bv}(h:Ce S){c q:Int}{y:Bool}:Ce {S with Aj:=S.Aj.map fun a=>if Hn a c q=true then(D1 a y).1 else a}:=h.bE fun a AK=>by
 split
 ·
  rename_i Aq;exact rf h AK Aq
 · exact⟨(h.acc a AK).1,(h.acc a AK).2.1,G⟩
theorem h6(b:Nat)(J:List Nat)(W:Ah)(c q e:Int)(Z:Ah)(AW:W.ends c q e=Z)(BO:Ce W.S)(Ge:W.B7<=970)(BK:A' c)(Ed:A' q)(iY:A' e):Aw AG 156 [.pointer (some ⟨b,0,none⟩),.int .i64 c,.int .i64 q,.int .i64 e] [DS b J W] [] (fun(_:List Nat) _=>True) (fun y _=>[DS b y Z]) (fun _ _=>[]):=by
 refine Aw.proof Tryz.func156 G 67 G G fun X w=>?_;obtain⟨K9,K_⟩:=id BK;obtain⟨LD,LF⟩:=id Ed;obtain⟨Am1,Am2⟩:=id iY;refine Ae<|CV G G G fun En=>CV G G G fun E'=>CV G G G fun Hg=>Ac<|Am<|B8 3 G<|Gu fun AS A1 AY A9 Ba Bd Bp Bi AU=>?_;refine AuG [[(11,.f1 11 fun BM=>[AO (FH (BM 0)) 98 XH]),(12,.f1 11 fun BM=>[AO (FH (BM 0)) 98 (H8 ((findD W.S.Bj c q)))])]] [] [(7,DF [] (.tuple #[.agg (H8 ((findD W.S.Bj c q))).toArray,.bool ((Tz W.S.Bj c q))])),(11,O6 [0]),(12,DF [0] undef)] [(0,8),(4,1),(5,7),(6,6)] [3,4,5,6,8] (fun _=>G) (fun _=>G) (fun Ai AV Az=>⟨fun _=>?_,fun _=>?_,fun _=>?_,trivial⟩) fun Ai _=>?_
 · exact B0 (ei _ _ c q BK Ed) (Ar G) G (Ad 1 G Aa) G<|BU [] [] 0 G G
 · exact CT SO G fun K0=>BU [.pointer (some ⟨K0,0,none⟩)] [] 0 G G
 · exact BZ 0 (us:=(H8 ((findD W.S.Bj c q)))) G G G (At G) G G<|BU [] [] 0 G G
 ·
  generalize FH (Ai 11 0)=K0;refine A5<|Am<|B8 5 G<|B8 5 G<|B8 5 G<|B8 5 G<|B8 5 G<|Ho W AS A1 AY A9 Ba Bd Bp Bi G AU (BE [0,1,2,3] G) fun BH=>rg<|AX 4 [4,3,2] G G<|Db (ps:=[(0,.tmp 26)]) (cs:=(GM ((⟨e,0,0,0⟩:De)))) AJy AJw G ?_;obtain⟨Ax,CB⟩:∃V,W.done c q (HN e)=V:=⟨_,rfl⟩;refine Ch 0 (hN b _ W c q (HN e) Ax CB BO AJv BK Ed (OM iY)) (Ar G) G G Aa G fun HC _ _=>?_;have JB:CE W Ax:=CB▸X3 BO c q (OM iY);have HR:=JB.ws;have JC:=X4 W c q (HN e);rw[CB]at JC;refine Ac<|Am<|Am<|Gu fun AS A1 AY A9 Ba Bd Bp Bi AU=>?_;refine rg<|AX 5 [8,0] G G<|JX 1 G G AB4 G fun AnS=>An G G<|Ac<|B5<|Hx (σ:=Nat) [(4,_),(5,_),(6,_),(8,_),(33,_),(34,_)] _ (fun i C=>(35,.int .i64 (i:Int))::C) (fun i=>[AO b 76 (FB Ax AS A1 AY A9 Ba Bd Bp Bi),row 43 AS (HY (fun a:AD=>if Hn a c q=true then(D1 a (decide ((findD W.S.Bj c q).C3=1))).1 else a) Ax.S.Aj i),row 86 AY Ax.S.AA,row 60 Bp Ax.EF,row 114 Bi Ax.BQ,AO K0 98 (H8 ((findD W.S.Bj c q))),AO Hg 3 [.int .i64 q],AO E' 3 [.int .i64 c],AO En 72 [.pointer (some ⟨b,0,none⟩)],CL X w]) (fun _ Dw=>Dw) (fun i=>i<=Ax.S.Aj.length) (fun i=>Ax.S.Aj.length-i) 0 (Bs G) (Ad 0 G (Ad 1 G (Ad 2 G (Ad 3 G (Ad 4 G (Ad 5 G (Ad 6 G (Ad 7 G Aa)))))))) (ABg _) (Bs G) G (Ad 0 G (Ad 1 G (Ad 2 G (Ad 3 G (Ad 4 G (Ad 5 G (Ad 6 G (Ad 7 G Aa)))))))) ?_;intro i Ag;show CF _ _ _ [(35,.int .i64 ((i:Int))),(4,_),(5,_),(6,_),(8,_),(33,_),(34,_)] [AO b 76 (FB Ax AS A1 AY A9 Ba Bd Bp Bi),row 43 AS (HY (fun a:AD=>if Hn a c q=true then(D1 a (decide ((findD W.S.Bj c q).C3=1))).1 else a) Ax.S.Aj i),row 86 AY Ax.S.AA,row 60 Bp Ax.EF,row 114 Bi Ax.BQ,AO K0 98 (H8 ((findD W.S.Bj c q))),AO Hg 3 [.int .i64 q],AO E' 3 [.int .i64 c],AO En 72 [.pointer (some ⟨b,0,none⟩)],CL X w] _;refine AF 1 G<|Am<|B9 G (fun K6=>?_) (fun K6=>?_)
  ·
   refine AZ<|Am<|B5<|Am ?_;have jt:(HY (fun a:AD=>if Hn a c q=true then(D1 a (decide ((findD W.S.Bj c q).C3=1))).1 else a) Ax.S.Aj i).length=Ax.S.Aj.length:=rq;refine rg<|An G G<|IF 1 (i) G G G Gt AJv AJv G<|Qk (s:=Nn) 1 (i) G G JP (At G) G fun sB uy=>CT Hd G fun XT=>U 1 G<|Cp 1 G fun Ae2=>?_;refine BZ 0 (us:=(A3 (((HY (fun a:AD=>if Hn a c q=true then(D1 a (decide ((findD W.S.Bj c q).C3=1))).1 else a) Ax.S.Aj i).getD (i) default)) sB)) G G G (At G) (by simp only[ABn,ABr,ABp,Ae2];rfl) G<|Ac<|Ae<|BJ 0 (A3 (((HY (fun a:AD=>if Hn a c q=true then(D1 a (decide ((findD W.S.Bj c q).C3=1))).1 else a) Ax.S.Aj i).getD (i) default)) sB) G G (At G) G G<|AX 2 [8,7] G G<|B0 (j6 _ _ c q uy) (Ar G) G Aa G<|Ac<|BN G (fun KL=>?_) (fun KL=>?_)
   ·
    refine AuG [] [(2,[(15,.f0 (row 43 AS ((HY (fun a:AD=>if Hn a c q=true then(D1 a (decide ((findD W.S.Bj c q).C3=1))).1 else a) Ax.S.Aj i).set (i) (D1 ((HY (fun a:AD=>if Hn a c q=true then(D1 a (decide ((findD W.S.Bj c q).C3=1))).1 else a) Ax.S.Aj i).getD i default) (decide ((findD W.S.Bj c q).C3=1))).1)))])] [(10,Ff [] (fun A4=>some (.tuple #[.agg (A3 ((D1 ((HY (fun a:AD=>if Hn a c q=true then(D1 a (decide ((findD W.S.Bj c q).C3=1))).1 else a) Ax.S.Aj i).getD i default) (decide ((findD W.S.Bj c q).C3=1))).1) (A4 0)).toArray,.int .i64 ((D1 ((HY (fun a:AD=>if Hn a c q=true then(D1 a (decide ((findD W.S.Bj c q).C3=1))).1 else a) Ax.S.Aj i).getD i default) (decide ((findD W.S.Bj c q).C3=1))).2)])) fun A4=>[⟨(A4 0),(D1 ((HY (fun a:AD=>if Hn a c q=true then(D1 a (decide ((findD W.S.Bj c q).C3=1))).1 else a) Ax.S.Aj i).getD i default) (decide ((findD W.S.Bj c q).C3=1))).1.A0⟩]),(14,DF [2] ((JI AS ((i)*10)))),(15,DF [2] undef)] [(0,9),(4,1),(6,0),(8,6)] [4,5,6,8,33,34,35] (fun _=>G) (fun _=>G) (fun Ai AV Az=>⟨fun _=>?_,fun _=>?_,fun _=>?_,trivial⟩) fun Ai _=>?_
    ·
     refine Dm (eo _ _ (decide ((findD W.S.Bj c q).C3=1)) (D1 ((HY (fun a:AD=>if Hn a c q=true then(D1 a (decide ((findD W.S.Bj c q).C3=1))).1 else a) Ax.S.Aj i).getD i default) (decide ((findD W.S.Bj c q).C3=1))) G uy) (Ar G) G (Ad 1 G Aa) G fun vj ug aI=>?_;subst aI;exact BU [vj] [0] 1 G G
    · exact IF 0 (i) G G G Gt AJv AJv G<|BU [] [] 1 G G
    · exact Qz (s:=Nn) 0 (i) (ov:=(D1 ((HY (fun a:AD=>if Hn a c q=true then(D1 a (decide ((findD W.S.Bj c q).C3=1))).1 else a) Ax.S.Aj i).getD i default) (decide ((findD W.S.Bj c q).C3=1))).1) (Ai 10 0) G G G AJv (At G) (Ad 0 G Aa) (by rw[Rk AJv];exact(rf HR (Hl AJv) (by rw[<-Rk (f:=(fun a:AD=>if Hn a c q=true then(D1 a (decide ((findD W.S.Bj c q).C3=1))).1 else a)) AJv];exact KL)).2.1.wf)<|BU [] [] 1 G G
    ·
     generalize Ai 10 0=vj;refine CU<|A5<|rg<|C5 G G BV G<|An G G<|nl<|AQ ?_;have Wq:(HY (fun a:AD=>if Hn a c q=true then(D1 a (decide ((findD W.S.Bj c q).C3=1))).1 else a) Ax.S.Aj i).set i (D1 ((HY (fun a:AD=>if Hn a c q=true then(D1 a (decide ((findD W.S.Bj c q).C3=1))).1 else a) Ax.S.Aj i).getD i default) (decide ((findD W.S.Bj c q).C3=1))).1=HY (fun a:AD=>if Hn a c q=true then(D1 a (decide ((findD W.S.Bj c q).C3=1))).1 else a) Ax.S.Aj (i+1):=fj AJv (by rw[Rk AJv];rw[Rk AJv]at KL;exact(AA_ KL).symm);rw[Wq];exact Dy (i+1) AJv AJv (Bs G) G (BE [3,4,5,6,7,8,9,10] G)
   ·
    refine EG<|CU<|A5<|rg<|C5 G G BV G<|An G G<|nl<|AQ ?_;have Wq:(HY (fun a:AD=>if Hn a c q=true then(D1 a (decide ((findD W.S.Bj c q).C3=1))).1 else a) Ax.S.Aj i)=HY (fun a:AD=>if Hn a c q=true then(D1 a (decide ((findD W.S.Bj c q).C3=1))).1 else a) Ax.S.Aj (i+1):=Ad' AJv (by rw[Rk AJv]at KL;exact AA9 (by rw[KL];decide));rw[Wq];exact Dy (i+1) AJv AJv (Bs G) G (BE [2,3,4,5,6,7,8,9] G)
  ·
   obtain rfl:i=Ax.S.Aj.length:=AJv;rw[rp];refine ex<|Ck<|Ck<|D7<|A5<|Ae<|AX 1 [8] G G<|D9 6 G<|M4 (α:=Int) q (fun S w h=>⟨G,Ed⟩)<|D9 6 G<|M4 (α:=Int) c (fun S w h=>⟨G,BK⟩)<|D9 6 G<|M4 (α:=JD) ⟨.pointer (some ⟨b,0,none⟩)⟩ (fun S w h=>⟨G,G⟩)<|Nd (xs:=[.tmp 5,.tmp 6,.tmp 4]) G G<|mz ({Ax with S:={Ax.S with Aj:=Ax.S.Aj.map (fun a:AD=>if Hn a c q=true then(D1 a (decide ((findD W.S.Bj c q).C3=1))).1 else a)}}:Ah) AS A1 AY A9 Ba Bd Bp Bi G AU (BE [3,4,5,6] G) fun VT=>?_;have Sy:Ce ({Ax with S:={Ax.S with Aj:=Ax.S.Aj.map (fun a:AD=>if Hn a c q=true then(D1 a (decide ((findD W.S.Bj c q).C3=1))).1 else a)}}:Ah).S:=AdT HR;obtain⟨Nx,P9⟩:∃V,Ah.drop ({Ax with S:={Ax.S with Aj:=Ax.S.Aj.map (fun a:AD=>if Hn a c q=true then(D1 a (decide ((findD W.S.Bj c q).C3=1))).1 else a)}}:Ah) (fun x:BX=>decide (x.Ca=2)&&decide (x.Ap=c)&&decide (x.As=q)&&decide (x.DH=({Ax with S:={Ax.S with Aj:=Ax.S.Aj.map (fun a:AD=>if Hn a c q=true then(D1 a (decide ((findD W.S.Bj c q).C3=1))).1 else a)}}:Ah).S.CZ))=V:=⟨_,rfl⟩;refine Ch 0 (hQ b _ ({Ax with S:={Ax.S with Aj:=Ax.S.Aj.map (fun a:AD=>if Hn a c q=true then(D1 a (decide ((findD W.S.Bj c q).C3=1))).1 else a)}}:Ah) _ #[_,_,_] [⟨_,(⟨c⟩:Cq Int)⟩,⟨_,(⟨q⟩:Cq Int)⟩,⟨_,(⟨⟨.pointer (some ⟨b,0,none⟩)⟩⟩:Cq JD)⟩] (fun x:BX=>decide (x.Ca=2)&&decide (x.Ap=c)&&decide (x.As=q)&&decide (x.DH=({Ax with S:={Ax.S with Aj:=Ax.S.Aj.map (fun a:AD=>if Hn a c q=true then(D1 a (decide ((findD W.S.Bj c q).C3=1))).1 else a)}}:Ah).S.CZ)) (Ar G) (fun AS A1 AY A9 Ba Bd Bp Bi x h=>y5 x _ _ _ c q b ({Ax with S:={Ax.S with Aj:=Ax.S.Aj.map (fun a:AD=>if Hn a c q=true then(D1 a (decide ((findD W.S.Bj c q).C3=1))).1 else a)}}:Ah) AS A1 AY A9 Ba Bd Bp Bi h) Nx P9 Sy) (Ar G) G G (BE [1,2,0] G) G fun Z5 _ _=>?_;have Aj2:CE ({Ax with S:={Ax.S with Aj:=Ax.S.Aj.map (fun a:AD=>if Hn a c q=true then(D1 a (decide ((findD W.S.Bj c q).C3=1))).1 else a)}}:Ah) Nx:=P9▸V3 Sy _;have Ai5:=Aj2.ws;refine Ac<|rg<|CQ 0 G G (A2 G) G fun Ao'=>CQ 1 G G (A2 G) G fun uz=>?_;refine CQ 2 G G (A2 G) G fun Apa=>?_;obtain⟨m5,ph⟩:∃V,Nx.raise c q=V:=⟨_,rfl⟩;refine Ch 0 (c8 b _ Nx c q m5 ph Ai5 BK Ed) (Ar G) G G Aa G fun xL _ _=>?_;refine nl ?_;have AB:m5=Z:=(by rw[<-AW,<-ph,<-P9,<-CB];rfl);subst AB;exact Au 1 G<|AQ<|Dz xL G trivial G Aa
theorem hM(b:Nat)(J:List Nat)(W:Ah)(c q:Int)(Z:Ah)(AW:W.RR c q=Z)(BO:Ce W.S)(Ge:W.B7<=960)(BK:A' c)(Ed:A' q):Aw AG 89 [.pointer (some ⟨b,0,none⟩),.int .i64 c,.int .i64 q] [DS b J W] [] (fun(_:List Nat) _=>True) (fun y _=>[DS b y Z]) (fun _ _=>[]):=by
 refine Aw.proof Tryz.func89 G 28 G G fun X w=>?_;obtain⟨K9,K_⟩:=id BK;obtain⟨LD,LF⟩:=id Ed;refine Gu fun AS A1 AY A9 Ba Bd Bp Bi AU=>?_;refine AF 1 G<|Am<|Ae<|AX 6 [0] G G<|An G G<|B0 (ei _ _ c q BK Ed) (Ar G) G (Ad 1 G Aa) G<|U 3 G<|CT SO G fun Jo=>BZ 0 (us:=(H8 ((findD W.S.Bj c q)))) G G G (At G) G G<|U 1 G<|Ac<|Ae<|AX 2 [0] G G<|U 1 G<|Ac<|B9 G (fun JQ=>?_) (fun JQ=>?_)
 ·
  refine FA 1 G<|A5<|B8 5 G<|B8 5 G<|B8 5 G<|B8 5 G<|B8 5 G<|Ho W AS A1 AY A9 Ba Bd Bp Bi G AU (BE [0,1,2,3] G) fun BH=>rg<|U 3 G<|An G G ?_;obtain⟨Ax,CB⟩:∃V,W.ends c q 0=V:=⟨_,rfl⟩;refine Ch 0 (h6 b _ W c q 0 Ax CB BO AJv BK Ed ⟨AJx,AJx⟩) (Ar G) G G Aa G fun HC _ _=>?_;have JB:CE W Ax:=CB▸av BO c q ⟨AJx,AJx⟩;have HR:=JB.ws;have JC:=aw W c q 0;rw[CB]at JC;refine nl ?_;have AB:Ax=Z:=(by rw[<-AW,Ah.RR,AA_ JQ];exact CB.symm);subst AB;exact Au 1 G<|AQ<|Dz HC G trivial G Aa
 ·
  refine AZ<|B8 5 G<|B8 5 G<|B8 5 G<|B8 5 G<|B8 5 G<|Ho W AS A1 AY A9 Ba Bd Bp Bi G AU (BE [0,1,2,3] G) fun BH=>rg<|U 4 G ?_;obtain⟨Ax,CB⟩:∃V,W.ends c q 150=V:=⟨_,rfl⟩;refine Ch 0 (h6 b _ W c q 150 Ax CB BO AJv BK Ed ⟨AJx,AJx⟩) (Ar G) G G Aa G fun HC _ _=>?_;have JB:CE W Ax:=CB▸av BO c q ⟨AJx,AJx⟩;have HR:=JB.ws;have JC:=aw W c q 150;rw[CB]at JC;refine nl ?_;have AB:Ax=Z:=(by rw[<-AW,Ah.RR,AA9 JQ];exact CB.symm);subst AB;exact Au 1 G<|AQ<|Dz HC G trivial G Aa
theorem iq(b:Nat)(J:List Nat)(W:Ah)(c q:Int)(Z:Ah)(AW:W.OR c q=Z)(BO:Ce W.S)(Ge:W.B7<=950)(BK:A' c)(Ed:A' q):Aw AG 83 [.pointer (some ⟨b,0,none⟩),.int .i64 c,.int .i64 q] [DS b J W] [] (fun(_:List Nat) _=>True) (fun y _=>[DS b y Z]) (fun _ _=>[]):=by
 refine Aw.proof Tryz.func83 G 35 G G fun X w=>?_;obtain⟨K9,K_⟩:=id BK;obtain⟨LD,LF⟩:=id Ed;refine Gu fun AS A1 AY A9 Ba Bd Bp Bi AU=>?_;refine Ae<|AX 7 [0] G G<|Dm (Aax _ _ c q (NJ W.S.Bj c q) G BK Ed) (Ar G) G (Ad 1 G Aa) G fun Zz T6 DA=>?_;subst DA;refine U 7 G<|Ac<|Ae<|U 3 G<|Fu 23 2 [] [0,1,2,6] G G G<|Ac<|BN G (fun Gr=>?_) (fun Gr=>?_)
 ·
  have PL:=Gr;rw[ABb,ABa]at PL;have cw:Ce ({W with S:={W.S with Bj:=(NJ W.S.Bj c q).1}}:Ah).S:=BO.SH (pb PL.1);refine Ae<|U 5 G<|J2 0 0 G G G G (A2 G) (Da G)<|Ac<|Ho ({W with S:={W.S with Bj:=(NJ W.S.Bj c q).1}}:Ah) AS A1 AY Zz Ba Bd Bp Bi G AU (BE [1,0,3,4] G) fun BH=>rg<|U 2 G<|An G G ?_;obtain⟨Ax,CB⟩:∃V,({W with S:={W.S with Bj:=(NJ W.S.Bj c q).1}}:Ah).ends c q 190=V:=⟨_,rfl⟩;refine Ch 0 (h6 b _ ({W with S:={W.S with Bj:=(NJ W.S.Bj c q).1}}:Ah) c q 190 Ax CB cw (show W.B7<=970 by omega) BK Ed ⟨AJx,AJx⟩) (Ar G) G G Aa G fun HC _ _=>?_;have JB:CE ({W with S:={W.S with Bj:=(NJ W.S.Bj c q).1}}:Ah) Ax:=CB▸av cw c q ⟨AJx,AJx⟩;have HR:=JB.ws;have JC:=aw ({W with S:={W.S with Bj:=(NJ W.S.Bj c q).1}}:Ah) c q 190;rw[CB]at JC;refine nl ?_;have AB:Ax=Z:=(by rw[<-AW,Ah.OR];simp only;rw[AA_ Gr];exact CB.symm);subst AB;exact Dz HC G trivial G Aa
 ·
  refine EG ?_;have AB:W=Z:=(by rw[<-AW,Ah.OR];simp only;rw[AA9 (by rw[Gr];decide)]);subst AB;exact Es W AS A1 AY A9 Ba Bd Bp Bi G AU (BE [1,2,3,4] G) fun BH=>Dz BH G trivial G Aa
theorem dx{α:Type}[Inhabited α]{l:List α}{p:α->Bool}:decide (HI (Gd l.length (fun j=>p (l.getD j default)))>=0)=l.any p:=by
 rw[ACy,ABa,List.any_eq_true];cases e:Gd l.length (fun j=>p (l.getD j default))with
 |none=>
  refine⟨fun h=>absurd h AJx,fun⟨x,Ab,AH⟩=>?_⟩;obtain⟨j,Ay,rfl⟩:=UP Ab;exact absurd AH (List.find?_eq_none.1 e j (ABw.2 Ay))
 |some j=>
  refine⟨fun _=>⟨_,Hl (Q4 e),(List.find?_range_eq_some.1 e).1⟩,fun _=>?_⟩;show(j:Int)>=0;omega
theorem Au1{S:Bv}(h:Ce S):∀a∈S.Aj,a.A0.length<=100000:=fun a AK=>ABB (S0 ((h.acc a AK).1.acc (h.acc a AK).2.1)) AJx
theorem Q3{S:Bv}(h:Ce S){k:ByteArray}:(BF S.Aj k).1.wf:=by
 cases e:(BF S.Aj k).2 with
 |true=>exact(h.acc _ (Q2 e).1).2.1.wf
 |false=>rw[(UH e).2,<-kc];exact rI _
theorem Ag_{Ei:Bv}{h:DL.H}:∀S w cs,(Iy DL).rd S w cs (Ei,h)->Qx.rd S w ((cs.drop 8).take 1) ⟨h.2.2.1⟩:=by
 rintro S w cs ⟨_,rfl,hs,hw⟩;exact⟨G,TJ (hs _ (AB6.2 ⟨_,ACF (l:=BY Ei h.1 h.2.1 h.2.2.1 h.2.2.2.1 h.2.2.2.2.1 h.2.2.2.2.2) (n:=8) (ABy G),G⟩))⟩
theorem Ak7(x:BX)(v1:Value)(k:ByteArray)(_:x.wf):Cv AG 114 [.agg (Hh x).toArray,v1] [⟨v1,(⟨k⟩:Cq ByteArray)⟩] (.bool (decide (x.AM.Al=k))):=by
 exact Aw.proof Tryz.func114 G 9 G G fun X w=>Ae<|CV G G G fun Dh=>U 1 G<|Ac<|Ae<|AX 3 [0] G G<|CQ 0 G G (A2 G) G fun OD=>U 2 G<|Ac<|rt<|AQ<|Bq () G G AJy G Aa
theorem uJ(b:Nat)(W:Ah)(AS A1 AY A9 Ba Bd Bp Bi:Value)(k:ByteArray)(R8:k.size<=9223372036854775807):Cv AG 54 [.pointer (some ⟨b,0,none⟩),.string k] [Ov b W AS A1 AY A9 Ba Bd Bp Bi,⟨AY,W.S.AA⟩] (.bool (SG W.S.AA k)):=by
 exact Aw.proof Tryz.func54 G 12 G G fun X w=>Ae<|CV G G G fun DQ=>U 1 G<|Ac<|Ae<|An G G<|Co 0 G G G<|IY (α:=Ah×QA.H) (β:=Bv×DL.H) 0 (fun x=>(x.1.S,(x.2.1,x.2.2.1,x.2.2.2.1,x.2.2.2.2.1,x.2.2.2.2.2.1,x.2.2.2.2.2.2.1))) G G (BR G) WZ G fun EZ=>IY (α:=Bv×DL.H) (β:=JD) 0 (fun x=>⟨x.2.2.2.1⟩) G G (BR G) Ag_ G fun T9=>CQ 0 G G (A2 G) G fun my=>Nd (xs:=[.tmp 3]) G G<|M4 (α:=ByteArray) k (fun S w h=>⟨G,(by first|assumption|exact trivial)⟩)<|B0 (n7 _ W.S.AA 114 #[_] [⟨_,(⟨k⟩:Cq ByteArray)⟩] (fun x=>decide (x.AM.Al=k)) (Ar G) (fun x h=>Ak7 x _ k h)) (Ar G) G (BE [4,0] G) G<|U 1 G<|Ac<|rt<|Bq () G G (by rw[SG,<-dx]) G Aa
theorem tj(o:FL)(Tl:o.wf)(Ao:1<=o.B2):Cv AG 106 [.agg (MZ o).toArray] [] (.int .i64 (signed o)):=by
 refine Aw.proof Tryz.func106 G 11 G G fun X w=>Ae<|CV G G G fun CY=>U 1 G<|Ac<|Am<|I5 3 [0] G G<|B9 G (fun C'=>?_) (fun C'=>?_)
 · exact Ae<|AX 2 [0] G G<|fl G (BV (by obtain⟨Ey,Ez⟩:=Tl.2.2.2.1;omega) (by obtain⟨Ey,Ez⟩:=Tl.2.2.2.1;omega)) G<|U 1 G<|Ac<|BA<|AQ<|Bq () G G (by rw[signed,AA_ C']) G Aa
 · exact AZ<|I5 3 [0] G G<|rt<|AQ<|Bq () G G (by rw[signed,AA9 C']) G Aa
theorem w_(c:Dg)(EE:Value)(n:Int)(BK:c.wf)(MB:A' n):Cv AG 73 [.agg (IT c EE).toArray,.int .i64 n] [] (.bool (NA c n)):=by
 refine Aw.proof Tryz.func73 G 66 G G fun X w=>?_;obtain⟨Yk,Yl⟩:=id MB;refine Ae<|CV G G G fun Dh=>U 1 G<|Ac<|Ae<|U 1 G<|BJ 0 (MZ c.AM) G G (At G) G G<|CT vt G fun E'=>BZ 0 (us:=(MZ c.AM)) G G G (At G) G G<|Ac<|Am<|Ae<|AX 4 [1,1] G G<|B0 (gr _ _ BK.2.1 BK.2.2.1) (Ar G) G Aa G<|U 2 G<|ET 14 4 [1] [1,2,5] G G G<|An G G<|ET 19 5 [1] [5] G G G<|An G G<|ET 25 4 [0] [5] G G G<|An G G<|ET 30 4 [0] [5] G G G<|An G G<|DE 35 5 [5] G G (fun Lz ZK=>AX 2 [0] G G<|Bl G G G<|B0 (gi _) (Ar G) G Aa G<|U 2 G<|ZK G Br)<|Ac<|BN G (fun K7=>?_) (fun K7=>?_)
 · exact AF 1 G<|BA<|AQ<|AQ<|Bq () G G (by rw[NA,AA_ K7]) G Aa
 ·
  refine AZ<|Am<|I5 2 [0] G G<|B5<|Am<|Ae<|U 1 G<|U 1 G<|Ac<|B9 G (fun KL=>?_) (fun KL=>?_)
  ·
   rw[ABG KL];exact AZ<|Mv G<|I5 4 [0] G G<|rt<|C9<|Cd<|AQ<|AQ<|Bq () G G (by rw[NA,AA9 (by rw[K7];decide),AA_ (by rw[ABG KL];rfl)]) G Aa
  ·
   refine FA 2 G<|A5<|B9 G (fun KL=>?_) (fun KL=>?_)
   · exact I5 4 [0] G G<|rt<|C9<|Cd<|AQ<|AQ<|Bq () G G (by rw[NA,AA9 (by rw[K7];decide),AA_ (by rw[ABG KL];simp)]) G Aa
   ·
    refine AF 2 G<|B9 G (fun R3=>?_) (fun R3=>?_)
    ·
     refine Ae<|AX 4 [0] G G ?_;refine D4 54 4 [5] G G (fun AaL VH=>by
      have Aof:=ABA AaL;exact AX 2 [0] G G<|Bl G G G<|B0 (gi _) (Ar G) G Aa G<|U 1 G<|VH G Br) ?_
     exact An G G<|Fu 59 6 [0,0] [] G G G<|U 1 G<|Ac<|rt<|C9<|Cd<|AQ<|AQ<|Bq () G G (by rw[NA,AA9 (by rw[K7];decide),AA9 (by simp only[ABk,ABa];omega),AA_ R3];try rfl) G Aa
    · exact EG<|CU<|A5<|AF 1 G<|rt<|AQ<|AQ<|Bq () G G (by rw[NA,AA9 (by rw[K7];decide),AA9 (by simp only[ABk,ABa];omega),AA9 R3]) G Aa
theorem kV{W:Ah}{a:AD}{k:ByteArray}(h:Ce W.S)(AK:Fw a)(hw:D3 a)(A7:F' W.S k=true)(AE:a.Al=k)(BI:(BF W.S.Aj k).2=true):CE W (W.put a):=TL h AK hw (by rw[AE];exact A7) (.inl (by rw[AE];exact BI))
theorem en{S:Bv}(h:Ce S){k:ByteArray}(BI:(BF S.Aj k).2=true):Fw (BF S.Aj k).1/\D3 (BF S.Aj k).1/\(BF S.Aj k).1.Al=k/\F' S k=true:=by
 obtain⟨m,e⟩:=Q2 BI;obtain⟨x,y,z⟩:=h.acc _ m;rw[e]at z;exact⟨x,y,e,z⟩
theorem Alp(b:Nat)(J:List Nat)(W:Ah)(c:Dg)(EE:Value)(Z:Ah)(AW:W.report c=Z)(BO:Ce W.S)(BK:c.wf):Aw AG 38 [.pointer (some ⟨b,0,none⟩),.agg (IT c EE).toArray] [DS b J W] [] (fun(_:List Nat) _=>True) (fun y _=>[DS b y Z]) (fun _ _=>[]):=by
 refine Aw.proof Tryz.func38 G 38 G G fun X w=>Gu fun AS A1 AY A9 Ba Bd Bp Bi AU=>Ae<|CV G G G fun DQ=>Ac<|Am<|AuG [[(10,.f1 10 fun BM=>[AO (FH (BM 0)) 43 N9]),(11,.f2 10 6 fun BM GL=>[AO (FH (BM 0)) 43 (A3 ((BF W.S.Aj c.Al).1) (GL 0))])]] [] [(6,Ff [3] (fun A4=>some (.tuple #[.agg (A3 ((BF W.S.Aj c.Al).1) (A4 0)).toArray,.bool ((BF W.S.Aj c.Al).2)])) fun A4=>[⟨(A4 0),(BF W.S.Aj c.Al).1.A0⟩]),(10,O6 [0]),(11,DF [0] undef)] [(3,2),(5,1)] [0,3,4,5] (fun _=>G) (fun _=>G) (fun Ai AV Az=>⟨fun _=>?_,fun _=>?_,fun _=>?_,trivial⟩) fun Ai _=>?_
 ·
  refine Uw [⟨AS,W.S.Aj⟩] (UI W.S _ _ _ _ _ _ c.Al (BF W.S.Aj c.Al) G (Au1 BO)) (fun _ _=>Vi) (Ar G) G (DU.row 0 G DU.nil) (Ad 0 G Aa) G fun P0 Xk Ft=>?_;obtain⟨yI,N6⟩:=Ft;subst yI;exact JO<|BU [P0] [0] 1 G G
 · exact CT Hd G fun En=>BU [.pointer (some ⟨En,0,none⟩)] [] 0 G G
 ·
  refine Cp 0 G fun Ka=>?_;exact BZ 0 (us:=(A3 ((BF W.S.Aj c.Al).1) (Ai 6 0))) G G G (At G) (by simp only[ABn,ABr,ABp,Ka];rfl) G<|BU [] [] 1 G G
 ·
  generalize FH (Ai 10 0)=En,Ai 6 0=P0;refine A5<|Am<|AF 2 G<|BN G (fun Fe=>?_) (fun Fe=>?_)
  ·
   have Qs:(BF W.S.Aj c.Al).2=false:=(by simpa using Fe);refine BA ?_;have AB:W=Z:=(by rw[<-AW,Ah.report,AA_ Qs]);subst AB;exact Au 6 G<|Au 6 G<|Au 6 G<|Au 6 G<|Au 6 G<|Es W AS A1 AY A9 Ba Bd Bp Bi G AU (BE [1,2,3,4] G) fun BH=>Au 1 G<|AQ<|Au 1 G<|AQ<|Ej BH G trivial G Aa
  ·
   have Qs:(BF W.S.Aj c.Al).2=true:=(by simpa using Fe);refine AZ<|Ae<|BJ 0 (A3 ((BF W.S.Aj c.Al).1) P0) G G (At G) G G<|AX 8 [1,1,1,1] G G<|Dm (Air _ _ c.Bn c.G0 c.Cn c.It (Mk (BF W.S.Aj c.Al).1 c.Bn c.G0 c.Cn c.It) G (Q3 BO) BK.2.2.2.2.1 BK.2.2.2.2.2.2.2.1 BK.2.2.2.2.2.2.2.2.1 BK.2.2.2.2.2.2.2.2.2.1) (Ar G) G (Ad 0 G Aa) G fun u7 v30 OS=>?_;subst OS;refine U 3 G<|CT Hd G fun Hg=>Cp 0 G fun Afa=>?_;refine BZ 0 (us:=(A3 ((Mk (BF W.S.Aj c.Al).1 c.Bn c.G0 c.Cn c.It).1) u7)) G G G (At G) (by simp only[ABn,ABr,ABp,Afa];rfl) G<|U 1 G<|Ac<|AF 2 G<|B9 G (fun FN=>?_) (fun FN=>?_)
   ·
    have Zs:(Mk (BF W.S.Aj c.Al).1 c.Bn c.G0 c.Cn c.It).1.wf:=(lf (en BO Qs).2.1 FN).2.2.2.2.2.2.2.2.2.wf;refine B8 7 G<|B8 7 G<|B8 7 G<|B8 7 G<|B8 7 G<|Ho W AS A1 AY A9 Ba Bd Bp Bi G AU (BE [2,3,4,5] G) fun BH=>rg<|An G G<|BJ 1 (A3 ((Mk (BF W.S.Aj c.Al).1 c.Bn c.G0 c.Cn c.It).1) u7) G G (At G) G G ?_;obtain⟨Ax,CB⟩:∃V,Ah.put W (Mk (BF W.S.Aj c.Al).1 c.Bn c.G0 c.Cn c.It).1=V:=⟨_,rfl⟩;refine Ch 0 (Vd b _ W (Mk (BF W.S.Aj c.Al).1 c.Bn c.G0 c.Cn c.It).1 _ Ax CB BO Zs) (Ar G) G G (Ad 0 G Aa) G fun HC _ _=>?_;have JC:Ax.B7=W.B7:=(by rw[<-CB];rfl);refine nl ?_;have AB:Ax=Z:=(by rw[<-AW,Ah.report,AA9 (by rw[Qs];decide),AA_ FN];exact CB.symm);subst AB;exact Au 1 G<|AQ<|Au 1 G<|AQ<|Au 1 G<|AQ<|Dz HC G trivial G Aa
   ·
    refine EG ?_;have AB:W=Z:=(by rw[<-AW,Ah.report,AA9 (by rw[Qs];decide),AA9 FN]);subst AB;exact Au 7 G<|Au 7 G<|Au 7 G<|Au 7 G<|Au 7 G<|Es W AS A1 AY A9 Ba Bd Bp Bi G AU (BE [2,3,4,5] G) fun BH=>Au 1 G<|AQ<|Au 1 G<|AQ<|Au 1 G<|AQ<|Dz BH G trivial G Aa
theorem AkN(b:Nat)(J:List Nat)(W:Ah)(c:Dg)(EE:Value)(Z:Ah)(AW:W.T' c=Z)(BO:Ce W.S)(Ge:W.B7<=940)(BK:c.wf):Aw AG 41 [.pointer (some ⟨b,0,none⟩),.agg (IT c EE).toArray] [DS b J W] [] (fun(_:List Nat) _=>True) (fun y _=>[DS b y Z]) (fun _ _=>[]):=by
 refine Aw.proof Tryz.func41 G 37 G G fun X w=>Gu fun AS A1 AY A9 Ba Bd Bp Bi AU=>Ae<|CV G G G fun DQ=>Ac<|Am<|AuG [] [] [(11,Ff [] (fun A4=>some (.tuple #[(A4 0),.bool ((Jk W.S.Bj c.Ap c.As false c.Jr).2.1),.int .i64 ((Jk W.S.Bj c.Ap c.As false c.Jr).2.2)])) fun A4=>[⟨(A4 0),(Jk W.S.Bj c.Ap c.As false c.Jr).1⟩])] [(4,1),(6,0),(8,0),(10,0)] [0,3,4,5,6] (fun _=>G) (fun _=>G) (fun Ai AV Az=>⟨fun _=>?_,trivial⟩) fun Ai _=>?_
 ·
  refine Dm (lD _ _ c.Ap c.As false c.Jr (Jk W.S.Bj c.Ap c.As false c.Jr) G BK.2.1 BK.2.2.1) (Ar G) G (Ad 1 G Aa) G fun gN KC Fe=>?_;subst Fe;exact BU [gN] [0] 1 G G
 ·
  generalize Ai 11 0=gN;refine A5<|Am<|AF 2 G<|Fa G (fun F3=>?_) (fun F3=>?_)
  ·
   refine BA ?_;have AB:W=Z:=(by rw[<-AW,Ah.T'];simp only;rw[AA_ F3]);subst AB;exact Au 5 G<|Au 5 G<|Au 5 G<|Au 5 G<|Au 5 G<|Es W AS A1 AY A9 Ba Bd Bp Bi G AU (BE [1,2,3,4] G) fun BH=>Au 1 G<|AQ<|Ej BH G trivial G Aa
  ·
   have Sx:Ce ({W with S:={W.S with Bj:=(Jk W.S.Bj c.Ap c.As false c.Jr).1}}:Ah).S:=BO.SH (cC F3);refine AZ<|Ae<|U 5 G<|J2 1 0 G G G G (A2 G) (Da G)<|Ac<|Ae<|An G G<|Ac<|BN G (fun OS=>?_) (fun OS=>?_)
   ·
    refine B8 5 G<|B8 5 G<|B8 5 G<|B8 5 G<|B8 5 G<|Ho ({W with S:={W.S with Bj:=(Jk W.S.Bj c.Ap c.As false c.Jr).1}}:Ah) AS A1 AY gN Ba Bd Bp Bi G AU (BE [1,0,3,4] G) fun BH=>rg<|AX 5 [1,1] G G ?_;obtain⟨Ax,CB⟩:∃V,Ah.RR ({W with S:={W.S with Bj:=(Jk W.S.Bj c.Ap c.As false c.Jr).1}}:Ah) c.Ap c.As=V:=⟨_,rfl⟩;refine Ch 0 (hM b _ ({W with S:={W.S with Bj:=(Jk W.S.Bj c.Ap c.As false c.Jr).1}}:Ah) c.Ap c.As Ax CB Sx (show W.B7<=960 by omega) BK.2.1 BK.2.2.1) (Ar G) G G Aa G fun HC _ _=>?_;refine nl ?_;have AB:Ax=Z:=(by rw[<-AW,Ah.T'];simp only;rw[AA9 (fun q=>q F3),AA_ OS];exact CB.symm);subst AB;exact Au 1 G<|AQ<|Dz HC G trivial G Aa
   ·
    refine EG ?_;have AB:({W with S:={W.S with Bj:=(Jk W.S.Bj c.Ap c.As false c.Jr).1}}:Ah)=Z:=(by rw[<-AW,Ah.T'];simp only;rw[AA9 (fun q=>q F3),AA9 (by rw[OS];decide)]);subst AB;exact Au 5 G<|Au 5 G<|Au 5 G<|Au 5 G<|Au 5 G<|Es ({W with S:={W.S with Bj:=(Jk W.S.Bj c.Ap c.As false c.Jr).1}}:Ah) AS A1 AY gN Ba Bd Bp Bi G AU (BE [1,0,3,4] G) fun BH=>Au 1 G<|AQ<|Dz BH G trivial G Aa
theorem Ald(b:Nat)(J:List Nat)(W:Ah)(c:Dg)(EE:Value)(Z:Ah)(AW:W.forget c=Z)(_:Ce W.S)(BK:c.wf):Aw AG 43 [.pointer (some ⟨b,0,none⟩),.agg (IT c EE).toArray] [DS b J W] [] (fun(_:List Nat) _=>True) (fun y _=>[DS b y Z]) (fun _ _=>[]):=by
 refine Aw.proof Tryz.func43 G 26 G G fun X w=>Gu fun AS A1 AY A9 Ba Bd Bp Bi AU=>Ae<|CV G G G fun DQ=>Ac<|Am<|AuG [] [] [(9,Ff [] (fun A4=>some (.tuple #[(A4 0),.int .i64 ((OP W.S.Bj c.Ap c.As).2)])) fun A4=>[⟨(A4 0),(OP W.S.Bj c.Ap c.As).1⟩])] [(4,1),(6,0),(8,0)] [0,4,5] (fun _=>G) (fun _=>G) (fun Ai AV Az=>⟨fun _=>?_,trivial⟩) fun Ai _=>?_
 ·
  refine Dm (zU _ _ c.Ap c.As (OP W.S.Bj c.Ap c.As) G BK.2.1 BK.2.2.1) (Ar G) G (Ad 1 G Aa) G fun Ui Mn CR=>?_;subst CR;exact BU [Ui] [0] 1 G G
 ·
  generalize Ai 9 0=Ui;refine A5<|AF 2 G<|B9 G (fun HQ=>?_) (fun HQ=>?_)
  ·
   refine rg<|U 5 G<|J2 1 0 G G G G (A2 G) (Da G)<|nl ?_;have AB:({W with S:={W.S with Bj:=(OP W.S.Bj c.Ap c.As).1}}:Ah)=Z:=(by rw[<-AW,Ah.forget,AA_ HQ]);subst AB;exact Au 5 G<|Au 5 G<|Au 5 G<|Au 5 G<|Au 5 G<|Es ({W with S:={W.S with Bj:=(OP W.S.Bj c.Ap c.As).1}}:Ah) AS A1 AY Ui Ba Bd Bp Bi G AU (BE [1,0,3,4] G) fun BH=>Au 1 G<|AQ<|Dz BH G trivial G Aa
  ·
   refine EG ?_;have AB:W=Z:=(by rw[<-AW,Ah.forget,AA9 HQ]);subst AB;exact Au 5 G<|Au 5 G<|Au 5 G<|Au 5 G<|Au 5 G<|Es W AS A1 AY A9 Ba Bd Bp Bi G AU (BE [1,2,3,4] G) fun BH=>Au 1 G<|AQ<|Dz BH G trivial G Aa
theorem yi(CP:Value)(l:List BX)(f:Nat)(D0:Array Value)(A:List Atom)(p:BX->Bool)(CM:GU AG f)(E5:∀x:BX,x.wf->Cv AG f (.agg (Hh x).toArray::D0.toList) A (.bool (p x))):Cv AG 87 [CP,.func (.func f) #[] D0] (⟨CP,l⟩::A) (.bool (l.any p)):=by
 rw[<-dx];exact n7 CP l f D0 A p CM E5
theorem o3{P:Program}{f:Nat}{vs:List Value}{DB:List Atom}{A:Atom}{v:Value}(h:Cv P f vs DB v):Cv P f vs (A::DB) v:=fun X w Af h2 Bo BB=>h X w Af h2 Bo fun t Av=>BB t (ABR _ Av)
theorem Aaw(x:BX)(v1:Value)(c:Dg)(_:x.wf):Cv AG 81 [.agg (Hh x).toArray,v1] [⟨v1,(Ak c)⟩] (.bool (decide (x.Ca=1)&&decide (x.Ap=c.Ap)&&decide (x.As=c.As))):=by
 refine Aw.proof Tryz.func81 G 21 G G fun X w=>Ae<|CV G G G fun Dh=>U 1 G<|Ac<|Ae<|AX 4 [0] G G ?_;refine D4 7 6 [1,2] G G (fun GY ZE=>by
  have r8:=ABA GY;exact AX 2 [0] G G<|Bl G G G<|CJ 0 Sr G G (BR G) G fun v10=>Bl G G G<|CQ 0 G G (A2 G) G fun SD=>U 2 G<|ZE G (Bg.tail Br)) ?_
 refine An G G ?_;refine D4 14 6 [] G G (fun Fm SR=>by
  exact AX 2 [0] G G<|Bl G G G<|CJ 0 Ss G G (BR G) G fun T6=>Bl G G G<|CQ 0 G G (A2 G) G fun cX=>U 2 G<|SR G (Bg.tail Br)) ?_
 exact U 1 G<|Ac<|rt<|AQ<|Bq () G G AJy G Aa
theorem oD(x:BX)(v1:Value)(c:Dg)(_:x.wf):Cv AG 92 [.agg (Hh x).toArray,v1] [⟨v1,(Ak c)⟩] (.bool (decide (x.Ca=2)&&decide (x.Ap=c.Ap)&&decide (x.As=c.As)&&decide (x.AM.Al=c.Al))):=by
 refine Aw.proof Tryz.func92 G 29 G G fun X w=>Ae<|CV G G G fun Dh=>U 1 G<|Ac<|Ae<|AX 4 [0] G G ?_;refine D4 7 6 [1,2] G G (fun GY ZE=>by
  have r8:=ABA GY;exact AX 2 [0] G G<|Bl G G G<|CJ 0 Sr G G (BR G) G fun v10=>Bl G G G<|CQ 0 G G (A2 G) G fun SD=>U 2 G<|ZE G (Bg.tail Br)) ?_
 refine An G G ?_;refine D4 14 6 [1,2] G G (fun Fm SR=>by
  exact AX 2 [0] G G<|Bl G G G<|CJ 0 Ss G G (BR G) G fun T6=>Bl G G G<|CQ 0 G G (A2 G) G fun cX=>U 2 G<|SR G (Bg.tail Br)) ?_
 refine An G G ?_;refine D4 21 7 [] G G (fun E1 vQ=>by
  exact AX 3 [0] G G<|Bl G G G<|CJ 0 kN G G (BR G) G fun T7=>Bl G G G<|CQ 0 G G (A2 G) G fun mv=>U 2 G<|vQ G (Bg.tail Br)) ?_
 exact U 1 G<|Ac<|rt<|AQ<|Bq () G G AJy G Aa
theorem AhC(x:BX)(v1:Value)(c:Dg)(_:x.wf):Cv AG 85 [.agg (Hh x).toArray,v1] [⟨v1,(Ak c)⟩] (.bool (decide (x.Ap=c.Ap)&&decide (x.As=c.As)&&decide (x.AM.Al=c.Al))):=by
 refine Aw.proof Tryz.func85 G 24 G G fun X w=>Ae<|CV G G G fun Dh=>U 1 G<|Ac<|Ae<|AX 2 [0] G G<|CJ 0 Sr G G (BR G) G fun v6=>CQ 0 G G (A2 G) G fun OD=>U 2 G ?_;refine D4 9 6 [1,2] G G (fun EO ZF=>by
  have Y0:=ABA EO;exact AX 2 [0] G G<|Bl G G G<|CJ 1 Ss G G (BR G) G fun gz=>Bl G G G<|CQ 0 G G (A2 G) G fun AkQ=>U 2 G<|ZF G (Bg.tail Br)) ?_
 refine An G G ?_;refine D4 16 7 [] G G (fun CR SU=>by
  exact AX 3 [0] G G<|Bl G G G<|CJ 1 kN G G (BR G) G fun v20=>Bl G G G<|CQ 0 G G (A2 G) G fun uv=>U 2 G<|SU G (Bg.tail Br)) ?_
 exact U 1 G<|Ac<|rt<|AQ<|Bq () G G AJy G Aa
theorem Ale(b:Nat)(J:List Nat)(W:Ah)(c:Dg)(EE:Value)(Z:Ah)(AW:W.UQ c=Z)(BO:Ce W.S)(Ge:W.B7<=940)(BK:c.wf):Aw AG 39 [.pointer (some ⟨b,0,none⟩),.agg (IT c EE).toArray] [DS b J W] [⟨EE,c.Cf⟩] (fun(_:List Nat) _=>True) (fun y _=>[DS b y Z]) (fun _ _=>[]):=by
 refine Aw.proof Tryz.func39 G 40 G G fun X w=>Gu fun AS A1 AY A9 Ba Bd Bp Bi AU=>Ae<|CV G G G fun DQ=>Ac<|Ae<|AX 5 [1] G G<|Nd (xs:=[.tmp 3]) G G ?_;refine M4 (α:=Dg) c (fun S w h=>⟨EE,G,fun t Av=>by
   simp only[ABf,ABh,ABi]at Av;subst Av
   · exact h _ (AA' (i:=4) G),BK⟩) ?_
 refine P6 [⟨AY,W.S.AA⟩] (jR AY W.S.AA 81 #[_] [⟨_,(Ak c)⟩] (fun x=>decide (x.Ca=1)&&decide (x.Ap=c.Ap)&&decide (x.As=c.As)) (Ar G) (fun x h=>Aaw x _ c h)) (Ar G) G (DU.row 2 G DU.nil) (Ad 0 G (Ad 1 G Aa)) G<|U 1 G<|Ac<|Am<|AF 2 G<|B9 G (fun Dp=>?_) (fun Dp=>?_)
 ·
  obtain⟨i,Fb⟩:∃i,(Gd W.S.AA.length (fun j=>decide ((W.S.AA.getD j default).Ca=1)&&decide ((W.S.AA.getD j default).Ap=c.Ap)&&decide ((W.S.AA.getD j default).As=c.As)))=some i:=by
   cases e:(Gd W.S.AA.length (fun j=>decide ((W.S.AA.getD j default).Ca=1)&&decide ((W.S.AA.getD j default).Ap=c.Ap)&&decide ((W.S.AA.getD j default).As=c.As)))with
   |none=>rw[e]at Dp;exact absurd Dp AJx
   |some i=>exact⟨i,rfl⟩
  have QX:HI (Gd W.S.AA.length (fun j=>decide ((W.S.AA.getD j default).Ca=1)&&decide ((W.S.AA.getD j default).Ap=c.Ap)&&decide ((W.S.AA.getD j default).As=c.As)))=(i:Int):=(by rw[Fb];rfl);rw[QX];have C_:=Q4 Fb;have jN:=BO.wl;refine Ae<|AX 8 [0] G G<|Hf (r:=((i+1:Nat):Int)) G G AJv BV G<|Ch 2 (oi AY W.S.AA i C_ AJv) (Ar G) G G Aa G fun _ Pe _=>?_;refine U 3 G<|IL 0 2 G G G G (A2 G) (Da G)<|Ac<|Ho ({W with S:={W.S with AA:=W.S.AA.eraseIdx i}}:Ah) AS A1 Pe A9 Ba Bd Bp Bi G AU (BE [1,2,3,4] G) fun BH=>?_;have cw:Ce ({W with S:={W.S with AA:=W.S.AA.eraseIdx i}}:Ah).S:=BO.bB (List.eraseIdx_sublist ..);refine rg<|An G G<|CJ 0 Sr G G (BR G) G fun Pg=>CQ 0 G G (A2 G) G fun uw=>CJ 1 Ss G G (BR G) G fun v30=>CQ 0 G G (A2 G) G fun cZ=>Db (ps:=[(0,.const (.int .i64 190))]) (cs:=(GM ((⟨190,0,0,0⟩:De)))) AJy AJw G ?_;obtain⟨Ax,CB⟩:∃V,Ah.done ({W with S:={W.S with AA:=W.S.AA.eraseIdx i}}:Ah) c.Ap c.As (HN 190)=V:=⟨_,rfl⟩;refine Ch 0 (hN b _ ({W with S:={W.S with AA:=W.S.AA.eraseIdx i}}:Ah) c.Ap c.As (HN 190) Ax CB cw (show W.B7<=990 by omega) BK.2.1 BK.2.2.1 (OM ⟨AJx,AJx⟩)) (Ar G) G G Aa G fun HC _ _=>?_;have JB:CE ({W with S:={W.S with AA:=W.S.AA.eraseIdx i}}:Ah) Ax:=CB▸X3 cw c.Ap c.As (OM ⟨AJx,AJx⟩);have HR:=JB.ws;have JC:=(show(Ah.done ({W with S:={W.S with AA:=W.S.AA.eraseIdx i}}:Ah) c.Ap c.As (HN 190)).B7=W.B7+1 from X4 _ _ _ _);rw[CB]at JC;refine Ac<|rg<|An G G<|CJ 2 Sr G G (BR G) G fun Mo=>CQ 0 G G (A2 G) G fun ux=>CJ 3 Ss G G (BR G) G fun gA=>CQ 0 G G (A2 G) G fun Zt=>?_;obtain⟨Bu,Fz⟩:∃V,Ax.OR c.Ap c.As=V:=⟨_,rfl⟩;refine Ch 0 (iq b _ Ax c.Ap c.As Bu Fz HR AJv BK.2.1 BK.2.2.1) (Ar G) G G Aa G fun K2 _ _=>?_;refine nl ?_;have AB:Bu=Z:=(by rw[<-AW,Ah.UQ];simp only[Fb];rw[<-Fz,<-CB]);subst AB;exact Dz K2 G trivial G Aa
 ·
  have Fb:(Gd W.S.AA.length (fun j=>decide ((W.S.AA.getD j default).Ca=1)&&decide ((W.S.AA.getD j default).Ap=c.Ap)&&decide ((W.S.AA.getD j default).As=c.As)))=none:=by
   cases e:(Gd W.S.AA.length (fun j=>decide ((W.S.AA.getD j default).Ca=1)&&decide ((W.S.AA.getD j default).Ap=c.Ap)&&decide ((W.S.AA.getD j default).As=c.As)))with
   |none=>rfl
   |some i=>rw[e]at Dp;exact absurd (by show(i:Int)>=0;omega) Dp
  refine AZ<|Ho W AS A1 AY A9 Ba Bd Bp Bi G AU (BE [1,2,3,4] G) fun K1=>rg<|An G G<|CJ 0 Sr G G (BR G) G fun Mo=>CQ 0 G G (A2 G) G fun ux=>CJ 1 Ss G G (BR G) G fun gA=>CQ 0 G G (A2 G) G fun Zt=>?_;obtain⟨Bu,Fz⟩:∃V,W.OR c.Ap c.As=V:=⟨_,rfl⟩;refine Ch 0 (iq b _ W c.Ap c.As Bu Fz BO AJv BK.2.1 BK.2.2.1) (Ar G) G G Aa G fun K2 _ _=>?_;refine nl ?_;have AB:Bu=Z:=(by rw[<-AW,Ah.UQ];simp only[Fb];exact Fz.symm);subst AB;exact Dz K2 G trivial G Aa
theorem Alc(b:Nat)(J:List Nat)(W:Ah)(c:Dg)(EE:Value)(Z:Ah)(AW:W.S5 c=Z)(BO:Ce W.S)(BK:c.wf):Aw AG 42 [.pointer (some ⟨b,0,none⟩),.agg (IT c EE).toArray] [DS b J W] [⟨EE,c.Cf⟩] (fun(_:List Nat) _=>True) (fun y _=>[DS b y Z]) (fun _ _=>[]):=by
 refine Aw.proof Tryz.func42 G 60 G G fun X w=>Gu fun AS A1 AY A9 Ba Bd Bp Bi AU=>Ae<|CV G G G fun DQ=>Ac<|Am<|Am<|Gx mixed AJw<|U 3 G<|BJ 1 (BY W.S AS A1 AY A9 Ba Bd) G G (At G) G G<|AX 2 [0] G G ?_;refine HD (fu _ _ _ _ _ _ _ _ AU.1) (Ar G) G Aa G<|U 2 G<|DE 14 7 [0,3] G G (fun Fm SS=>AX 4 [0,0] G G<|Bl G G G<|HD (gr _ _ BK.2.1 BK.2.2.1) (Ar G) G Aa G<|U 2 G<|SS G Br)<|Gj<|A5<|BN G (fun E1=>?_) (fun E1=>?_)
 ·
  refine BA ?_;have AB:W=Z:=(by rw[<-AW,Ah.S5,AA_ E1]);subst AB;exact Au 5 G<|Au 5 G<|Au 5 G<|Au 5 G<|Au 5 G<|Es W AS A1 AY A9 Ba Bd Bp Bi G AU (BE [0,1,2,3] G) fun BH=>Au 1 G<|AQ<|Ej BH G trivial G Aa
 ·
  refine AZ<|Am<|Am<|AuG [[(10,.f1 10 fun BM=>[AO (FH (BM 0)) 43 N9]),(11,.f2 10 6 fun BM GL=>[AO (FH (BM 0)) 43 (A3 ((BF W.S.Aj c.Al).1) (GL 0))])]] [] [(6,Ff [3] (fun A4=>some (.tuple #[.agg (A3 ((BF W.S.Aj c.Al).1) (A4 0)).toArray,.bool ((BF W.S.Aj c.Al).2)])) fun A4=>[⟨(A4 0),(BF W.S.Aj c.Al).1.A0⟩]),(10,O6 [0]),(11,DF [0] undef)] [(3,2),(5,1)] [0,3,4,5] (fun _=>G) (fun _=>G) (fun Ai AV Az=>⟨fun _=>?_,fun _=>?_,fun _=>?_,trivial⟩) fun Ai _=>?_
  ·
   refine Uw [⟨AS,W.S.Aj⟩] (UI W.S _ _ _ _ _ _ c.Al (BF W.S.Aj c.Al) G (Au1 BO)) (fun _ _=>Vi) (Ar G) G (DU.row 0 G DU.nil) (Ad 0 G Aa) G fun gP MR G5=>?_;obtain⟨yK,uw⟩:=G5;subst yK;exact JO<|BU [gP] [0] 1 G G
  · exact CT Hd G fun En=>BU [.pointer (some ⟨En,0,none⟩)] [] 0 G G
  ·
   refine Cp 0 G fun Ka=>?_;exact BZ 0 (us:=(A3 ((BF W.S.Aj c.Al).1) (Ai 6 0))) G G G (At G) (by simp only[ABn,ABr,ABp,Ka];rfl) G<|BU [] [] 1 G G
  ·
   generalize FH (Ai 10 0)=En,Ai 6 0=gP;refine A5<|Ae<|U 2 G<|D4 33 7 [0,3,4] G G (fun L' ZK=>Bl G G G<|BJ 0 (A3 ((BF W.S.Aj c.Al).1) gP) G G (At G) G G<|AX 4 [1,1] G G<|Bl G G G<|B0 (j6 _ _ c.Ap c.As (Q3 BO)) (Ar G) G Aa G<|U 1 G<|ZK G Br)<|Ac<|BN G (fun K7=>?_) (fun K7=>?_)
   ·
    have cf:=K7;rw[ABb]at cf;obtain⟨f1,f2⟩:=cf;obtain⟨Hj,G1,Jt,NI⟩:=en BO f1;have Jw:(D1 (BF W.S.Aj c.Al).1 c.Jr).2=0:=ep Hj G1 (fi f2);obtain⟨_,_,Af9,Afm,uF⟩:=UK G1 Jw;refine Ae<|BJ 0 (A3 ((BF W.S.Aj c.Al).1) gP) G G (At G) G G<|AX 2 [1] G G<|Dm (eo _ _ c.Jr (D1 (BF W.S.Aj c.Al).1 c.Jr) G (Q3 BO)) (Ar G) G (Ad 0 G Aa) G fun vd mm EN=>?_;subst EN;refine U 3 G<|Cp 0 G fun Afb=>?_;refine BZ 0 (us:=(A3 ((D1 (BF W.S.Aj c.Al).1 c.Jr).1) vd)) G G G (At G) (by simp only[ABn,ABr,ABp,Afb];rfl) G<|Ac<|B8 6 G<|B8 6 G<|B8 6 G<|B8 6 G<|B8 6 G<|Ho W AS A1 AY A9 Ba Bd Bp Bi G AU (BE [2,3,4,5] G) fun BH=>rg<|An G G<|BJ 1 (A3 ((D1 (BF W.S.Aj c.Al).1 c.Jr).1) vd) G G (At G) G G ?_;obtain⟨Ax,CB⟩:∃V,Ah.put W (D1 (BF W.S.Aj c.Al).1 c.Jr).1=V:=⟨_,rfl⟩;refine Ch 0 (Vd b _ W (D1 (BF W.S.Aj c.Al).1 c.Jr).1 _ Ax CB BO uF.wf) (Ar G) G G (Ad 0 G Aa) G fun HC _ _=>?_;have JB:CE W Ax:=CB▸kV BO Afm uF NI (by rw[Af9];exact Jt) f1;have HR:=JB.ws;have JC:Ax.B7=W.B7:=(by rw[<-CB];rfl);refine Ac<|Ae<|An G G<|D9 2 G ?_;refine M4 (α:=Dg) c (fun S w h=>⟨EE,G,fun t Av=>by
      simp only[ABf,ABh,ABi]at Av;subst Av
      · exact h _ (AA' (i:=6) G),BK⟩) ?_
    refine Nd (xs:=[.tmp 3]) G G ?_;obtain⟨Bu,Fz⟩:∃V,Ah.drop Ax (fun x:BX=>decide (x.Ca=2)&&decide (x.Ap=c.Ap)&&decide (x.As=c.As)&&decide (x.AM.Al=c.Al))=V:=⟨_,rfl⟩;refine Ch 0 (hQ b _ Ax _ #[_] [⟨_,(Ak c)⟩] (fun x:BX=>decide (x.Ca=2)&&decide (x.Ap=c.Ap)&&decide (x.As=c.As)&&decide (x.AM.Al=c.Al)) (Ar G) (fun AS A1 AY A9 Ba Bd Bp Bi x h=>o3 (oD x _ c h)) Bu Fz HR) (Ar G) G G (Ad 0 G Aa) G fun K2 _ _=>?_;have Xg:CE Ax Bu:=Fz▸V3 HR _;have Sy:=Xg.ws;refine Ac<|rg<|An G G<|CJ 0 Sr G G (BR G) G fun ug=>CQ 0 G G (A2 G) G fun mx=>CJ 1 Ss G G (BR G) G fun T8=>CQ 0 G G (A2 G) G fun Vt=>?_;obtain⟨Nx,P9⟩:∃V,Bu.raise c.Ap c.As=V:=⟨_,rfl⟩;refine Ch 0 (c8 b _ Bu c.Ap c.As Nx P9 Sy BK.2.1 BK.2.2.1) (Ar G) G G Aa G fun Z5 _ _=>?_;refine nl ?_;have AB:Nx=Z:=(by rw[<-AW,Ah.S5,AA9 (by rw[E1];decide)];simp only;rw[AA_ K7,<-P9,<-Fz,<-CB]);subst AB;exact Au 1 G<|AQ<|Dz Z5 G trivial G Aa
   ·
    refine AZ<|Am<|B8 6 G<|B8 6 G<|B8 6 G<|B8 6 G<|B8 6 G<|Ho W AS A1 AY A9 Ba Bd Bp Bi G AU (BE [1,2,3,4] G) fun K1=>rg<|An G G<|D9 2 G ?_;refine M4 (α:=Dg) c (fun S w h=>⟨EE,G,fun t Av=>by
      simp only[ABf,ABh,ABi]at Av;subst Av
      · exact h _ (AA' (i:=5) G),BK⟩) ?_
    refine Nd (xs:=[.tmp 3]) G G ?_;obtain⟨Bu,Fz⟩:∃V,Ah.drop W (fun x:BX=>decide (x.Ca=2)&&decide (x.Ap=c.Ap)&&decide (x.As=c.As)&&decide (x.AM.Al=c.Al))=V:=⟨_,rfl⟩;refine Ch 0 (hQ b _ W _ #[_] [⟨_,(Ak c)⟩] (fun x:BX=>decide (x.Ca=2)&&decide (x.Ap=c.Ap)&&decide (x.As=c.As)&&decide (x.AM.Al=c.Al)) (Ar G) (fun AS A1 AY A9 Ba Bd Bp Bi x h=>o3 (oD x _ c h)) Bu Fz BO) (Ar G) G G (Ad 0 G Aa) G fun K2 _ _=>?_;have Xg:CE W Bu:=Fz▸V3 BO _;have Sy:=Xg.ws;refine Ac<|rg<|An G G<|CJ 0 Sr G G (BR G) G fun ug=>CQ 0 G G (A2 G) G fun mx=>CJ 1 Ss G G (BR G) G fun T8=>CQ 0 G G (A2 G) G fun Vt=>?_;obtain⟨Nx,P9⟩:∃V,Bu.raise c.Ap c.As=V:=⟨_,rfl⟩;refine Ch 0 (c8 b _ Bu c.Ap c.As Nx P9 Sy BK.2.1 BK.2.2.1) (Ar G) G G Aa G fun Z5 _ _=>?_;refine nl ?_;have AB:Nx=Z:=(by rw[<-AW,Ah.S5,AA9 (by rw[E1];decide)];simp only;rw[AA9 (by rw[K7];decide),<-P9,<-Fz]);subst AB;exact Au 1 G<|AQ<|Dz Z5 G trivial G Aa
theorem Alm(b:Nat)(J:List Nat)(W:Ah)(c:Dg)(EE:Value)(Z:Ah)(AW:W.Vc c=Z)(BO:Ce W.S)(BK:c.wf):Aw AG 40 [.pointer (some ⟨b,0,none⟩),.agg (IT c EE).toArray] [DS b J W] [⟨EE,c.Cf⟩] (fun(_:List Nat) _=>True) (fun y _=>[DS b y Z]) (fun _ _=>[]):=by
 refine Aw.proof Tryz.func40 G 129 G G fun X w=>Gu fun AS A1 AY A9 Ba Bd Bp Bi AU=>Ae<|CV G G G fun DQ=>Ac<|Am<|Am<|Gx mixed AJw<|AX 4 [0,0] G G<|HD (gr _ _ BK.2.1 BK.2.2.1) (Ar G) G Aa G<|U 2 G<|DE 13 5 [0,3] G G (fun Dp N'=>AX 2 [0] G G<|Bl G G G<|HD (Zh _ BK.2.2.2.2.2.1) (Ar G) G Aa G<|U 2 G<|N' G Br)<|An G G<|DE 19 5 [0,3] G G (fun Fe gY=>AX 2 [0] G G<|Bl G G G<|HD (gi _) (Ar G) G Aa G<|U 2 G<|gY G Br)<|An G G<|ET 25 4 [0] [0,3] G G G<|An G G ?_;refine DE 30 9 [0,3] G G (fun OS vT=>by
  exact U 3 G<|Bl G G G<|BJ 1 (BY W.S AS A1 AY A9 Ba Bd) G G (At G) G G<|AX 2 [0] G G<|Bl G G G<|HD (fu _ _ _ _ _ _ _ _ AU.1) (Ar G) G Aa G<|U 2 G<|vT G Br) ?_
 refine An G G ?_;refine DE 40 8 [0,3] G G (fun K7 VG=>by
  exact U 3 G<|Bl G G G<|BJ 1 (BY W.S AS A1 AY A9 Ba Bd) G G (At G) G G<|AX 2 [0] G G<|Bl G G G<|HD (TV _ _ _ _ _ _ _ _ AU.1) (Ar G) G Aa G<|U 1 G<|VG G Br) ?_
 refine An G G ?_;refine DE 49 9 [0,3] G G (fun R3 VH=>by
  exact AX 7 [0,1] G G<|U 2 G<|VH G Br) ?_
 refine An G G ?_;refine DE 59 11 [0,3] G G (fun JS v7=>by
  exact AX 7 [1,0] G G<|AX 2 [0] G G<|Bl G G G<|HD (sd _ _ _ _ BK.2.1 BK.2.2.1) (Ar G) G (Ad 2 G Aa) G<|U 1 G<|v7 G Br) ?_
 refine Gj<|A5<|BN G (fun Ti=>?_) (fun Ti=>?_)
 ·
  rw[fy]at Ti;refine BA ?_;have AB:W=Z:=(by rw[<-AW,Ah.Vc,AA_ Ti]);subst AB;exact Au 5 G<|Au 5 G<|Au 5 G<|Au 5 G<|Au 5 G<|Es W AS A1 AY A9 Ba Bd Bp Bi G AU (BE [0,1,2,3] G) fun BH=>Au 1 G<|AQ<|Ej BH G trivial G Aa
 ·
  rw[fy]at Ti;have sC:=Ti;simp only[ABD,ABI]at sC;obtain⟨⟨⟨⟨⟨⟨⟨Rn,WY⟩,r3⟩,_⟩,_⟩,_⟩,_⟩,_⟩:=sC;refine AZ<|Am<|AuG [[(10,.f1 10 fun BM=>[AO (FH (BM 0)) 43 N9]),(11,.f2 10 6 fun BM GL=>[AO (FH (BM 0)) 43 (A3 ((BF W.S.Aj c.Al).1) (GL 0))])]] [] [(6,Ff [3] (fun A4=>some (.tuple #[.agg (A3 ((BF W.S.Aj c.Al).1) (A4 0)).toArray,.bool ((BF W.S.Aj c.Al).2)])) fun A4=>[⟨(A4 0),(BF W.S.Aj c.Al).1.A0⟩]),(10,O6 [0]),(11,DF [0] undef)] [(3,2),(5,1)] [0,3,4] (fun _=>G) (fun _=>G) (fun Ai AV Az=>⟨fun _=>?_,fun _=>?_,fun _=>?_,trivial⟩) fun Ai _=>?_
  ·
   refine Uw [⟨AS,W.S.Aj⟩] (UI W.S _ _ _ _ _ _ c.Al (BF W.S.Aj c.Al) G (Au1 BO)) (fun _ _=>Vi) (Ar G) G (DU.row 0 G DU.nil) (Ad 0 G Aa) G fun mN Zr AaN=>?_;obtain⟨yO,Apf⟩:=AaN;subst yO;exact JO<|BU [mN] [0] 1 G G
  · exact CT Hd G fun En=>BU [.pointer (some ⟨En,0,none⟩)] [] 0 G G
  ·
   refine Cp 0 G fun Ka=>?_;exact BZ 0 (us:=(A3 ((BF W.S.Aj c.Al).1) (Ai 6 0))) G G G (At G) (by simp only[ABn,ABr,ABp,Ka];rfl) G<|BU [] [] 1 G G
  ·
   generalize FH (Ai 10 0)=En,Ai 6 0=mN;refine A5<|Ae<|D9 1 G ?_;refine M4 (α:=Dg) c (fun S w h=>⟨EE,G,fun t Av=>by
     simp only[ABf,ABh,ABi]at Av;subst Av
     · exact h _ (AA' (i:=5) G),BK⟩) ?_
   refine Nd (xs:=[.tmp 3]) G G<|U 1 G<|Ac<|Am<|Ae<|BJ 0 (A3 ((BF W.S.Aj c.Al).1) mN) G G (At G) G G<|CJ 0 Sr G G (BR G) G fun AoS=>CQ 0 G G (A2 G) G fun uB=>CJ 1 Ss G G (BR G) G fun AoU=>CQ 0 G G (A2 G) G fun Aph=>B0 (j6 _ _ c.Ap c.As (Q3 BO)) (Ar G) G Aa G<|An G G ?_;refine DE 88 8 [0,3] G G (fun pe wg=>by
    exact AX 6 [1] G G<|Bl G G G<|P6 [⟨AY,W.S.AA⟩] (yi AY W.S.AA 85 #[_] [⟨_,(Ak c)⟩] (fun x=>decide (x.Ap=c.Ap)&&decide (x.As=c.As)&&decide (x.AM.Al=c.Al)) (Ar G) (fun x h=>AhC x _ c h)) (Ar G) G (DU.row 3 G DU.nil) (Ad 0 G (Ad 3 G Aa)) G<|U 1 G<|wg G Br) ?_
   refine An G G ?_;refine DE 97 8 [0,3] G G (fun P8 vJ=>by
    exact AX 5 [1] G G<|Bl G G G<|JX 3 G G ACi G fun AnL=>U 1 G<|U 1 G<|vJ G Br) ?_
   refine Ac<|BN G (fun iB=>?_) (fun iB=>?_)
   ·
    refine BA ?_;have AB:W=Z:=(by rw[<-AW,Ah.Vc,AA9 (by rw[Ti];decide),AA_ iB]);subst AB;exact Au 5 G<|Au 5 G<|Au 5 G<|Au 5 G<|Au 5 G<|Es W AS A1 AY A9 Ba Bd Bp Bi G AU (BE [4,5,6,7] G) fun BH=>Au 1 G<|AQ<|Ej BH G trivial G Aa
   ·
    refine AZ<|AuG [] [(1,[(23,.f1 19 fun BM=>[AO b 76 (FB W AS A1 (BM 0) A9 Ba Bd Bp Bi)])]),(3,[(19,.f1 19 fun BM=>[@row BX Ha 86 (BM 0) (W.S.AA++[(Li c.Ap c.As c.DH c.Al c.It)])])])] [(6,Ff [] (fun A4=>some (A4 0)) fun A4=>[⟨(A4 0),(Ak c.Ap)⟩]),(7,⟨[],fun _=>some (.int .i64 c.Ap),fun _=>[],[A' c.Ap]⟩),(8,Ff [] (fun A4=>some (A4 0)) fun A4=>[⟨(A4 0),(Ak c.As)⟩]),(9,⟨[],fun _=>some (.int .i64 c.As),fun _=>[],[A' c.As]⟩),(10,Ff [] (fun A4=>some (A4 0)) fun A4=>[⟨(A4 0),(Ak c.DH)⟩]),(11,⟨[],fun _=>some (.int .i64 c.DH),fun _=>[],[A' c.DH]⟩),(12,Ff [] (fun A4=>some (A4 0)) fun A4=>[⟨(A4 0),(Ak c.Al)⟩]),(13,DF [] (.string c.Al)),(14,Ff [] (fun A4=>some (A4 0)) fun A4=>[⟨(A4 0),(Ak c.It)⟩]),(15,⟨[],fun _=>some (.int .i64 c.It),fun _=>[],[A' c.It]⟩),(16,DF [] (.agg (MZ ((⟨0,c.Al,ByteArray.empty,c.It,0,0⟩:FL))).toArray)),(17,DF [] (.agg (Hh ((⟨2,c.Ap,c.As,0,c.DH,(⟨0,c.Al,ByteArray.empty,c.It,0,0⟩:FL)⟩:BX))).toArray)),(18,Ff [] (fun A4=>some (A4 0)) fun A4=>[⟨(A4 0),[(Li c.Ap c.As c.DH c.Al c.It)]⟩]),(19,Ol [3] fun A4=>some ((A4 0))),(23,DF [1,3] undef)] [(5,1)] [] (fun _=>G) (fun _=>G) (fun Ai AV Az=>⟨fun _=>?_,fun _=>?_,fun _=>?_,fun _=>?_,fun _=>?_,fun _=>?_,fun _=>?_,fun _=>?_,fun _=>?_,fun _=>?_,fun QJ=>?_,fun QJ=>?_,fun QJ=>?_,fun QJ=>?_,fun QJ=>?_,trivial⟩) fun Ai QJ=>?_
    · exact CJ 2 Sr G G (BR G) G fun AoC=>BU [_] [0] 1 G G
    ·
     refine CQ 0 G G (A2 G) G fun um=>?_;exact WT [] [] 1 G G ⟨um,trivial⟩
    · exact CJ 2 Ss G G (BR G) G fun AoD=>BU [_] [0] 1 G G
    ·
     refine CQ 0 G G (A2 G) G fun uo=>?_;exact WT [] [] 1 G G ⟨uo,trivial⟩
    · exact CJ 2 Agj G G (BR G) G fun ud=>BU [_] [0] 1 G G
    ·
     refine CQ 0 G G (A2 G) G fun uq=>?_;exact WT [] [] 1 G G ⟨uq,trivial⟩
    · exact CJ 2 kN G G (BR G) G fun AoE=>BU [_] [0] 1 G G
    ·
     refine CQ 0 G G (A2 G) G fun Ao1=>?_;exact BU [] [] 1 G G
    · exact CJ 2 Agk G G (BR G) G fun AoF=>BU [_] [0] 1 G G
    ·
     refine CQ 0 G G (A2 G) G fun ur=>?_;exact WT [] [] 1 G G ⟨ur,trivial⟩
    · exact Db (ps:=[(1,.tmp 119),(3,.tmp 121)]) (cs:=(MZ ((⟨0,c.Al,ByteArray.empty,c.It,0,0⟩:FL)))) AJy AJw G<|BU [] [] 2 G G
    · exact Db (ps:=[(0,.const (.int .i64 2)),(1,.tmp 113),(2,.tmp 115),(4,.tmp 117),(5,.tmp 122)]) (cs:=(Hh ((⟨2,c.Ap,c.As,0,c.DH,(⟨0,c.Al,ByteArray.empty,c.It,0,0⟩:FL)⟩:BX)))) AJy AJw G<|BU [] [] 5 G G
    · exact Lw G Mt G G G G fun Al_=>KJ (α:=BX) (Li c.Ap c.As c.DH c.Al c.It) (fun S w h=>⟨(),G,by simp,W3 Rn r3 WY BK.2.2.2.2.2.2.2.2.2.1⟩)<|BU [_] [0] 6 G G
    · exact ap 0 5 G G G G Mt (by have:=BO.wl;simp only[ABv,ABo];omega) (by have:=BO.wl;simp only[ABv,ABo];omega) G fun AkC=>BU [AkC] [] 6 G G
    · exact IL 0 1 G G G G (A2 G) (Da G)<|BU [] [] 6 G G
    ·
     obtain⟨um,uo,uq,ur,_⟩:=QJ;generalize Ai 6 0=MQ,Ai 8 0=Nq,Ai 10 0=Vo,Ai 12 0=cO,Ai 14 0=Xj,Ai 18 0=Akp,Ai 19 0=KC;have AB:(Ah.wait W (Li c.Ap c.As c.DH c.Al c.It))=Z:=(by rw[<-AW,Ah.Vc,AA9 (by rw[Ti];decide),AA9 (by rw[iB];decide)]);subst AB;exact Au 5 G<|Au 5 G<|Au 5 G<|Au 5 G<|Au 5 G<|Es (Ah.wait W (Li c.Ap c.As c.DH c.Al c.It)) AS A1 KC A9 Ba Bd Bp Bi G AU (BE [10,11,12,13] G) fun BH=>Au 1 G<|AQ<|Dz BH G trivial G Aa
theorem hn{W:Ah}{c:Dg}{Z:Ah×Bool}(AW:(if Mu W c=true then W.VR c else W,Mu W c)=Z)(h:Mu W c=false):(W,false)=Z:=by
 rw[<-AW,h,AA9 AJx]
theorem xb{W:Ah}{c:Dg}{Z:Ah×Bool}(AW:(if Mu W c=true then W.VR c else W,Mu W c)=Z)(h:Mu W c=true):(W.VR c,true)=Z:=by
 rw[<-AW,h,AA_ rfl]
theorem yt{c:Dg}(h:c.wf):(QW c).wf:=⟨h.2.1,h.2.2.1,h.2.2.2.2.2.2.2.2.2.2.2.1.2.1,h.2.2.2.2.2.2.2.2.2.2.2.1.2.2.1,h.2.2.2.2.2.2.2.2.2.2.2.1.2.2.2.1,DW,DW,DW⟩
theorem xa(b:Nat)(J:List Nat)(W:Ah)(c:Dg)(EE:Value)(Z:Ah×Bool)(AW:(if Mu W c=true then W.VR c else W,Mu W c)=Z)(BO:Ce W.S)(Ge:W.B7<=940)(BK:c.wf)(Bm:NA c W.nd=true)(A7:F' W.S c.AM.Al=true):Aw AG 78 [.pointer (some ⟨b,0,none⟩),.agg (IT c EE).toArray] [DS b J W] [] (fun(_:List Nat) u=>u=.bool Z.2) (fun y _=>[DS b y Z.1]) (fun _ _=>[]):=by
 refine Aw.proof Tryz.func78 G 57 G G fun X w=>?_;obtain⟨DP,EK,FR,Iz,Lv,KY,OH,VN⟩:=dA Bm;refine Gu fun AS A1 AY A9 Ba Bd Bp Bi AU=>?_;refine Ae<|CV G G G fun DQ=>U 1 G<|Ac<|Am<|Ae<|AX 5 [0] G G ?_;refine DE 12 6 [0,3] G G (fun EM N'=>by
  have r1:=ACe EM;refine AX 4 [0] G G<|Bl G G G<|GZ 2 G fun JZ=>GZ 3 G fun II=>?_;refine GZ 4 G fun MG=>?_;refine GZ 5 G fun NU=>?_;exact GO (q:=Value.oneCell' _=true) (fun S w h=>Fh (h _ (AA' (i:=0) G))) fun Ie=>GO (q:=Value.oneCell' _=true) (fun S w h=>Fh (h _ (AA' (i:=1) G))) fun IJ=>GO (q:=Value.oneCell' _=true) (fun S w h=>Fh (h _ (AA' (i:=2) G))) fun J0=>GO (q:=Value.oneCell' _=true) (fun S w h=>Fh (h _ (AA' (i:=3) G))) fun Ks=>P6 [Ov b W AS A1 AY A9 Ba Bd Bp Bi,⟨AY,W.S.AA⟩] (uJ b W AS A1 AY A9 Ba Bd Bp Bi c.AM.Al BK.2.2.2.2.2.2.2.2.2.2.2.1.2.1) (Ar G) G (DU.AO 1 G (Y_ JZ Ie II IJ J0 Ks MG NU AU) (DU.row 3 G DU.nil)) (Ad 0 G (Ad 1 G Aa)) G<|U 1 G<|N' G Br) ?_
 refine Ac<|BN G (fun ER=>?_) (fun ER=>?_)
 ·
  refine AF 1 G<|BA ?_;have AB:((W,false):Ah×Bool)=Z:=hn AW (by rw[Mu,ER];rfl);subst AB;exact Au 5 G<|Au 5 G<|Au 5 G<|Au 5 G<|Au 5 G<|Es W AS A1 AY A9 Ba Bd Bp Bi G AU (BE [0,1,2,3] G) fun BH=>Au 1 G<|AQ<|Bq BH G G G G Aa
 ·
  have Nj:=ER;simp only[ABD,ABl]at Nj;have Ao:1<=c.AM.B2:=OH AJv;have bf:=gg (o:=c.AM) BK.2.2.2.2.2.2.2.2.2.2.2.1.2.2.2.1 Ao;refine AZ<|Am<|AuG [[(11,.f1 11 fun BM=>[AO (FH (BM 0)) 43 N9]),(12,.f2 11 7 fun BM GL=>[AO (FH (BM 0)) 43 (A3 ((BF W.S.Aj c.AM.Al).1) (GL 0))])]] [] [(7,Ff [3] (fun A4=>some (.tuple #[.agg (A3 ((BF W.S.Aj c.AM.Al).1) (A4 0)).toArray,.bool ((BF W.S.Aj c.AM.Al).2)])) fun A4=>[⟨(A4 0),(BF W.S.Aj c.AM.Al).1.A0⟩]),(11,O6 [0]),(12,DF [0] undef)] [(3,2),(6,1)] [0,3,5,6] (fun _=>G) (fun _=>G) (fun Ai AV Az=>⟨fun _=>?_,fun _=>?_,fun _=>?_,trivial⟩) fun Ai _=>?_
  ·
   refine Uw [⟨AS,W.S.Aj⟩] (UI W.S _ _ _ _ _ _ c.AM.Al (BF W.S.Aj c.AM.Al) G (Au1 BO)) (fun _ _=>Vi) (Ar G) G (DU.row 0 G DU.nil) (Ad 0 G Aa) G fun Pm N4 G4=>?_;obtain⟨hT,PX⟩:=G4;subst hT;exact JO<|BU [Pm] [0] 1 G G
  · exact CT Hd G fun E'=>BU [.pointer (some ⟨E',0,none⟩)] [] 0 G G
  ·
   refine Cp 0 G fun Ka=>?_;exact BZ 0 (us:=(A3 ((BF W.S.Aj c.AM.Al).1) (Ai 7 0))) G G G (At G) (by simp only[ABn,ABr,ABp,Ka];rfl) G<|BU [] [] 1 G G
  ·
   generalize FH (Ai 11 0)=E',Ai 7 0=Pm;refine A5<|Am<|AF 2 G<|BN G (fun ES=>?_) (fun ES=>?_)
   ·
    refine AF 1 G<|BA ?_;have AB:((W,false):Ah×Bool)=Z:=hn AW (by rw[Mu,show(BF W.S.Aj c.AM.Al).2=false from by simpa using ES];simp);subst AB;exact Au 6 G<|Au 6 G<|Au 6 G<|Au 6 G<|Au 6 G<|Es W AS A1 AY A9 Ba Bd Bp Bi G AU (BE [1,2,3,4] G) fun BH=>Au 1 G<|AQ<|Au 1 G<|AQ<|Bq BH G G G G Aa
   ·
    have f1:(BF W.S.Aj c.AM.Al).2=true:=(by simpa using ES);obtain⟨Hj,G1,Jt,NI⟩:=en BO f1;refine AZ<|Am<|AuG [] [(0,[(8,.f1 4 fun BM=>[AO E' 43 (A3 ((JF (BF W.S.Aj c.AM.Al).1 (signed c.AM)).1) (BM 0))])])] [(3,DF [] (.int .i64 ((signed c.AM)))),(4,Ff [] (fun A4=>some (.tuple #[.agg (A3 ((JF (BF W.S.Aj c.AM.Al).1 (signed c.AM)).1) (A4 0)).toArray,.int .i64 ((JF (BF W.S.Aj c.AM.Al).1 (signed c.AM)).2)])) fun A4=>[⟨(A4 0),(JF (BF W.S.Aj c.AM.Al).1 (signed c.AM)).1.A0⟩]),(8,DF [0] undef)] [(0,0),(2,1)] [0,3,5,7] (fun _=>G) (fun _=>G) (fun Ai AV Az=>⟨fun _=>?_,fun _=>?_,fun _=>?_,trivial⟩) fun Ai _=>?_
    · exact B0 (tj c.AM BK.2.2.2.2.2.2.2.2.2.2.2.1 Ao) (Ar G) G Aa G<|BU [] [] 0 G G
    ·
     refine Dm (m' _ _ (signed c.AM) (JF (BF W.S.Aj c.AM.Al).1 (signed c.AM)) G (Q3 BO) bf) (Ar G) G (Ad 0 G Aa) G fun db gA M5=>?_;subst M5;exact BU [db] [0] 1 G G
    ·
     refine Cp 0 G fun Ka=>?_;exact BZ 0 (us:=(A3 ((JF (BF W.S.Aj c.AM.Al).1 (signed c.AM)).1) (Ai 4 0))) G G G (At G) (by simp only[ABn,ABr,ABp,Ka];rfl) G<|BU [] [] 1 G G
    ·
     generalize Ai 4 0=db;refine A5<|Am<|AF 2 G<|Fa G (fun My=>?_) (fun My=>?_)
     ·
      refine AF 1 G<|BA ?_;have AB:((W,false):Ah×Bool)=Z:=hn AW (by rw[Mu,ABM My];simp);subst AB;exact Au 6 G<|Au 6 G<|Au 6 G<|Au 6 G<|Au 6 G<|Es W AS A1 AY A9 Ba Bd Bp Bi G AU (BE [2,3,4,5] G) fun BH=>Au 1 G<|AQ<|Au 1 G<|AQ<|Bq BH G G G G Aa
     ·
      obtain⟨_,_,r5,Afl,uE⟩:=ZU G1 bf My;refine AZ<|Am<|B8 6 G<|B8 6 G<|B8 6 G<|B8 6 G<|B8 6 G<|Ho W AS A1 AY A9 Ba Bd Bp Bi G AU (BE [2,3,4,5] G) fun BH=>rg<|An G G<|BJ 1 (A3 ((JF (BF W.S.Aj c.AM.Al).1 (signed c.AM)).1) db) G G (At G) G G ?_;obtain⟨Ax,CB⟩:∃V,Ah.put W (JF (BF W.S.Aj c.AM.Al).1 (signed c.AM)).1=V:=⟨_,rfl⟩;refine Ch 0 (Vd b _ W (JF (BF W.S.Aj c.AM.Al).1 (signed c.AM)).1 _ Ax CB BO uE.wf) (Ar G) G G (Ad 0 G Aa) G fun HC _ _=>?_;have JB:CE W Ax:=CB▸kV BO Afl uE A7 (by rw[r5];exact Jt) f1;have HR:=JB.ws;have JC:Ax.B7=W.B7:=(by rw[<-CB];rfl);refine Ac<|Ae<|AX 10 [2,2,2,2] G G<|Db (ps:=[]) (cs:=(GM ((⟨0,0,0,0⟩:De)))) AJy AJw G ?_;obtain⟨Bu,Fz⟩:∃V,Ax.served c.Ap c.As c.Bn c.AM.Al GS=V:=⟨_,rfl⟩;refine Ch 0 (f_ b _ Ax c.Ap c.As c.Bn c.AM.Al GS Bu Fz HR AJv BK.2.1 BK.2.2.1 BK.2.2.2.2.1 BK.2.2.2.2.2.2.2.2.2.2.2.1.2.1 ZA) (Ar G) G G Aa G fun K2 _ _=>?_;refine Ac<|AF 1 G<|rt ?_;have AB:((Bu,true):Ah×Bool)=Z:=(by rw[<-xb AW (by rw[Mu,ER,f1,ABG My];rfl),<-Fz,<-CB];rfl);subst AB;exact Au 1 G<|AQ<|Au 1 G<|AQ<|Bq K2 G G G G Aa
theorem Akm(b:Nat)(J:List Nat)(W:Ah)(c:Dg)(EE:Value)(Z:Ah)(AW:W.T5 c=Z)(BO:Ce W.S)(Ge:W.B7<=940)(BK:c.wf)(Bm:NA c W.nd=true)(AE:c.AM.Ca=6)(A7:F' W.S c.AM.Al=true)(hs:Ef W.S c.AM.Al=false):Aw AG 77 [.pointer (some ⟨b,0,none⟩),.agg (IT c EE).toArray] [DS b J W] [] (fun(_:List Nat) _=>True) (fun y _=>[DS b y Z]) (fun _ _=>[]):=by
 refine Aw.proof Tryz.func77 G 120 G G fun X w=>?_;obtain⟨DP,EK,FR,Iz,Lv,KY,OH,VN⟩:=dA Bm;refine Gu fun AS A1 AY A9 Ba Bd Bp Bi AU=>?_;refine Ae<|CV G G G fun DQ=>Ac<|Ae<|U 1 G<|BJ 0 (MZ c.AM) G G (At G) G G<|CT vt G fun En=>BZ 0 (us:=(MZ c.AM)) G G G (At G) G G<|Ac<|Am<|AuG [] [] [(15,DF [] (.agg (H8 ((⟨c.Ap,c.As,c.AM.Al,c.AM.EL,c.AM.B2,0,0,0⟩:Bx))).toArray)),(16,Ff [] (fun A4=>some (.tuple #[(A4 0),.int .i64 ((Mf W.S.Bj (QW c)).2)])) fun A4=>[⟨(A4 0),(Mf W.S.Bj (QW c)).1⟩])] [(4,2),(6,1),(8,1),(10,0),(12,0),(14,0)] [0,3,4,5,6] (fun _=>G) (fun _=>G) (fun Ai AV Az=>⟨fun _=>?_,fun _=>?_,trivial⟩) fun Ai _=>?_
 · exact Db (ps:=[(0,.tmp 17),(1,.tmp 19),(2,.tmp 21),(3,.tmp 23),(4,.tmp 25)]) (cs:=(H8 ((⟨c.Ap,c.As,c.AM.Al,c.AM.EL,c.AM.B2,0,0,0⟩:Bx)))) AJy AJw G<|BU [] [] 0 G G
 ·
  refine Dm (AfD _ _ (QW c) (Mf W.S.Bj (QW c)) G (yt BK)) (Ar G) G (Ad 1 G Aa) G fun Pm N4 G4=>?_;subst G4;exact BU [Pm] [0] 1 G G
 ·
  generalize Ai 16 0=Pm;refine A5<|Am<|Ae<|U 3 G ?_;refine DE 32 8 [0,3,4,5] G G (fun aG ZK=>by
   have Af6:=aG;simp only[ABI,ABa]at Af6;exact AX 5 [2] G G<|Bl G G G<|JX 4 G G ACi G fun AnT=>U 1 G<|U 1 G<|ZK G Br) ?_
  refine Ac<|BN G (fun K7=>?_) (fun K7=>?_)
  ·
   refine Am<|B8 6 G<|B8 6 G<|B8 6 G<|B8 6 G<|B8 6 G<|Ho W AS A1 AY A9 Ba Bd Bp Bi G AU (BE [1,2,3,4] G) fun BH=>rg<|AX 6 [2,2] G G<|AX 3 [2,1] G G<|Db (ps:=[(0,.const (.int .i64 3))]) (cs:=(GM ((⟨3,0,0,0⟩:De)))) AJy AJw G ?_;obtain⟨Ax,CB⟩:∃V,W.served c.Ap c.As c.Bn c.AM.Al (HN 3)=V:=⟨_,rfl⟩;refine Ch 0 (f_ b _ W c.Ap c.As c.Bn c.AM.Al (HN 3) Ax CB BO AJv BK.2.1 BK.2.2.1 BK.2.2.2.2.1 BK.2.2.2.2.2.2.2.2.2.2.2.1.2.1 (OM ⟨AJx,AJx⟩)) (Ar G) G G Aa G fun HC _ _=>?_;refine Ac<|BA ?_;have AB:Ax=Z:=(by rw[<-AW,Ah.T5,AA_ K7];exact CB.symm);subst AB;exact Au 1 G<|AQ<|Au 1 G<|AQ<|Ej HC G trivial G Aa
  ·
   have cf:=K7;simp only[ABD,ABI,ABl,ABa]at cf;have HG:=OH (.inr (.inr AE));obtain⟨MF,rE⟩:=id BK.2.2.2.2.2.2.2.2.2.2.2.1.2.2.2.1;refine AZ<|Ae<|U 5 G<|J2 2 0 G G G G (A2 G) (Da G)<|Ac<|Am<|AuG [[(16,.f1 16 fun BM=>[AO (FH (BM 0)) 86 gU]),(17,.f1 16 fun BM=>[AO (FH (BM 0)) 86 (Hh ((⟨2,c.Ap,c.As,0,W.S.CZ,(⟨0,c.AM.Al,ByteArray.empty,(-c.AM.B2),0,0⟩:FL)⟩:BX)))])]] [] [(13,DF [] (.int .i64 ((-c.AM.B2)))),(14,DF [] (.agg (MZ ((⟨0,c.AM.Al,ByteArray.empty,(-c.AM.B2),0,0⟩:FL))).toArray)),(15,DF [] (.agg (Hh ((⟨2,c.Ap,c.As,0,W.S.CZ,(⟨0,c.AM.Al,ByteArray.empty,(-c.AM.B2),0,0⟩:FL)⟩:BX))).toArray)),(16,O6 [0]),(17,DF [0] undef)] [(1,2),(3,2),(8,3),(10,1),(12,1)] [0,4,7] (fun _=>G) (fun _=>G) (fun Ai AV Az=>⟨fun _=>?_,fun _=>?_,fun _=>?_,fun _=>?_,fun _=>?_,trivial⟩) fun Ai _=>?_
   · exact fl G BV G<|BU [] [] 0 G G
   · exact Db (ps:=[(1,.tmp 67),(3,.tmp 70)]) (cs:=(MZ ((⟨0,c.AM.Al,ByteArray.empty,(-c.AM.B2),0,0⟩:FL)))) AJy AJw G<|BU [] [] 0 G G
   · exact Db (ps:=[(0,.const (.int .i64 2)),(1,.tmp 58),(2,.tmp 60),(4,.tmp 65),(5,.tmp 71)]) (cs:=(Hh ((⟨2,c.Ap,c.As,0,W.S.CZ,(⟨0,c.AM.Al,ByteArray.empty,(-c.AM.B2),0,0⟩:FL)⟩:BX)))) AJy AJw G<|BU [] [] 0 G G
   · exact CT SM G fun Jo=>BU [.pointer (some ⟨Jo,0,none⟩)] [] 0 G G
   · exact BZ 0 (us:=(Hh ((⟨2,c.Ap,c.As,0,W.S.CZ,(⟨0,c.AM.Al,ByteArray.empty,(-c.AM.B2),0,0⟩:FL)⟩:BX)))) G G G (At G) G G<|BU [] [] 0 G G
   ·
    generalize FH (Ai 16 0)=Jo;refine A5<|Am<|AuG [] [(3,[(12,.f1 8 fun BM=>[AO b 76 (FB W AS A1 (BM 0) Pm Ba Bd Bp Bi)])]),(5,[(8,.f1 8 fun BM=>[@row BX Ha 86 (BM 0) (W.S.AA++[(Li c.Ap c.As W.S.CZ c.AM.Al (-c.AM.B2))])])])] [(7,Ff [] (fun A4=>some (A4 0)) fun A4=>[⟨(A4 0),[(Li c.Ap c.As W.S.CZ c.AM.Al (-c.AM.B2))]⟩]),(8,Ol [5] fun A4=>some ((A4 0))),(12,DF [3,5] undef)] [(5,3),(6,0)] [0,4,7] (fun _=>G) (fun _=>G) (fun Ai AV Az=>⟨fun _=>?_,fun _=>?_,fun _=>?_,trivial⟩) fun Ai _=>?_
    · exact Lw G Mt G G G G fun Ams=>KJ (α:=BX) (Li c.Ap c.As W.S.CZ c.AM.Al (-c.AM.B2)) (fun S w h=>⟨(),G,by simp,W3 DP KY BO.RZ ⟨AJv,AJv⟩⟩)<|BU [_] [0] 1 G G
    · exact ap 0 0 G G G G Mt (by simp only[ABv,ABo];omega) (by simp only[ABv,ABo];omega) G fun gC=>BU [gC] [] 1 G G
    · exact IL 0 1 G G G G (A2 G) (Da G)<|BU [] [] 1 G G
    ·
     generalize Ai 7 0=PR,Ai 8 0=T9;refine A5<|Am<|B8 7 G<|B8 7 G<|B8 7 G<|B8 7 G<|B8 7 G<|Ho (Ah.wait ({W with S:={W.S with Bj:=(Mf W.S.Bj (QW c)).1}}:Ah) (Li c.Ap c.As W.S.CZ c.AM.Al (-c.AM.B2))) AS A1 T9 Pm Ba Bd Bp Bi G AU (BE [2,1,4,5] G) fun BH=>?_;obtain⟨Ax,CB⟩:∃V:Ah,(Ah.wait ({W with S:={W.S with Bj:=(Mf W.S.Bj (QW c)).1}}:Ah) (Li c.Ap c.As W.S.CZ c.AM.Al (-c.AM.B2)))=V:=⟨_,rfl⟩;rw[CB];have JB:CE ({W with S:={W.S with Bj:=(Mf W.S.Bj (QW c)).1}}:Ah) Ax:=CB▸c3 (x:=(Li c.Ap c.As W.S.CZ c.AM.Al (-c.AM.B2))) (BO.SH (rU cf.1).1) (by show W.S.AA.length<8;omega) (fF DP KY A7 hs BO.RZ AJv) (W3 DP KY BO.RZ ⟨AJv,AJv⟩) (WX A7);have HR:=JB.ws;have Om:Ax.S.AA.length<=7:=(by rw[<-CB];show(W.S.AA++[_]).length<=7;rw[ABP];simp only[ABv,ABo];omega);have Hj:Ax.S.CZ=W.S.CZ:=(by rw[<-CB];rfl);refine Gu fun AS A1 AY A9 Ba Bd Bp Bi AU=>?_;refine Gx mixed AJw<|U 3 G<|BJ 0 (BY Ax.S AS A1 AY A9 Ba Bd) G G (At G) G G<|AX 2 [6] G G<|HD (fu _ _ _ _ _ _ _ _ AU.1) (Ar G) G Aa G<|An G G ?_;refine D4 92 9 [0,4,7] G G (fun AaQ ZD=>by
      exact U 3 G<|Bl G G G<|BJ 0 (BY Ax.S AS A1 AY A9 Ba Bd) G G (At G) G G<|AX 2 [6] G G<|Bl G G G<|HD (TV _ _ _ _ _ _ _ _ AU.1) (Ar G) G Aa G<|U 2 G<|ZD G Br) ?_
     refine Gj<|A5<|BN G (fun R1=>?_) (fun R1=>?_)
     ·
      refine Am ?_;obtain⟨Ac9,_⟩:=VN AE;refine rg<|AX 4 [6,6] G G<|Db (ps:=[(1,.tmp 103),(3,.tmp 105)]) (cs:=(MZ ((⟨0,c.AM.EL,ByteArray.empty,c.AM.B2,0,0⟩:FL)))) AJy AJw G<|U 1 G<|stM 5 (us:=(MZ ((⟨0,c.AM.EL,ByteArray.empty,c.AM.B2,0,0⟩:FL)))) G G G (At G) G (ABy G)<|Ac<|AuG [] [(0,[(12,.f1 8 fun BM=>[AO b 76 (FB Ax AS A1 (BM 0) A9 Ba Bd Bp Bi)])]),(2,[(8,.f1 8 fun BM=>[@row BX Ha 86 (BM 0) (Ax.S.AA++[(Li c.Ap c.As W.S.CZ c.AM.EL c.AM.B2)])])])] [(7,Ff [] (fun A4=>some (A4 0)) fun A4=>[⟨(A4 0),[(Li c.Ap c.As W.S.CZ c.AM.EL c.AM.B2)]⟩]),(8,Ol [2] fun A4=>some ((A4 0))),(12,DF [0,2] undef)] [(5,0),(6,5)] [] (fun _=>G) (fun _=>G) (fun Ai AV Az=>⟨fun _=>?_,fun _=>?_,fun _=>?_,trivial⟩) fun Ai _=>?_
      · exact Lw G Mt G G G G fun Al9=>KJ (α:=BX) (Li c.Ap c.As W.S.CZ c.AM.EL c.AM.B2) (fun S w h=>⟨(),G,by simp,W3 DP Ac9 BO.RZ ⟨AJv,AJv⟩⟩)<|BU [_] [0] 1 G G
      · exact ap 0 0 G G G G Mt (by simp only[ABv,ABo];omega) (by simp only[ABv,ABo];omega) G fun ud=>BU [ud] [] 1 G G
      · exact IL 0 1 G G G G (A2 G) (Da G)<|BU [] [] 1 G G
      ·
       generalize Ai 7 0=PR,Ai 8 0=T9;have AB:(Ah.wait Ax (Li c.Ap c.As W.S.CZ c.AM.EL c.AM.B2))=Z:=(by subst CB;rw[<-AW,Ah.T5,AA9 (by rw[K7];decide)];exact(AA_ R1).symm);subst AB;exact Es (Ah.wait Ax (Li c.Ap c.As W.S.CZ c.AM.EL c.AM.B2)) AS A1 T9 A9 Ba Bd Bp Bi G AU (BE [1,2,3,4] G) fun BH=>Au 1 G<|AQ<|Au 1 G<|AQ<|Au 1 G<|AQ<|Dz BH G trivial G Aa
     ·
      refine EG ?_;have AB:Ax=Z:=(by subst CB;rw[<-AW,Ah.T5,AA9 (by rw[K7];decide)];exact(AA9 (by rw[R1];decide)).symm);subst AB;exact Es Ax AS A1 AY A9 Ba Bd Bp Bi G AU (BE [0,1,2,3] G) fun BH=>Au 1 G<|AQ<|Au 1 G<|AQ<|Au 1 G<|AQ<|Dz BH G trivial G Aa
end Go.Apw
