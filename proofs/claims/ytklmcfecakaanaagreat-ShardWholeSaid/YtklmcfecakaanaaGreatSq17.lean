/- Part 17 of shardWhole_holds. -/
import Derived.Test.YtklmcfecakaanaaGreatSq16

set_option maxRecDepth 20000
set_option maxHeartbeats 1000000
open Go.Proofs.Tryz renaming underlying36→ARL,underlying63→ARP
open List renaming append_nil→AB7,drop_drop→ADy,drop_eq_nil_of_le→ACc,getElem?_set_ne→ACT,getElem?_toArray→ACA,length_append→ABP,mem_append_left→AC9,mem_append_right→ACV
open List.cons renaming injEq→ACj
open Nat renaming min_eq_left→ADH
open Option renaming map_eq_some_iff→ACr
open UInt8 renaming lt_iff_toNat_lt→ACG
open Go.A_ Go.Proofs Go.Proofs.YtklmcfecakaanaaGreat
namespace Go.Apw
variable(a:AD) (Cw:Value)
theorem Ada{a:AD}(h:LJ a=0):E4 a=true:=by
 unfold LJ at h;split at h
 · exact absurd h ARp
 rename_i q;simpa using q
theorem m'(n:Int)(Z:AD×Int)(AW:JF a n=Z)(C6:a.wf)(MB:A' n):Aw AG 143 [.agg (A3 a Cw).toArray,.int .i64 n] [] [⟨Cw,a.A0⟩] (fun(y:Value) u=>u=.tuple #[.agg (A3 Z.1 y).toArray,.int .i64 Z.2]) (fun _ _=>[]) (fun y _=>[⟨y,Z.1.A0⟩]):=by
 refine Aw.proof Tryz.func143 G 54 G G fun X w=>?_;obtain⟨Yk,Yl⟩:=id MB;refine DJ (α:=BD) ?_;refine HP (q:=∀x∈a.A0,x.wf) (fun S w h=>O7 (s:=MN) (h _ (AA' (i:=1) G))) fun F5=>?_;have hw:D3 a:=⟨C6,F5⟩;refine Ae<|CV G G G fun Dh=>CT Hd G fun En=>U 1 G<|Ac<|Am<|B5<|Ae<|BJ 1 (A3 a Cw) G G (At G) G G<|B0 (Ps _ _ C6) (Ar G) G (Ad 1 G Aa) G<|IH G G<|U 1 G<|Ac<|BN G (fun D2=>?_) (fun D2=>?_)
 ·
  have HZ:E4 a=false:=(by first|exact D2|exact BS.1 D2|exact(fun q=>BS.2 q D2)|exact(fun q=>ABd (D2.symm.trans q))|simpa using D2)
  have AB:((Fj,21):AD×Int)=Z:=(by rw[<-AW,JF,AA_ HZ]);subst AB;exact Ae<|Db (ps:=[]) (cs:=(A3 FX AI)) ARz ARs G<|BZ 0 (us:=(A3 FX AI)) G G G (At G) G G<|U 1 G<|Ac<|rt<|C9<|Cd<|D8 AI [_,_] (Fp 0 G G G G (At G)) ARz G (Ad 0 G Aa)
 have HZ:¬(E4 a=false):=(by first|exact D2|exact BS.1 D2|exact(fun q=>BS.2 q D2)|exact(fun q=>ABd (D2.symm.trans q))|simpa using D2)
 refine AF 3 G<|B9 G (fun Dp=>?_) (fun Dp=>?_)
 ·
  have HJ:n=0:=(by first|exact Dp|exact BS.1 Dp|exact(fun q=>BS.2 q Dp)|exact(fun q=>ABd (Dp.symm.trans q))|simpa using Dp)
  have AB:((Fj,1):AD×Int)=Z:=(by rw[<-AW,JF,AA9 HZ,AA_ HJ]);subst AB;exact Ae<|Db (ps:=[]) (cs:=(A3 FX AI)) ARz ARs G<|BZ 0 (us:=(A3 FX AI)) G G G (At G) G G<|U 1 G<|Ac<|rt<|C9<|Cd<|D8 AI [_,_] (Fp 0 G G G G (At G)) ARz G (Ad 0 G Aa)
 have HJ:¬(n=0):=(by first|exact Dp|exact BS.1 Dp|exact(fun q=>BS.2 q Dp)|exact(fun q=>ABd (Dp.symm.trans q))|simpa using Dp)
 refine Ae<|BJ 1 (A3 a Cw) G G (At G) G G<|B0 (YP _ _ C6) (Ar G) G (Ad 1 G Aa) G<|U 1 G<|Ac<|BN G (fun DA=>?_) (fun DA=>?_)
 ·
  have O_:G_ a=true:=(by first|exact DA|exact BS.1 DA|exact(fun q=>BS.2 q DA)|exact(fun q=>ABd (DA.symm.trans q))|simpa using DA)
  have AB:((Fj,152):AD×Int)=Z:=(by rw[<-AW,JF,AA9 HZ,AA9 HJ,AA_ O_]);subst AB;exact Ae<|Db (ps:=[]) (cs:=(A3 FX AI)) ARz ARs G<|BZ 0 (us:=(A3 FX AI)) G G G (At G) G G<|U 1 G<|Ac<|rt<|C9<|Cd<|D8 AI [_,_] (Fp 0 G G G G (At G)) ARz G (Ad 0 G Aa)
 have O_:¬(G_ a=true):=(by first|exact DA|exact BS.1 DA|exact(fun q=>BS.2 q DA)|exact(fun q=>ABd (DA.symm.trans q))|simpa using DA)
 refine EG<|CU<|A5<|Ae<|BJ 1 (A3 a Cw) G G (At G) G G<|B0 (sR _ _ C6) (Ar G) G (Ad 1 G Aa) G<|U 5 G<|Ac<|Am<|Ae<|U 3 G ?_;refine D4 28 5 [1,2,4,6] G G (fun R2 g0=>by
  have Aoa:=ABA R2;exact U 1 G<|Bl G G G<|F0 ABc AC4 G (OE _) G<|U 3 G<|g0 G Br) ?_
 refine An G G ?_;refine DE 34 10 [1,2,4] G G (fun FN ZM=>by
  refine U 3 G ?_;refine D4 37 6 [1,2,4,34] G G (fun M5 ZL=>by
   have r5:=ABA M5;exact U 1 G<|Bl G G G<|F0 ABc AC4 G (OE _) G<|Bl G G G<|Aev G (Aex n) G<|U 3 G<|ZL G Br) ?_
  exact U 1 G<|ZM G Br) ?_
 refine Ac<|BN G (fun Q_=>?_) (fun Q_=>?_)
 ·
  have Y7:dw a n=true:=(by first|exact Q_|exact BS.1 Q_|exact(fun q=>BS.2 q Q_)|exact(fun q=>ABd (Q_.symm.trans q))|simpa using Q_)
  have AB:((Fj,150):AD×Int)=Z:=(by rw[<-AW,JF,AA9 HZ,AA9 HJ,AA9 O_,AA_ Y7]);subst AB;exact Ae<|Db (ps:=[]) (cs:=(A3 FX AI)) ARz ARs G<|BZ 0 (us:=(A3 FX AI)) G G G (At G) G G<|U 1 G<|Ac<|BA<|D8 AI [_,_] (Fp 0 G G G G (At G)) ARz G (Ad 0 G Aa)
 have Y7:¬(dw a n=true):=(by first|exact Q_|exact BS.1 Q_|exact(fun q=>BS.2 q Q_)|exact(fun q=>ABd (Q_.symm.trans q))|simpa using Q_)
 have AB:(({a with BT:=a.BT+n},0):AD×Int)=Z:=by rw[<-AW,JF,AA9 HZ,AA9 HJ,AA9 O_,AA9 Y7]
 subst AB;have Kp:A' (a.BT+n):=by
  have q:=(ZU hw MB (by rw[AW])).2.2.2.2.wf.2.2.1;rw[AW]at q;exact q
 refine AZ<|Ae<|BJ 1 (A3 a Cw) G G (At G) G G<|Dm (Uy _ _ C6 (ABB (S0 (by simpa using HZ)) ARp)) (Ar G) G (Ad 1 G Aa) G fun Uk AkH Wg=>?_;subst Wg;refine JO ?_;refine Cp 0 G fun bR=>?_;refine BZ 1 (us:=(A3 a Uk)) G G G (At G) (by simp only[ABn,ABr,ABp,bR];rfl) G<|Ac<|Ae<|AX 3 [1] G G<|C5 G G Kp G<|U 1 G<|Fi 1 G G G (A2 G) G (Da G)<|Ac<|Ae<|BJ 1 (A3 ((⟨a.Al,(⟨a.Cs.A6,a.Cs.Bc⟩:GC),(a.BT+n),a.Cn,a.A0,(⟨a.BG.Ap,a.BG.As,a.BG.DH,a.BG.B2⟩:F_)⟩:AD)) Uk) G G (At G) G G<|Cp 0 G fun bR=>?_;exact BZ 0 (us:=(A3 ((⟨a.Al,(⟨a.Cs.A6,a.Cs.Bc⟩:GC),(a.BT+n),a.Cn,a.A0,(⟨a.BG.Ap,a.BG.As,a.BG.DH,a.BG.B2⟩:F_)⟩:AD)) Uk)) G G G (At G) (by simp only[ABn,ABr,ABp,bR];rfl) G<|U 1 G<|Ac<|rt<|D8 Uk [_,_] (Fp 0 G G G G (At G)) ARz G (Ad 0 G Aa)
theorem zZ(r:Int)(Z:AD×Int)(AW:Mx a r=Z)(C6:a.wf)(i':A' r):Aw AG 84 [.agg (A3 a Cw).toArray,.int .i64 r] [] [⟨Cw,a.A0⟩] (fun(y:Value) u=>u=.tuple #[.agg (A3 Z.1 y).toArray,.int .i64 Z.2]) (fun _ _=>[]) (fun y _=>[⟨y,Z.1.A0⟩]):=by
 refine Aw.proof Tryz.func84 G 25 G G fun X w=>?_;obtain⟨Abc,Abd⟩:=id i';refine DJ (α:=BD) ?_;refine HP (q:=∀x∈a.A0,x.wf) (fun S w h=>O7 (s:=MN) (h _ (AA' (i:=1) G))) fun F5=>?_;have hw:D3 a:=⟨C6,F5⟩;refine Ae<|CV G G G fun Dh=>CT Hd G fun En=>U 1 G<|Ac<|Am<|Ae<|BJ 1 (A3 a Cw) G G (At G) G G<|B0 (Ps _ _ C6) (Ar G) G (Ad 1 G Aa) G<|IH G G<|Ac<|BN G (fun D2=>?_) (fun D2=>?_)
 ·
  have HZ:E4 a=false:=(by first|exact D2|exact BS.1 D2|exact(fun q=>BS.2 q D2)|exact(fun q=>ABd (D2.symm.trans q))|simpa using D2)
  have AB:((Fj,21):AD×Int)=Z:=(by rw[<-AW,Mx,AA_ HZ]);subst AB;exact Ae<|Db (ps:=[]) (cs:=(A3 FX AI)) ARz ARs G<|BZ 0 (us:=(A3 FX AI)) G G G (At G) G G<|U 1 G<|Ac<|BA<|D8 AI [_,_] (Fp 0 G G G G (At G)) ARz G (Ad 0 G Aa)
 have HZ:¬(E4 a=false):=(by first|exact D2|exact BS.1 D2|exact(fun q=>BS.2 q D2)|exact(fun q=>ABd (D2.symm.trans q))|simpa using D2)
 refine AZ<|Am<|Ae<|U 3 G<|ET 12 3 [] [1,2,4] G G G<|Ac<|BN G (fun Ft=>?_) (fun Ft=>?_)
 ·
  have KR:(decide (r<1)||decide (r>EW))=true:=(by first|exact Ft|exact BS.1 Ft|exact(fun q=>BS.2 q Ft)|exact(fun q=>ABd (Ft.symm.trans q))|simpa using Ft)
  have AB:((Fj,1):AD×Int)=Z:=(by rw[<-AW,Mx,AA9 HZ,AA_ KR]);subst AB;exact Ae<|Db (ps:=[]) (cs:=(A3 FX AI)) ARz ARs G<|BZ 0 (us:=(A3 FX AI)) G G G (At G) G G<|U 1 G<|Ac<|BA<|D8 AI [_,_] (Fp 0 G G G G (At G)) ARz G (Ad 0 G Aa)
 have KR:¬((decide (r<1)||decide (r>EW))=true):=(by first|exact Ft|exact BS.1 Ft|exact(fun q=>BS.2 q Ft)|exact(fun q=>ABd (Ft.symm.trans q))|simpa using Ft)
 refine AZ<|Ae<|BJ 1 (A3 a Cw) G G (At G) G G<|Dm (Uy _ _ C6 (ABB (S0 (by simpa using HZ)) ARp)) (Ar G) G (Ad 1 G Aa) G fun Uj Zq ER=>?_;subst ER;refine JO ?_;refine Cp 0 G fun bO=>?_;refine BZ 1 (us:=(A3 a Uj)) G G G (At G) (by simp only[ABn,ABr,ABp,bO];rfl) G<|Ac<|Am<|I5 3 [1] G G<|B9 G (fun E1=>?_) (fun E1=>?_)
 ·
  have Y6:a.Cn=0:=(by first|exact E1|exact BS.1 E1|exact(fun q=>BS.2 q E1)|exact(fun q=>ABd (E1.symm.trans q))|simpa using E1)
  have AB:(({a with Cn:=r},0):AD×Int)=Z:=(by rw[<-AW,Mx,AA9 HZ,AA9 KR,AA_ Y6]);subst AB;refine rg<|U 2 G<|Fi 1 G G G (A2 G) G (Da G)<|Ac<|Ae<|BJ 1 (A3 ((⟨a.Al,(⟨a.Cs.A6,a.Cs.Bc⟩:GC),a.BT,r,a.A0,(⟨a.BG.Ap,a.BG.As,a.BG.DH,a.BG.B2⟩:F_)⟩:AD)) Uj) G G (At G) G G<|Cp 0 G fun bO=>?_;exact BZ 0 (us:=(A3 ((⟨a.Al,(⟨a.Cs.A6,a.Cs.Bc⟩:GC),a.BT,r,a.A0,(⟨a.BG.Ap,a.BG.As,a.BG.DH,a.BG.B2⟩:F_)⟩:AD)) Uj)) G G G (At G) (by simp only[ABn,ABr,ABp,bO];rfl) G<|U 1 G<|Ac<|rt<|D8 Uj [_,_] (Fp 0 G G G G (At G)) ARz G (Ad 0 G Aa)
 have Y6:¬(a.Cn=0):=(by first|exact E1|exact BS.1 E1|exact(fun q=>BS.2 q E1)|exact(fun q=>ABd (E1.symm.trans q))|simpa using E1)
 have AB:((a,0):AD×Int)=Z:=by rw[<-AW,Mx,AA9 HZ,AA9 KR,AA9 Y6]
 subst AB;refine AZ<|Ae<|BJ 1 (A3 a Uj) G G (At G) G G<|Cp 0 G fun bO=>?_;exact BZ 0 (us:=(A3 a Uj)) G G G (At G) (by simp only[ABn,ABr,ABp,bO];rfl) G<|U 1 G<|Ac<|rt<|D8 Uj [_,_] (Fp 0 G G G G (At G)) ARz G (Ad 0 G Aa)
theorem Akf(Z:AD×Int)(AW:OA a=Z)(C6:a.wf):Aw AG 85 [.agg (A3 a Cw).toArray] [] [⟨Cw,a.A0⟩] (fun(y:Value) u=>u=.tuple #[.agg (A3 Z.1 y).toArray,.int .i64 Z.2]) (fun _ _=>[]) (fun y _=>[⟨y,Z.1.A0⟩]):=by
 refine Aw.proof Tryz.func85 G 12 G G fun X w=>DJ (α:=BD) ?_;refine HP (q:=∀x∈a.A0,x.wf) (fun S w h=>O7 (s:=MN) (h _ (AA' (i:=1) G))) fun F5=>?_;have hw:D3 a:=⟨C6,F5⟩;refine Ae<|CV G G G fun CY=>CT Hd G fun Dh=>U 1 G<|Ac<|Am<|Ae<|BJ 1 (A3 a Cw) G G (At G) G G<|B0 (Ps _ _ C6) (Ar G) G (Ad 1 G Aa) G<|IH G G<|Ac<|BN G (fun F4=>?_) (fun F4=>?_)
 ·
  have Mi:E4 a=false:=(by first|exact F4|exact BS.1 F4|exact(fun q=>BS.2 q F4)|exact(fun q=>ABd (F4.symm.trans q))|simpa using F4)
  have AB:((Fj,21):AD×Int)=Z:=(by rw[<-AW,OA,AA_ Mi]);subst AB;exact Ae<|Db (ps:=[]) (cs:=(A3 FX AI)) ARz ARs G<|BZ 0 (us:=(A3 FX AI)) G G G (At G) G G<|U 1 G<|Ac<|BA<|D8 AI [_,_] (Fp 0 G G G G (At G)) ARz G (Ad 0 G Aa)
 have Mi:¬(E4 a=false):=(by first|exact F4|exact BS.1 F4|exact(fun q=>BS.2 q F4)|exact(fun q=>ABd (F4.symm.trans q))|simpa using F4)
 have AB:(({a with Cn:=0},0):AD×Int)=Z:=by rw[<-AW,OA,AA9 Mi]
 subst AB;refine AZ<|Ae<|BJ 1 (A3 a Cw) G G (At G) G G<|Dm (Uy _ _ C6 (ABB (S0 (by simpa using Mi)) ARp)) (Ar G) G (Ad 1 G Aa) G fun XD Nr EO=>?_;subst EO;refine JO ?_;refine Cp 0 G fun kv=>?_;refine BZ 1 (us:=(A3 a XD)) G G G (At G) (by simp only[ABn,ABr,ABp,kv];rfl) G<|Ac<|Ae<|U 1 G<|Fi 1 G G G (A2 G) G (Da G)<|Ac<|Ae<|BJ 1 (A3 ((⟨a.Al,(⟨a.Cs.A6,a.Cs.Bc⟩:GC),a.BT,0,a.A0,(⟨a.BG.Ap,a.BG.As,a.BG.DH,a.BG.B2⟩:F_)⟩:AD)) XD) G G (At G) G G<|Cp 0 G fun kv=>?_;exact BZ 0 (us:=(A3 ((⟨a.Al,(⟨a.Cs.A6,a.Cs.Bc⟩:GC),a.BT,0,a.A0,(⟨a.BG.Ap,a.BG.As,a.BG.DH,a.BG.B2⟩:F_)⟩:AD)) XD)) G G G (At G) (by simp only[ABn,ABr,ABp,kv];rfl) G<|U 1 G<|Ac<|rt<|D8 XD [_,_] (Fp 0 G G G G (At G)) ARz G (Ad 0 G Aa)
theorem xx(s:GC)(Z:AD×Int)(AW:Pu a s=Z)(C6:a.wf)(J8:s.wf):Aw AG 142 [.agg (A3 a Cw).toArray,.agg (Od s).toArray] [] [⟨Cw,a.A0⟩] (fun(y:Value) u=>u=.tuple #[.agg (A3 Z.1 y).toArray,.int .i64 Z.2]) (fun _ _=>[]) (fun y _=>[⟨y,Z.1.A0⟩]):=by
 refine Aw.proof Tryz.func142 G 24 G G fun X w=>DJ (α:=BD) ?_;refine HP (q:=∀x∈a.A0,x.wf) (fun S w h=>O7 (s:=MN) (h _ (AA' (i:=1) G))) fun F5=>?_;have hw:D3 a:=⟨C6,F5⟩;refine Ae<|CV G G G fun Dh=>CV G G G fun DQ=>CT Hd G fun En=>U 1 G<|Ac<|Am<|Ae<|BJ 2 (A3 a Cw) G G (At G) G G<|B0 (qQ _ _ C6) (Ar G) G (Ad 1 G Aa) G<|U 1 G<|Ac<|AF 2 G<|Fa G (fun Dq=>?_) (fun Dq=>?_)
 ·
  have Ni:¬LJ a=0:=(by first|exact Dq|exact BS.1 Dq|exact(fun q=>BS.2 q Dq)|exact(fun q=>ABd (Dq.symm.trans q))|simpa using Dq)
  have AB:((Fj,LJ a):AD×Int)=Z:=(by rw[<-AW,Pu,AA_ Ni]);subst AB;exact Ae<|Db (ps:=[]) (cs:=(A3 FX AI)) ARz ARs G<|An G G<|BZ 0 (us:=(A3 FX AI)) G G G (At G) G G<|U 1 G<|Ac<|BA<|D8 AI [_,_,_] (Fp 0 G G G G (At G)) ARz G (Ad 0 G Aa)
 have Ni:¬(¬LJ a=0):=(by first|exact Dq|exact BS.1 Dq|exact(fun q=>BS.2 q Dq)|exact(fun q=>ABd (Dq.symm.trans q))|simpa using Dq)
 refine AZ<|Am<|Ae<|BJ 1 (Od s) G G (At G) G G<|AX 2 [2] G G<|B0 (jd _ _ J8 C6.2.2.1) (Ar G) G Aa G<|IH G G<|Ac<|BN G (fun DA=>?_) (fun DA=>?_)
 ·
  have O_:Rb s a.BT=false:=(by first|exact DA|exact BS.1 DA|exact(fun q=>BS.2 q DA)|exact(fun q=>ABd (DA.symm.trans q))|simpa using DA)
  have AB:((Fj,150):AD×Int)=Z:=(by rw[<-AW,Pu,AA9 Ni,AA_ O_]);subst AB;exact Ae<|Db (ps:=[]) (cs:=(A3 FX AI)) ARz ARs G<|BZ 0 (us:=(A3 FX AI)) G G G (At G) G G<|U 1 G<|Ac<|BA<|D8 AI [_,_,_] (Fp 0 G G G G (At G)) ARz G (Ad 0 G Aa)
 have O_:¬(Rb s a.BT=false):=(by first|exact DA|exact BS.1 DA|exact(fun q=>BS.2 q DA)|exact(fun q=>ABd (DA.symm.trans q))|simpa using DA)
 have AB:(({a with Cs:=s},0):AD×Int)=Z:=by rw[<-AW,Pu,AA9 Ni,AA9 O_]
 subst AB;refine AZ<|Ae<|BJ 2 (A3 a Cw) G G (At G) G G<|Dm (Uy _ _ C6 (ABB (S0 (by have q:=Ni;simp only[ACD]at q;exact(Ada q))) ARp)) (Ar G) G (Ad 1 G Aa) G fun gO v20 HQ=>?_;subst HQ;refine JO ?_;refine Cp 0 G fun kt=>?_;refine BZ 2 (us:=(A3 a gO)) G G G (At G) (by simp only[ABn,ABr,ABp,kt];rfl) G<|Ac<|Ae<|BJ 1 (Od s) G G (At G) G G<|U 1 G<|stM 2 (us:=(Od s)) G G G (At G) G (ABy G)<|Ac<|Ae<|BJ 2 (A3 ((⟨a.Al,s,a.BT,a.Cn,a.A0,(⟨a.BG.Ap,a.BG.As,a.BG.DH,a.BG.B2⟩:F_)⟩:AD)) gO) G G (At G) G G<|Cp 0 G fun kt=>?_;exact BZ 0 (us:=(A3 ((⟨a.Al,s,a.BT,a.Cn,a.A0,(⟨a.BG.Ap,a.BG.As,a.BG.DH,a.BG.B2⟩:F_)⟩:AD)) gO)) G G G (At G) (by simp only[ABn,ABr,ABp,kt];rfl) G<|U 1 G<|Ac<|rt<|D8 gO [_,_,_] (Fp 0 G G G G (At G)) ARz G (Ad 0 G Aa)
theorem Aj5(l:F_)(Z:AD×Int)(AW:KA a l=Z)(C6:a.wf)(i_:l.wf):Aw AG 145 [.agg (A3 a Cw).toArray,.agg (Lx l).toArray] [] [⟨Cw,a.A0⟩] (fun(y:Value) u=>u=.tuple #[.agg (A3 Z.1 y).toArray,.int .i64 Z.2]) (fun _ _=>[]) (fun y _=>[⟨y,Z.1.A0⟩]):=by
 refine Aw.proof Tryz.func145 G 31 G G fun X w=>DJ (α:=BD) ?_;refine HP (q:=∀x∈a.A0,x.wf) (fun S w h=>O7 (s:=MN) (h _ (AA' (i:=1) G))) fun F5=>?_;have hw:D3 a:=⟨C6,F5⟩;refine Ae<|CV G G G fun Dh=>CV G G G fun DQ=>CT Hd G fun En=>U 1 G<|Ac<|Am<|Ae<|BJ 2 (A3 a Cw) G G (At G) G G<|B0 (Ps _ _ C6) (Ar G) G (Ad 1 G Aa) G<|IH G G<|Ac<|BN G (fun EO=>?_) (fun EO=>?_)
 ·
  have W6:E4 a=false:=(by first|exact EO|exact BS.1 EO|exact(fun q=>BS.2 q EO)|exact(fun q=>ABd (EO.symm.trans q))|simpa using EO)
  have AB:((Fj,21):AD×Int)=Z:=(by rw[<-AW,KA,AA_ W6]);subst AB;exact Ae<|Db (ps:=[]) (cs:=(A3 FX AI)) ARz ARs G<|BZ 0 (us:=(A3 FX AI)) G G G (At G) G G<|U 1 G<|Ac<|BA<|D8 AI [_,_,_] (Fp 0 G G G G (At G)) ARz G (Ad 0 G Aa)
 have W6:¬(E4 a=false):=(by first|exact EO|exact BS.1 EO|exact(fun q=>BS.2 q EO)|exact(fun q=>ABd (EO.symm.trans q))|simpa using EO)
 refine AZ<|Am<|Ae<|BJ 1 (Lx l) G G (At G) G G<|B0 (qO _ i_) (Ar G) G Aa G<|IH G G<|Ac<|BN G (fun Dp=>?_) (fun Dp=>?_)
 ·
  have HJ:Sk l=false:=(by first|exact Dp|exact BS.1 Dp|exact(fun q=>BS.2 q Dp)|exact(fun q=>ABd (Dp.symm.trans q))|simpa using Dp)
  have AB:((Fj,1):AD×Int)=Z:=(by rw[<-AW,KA,AA9 W6,AA_ HJ]);subst AB;exact Ae<|Db (ps:=[]) (cs:=(A3 FX AI)) ARz ARs G<|BZ 0 (us:=(A3 FX AI)) G G G (At G) G G<|U 1 G<|Ac<|BA<|D8 AI [_,_,_] (Fp 0 G G G G (At G)) ARz G (Ad 0 G Aa)
 have HJ:¬(Sk l=false):=(by first|exact Dp|exact BS.1 Dp|exact(fun q=>BS.2 q Dp)|exact(fun q=>ABd (Dp.symm.trans q))|simpa using Dp)
 refine AZ<|Am<|Ae<|BJ 2 (A3 a Cw) G G (At G) G G<|B0 (qQ _ _ C6) (Ar G) G (Ad 1 G Aa) G<|U 1 G<|Ac<|AF 2 G<|Fa G (fun ER=>?_) (fun ER=>?_)
 ·
  have Nj:¬LJ a=0:=(by first|exact ER|exact BS.1 ER|exact(fun q=>BS.2 q ER)|exact(fun q=>ABd (ER.symm.trans q))|simpa using ER)
  have AB:((Fj,LJ a):AD×Int)=Z:=(by rw[<-AW,KA,AA9 W6,AA9 HJ,AA_ Nj]);subst AB;exact Ae<|Db (ps:=[]) (cs:=(A3 FX AI)) ARz ARs G<|An G G<|BZ 0 (us:=(A3 FX AI)) G G G (At G) G G<|U 1 G<|Ac<|BA<|D8 AI [_,_,_] (Fp 0 G G G G (At G)) ARz G (Ad 0 G Aa)
 have Nj:¬(¬LJ a=0):=(by first|exact ER|exact BS.1 ER|exact(fun q=>BS.2 q ER)|exact(fun q=>ABd (ER.symm.trans q))|simpa using ER)
 refine AZ<|Am<|Ae<|BJ 2 (A3 a Cw) G G (At G) G G<|BJ 1 (Lx l) G G (At G) G G<|B0 (oX _ _ _ C6 i_) (Ar G) G (Ad 1 G Aa) G<|IH G G<|Ac<|BN G (fun F3=>?_) (fun F3=>?_)
 ·
  have MJ:UJ a l=false:=(by first|exact F3|exact BS.1 F3|exact(fun q=>BS.2 q F3)|exact(fun q=>ABd (F3.symm.trans q))|simpa using F3)
  have AB:((Fj,150):AD×Int)=Z:=(by rw[<-AW,KA,AA9 W6,AA9 HJ,AA9 Nj,AA_ MJ]);subst AB;exact Ae<|Db (ps:=[]) (cs:=(A3 FX AI)) ARz ARs G<|BZ 0 (us:=(A3 FX AI)) G G G (At G) G G<|U 1 G<|Ac<|BA<|D8 AI [_,_,_] (Fp 0 G G G G (At G)) ARz G (Ad 0 G Aa)
 have MJ:¬(UJ a l=false):=(by first|exact F3|exact BS.1 F3|exact(fun q=>BS.2 q F3)|exact(fun q=>ABd (F3.symm.trans q))|simpa using F3)
 have AB:(({a with BG:=l},0):AD×Int)=Z:=by rw[<-AW,KA,AA9 W6,AA9 HJ,AA9 Nj,AA9 MJ]
 subst AB;refine AZ<|Ae<|BJ 2 (A3 a Cw) G G (At G) G G<|Dm (Uy _ _ C6 (ABB (S0 (by simpa using W6)) ARp)) (Ar G) G (Ad 1 G Aa) G fun Pm N4 G4=>?_;subst G4;refine JO ?_;refine Cp 0 G fun ku=>?_;refine BZ 2 (us:=(A3 a Pm)) G G G (At G) (by simp only[ABn,ABr,ABp,ku];rfl) G<|Ac<|Ae<|BJ 1 (Lx l) G G (At G) G G<|U 1 G<|stM 2 (us:=(Lx l)) G G G (At G) G (ABy G)<|Ac<|Ae<|BJ 2 (A3 ((⟨a.Al,(⟨a.Cs.A6,a.Cs.Bc⟩:GC),a.BT,a.Cn,a.A0,l⟩:AD)) Pm) G G (At G) G G<|Cp 0 G fun ku=>?_;exact BZ 0 (us:=(A3 ((⟨a.Al,(⟨a.Cs.A6,a.Cs.Bc⟩:GC),a.BT,a.Cn,a.A0,l⟩:AD)) Pm)) G G G (At G) (by simp only[ABn,ABr,ABp,ku];rfl) G<|U 1 G<|Ac<|rt<|D8 Pm [_,_,_] (Fp 0 G G G G (At G)) ARz G (Ad 0 G Aa)
theorem eo(c:Bool)(Z:AD×Int)(AW:D1 a c=Z)(C6:a.wf):Aw AG 128 [.agg (A3 a Cw).toArray,.bool c] [] [⟨Cw,a.A0⟩] (fun(y:Value) u=>u=.tuple #[.agg (A3 Z.1 y).toArray,.int .i64 Z.2]) (fun _ _=>[]) (fun y _=>[⟨y,Z.1.A0⟩]):=by
 refine Aw.proof Tryz.func128 G 27 G G fun X w=>DJ (α:=BD) ?_;refine HP (q:=∀x∈a.A0,x.wf) (fun S w h=>O7 (s:=MN) (h _ (AA' (i:=1) G))) fun F5=>?_;have hw:D3 a:=⟨C6,F5⟩;refine Ae<|CV G G G fun Dh=>CT Hd G fun En=>U 1 G<|Ac<|Am<|Ae<|BJ 1 (A3 a Cw) G G (At G) G G<|B0 (Ps _ _ C6) (Ar G) G (Ad 1 G Aa) G<|IH G G<|Ac<|BN G (fun D2=>?_) (fun D2=>?_)
 ·
  have HZ:E4 a=false:=(by first|exact D2|exact BS.1 D2|exact(fun q=>BS.2 q D2)|exact(fun q=>ABd (D2.symm.trans q))|simpa using D2)
  have AB:((Fj,21):AD×Int)=Z:=(by rw[<-AW,D1,AA_ HZ]);subst AB;exact Ae<|Db (ps:=[]) (cs:=(A3 FX AI)) ARz ARs G<|BZ 0 (us:=(A3 FX AI)) G G G (At G) G G<|U 1 G<|Ac<|BA<|D8 AI [_,_] (Fp 0 G G G G (At G)) ARz G (Ad 0 G Aa)
 have HZ:¬(E4 a=false):=(by first|exact D2|exact BS.1 D2|exact(fun q=>BS.2 q D2)|exact(fun q=>ABd (D2.symm.trans q))|simpa using D2)
 refine AZ<|Am<|Ae<|BJ 1 (A3 a Cw) G G (At G) G G<|B0 (YP _ _ C6) (Ar G) G (Ad 1 G Aa) G<|IH G G<|Ac<|BN G (fun EM=>?_) (fun EM=>?_)
 ·
  have fH:G_ a=false:=(by first|exact EM|exact BS.1 EM|exact(fun q=>BS.2 q EM)|exact(fun q=>ABd (EM.symm.trans q))|simpa using EM)
  have AB:((Fj,60):AD×Int)=Z:=(by rw[<-AW,D1,AA9 HZ,AA_ fH]);subst AB;exact Ae<|Db (ps:=[]) (cs:=(A3 FX AI)) ARz ARs G<|BZ 0 (us:=(A3 FX AI)) G G G (At G) G G<|U 1 G<|Ac<|BA<|D8 AI [_,_] (Fp 0 G G G G (At G)) ARz G (Ad 0 G Aa)
 have fH:¬(G_ a=false):=(by first|exact EM|exact BS.1 EM|exact(fun q=>BS.2 q EM)|exact(fun q=>ABd (EM.symm.trans q))|simpa using EM)
 refine AZ<|Ae<|BJ 1 (A3 a Cw) G G (At G) G G<|Dm (Uy _ _ C6 (ABB (S0 (by simpa using HZ)) ARp)) (Ar G) G (Ad 1 G Aa) G fun P0 Xk Ft=>?_;subst Ft;refine JO ?_;refine Cp 0 G fun bN=>?_;refine BZ 1 (us:=(A3 a P0)) G G G (At G) (by simp only[ABn,ABr,ABp,bN];rfl) G<|Ac<|Am<|Ae<|An G G<|Ac<|BN G (fun CR=>?_) (fun CR=>?_)
 ·
  have Ii:c=true:=CR;have AB:(({a with BT:=a.BT+a.BG.B2,BG:=XG},0):AD×Int)=Z:=(by rw[<-AW,D1,AA9 HZ,AA9 fH,AA_ Ii]);subst AB;have Kp:A' (a.BT+a.BG.B2):=by
   have q:=(UK hw (by rw[AW])).2.2.2.2.wf.2.2.1;rw[AW]at q;exact q
  refine rg<|AX 5 [1,1] G G<|C5 G G Kp G<|U 1 G<|Fi 1 G G G (A2 G) G (Da G)<|Ac<|Ae<|Db (ps:=[]) (cs:=(Lx PF)) ARz ARs G<|U 1 G<|stM 1 (us:=(Lx PF)) G G G (At G) G (ABy G)<|Ac<|Ae<|BJ 1 (A3 ((⟨a.Al,(⟨a.Cs.A6,a.Cs.Bc⟩:GC),(a.BT+a.BG.B2),a.Cn,a.A0,PF⟩:AD)) P0) G G (At G) G G<|Cp 0 G fun bN=>?_;exact BZ 0 (us:=(A3 ((⟨a.Al,(⟨a.Cs.A6,a.Cs.Bc⟩:GC),(a.BT+a.BG.B2),a.Cn,a.A0,PF⟩:AD)) P0)) G G G (At G) (by simp only[ABn,ABr,ABp,bN];rfl) G<|U 1 G<|Ac<|rt<|D8 P0 [_,_] (Fp 0 G G G G (At G)) ARz G (Ad 0 G Aa)
 have Ii:¬c=true:=by rw[CR];decide
 have AB:(({a with BG:=XG},0):AD×Int)=Z:=by rw[<-AW,D1,AA9 HZ,AA9 fH,AA9 Ii]
 subst AB;refine AZ<|Ae<|Db (ps:=[]) (cs:=(Lx PF)) ARz ARs G<|U 1 G<|stM 1 (us:=(Lx PF)) G G G (At G) G (ABy G)<|Ac<|Ae<|BJ 1 (A3 ((⟨a.Al,(⟨a.Cs.A6,a.Cs.Bc⟩:GC),a.BT,a.Cn,a.A0,PF⟩:AD)) P0) G G (At G) G G<|Cp 0 G fun bN=>?_;exact BZ 0 (us:=(A3 ((⟨a.Al,(⟨a.Cs.A6,a.Cs.Bc⟩:GC),a.BT,a.Cn,a.A0,PF⟩:AD)) P0)) G G G (At G) (by simp only[ABn,ABr,ABp,bN];rfl) G<|U 1 G<|Ac<|rt<|D8 P0 [_,_] (Fp 0 G G G G (At G)) ARz G (Ad 0 G Aa)
end Go.Apw
namespace Go.A_
open Go.RowKit
section
@[reducible] def rK:C4 where
 nd:=[]
 holds _ _:=True
 valid:=by intro S w _ b Aq;cases Aq
 DY:=by intros;trivial
section
variable{c:Cj} {ops:Array Oper} {Q:AuE} {env:Env} {L:Own} {D:List Atom} {rest:List Oper} {d:Nat} {v:Value} {t:TypeId} {p:String} {af:Array Edge}
theorem AeB{l:List Oper}(k:Cb Q c ops l env (rK::L) D):Cb Q c ops l env L D:=fun a w f st AR=>
 k a w f (st.push (C8.refl _ _) trivial (by simp) (by simp)) (AR.push (C8.refl _ _) (by simp))
theorem hE(GJ:List Atom){f:FuncId}{vs us:List Value}{DB:List Atom}{v:Value}{first cap:Array Value}{x:Operand}(h:Cv c.P f us DB v)(CM:GU c.P f){xs:List Operand}{ats:Array TypeId}
 (Ab:AL env x=some (.func (.func f) first cap))(Hm:Gq env xs=some vs)(I1:first.toList++vs++cap.toList=us)(Ew:DU L GJ)(Cl:Bg DB (GJ++D))(Ao:Nat.blt d c.n=true)(k:Cb Q c ops rest ((d,v)::env) L D):
 Cb Q c ops (⟨some d,.call {callee:=.value x,args:=xs.toArray,argTypes:=ats},t,p,af,none⟩::rest) env L D:=by
 refine S4 (us:=us) (first:=first) (cap:=cap) (β:=Unit) (R:=fun _ u=>u=v) (out:=fun _ _=>D) Ab Hm I1 CM (fun _ _=>L) (fun w st AR=>?_) (fun _ u=>(d,u)::env) (fun _ u a Gw=>Gw.put u (EU Ao)) (fun _ u hu=>by subst hu;exact k)
 refine(h [] w (by simp[Own.nd,Dt]) (by simp) (by simp) (fun t Av=>?_)).mono fun u AT ⟨hs,y,Fy,_⟩=>⟨(),Fy,?_,?_⟩
 · have:=ff Ew Cl st.own st.lt AR t Av;simpa[Own.nd,Dt]using this
 · exact st.step (by simpa[Own.nd,Dt]using hs)
 exact AR.step (C8.nil (by simpa[Own.nd,Dt]using hs))
end
section
variable{α:Type} [Inhabited α] {p:α->Bool} {xs ys:List α} {i j:Nat}
theorem gl(h:j<xs.length):xs.take (j+1)=xs.take j++[xs.getD j default]:=by
 rw[List.take_add_one];simp[List.getD,ABs h]
theorem om(h:j<xs.length)(AH:p (xs.getD j default)=true):(xs.take (j+1)).filter (fun x=> !p x)=(xs.take j).filter (fun x=> !p x):=by
 rw[gl h,List.filter_append,List.filter_cons_of_neg (by rw[AH];decide),List.filter_nil,AB7]
theorem yB(h:j<xs.length)(AH:p (xs.getD j default)=false):(xs.take (j+1)).filter (fun x=> !p x)=(xs.take j).filter (fun x=> !p x)++[xs.getD j default]:=by
 rw[gl h,List.filter_append,List.filter_cons_of_pos (by rw[AH];decide),List.filter_nil]
theorem oj(AJ:ys.drop j=xs.drop j):ys.getD j default=xs.getD j default:=by
 have h:=ABE (fun l=>l.head?) AJ;simp only[List.head?_drop]at h;rw[ACn,ACn,h]
theorem dU(h:∀k,k<xs.length->p (xs.getD k default)=false):xs.filter (fun x=> !p x)=xs:=
 List.filter_eq_self.2 fun x Ab=>by
  obtain⟨k,AE,rfl⟩:=List.getElem_of_mem Ab;have:=h k AE;rw[ACn,ABs AE]at this;simpa using this
structure Nt (p:α->Bool) (xs:List α) (s:Nat×Nat×List α):Prop where
 lt:s.1<s.2.1
 le:s.2.1<=xs.length
 len:s.2.2.length=xs.length
 gw:s.2.2.take s.1=(xs.take s.2.1).filter (fun x=> !p x)
 ou:s.2.2.drop s.2.1=xs.drop s.2.1
theorem Nt.start(Ag:i<xs.length)(h:∀k,k<i->p (xs.getD k default)=false)(AH:p (xs.getD i default)=true):Nt p xs (i,i+1,xs):=
 ⟨Nat.lt_succ_self _,Ag,rfl,by
  show xs.take i=_;rw[om Ag AH];refine(dU fun k AE=>?_).symm;rw[ABz]at AE;rw[ACn,ACl,AA_ AMT,<-ACn];exact h k AMT,rfl⟩
theorem Nt.yes(h:Nt p xs (i,j,ys))(Ay:j<xs.length)(AH:p (ys.getD j default)=true):Nt p xs (i,j+1,ys):=
 ⟨Nat.lt_succ_of_lt h.lt,Ay,h.len,by
  rw[oj h.ou]at AH;exact h.gw.trans (om Ay AH).symm,by
  show ys.drop (j+1)=xs.drop (j+1);rw[<-ADy,<-ADy];exact ABE (List.drop 1) h.ou⟩
theorem Nt.no(h:Nt p xs (i,j,ys))(Ay:j<xs.length)(AH:p (ys.getD j default)=false):Nt p xs (i+1,j+1,ys.set i (ys.getD j default)):=by
 obtain⟨Af,h2,Bo,BB,C'⟩:=h;simp only at Af h2 Bo BB C';have e:=oj C';refine⟨Nat.succ_lt_succ Af,Ay,by simpa using Bo,?_,?_⟩
 · show(ys.set i (ys.getD j default)).take (i+1)=_;rw[yB Ay (by rw[<-e];exact AH),<-BB,<-e];refine List.ext_getElem? fun k=>?_;by_cases AE:k<i
   · rw[ACl,AA_ AMT,ACT AMT,List.getElem?_append_left (by rw[ABz];omega),ACl,AA_ AE]
   by_cases a3:k=i
   · subst a3;rw[ACl,AA_ AMT,ACP AMT,ADE (by rw[ABz];omega),ABz,ADH AMT,ADI];rfl
   rw[ACd (by rw[ABz];omega),ACd (by rw[ABP,ABz];simp;omega)]
 show(ys.set i (ys.getD j default)).drop (j+1)=xs.drop (j+1);rw[List.drop_set_of_lt AMT,<-ADy,<-ADy];exact ABE (List.drop 1) C'
omit [Inhabited α]in
theorem Nt.fin(h:Nt p xs (i,j,ys))(Ay:¬j<xs.length):ys.take i=xs.filter (fun x=> !p x):=by
 have e:j=xs.length:=by have:=h.le;simp only at this;omega
 subst e;have:=h.gw;simp only[ACB]at this;exact this
end
end
end Go.A_
namespace Go.Apw
theorem AcH(CP:Value)(l:List BD)(f:Nat)(D0:Array Value)(A:List Atom)(p:BD->Bool)(CM:GU AG f)(E5:∀(x:BD),x.wf->Cv AG f (.agg (JH x).toArray::D0.toList) (A) (.bool (p x))):Cv AG 221 [CP,.func (.func f) #[] D0] (⟨CP,l⟩::A) (.int .i64 (HI (Gd l.length (fun j=>p (l.getD j default))))):=by
 refine Aw.proof Tryz.func221 G 19 G G fun X w=>AF 1 G<|Am<|Ae<|An G G<|C2 0 G G ADN G fun MD=>An G G<|Ac<|B5<|Ji (σ:=Nat) [(0,_),(1,_),(7,_)] _ (fun i C=>(8,.int .i64 (i:Int))::C) (fun i=>i<=l.length/\(∀j,j<i->p (l.getD j default)=false)) (fun i=>l.length-i) 0 (Bs G) (Ad 0 G (Bg.tail Br)) ⟨ABg _,fun j Ay=>absurd Ay (AB2 j)⟩ (Bs G) ?_;rintro i ⟨Ag,C0⟩;refine AF 1 G<|Am<|B9 G (fun EO=>?_) (fun EO=>?_)
 ·
  refine AZ<|Am<|B5<|AF 2 G<|Ae<|U 2 G<|An G G<|Fo 0 G G G I6 G fun PS=>Gi 0 G G (At G) G fun KR N6=>QV (E5 _ N6) CM G G G (Bg.tail (Bg.tail (Bg.tail Br))) G fun Ui Mn V4=>?_;obtain rfl:Mn=.bool (p (l.getD i default)):=V4;refine Ac<|BN G (fun CR=>?_) (fun CR=>?_)
  · exact AF 2 G<|rt<|C9<|Cd<|Cd<|C9<|Cd<|Bq () G G (by rw[Tc (j:=i) AMT C0 CR];try rfl) G Aa
  refine EG<|CU<|A5<|rg<|C5 G G BV G<|An G G<|nl ?_;exact Dy (i+1) ⟨AMT,(Ki C0 (CR))⟩ AMT (Bs G) G (Ad 2 G (Bg.tail (Bg.tail (Bg.tail Br))))
 exact ex<|Ck<|Ck<|D7<|A5<|AF 1 G<|rt<|Bq () G G (by rw[Tb (fun k AE=>C0 k AMT)];try rfl) G Aa
theorem qo(CP:Value)(l:List AD)(f:Nat)(D0:Array Value)(A:List Atom)(p:AD->Bool)(CM:GU AG f)(E5:∀(x:AD) (KW:Value),x.wf->Cv AG f (.agg (A3 x KW).toArray::D0.toList) (⟨KW,x.A0⟩::A) (.bool (p x))):Cv AG 163 [CP,.func (.func f) #[] D0] (⟨CP,l⟩::A) (.int .i64 (HI (Gd l.length (fun j=>p (l.getD j default))))):=by
 refine Aw.proof Tryz.func163 G 19 G G fun X w=>AF 1 G<|Am<|Ae<|An G G<|C2 0 G G ARL G fun MD=>An G G<|Ac<|B5<|Ji (σ:=Nat) [(0,_),(1,_),(7,_)] _ (fun i C=>(8,.int .i64 (i:Int))::C) (fun i=>i<=l.length/\(∀j,j<i->p (l.getD j default)=false)) (fun i=>l.length-i) 0 (Bs G) (Ad 0 G (Bg.tail Br)) ⟨ABg _,fun j Ay=>absurd Ay (AB2 j)⟩ (Bs G) ?_;rintro i ⟨Ag,C0⟩;refine AF 1 G<|Am<|B9 G (fun EO=>?_) (fun EO=>?_)
 ·
  refine AZ<|Am<|B5<|AF 2 G<|Ae<|U 2 G<|An G G<|Fo 0 G G G Gt G fun PS=>Gi 0 G G (At G) G fun KR N6=>QV (E5 _ _ N6) CM G G G (Ad 1 G (Bg.tail (Bg.tail (Bg.tail (Bg.tail Br))))) G fun Ui Mn V4=>?_;obtain rfl:Mn=.bool (p (l.getD i default)):=V4;refine Ac<|BN G (fun CR=>?_) (fun CR=>?_)
  · exact AF 2 G<|rt<|C9<|Cd<|Cd<|C9<|Cd<|Bq () G G (by rw[Tc (j:=i) AMT C0 CR];try rfl) G Aa
  refine EG<|CU<|A5<|rg<|C5 G G BV G<|An G G<|nl ?_;exact Dy (i+1) ⟨AMT,(Ki C0 (CR))⟩ AMT (Bs G) G (Ad 3 G (Bg.tail (Bg.tail (Bg.tail (Bg.tail Br)))))
 exact ex<|Ck<|Ck<|D7<|A5<|AF 1 G<|rt<|Bq () G G (by rw[Tb (fun k AE=>C0 k AMT)];try rfl) G Aa
theorem kR{α:Type}[Inhabited α]{xs:List α}{p:α->Bool}(h:HI (Gd xs.length (fun j=>p (xs.getD j default)))= -1):∀k,k<xs.length->p (xs.getD k default)=false:=fun k AE=>by
 cases e:Gd xs.length (fun j=>p (xs.getD j default))with
 |none=>
  have:=AEe.1 e k AE;simpa using this
 |some j=>
  rw[e]at h;simp only[HI]at h;omega
theorem kS{α:Type}[Inhabited α]{xs:List α}{p:α->Bool}(h:¬HI (Gd xs.length (fun j=>p (xs.getD j default)))= -1):∃i,i<xs.length/\(∀k,k<i->p (xs.getD k default)=false)/\p (xs.getD i default)=true/\HI (Gd xs.length (fun j=>p (xs.getD j default)))=(i:Int):=by
 cases e:Gd xs.length (fun j=>p (xs.getD j default))with
 |none=>rw[e]at h;exact absurd rfl h
 |some i=>
  obtain⟨Af,h2,Bo⟩:=ADz.1 e;exact⟨i,ABw.1 h2,fun k AE=>by simpa using Bo k AE,Af,G⟩
theorem yy(v:Value)(xs:List BD)(f:Nat)(D0:Array Value)(A GJ:List Atom)(q:C4)(p:BD->Bool)(AN:∀(L:Go.A_.Own) (i:Nat),L[i]? =some q->DU L GJ)(CM:GU AG f)(E5:∀(x:BD),x.wf->Cv AG f (.agg (JH x).toArray::D0.toList) ((GJ++A)) (.bool (p x))):Aw AG 186 [v,.func (.func f) #[] D0] [@row BD Mj 123 v xs,q] A (fun(_:Unit) _=>True) (fun _ u=>[@row BD Mj 123 u (xs.filter (fun x=> !p x)),q]) (fun _ _=>[]):=by
 refine Aw.proof Tryz.func186 G 42 G G fun X w=>AF 1 G<|Ae<|U 2 G<|P6 (⟨v,xs⟩::GJ) (AcH v xs f D0 (GJ++A) p CM E5) (Ar G) G (DU.row 0 G (AN _ 1 G)) Br G<|U 1 G<|Ac<|Am<|AF 2 G<|B9 G (fun EM=>?_) (fun EM=>?_)
 ·
  have Ao:∀k,k<xs.length->p (xs.getD k default)=false:=fun k AE=>kR EM k AE;have Ab:xs.filter (fun x=> !p x)=xs:=dU Ao;exact AF 2 G<|BA<|Bq () G G trivial (by rw[Ab]) Aa
 obtain⟨i0,OW,Tp,Jf,aZ⟩:=kS EM;rw[aZ];refine Sw 0 G (show 0<xs.length by omega) fun HO cap BC Kn ID=>?_;subst BC;have UZ:cap<=9223372036854775807:=ID;refine AZ<|Am<|Ae<|An G G<|Hf (r:=((i0+1:Nat):Int)) G G AMT (BV AMT (by simp only[maxLen]at ID;omega)) G<|U 1 G<|Ac<|B5<|Hx (σ:=Nat×Nat×List BD) [(0,_),(1,_)] _ (fun s C=>(5,.int .i64 (s.1:Int))::(6,.int .i64 (s.2.1:Int))::C) (fun s=>[@row BD Mj 123 (.slice (some ⟨HO,0,none⟩) xs.length cap) s.2.2,q,CL X w]) (fun _ Dw=>Dw) (fun s=>Nt p xs s) (fun s=>xs.length-s.2.1) (i0,i0+1,xs) (Bs G) Br (Nt.start OW Tp Jf) (Bs G) G Br ?_;rintro⟨i,j,ys⟩ DK;have Wi:=DK.lt;have aK:=DK.le;have aL:=DK.len;simp only at Wi aK aL;show CF _ _ _ [(5,.int .i64 ((i:Int))),(6,.int .i64 ((j:Int))),(0,_),(1,_)] [@row BD Mj 123 (.slice (some ⟨HO,0,none⟩) xs.length cap) ys,q,CL X w] _;refine Am<|Ae<|U 2 G<|JX 0 G G ADN G fun qU=>U 1 G<|Ac<|B9 G (fun Fe=>?_) (fun Fe=>?_)
 ·
  refine AZ<|Am<|B5<|Ae<|U 2 G<|IF 0 (j) G G G I6 AMT AMT G<|Qk (s:=MN) 0 (j) G G JP (At G) G fun PL Vs=>CT Um G fun Jo=>BZ 0 (us:=(JH ((ys.getD (j) default)))) G G G (At G) G G<|Ac<|Ae<|An G G<|BJ 0 (JH ((ys.getD (j) default))) G G (At G) G G ?_;refine hE GJ (E5 _ Vs) CM G G G (AN _ 2 G) (fun t Av=>by
   rcases ABm.1 Av with Av|Av
   · exact AC9 _ Av
   exact ACV _ ((Bg.tail Br) t Av)) G ?_
  refine IH G G<|Ac<|BN G (fun G5=>?_) (fun G5=>?_)
  ·
   refine Ae<|U 2 G<|BJ 0 (JH ((ys.getD (j) default))) G G (At G) G G<|IF 1 (i) G G G I6 AMT AMT G<|Qz (s:=MN) 1 (i) (ov:=(ys.getD (j) default)) () G G G AMT (At G) Aa Vs<|Ac<|rg<|An G G<|Hf (r:=((i+1:Nat):Int)) G G AMT (BV AMT (by simp only[maxLen]at ID;omega)) G<|U 1 G<|nl<|CU<|A5<|rg<|An G G<|Hf (r:=((j+1:Nat):Int)) G G AMT (BV AMT (by simp only[maxLen]at ID;omega)) G<|U 1 G<|nl<|AQ ?_;exact Dy ((i+1,j+1,ys.set i (ys.getD j default)):Nat×Nat×List BD) (DK.no AMT (by simpa using G5)) (by show xs.length-(j+1)<xs.length-j;omega) (Bs G) G (Bg.tail Br)
  refine EG<|CU<|A5<|rg<|An G G<|Hf (r:=((j+1:Nat):Int)) G G AMT (BV AMT (by simp only[maxLen]at ID;omega)) G<|U 1 G<|nl<|AQ ?_;exact Dy ((i,j+1,ys):Nat×Nat×List BD) (DK.yes AMT (by simpa using G5)) (by show xs.length-(j+1)<xs.length-j;omega) (Bs G) G (Bg.tail Br)
 have G7:=DK.fin AMT;refine ex<|Ck<|Ck<|D7<|A5<|Ae<|U 2 G<|H2 G I6 G AMT Kn G<|hK 0 i G AMT ?_;rw[G7];have FF:=ABE List.length G7;rw[ABz]at FF;exact Z' 0 G G S1 Um G AMT AMT Kn (fun a f=>f.Su _)<|Ac<|Ae<|U 2 G<|PO G I6 G AMT G<|U 1 G<|Ac<|rt<|Bq () G G trivial G Aa
theorem yz(v:Value)(xs:List BX)(f:Nat)(D0:Array Value)(A GJ:List Atom)(q:C4)(p:BX->Bool)(AN:∀(L:Go.A_.Own) (i:Nat),L[i]? =some q->DU L GJ)(CM:GU AG f)(E5:∀(x:BX),x.wf->Cv AG f (.agg (Hh x).toArray::D0.toList) ((GJ++A)) (.bool (p x))):Aw AG 194 [v,.func (.func f) #[] D0] [@row BX Ha 108 v xs,q] A (fun(_:Unit) _=>True) (fun _ u=>[@row BX Ha 108 u (xs.filter (fun x=> !p x)),q]) (fun _ _=>[]):=by
 refine Aw.proof Tryz.func194 G 42 G G fun X w=>AF 1 G<|Ae<|U 2 G<|P6 (⟨v,xs⟩::GJ) (jR v xs f D0 (GJ++A) p CM E5) (Ar G) G (DU.row 0 G (AN _ 1 G)) Br G<|U 1 G<|Ac<|Am<|AF 2 G<|B9 G (fun EM=>?_) (fun EM=>?_)
 ·
  have Ao:∀k,k<xs.length->p (xs.getD k default)=false:=fun k AE=>kR EM k AE;have Ab:xs.filter (fun x=> !p x)=xs:=dU Ao;exact AF 2 G<|BA<|Bq () G G trivial (by rw[Ab]) Aa
 obtain⟨i0,OW,Tp,Jf,aZ⟩:=kS EM;rw[aZ];refine Sw 0 G (show 0<xs.length by omega) fun HO cap BC Kn ID=>?_;subst BC;have UZ:cap<=9223372036854775807:=ID;refine AZ<|Am<|Ae<|An G G<|Hf (r:=((i0+1:Nat):Int)) G G AMT (BV AMT (by simp only[maxLen]at ID;omega)) G<|U 1 G<|Ac<|B5<|Hx (σ:=Nat×Nat×List BX) [(0,_),(1,_)] _ (fun s C=>(5,.int .i64 (s.1:Int))::(6,.int .i64 (s.2.1:Int))::C) (fun s=>[@row BX Ha 108 (.slice (some ⟨HO,0,none⟩) xs.length cap) s.2.2,q,CL X w]) (fun _ Dw=>Dw) (fun s=>Nt p xs s) (fun s=>xs.length-s.2.1) (i0,i0+1,xs) (Bs G) Br (Nt.start OW Tp Jf) (Bs G) G Br ?_;rintro⟨i,j,ys⟩ DK;have Wi:=DK.lt;have aK:=DK.le;have aL:=DK.len;simp only at Wi aK aL;show CF _ _ _ [(5,.int .i64 ((i:Int))),(6,.int .i64 ((j:Int))),(0,_),(1,_)] [@row BX Ha 108 (.slice (some ⟨HO,0,none⟩) xs.length cap) ys,q,CL X w] _;refine Am<|Ae<|U 2 G<|JX 0 G G Tryz.underlying38 G fun qU=>U 1 G<|Ac<|B9 G (fun Fe=>?_) (fun Fe=>?_)
 ·
  refine AZ<|Am<|B5<|Ae<|U 2 G<|IF 0 (j) G G G N0 AMT AMT G<|Qk (s:=Zf) 0 (j) G G JP (At G) G fun PL Vs=>CT SM G fun Jo=>BZ 0 (us:=(Hh ((ys.getD (j) default)))) G G G (At G) G G<|Ac<|Ae<|An G G<|BJ 0 (Hh ((ys.getD (j) default))) G G (At G) G G ?_;refine hE GJ (E5 _ Vs) CM G G G (AN _ 2 G) (fun t Av=>by
   rcases ABm.1 Av with Av|Av
   · exact AC9 _ Av
   exact ACV _ ((Bg.tail Br) t Av)) G ?_
  refine IH G G<|Ac<|BN G (fun G5=>?_) (fun G5=>?_)
  ·
   refine Ae<|U 2 G<|BJ 0 (Hh ((ys.getD (j) default))) G G (At G) G G<|IF 1 (i) G G G N0 AMT AMT G<|Qz (s:=Zf) 1 (i) (ov:=(ys.getD (j) default)) () G G G AMT (At G) Aa Vs<|Ac<|rg<|An G G<|Hf (r:=((i+1:Nat):Int)) G G AMT (BV AMT (by simp only[maxLen]at ID;omega)) G<|U 1 G<|nl<|CU<|A5<|rg<|An G G<|Hf (r:=((j+1:Nat):Int)) G G AMT (BV AMT (by simp only[maxLen]at ID;omega)) G<|U 1 G<|nl<|AQ ?_;exact Dy ((i+1,j+1,ys.set i (ys.getD j default)):Nat×Nat×List BX) (DK.no AMT (by simpa using G5)) (by show xs.length-(j+1)<xs.length-j;omega) (Bs G) G (Bg.tail Br)
  refine EG<|CU<|A5<|rg<|An G G<|Hf (r:=((j+1:Nat):Int)) G G AMT (BV AMT (by simp only[maxLen]at ID;omega)) G<|U 1 G<|nl<|AQ ?_;exact Dy ((i,j+1,ys):Nat×Nat×List BX) (DK.yes AMT (by simpa using G5)) (by show xs.length-(j+1)<xs.length-j;omega) (Bs G) G (Bg.tail Br)
 have G7:=DK.fin AMT;refine ex<|Ck<|Ck<|D7<|A5<|Ae<|U 2 G<|H2 G N0 G AMT Kn G<|hK 0 i G AMT ?_;rw[G7];have FF:=ABE List.length G7;rw[ABz]at FF;exact Z' 0 G G Mt SM G AMT AMT Kn (fun a f=>f.Su _)<|Ac<|Ae<|U 2 G<|PO G N0 G AMT G<|U 1 G<|Ac<|rt<|Bq () G G trivial G Aa
theorem oh(v:Value)(xs:List AD)(f:Nat)(D0:Array Value)(A GJ:List Atom)(q:C4)(p:AD->Bool)(AN:∀(L:Go.A_.Own) (i:Nat),L[i]? =some q->DU L GJ)(CM:GU AG f)(E5:∀(x:AD) (KW:Value),x.wf->Cv AG f (.agg (A3 x KW).toArray::D0.toList) (⟨KW,x.A0⟩::(GJ++A)) (.bool (p x))):Aw AG 88 [v,.func (.func f) #[] D0] [@row AD GR 58 v xs,q] A (fun(_:Unit) _=>True) (fun _ u=>[@row AD GR 58 u (xs.filter (fun x=> !p x)),q]) (fun _ _=>[]):=by
 refine Aw.proof Tryz.func88 G 42 G G fun X w=>AF 1 G<|Ae<|U 2 G<|P6 (⟨v,xs⟩::GJ) (qo v xs f D0 (GJ++A) p CM E5) (Ar G) G (DU.row 0 G (AN _ 1 G)) Br G<|U 1 G<|Ac<|Am<|AF 2 G<|B9 G (fun EM=>?_) (fun EM=>?_)
 ·
  have Ao:∀k,k<xs.length->p (xs.getD k default)=false:=fun k AE=>kR EM k AE;have Ab:xs.filter (fun x=> !p x)=xs:=dU Ao;exact AF 2 G<|BA<|Bq () G G trivial (by rw[Ab]) Aa
 obtain⟨i0,OW,Tp,Jf,aZ⟩:=kS EM;rw[aZ];refine Sw 0 G (show 0<xs.length by omega) fun HO cap BC Kn ID=>?_;subst BC;have UZ:cap<=9223372036854775807:=ID;refine AZ<|Am<|Ae<|An G G<|Hf (r:=((i0+1:Nat):Int)) G G AMT (BV AMT (by simp only[maxLen]at ID;omega)) G<|U 1 G<|Ac<|B5<|Hx (σ:=Nat×Nat×List AD) [(0,_),(1,_)] _ (fun s C=>(5,.int .i64 (s.1:Int))::(6,.int .i64 (s.2.1:Int))::C) (fun s=>[@row AD GR 58 (.slice (some ⟨HO,0,none⟩) xs.length cap) s.2.2,q,CL X w]) (fun _ Dw=>Dw) (fun s=>Nt p xs s) (fun s=>xs.length-s.2.1) (i0,i0+1,xs) (Bs G) Br (Nt.start OW Tp Jf) (Bs G) G Br ?_;rintro⟨i,j,ys⟩ DK;have Wi:=DK.lt;have aK:=DK.le;have aL:=DK.len;simp only at Wi aK aL;show CF _ _ _ [(5,.int .i64 ((i:Int))),(6,.int .i64 ((j:Int))),(0,_),(1,_)] [@row AD GR 58 (.slice (some ⟨HO,0,none⟩) xs.length cap) ys,q,CL X w] _;refine Am<|Ae<|U 2 G<|JX 0 G G ARL G fun qU=>U 1 G<|Ac<|B9 G (fun Fe=>?_) (fun Fe=>?_)
 ·
  refine AZ<|Am<|B5<|Ae<|U 2 G<|IF 0 (j) G G G Gt AMT AMT G<|Qk (s:=Nn) 0 (j) G G JP (At G) G fun PL Vs=>CT Hd G fun Jo=>Cp 1 G fun AeZ=>?_;refine BZ 0 (us:=(A3 ((ys.getD (j) default)) PL)) G G G (At G) (by simp only[ABn,ABr,ABp,AeZ];rfl) G<|Ac<|Ae<|An G G<|BJ 0 (A3 ((ys.getD (j) default)) PL) G G (At G) G G ?_;refine hE GJ (E5 _ _ Vs) CM G G G (AN _ 2 G) (fun t Av=>by
   rcases ABf.1 Av with rfl|Av
   · exact ACV _ (AA' (i:=1) G)
   rcases ABm.1 Av with Av|Av
   · exact AC9 _ Av
   exact ACV _ ((Bg.tail (Bg.tail Br)) t Av)) G ?_
  refine IH G G<|Ac<|BN G (fun G5=>?_) (fun G5=>?_)
  ·
   refine Ae<|U 2 G<|BJ 0 (A3 ((ys.getD (j) default)) PL) G G (At G) G G<|IF 1 (i) G G G Gt AMT AMT G<|Qz (s:=Nn) 1 (i) (ov:=(ys.getD (j) default)) PL G G G AMT (At G) (Ad 1 G Aa) Vs<|Ac<|rg<|An G G<|Hf (r:=((i+1:Nat):Int)) G G AMT (BV AMT (by simp only[maxLen]at ID;omega)) G<|U 1 G<|nl<|CU<|A5<|rg<|An G G<|Hf (r:=((j+1:Nat):Int)) G G AMT (BV AMT (by simp only[maxLen]at ID;omega)) G<|U 1 G<|nl<|AQ ?_;exact Dy ((i+1,j+1,ys.set i (ys.getD j default)):Nat×Nat×List AD) (DK.no AMT (by simpa using G5)) (by show xs.length-(j+1)<xs.length-j;omega) (Bs G) G (Bg.tail (Bg.tail Br))
  refine EG<|CU<|A5<|rg<|An G G<|Hf (r:=((j+1:Nat):Int)) G G AMT (BV AMT (by simp only[maxLen]at ID;omega)) G<|U 1 G<|nl<|AQ ?_;exact Dy ((i,j+1,ys):Nat×Nat×List AD) (DK.yes AMT (by simpa using G5)) (by show xs.length-(j+1)<xs.length-j;omega) (Bs G) G (Bg.tail (Bg.tail Br))
 have G7:=DK.fin AMT;refine ex<|Ck<|Ck<|D7<|A5<|Ae<|U 2 G<|H2 G Gt G AMT Kn G<|hK 0 i G AMT ?_;rw[G7];have FF:=ABE List.length G7;rw[ABz]at FF;exact Z' 0 G G OI Hd G AMT AMT Kn (fun a f=>f.Su _)<|Ac<|Ae<|U 2 G<|PO G Gt G AMT G<|U 1 G<|Ac<|rt<|Bq () G G trivial G Aa
variable(a t:Int) (CP:Value) (l:List BL)
theorem sub_lt:a-t<0↔Go.Apw.AGn a t=true:=by
 show _↔decide (a<t)=true;rw[ABa];omega
theorem sub_eq:a-t=0↔a=t:=AMT
def Ux(a t:Int):Int:=if a<t then-1 else if a>t then 1 else 0
theorem n3:Ux a t<0↔Go.Apw.AGn a t=true:=by
 show _↔decide (a<t)=true;rw[ABa];unfold Ux;split
 ·
  omega
 split<;>omega
theorem ya:Ux a t=0↔a=t:=by
 unfold Ux;split
 ·
  omega
 split<;>omega
theorem n2(a t:ByteArray):RO a t<0↔Ds a t=true:=by rw[<-yb,ABa]
theorem cmpL_eq:∀a b:List UInt8,Go.Lib.compareBytes a b=0↔a=b
 |[],[]=>by simp[Go.Lib.compareBytes]
 |[],b::y=>by simp[Go.Lib.compareBytes]
 |a::x,[]=>by simp[Go.Lib.compareBytes]
 |a::x,b::y=>by
  have Cg:=cmpL_eq x y;simp only[Go.Lib.compareBytes,ACj];rcases Nat.lt_trichotomy a.toNat b.toNat with h|h|h
  ·
   have Af:a<b:=ACG.2 h;have Bo:¬a=b:=fun e=>by subst e;omega
   simp[Af,Bo]
  ·
   obtain rfl:=UInt8.toNat_inj.1 h;have Af:¬a<a:=fun e=>by have:=ACG.1 e;omega
   simpa[Af]using Cg
  have Af:¬a<b:=fun e=>by have:=ACG.1 e;omega
  have h2:b<a:=ACG.2 h;have Bo:¬a=b:=fun e=>by subst e;omega
  simp[Af,h2,Bo]
theorem x'(a t:ByteArray):RO a t=0↔a=t:=by
 rw[RO,cmpL_eq];constructor
 ·
  intro h;obtain⟨x⟩:=a;obtain⟨y⟩:=t;congr;exact Array.toList_inj.1 h
 intro h;rw[h]
theorem pc(h:BD)(t:Int)(_:h.wf)(Af:0<=h.Bn)(h2:h.Bn<=100)(Bo:0<=t)(BB:t<=100):Cv AG 156 [.agg (JH h).toArray,.int .i64 t] [] (.int .i64 (h.Bn-t)):=by
 exact Aw.proof Tryz.func156 G 9 G G fun X w=>Ae<|CV G G G fun Dh=>U 1 G<|Ac<|Ae<|AX 3 [0] G G<|TU G G BV G<|U 1 G<|Ac<|rt<|AQ<|Bq () G G ARz G Aa
theorem xI(l:List BD)(t:Int)(AN:∀j,j<l.length->0<=(l.getD j default).Bn/\(l.getD j default).Bn<=100)(p9:0<=t)(eY:t<=100)(hlen:l.length<=100000):Cv AG 155 [CP,.int .i64 t,.func (.func 156) #[] #[]] [⟨CP,l⟩] (.tuple #[.int .i64 ((Cz (fun x:BD=>x.Bn) AGn t l:Nat):Int),.bool (G9 (fun x:BD=>x.Bn) AGn t l)]):=by
 refine Aw.proof Tryz.func155 G 49 G G fun X w=>AF 2 G<|Ae<|An G G<|C2 0 G G ADN G fun TC=>U 1 G<|Ac<|AF 3 G<|Am<|B5<|Ji (σ:=Nat×Nat×Nat) [(0,_),(1,_),(2,_),(8,_)] _ (fun s C=>(9,.int .i64 (s.2.1:Int))::(10,.int .i64 (s.2.2:Int))::C) (fun s=>s.2.1<=s.2.2/\s.2.2<=l.length/\s.2.2-s.2.1<=s.1/\search (fun h=>AGn ((fun x:BD=>x.Bn) (l.getD h default)) t) s.1 s.2.1 s.2.2=Cz (fun x:BD=>x.Bn) AGn t l) (fun s=>s.2.2-s.2.1) (l.length,0,l.length) (Bs G) (Ad 0 G Aa) ⟨ABg _,ABW _,Nat.sub_le _ _,G⟩ (Bs G) ?_;rintro⟨n,i,j⟩ ⟨Af,h2,Ao,hs⟩;simp only at Af h2 Ao hs;show CF _ _ _ [(9,.int .i64 (i:Int)),(10,.int .i64 (j:Int)),(0,_),(1,_),(2,_),(8,_)] _ _;refine Am<|AF 3 G<|B9 G (fun DA=>?_) (fun DA=>?_)
 ·
  refine AZ<|B5<|Ae<|U 2 G<|Hf (r:=((i+j:Nat):Int)) G G AMT BV G<|F0 ABc ARP G (mh AMT) G<|Vl G G AMT (lO _) G<|F0 ARP ABc G (jO AMT) G<|U 1 G<|Ac<|Ae<|U 3 G<|Fo 0 G G G I6 G fun N4=>Gi 0 G G (At G) G fun sA Uc=>An G G<|QV (pc (l.getD ((i+j) / 2) default) t Uc (AN _ AMT).1 (AN _ AMT).2 p9 eY) (Ar G) G G G Aa G fun _ v30 ak=>?_;subst ak;refine U 1 G<|Ac<|B9 G (fun ES=>?_) (fun ES=>?_)
  ·
   refine rg<|An G G<|Hf (r:=(((i+j) / 2+1:Nat):Int)) G G AMT BV G<|U 1 G<|nl<|CU ?_;exact Dy ((n-1,(i+j) / 2+1,j):Nat×Nat×Nat) ⟨by show(i+j) / 2+1<=j;omega,h2,(by show j-((i+j) / 2+1)<=n-1;omega),(lK (fun h=>AGn ((fun x:BD=>x.Bn) (l.getD h default)) t) AMT Ao ((sub_lt (l.getD ((i+j) / 2) default).Bn t).1 ES)).symm.trans hs⟩ (by show j-((i+j) / 2+1)<j-i;omega) (Bs G) G (Ad 2 G Aa)
  refine FA 2 G<|CU ?_;exact Dy ((n-1,i,(i+j) / 2):Nat×Nat×Nat) ⟨by show i<=(i+j) / 2;omega,by show(i+j) / 2<=l.length;omega,(by show(i+j) / 2-i<=n-1;omega),(lH (fun h=>AGn ((fun x:BD=>x.Bn) (l.getD h default)) t) AMT Ao (fun q=>ES ((sub_lt (l.getD ((i+j) / 2) default).Bn t).2 q))).symm.trans hs⟩ (by show(i+j) / 2-i<j-i;omega) (Bs G) G (Ad 2 G Aa)
 have OW:i=Cz (fun x:BD=>x.Bn) AGn t l:=by rw[<-hs,lG _ _ _ _ AMT]
 refine ex<|Ck<|Ck<|D7<|A5<|Ae<|U 5 G ?_;refine D4 39 9 [35] G G (fun P7 VG=>by
  have r6:=ABA P7;refine U 3 G<|Bl G G G<|Fo 0 G G G I6 G fun cS=>Bl G G G<|Gi 0 G G (At G) G fun Y7 c0=>U 1 G<|Bl G G G<|QV (pc (l.getD i default) t c0 (AN _ AMT).1 (AN _ AMT).2 p9 eY) (Ar G) G G G Aa G fun _ gB ao=>?_;subst ao;exact U 2 G<|VG G (Bg.tail (Bg.tail Br))) ?_
 exact U 2 G<|Ac<|rt<|Fl () G G G (by rw[G9,<-OW,decide_eq_decide.2 (sub_eq (l.getD i default).Bn t),decide_eq_decide.2 (Int.ofNat_lt (n:=i) (m:=l.length))]) G Aa
theorem tw(m:BL)(t:Int)(_:m.wf):Cv AG 220 [.agg (H9 m).toArray,.int .i64 t] [] (.int .i64 (Ux m.Ap t)):=by
 refine Aw.proof Tryz.func220 G 15 G G fun X w=>Ae<|CV G G G fun Dh=>U 1 G<|Ac<|Am<|B5<|Ae<|AX 3 [0] G G<|U 2 G<|Ac<|B9 G (fun C'=>?_) (fun C'=>?_)
 · exact AF 1 G<|rt<|C9<|Cd<|AQ<|Bq () G G (by rw[Ux,AA_ C']) G Aa
 refine I5 5 [0] G G<|B9 G (fun Dq=>?_) (fun Dq=>?_)
 · exact AF 1 G<|rt<|C9<|Cd<|AQ<|Bq () G G (by rw[Ux,AA9 C',AA_ Dq]) G Aa
 exact EG<|CU<|A5<|AF 1 G<|rt<|AQ<|Bq () G G (by rw[Ux,AA9 C',AA9 Dq]) G Aa
theorem xJ(t:Int)(hlen:l.length<=100000):Cv AG 219 [CP,.int .i64 t,.func (.func 220) #[] #[]] [⟨CP,l⟩] (.tuple #[.int .i64 ((Cz (fun x:BL=>x.Ap) AGn t l:Nat):Int),.bool (G9 (fun x:BL=>x.Ap) AGn t l)]):=by
 refine Aw.proof Tryz.func219 G 49 G G fun X w=>AF 2 G<|Ae<|An G G<|C2 0 G G ADL G fun TC=>U 1 G<|Ac<|AF 3 G<|Am<|B5<|Ji (σ:=Nat×Nat×Nat) [(0,_),(1,_),(2,_),(8,_)] _ (fun s C=>(9,.int .i64 (s.2.1:Int))::(10,.int .i64 (s.2.2:Int))::C) (fun s=>s.2.1<=s.2.2/\s.2.2<=l.length/\s.2.2-s.2.1<=s.1/\search (fun h=>AGn ((fun x:BL=>x.Ap) (l.getD h default)) t) s.1 s.2.1 s.2.2=Cz (fun x:BL=>x.Ap) AGn t l) (fun s=>s.2.2-s.2.1) (l.length,0,l.length) (Bs G) (Ad 0 G Aa) ⟨ABg _,ABW _,Nat.sub_le _ _,G⟩ (Bs G) ?_;rintro⟨n,i,j⟩ ⟨Af,h2,Ao,hs⟩;simp only at Af h2 Ao hs;show CF _ _ _ [(9,.int .i64 (i:Int)),(10,.int .i64 (j:Int)),(0,_),(1,_),(2,_),(8,_)] _ _;refine Am<|AF 3 G<|B9 G (fun DA=>?_) (fun DA=>?_)
 ·
  refine AZ<|B5<|Ae<|U 2 G<|Hf (r:=((i+j:Nat):Int)) G G AMT BV G<|F0 ABc ARP G (mh AMT) G<|Vl G G AMT (lO _) G<|F0 ARP ABc G (jO AMT) G<|U 1 G<|Ac<|Ae<|U 3 G<|Fo 0 G G G J1 G fun N4=>Gi 0 G G (At G) G fun sA Uc=>An G G<|QV (tw (l.getD ((i+j) / 2) default) t Uc) (Ar G) G G G Aa G fun _ v30 ak=>?_;subst ak;refine U 1 G<|Ac<|B9 G (fun ES=>?_) (fun ES=>?_)
  ·
   refine rg<|An G G<|Hf (r:=(((i+j) / 2+1:Nat):Int)) G G AMT BV G<|U 1 G<|nl<|CU ?_;exact Dy ((n-1,(i+j) / 2+1,j):Nat×Nat×Nat) ⟨by show(i+j) / 2+1<=j;omega,h2,(by show j-((i+j) / 2+1)<=n-1;omega),(lK (fun h=>AGn ((fun x:BL=>x.Ap) (l.getD h default)) t) AMT Ao ((n3 (l.getD ((i+j) / 2) default).Ap t).1 ES)).symm.trans hs⟩ (by show j-((i+j) / 2+1)<j-i;omega) (Bs G) G (Ad 2 G Aa)
  refine FA 2 G<|CU ?_;exact Dy ((n-1,i,(i+j) / 2):Nat×Nat×Nat) ⟨by show i<=(i+j) / 2;omega,by show(i+j) / 2<=l.length;omega,(by show(i+j) / 2-i<=n-1;omega),(lH (fun h=>AGn ((fun x:BL=>x.Ap) (l.getD h default)) t) AMT Ao (fun q=>ES ((n3 (l.getD ((i+j) / 2) default).Ap t).2 q))).symm.trans hs⟩ (by show(i+j) / 2-i<j-i;omega) (Bs G) G (Ad 2 G Aa)
 have OW:i=Cz (fun x:BL=>x.Ap) AGn t l:=by rw[<-hs,lG _ _ _ _ AMT]
 refine ex<|Ck<|Ck<|D7<|A5<|Ae<|U 5 G ?_;refine D4 39 9 [35] G G (fun P7 VG=>by
  have r6:=ABA P7;refine U 3 G<|Bl G G G<|Fo 0 G G G J1 G fun cS=>Bl G G G<|Gi 0 G G (At G) G fun Y7 c0=>U 1 G<|Bl G G G<|QV (tw (l.getD i default) t c0) (Ar G) G G G Aa G fun _ gB ao=>?_;subst ao;exact U 2 G<|VG G (Bg.tail (Bg.tail Br))) ?_
 exact U 2 G<|Ac<|rt<|Fl () G G G (by rw[G9,<-OW,decide_eq_decide.2 (ya (l.getD i default).Ap t),decide_eq_decide.2 (Int.ofNat_lt (n:=i) (m:=l.length))]) G Aa
theorem lV(t:Int)(hlen:l.length<=100000):Cv AG 183 [CP,.int .i64 t] [⟨CP,l⟩] (.tuple #[.int .i64 ((Cz (fun x:BL=>x.Ap) AGn t l:Nat):Int),.bool (G9 (fun x:BL=>x.Ap) AGn t l)]):=by
 exact Aw.proof Tryz.func183 G 11 G G fun X w=>AF 2 G<|Ae<|U 2 G<|B0 (xJ _ _ t hlen) (Ar G) G (Ad 0 G Aa) G<|U 2 G<|U 2 G<|Ac<|rt<|Fl () G G G ARz G Aa
theorem nm(a:AD)(Cw:Value)(t:ByteArray)(_:a.wf):Cv AG 205 [.agg (A3 a Cw).toArray,.string t] [⟨Cw,a.A0⟩] (.int .i64 (RO a.Al t)):=by
 exact Aw.proof Tryz.func205 G 9 G G fun X w=>Ae<|CV G G G fun Dh=>U 1 G<|Ac<|Ae<|AX 3 [0] G G<|B0 (yf _ _) (Ar G) G Aa G<|U 1 G<|Ac<|rt<|AQ<|Bq () G G ARz G Aa
theorem xH(l:List AD)(t:ByteArray)(hlen:l.length<=100000):Cv AG 204 [CP,.string t,.func (.func 205) #[] #[]] [⟨CP,l⟩] (.tuple #[.int .i64 ((Cz (fun x:AD=>x.Al) Ds t l:Nat):Int),.bool (G9 (fun x:AD=>x.Al) Ds t l)]):=by
 refine Aw.proof Tryz.func204 G 49 G G fun X w=>AF 2 G<|Ae<|An G G<|C2 0 G G ARL G fun TC=>U 1 G<|Ac<|AF 3 G<|Am<|B5<|Ji (σ:=Nat×Nat×Nat) [(0,_),(1,_),(2,_),(8,_)] _ (fun s C=>(9,.int .i64 (s.2.1:Int))::(10,.int .i64 (s.2.2:Int))::C) (fun s=>s.2.1<=s.2.2/\s.2.2<=l.length/\s.2.2-s.2.1<=s.1/\search (fun h=>Ds ((fun x:AD=>x.Al) (l.getD h default)) t) s.1 s.2.1 s.2.2=Cz (fun x:AD=>x.Al) Ds t l) (fun s=>s.2.2-s.2.1) (l.length,0,l.length) (Bs G) (Ad 0 G Aa) ⟨ABg _,ABW _,Nat.sub_le _ _,G⟩ (Bs G) ?_;rintro⟨n,i,j⟩ ⟨Af,h2,Ao,hs⟩;simp only at Af h2 Ao hs;show CF _ _ _ [(9,.int .i64 (i:Int)),(10,.int .i64 (j:Int)),(0,_),(1,_),(2,_),(8,_)] _ _;refine Am<|AF 3 G<|B9 G (fun DA=>?_) (fun DA=>?_)
 ·
  refine AZ<|B5<|Ae<|U 2 G<|Hf (r:=((i+j:Nat):Int)) G G AMT BV G<|F0 ABc ARP G (mh AMT) G<|Vl G G AMT (lO _) G<|F0 ARP ABc G (jO AMT) G<|U 1 G<|Ac<|Ae<|U 3 G<|Fo 0 G G G Gt G fun N4=>Gi 0 G G (At G) G fun sA Uc=>An G G<|QV (nm (l.getD ((i+j) / 2) default) _ t Uc) (Ar G) G G G (Ad 1 G Aa) G fun _ v30 ak=>?_;subst ak;refine U 1 G<|Ac<|B9 G (fun ES=>?_) (fun ES=>?_)
  ·
   refine rg<|An G G<|Hf (r:=(((i+j) / 2+1:Nat):Int)) G G AMT BV G<|U 1 G<|nl<|CU ?_;exact Dy ((n-1,(i+j) / 2+1,j):Nat×Nat×Nat) ⟨by show(i+j) / 2+1<=j;omega,h2,(by show j-((i+j) / 2+1)<=n-1;omega),(lK (fun h=>Ds ((fun x:AD=>x.Al) (l.getD h default)) t) AMT Ao ((n2 (l.getD ((i+j) / 2) default).Al t).1 ES)).symm.trans hs⟩ (by show j-((i+j) / 2+1)<j-i;omega) (Bs G) G (Ad 3 G Aa)
  refine FA 2 G<|CU ?_;exact Dy ((n-1,i,(i+j) / 2):Nat×Nat×Nat) ⟨by show i<=(i+j) / 2;omega,by show(i+j) / 2<=l.length;omega,(by show(i+j) / 2-i<=n-1;omega),(lH (fun h=>Ds ((fun x:AD=>x.Al) (l.getD h default)) t) AMT Ao (fun q=>ES ((n2 (l.getD ((i+j) / 2) default).Al t).2 q))).symm.trans hs⟩ (by show(i+j) / 2-i<j-i;omega) (Bs G) G (Ad 3 G Aa)
 have OW:i=Cz (fun x:AD=>x.Al) Ds t l:=by rw[<-hs,lG _ _ _ _ AMT]
 refine ex<|Ck<|Ck<|D7<|A5<|Ae<|U 5 G ?_;refine D4 39 9 [35] G G (fun P7 VG=>by
  have r6:=ABA P7;refine U 3 G<|Bl G G G<|Fo 0 G G G Gt G fun cS=>Bl G G G<|Gi 0 G G (At G) G fun Y7 c0=>U 1 G<|Bl G G G<|QV (nm (l.getD i default) _ t c0) (Ar G) G G G (Ad 1 G Aa) G fun _ gB ao=>?_;subst ao;exact U 2 G<|VG G (Bg.tail (Bg.tail (Bg.tail Br)))) ?_
 exact U 2 G<|Ac<|rt<|Fl () G G G (by rw[G9,<-OW,decide_eq_decide.2 (x' (l.getD i default).Al t),decide_eq_decide.2 (Int.ofNat_lt (n:=i) (m:=l.length))]) G Aa
theorem nn(l:List AD)(t:ByteArray)(hlen:l.length<=100000):Cv AG 161 [CP,.string t] [⟨CP,l⟩] (.tuple #[.int .i64 ((Cz (fun x:AD=>x.Al) Ds t l:Nat):Int),.bool (G9 (fun x:AD=>x.Al) Ds t l)]):=by
 exact Aw.proof Tryz.func161 G 11 G G fun X w=>AF 2 G<|Ae<|U 2 G<|B0 (xH _ _ t hlen) (Ar G) G (Ad 0 G Aa) G<|U 2 G<|U 2 G<|Ac<|rt<|Fl () G G G ARz G Aa
end Go.Apw
namespace Go.A_
open Go.RowKit
section
section
variable{α:Type} {xs:List α} {i:Nat} {ov:α}
theorem e2(h:i=xs.length):xs++[ov]=FO i ov xs:=by
 subst h;simp[FO]
theorem e3(h:i<=xs.length):(xs.take i).take i++[ov]++(xs.take i).drop (i+1)=xs.take i++[ov]:=by
 rw[List.take_take,Nat.min_self,ACc (by rw[ABz];omega),AB7]
theorem e4(h:i<=xs.length):(xs.take i++[ov]).take (i+1)++xs.drop i++(xs.take i++[ov]).drop (i+1+(xs.length-i))=FO i ov xs:=by
 have AN:(xs.take i++[ov]).length=i+1:=by rw[ABP,ABz];simp;omega
 have e:(xs.take i++[ov]).drop (i+1+(xs.length-i))=[]:=ACc AMT;rw[List.take_of_length_le AMT,e,AB7,FO];simp
theorem e5(h:i<xs.length):xs.take (i+1)++xs.drop i++xs.drop (i+1+(xs.length-i))=xs.take (i+1)++xs.drop i:=by
 have e:xs.drop (i+1+(xs.length-i))=[]:=ACc AMT;rw[e,AB7]
theorem e6(h:i<xs.length):(xs.take (i+1)++xs.drop i).take i++[ov]++(xs.take (i+1)++xs.drop i).drop (i+1)=FO i ov xs:=by
 have AN:(xs.take (i+1)).length=i+1:=by rw[ABz];omega
 rw[List.take_append_of_le_length AMT,List.take_take,ADH AMT,List.drop_left' AN,FO];simp
theorem U7(h:i<xs.length):(xs.take (i+1)++xs.drop i).length=xs.length+1:=by
 rw[ABP,ABz,List.length_drop];omega
end
section
variable{c:Cj} {ops:Array Oper} {J:Cj->Array Oper->List Oper->Env->Own->List Atom->Prop} [Dr:Ip J] {env:Env} {L:Own} {D:List Atom} {rest:List Oper} {d:Nat} {v:Value} {t:TypeId} {p:String} {af:Array Edge} {x BQ:Operand} {T:TypeId}
include Dr
theorem gj{α:Type}{r:Be α}(i:Nat){l:Nat}{xs:List α}{E e:TypeId}(Ab:AL env x=some v)(Ag:L[i]? =some (@row α r e v xs))(Av:H5 c.P T E r.size)(B4:AL env BQ=some (.int .i64 (l:Int)))(Af:l<=xs.length)(Ao:Nat.blt d c.n=true)
 (k:∀u,J c ops rest ((d,u)::env) L D):J c ops (⟨some d,.slice T x (some BQ) none none,t,p,af,none⟩::rest) env L D:=
 Dr.read (σ:=Value) rfl rfl (fun u=>(d,u)::env) (fun _=>D) (fun a w f st AR=>by
  obtain⟨Cy,G8,_⟩:=st.own _ (AA' Ag);obtain⟨j,Ay,hs⟩:=ACr.1 Av.2;obtain⟨A,cap,rfl,Bm⟩:∃A cap,v=.slice A xs.length cap/\xs.length<=cap:=by
   rcases G8.2 with⟨rfl,Bw⟩|⟨g,cap,cur,rfl,_,_,Bm,_⟩
   · exact⟨none,0,by rw[Bw],AMT⟩
   exact⟨_,cap,rfl,Bm⟩
  have CY:(0:Int)<=l/\(l:Int)<=(xs.length:Int):=AMT;have Dh:(xs.length:Int)<=(cap:Int):=AMT;refine⟨.slice (if cap=l then A else A.map (·.add (l*r.size))) (xs.length-l) (cap-l),_,fun AT HW=>?_,f.put _ (EU Ao),AR⟩;simp[execOp,f.AL Ab,f.AL B4,Instr.sliceAt,ABQ Av.1,Instr.slice,Instr.sliceBounds,Instr.sliceBound,asIntOf,CY,Af,sizeOf,typeInfo,Ay,hs]) k
theorem Kr{α:Type}{r:Be α}(i:Nat){xs:List α}{e:TypeId}{o:Nat}{x:Operand}(Ab:AL env x=some (JI v o))(Ag:L[i]? =some (@row α r e v xs))(FG:0<xs.length)(Ao:Nat.blt d c.n=true)
 (k:J c ops rest ((d,JI v o)::env) L D):J c ops (⟨some d,.nilCheck x,t,p,af,none⟩::rest) env L D:=
 Dr.read (σ:=Unit) rfl rfl (fun _=>(d,JI v o)::env) (fun _=>D) (fun a w f st AR=>by
  obtain⟨g,cap,rfl⟩:=@oz (Et L.nd w) w α r e v xs (st.own _ (AA' Ag)) (by intro q;rw[q]at FG;simp at FG);refine⟨(),_,fun AT HW=>?_,f.put _ (EU Ao),AR⟩;simp[execOp,f.AL Ab,JI]) (fun _=>k)
end
section
variable{c:Cj} {ops:Array Oper} {Q:AuE} {env:Env} {L:Own} {D:List Atom} {rest:List Oper} {v:Value} {t:TypeId} {p:String} {af:Array Edge} {x y:Operand}
theorem Sz{α:Type}{s:Shape α}(i m o:Nat)(DI:s.H){xs:List α}{ov ov':α}{u:Value}{e:TypeId}(Ab:AL env x=some (JI v (m*s.size+o)))(Bf:AL env y=some u)(Ag:L[i]? =some (@row α (Be.D5 s) e v xs))(hu:u.oneCell'=true)(hm:xs[m]? =some ov)(A7:o<s.size)
 (Bm:∀h,(s.cells ov h).set o u=s.cells ov' DI)(Cl:Bg (s.sub ov' DI) D)(hw:s.wf ov'){E:TypeId}(Av:Nv c.P E)(k:Cb Q c ops rest env (L.set i (@row α (Be.D5 s) e v (xs.set m ov'))) D):Cb Q c ops (⟨none,.store E x y,t,p,af,none⟩::rest) env L D:=by
 refine c6 (env':=env) rfl rfl (fun a w f st AR=>?_) k;have Hv:=AA' Ag;have jt:m<xs.length:=(ABF.1 hm).1;obtain⟨g,cap,cs,Cy,rfl,CK,Kn,Yt,EY,Md,Ep,hlen⟩:=@Vj α (Be.D5 s) _ _ _ _ _ (st.own _ Hv) (by intro e;rw[e]at hm;simp at hm);have Fy:@Be.size α (Be.D5 s)=s.size:=rfl;rw[Fy]at EY;have Sd:(m+1)*s.size<=cap*s.size:=ACw _ AMT;rw[ACX]at Sd;obtain⟨Cx,⟨h,rfl,_,_⟩,AN⟩:=@PH α (Be.D5 s) _ _ _ Cy xs 0 Ep (ct CK Md) m ov hm;rw[Fy]at AN;have Anr:(s.cells ov h).length=s.size:=s.len ov h;have Ans:(s.cells ov' DI).length=s.size:=s.len ov' DI;have Acf:MO cs (m*s.size) (s.cells ov' DI)=cs.set (m*s.size+o) u:=by
  refine List.ext_getElem? fun q=>?_;rw[T0 _ _ _ _ AMT];by_cases B':m*s.size<=q/\q<m*s.size+(s.cells ov' DI).length
  · rw[AA_ B',<-Bm h,List.getElem?_set,List.getElem?_set];by_cases p4:o=q-m*s.size
    · rw[AA_ p4,AA_ AMT,AA_ AMT,AA_ AMT]
    rw[AA9 p4,AA9 AMT];have:=AN (q-m*s.size) _ (ABs (show q-m*s.size<(s.cells ov h).length by omega));rw[cell_of_row w g _ _ e (0,0) CK,ACA,show 0+m*s.size+(q-m*s.size)=q by omega]at this;rw[this,ABs AMT]
  rw[AA9 B',ACT AMT]
 have hs:C8 [g] w (w.setCell ⟨g,m*s.size+o,none⟩ u):=lZ w g (m*s.size+o) u;have Mc:(w.setCell ⟨g,m*s.size+o,none⟩ u).heap[g]? =some (.cells (MO cs (m*s.size) (s.cells ov' DI)).toArray e (0,0)):=by
  rw[Acf,heap_setCell_same w g _ _ e u CK];simp
 have p1:=AiH i m DI Ag jt Cl hw st AR CK hs Mc;refine⟨w.setCell ⟨g,m*s.size+o,none⟩ u,?_,f.Su _,p1.1,p1.2⟩;have Af:w.cell? ⟨g,m*s.size+o,none⟩=some cs[m*s.size+o]:=by rw[cell_of_row w g _ _ e (0,0) CK,ACA,ABs AMT]
 have h2:w.frozen? ⟨g,m*s.size+o,none⟩=false:=frozen_of_row w g _ _ e CK;obtain⟨e7,J9,HW⟩:=ACr.1 Av.2;have aR:u.cells= #[u]:=by cases u<;>first|rfl|simp[Value.oneCell']at hu
 have Gg:(store ⟨g,m*s.size+o,none⟩ u).run c.P w=.ok () (w.setCell ⟨g,m*s.size+o,none⟩ u):=by
  rw[run_store c.P w ⟨g,m*s.size+o,none⟩ u .plain hu];simp[Af,h2]
 have HX:=f.AL Ab;simp only[JI,ACm,AB0]at HX;simp[execOp,HX,f.AL Bf,Instr.storeAt,Instr.sureAddr,storeVar,aR,sizeOf,typeInfo,J9,HW,storeCells,Addr.add,Gg]
end
end
end Go.A_
