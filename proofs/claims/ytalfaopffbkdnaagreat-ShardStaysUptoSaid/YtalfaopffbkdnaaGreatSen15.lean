/- Part 15 of shardStays_holds. -/
import Derived.Test.YtalfaopffbkdnaaGreatSen14

set_option maxRecDepth 20000
set_option maxHeartbeats 1000000
namespace Go
theorem ACD:∀{a:Prop},¬¬a↔a:=@Classical.not_not
theorem ADn:∀(a:Int),a≤a:=@Int.le_refl
end Go
open Classical renaming byContradiction→AEj
open Go.Proofs.Tryz renaming underlying259→ADj,underlying339→ADK
open Int renaming le_of_eq→AGt,le_trans→AGu
open List renaming find?_range_eq_some→ADz,foldl_cons→ACO,getD_cons_succ→ADb,getD_cons_zero→AC7,getElem_set→ADQ,length_cons→ABv,length_nil→ABo,length_set→ABj,mem_filter→ABZ,pairwise_iff_getElem→ACW,sum_cons→ADr
open Option.some renaming injEq→ABX
open Go.A_ Go.Proofs Go.Proofs.YtalfaopffbkdnaaGreat
namespace Go.Apw
theorem Aep(k:ByteArray):Cv AG 54 [.string k] [] (.tuple #[.agg (A3 (Sq k) AI).toArray,.int .i64 (kd k)]):=by
 refine Aw.proof Tryz.func54 G 15 G G fun X w=>Ae<|CT Hd G fun Dh=>U 1 G<|Ac<|Am<|Ae<|An G G<|PI G ABO G<|U 2 G ?_;refine DE 7 4 [0,2] G G (fun GY vK=>by
  have r8:=ACe GY;exact U 1 G<|Bl G G G<|PI G ABO G<|U 2 G<|vK G Br) ?_
 refine Ac<|BN G (fun Ct=>?_) (fun Ct=>?_)
 · exact Ae<|Db (ps:=[]) (cs:=(A3 FX AI)) AGq AGo G<|BZ 0 (us:=(A3 FX AI)) G G G (At G) G G<|U 1 G<|Ac<|BA<|D8 () [_] (Fp 0 G G G G (At G)) (by have q:Ix k=false:=(by rw[rP];have q:=Ct;simp only[ABk,ABa]at q;rw[jS];simp;omega);rw[Sq,kd,q];rfl) G Aa
 · exact AZ<|Ae<|An G G<|Db (ps:=[(0,.tmp 13)]) (cs:=(A3 ((⟨k,cz,0,0,[],PF⟩:AD)) AI)) AGq AGo G<|BZ 0 (us:=(A3 ((⟨k,cz,0,0,[],PF⟩:AD)) AI)) G G G (At G) G G<|U 1 G<|Ac<|rt<|D8 () [_] (Fp 0 G G G G (At G)) (by have q:Ix k=true:=(by rw[rP];have q:=Ct;simp only[ABD,ABl]at q;rw[jS];simp;omega);rw[Sq,kd,q];rfl) G Aa
theorem oE(CP:Value)(l:List Df)(c:Int)(BK:A' c):Cv AG 246 [CP,.int .i64 c] [⟨CP,l⟩] (.tuple #[.int .i64 (V6 l c:Int),.bool (U8 l c)]):=by
 refine Aw.proof Tryz.func246 G 27 G G fun X w=>?_;obtain⟨K9,K_⟩:=id BK;refine AF 2 G<|Am<|Ae<|An G G<|C2 0 G G ACi G fun Sm=>An G G<|Ac<|B5<|Ji (σ:=Nat) [(0,_),(1,_),(8,_),(9,_)] _ (fun i C=>(10,.int .i64 (i:Int))::C) (fun i=>i<=l.length/\(∀j,j<i->decide ((l.getD j default).Ap>=c)=false)) (fun i=>l.length-i) 0 (Bs G) (Ad 0 G Aa) ⟨ABg _,fun j Ay=>absurd Ay (AB2 j)⟩ (Bs G) ?_;rintro i ⟨Ag,C0⟩;refine AF 1 G<|Am<|B9 G (fun Ct=>?_) (fun Ct=>?_)
 ·
  refine AZ<|Am<|B5<|Ae<|An G G<|Fo 0 G G G Ky G fun RA=>Gi 0 G G (At G) G fun MI SE=>CT de G fun Jo=>U 1 G<|BZ 0 (us:=(QT ((l.getD i default)))) G G G (At G) G G<|Ac<|I5 4 [0] G G<|B9 G (fun ER=>?_) (fun ER=>?_)
  · exact Am<|Gx mixed AGo<|AX 7 [0] G G<|Gj<|A5<|rt<|C9<|Cd<|Cd<|C9<|Cd<|AQ<|Fl () G G G (by have B4:X' l c=some i:=Tc AGn C0 (ABG ER);rw[V6,U8,B4];rfl) G Aa
  ·
   refine EG<|CU<|A5<|rg<|C5 G G BV G<|An G G<|nl<|AQ ?_;exact Dy (i+1) ⟨AGn,(Ki C0 (ABM ER))⟩ AGn (Bs G) G (Ad 2 G Aa)
 · exact ex<|Ck<|Ck<|D7<|A5<|Ae<|An G G<|C2 0 G G ACi G fun Adh=>U 2 G<|Ac<|rt<|Fl () G G G (by have B4:X' l c=none:=Tb (fun k AE=>C0 k AGn);rw[V6,U8,B4];rfl) G Aa
theorem sd(CP:Value)(l:List Df)(c:Int)(q:Int)(BK:A' c)(Ed:A' q):Cv AG 155 [CP,.int .i64 c,.int .i64 q] [⟨CP,l⟩] (.bool (kP l c q)):=by
 refine Aw.proof Tryz.func155 G 30 G G fun X w=>?_;obtain⟨K9,K_⟩:=id BK;obtain⟨LD,LF⟩:=id Ed;refine HP (q:=l.length<=9223372036854775807) (fun S w h=>L1 (h _ (AA' (i:=0) G))) fun hlen=>AF 1 G<|Ae<|U 2 G<|B0 (oE _ _ _ BK) (Ar G) G (Ad 0 G Aa) G<|U 3 G<|U 2 G<|Ac<|Ae<|U 2 G ?_;refine D4 16 8 [0] G G (fun CR gY=>by
  have C_:=AcS CR;exact U 2 G<|Bl G G G<|Fo 0 G G G Ky G fun KC=>Bl G G G<|CJ 0 r' G G (BR G) G fun v20=>Bl G G G<|CQ 0 G G (A2 G) G fun uv=>U 3 G<|gY G (Bg.tail (Bg.tail Br))) ?_
 exact An G G<|D4 25 4 [] G G (fun Gr vR=>U 1 G<|Bl G G G<|B0 (X2 _ _) (Ar G) G (Ad 0 G Aa) G<|U 2 G<|vR G Br)<|U 1 G<|Ac<|rt<|Bq () G G AGq G Aa
theorem jR(CP:Value)(l:List BX)(f:Nat)(D0:Array Value)(A:List Atom)(p:BX->Bool)(CM:GU AG f)(E5:∀x:BX,x.wf->Cv AG f (.agg (Hh x).toArray::D0.toList) A (.bool (p x))):Cv AG 151 [CP,.func (.func f) #[] D0] (⟨CP,l⟩::A) (.int .i64 (HI (Gd l.length (fun j=>p (l.getD j default))))):=by
 refine Aw.proof Tryz.func151 G 19 G G fun X w=>AF 1 G<|Am<|Ae<|An G G<|C2 0 G G AB4 G fun MD=>An G G<|Ac<|B5<|Ji (σ:=Nat) [(0,_),(1,_),(7,_)] _ (fun i C=>(8,.int .i64 (i:Int))::C) (fun i=>i<=l.length/\(∀j,j<i->p (l.getD j default)=false)) (fun i=>l.length-i) 0 (Bs G) (Ad 0 G (Bg.tail Br)) ⟨ABg _,fun j Ay=>absurd Ay (AB2 j)⟩ (Bs G) ?_;rintro i ⟨Ag,C0⟩;refine AF 1 G<|Am<|B9 G (fun EO=>?_) (fun EO=>?_)
 ·
  refine AZ<|Am<|B5<|AF 2 G<|Ae<|U 2 G<|An G G<|Fo 0 G G G N0 G fun PS=>Gi 0 G G (At G) G fun KR N6=>QV (E5 _ N6) CM G G G (Bg.tail (Bg.tail (Bg.tail Br))) G fun Ui Mn V4=>?_;obtain rfl:Mn=.bool (p (l.getD i default)):=V4;refine Ac<|BN G (fun CR=>?_) (fun CR=>?_)
  · exact AF 2 G<|rt<|C9<|Cd<|Cd<|C9<|Cd<|Bq () G G (by rw[Tc (j:=i) AGn C0 CR];try rfl) G Aa
  ·
   refine EG<|CU<|A5<|rg<|C5 G G BV G<|An G G<|nl ?_;exact Dy (i+1) ⟨AGn,(Ki C0 (CR))⟩ AGn (Bs G) G (Ad 2 G (Bg.tail (Bg.tail (Bg.tail Br))))
 · exact ex<|Ck<|Ck<|D7<|A5<|AF 1 G<|rt<|Bq () G G (by rw[Tb (fun k AE=>C0 k AGn)];try rfl) G Aa
theorem n7(CP:Value)(l:List BX)(f:Nat)(D0:Array Value)(A:List Atom)(p:BX->Bool)(CM:GU AG f)(E5:∀x:BX,x.wf->Cv AG f (.agg (Hh x).toArray::D0.toList) A (.bool (p x))):Cv AG 158 [CP,.func (.func f) #[] D0] (⟨CP,l⟩::A) (.bool (decide (HI (Gd l.length (fun j=>p (l.getD j default)))>=0))):=by
 exact Aw.proof Tryz.func158 G 9 G G fun X w=>AF 1 G<|Ae<|U 2 G<|B0 (jR _ _ f D0 A p CM E5) (Ar G) G (Ad 0 G (Bg.tail Br)) G<|U 2 G<|Ac<|rt<|Bq () G G AGq G Aa
theorem zK(a:AD)(Cw:Value)(n:Int)(C6:a.wf):Cv AG 240 [.agg (A3 a Cw).toArray,.int .i64 n] [⟨Cw,a.A0⟩] (.tuple #[.agg (JH (V8 a n)).toArray,.bool (WK a n)]):=by
 refine Aw.proof Tryz.func240 G 26 G G fun X w=>Ae<|CV G G G fun Dh=>CT Um G fun En=>U 1 G<|Ac<|Am<|Ae<|BJ 1 (A3 a Cw) G G (At G) G G<|B0 (Ps _ _ C6) (Ar G) G (Ad 0 G Aa) G<|IH G G<|Ac<|BN G (fun Dq=>?_) (fun Dq=>?_)
 ·
  have Ey:¬E4 a=true:=(by simpa using Dq);exact Ae<|Db (ps:=[]) (cs:=(JH ((⟨0,0,0,0⟩:BD)))) AGq AGo G<|BZ 0 (us:=(JH ((⟨0,0,0,0⟩:BD)))) G G G (At G) G G<|U 1 G<|Ac<|BA<|D8 () [_,_] (Fp 0 G G G G (At G)) (by rw[V8,WK,AA9 Ey,show E4 a=false by simpa using Ey];rfl) G Aa
 ·
  have Ey:E4 a=true:=(by simpa using Dq);refine AZ<|Am<|Ae<|AX 2 [1] G G<|C2 0 G G AB5 G fun qS=>An G G<|Ac<|B5<|Ji (σ:=Nat) [(1,_),(4,_),(13,_),(14,_)] _ (fun i C=>(15,.int .i64 (i:Int))::C) (fun i=>i<=a.A0.length/\(∀j,j<i->decide ((a.A0.getD j default).Bn=n)=false)) (fun i=>a.A0.length-i) 0 (Bs G) (Ad 0 G Aa) ⟨ABg _,fun j Ay=>absurd Ay (AB2 j)⟩ (Bs G) ?_;rintro i ⟨Ag,C0⟩;refine AF 1 G<|Am<|B9 G (fun CR=>?_) (fun CR=>?_)
  ·
   refine AZ<|Am<|B5<|Ae<|Fo 0 G G G I6 G fun T6=>Gi 0 G G (At G) G fun Nj cX=>CT Um G fun Jo=>BZ 0 (us:=(JH ((a.A0.getD i default)))) G G G (At G) G G<|Ac<|I5 4 [0] G G<|B9 G (fun JQ=>?_) (fun JQ=>?_)
   · exact Ae<|BJ 0 (JH ((a.A0.getD i default))) G G (At G) G G<|BZ 1 (us:=(JH ((a.A0.getD i default)))) G G G (At G) G G<|U 1 G<|Ac<|rt<|C9<|Cd<|Cd<|C9<|Cd<|D8 () [_,_,_] (Fp 1 G G G G (At G)) (by have B4:a' a n=some i:=Tc AGn C0 (ABG JQ);rw[V8,WK,AA_ Ey,Ey,B4];rfl) G Aa
   ·
    refine EG<|CU<|A5<|rg<|C5 G G BV G<|An G G<|nl<|AQ ?_;exact Dy (i+1) ⟨AGn,(Ki C0 (ABM JQ))⟩ AGn (Bs G) G (Ad 2 G Aa)
  · exact ex<|Ck<|Ck<|D7<|A5<|Ae<|Db (ps:=[]) (cs:=(JH ((⟨0,0,0,0⟩:BD)))) AGq AGo G<|BZ 0 (us:=(JH ((⟨0,0,0,0⟩:BD)))) G G G (At G) G G<|U 1 G<|Ac<|rt<|D8 () [_,_] (Fp 0 G G G G (At G)) (by have B4:a' a n=none:=Tb (fun k AE=>C0 k AGn);rw[V8,WK,AA_ Ey,Ey,B4];rfl) G Aa
theorem zu:Ext Tryz.prog 262 (Extern.SlicesOverlaps.overlaps #[69,69] #[4]):=⟨⟨_,Tryz.func262,AGo,AGo,AGo,AGo⟩⟩
theorem zv:Ext Tryz.prog 267 (Extern.SlicesOverlaps.overlaps #[22,22] #[4]):=⟨⟨_,Tryz.func267,AGo,AGo,AGo,AGo⟩⟩
theorem zw:Ext Tryz.prog 310 (Extern.SlicesOverlaps.overlaps #[23,23] #[4]):=⟨⟨_,Tryz.func310,AGo,AGo,AGo,AGo⟩⟩
theorem zx:Ext Tryz.prog 312 (Extern.SlicesOverlaps.overlaps #[26,26] #[4]):=⟨⟨_,Tryz.func312,AGo,AGo,AGo,AGo⟩⟩
theorem ZV:EH AG 39 46 7 56:=EH.mk Tryz.underlying39 AGo AGp
theorem np:EH AG 94 164 2 24:=EH.mk Tryz.underlying94 AGo AGp
theorem AlV:E3 AG 44 [.int .i64 0,.int .i64 0,.int .i64 0,.int .i64 0]:=E3.mk AGo
theorem AjD:H5 AG 235 9 1:=⟨Tryz.underlying235,AGo⟩
theorem nq:EH AG 235 9 1 16:=EH.mk Tryz.underlying235 AGo AGp
theorem lQ:H5 AG 259 171 1:=⟨ADj,AGo⟩
theorem lR:H5 AG 339 175 1:=⟨ADK,AGo⟩
theorem dg:E3 AG 29 [.slice none 0 0]:=E3.mk AGo
theorem HB:EH AG 259 171 1 8:=EH.mk ADj AGo AGp
theorem QO:EH AG 339 175 1 8:=EH.mk ADK AGo AGp
theorem df:E3 AG 3 [.int .i64 0]:=E3.mk AGo
theorem AjC:H5 AG 94 164 2:=⟨Tryz.underlying94,AGo⟩
theorem AlU:E3 AG 164 [.int .i64 0,.string ByteArray.empty]:=E3.mk AGo
theorem DW:A' 0:=⟨AGp,AGp⟩
theorem ee{b:Bool}:IA b=0↔b=true:=by cases b<;>simp[IA]
theorem rising{n B:Nat}{f:Nat->Int}(h:∀j,j<n->f j>Nh f j/\f j<=(B:Int)):n<=B:=by
 have key:∀j,j<n->f j>=(j:Int)+1:=by
  intro j;induction j with
  |zero=>
   intro Ay;have:=(h 0 Ay).1;simp only[Nh]at this;omega
  |succ j Cg=>
   intro Ay;have Af:=(h (j+1) Ay).1;simp only[Nh]at Af;have:=Cg AGn;omega
 cases n with
 |zero=>omega
 |succ n=>
  have Af:=key n AGn;have h2:=(h n AGn).2;omega
theorem TE{l:List BL}(h:Fg l=true):l.length<=8:=by
 refine rising (f:=fun k=>(l.getD k default).Ap) fun j Ay=>?_;have:=(Nz.1 h) j Ay;simp only[fk,ABe,ABD,ABl]at this;omega
theorem ed{l:List Df}(h:HE l=true):l.length<=8:=by
 refine rising (f:=fun k=>(l.getD k default).Ap) fun j Ay=>?_;have:=(Nz.1 h) j Ay;simp only[Jj,ABe,ABD,ABI,ABb,ABl,ABa]at this;omega
theorem V0{l:List Bx}(h:Is l=true):l.length<=4:=by
 unfold Is at h;split at h
 · cases h
 · rename_i Ao;simp only[ABa]at Ao;omega
theorem S0{a:AD}(h:E4 a=true):a.A0.length<=5:=by
 unfold E4 at h;split at h
 · cases h
 · rename_i Ao;simp only[VO,ABk,ABN,ABe,AB_]at Ao;exact PC Ao.2
theorem Aii{b:List UInt8}(h:(Er b).2=0):b.length<=65536:=by
 by_cases he:65536<b.length
 · exfalso;unfold Er NF at h;rw[AA_ he]at h;simp at h
 · omega
theorem UP{α:Type}[Inhabited α]{l:List α}{x:α}(h:x∈l):∃j,j<l.length/\l.getD j default=x:=by
 obtain⟨j,Ay,rfl⟩:=List.getElem_of_mem h;exact⟨j,Ay,by simp[List.getD,ABs Ay]⟩
theorem N1:QL AGl:=⟨fun a=>by simp[AGl],fun a b c Af h2=>by simp only[AGl,ABa]at*;omega,fun a b Af h2=>by simp only[AGl,ABa,ABl]at*;omega⟩
theorem Pa:QL Ds:=⟨fun a=>by cases h:Ds a a with|false=>rfl|true=>exact absurd rfl (Ad9 h),fun a b c Af h2=>lt_trans Af h2,fun a b Af h2=>(Ad_ Af).resolve_right h2⟩
theorem lj{α:Type}[Inhabited α]{f:α->Int}{P:α->Prop}{l:List α}:
 (∀j,j<l.length->¬f (l.getD j default)<=Nh (fun k=>f (l.getD k default)) j/\P (l.getD j default))↔(∀x∈l,0<f x/\P x)/\H6 f AGl l:=by
 constructor
 · intro h;have step:∀j,j+1<l.length->f (l.getD j default)<f (l.getD (j+1) default):=fun j Ay=>by
    have:=(h (j+1) Ay).1;simp only[Nh]at this;omega
   have up:∀d i,i+d+1<l.length->f (l.getD i default)<f (l.getD (i+d+1) default):=by
    intro d;induction d with
    |zero=>exact fun i Ag=>step i Ag
    |succ d Cg=>
     intro i Ag;have Af:=Cg i AGn;have h2:=step (i+d+1) AGn;rw[show i+(d+1)+1=i+d+1+1 by omega];omega
   have pos:∀j,j<l.length->0<f (l.getD j default):=by
    intro j Ay;have Bw:=(h 0 AGn).1;have Bw:¬f (l.getD 0 default)<=0:=Bw;rcases Nat.eq_zero_or_pos j with e|e
    · subst e;omega
    · have:=up (j-1) 0 AGn;rw[show 0+(j-1)+1=j by omega]at this;omega
   refine⟨fun x Ab=>?_,ACW.2 fun i j Ag Ay GQ=>?_⟩
   · obtain⟨j,Ay,rfl⟩:=UP Ab;exact⟨pos j Ay,(h j Ay).2⟩
   · have:=up (j-i-1) i AGn;rw[show i+(j-i-1)+1=j by omega,G3 Ag,G3 Ay]at this;exact ABG this
 · rintro⟨Af,h2⟩ j Ay;obtain⟨p,q⟩:=Af _ (Hl Ay);refine⟨?_,q⟩;cases j with
   |zero=>
    show ¬f (l.getD 0 default)<=0;omega
   |succ j=>
    have:=ABA (ACW.1 h2 j (j+1) AGn Ay AGn);rw[<-G3 AGn,<-G3 Ay]at this;show ¬f (l.getD (j+1) default)<=f (l.getD j default);omega
-- marks
structure dq (m:BL):Prop where
 hH:m.Ap<=8
 L3:0<=m.As
 Ey:m.As<=EW
 op:m.HV=true->¬m.As=0/\m.Cm=GS
theorem Rl{l:List BL}:Fg l=true↔(∀m∈l,0<m.Ap/\dq m)/\H6 (·.Ap) AGl l:=by
 rw[<-lj (f:=fun m:BL=>m.Ap) (P:=dq),Fg,Nz];refine forall_congr' fun j=>imp_congr_right fun Ay=>?_;simp only[fk,ABe,ABD,ACu,ABI,ABl,ABa];constructor
 · rintro⟨⟨⟨⟨a,b⟩,c⟩,d⟩,e⟩;refine⟨a,AGn,AGn,AGn,fun A7=>?_⟩;rcases e with e|e
   · rw[A7]at e;cases e
   · exact e
 · rintro⟨a,b,c,d,e⟩;refine⟨⟨⟨⟨a,AGn⟩,AGn⟩,AGn⟩,?_⟩;cases A7:(l.getD j default).HV with
   |false=>exact .inl rfl
   |true=>exact .inr (e A7)
theorem bG{l:List BL}{m:BL}(h:Fg l=true)(Bw:0<m.Ap)(hm:dq m):Fg (LP l m)=true:=by
 obtain⟨Af,h2⟩:=Rl.1 h;refine Rl.2 ⟨fun x Ab=>?_,W4 N1 h2⟩;rcases(PJ N1 h2).1 Ab with rfl|Ab
 · exact⟨Bw,hm⟩
 · exact Af x Ab.1
theorem zM{l:List BL}{c:Int}(h:(FU l c).2=true):Fg l=true/\(FU l c).1∈l/\(FU l c).1.Ap=c:=by
 unfold FU at h ⊢;split at h
 · cases h
 · rename_i hm;have hm:Fg l=true:=(by simpa using hm);split at h
   · cases h
   · rename_i Ag;have Ag:G9 (·.Ap) AGl c l=true:=(by simpa using Ag);rw[AA9 (by rw[hm];decide),AA9 (by rw[Ag];decide)];obtain⟨a,b⟩:=ZX N1 (Rl.1 hm).2 Ag;exact⟨hm,Hl a,b⟩
theorem nw{l:List BL}{c q:Int}(h:(IS l c q).2.2=0):Fg (IS l c q).1=true:=by
 unfold IS at h ⊢;split at h
 · cases h
 · rename_i hm;have hm:Fg l=true:=(by simpa using hm);rw[AA9 (by rw[hm];decide)];split at h
   · cases h
   · rename_i AK;rw[AA9 AK];simp only[ABk,ABa,ABN]at AK;split at h
     · cases h
     · rename_i Af;rw[AA9 Af];split
       · exact hm
       · exact bG hm (by show 0<c;omega) ⟨by show c<=8;omega,by show 0<=q;omega,by show q<=EW;omega,fun _=>⟨by show ¬q=0;omega,rfl⟩⟩
theorem fs{l:List BL}{c q:Int}(h:KQ l c q=0):Fg l=true/\(FU l c).1∈l/\(FU l c).1.Ap=c/\(FU l c).1.As=q/\(FU l c).1.HV=true:=by
 unfold KQ at h;split at h
 · cases h
 · split at h
   · cases h
   · rename_i h2;simp only[ABk,ABN,ABe,AB_,ABa]at h2;obtain⟨⟨a,b⟩,d⟩:=h2;obtain⟨x,y,z⟩:=zM a;exact⟨x,y,z,b,d⟩
theorem y1{l:List BL}{c q:Int}{a:De}(h:(Oe l c q a).2=0):Fg (Oe l c q a).1=true:=by
 unfold Oe at h ⊢;split at h
 · rename_i Ao;exact absurd h Ao
 · rename_i Ao;have A7:KQ l c q=0:=ACD.1 Ao;rw[AA9 Ao];obtain⟨x,y,z,b,d⟩:=fs A7;obtain⟨Bw,hm⟩:=(Rl.1 x).1 _ y;exact bG x (by show 0<c;omega) ⟨by show c<=8;have:=hm.hH;omega,by show 0<=q;have:=hm.L3;omega,by show q<=EW;have:=hm.Ey;omega,fun e=>by cases e⟩
theorem rj{l:List BL}{c q:Int}(h:(G' l c q).2=0):Fg (G' l c q).1=true:=by
 unfold G' at h ⊢;split at h
 · rename_i Ao;exact absurd h Ao
 · rename_i Ao;have A7:KQ l c q=0:=ACD.1 Ao;rw[AA9 Ao];obtain⟨x,y,z,b,d⟩:=fs A7;obtain⟨Bw,hm⟩:=(Rl.1 x).1 _ y;have:=hm.L3;have:=hm.Ey;have:=(hm.op d).1;exact bG x (by show 0<c;omega) ⟨by show c<=8;have:=hm.hH;omega,by show 0<=q-1;omega,by show q-1<=EW;omega,fun e=>by cases e⟩
theorem Ac5{a b:List BL}(h:(M_ a b).2=0):Fg (M_ a b).1=true:=by
 unfold M_ at h ⊢;split at h
 · cases h
 · rename_i Ao;rw[AA9 Ao];have Ao:(Fg a&&Fg b)=true:=(by simpa using Ao);rw[ABb]at Ao;obtain⟨AK,Aq⟩:=Ao;have Bm:=(Rl.1 Aq).1;clear Aq;show Fg (b.foldl Ld a)=true;clear h;clear Ao;induction b generalizing a with
   |nil=>exact AK
   |cons m r Cg=>
    rw[ACO];refine Cg ?_ fun x Ab=>Bm x (ABR _ Ab);unfold Ld;split
    · exact bG AK (Bm m (ABx ..)).1 (Bm m (ABx ..)).2
    · exact AK
-- ends
theorem au{l:List Df}:HE l=true↔(∀e∈l,0<e.Ap/\Jj e.Ap e.As=true)/\H6 (·.Ap) AGl l:=by
 rw[<-lj (f:=fun m:Df=>m.Ap) (P:=fun e=>Jj e.Ap e.As=true),HE,Nz];refine forall_congr' fun j=>imp_congr_right fun Ay=>?_;simp only[ABe,ABD,ABI,ABl]
theorem h5(l:List Df)(c:Int):H_ l c<=l.length:=by
 unfold H_;cases h:Gd l.length (fun j=>decide ((l.getD j default).Ap>=c))with
 |none=>exact ABW _
 |some j=>exact Nat.le_of_lt (Q4 h)
theorem yW{l:List Df}(c:Int):(∀j,j<l.length->j<H_ l c->(l.getD j default).Ap<c)/\(H_ l c<l.length->c<=(l.getD (H_ l c) default).Ap):=by
 unfold H_;cases h:Gd l.length (fun j=>decide ((l.getD j default).Ap>=c))with
 |none=>
  refine⟨fun j Ay _=>?_,fun AN=>absurd AN (Nat.lt_irrefl _)⟩;have:=List.find?_eq_none.1 h j (ABw.2 Ay);simp only[ABa]at this;omega
 |some k=>
  have AE:=ADz.1 h;refine⟨fun j Ay Tq=>?_,fun _=>?_⟩
  · have:=AE.2.2 j Tq;simp only[ABe,ABl]at this;omega
  · have:=AE.1;simp only[ABa]at this;exact this
theorem oF{l:List Df}(h:H6 (·.Ap) AGl l)(c:Int):H_ l c=Cz (·.Ap) AGl c l:=by
 obtain⟨a,b⟩:=yW (l:=l) c;obtain⟨p,q⟩:=fD N1 h c;have Om:=h5 l c;have Sl:=St (key:=fun e:Df=>e.Ap) (lt:=AGl) c l;rcases Nat.lt_trichotomy (H_ l c) (Cz (·.Ap) AGl c l)with g|g|g
 · have Af:=b AGn;have h2:=ABA (p _ AGn g);rw[<-G3 AGn]at h2;omega
 · exact g
 · have Af:=a _ AGn g;have h2:=ACe (q _ AGn (ABW _));rw[<-G3 AGn]at h2;omega
theorem AcQ{l:List Df}(h:H6 (·.Ap) AGl l)(c:Int):Sj l c=G9 (·.Ap) AGl c l:=by
 rw[Sj,G9,oF h]
theorem sF{l:List Df}{c q:Int}(h:(Kv l c q).2=0):HE (Kv l c q).1=true:=by
 unfold Kv at h ⊢;split at h
 · cases h
 · rename_i he;have he:HE l=true:=(by simpa using he);rw[AA9 (by rw[he];decide)];split at h
   · cases h
   · rename_i hw;rw[AA9 hw];have hw:Jj c q=true:=(by simpa using hw);obtain⟨Af,h2⟩:=au.1 he;have Bm:0<c:=by
      simp only[Jj,ABb,ABa]at hw;omega
     rw[AcQ h2,oF h2];cases Ag:G9 (·.Ap) AGl c l with
     |false=>
      rw[AA_ rfl];have e:FO (Cz (·.Ap) AGl c l) ⟨c,q⟩ l=FQ (·.Ap) AGl ⟨c,q⟩ l:=(by rw[FQ,AA9 (by rw[Ag];decide)]);show HE (FO (Cz (·.Ap) AGl c l) ⟨c,q⟩ l)=true;rw[e];refine au.2 ⟨fun x Ab=>?_,W4 N1 h2⟩;rcases(PJ N1 h2).1 Ab with rfl|Ab
      · exact⟨Bm,hw⟩
      · exact Af x Ab.1
     |true=>
      rw[AA9 AGp];obtain⟨a,b⟩:=ZX N1 h2 Ag;obtain⟨RF,N8⟩:=Af _ (Hl a);generalize Ab:({l.getD (Cz (·.Ap) AGl c l) default with As:=max (l.getD (Cz (·.Ap) AGl c l) default).As q}:Df)=x;have AlA:x.Ap=c:=(by rw[<-Ab];exact b);have mF:Jj x.Ap x.As=true:=by
       rw[<-Ab];simp only[Jj,ABb,ABa]at hw N8 ⊢;omega
      have e:l.set (Cz (·.Ap) AGl c l) x=FQ (·.Ap) AGl x l:=(by rw[FQ,AlA,AA_ Ag]);show HE (l.set (Cz (·.Ap) AGl c l) x)=true;rw[e];refine au.2 ⟨fun y Bf=>?_,W4 N1 h2⟩;rcases(PJ N1 h2).1 Bf with rfl|Bf
      · exact⟨AGn,mF⟩
      · exact Af y Bf.1
theorem Ac1{a b:List Df}(h:(Ok a b).2=0):HE (Ok a b).1=true:=by
 unfold Ok at h ⊢;split at h
 · cases h
 · rename_i Ao;rw[AA9 Ao];have Ao:(HE a&&HE b)=true:=(by simpa using Ao);rw[ABb]at Ao;obtain⟨AK,Aq⟩:=Ao;have Bm:=(au.1 Aq).1;clear Aq;show HE (b.foldl (fun out x=>(Kv out x.Ap x.As).1) a)=true;clear h;clear Ao;induction b generalizing a with
   |nil=>exact AK
   |cons m r Cg=>
    rw[ACO];have hm:=(Bm m (ABx ..)).2;refine Cg (sF ?_) fun x Ab=>Bm x (ABR _ Ab);unfold Kv;rw[AA9 (by rw[AK];decide),AA9 (by rw[hm];decide)];split<;>rfl
def fX(a b:Bx):Prop:=a.Ap=b.Ap/\a.As=b.As
def YB(c q:Int)(d:Bx):Prop:=d.Ap=c/\d.As=q
theorem kQ{l:List Bx}{c q:Int}{j:Nat}:Kt l c q=some j↔j<l.length/\YB c q (l.getD j default)/\∀k,k<j->¬YB c q (l.getD k default):=by
 unfold Kt Gd YB;rw[ADz];simp only[ABb,ABa,ABw,ABe,ACu,ABl];constructor
 · rintro⟨a,b,d⟩;exact⟨b,a,fun k AE=>by have:=d k AE;intro e;omega⟩
 · rintro⟨b,a,d⟩;exact⟨a,b,fun k AE=>by have:=d k AE;omega⟩
theorem Ahp{l:List Bx}{c q:Int}:Kt l c q=none↔∀d∈l,¬YB c q d:=by
 unfold Kt Gd YB;rw[List.find?_range_eq_none];constructor
 · intro h d AJ;obtain⟨j,Ay,rfl⟩:=UP AJ;have:=h j Ay;simp only[ABe,ACu,ABl]at this;omega
 · intro h j Ay;have:=h _ (Hl Ay);simp only[ABe,ACu,ABl];omega
theorem Aho{o:Option Nat}:HI o<0↔o=none:=by cases o<;>simp[HI]
theorem Ahn{o:Option Nat}{j:Nat}:HI o=(j:Int)↔o=some j:=by
 cases o with
 |none=>simp[HI]
 |some k=>
  simp only[HI,ABX];omega
theorem UB{l:List Bx}:Is l=true↔l.length<=4/\(∀d∈l,M1 d=true)/\l.Pairwise (fun a b=>¬fX a b):=by
 unfold Is;have key:allI l.length (fun j=> !ab l j)=true↔(∀d∈l,M1 d=true)/\l.Pairwise (fun a b=>¬fX a b):=by
  rw[Nz];have e:∀j,(!ab l j)=true↔M1 (l.getD j default)=true/\Kt l (l.getD j default).Ap (l.getD j default).As=some j:=fun j=>by
   simp only[ab,ABe,ABD,ABI,ABa,Ahn]
  simp only[e];constructor
  · intro h;refine⟨fun d AJ=>?_,ACW.2 fun i j Ag Ay GQ hs=>?_⟩
    · obtain⟨j,Ay,rfl⟩:=UP AJ;exact(h j Ay).1
    · have:=(kQ.1 (h j Ay).2).2.2 i GQ;rw[G3 Ag,G3 Ay]at this;exact this hs
  · rintro⟨Af,h2⟩ j Ay;refine⟨Af _ (Hl Ay),kQ.2 ⟨Ay,⟨rfl,rfl⟩,fun k AE hs=>?_⟩⟩;have:=ACW.1 h2 k j AGn Ay AE;rw[G3 (show k<l.length by omega),G3 Ay]at hs;exact this hs
 split
 · rename_i Ao;simp only[ABa]at Ao;exact⟨fun h=>(by cases h),fun h=>absurd h.1 AGn⟩
 · rename_i Ao;simp only[ABa]at Ao;rw[key];exact⟨fun h=>⟨AGn,h⟩,fun h=>h.2⟩
theorem V'{l:List Bx}{c q:Int}(h:(F1 l c q).2=0):Is l=true/\(F1 l c q).1.toNat<l.length/\Kt l c q=some (F1 l c q).1.toNat/\YB c q (l.getD (F1 l c q).1.toNat default):=by
 unfold F1 at h ⊢;split at h
 · cases h
 · rename_i AJ;rw[AA9 AJ];split at h
   · cases h
   · rename_i AH;rw[AA9 AH];have AJ:Is l=true:=(by simpa using AJ);cases A7:Kt l c q with
     |none=>rw[A7]at AH;exact absurd (show HI none<0 by decide) AH
     |some j=>
      obtain⟨a,b,_⟩:=kQ.1 A7;exact⟨AJ,a,rfl,b⟩
theorem od{l:List Bx}{i:Nat}{d:Bx}(h:Is l=true)(Ag:i<l.length)(hm:M1 d=true)(hs:fX d (l.getD i default)):Is (l.set i d)=true:=by
 obtain⟨Af,h2,Bo⟩:=UB.1 h;refine UB.2 ⟨by rw[ABj];exact Af,fun x Ab=>?_,ACW.2 fun a b AK Aq Abh=>?_⟩
 · rcases List.mem_or_eq_of_mem_set Ab with Ab|rfl
   · exact h2 x Ab
   · exact hm
 · rw[ABj]at AK Aq;rw[G3 Ag]at hs;have:=ACW.1 Bo a b AK Aq Abh;rw[ADQ,ADQ];split
   · rename_i e;subst e;rw[AA9 AGn];exact fun q=>this ⟨hs.1.symm.trans q.1,hs.2.symm.trans q.2⟩
   · split
     · rename_i e;subst e;exact fun q=>this ⟨q.1.trans hs.1,q.2.trans hs.2⟩
     · exact this
theorem rU{l:List Bx}{d:Bx}(h:(Mf l d).2=0):Is (Mf l d).1=true/\(Mf l d).1=l++[d]/\Is l=true/\M1 d=true/\Kt l d.Ap d.As=none/\l.length<4:=by
 unfold Mf at h ⊢;split at h
 · cases h
 · rename_i DP;rw[AA9 DP];split at h
   · cases h
   · rename_i EK;rw[AA9 EK];split at h
     · cases h
     · rename_i FR;rw[AA9 FR];split at h
       · cases h
       · rename_i Iz;rw[AA9 Iz];have DP:Is l=true:=(by simpa using DP);simp only[ABk,ABN,ABe,AB_,ABa]at EK FR;obtain⟨Af,h2,Bo⟩:=UB.1 DP;have Ao:Kt l d.Ap d.As=none:=Aho.1 AGn;refine⟨UB.2 ⟨by show(l++[d]).length<=4;rw[List.length_append];simp only[ABv,ABo];omega,fun x Ab=>?_,List.pairwise_append.2 ⟨Bo,List.pairwise_singleton _ _,fun x Ab y Bf=>?_⟩⟩,rfl,DP,EK.1.1.1,Ao,AGn⟩
         · rcases ABm.1 Ab with Ab|Ab
           · exact h2 x Ab
           · rw[ADe.1 Ab];exact EK.1.1.1
         · rw[ADe.1 Bf];exact Ahp.1 Ao x Ab
theorem dV{d:Bx}:M1 d=true↔V2 d=false/\ae d=false/\(d.C3=JN d.DN d.DO\/JN d.DN d.DO=0/\d.C3=2):=by
 unfold M1;cases V2 d<;>cases ae d<;>simp
theorem Ajd{d:Bx}{m i:Bool}(h:M1 d=true):M1 (TT d m i).1=true/\fX (TT d m i).1 d:=by
 by_cases Bm:(!decide (d.C3=0)|| !decide ((if m=true then d.DN else d.DO)=0))=true
 · rw[TT,AA_ Bm];exact⟨h,rfl,rfl⟩
 · rw[TT,AA9 Bm];obtain⟨a,b,_⟩:=dV.1 h;have AK:=a;simp only[V2,ABD,ABl,ABI]at AK;cases m<;>cases i<;>refine⟨dV.2 ⟨?_,b,.inl rfl⟩,rfl,rfl⟩<;>simp only[V2,ABD,ABl,ABI,if_true,if_false,ADJ]<;>exact⟨⟨⟨⟨⟨⟨AK.1.1.1.1.1.1,AK.1.1.1.1.1.2⟩,AK.1.1.1.1.2⟩,AGn⟩,AGn⟩,AGn⟩,AGn⟩
theorem cC{l:List Bx}{c q:Int}{m i:Bool}(h:(Jk l c q m i).2.2=0):Is (Jk l c q m i).1=true:=by
 unfold Jk at h ⊢;split at h
 · rename_i Ao;exact absurd h Ao
 · rename_i Ao;rw[AA9 Ao];obtain⟨a,b,_,_⟩:=V' (ACD.1 Ao);obtain⟨x,y⟩:=Ajd (m:=m) (i:=i) ((UB.1 a).2.1 _ (Hl b));exact od a b x y
theorem pb{l:List Bx}{c q:Int}(h:(NJ l c q).2.2=0):Is (NJ l c q).1=true:=by
 unfold NJ at h ⊢;split at h
 · rename_i Ao;exact absurd h Ao
 · rename_i Ao;rw[AA9 Ao];obtain⟨a,b,_,_⟩:=V' (ACD.1 Ao);split
   · rename_i Bw;obtain⟨x,y,z⟩:=dV.1 ((UB.1 a).2.1 _ (Hl b));refine od a b (dV.2 ⟨x,y,?_⟩) ⟨rfl,rfl⟩;rcases z with z|z
     · exact .inr ⟨z.symm.trans Bw,rfl⟩
     · exact .inr ⟨z.1,rfl⟩
   · exact a
theorem zV{l:List Bx}{c q:Int}(h:(OP l c q).2=0):Is (OP l c q).1=true:=by
 unfold OP at h ⊢;split at h
 · rename_i Ao;exact absurd h Ao
 · rename_i Ao;rw[AA9 Ao];obtain⟨a,b,_,_⟩:=V' (ACD.1 Ao);split at h
   · cases h
   · rename_i BI;rw[AA9 BI];obtain⟨Af,h2,Bo⟩:=UB.1 a;exact UB.2 ⟨ABB (List.length_eraseIdx_le ..) Af,fun x Ab=>h2 x (List.mem_of_mem_eraseIdx Ab),Bo.sublist (List.eraseIdx_sublist ..)⟩
structure dp (h:BD):Prop where
 nd:h.Bn<=5
 le:1<=h.G0
 up:0<=h.DV
 GV:0<=h.Fc
theorem ba{l:List BD}:LI l=true↔(∀h∈l,0<h.Bn/\dp h)/\H6 (·.Bn) AGl l:=by
 rw[<-lj (f:=fun m:BD=>m.Bn) (P:=dp),LI,Nz];refine forall_congr' fun j=>imp_congr_right fun Ay=>?_;simp only[eU,ABe,ABD,ABl];constructor
 · rintro⟨⟨⟨⟨a,b⟩,c⟩,d⟩,e⟩;exact⟨a,AGn,AGn,AGn,AGn⟩
 · rintro⟨a,b,c,d,e⟩;exact⟨⟨⟨⟨a,AGn⟩,AGn⟩,AGn⟩,AGn⟩
structure Fw (a:AD):Prop where
 key:Ix a.Al=true
 BQ:a.Cs.A6<=a.BT
 Ag:a.BT<=a.Cs.Bc
 rd:0<=a.Cn
 hold:LI a.A0=true
 up:I7 a<=a.Cs.Bc
 GV:a.Cs.A6<=IU a
 YK:a.BG.Ap=0->a.BG=XG
 Om:¬a.BG.Ap=0->Sk a.BG=true/\a.A0=[]/\a.Cs.A6<=a.BT+a.BG.B2/\a.BT+a.BG.B2<=a.Cs.Bc
theorem YY{k:ByteArray}:Ix k=true↔¬(k.size:Int)<1/\¬(k.size:Int)>16:=by
 simp only[Ix,ABb,ABa];omega
theorem eJ{s:GC}{v:Int}:Rb s v=true↔s.A6<=v/\v<=s.Bc:=by simp only[Rb,ABb,ABa]
theorem ib{a:AD}{l:F_}(hs:a.Cs.wf):UJ a l=true↔a.Cs.A6<=a.BT+l.B2/\a.BT+l.B2<=a.Cs.Bc:=by
 obtain⟨⟨s1,s2⟩,IK,Jy⟩:=hs;unfold UJ;cases e:J3 (a.BT+l.B2)with
 |true=>
  rw[(Vn e).1,(Vn e).2,ABG rfl,Bool.true_and];exact eJ
 |false=>
  rw[(tL e).1,(tL e).2];simp only[J3,ACu,ABl]at e;exact⟨fun h=>(by cases h),fun h=>AGn⟩
theorem P3{a:AD}(hs:a.Cs.wf):E4 a=true↔Fw a:=by
 obtain⟨⟨s1,s2⟩,IK,Jy⟩:=id hs;constructor
 · intro h;unfold E4 at h;split at h
   · cases h
   · rename_i Af;split at h
     · cases h
     · rename_i h2;simp only[VO,ABk,ABa,ABN,ABe,AB_]at Af;obtain⟨⟨⟨⟨A1,AY⟩,Aq⟩,Bh⟩,hh⟩:=Af;simp only[XQ,ABk,ABa,ABN,ABe,AB_,ABb]at h2;obtain⟨⟨⟨gx,d0⟩,Zp⟩,d1⟩:=h2;have Vq:J3 (I7 a)=true:=by
        cases e:J3 (I7 a)with
        |true=>rfl
        |false=>rw[No,AA9 (by rw[e];decide)]at gx;cases gx
       have dW:J3 (IU a)=true:=by
        cases e:J3 (IU a)with
        |true=>rfl
        |false=>rw[No,AA9 (by rw[e];decide)]at d0;cases d0
       rw[Lo,AA_ Vq]at Zp;rw[Lo,AA_ dW]at d1;obtain⟨CY,Dh⟩:=eJ.1 Aq;refine⟨YY.2 ⟨A1,AY⟩,CY,Dh,AGn,hh,AGn,AGn,fun e=>?_,fun e=>?_⟩
       · rw[AA_ (ABG e)]at h;exact ABA h
       · rw[AA9 (by rw[ABM e];decide)]at h;simp only[ABb,ABa]at h;obtain⟨⟨x,y⟩,z⟩:=h;exact⟨x,ADd.1 AGn,(ib hs).1 z⟩
 · intro h;have Hj:=cR h.hold;have G1:=ag h.hold;have:=h.BQ;have:=h.Ag;have:=h.up;have:=h.GV;have Vq:J3 (I7 a)=true:=(by simp only[J3,ABb,ABa];omega);have dW:J3 (IU a)=true:=(by simp only[J3,ABb,ABa];omega);have B4:VO a=false:=by
    obtain⟨A1,AY⟩:=YY.1 h.key;have Aq:Rb a.Cs a.BT=true:=eJ.2 ⟨h.BQ,h.Ag⟩;have Bh:¬a.Cn<0:=(by have:=h.rd;omega);simp only[VO,ABM A1,ABM AY,ABM Bh,Aq,h.hold];rfl
   have DC:XQ a=false:=by
    have Ey:¬I7 a>a.Cs.Bc:=AGn;have Ez:¬IU a<a.Cs.A6:=AGn;rw[XQ,(Vn Vq).1,(Vn Vq).2,(Vn dW).1,(Vn dW).2,ABM Ey,ABM Ez];rfl
   rw[E4,B4,AA9 AGp,DC,AA9 AGp];by_cases e:a.BG.Ap=0
   · rw[AA_ (ABG e)];exact ABG (h.YK e)
   · rw[AA9 (by rw[ABM e];decide)];obtain⟨x,y,z⟩:=h.Om e;rw[x,(ib hs).2 z,y];rfl
structure D3 (a:AD):Prop where
 wf:a.wf
 A7:∀h∈a.A0,h.wf
theorem D3.sp{a:AD}(h:D3 a):a.Cs.wf:=h.wf.2.1
theorem Fw.acc{a:AD}(h:Fw a)(w:D3 a):E4 a=true:=(P3 w.sp).2 h
theorem gy{a:AD}(h:G_ a=false):a.BG.Ap=0:=by simpa[G_]using h
theorem locked{a:AD}(h:G_ a=true):¬a.BG.Ap=0:=by simpa[G_]using h
theorem sQ{a:AD}(w:D3 a)(h:Fw a)(AN:G_ a=false):Jx a=a.Cs.Bc-I7 a:=by
 obtain⟨⟨s1,s2⟩,IK,Jy⟩:=w.sp;have Hj:=cR h.hold;have:=h.BQ;have:=h.up;have Vq:J3 (I7 a)=true:=by simp only[J3,ABb,ABa];omega
 rw[Jx,h.acc w,AN,AA9 AGp,(Vn Vq).1];omega
theorem oP{a:AD}(w:D3 a)(h:Fw a)(AN:G_ a=false):K4 a=IU a-a.Cs.A6:=by
 obtain⟨⟨s1,s2⟩,IK,Jy⟩:=w.sp;have Hj:=ag h.hold;have:=h.Ag;have:=h.GV;have Vq:J3 (IU a)=true:=by simp only[J3,ABb,ABa];omega
 rw[K4,h.acc w,AN,AA9 AGp,(Vn Vq).1];omega
theorem Akx(a:AD)(n:Int):I7 {a with BT:=n}=n-a.BT+I7 a:=by unfold I7;simp only;omega
theorem yC(a:AD)(n:Int):IU {a with BT:=n}=n-a.BT+IU a:=by unfold IU;simp only;omega
theorem ZU{a:AD}{n:Int}(w:D3 a)(Ao:A' n)(h:(JF a n).2=0):Fw a/\G_ a=false/\(JF a n).1={a with BT:=a.BT+n}/\Fw (JF a n).1/\D3 (JF a n).1:=by
 unfold JF at h ⊢;split at h
 · cases h
 · rename_i Af;rw[AA9 Af];have AK:Fw a:=(P3 w.sp).1 (by simpa using Af);split at h
   · cases h
   · rename_i h2;rw[AA9 h2];split at h
     · cases h
     · rename_i Bo;rw[AA9 Bo];have AN:G_ a=false:=(by simpa using Bo);split at h
       · cases h
       · rename_i BB;rw[AA9 BB];obtain⟨HG,MF⟩:=Ao;obtain⟨⟨s1,s2⟩,IK,Jy⟩:=w.sp;have Hj:=cR AK.hold;have G1:=ag AK.hold;have DP:=AK.BQ;have EK:=AK.Ag;have FR:=AK.up;have Iz:=AK.GV;simp only[dw,sQ w AK AN,oP w AK AN,ABk,ABb,ABa,ABN,not_and]at BB;have Aq:a.Cs.A6<=a.BT+n/\a.BT+n<=a.Cs.Bc/\I7 a+n<=a.Cs.Bc/\a.Cs.A6<=IU a+n:=by
          rcases Int.lt_trichotomy n 0 with q|q|q
          · have:=BB.2 q;omega
          · exact absurd q h2
          · have:=BB.1 q;omega
         obtain⟨CY,Dh,DQ,En⟩:=Aq;refine⟨AK,AN,rfl,⟨AK.key,CY,Dh,AK.rd,AK.hold,?_,?_,AK.YK,fun e=>absurd (gy AN) e⟩,⟨w.wf.1,w.wf.2.1,⟨by show-9223372036854775808<=a.BT+n;omega,by show a.BT+n<=9223372036854775807;omega⟩,w.wf.2.2.2.1,trivial,w.wf.2.2.2.2.2⟩,w.A7⟩
         · rw[Akx];show a.BT+n-a.BT+I7 a<=a.Cs.Bc;omega
         · rw[yC];show a.Cs.A6<=a.BT+n-a.BT+IU a;omega
theorem sN{a:AD}{r:Int}(h:Fw a)(Bh:0<=r):Fw {a with Cn:=r}:=⟨h.key,h.BQ,h.Ag,Bh,h.hold,h.up,h.GV,h.YK,h.Om⟩
theorem k_{a:AD}{r:Int}(h:D3 a)(Bh:A' r):D3 {a with Cn:=r}:=⟨⟨h.wf.1,h.wf.2.1,h.wf.2.2.1,Bh,trivial,h.wf.2.2.2.2.2⟩,h.A7⟩
theorem ig{a:AD}{r:Int}(w:D3 a)(h:Fw a)(Af:1<=r)(h2:r<=EW):(Mx a r).1={a with Cn:=if a.Cn=0 then r else a.Cn}/\Fw (Mx a r).1/\D3 (Mx a r).1:=by
 have e:Mx a r=(if a.Cn=0 then({a with Cn:=r},0)else(a,0)):=by
  rw[Mx,AA9 (by rw[h.acc w];decide),AA9 (by simp only[ABk,ABa];omega)]
 rw[e];split
 · exact⟨rfl,sN h AGn,k_ w ⟨AGn,by unfold EW at h2;omega⟩⟩
 · exact⟨rfl,h,w⟩
theorem l8{a:AD}(w:D3 a)(h:Fw a):(OA a).1={a with Cn:=0}/\Fw (OA a).1/\D3 (OA a).1:=by
 rw[OA,AA9 (by rw[h.acc w];decide)];exact⟨rfl,sN h AGn,k_ w DW⟩
theorem nD{a:AD}{s:GC}(w:D3 a)(hs:s.wf)(h:(Pu a s).2=0):(Pu a s).1={a with Cs:=s}/\Fw a/\Fw (Pu a s).1/\D3 (Pu a s).1/\(Io a).2=true:=by
 unfold Pu at h ⊢;split at h
 · rename_i Ao;exact absurd h Ao
 · rename_i Ao;rw[AA9 Ao];split at h
   · cases h
   · rename_i h2;rw[AA9 h2];have AE:LJ a=0:=ACD.1 Ao;unfold LJ at AE;split at AE
     · cases AE
     · rename_i A1;split at AE
       · cases AE
       · rename_i AY;have AK:Fw a:=(P3 w.sp).1 (by simpa using A1);have Av:(Io a).2=true:=(by simpa using AY);obtain⟨CY,Dh⟩:=eJ.1 (by simpa using h2:Rb s a.BT=true);have pV:a.A0=[]/\G_ a=false:=by
          unfold Io at Av;split at Av
          · cases Av
          · rename_i q;simp only[ABk,ABa,ABN,ABe,AB_,ACH]at q;exact⟨ADd.1 AGn,q.1.2⟩
         have u:I7 a=a.BT/\IU a=a.BT:=by
          unfold I7 IU;rw[pV.1];simp
         refine⟨rfl,AK,⟨AK.key,CY,Dh,AK.rd,AK.hold,?_,?_,AK.YK,fun e=>absurd (gy pV.2) e⟩,⟨⟨w.wf.1,hs,w.wf.2.2⟩,w.A7⟩,Av⟩
         · show I7 a<=s.Bc;omega
         · show s.A6<=IU a;omega
theorem t_{a:AD}:(Io a).2=true↔E4 a=true/\G_ a=false/\a.A0=[]:=by
 unfold Io;split
 · rename_i q;simp only[ABk,ABa,ABe]at q;constructor
   · intro h;cases h
   · rintro⟨Af,h2,Bo⟩;rw[Af,h2,Bo]at q;simp at q
 · rename_i q;simp only[ABk,ABa,ABN,ABe,AB_,ACH]at q;exact⟨fun _=>⟨q.1.1,q.1.2,ADd.1 AGn⟩,fun _=>rfl⟩
theorem Adb{a:AD}:LJ a=0↔(Io a).2=true:=by
 unfold LJ;constructor
 · intro h;split at h
   · cases h
   · split at h
     · cases h
     · rename_i q;simpa using q
 · intro h;rw[AA9 (by rw[(t_.1 h).1];decide),AA9 (by rw[h];decide)]
theorem gu{a:AD}{l:F_}(w:D3 a)(AN:l.wf)(h:(KA a l).2=0):(KA a l).1={a with BG:=l}/\Fw a/\(Io a).2=true/\Sk l=true/\a.Cs.A6<=a.BT+l.B2/\a.BT+l.B2<=a.Cs.Bc/\Fw (KA a l).1/\D3 (KA a l).1:=by
 unfold KA at h ⊢;split at h
 · cases h
 · rename_i Af;rw[AA9 Af];split at h
   · cases h
   · rename_i h2;rw[AA9 h2];split at h
     · rename_i Bo;exact absurd h Bo
     · rename_i Bo;rw[AA9 Bo];split at h
       · cases h
       · rename_i BB;rw[AA9 BB];have AK:Fw a:=(P3 w.sp).1 (by simpa using Af);have AE:Sk l=true:=(by simpa using h2);have Av:=Adb.1 (ACD.1 Bo);obtain⟨f1,f2⟩:=(ib w.sp).1 (by simpa using BB:UJ a l=true);obtain⟨_,_,t3⟩:=t_.1 Av;refine⟨rfl,AK,Av,AE,f1,f2,⟨AK.key,AK.BQ,AK.Ag,AK.rd,AK.hold,AK.up,AK.GV,fun e=>?_,fun _=>⟨AE,t3,f1,f2⟩⟩,⟨⟨w.wf.1,w.wf.2.1,w.wf.2.2.1,w.wf.2.2.2.1,trivial,AN⟩,w.A7⟩⟩;simp only[Sk,ABb,ABa]at AE;have e:l.Ap=0:=e;omega
theorem UK{a:AD}{c:Bool}(w:D3 a)(h:(D1 a c).2=0):Fw a/\G_ a=true/\(D1 a c).1={a with BT:=if c=true then a.BT+a.BG.B2 else a.BT,BG:=XG}/\Fw (D1 a c).1/\D3 (D1 a c).1:=by
 unfold D1 at h ⊢;split at h
 · cases h
 · rename_i Af;rw[AA9 Af];split at h
   · cases h
   · rename_i h2;rw[AA9 h2];have AK:Fw a:=(P3 w.sp).1 (by simpa using Af);have AN:G_ a=true:=(by simpa using h2);obtain⟨k,n,f1,f2⟩:=AK.Om (locked AN);obtain⟨⟨s1,s2⟩,IK,Jy⟩:=w.sp;have DP:=AK.BQ;have EK:=AK.Ag;have u:∀b:Int,I7 {a with BT:=b,BG:=XG}=b/\IU {a with BT:=b,BG:=XG}=b:=fun b=>by
      unfold I7 IU;simp only[n];simp
     refine⟨AK,AN,rfl,?_⟩;cases c with
     |true=>
      obtain⟨Zp,mg⟩:=u (a.BT+a.BG.B2);exact⟨⟨AK.key,f1,f2,AK.rd,AK.hold,AGu (AGt Zp) f2,AGu f1 (AGt mg.symm),fun _=>rfl,fun e=>absurd rfl e⟩,⟨⟨w.wf.1,w.wf.2.1,⟨by show-9223372036854775808<=a.BT+a.BG.B2;omega,by show a.BT+a.BG.B2<=9223372036854775807;omega⟩,w.wf.2.2.2.1,trivial,DW,DW,DW,DW⟩,w.A7⟩⟩
     |false=>
      obtain⟨Zp,mg⟩:=u a.BT;exact⟨⟨AK.key,DP,EK,AK.rd,AK.hold,AGu (AGt Zp) EK,AGu DP (AGt mg.symm),fun _=>rfl,fun e=>absurd rfl e⟩,⟨⟨w.wf.1,w.wf.2.1,w.wf.2.2.1,w.wf.2.2.2.1,trivial,DW,DW,DW,DW⟩,w.A7⟩⟩
theorem cH{β:Type}{key:β->Int}{f:β->Int}:∀{l:List β},l.Pairwise (fun a b=>AGl (key a) (key b)=true)->∀{x:β},x∈l->(l.map f).sum=f x+((l.filter (fun y=> !decide (key y=key x))).map f).sum
 |y::r,h,x,Ab=>by
  obtain⟨Af,h2⟩:=List.pairwise_cons.1 h;rcases ABf.1 Ab with rfl|Ab
  · have e:r.filter (fun y=> !decide (key y=key x))=r:=List.filter_eq_self.2 fun z Cu=>by
     have:=ABA (Af z Cu);rw[ABM AGn];rfl
    rw[List.filter_cons_of_neg (by simp),e];rfl
  · have FG:¬key y=key x:=by
     have:=ABA (Af x Ab);omega
    rw[List.filter_cons_of_pos (by rw[ABM FG];rfl),AB8,AB8,ADr,ADr,cH h2 Ab];omega
theorem oU{a:AD}{n:Int}(h:(IC a n).2=true):E4 a=true/\(IC a n).1∈a.A0/\(IC a n).1.Bn=n:=by
 unfold IC at h ⊢;split at h
 · cases h
 · rename_i Af;rw[AA9 Af];cases e:Gd a.A0.length (fun j=>decide ((a.A0.getD j default).Bn=n))with
   |none=>rw[e]at h;cases h
   |some j=>
    have Ay:=ADz.1 e;exact⟨by simpa using Af,Hl (Q4 e),ABA Ay.1⟩
theorem lf{a:AD}{n le r IG:Int}(w:D3 a)(h:(Mk a n le r IG).2=0):
 Fw a/\(IC a n).2=true/\(IC a n).1.G0=le/\¬a.Cn=0/\a.Cn=r/\IG<=(IC a n).1.DV/\ -(IC a n).1.Fc<=IG/\
 (Mk a n le r IG).1={a with BT:=a.BT+IG,A0:=a.A0.filter (fun h=> !decide (h.Bn=n))}/\Fw (Mk a n le r IG).1/\D3 (Mk a n le r IG).1:=by
 unfold Mk at h ⊢;split at h
 · cases h
 · rename_i Af;rw[AA9 Af];split at h
   · cases h
   · rename_i h2;rw[AA9 h2];split at h
     · cases h
     · rename_i Bo;rw[AA9 Bo];split at h
       · cases h
       · rename_i BB;rw[AA9 BB];have AK:Fw a:=(P3 w.sp).1 (by simpa using Af);simp only[ABk,ABN,ABe,AB_,ABa]at h2 Bo BB;obtain⟨f1,f2⟩:=h2;obtain⟨NY,MK⟩:=Bo;obtain⟨HG,MF⟩:=BB;obtain⟨_,hm,Ao⟩:=oU f1;obtain⟨Ey,Ez⟩:=ba.1 AK.hold;have B4:=cH (key:=fun h:BD=>h.Bn) (f:=fun h:BD=>h.DV) Ez hm;have DC:=cH (key:=fun h:BD=>h.Bn) (f:=fun h:BD=>h.Fc) Ez hm;simp only[Ao]at B4 DC;have CM:=(Ey _ hm).2;have hu:=CM.up;have AJ:=CM.GV;obtain⟨⟨s1,s2⟩,IK,Jy⟩:=w.sp;have FR:=AK.up;have Iz:=AK.GV;have Mz:LI (a.A0.filter (fun h=> !decide (h.Bn=n)))=true:=ba.2 ⟨fun x Ab=>Ey x (ABZ.1 Ab).1,Ez.filter _⟩;have Ab:∀b:AD,b={a with BT:=a.BT+IG,A0:=a.A0.filter (fun h=> !decide (h.Bn=n))}->I7 b<=a.Cs.Bc/\a.Cs.A6<=IU b/\b.BT<=I7 b/\IU b<=b.BT:=fun b Aq=>by
          have C':LI b.A0=true:=(by rw[Aq];exact Mz);have Hj:=cR C';have G1:=ag C';refine⟨?_,?_,Hj,G1⟩
          · rw[Aq];unfold I7 at FR ⊢;simp only;omega
          · rw[Aq];unfold IU at Iz ⊢;simp only;omega
         obtain⟨N8,OF,P1,P2⟩:=Ab _ rfl;have P1:a.BT+IG<=_:=P1;have P2:_<=a.BT+IG:=P2;have AN:a.BG.Ap=0:=by
          refine AEj fun e=>?_;rw[(AK.Om e).2.1]at hm;cases hm
         refine⟨AK,f1,f2,NY,MK,AGn,AGn,rfl,⟨AK.key,by show a.Cs.A6<=a.BT+IG;omega,by show a.BT+IG<=a.Cs.Bc;omega,AK.rd,Mz,N8,OF,AK.YK,fun e=>absurd AN e⟩,⟨⟨w.wf.1,w.wf.2.1,⟨by show-9223372036854775808<=a.BT+IG;omega,by show a.BT+IG<=9223372036854775807;omega⟩,w.wf.2.2.2.1,trivial,w.wf.2.2.2.2.2⟩,fun x Ab=>w.A7 x (ABZ.1 Ab).1⟩⟩
theorem AhI{β GA:Type}[Inhabited β][DecidableEq GA]{key:β->GA}{lt:GA->GA->Bool}(o:QL lt){x:β}{l:List β}(h:H6 key lt l):(FQ key lt x l).Perm (x::l.filter (fun y=> !decide (key y=key x))):=by
 have nd:∀{m:List β},H6 key lt m->m.Nodup:=fun hm=>List.nodup_iff_pairwise_ne.2 (hm.imp fun q e=>by subst e;rw[o.Si]at q;cases q);refine(List.perm_ext_iff_of_nodup (nd (W4 o h)) (List.nodup_cons.2 ⟨fun Ab=>?_,(nd h).sublist List.filter_sublist⟩)).2 fun y=>?_
 · have:=(ABZ.1 Ab).2;simp at this
 · rw[PJ o h,ABf,ABZ];simp
theorem se{β:Type}{f:β->Int}{l m:List β}(h:l.Perm m):(l.map f).sum=(m.map f).sum:=by
 induction h with
 |nil=>rfl
 |cons x _ Cg=>simp only[AB8,ADr,Cg]
 |swap x y l=>simp only[AB8,ADr];omega
 |trans _ _ a b=>exact a.trans b
theorem rB{v s:Int}(Bw:0<=v)(Af:v<=9223372036854775807)(hs:0<=s):v<=Iw v s/\Iw v s<=v+s/\Iw v s<=9223372036854775807:=by unfold Iw;omega
theorem tf{n k:Int}(AE:1<=k)(Ao:0<=n):0<=H' (JA n (k+1) k)/\H' (JA n (k+1) k)<=n:=by
 have e:JA n (k+1) k=n / (k+1):=by
  rw[JA,AA9 (by simp only[ABk,ABa];omega),AA9];have:=Int.emod_lt_of_pos n (show 0<k+1 by omega);omega
 have a:0<=n / (k+1):=Int.ediv_nonneg Ao AGn;have b:n / (k+1)<=n:=Int.ediv_le_self _ Ao;rw[e,H'];omega
theorem a_{a:AD}{n le:Int}(h:LI a.A0=true)(w:D3 a)(Ao:1<=n/\n<=5)(AN:1<=le/\le<=EW):
 (JW a n le).Bn=n/\dp (JW a n le)/\(JW a n le).wf/\((a.A0.map (·.DV)).sum=(JW a n le).DV+((a.A0.filter (fun y=> !decide (y.Bn=n))).map (·.DV)).sum)/\((a.A0.map (·.Fc)).sum=(JW a n le).Fc+((a.A0.filter (fun y=> !decide (y.Bn=n))).map (·.Fc)).sum):=by
 obtain⟨Ey,Ez⟩:=ba.1 h;unfold JW;cases Ag:G9 (·.Bn) AGl n a.A0 with
 |true=>
  rw[AA_ rfl];obtain⟨i1,i2⟩:=ZX N1 Ez Ag;have hm:=Hl (l:=a.A0) i1;have B4:=cH (key:=fun h:BD=>h.Bn) (f:=fun h:BD=>h.DV) Ez hm;have DC:=cH (key:=fun h:BD=>h.Bn) (f:=fun h:BD=>h.Fc) Ez hm;have i2:(a.A0.getD (Cz (·.Bn) AGl n a.A0) default).Bn=n:=i2;simp only[i2]at B4 DC;exact⟨i2,(Ey _ hm).2,w.A7 _ hm,B4,DC⟩
 |false=>
  rw[AA9 AGp];have e:a.A0.filter (fun y=> !decide (y.Bn=n))=a.A0:=List.filter_eq_self.2 fun z Cu=>by
   have:¬z.Bn=n:=fun e=>by rw[(br N1 Ez n).2 ⟨z,Cu,e⟩]at Ag;cases Ag
   rw[ABM this];rfl
  rw[e];unfold EW at AN;have i1:A' n:=⟨AGn,AGn⟩;have i2:A' le:=⟨AGn,AGn⟩;exact⟨rfl,⟨Ao.2,AN.1,ADn _,ADn _⟩,⟨i1,i2,DW,DW⟩,(Int.zero_add _).symm,(Int.zero_add _).symm⟩
theorem iv{a:AD}{n le k:Int}(w:D3 a)(h:(Kl a n le k).2=0):
 Fw a/\G_ a=false/\a.Cn=0/\1<=n/\n<=k/\k<=5/\1<=le/\le<=EW/\(Kl a n le k).1={a with A0:=FQ (·.Bn) AGl (Sn (JW a n le) (Jx a) (K4 a) k) a.A0}/\Fw (Kl a n le k).1/\D3 (Kl a n le k).1:=by
 unfold Kl at h ⊢;split at h
 · cases h
 · rename_i Af;rw[AA9 Af];split at h
   · cases h
   · rename_i h2;rw[AA9 h2];split at h
     · cases h
     · rename_i Bo;rw[AA9 Bo];have AK:Fw a:=(P3 w.sp).1 (by simpa using Af);simp only[ABk,ABa,ABN]at h2;simp only[ABk,ABN,ABe,AB_,ABa,ACH]at Bo;obtain⟨cg,AN⟩:=Bo;obtain⟨⟨⟨⟨⟨A1,Bd⟩,HG⟩,An5⟩,Om⟩,An2⟩:=h2;obtain⟨Ey,Ez⟩:=ba.1 AK.hold;obtain⟨Fb,az,zr,B4,DC⟩:=a_ (le:=le) AK.hold w (n:=n) ⟨AGn,AGn⟩ ⟨AGn,AGn⟩;obtain⟨⟨s1,s2⟩,IK,Jy⟩:=w.sp;have DP:=AK.BQ;have EK:=AK.Ag;have FR:=AK.up;have Iz:=AK.GV;have Hj:=cR AK.hold;have G1:=ag AK.hold;have Bh:=sQ w AK AN;have BI:=oP w AK AN;obtain⟨gx,Zp⟩:=tf (n:=Jx a) (k:=k) AGn AGn;obtain⟨d0,d1⟩:=tf (n:=K4 a) (k:=k) AGn AGn;obtain⟨Ua,Ub,⟨Xs,RD⟩,Ud,Xt⟩:=zr;obtain⟨Kq,YQ,An3⟩:=rB az.up RD gx;obtain⟨Ie,II,IJ⟩:=rB az.GV Xt d0;generalize Ab:Sn (JW a n le) (Jx a) (K4 a) k=x;have AlB:x.Bn=n:=(by rw[<-Ab];exact Fb);have Apl:x.DV=Iw (JW a n le).DV (H' (JA (Jx a) (k+1) k)):=(by rw[<-Ab];rfl);have Apj:x.Fc=Iw (JW a n le).Fc (H' (JA (K4 a) (k+1) k)):=(by rw[<-Ab];rfl);have uY:x.G0=(JW a n le).G0:=(by rw[<-Ab];rfl);have AlC:dp x:=⟨AGn,by rw[uY];exact az.le,by have:=az.up;omega,by have:=az.GV;omega⟩;have mF:x.wf:=⟨⟨AGn,AGn⟩,by rw[uY];exact Ub,⟨AGn,AGn⟩,⟨AGn,AGn⟩⟩;have AH:=AhI N1 (x:=x) Ez;have Rn:=se (f:=fun h:BD=>h.DV) AH;have WY:=se (f:=fun h:BD=>h.Fc) AH;simp only[AB8,ADr,AlB]at Rn WY;have Mz:LI (FQ (·.Bn) AGl x a.A0)=true:=ba.2 ⟨fun y Bf=>by
        rcases(PJ N1 Ez).1 Bf with rfl|Bf
        · exact⟨AGn,AlC⟩
        · exact Ey y Bf.1,W4 N1 Ez⟩
       refine⟨AK,AN,cg,AGn,AGn,AGn,AGn,AGn,rfl,⟨AK.key,DP,EK,AK.rd,Mz,?_,?_,AK.YK,fun e=>absurd (gy AN) e⟩,⟨w.wf,fun y Bf=>?_⟩⟩
       · unfold I7 at FR Bh ⊢;simp only;omega
       · unfold IU at Iz BI ⊢;simp only;omega
       · rcases(PJ N1 Ez).1 Bf with rfl|Bf
         · exact mF
         · exact w.A7 y Bf.1
def L7(n:Int):Prop:=0<=n/\n<=EW
structure m1 (S:Bv):Prop where
 no:S.Du=false->S.A6=ByteArray.empty/\S.Bc=ByteArray.empty/\S.Aj=[]/\S.AA=[]/\S.Bt=FP
 yes:S.Du=true->1<=S.Dn/\PQ S.A6 S.Bc=true
structure Ce (S:Bv):Prop where
 RZ:Ih S.CZ=true
 ix:L7 S.DX
 ON:L7 S.Dn
 hf:L7 S.Jc
 TO:L7 S.JL
 un:L7 S.GW
 own:m1 S
 len:S.Aj.length<=12
 acc:∀a∈S.Aj,Fw a/\D3 a/\F' S a.Al=true
 Ll:H6 (·.Al) Ds S.Aj
 marks:Fg S.Bz=true
 Me:∀m∈S.Bz,m.Cm.wf
 VZ:Is S.Bj=true
 ends:HE S.CX=true
 wl:S.AA.length<=8
 wt:∀x∈S.AA,Mr S x=true
 ww:∀x∈S.AA,x.wf
 Hc:S.Bt=FP\/LK S.Bt=true/\S.Bt.Hi=S.CZ/\S.Bt.Bc=S.Bc/\F' S S.Bt.A6=true
 out:S.CW=FP/\S.Cf=[]\/LK S.CW=true/\S.CW.Hi=S.CZ/\(Er S.Cf).2=0
theorem AjJ{l:List AD}:H6 (·.Al) Ds l↔∀j,j+1<l.length->Ds (l.getD j default).Al (l.getD (j+1) default).Al=true:=by
 constructor
 · intro h j Ay;have:=ACW.1 h j (j+1) AGn Ay AGn;rw[G3 AGn,G3 Ay];exact this
 · intro h;have up:∀d i,i+d+1<l.length->Ds (l.getD i default).Al (l.getD (i+d+1) default).Al=true:=by
    intro d;induction d with
    |zero=>exact fun i Ag=>h i Ag
    |succ d Cg=>exact fun i Ag=>lt_trans (Cg i AGn) (h (i+d+1) AGn)
   refine ACW.2 fun i j Ag Ay GQ=>?_;have:=up (j-i-1) i AGn;rw[show i+(j-i-1)+1=j by omega,G3 Ag,G3 Ay]at this;exact this
theorem Ado{a b:ByteArray}:fc a b=false↔Ds b a=true:=by
 unfold fc;rw[bA];simp
theorem n9{a b c d e:Int}:X1 [a,b,c,d,e]=true↔L7 a/\L7 b/\L7 c/\L7 d/\L7 e:=by
 rw[X1,Nz];constructor
 · intro h;have Bw:=h 0 (show 0<5 by decide);have Af:=h 1 (show 1<5 by decide);have h2:=h 2 (show 2<5 by decide);have Bo:=h 3 (show 3<5 by decide);have BB:=h 4 (show 4<5 by decide);simp only[AC7,ADb,ABe,ABD,ABl]at Bw Af h2 Bo BB;exact⟨⟨AGn,AGn⟩,⟨AGn,AGn⟩,⟨AGn,AGn⟩,⟨AGn,AGn⟩,⟨AGn,AGn⟩⟩
 · rintro⟨Bw,Af,h2,Bo,BB⟩ j Ay;unfold L7 at*;simp only[ABv,ABo]at Ay;rcases j with _|_|_|_|_|j
   · simp only[AC7,ADb,ABe,ABD,ABl];omega
   · simp only[AC7,ADb,ABe,ABD,ABl];omega
   · simp only[AC7,ADb,ABe,ABD,ABl];omega
   · simp only[AC7,ADb,ABe,ABD,ABl];omega
   · simp only[AC7,ADb,ABe,ABD,ABl];omega
   · omega
theorem bs{k:ByteArray}:isNil k=true↔k=ByteArray.empty:=by simp[isNil]
theorem r0{S:Bv}:YZ S=true↔m1 S:=by
 unfold YZ;constructor
 · intro h;cases e:S.Du with
   |false=>
    rw[AA_ (by rw[e];rfl)]at h;simp only[ABb,ABa,bs]at h;obtain⟨⟨⟨⟨a,b⟩,c⟩,d⟩,f⟩:=h;exact⟨fun _=>⟨a,b,ADd.1 AGn,ADd.1 AGn,f⟩,fun q=>(by rw[e]at q;cases q)⟩
   |true=>
    rw[AA9 (by rw[e];decide)]at h;simp only[ABb,ABa]at h;exact⟨fun q=>(by rw[e]at q;cases q),fun _=>⟨h.1,h.2⟩⟩
 · intro h;cases e:S.Du with
   |false=>
    obtain⟨a,b,c,d,f⟩:=h.no e;rw[AA_ AGq,a,b,c,d,f];rfl
   |true=>
    obtain⟨a,b⟩:=h.yes e;rw[AA9 AGp,b,ABG (show S.Dn>=1 from a)];rfl
theorem m7{S:Bv}(w:∀a∈S.Aj,D3 a):VP S=true↔S.Aj.length<=12/\(∀a∈S.Aj,Fw a/\FT a=false/\F' S a.Al=true)/\H6 (·.Al) Ds S.Aj:=by
 have e:∀j,j<S.Aj.length->((!dv S j)=true↔Fw (S.Aj.getD j default)/\FT (S.Aj.getD j default)=false/\F' S (S.Aj.getD j default).Al=true/\(0<j->Ds (S.Aj.getD (j-1) default).Al (S.Aj.getD j default).Al=true)):=fun j Ay=>by
  rw[<-P3 (w _ (Hl Ay)).sp];simp only[dv,ABe,ABD,ABI,ABa,ee,ACu,ABl,Ado];have q:((j:Int)-1).toNat=j-1:=AGn;rw[q];constructor
  · rintro⟨⟨⟨a,b⟩,c⟩,d⟩;exact⟨a,b,c,fun h=>d.resolve_left AGn⟩
  · rintro⟨a,b,c,d⟩;refine⟨⟨⟨a,b⟩,c⟩,?_⟩;by_cases h:0<j
    · exact .inr (d h)
    · exact .inl AGn
 unfold VP;by_cases AN:decide ((S.Aj.length:Int)>12)=true
 · rw[AA_ AN];simp only[ABa]at AN;exact⟨fun h=>(by cases h),fun h=>absurd h.1 AGn⟩
 · rw[AA9 AN,Nz,AjJ];simp only[ABa]at AN;constructor
   · intro h;refine⟨AGn,fun a AK=>?_,fun j Ay=>?_⟩
     · obtain⟨j,Ay,rfl⟩:=UP AK;obtain⟨x,y,z,_⟩:=(e j Ay).1 (h j Ay);exact⟨x,y,z⟩
     · exact((e (j+1) Ay).1 (h (j+1) Ay)).2.2.2 AGn
   · rintro⟨_,Af,h2⟩ j Ay;obtain⟨x,y,z⟩:=Af _ (Hl Ay);refine(e j Ay).2 ⟨x,y,z,fun Bw=>?_⟩;have:=h2 (j-1) AGn
     rwa [show j-1+1=j by omega]at this
theorem Zc{S:Bv}(w:∀a∈S.Aj,D3 a)(ww:∀x∈S.AA,x.wf)(Me:∀m∈S.Bz,m.Cm.wf):LN S=true↔Ce S/\∀a∈S.Aj,FT a=false:=by
 unfold LN;constructor
 · intro h;split at h
   · cases h
   rename_i Af;split at h
   · cases h
   rename_i h2;split at h
   · rename_i Bo;split at h
     · cases h
     rename_i BB;simp only[Zj,ABk,ABN,ABe,AB_]at Af;obtain⟨⟨⟨g,c⟩,o⟩,a⟩:=Af;obtain⟨dG,hB,xR,xS,xT⟩:=n9.1 c;obtain⟨DP,EK,FR⟩:=(m7 w).1 a;simp only[Zk,ABk,ABN,ABe,AB_,ABa,ee]at h2;obtain⟨⟨⟨m,d⟩,h4⟩,wl⟩:=h2;refine⟨⟨g,dG,hB,xR,xS,xT,r0.1 o,DP,fun x Ab=>⟨(EK x Ab).1,w x Ab,(EK x Ab).2.2⟩,FR,m,Me,d,h4,AGn,fun x Ab=>?_,ww,?_,?_⟩,fun x Ab=>(EK x Ab).2.1⟩
     · obtain⟨j,Ay,rfl⟩:=UP Ab;exact(Nz.1 Bo) j Ay
     · by_cases e:S.Bt=FP
       · exact .inl e
       · refine .inr ?_;simp only[Xe,ABb,ABk,not_and,ABN,ABe,AB_,ABl]at BB;obtain⟨⟨⟨x,y⟩,z⟩,u⟩:=BB e;exact⟨x,ACD.1 y,ACD.1 z,u⟩
     · split at h
       · rename_i e;have:=ABA h;exact .inl ⟨ABA e,ADd.1 AGn⟩
       · simp only[lW,ABb,ABa]at h;exact .inr ⟨h.1.1,h.1.2,h.2⟩
   · cases h
 · rintro⟨h,AH⟩;have Af:Zj S=false:=by
    have a:=(m7 w).2 ⟨h.len,fun x Ab=>⟨(h.acc x Ab).1,AH x Ab,(h.acc x Ab).2.2⟩,h.Ll⟩;rw[Zj,h.RZ,n9.2 ⟨h.ix,h.ON,h.hf,h.TO,h.un⟩,r0.2 h.own,a];rfl
   have h2:Zk S=false:=by
    have:=h.wl;have q:¬(S.AA.length:Int)>8:=AGn;rw[Zk,h.marks,h.VZ,h.ends,ABM q];rfl
   have Bo:gm S=true:=Nz.2 fun j Ay=>h.wt _ (Hl Ay);have BB:Xe S=false:=by
    rcases h.Hc with e|⟨x,y,z,u⟩
    · rw[Xe,e];rfl
    · rw[Xe,x,ABG y,ABG z,u];simp
   rw[Af,AA9 AGp,h2,AA9 AGp,AA_ Bo,BB,AA9 AGp];rcases h.out with⟨x,y⟩|⟨x,y,z⟩
   · rw[x,y];rfl
   · split
     · rename_i e;have e:S.CW=FP:=ABA e;rw[e]at x;simp[LK,FP]at x
     · rw[lW,x,ABG y,ABG z];rfl
end Go.Apw
