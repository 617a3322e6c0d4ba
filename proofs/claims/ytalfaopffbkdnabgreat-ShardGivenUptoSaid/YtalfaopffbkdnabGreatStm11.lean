/- Part 11 of shardGiven_holds. -/
import Derived.Test.YtalfaopffbkdnabGreatStm10

set_option maxRecDepth 20000
set_option maxHeartbeats 1000000
namespace Go
theorem ACD:∀{a:Prop},¬¬a↔a:=@Classical.not_not
end Go
open Go.Proofs.Tryz renaming underlying250→AJJ,underlying253→AJK,underlying27→AJC,underlying39→AJB,underlying49→AJG,underlying9→ABO
open List renaming find?_range_eq_some→ADz,foldl_cons→ACO,getElem_of_mem→AC8,getElem_set→ADQ,length_nil→ABo,length_set→ABj,pairwise_iff_getElem→ACW
open Option.some renaming injEq→ABX
open Go.A_ Go.Proofs Go.Proofs.YtalfaopffbkdnabGreat
namespace Go.Apw
theorem AjF(n:Int)(MB:A' n):Cv AG 10 [.int .i64 n] [] (.tuple #[.agg (BY (F8 n) AI AI AI AI AI AI).toArray,.int .i64 (if Ih n=true then 0 else 1)]):=by
 refine Aw.proof Tryz.func10 G 16 G G fun X w=>?_;obtain⟨Yk,Yl⟩:=id MB;refine Ae<|CT LQ G fun Dh=>U 1 G<|Ac<|Am<|Ae<|An G G<|B0 (Zh _ MB) (Ar G) G Aa G<|IH G G<|Ac<|BN G (fun GY=>?_) (fun GY=>?_)
 ·
  have q:Ih n=false:=(by simpa using GY);exact Ae<|Db (ps:=[]) (cs:=(BY Np AI AI AI AI AI AI)) AJy AJw G<|BZ 0 (us:=(BY Np AI AI AI AI AI AI)) G G G (At G) G G<|U 1 G<|Ac<|BA<|D8 () [_] (Fp 0 G G G G (At G)) (by rw[F8,q];rfl) G Aa
 ·
  have q:Ih n=true:=(by simpa using GY);refine AZ<|Ae<|An G G<|Db (ps:=[(0,.tmp 9)]) (cs:=(BY ((⟨n,0,false,ByteArray.empty,ByteArray.empty,0,[],[],[],[],[],Gs,Gs,[],0,0,0⟩:Bv)) AI AI AI AI AI AI)) AJy AJw G<|CT LQ G fun En=>BZ 0 (us:=(BY ((⟨n,0,false,ByteArray.empty,ByteArray.empty,0,[],[],[],[],[],Gs,Gs,[],0,0,0⟩:Bv)) AI AI AI AI AI AI)) G G G (At G) G G<|Ac<|Am<|Ae<|An G G<|U 1 G<|Ac<|B9 G (fun EM=>?_) (fun EM=>?_)
  · exact Ae<|U 1 G<|Fi 0 G G G (A2 G) G (Da G)<|Ac<|rg<|U 1 G<|Fi 0 G G G (A2 G) G (Da G)<|Ac<|Ae<|BJ 0 (BY ((⟨n,0,true,ByteArray.empty,ByteArray.empty,1,([]),([]),([]),([]),([]),Gs,Gs,([]),0,0,0⟩:Bv)) AI AI AI AI AI AI) G G (At G) G G<|BZ 1 (us:=(BY ((⟨n,0,true,ByteArray.empty,ByteArray.empty,1,([]),([]),([]),([]),([]),Gs,Gs,([]),0,0,0⟩:Bv)) AI AI AI AI AI AI)) G G G (At G) G G<|U 1 G<|Ac<|rt<|D8 () [_,_] (Fp 1 G G G G (At G)) (by rw[F8,q,AA_ rfl,AA_ rfl,AA_ rfl];simp[EM]) G Aa
  · exact AZ<|Ae<|BJ 0 (BY ((⟨n,0,false,ByteArray.empty,ByteArray.empty,0,[],[],[],[],[],Gs,Gs,[],0,0,0⟩:Bv)) AI AI AI AI AI AI) G G (At G) G G<|BZ 1 (us:=(BY ((⟨n,0,false,ByteArray.empty,ByteArray.empty,0,[],[],[],[],[],Gs,Gs,[],0,0,0⟩:Bv)) AI AI AI AI AI AI)) G G G (At G) G G<|U 1 G<|Ac<|rt<|D8 () [_,_] (Fp 1 G G G G (At G)) (by rw[F8,q];simp[EM]) G Aa
theorem QN:EH AG 25 94 7 56:=EH.mk ACa AJw AJx
theorem OI:EH AG 24 43 10 104:=EH.mk AB4 AJw AJx
theorem Mt:EH AG 26 86 11 104:=EH.mk ACi AJw AJx
theorem QQ:EH AG 27 98 8 80:=EH.mk AJC AJw AJx
theorem RM:EH AG 28 101 2 16:=EH.mk AC4 AJw AJx
theorem S1:EH AG 39 63 4 32:=EH.mk AJB AJw AJx
theorem ei(CP:Value)(l:List Bx)(c q:Int)(BK:A' c)(Ed:A' q):Cv AG 108 [CP,.int .i64 c,.int .i64 q] [⟨CP,l⟩] (.tuple #[.agg (H8 (findD l c q)).toArray,.bool (Tz l c q)]):=by
 refine Aw.proof Tryz.func108 G 25 G G fun X w=>?_;obtain⟨K9,K_⟩:=id BK;obtain⟨LD,LF⟩:=id Ed;refine Ae<|CT SO G fun Hg=>U 1 G<|Ac<|Ae<|U 3 G<|B0 (fA _ _ _ _ BK Ed) (Ar G) G (Ad 0 G Aa) G<|U 1 G<|Ac<|Am<|Ae<|U 3 G ?_;refine DE 15 4 [0,6,8] G G (fun Ft ZH=>by
  have An_:=ACe Ft;exact U 1 G<|Bl G G G<|B0 (dS _ _) (Ar G) G (Ad 0 G Aa) G<|U 2 G<|ZH G Br) ?_
 refine Ac<|BN G (fun Fe=>?_) (fun Fe=>?_)
 · exact Ae<|Db (ps:=[]) (cs:=(H8 ((⟨0,0,ByteArray.empty,ByteArray.empty,0,0,0,0⟩:Bx)))) AJy AJw G<|BZ 0 (us:=(H8 ((⟨0,0,ByteArray.empty,ByteArray.empty,0,0,0,0⟩:Bx)))) G G G (At G) G G<|U 1 G<|Ac<|BA<|D8 () [_] (Fp 0 G G G G (At G)) (by rw[findD,Tz,AA_ Fe,AA_ Fe];rfl) G Aa
 ·
  obtain⟨k,AE,Lb⟩:=Ahq Fe;exact AZ<|Ae<|An G G<|An (v:=.int .i64 ((k:Nat):Int)) (ABE (fun x=>some (Value.int .i64 x)) (by rw[AE];rfl)) G<|Fo 0 G G G Ox G fun Pe=>Gi 0 G G (At G) G fun MJ PW=>BZ 0 (us:=(H8 ((l.getD k default)))) G G G (At G) G G<|U 1 G<|Ac<|rt<|D8 () [_] (Fp 0 G G G G (At G)) (by rw[findD,Tz,AA9 (by rw[Fe];decide),AA9 (by rw[Fe];decide),AE];try rfl) G Aa
theorem QP:EH AG 31 5 1 1:=EH.mk Tryz.underlying31 AJw AJx
def ApM(S:Bv)(key:ByteArray):Option Nat:=Gd S.Aj.length (fun j=>decide ((S.Aj.getD j default).Al=key))
def ApH(S:Bv)(key:ByteArray):AD:=match ApM S key with
 |some j=>S.Aj.getD j default
 |none=>Sq key
def ApE(S:Bv)(key:ByteArray):Bool:=(ApM S key).isSome
def X'(l:List Df)(c:Int):Option Nat:=Gd l.length (fun j=>decide ((l.getD j default).Ap>=c))
def V6(l:List Df)(c:Int):Nat:=(X' l c).getD l.length
def U8(l:List Df)(c:Int):Bool:=match X' l c with
 |some j=>decide ((l.getD j default).Ap=c)
 |none=>false
theorem AcS{l:List Df}{c:Int}(h:U8 l c=true):V6 l c<l.length:=by
 unfold U8 at h;cases e:X' l c with
 |none=>rw[e]at h;cases h
 |some j=>
  rw[V6,e];exact ABw.1 (List.mem_of_find?_eq_some e)
def kP(l:List Df)(c q:Int):Bool:=U8 l c&&decide ((l.getD (V6 l c) default).As>=q)&&decide (IA (HE l)=0)
def Ap3(S:Bv):Prop:=∀j,(S.Aj.getD j default).A0.length<=100000
def vv:BD:=⟨0,0,0,0⟩
def a'(a:AD)(n:Int):Option Nat:=Gd a.A0.length (fun j=>decide ((a.A0.getD j default).Bn=n))
def V8(a:AD)(n:Int):BD:=if E4 a=true then(match a' a n with
 |some j=>a.A0.getD j default
 |none=>vv)else vv
def WK(a:AD)(n:Int):Bool:=E4 a&&(a' a n).isSome
end Go.Apw
namespace Go.A_
open Go.RowKit
def wu(m:Nat)(Q:AuE)(c:Cj)(ops:Array Oper)(l:List Oper)(env:Env)(L:Own)(D:List Atom):Prop:=
 ∀a w,Fr c.n a env->CI c.BW c.M w L->BP D w L->wpListIn Fence.wide m c.P ops Q l a w
instance AnG (m:Nat) (Q:AuE):Ip (wu m Q) where
 read:=by
  intro c ops env L D rest o dst σ CK AJ env' Dd Ek k a w f st AR;obtain⟨s,u,Bh,Jq,KI⟩:=Ek a w f st AR;refine AdI CK ⟨fun _ _=>trivial,?_⟩;have hs:Oper.semAt Fence.wide.round a.eval o=execOp a.eval o:=rfl;rw[hs,Bh w (C8.refl _ _)];simp only[Oper.uponIn,AJ];exact k s _ _ Jq st KI
 gI:=by
  intro c ops env L D rest dst op t p af g hw k a w f st AR;have:=k a w f st AR;unfold wpListIn at this ⊢;rw[AA_ (hw a w f st AR)];rw[AA_ (show Region.wanted ⟨dst,op,t,p,af,none⟩ (yielded ops a.tmps)=true from rfl)]at this;exact this
 c4:=by
  intro c ops env env' L D rest o hw k a w f st AR;obtain⟨Af,h2⟩:=hw a w f st AR;unfold wpListIn;rw[Af];simp only[ADJ,if_false];exact⟨fun _ _=>trivial,k _ _ h2 st AR⟩
 mono:=by
  intro c ops env env' L D Dd l h k a w f st AR;obtain⟨Af,h2⟩:=h a w f st AR;exact k a w Af st h2
 fact:=by
  intro c ops env L D l q h k a w f st AR;exact k (h a w f st AR) a w f st AR
section
section
variable{c:Cj} {ops:Array Oper} {AP:Cj->Array Oper->List Oper->Env->Own->List Atom->Prop} [Dr:Ip AP] {env:Env} {L:Own} {D:List Atom} {rest:List Oper} {d:Nat} {t:TypeId} {p:String} {af:Array Edge} {T:TypeId}
include Dr
theorem Aek{x y:Operand}{Ec FK:TypeId}{b KZ:Bool}(hu:c.P.underlying Ec=some .bool)(Ab:AL env x=some (.bool b))(Bf:AL env y=some (.bool KZ))(Ao:Nat.blt d c.n=true)(k:AP c ops rest ((d,.bool (!decide (b=KZ)))::env) L D):
 AP c ops (⟨some d,.binOp .neq Ec x y FK,t,p,af,none⟩::rest) env L D:=
 pu rfl rfl Ao (fun a w f=>by
  have h:=run_eql_bool (P:=c.P) w _ b KZ hu;simp[binOp]at h;simp[execOp,f.AL Ab,f.AL Bf,eqGuard,binOp];generalize Sem.run c.P (Op.equal Ec (.bool b) (.bool KZ)) w=r at h ⊢;cases r with
  |ok v AT=>
   simp[Result.andThen]at h ⊢;obtain⟨rfl,rfl⟩:=h;cases b<;>cases KZ<;>simp
  |halt v AT=>simp[Result.andThen]at h) k
theorem dC{ps:List (Nat×Operand)}{us:List Value}{cs:List Value}(Ab:Gq env (ps.map (·.2))=some us)(Aq:c.P.built T ((ps.map (·.1)).zip us)=some cs.toArray)(Ao:Nat.blt d c.n=true)(k:AP c ops rest ((d,.agg cs.toArray)::env) L D):
 AP c ops (⟨some d,.build T ps.toArray,t,p,af,none⟩::rest) env L D:=
 pu rfl rfl Ao (fun a w f=>by
  have e:=f.Gq Ab;subst e;have h2:(ps.toArray.map fun(i,x)=>(i,a.eval x)).toList=(ps.map (·.1)).zip ((ps.map (·.2)).map a.eval):=by
   simp only[List.map_toArray];clear Ab Aq;induction ps with
   |nil=>rfl
   |cons q r Cg=>simp only[AB8,List.zip_cons_cons,Cg]
  have:=run_build (P:=c.P) w T (ps.toArray.map fun(i,x)=>(i,a.eval x)) cs.toArray (by rw[h2];exact Aq);simp only[execOp,Sem.run_bind,this,Result.andThen_ok,Sem.run_pure]) k
end
end
end Go.A_
namespace Go.Apw
end Go.Apw
namespace Go.A_
open Go.RowKit
end Go.A_
namespace Go.Apw
theorem jS(k:ByteArray):isNil k=decide ((k.size:Int)<1):=by
 unfold isNil;refine decide_eq_decide.2 ⟨fun h=>by rw[h];decide,fun h=>?_⟩;have Bw:k.size=0:=AJv;rcases k with⟨a⟩;have:a.size=0:=Bw;rw[Array.size_eq_zero_iff]at this;rw[this];rfl
theorem l2:∀{l:List Int},(∀x∈l,0<=x)->0<=l.sum
 |[],_=>by simp
 |x::r,h=>by
  have Cg:=l2 (l:=r) fun y Bf=>h y (ABR _ Bf);have:=h x (ABx ..);simp only[List.sum_cons];omega
theorem pY{l:List BD}(hh:LI l=true){x:BD}(Ab:x∈l):0<=x.DV/\0<=x.Fc:=by
 obtain⟨i,Ag,rfl⟩:=AC8 Ab;have:=Wy hh Ag;rw[G3 Ag]at this;exact⟨this.2.2.2.1,this.2.2.2.2⟩
theorem cR{a:AD}(hh:LI a.A0=true):a.BT<=I7 a:=by
 unfold I7;have:=l2 (l:=a.A0.map (·.DV)) fun x Ab=>by
  obtain⟨y,Bf,rfl⟩:=AB6.1 Ab;exact(pY hh Bf).1
 omega
theorem ag{a:AD}(hh:LI a.A0=true):IU a<=a.BT:=by
 unfold IU;have:=l2 (l:=a.A0.map (·.Fc)) fun x Ab=>by
  obtain⟨y,Bf,rfl⟩:=AB6.1 Ab;exact(pY hh Bf).2
 omega
theorem Vn{x:Int}(h:J3 x=true):Lo x=x/\No x=0:=by unfold Lo No;rw[if_pos h,if_pos h];exact⟨rfl,rfl⟩
theorem tL{x:Int}(h:J3 x=false):Lo x=0/\No x=10:=by unfold Lo No;rw[h];exact⟨rfl,rfl⟩
theorem rP(k:ByteArray):Ix k= !(isNil k||decide ((k.size:Int)>16)):=by
 rw[jS];unfold Ix;rw[ACy];simp only[ABb,ABa,ABe,ABD,ABl];omega
theorem n0(Bk:Value)(l:List BL)(hlen:l.length<=100000):Aw AG 32 [Bk] [] [⟨Bk,l⟩] (fun(_:Unit) _=>True) (fun _ v=>[]) (fun _ v=>[⟨v,l⟩]):=by
 refine Aw.proof Tryz.func32 G 8 G G fun X w=>AF 1 G<|Am<|Ae<|An G G<|RT 0 ACa G G G G fun PM J'=>Ac<|BN G (fun BB=>?_) (fun BB=>?_)
 ·
  have Ab:l=[]:=J' BB;subst Ab;exact DJ (α:=BL)<|AF 1 G<|BA<|Bq () G G trivial G (Ad 0 G Aa)
 · exact AZ<|Ae<|NB QN G fun E'=>Nm (α:=BL) [] [] G G (fun _ _ _=>trivial) G<|An G G<|ap 0 0 G G G G QN (by simp only[ABo];omega) (by simp only[ABo];omega) G fun EZ=>U 1 G<|Ac<|rt<|K5<|Bq () G G trivial G (Ad 0 G Aa)
theorem hI(Bk:Value)(l:List Bx)(hlen:l.length<=100000):Aw AG 34 [Bk] [] [⟨Bk,l⟩] (fun(_:Unit) _=>True) (fun _ v=>[]) (fun _ v=>[⟨v,l⟩]):=by
 refine Aw.proof Tryz.func34 G 8 G G fun X w=>AF 1 G<|Am<|Ae<|An G G<|RT 0 AJC G G G G fun PM J'=>Ac<|BN G (fun BB=>?_) (fun BB=>?_)
 ·
  have Ab:l=[]:=J' BB;subst Ab;exact DJ (α:=Bx)<|AF 1 G<|BA<|Bq () G G trivial G (Ad 0 G Aa)
 · exact AZ<|Ae<|NB QQ G fun E'=>Nm (α:=Bx) [] [] G G (fun _ _ _=>trivial) G<|An G G<|ap 0 0 G G G G QQ (by simp only[ABo];omega) (by simp only[ABo];omega) G fun EZ=>U 1 G<|Ac<|rt<|K5<|Bq () G G trivial G (Ad 0 G Aa)
theorem hJ(Bk:Value)(l:List Df)(hlen:l.length<=100000):Aw AG 35 [Bk] [] [⟨Bk,l⟩] (fun(_:Unit) _=>True) (fun _ v=>[]) (fun _ v=>[⟨v,l⟩]):=by
 refine Aw.proof Tryz.func35 G 8 G G fun X w=>AF 1 G<|Am<|Ae<|An G G<|RT 0 AC4 G G G G fun PM J'=>Ac<|BN G (fun BB=>?_) (fun BB=>?_)
 ·
  have Ab:l=[]:=J' BB;subst Ab;exact DJ (α:=Df)<|AF 1 G<|BA<|Bq () G G trivial G (Ad 0 G Aa)
 · exact AZ<|Ae<|NB RM G fun E'=>Nm (α:=Df) [] [] G G (fun _ _ _=>trivial) G<|An G G<|ap 0 0 G G G G RM (by simp only[ABo];omega) (by simp only[ABo];omega) G fun EZ=>U 1 G<|Ac<|rt<|K5<|Bq () G G trivial G (Ad 0 G Aa)
theorem Aqr(Bk:Value)(l:List BD)(hlen:l.length<=100000):Aw AG 20 [Bk] [] [⟨Bk,l⟩] (fun(_:Unit) _=>True) (fun _ v=>[]) (fun _ v=>[⟨v,l⟩]):=by
 refine Aw.proof Tryz.func20 G 8 G G fun X w=>AF 1 G<|Am<|Ae<|An G G<|RT 0 AJB G G G G fun PM J'=>Ac<|BN G (fun BB=>?_) (fun BB=>?_)
 ·
  have Ab:l=[]:=J' BB;subst Ab;exact DJ (α:=BD)<|AF 1 G<|BA<|Bq () G G trivial G (Ad 0 G Aa)
 · exact AZ<|Ae<|NB S1 G fun E'=>Nm (α:=BD) [] [] G G (fun _ _ _=>trivial) G<|An G G<|ap 0 0 G G G G S1 (by simp only[ABo];omega) (by simp only[ABo];omega) G fun EZ=>U 1 G<|Ac<|rt<|K5<|Bq () G G trivial G (Ad 0 G Aa)
theorem Ard(a:AD)(Cw:Value)(C6:a.wf)(Aq:a.A0.length<=100000):Aw AG 12 [.agg (A3 a Cw).toArray] [] [⟨Cw,a.A0⟩] (fun(y:Value) u=>u=.agg (A3 a y).toArray) (fun _ _=>[]) (fun y _=>[⟨y,a.A0⟩]):=by
 refine Aw.proof Tryz.func12 G 8 G G fun X w=>Ae<|CV G G G fun CY=>CT Hd G fun Dh=>Ac<|Ae<|AX 2 [1] G G<|Dm (Aqr _ _ Aq) (Ar G) G (Ad 0 G Aa) G fun _ Mp _=>U 1 G<|J2 1 0 G G G G (A2 G) (Da G)<|Ac<|Ae ?_;have Anj:=C6;refine BJ 1 (A3 ((⟨a.Al,(⟨a.Cs.A6,a.Cs.Bc⟩:GC),a.BT,a.Cn,a.A0,(⟨a.BG.Ap,a.BG.As,a.BG.DH,a.BG.B2⟩:F_)⟩:AD)) Mp) G G (At G) G G<|Cp 0 G fun WV=>?_;exact BZ 0 (us:=(A3 ((⟨a.Al,(⟨a.Cs.A6,a.Cs.Bc⟩:GC),a.BT,a.Cn,a.A0,(⟨a.BG.Ap,a.BG.As,a.BG.DH,a.BG.B2⟩:F_)⟩:AD)) Mp)) G G G (At G) (by simp only[ABn,ABr,ABp,WV];rfl) G<|Ac<|rt<|D8 Mp [_,_] (Qv 0 G G G (At G)) AJy G (Ad 0 G Aa)
theorem Aep(k:ByteArray):Cv AG 13 [.string k] [] (.tuple #[.agg (A3 (Sq k) AI).toArray,.int .i64 (kd k)]):=by
 refine Aw.proof Tryz.func13 G 15 G G fun X w=>Ae<|CT Hd G fun Dh=>U 1 G<|Ac<|Am<|Ae<|An G G<|PI G ABO G<|U 2 G ?_;refine DE 7 4 [0,2] G G (fun GY vK=>by
  have r8:=ACe GY;exact U 1 G<|Bl G G G<|PI G ABO G<|U 2 G<|vK G Br) ?_
 refine Ac<|BN G (fun Ct=>?_) (fun Ct=>?_)
 · exact Ae<|Db (ps:=[]) (cs:=(A3 FX AI)) AJy AJw G<|BZ 0 (us:=(A3 FX AI)) G G G (At G) G G<|U 1 G<|Ac<|BA<|D8 () [_] (Fp 0 G G G G (At G)) (by have q:Ix k=false:=(by rw[rP];have q:=Ct;simp only[ABk,ABa]at q;rw[jS];simp;omega);rw[Sq,kd,q];rfl) G Aa
 · exact AZ<|Ae<|An G G<|Db (ps:=[(0,.tmp 13)]) (cs:=(A3 ((⟨k,cz,0,0,[],PF⟩:AD)) AI)) AJy AJw G<|BZ 0 (us:=(A3 ((⟨k,cz,0,0,[],PF⟩:AD)) AI)) G G G (At G) G G<|U 1 G<|Ac<|rt<|D8 () [_] (Fp 0 G G G G (At G)) (by have q:Ix k=true:=(by rw[rP];have q:=Ct;simp only[ABD,ABl]at q;rw[jS];simp;omega);rw[Sq,kd,q];rfl) G Aa
theorem AqC(S:Bv)(El EV D_ EA Em Eh:Value)(key:ByteArray)(A:AD)(Cl:ApH S key=A)(_:S.wf)(Aq:Ap3 S):Aw AG 6 [.agg (BY S El EV D_ EA Em Eh).toArray,.string key] [] [⟨El,S.Aj⟩,⟨EV,S.Bz⟩,⟨D_,S.AA⟩,⟨EA,S.Bj⟩,⟨Em,S.CX⟩,⟨Eh,S.Cf⟩] (fun(y:Value) u=>u=.tuple #[.agg (A3 A y).toArray,.bool (ApE S key)]/\A.wf) (fun _ _=>[]) (fun y _=>[⟨y,A.A0⟩]):=by
 refine Aw.proof Tryz.func6 G 30 G G fun X w=>Ae<|CV G G G fun Dh=>CT Hd G fun En=>U 1 G<|Ac<|Am<|Ae<|AX 2 [1] G G<|C2 0 G G AB4 G fun qR=>An G G<|Ac<|B5<|Ji (σ:=Nat) [(1,_),(4,_),(11,_),(12,_)] _ (fun i C=>(13,.int .i64 (i:Int))::C) (fun i=>i<=S.Aj.length/\(∀j,j<i->decide ((S.Aj.getD j default).Al=key)=false)) (fun i=>S.Aj.length-i) 0 (Bs G) (Ad 0 G (Ad 1 G (Ad 2 G (Ad 3 G (Ad 4 G (Ad 5 G Aa)))))) ⟨ABg _,fun j Ay=>absurd Ay (AB2 j)⟩ (Bs G) ?_;rintro i ⟨Ag,C0⟩;refine AF 1 G<|Am<|B9 G (fun Fm=>?_) (fun Fm=>?_)
 ·
  refine AZ<|Am<|B5<|Ae<|Fo 0 G G G Gt G fun Xk=>Gi 0 G G (At G) G fun Ii PV=>?_;refine CT Hd G fun Jo=>Cp 1 G fun WU=>?_;refine BZ 0 (us:=(A3 ((S.Aj.getD i default)) Ii)) G G G (At G) (by simp only[ABn,ABr,ABp,WU];rfl) G<|Ac<|I5 4 [0] G G<|B9 G (fun HQ=>?_) (fun HQ=>?_)
  ·
   have B4:ApM S key=some i:=Tc AJv C0 (ABG HQ);have DC:(S.Aj.getD i default)=A:=(by rw[<-Cl,ApH,B4]);subst DC;have Kk:ApE S key=true:=(by rw[ApE,B4];rfl);refine Ae<|BJ 0 (A3 ((S.Aj.getD i default)) Ii) G G (At G) G G<|Dm (Ard _ _ PV (Aq i)) (Ar G) G (Ad 1 G Aa) G fun u6 RB JQ=>?_;subst JQ;refine Cp 0 G fun Ae'=>?_;exact BZ 1 (us:=(A3 ((S.Aj.getD i default)) u6)) G G G (At G) (by simp only[ABn,ABr,ABp,Ae'];rfl) G<|U 1 G<|Ac<|rt<|C9<|Cd<|Cd<|C9<|Cd<|D8 u6 [_,_,_] (Fp 1 G G G G (At G)) (by rw[Kk];exact⟨rfl,PV⟩) G (Ad 0 G Aa)
  ·
   refine EG<|CU<|A5<|rg<|C5 G G BV G<|An G G<|nl<|AQ ?_;exact Dy (i+1) ⟨AJv,(Ki C0 (ABM HQ))⟩ AJv (Bs G) G (BE [3,4,5,6,7,8] G)
 ·
  have B4:ApM S key=none:=Tb (fun k AE=>C0 k AJv);have DC:Sq key=A:=(by rw[<-Cl,ApH,B4]);subst DC;have Kk:ApE S key=false:=(by rw[ApE,B4];rfl);exact DJ (α:=BD)<|ex<|Ck<|Ck<|D7<|A5<|Ae<|An G G<|B0 (Aep _) (Ar G) G Aa G<|U 3 G<|CT Hd G fun K0=>BZ 0 (us:=(A3 ((Sq key)) AI)) G G G (At G) G G<|U 1 G<|Ac<|Ae<|BJ 0 (A3 ((Sq key)) AI) G G (At G) G G<|BZ 1 (us:=(A3 ((Sq key)) AI)) G G G (At G) G G<|U 1 G<|Ac<|rt<|D8 AI [_,_,_] (Fp 1 G G G G (At G)) (by rw[Kk];exact⟨rfl,rI _⟩) G (Ad 0 G Aa)
theorem oE(CP:Value)(l:List Df)(c:Int)(BK:A' c):Cv AG 157 [CP,.int .i64 c] [⟨CP,l⟩] (.tuple #[.int .i64 (V6 l c:Int),.bool (U8 l c)]):=by
 refine Aw.proof Tryz.func157 G 27 G G fun X w=>?_;obtain⟨K9,K_⟩:=id BK;refine AF 2 G<|Am<|Ae<|An G G<|C2 0 G G AC4 G fun Sm=>An G G<|Ac<|B5<|Ji (σ:=Nat) [(0,_),(1,_),(8,_),(9,_)] _ (fun i C=>(10,.int .i64 (i:Int))::C) (fun i=>i<=l.length/\(∀j,j<i->decide ((l.getD j default).Ap>=c)=false)) (fun i=>l.length-i) 0 (Bs G) (Ad 0 G Aa) ⟨ABg _,fun j Ay=>absurd Ay (AB2 j)⟩ (Bs G) ?_;rintro i ⟨Ag,C0⟩;refine AF 1 G<|Am<|B9 G (fun Ct=>?_) (fun Ct=>?_)
 ·
  refine AZ<|Am<|B5<|Ae<|An G G<|Fo 0 G G G Ky G fun RA=>Gi 0 G G (At G) G fun MI SE=>CT de G fun Jo=>U 1 G<|BZ 0 (us:=(QT ((l.getD i default)))) G G G (At G) G G<|Ac<|I5 4 [0] G G<|B9 G (fun ER=>?_) (fun ER=>?_)
  · exact Am<|Gx mixed AJw<|AX 7 [0] G G<|Gj<|A5<|rt<|C9<|Cd<|Cd<|C9<|Cd<|AQ<|Fl () G G G (by have B4:X' l c=some i:=Tc AJv C0 (ABG ER);rw[V6,U8,B4];rfl) G Aa
  ·
   refine EG<|CU<|A5<|rg<|C5 G G BV G<|An G G<|nl<|AQ ?_;exact Dy (i+1) ⟨AJv,(Ki C0 (ABM ER))⟩ AJv (Bs G) G (Ad 2 G Aa)
 · exact ex<|Ck<|Ck<|D7<|A5<|Ae<|An G G<|C2 0 G G AC4 G fun Adh=>U 2 G<|Ac<|rt<|Fl () G G G (by have B4:X' l c=none:=Tb (fun k AE=>C0 k AJv);rw[V6,U8,B4];rfl) G Aa
theorem sd(CP:Value)(l:List Df)(c:Int)(q:Int)(BK:A' c)(Ed:A' q):Cv AG 84 [CP,.int .i64 c,.int .i64 q] [⟨CP,l⟩] (.bool (kP l c q)):=by
 refine Aw.proof Tryz.func84 G 30 G G fun X w=>?_;obtain⟨K9,K_⟩:=id BK;obtain⟨LD,LF⟩:=id Ed;refine HP (q:=l.length<=9223372036854775807) (fun S w h=>L1 (h _ (AA' (i:=0) G))) fun hlen=>AF 1 G<|Ae<|U 2 G<|B0 (oE _ _ _ BK) (Ar G) G (Ad 0 G Aa) G<|U 3 G<|U 2 G<|Ac<|Ae<|U 2 G ?_;refine D4 16 8 [0] G G (fun CR gY=>by
  have C_:=AcS CR;exact U 2 G<|Bl G G G<|Fo 0 G G G Ky G fun KC=>Bl G G G<|CJ 0 r' G G (BR G) G fun v20=>Bl G G G<|CQ 0 G G (A2 G) G fun uv=>U 3 G<|gY G (Bg.tail (Bg.tail Br))) ?_
 exact An G G<|D4 25 4 [] G G (fun Gr vR=>U 1 G<|Bl G G G<|B0 (X2 _ _) (Ar G) G (Ad 0 G Aa) G<|U 2 G<|vR G Br)<|U 1 G<|Ac<|rt<|Bq () G G AJy G Aa
theorem jR(CP:Value)(l:List BX)(f:Nat)(D0:Array Value)(A:List Atom)(p:BX->Bool)(CM:GU AG f)(E5:∀x:BX,x.wf->Cv AG f (.agg (Hh x).toArray::D0.toList) A (.bool (p x))):Cv AG 80 [CP,.func (.func f) #[] D0] (⟨CP,l⟩::A) (.int .i64 (HI (Gd l.length (fun j=>p (l.getD j default))))):=by
 refine Aw.proof Tryz.func80 G 19 G G fun X w=>AF 1 G<|Am<|Ae<|An G G<|C2 0 G G ACi G fun MD=>An G G<|Ac<|B5<|Ji (σ:=Nat) [(0,_),(1,_),(7,_)] _ (fun i C=>(8,.int .i64 (i:Int))::C) (fun i=>i<=l.length/\(∀j,j<i->p (l.getD j default)=false)) (fun i=>l.length-i) 0 (Bs G) (Ad 0 G (Bg.tail Br)) ⟨ABg _,fun j Ay=>absurd Ay (AB2 j)⟩ (Bs G) ?_;rintro i ⟨Ag,C0⟩;refine AF 1 G<|Am<|B9 G (fun EO=>?_) (fun EO=>?_)
 ·
  refine AZ<|Am<|B5<|AF 2 G<|Ae<|U 2 G<|An G G<|Fo 0 G G G N0 G fun PS=>Gi 0 G G (At G) G fun KR N6=>QV (E5 _ N6) CM G G G (Bg.tail (Bg.tail (Bg.tail Br))) G fun Ui Mn V4=>?_;obtain rfl:Mn=.bool (p (l.getD i default)):=V4;refine Ac<|BN G (fun CR=>?_) (fun CR=>?_)
  · exact AF 2 G<|rt<|C9<|Cd<|Cd<|C9<|Cd<|Bq () G G (by rw[Tc (j:=i) AJv C0 CR];try rfl) G Aa
  ·
   refine EG<|CU<|A5<|rg<|C5 G G BV G<|An G G<|nl ?_;exact Dy (i+1) ⟨AJv,(Ki C0 (CR))⟩ AJv (Bs G) G (Ad 2 G (Bg.tail (Bg.tail (Bg.tail Br))))
 · exact ex<|Ck<|Ck<|D7<|A5<|AF 1 G<|rt<|Bq () G G (by rw[Tb (fun k AE=>C0 k AJv)];try rfl) G Aa
theorem n7(CP:Value)(l:List BX)(f:Nat)(D0:Array Value)(A:List Atom)(p:BX->Bool)(CM:GU AG f)(E5:∀x:BX,x.wf->Cv AG f (.agg (Hh x).toArray::D0.toList) A (.bool (p x))):Cv AG 87 [CP,.func (.func f) #[] D0] (⟨CP,l⟩::A) (.bool (decide (HI (Gd l.length (fun j=>p (l.getD j default)))>=0))):=by
 exact Aw.proof Tryz.func87 G 9 G G fun X w=>AF 1 G<|Ae<|U 2 G<|B0 (jR _ _ f D0 A p CM E5) (Ar G) G (Ad 0 G (Bg.tail Br)) G<|U 2 G<|Ac<|rt<|Bq () G G AJy G Aa
theorem zK(a:AD)(Cw:Value)(n:Int)(C6:a.wf):Cv AG 151 [.agg (A3 a Cw).toArray,.int .i64 n] [⟨Cw,a.A0⟩] (.tuple #[.agg (JH (V8 a n)).toArray,.bool (WK a n)]):=by
 refine Aw.proof Tryz.func151 G 26 G G fun X w=>Ae<|CV G G G fun Dh=>CT Um G fun En=>U 1 G<|Ac<|Am<|Ae<|BJ 1 (A3 a Cw) G G (At G) G G<|B0 (Ps _ _ C6) (Ar G) G (Ad 0 G Aa) G<|IH G G<|Ac<|BN G (fun Dq=>?_) (fun Dq=>?_)
 ·
  have Ey:¬E4 a=true:=(by simpa using Dq);exact Ae<|Db (ps:=[]) (cs:=(JH ((⟨0,0,0,0⟩:BD)))) AJy AJw G<|BZ 0 (us:=(JH ((⟨0,0,0,0⟩:BD)))) G G G (At G) G G<|U 1 G<|Ac<|BA<|D8 () [_,_] (Fp 0 G G G G (At G)) (by rw[V8,WK,AA9 Ey,show E4 a=false by simpa using Ey];rfl) G Aa
 ·
  have Ey:E4 a=true:=(by simpa using Dq);refine AZ<|Am<|Ae<|AX 2 [1] G G<|C2 0 G G AJB G fun qS=>An G G<|Ac<|B5<|Ji (σ:=Nat) [(1,_),(4,_),(13,_),(14,_)] _ (fun i C=>(15,.int .i64 (i:Int))::C) (fun i=>i<=a.A0.length/\(∀j,j<i->decide ((a.A0.getD j default).Bn=n)=false)) (fun i=>a.A0.length-i) 0 (Bs G) (Ad 0 G Aa) ⟨ABg _,fun j Ay=>absurd Ay (AB2 j)⟩ (Bs G) ?_;rintro i ⟨Ag,C0⟩;refine AF 1 G<|Am<|B9 G (fun CR=>?_) (fun CR=>?_)
  ·
   refine AZ<|Am<|B5<|Ae<|Fo 0 G G G I6 G fun T6=>Gi 0 G G (At G) G fun Nj cX=>CT Um G fun Jo=>BZ 0 (us:=(JH ((a.A0.getD i default)))) G G G (At G) G G<|Ac<|I5 4 [0] G G<|B9 G (fun JQ=>?_) (fun JQ=>?_)
   · exact Ae<|BJ 0 (JH ((a.A0.getD i default))) G G (At G) G G<|BZ 1 (us:=(JH ((a.A0.getD i default)))) G G G (At G) G G<|U 1 G<|Ac<|rt<|C9<|Cd<|Cd<|C9<|Cd<|D8 () [_,_,_] (Fp 1 G G G G (At G)) (by have B4:a' a n=some i:=Tc AJv C0 (ABG JQ);rw[V8,WK,AA_ Ey,Ey,B4];rfl) G Aa
   ·
    refine EG<|CU<|A5<|rg<|C5 G G BV G<|An G G<|nl<|AQ ?_;exact Dy (i+1) ⟨AJv,(Ki C0 (ABM JQ))⟩ AJv (Bs G) G (Ad 2 G Aa)
  · exact ex<|Ck<|Ck<|D7<|A5<|Ae<|Db (ps:=[]) (cs:=(JH ((⟨0,0,0,0⟩:BD)))) AJy AJw G<|BZ 0 (us:=(JH ((⟨0,0,0,0⟩:BD)))) G G G (At G) G G<|U 1 G<|Ac<|rt<|D8 () [_,_] (Fp 0 G G G G (At G)) (by have B4:a' a n=none:=Tb (fun k AE=>C0 k AJv);rw[V8,WK,AA_ Ey,Ey,B4];rfl) G Aa
theorem zu:Ext Tryz.prog 173 (Extern.SlicesOverlaps.overlaps #[39,39] #[4]):=⟨⟨_,Tryz.func173,AJw,AJw,AJw,AJw⟩⟩
theorem zv:Ext Tryz.prog 178 (Extern.SlicesOverlaps.overlaps #[24,24] #[4]):=⟨⟨_,Tryz.func178,AJw,AJw,AJw,AJw⟩⟩
theorem zw:Ext Tryz.prog 211 (Extern.SlicesOverlaps.overlaps #[25,25] #[4]):=⟨⟨_,Tryz.func211,AJw,AJw,AJw,AJw⟩⟩
theorem zx:Ext Tryz.prog 213 (Extern.SlicesOverlaps.overlaps #[28,28] #[4]):=⟨⟨_,Tryz.func213,AJw,AJw,AJw,AJw⟩⟩
theorem ZV:EH AG 49 60 7 56:=EH.mk AJG AJw AJx
theorem np:EH AG 74 114 2 24:=EH.mk Tryz.underlying74 AJw AJx
theorem AlV:E3 AG 58 [.int .i64 0,.int .i64 0,.int .i64 0,.int .i64 0]:=E3.mk AJw
theorem AjD:H5 AG 158 9 1:=⟨Tryz.underlying158,AJw⟩
theorem nq:EH AG 158 9 1 16:=EH.mk Tryz.underlying158 AJw AJx
theorem lQ:H5 AG 250 191 1:=⟨AJJ,AJw⟩
theorem lR:H5 AG 253 195 1:=⟨AJK,AJw⟩
theorem dg:E3 AG 31 [.slice none 0 0]:=E3.mk AJw
theorem HB:EH AG 250 191 1 8:=EH.mk AJJ AJw AJx
theorem QO:EH AG 253 195 1 8:=EH.mk AJK AJw AJx
theorem df:E3 AG 3 [.int .i64 0]:=E3.mk AJw
theorem AjC:H5 AG 74 114 2:=⟨Tryz.underlying74,AJw⟩
theorem AlU:E3 AG 114 [.int .i64 0,.string ByteArray.empty]:=E3.mk AJw
theorem tn:H5 AG 49 60 7:=⟨AJG,AJw⟩
theorem AH9:Oc AG 60 7:=⟨⟨_,Tryz.underlying60,rfl⟩,AJw⟩
theorem Aqg:E3 AG 60 [.int .i64 0,.int .i64 0,.int .i64 0,.int .i64 0,.int .i64 0,.int .i64 0,.int .i64 0]:=E3.mk AJw
theorem AI2:H5 AG 22 47 6:=⟨Tryz.underlying22,AJw⟩
theorem AGR:H5 AG 55 4 1:=⟨Tryz.underlying55,AJw⟩
theorem DW:A' 0:=⟨AJx,AJx⟩
theorem ee{b:Bool}:IA b=0↔b=true:=by cases b<;>simp[IA]
theorem rising{n B:Nat}{f:Nat->Int}(h:∀j,j<n->f j>Nh f j/\f j<=(B:Int)):n<=B:=by
 have key:∀j,j<n->f j>=(j:Int)+1:=by
  intro j;induction j with
  |zero=>
   intro Ay;have:=(h 0 Ay).1;simp only[Nh]at this;omega
  |succ j Cg=>
   intro Ay;have Af:=(h (j+1) Ay).1;simp only[Nh]at Af;have:=Cg AJv;omega
 cases n with
 |zero=>omega
 |succ n=>
  have Af:=key n AJv;have h2:=(h n AJv).2;omega
theorem TE{l:List BL}(h:Fg l=true):l.length<=8:=by
 refine rising (f:=fun k=>(l.getD k default).Ap) fun j Ay=>?_;have:=(Nz.1 h) j Ay;simp only[fk,ABe,ABD,ABl]at this;omega
theorem ed{l:List Df}(h:HE l=true):l.length<=8:=by
 refine rising (f:=fun k=>(l.getD k default).Ap) fun j Ay=>?_;have:=(Nz.1 h) j Ay;simp only[Jj,ABe,ABD,ABI,ABb,ABl,ABa]at this;omega
theorem V0{l:List Bx}(h:Is l=true):l.length<=4:=by
 unfold Is at h;split at h
 · cases h
 · rename_i Ao;simp only[ABa]at Ao;omega
theorem S0{a:AD}(h:E4 a=true):a.A0.length<=5:=by
 unfold E4 at h;split at h
 · cases h
 · rename_i Ao;simp only[VO,ABk,ABN,ABe,AB_]at Ao;exact PC Ao.2
theorem Aii{b:List UInt8}(h:(Er b).2=0):b.length<=65536:=by
 by_cases he:65536<b.length
 · exfalso;unfold Er NF at h;rw[AA_ he]at h;simp at h
 · omega
theorem UP{α:Type}[Inhabited α]{l:List α}{x:α}(h:x∈l):∃j,j<l.length/\l.getD j default=x:=by
 obtain⟨j,Ay,rfl⟩:=AC8 h;exact⟨j,Ay,by simp[List.getD,ABs Ay]⟩
theorem N1:QL AGl:=⟨fun a=>by simp[AGl],fun a b c Af h2=>by simp only[AGl,ABa]at*;omega,fun a b Af h2=>by simp only[AGl,ABa,ABl]at*;omega⟩
theorem Pa:QL Ds:=⟨fun a=>by cases h:Ds a a with|false=>rfl|true=>exact absurd rfl (Ad9 h),fun a b c Af h2=>lt_trans Af h2,fun a b Af h2=>(Ad_ Af).resolve_right h2⟩
theorem lj{α:Type}[Inhabited α]{f:α->Int}{P:α->Prop}{l:List α}:
 (∀j,j<l.length->¬f (l.getD j default)<=Nh (fun k=>f (l.getD k default)) j/\P (l.getD j default))↔(∀x∈l,0<f x/\P x)/\H6 f AGl l:=by
 constructor
 · intro h;have step:∀j,j+1<l.length->f (l.getD j default)<f (l.getD (j+1) default):=fun j Ay=>by
    have:=(h (j+1) Ay).1;simp only[Nh]at this;omega
   have up:∀d i,i+d+1<l.length->f (l.getD i default)<f (l.getD (i+d+1) default):=by
    intro d;induction d with
    |zero=>exact fun i Ag=>step i Ag
    |succ d Cg=>
     intro i Ag;have Af:=Cg i AJv;have h2:=step (i+d+1) AJv;rw[show i+(d+1)+1=i+d+1+1 by omega];omega
   have pos:∀j,j<l.length->0<f (l.getD j default):=by
    intro j Ay;have Bw:=(h 0 AJv).1;have Bw:¬f (l.getD 0 default)<=0:=Bw;rcases Nat.eq_zero_or_pos j with e|e
    · subst e;omega
    · have:=up (j-1) 0 AJv;rw[show 0+(j-1)+1=j by omega]at this;omega
   refine⟨fun x Ab=>?_,ACW.2 fun i j Ag Ay GQ=>?_⟩
   · obtain⟨j,Ay,rfl⟩:=UP Ab;exact⟨pos j Ay,(h j Ay).2⟩
   · have:=up (j-i-1) i AJv;rw[show i+(j-i-1)+1=j by omega,G3 Ag,G3 Ay]at this;exact ABG this
 · rintro⟨Af,h2⟩ j Ay;obtain⟨p,q⟩:=Af _ (Hl Ay);refine⟨?_,q⟩;cases j with
   |zero=>
    show ¬f (l.getD 0 default)<=0;omega
   |succ j=>
    have:=ABA (ACW.1 h2 j (j+1) AJv Ay AJv);rw[<-G3 AJv,<-G3 Ay]at this;show ¬f (l.getD (j+1) default)<=f (l.getD j default);omega
-- marks
structure dq (m:BL):Prop where
 hH:m.Ap<=8
 L3:0<=m.As
 Ey:m.As<=EW
 op:m.HV=true->¬m.As=0/\m.Cm=GS
theorem Rl{l:List BL}:Fg l=true↔(∀m∈l,0<m.Ap/\dq m)/\H6 (·.Ap) AGl l:=by
 rw[<-lj (f:=fun m:BL=>m.Ap) (P:=dq),Fg,Nz];refine forall_congr' fun j=>imp_congr_right fun Ay=>?_;simp only[fk,ABe,ABD,ACu,ABI,ABl,ABa];constructor
 · rintro⟨⟨⟨⟨a,b⟩,c⟩,d⟩,e⟩;refine⟨a,AJv,AJv,AJv,fun A7=>?_⟩;rcases e with e|e
   · rw[A7]at e;cases e
   · exact e
 · rintro⟨a,b,c,d,e⟩;refine⟨⟨⟨⟨a,AJv⟩,AJv⟩,AJv⟩,?_⟩;cases A7:(l.getD j default).HV with
   |false=>exact .inl rfl
   |true=>exact .inr (e A7)
theorem bG{l:List BL}{m:BL}(h:Fg l=true)(Bw:0<m.Ap)(hm:dq m):Fg (LP l m)=true:=by
 obtain⟨Af,h2⟩:=Rl.1 h;refine Rl.2 ⟨fun x Ab=>?_,W4 N1 h2⟩;rcases(PJ N1 h2).1 Ab with rfl|Ab
 · exact⟨Bw,hm⟩
 · exact Af x Ab.1
theorem zM{l:List BL}{c:Int}(h:(FU l c).2=true):Fg l=true/\(FU l c).1∈l/\(FU l c).1.Ap=c:=by
 unfold FU at h ⊢;split at h
 · cases h
 · rename_i hm;have hm:Fg l=true:=(by simpa using hm);split at h
   · cases h
   · rename_i Ag;have Ag:G9 (·.Ap) AGl c l=true:=(by simpa using Ag);rw[AA9 (by rw[hm];decide),AA9 (by rw[Ag];decide)];obtain⟨a,b⟩:=ZX N1 (Rl.1 hm).2 Ag;exact⟨hm,Hl a,b⟩
theorem nw{l:List BL}{c q:Int}(h:(IS l c q).2.2=0):Fg (IS l c q).1=true:=by
 unfold IS at h ⊢;split at h
 · cases h
 · rename_i hm;have hm:Fg l=true:=(by simpa using hm);rw[AA9 (by rw[hm];decide)];split at h
   · cases h
   · rename_i AK;rw[AA9 AK];simp only[ABk,ABa,ABN]at AK;split at h
     · cases h
     · rename_i Af;rw[AA9 Af];split
       · exact hm
       · exact bG hm (by show 0<c;omega) ⟨by show c<=8;omega,by show 0<=q;omega,by show q<=EW;omega,fun _=>⟨by show ¬q=0;omega,rfl⟩⟩
theorem fs{l:List BL}{c q:Int}(h:KQ l c q=0):Fg l=true/\(FU l c).1∈l/\(FU l c).1.Ap=c/\(FU l c).1.As=q/\(FU l c).1.HV=true:=by
 unfold KQ at h;split at h
 · cases h
 · split at h
   · cases h
   · rename_i h2;simp only[ABk,ABN,ABe,AB_,ABa]at h2;obtain⟨⟨a,b⟩,d⟩:=h2;obtain⟨x,y,z⟩:=zM a;exact⟨x,y,z,b,d⟩
theorem y1{l:List BL}{c q:Int}{a:De}(h:(Oe l c q a).2=0):Fg (Oe l c q a).1=true:=by
 unfold Oe at h ⊢;split at h
 · rename_i Ao;exact absurd h Ao
 · rename_i Ao;have A7:KQ l c q=0:=ACD.1 Ao;rw[AA9 Ao];obtain⟨x,y,z,b,d⟩:=fs A7;obtain⟨Bw,hm⟩:=(Rl.1 x).1 _ y;exact bG x (by show 0<c;omega) ⟨by show c<=8;have:=hm.hH;omega,by show 0<=q;have:=hm.L3;omega,by show q<=EW;have:=hm.Ey;omega,fun e=>by cases e⟩
theorem rj{l:List BL}{c q:Int}(h:(G' l c q).2=0):Fg (G' l c q).1=true:=by
 unfold G' at h ⊢;split at h
 · rename_i Ao;exact absurd h Ao
 · rename_i Ao;have A7:KQ l c q=0:=ACD.1 Ao;rw[AA9 Ao];obtain⟨x,y,z,b,d⟩:=fs A7;obtain⟨Bw,hm⟩:=(Rl.1 x).1 _ y;have:=hm.L3;have:=hm.Ey;have:=(hm.op d).1;exact bG x (by show 0<c;omega) ⟨by show c<=8;have:=hm.hH;omega,by show 0<=q-1;omega,by show q-1<=EW;omega,fun e=>by cases e⟩
theorem Ac5{a b:List BL}(h:(M_ a b).2=0):Fg (M_ a b).1=true:=by
 unfold M_ at h ⊢;split at h
 · cases h
 · rename_i Ao;rw[AA9 Ao];have Ao:(Fg a&&Fg b)=true:=(by simpa using Ao);rw[ABb]at Ao;obtain⟨AK,Aq⟩:=Ao;have Bm:=(Rl.1 Aq).1;clear Aq;show Fg (b.foldl Ld a)=true;clear h;clear Ao;induction b generalizing a with
   |nil=>exact AK
   |cons m r Cg=>
    rw[ACO];refine Cg ?_ fun x Ab=>Bm x (ABR _ Ab);unfold Ld;split
    · exact bG AK (Bm m (ABx ..)).1 (Bm m (ABx ..)).2
    · exact AK
-- ends
theorem au{l:List Df}:HE l=true↔(∀e∈l,0<e.Ap/\Jj e.Ap e.As=true)/\H6 (·.Ap) AGl l:=by
 rw[<-lj (f:=fun m:Df=>m.Ap) (P:=fun e=>Jj e.Ap e.As=true),HE,Nz];refine forall_congr' fun j=>imp_congr_right fun Ay=>?_;simp only[ABe,ABD,ABI,ABl]
theorem h5(l:List Df)(c:Int):H_ l c<=l.length:=by
 unfold H_;cases h:Gd l.length (fun j=>decide ((l.getD j default).Ap>=c))with
 |none=>exact ABW _
 |some j=>exact Nat.le_of_lt (Q4 h)
theorem yW{l:List Df}(c:Int):(∀j,j<l.length->j<H_ l c->(l.getD j default).Ap<c)/\(H_ l c<l.length->c<=(l.getD (H_ l c) default).Ap):=by
 unfold H_;cases h:Gd l.length (fun j=>decide ((l.getD j default).Ap>=c))with
 |none=>
  refine⟨fun j Ay _=>?_,fun AN=>absurd AN (Nat.lt_irrefl _)⟩;have:=List.find?_eq_none.1 h j (ABw.2 Ay);simp only[ABa]at this;omega
 |some k=>
  have AE:=ADz.1 h;refine⟨fun j Ay Tq=>?_,fun _=>?_⟩
  · have:=AE.2.2 j Tq;simp only[ABe,ABl]at this;omega
  · have:=AE.1;simp only[ABa]at this;exact this
theorem oF{l:List Df}(h:H6 (·.Ap) AGl l)(c:Int):H_ l c=Cz (·.Ap) AGl c l:=by
 obtain⟨a,b⟩:=yW (l:=l) c;obtain⟨p,q⟩:=fD N1 h c;have Om:=h5 l c;have Sl:=St (key:=fun e:Df=>e.Ap) (lt:=AGl) c l;rcases Nat.lt_trichotomy (H_ l c) (Cz (·.Ap) AGl c l)with g|g|g
 · have Af:=b AJv;have h2:=ABA (p _ AJv g);rw[<-G3 AJv]at h2;omega
 · exact g
 · have Af:=a _ AJv g;have h2:=ACe (q _ AJv (ABW _));rw[<-G3 AJv]at h2;omega
theorem AcQ{l:List Df}(h:H6 (·.Ap) AGl l)(c:Int):Sj l c=G9 (·.Ap) AGl c l:=by
 rw[Sj,G9,oF h]
theorem sF{l:List Df}{c q:Int}(h:(Kv l c q).2=0):HE (Kv l c q).1=true:=by
 unfold Kv at h ⊢;split at h
 · cases h
 · rename_i he;have he:HE l=true:=(by simpa using he);rw[AA9 (by rw[he];decide)];split at h
   · cases h
   · rename_i hw;rw[AA9 hw];have hw:Jj c q=true:=(by simpa using hw);obtain⟨Af,h2⟩:=au.1 he;have Bm:0<c:=by
      simp only[Jj,ABb,ABa]at hw;omega
     rw[AcQ h2,oF h2];cases Ag:G9 (·.Ap) AGl c l with
     |false=>
      rw[AA_ rfl];have e:FO (Cz (·.Ap) AGl c l) ⟨c,q⟩ l=FQ (·.Ap) AGl ⟨c,q⟩ l:=(by rw[FQ,AA9 (by rw[Ag];decide)]);show HE (FO (Cz (·.Ap) AGl c l) ⟨c,q⟩ l)=true;rw[e];refine au.2 ⟨fun x Ab=>?_,W4 N1 h2⟩;rcases(PJ N1 h2).1 Ab with rfl|Ab
      · exact⟨Bm,hw⟩
      · exact Af x Ab.1
     |true=>
      rw[AA9 AJx];obtain⟨a,b⟩:=ZX N1 h2 Ag;obtain⟨RF,N8⟩:=Af _ (Hl a);generalize Ab:({l.getD (Cz (·.Ap) AGl c l) default with As:=max (l.getD (Cz (·.Ap) AGl c l) default).As q}:Df)=x;have AlA:x.Ap=c:=(by rw[<-Ab];exact b);have mF:Jj x.Ap x.As=true:=by
       rw[<-Ab];simp only[Jj,ABb,ABa]at hw N8 ⊢;omega
      have e:l.set (Cz (·.Ap) AGl c l) x=FQ (·.Ap) AGl x l:=(by rw[FQ,AlA,AA_ Ag]);show HE (l.set (Cz (·.Ap) AGl c l) x)=true;rw[e];refine au.2 ⟨fun y Bf=>?_,W4 N1 h2⟩;rcases(PJ N1 h2).1 Bf with rfl|Bf
      · exact⟨AJv,mF⟩
      · exact Af y Bf.1
theorem Ac1{a b:List Df}(h:(Ok a b).2=0):HE (Ok a b).1=true:=by
 unfold Ok at h ⊢;split at h
 · cases h
 · rename_i Ao;rw[AA9 Ao];have Ao:(HE a&&HE b)=true:=(by simpa using Ao);rw[ABb]at Ao;obtain⟨AK,Aq⟩:=Ao;have Bm:=(au.1 Aq).1;clear Aq;show HE (b.foldl (fun out x=>(Kv out x.Ap x.As).1) a)=true;clear h;clear Ao;induction b generalizing a with
   |nil=>exact AK
   |cons m r Cg=>
    rw[ACO];have hm:=(Bm m (ABx ..)).2;refine Cg (sF ?_) fun x Ab=>Bm x (ABR _ Ab);unfold Kv;rw[AA9 (by rw[AK];decide),AA9 (by rw[hm];decide)];split<;>rfl
def fX(a b:Bx):Prop:=a.Ap=b.Ap/\a.As=b.As
def YB(c q:Int)(d:Bx):Prop:=d.Ap=c/\d.As=q
theorem kQ{l:List Bx}{c q:Int}{j:Nat}:Kt l c q=some j↔j<l.length/\YB c q (l.getD j default)/\∀k,k<j->¬YB c q (l.getD k default):=by
 unfold Kt Gd YB;rw[ADz];simp only[ABb,ABa,ABw,ABe,ACu,ABl];constructor
 · rintro⟨a,b,d⟩;exact⟨b,a,fun k AE=>by have:=d k AE;intro e;omega⟩
 · rintro⟨b,a,d⟩;exact⟨a,b,fun k AE=>by have:=d k AE;omega⟩
theorem Ahp{l:List Bx}{c q:Int}:Kt l c q=none↔∀d∈l,¬YB c q d:=by
 unfold Kt Gd YB;rw[List.find?_range_eq_none];constructor
 · intro h d AJ;obtain⟨j,Ay,rfl⟩:=UP AJ;have:=h j Ay;simp only[ABe,ACu,ABl]at this;omega
 · intro h j Ay;have:=h _ (Hl Ay);simp only[ABe,ACu,ABl];omega
theorem Aho{o:Option Nat}:HI o<0↔o=none:=by cases o<;>simp[HI]
theorem Ahn{o:Option Nat}{j:Nat}:HI o=(j:Int)↔o=some j:=by
 cases o with
 |none=>simp[HI]
 |some k=>
  simp only[HI,ABX];omega
theorem UB{l:List Bx}:Is l=true↔l.length<=4/\(∀d∈l,M1 d=true)/\l.Pairwise (fun a b=>¬fX a b):=by
 unfold Is;have key:allI l.length (fun j=> !ab l j)=true↔(∀d∈l,M1 d=true)/\l.Pairwise (fun a b=>¬fX a b):=by
  rw[Nz];have e:∀j,(!ab l j)=true↔M1 (l.getD j default)=true/\Kt l (l.getD j default).Ap (l.getD j default).As=some j:=fun j=>by
   simp only[ab,ABe,ABD,ABI,ABa,Ahn]
  simp only[e];constructor
  · intro h;refine⟨fun d AJ=>?_,ACW.2 fun i j Ag Ay GQ hs=>?_⟩
    · obtain⟨j,Ay,rfl⟩:=UP AJ;exact(h j Ay).1
    · have:=(kQ.1 (h j Ay).2).2.2 i GQ;rw[G3 Ag,G3 Ay]at this;exact this hs
  · rintro⟨Af,h2⟩ j Ay;refine⟨Af _ (Hl Ay),kQ.2 ⟨Ay,⟨rfl,rfl⟩,fun k AE hs=>?_⟩⟩;have:=ACW.1 h2 k j AJv Ay AE;rw[G3 (show k<l.length by omega),G3 Ay]at hs;exact this hs
 split
 · rename_i Ao;simp only[ABa]at Ao;exact⟨fun h=>(by cases h),fun h=>absurd h.1 AJv⟩
 · rename_i Ao;simp only[ABa]at Ao;rw[key];exact⟨fun h=>⟨AJv,h⟩,fun h=>h.2⟩
theorem V'{l:List Bx}{c q:Int}(h:(F1 l c q).2=0):Is l=true/\(F1 l c q).1.toNat<l.length/\Kt l c q=some (F1 l c q).1.toNat/\YB c q (l.getD (F1 l c q).1.toNat default):=by
 unfold F1 at h ⊢;split at h
 · cases h
 · rename_i AJ;rw[AA9 AJ];split at h
   · cases h
   · rename_i AH;rw[AA9 AH];have AJ:Is l=true:=(by simpa using AJ);cases A7:Kt l c q with
     |none=>rw[A7]at AH;exact absurd (show HI none<0 by decide) AH
     |some j=>
      obtain⟨a,b,_⟩:=kQ.1 A7;exact⟨AJ,a,rfl,b⟩
theorem od{l:List Bx}{i:Nat}{d:Bx}(h:Is l=true)(Ag:i<l.length)(hm:M1 d=true)(hs:fX d (l.getD i default)):Is (l.set i d)=true:=by
 obtain⟨Af,h2,Bo⟩:=UB.1 h;refine UB.2 ⟨by rw[ABj];exact Af,fun x Ab=>?_,ACW.2 fun a b AK Aq Abh=>?_⟩
 · rcases List.mem_or_eq_of_mem_set Ab with Ab|rfl
   · exact h2 x Ab
   · exact hm
 · rw[ABj]at AK Aq;rw[G3 Ag]at hs;have:=ACW.1 Bo a b AK Aq Abh;rw[ADQ,ADQ];split
   · rename_i e;subst e;rw[AA9 AJv];exact fun q=>this ⟨hs.1.symm.trans q.1,hs.2.symm.trans q.2⟩
   · split
     · rename_i e;subst e;exact fun q=>this ⟨q.1.trans hs.1,q.2.trans hs.2⟩
     · exact this
theorem rU{l:List Bx}{d:Bx}(h:(Mf l d).2=0):Is (Mf l d).1=true/\(Mf l d).1=l++[d]/\Is l=true/\M1 d=true/\Kt l d.Ap d.As=none/\l.length<4:=by
 unfold Mf at h ⊢;split at h
 · cases h
 · rename_i DP;rw[AA9 DP];split at h
   · cases h
   · rename_i EK;rw[AA9 EK];split at h
     · cases h
     · rename_i FR;rw[AA9 FR];split at h
       · cases h
       · rename_i Iz;rw[AA9 Iz];have DP:Is l=true:=(by simpa using DP);simp only[ABk,ABN,ABe,AB_,ABa]at EK FR;obtain⟨Af,h2,Bo⟩:=UB.1 DP;have Ao:Kt l d.Ap d.As=none:=Aho.1 AJv;refine⟨UB.2 ⟨by show(l++[d]).length<=4;rw[List.length_append];simp only[List.length_cons,ABo];omega,fun x Ab=>?_,List.pairwise_append.2 ⟨Bo,List.pairwise_singleton _ _,fun x Ab y Bf=>?_⟩⟩,rfl,DP,EK.1.1.1,Ao,AJv⟩
         · rcases ABm.1 Ab with Ab|Ab
           · exact h2 x Ab
           · rw[ADe.1 Ab];exact EK.1.1.1
         · rw[ADe.1 Bf];exact Ahp.1 Ao x Ab
theorem dV{d:Bx}:M1 d=true↔V2 d=false/\ae d=false/\(d.C3=JN d.DN d.DO\/JN d.DN d.DO=0/\d.C3=2):=by
 unfold M1;cases V2 d<;>cases ae d<;>simp
theorem Ajd{d:Bx}{m i:Bool}(h:M1 d=true):M1 (TT d m i).1=true/\fX (TT d m i).1 d:=by
 by_cases Bm:(!decide (d.C3=0)|| !decide ((if m=true then d.DN else d.DO)=0))=true
 · rw[TT,AA_ Bm];exact⟨h,rfl,rfl⟩
 · rw[TT,AA9 Bm];obtain⟨a,b,_⟩:=dV.1 h;have AK:=a;simp only[V2,ABD,ABl,ABI]at AK;cases m<;>cases i<;>refine⟨dV.2 ⟨?_,b,.inl rfl⟩,rfl,rfl⟩<;>simp only[V2,ABD,ABl,ABI,if_true,if_false,ADJ]<;>exact⟨⟨⟨⟨⟨⟨AK.1.1.1.1.1.1,AK.1.1.1.1.1.2⟩,AK.1.1.1.1.2⟩,AJv⟩,AJv⟩,AJv⟩,AJv⟩
theorem cC{l:List Bx}{c q:Int}{m i:Bool}(h:(Jk l c q m i).2.2=0):Is (Jk l c q m i).1=true:=by
 unfold Jk at h ⊢;split at h
 · rename_i Ao;exact absurd h Ao
 · rename_i Ao;rw[AA9 Ao];obtain⟨a,b,_,_⟩:=V' (ACD.1 Ao);obtain⟨x,y⟩:=Ajd (m:=m) (i:=i) ((UB.1 a).2.1 _ (Hl b));exact od a b x y
theorem pb{l:List Bx}{c q:Int}(h:(NJ l c q).2.2=0):Is (NJ l c q).1=true:=by
 unfold NJ at h ⊢;split at h
 · rename_i Ao;exact absurd h Ao
 · rename_i Ao;rw[AA9 Ao];obtain⟨a,b,_,_⟩:=V' (ACD.1 Ao);split
   · rename_i Bw;obtain⟨x,y,z⟩:=dV.1 ((UB.1 a).2.1 _ (Hl b));refine od a b (dV.2 ⟨x,y,?_⟩) ⟨rfl,rfl⟩;rcases z with z|z
     · exact .inr ⟨z.symm.trans Bw,rfl⟩
     · exact .inr ⟨z.1,rfl⟩
   · exact a
theorem zV{l:List Bx}{c q:Int}(h:(OP l c q).2=0):Is (OP l c q).1=true:=by
 unfold OP at h ⊢;split at h
 · rename_i Ao;exact absurd h Ao
 · rename_i Ao;rw[AA9 Ao];obtain⟨a,b,_,_⟩:=V' (ACD.1 Ao);split at h
   · cases h
   · rename_i BI;rw[AA9 BI];obtain⟨Af,h2,Bo⟩:=UB.1 a;exact UB.2 ⟨ABB (List.length_eraseIdx_le ..) Af,fun x Ab=>h2 x (List.mem_of_mem_eraseIdx Ab),Bo.sublist (List.eraseIdx_sublist ..)⟩
structure dp (h:BD):Prop where
 nd:h.Bn<=5
 le:1<=h.G0
 up:0<=h.DV
 GV:0<=h.Fc
theorem ba{l:List BD}:LI l=true↔(∀h∈l,0<h.Bn/\dp h)/\H6 (·.Bn) AGl l:=by
 rw[<-lj (f:=fun m:BD=>m.Bn) (P:=dp),LI,Nz];refine forall_congr' fun j=>imp_congr_right fun Ay=>?_;simp only[eU,ABe,ABD,ABl];constructor
 · rintro⟨⟨⟨⟨a,b⟩,c⟩,d⟩,e⟩;exact⟨a,AJv,AJv,AJv,AJv⟩
 · rintro⟨a,b,c,d,e⟩;exact⟨⟨⟨⟨a,AJv⟩,AJv⟩,AJv⟩,AJv⟩
structure Fw (a:AD):Prop where
 key:Ix a.Al=true
 BQ:a.Cs.A6<=a.BT
 Ag:a.BT<=a.Cs.Bc
 rd:0<=a.Cn
 hold:LI a.A0=true
 up:I7 a<=a.Cs.Bc
 GV:a.Cs.A6<=IU a
 YK:a.BG.Ap=0->a.BG=XG
 Om:¬a.BG.Ap=0->Sk a.BG=true/\a.A0=[]/\a.Cs.A6<=a.BT+a.BG.B2/\a.BT+a.BG.B2<=a.Cs.Bc
theorem YY{k:ByteArray}:Ix k=true↔¬(k.size:Int)<1/\¬(k.size:Int)>16:=by
 simp only[Ix,ABb,ABa];omega
theorem eJ{s:GC}{v:Int}:Rb s v=true↔s.A6<=v/\v<=s.Bc:=by simp only[Rb,ABb,ABa]
theorem ib{a:AD}{l:F_}(hs:a.Cs.wf):UJ a l=true↔a.Cs.A6<=a.BT+l.B2/\a.BT+l.B2<=a.Cs.Bc:=by
 obtain⟨⟨s1,s2⟩,IK,Jy⟩:=hs;unfold UJ;cases e:J3 (a.BT+l.B2)with
 |true=>
  rw[(Vn e).1,(Vn e).2,ABG rfl,Bool.true_and];exact eJ
 |false=>
  rw[(tL e).1,(tL e).2];simp only[J3,ACu,ABl]at e;exact⟨fun h=>(by cases h),fun h=>AJv⟩
theorem P3{a:AD}(hs:a.Cs.wf):E4 a=true↔Fw a:=by
 obtain⟨⟨s1,s2⟩,IK,Jy⟩:=id hs;constructor
 · intro h;unfold E4 at h;split at h
   · cases h
   · rename_i Af;split at h
     · cases h
     · rename_i h2;simp only[VO,ABk,ABa,ABN,ABe,AB_]at Af;obtain⟨⟨⟨⟨A1,AY⟩,Aq⟩,Bh⟩,hh⟩:=Af;simp only[XQ,ABk,ABa,ABN,ABe,AB_,ABb]at h2;obtain⟨⟨⟨gx,d0⟩,Zp⟩,d1⟩:=h2;have Vq:J3 (I7 a)=true:=by
        cases e:J3 (I7 a)with
        |true=>rfl
        |false=>rw[No,AA9 (by rw[e];decide)]at gx;cases gx
       have dW:J3 (IU a)=true:=by
        cases e:J3 (IU a)with
        |true=>rfl
        |false=>rw[No,AA9 (by rw[e];decide)]at d0;cases d0
       rw[Lo,AA_ Vq]at Zp;rw[Lo,AA_ dW]at d1;obtain⟨CY,Dh⟩:=eJ.1 Aq;refine⟨YY.2 ⟨A1,AY⟩,CY,Dh,AJv,hh,AJv,AJv,fun e=>?_,fun e=>?_⟩
       · rw[AA_ (ABG e)]at h;exact ABA h
       · rw[AA9 (by rw[ABM e];decide)]at h;simp only[ABb,ABa]at h;obtain⟨⟨x,y⟩,z⟩:=h;exact⟨x,ADd.1 AJv,(ib hs).1 z⟩
 · intro h;have Hj:=cR h.hold;have G1:=ag h.hold;have:=h.BQ;have:=h.Ag;have:=h.up;have:=h.GV;have Vq:J3 (I7 a)=true:=(by simp only[J3,ABb,ABa];omega);have dW:J3 (IU a)=true:=(by simp only[J3,ABb,ABa];omega);have B4:VO a=false:=by
    obtain⟨A1,AY⟩:=YY.1 h.key;have Aq:Rb a.Cs a.BT=true:=eJ.2 ⟨h.BQ,h.Ag⟩;have Bh:¬a.Cn<0:=(by have:=h.rd;omega);simp only[VO,ABM A1,ABM AY,ABM Bh,Aq,h.hold];rfl
   have DC:XQ a=false:=by
    have Ey:¬I7 a>a.Cs.Bc:=AJv;have Ez:¬IU a<a.Cs.A6:=AJv;rw[XQ,(Vn Vq).1,(Vn Vq).2,(Vn dW).1,(Vn dW).2,ABM Ey,ABM Ez];rfl
   rw[E4,B4,AA9 AJx,DC,AA9 AJx];by_cases e:a.BG.Ap=0
   · rw[AA_ (ABG e)];exact ABG (h.YK e)
   · rw[AA9 (by rw[ABM e];decide)];obtain⟨x,y,z⟩:=h.Om e;rw[x,(ib hs).2 z,y];rfl
structure D3 (a:AD):Prop where
 wf:a.wf
 A7:∀h∈a.A0,h.wf
theorem D3.sp{a:AD}(h:D3 a):a.Cs.wf:=h.wf.2.1
theorem Fw.acc{a:AD}(h:Fw a)(w:D3 a):E4 a=true:=(P3 w.sp).2 h
theorem gy{a:AD}(h:G_ a=false):a.BG.Ap=0:=by simpa[G_]using h
theorem locked{a:AD}(h:G_ a=true):¬a.BG.Ap=0:=by simpa[G_]using h
theorem sQ{a:AD}(w:D3 a)(h:Fw a)(AN:G_ a=false):Jx a=a.Cs.Bc-I7 a:=by
 obtain⟨⟨s1,s2⟩,IK,Jy⟩:=w.sp;have Hj:=cR h.hold;have:=h.BQ;have:=h.up;have Vq:J3 (I7 a)=true:=by simp only[J3,ABb,ABa];omega
 rw[Jx,h.acc w,AN,AA9 AJx,(Vn Vq).1];omega
theorem oP{a:AD}(w:D3 a)(h:Fw a)(AN:G_ a=false):K4 a=IU a-a.Cs.A6:=by
 obtain⟨⟨s1,s2⟩,IK,Jy⟩:=w.sp;have Hj:=ag h.hold;have:=h.Ag;have:=h.GV;have Vq:J3 (IU a)=true:=by simp only[J3,ABb,ABa];omega
 rw[K4,h.acc w,AN,AA9 AJx,(Vn Vq).1];omega
theorem Akx(a:AD)(n:Int):I7 {a with BT:=n}=n-a.BT+I7 a:=by unfold I7;simp only;omega
theorem yC(a:AD)(n:Int):IU {a with BT:=n}=n-a.BT+IU a:=by unfold IU;simp only;omega
theorem ZU{a:AD}{n:Int}(w:D3 a)(Ao:A' n)(h:(JF a n).2=0):Fw a/\G_ a=false/\(JF a n).1={a with BT:=a.BT+n}/\Fw (JF a n).1/\D3 (JF a n).1:=by
 unfold JF at h ⊢;split at h
 · cases h
 · rename_i Af;rw[AA9 Af];have AK:Fw a:=(P3 w.sp).1 (by simpa using Af);split at h
   · cases h
   · rename_i h2;rw[AA9 h2];split at h
     · cases h
     · rename_i Bo;rw[AA9 Bo];have AN:G_ a=false:=(by simpa using Bo);split at h
       · cases h
       · rename_i BB;rw[AA9 BB];obtain⟨HG,MF⟩:=Ao;obtain⟨⟨s1,s2⟩,IK,Jy⟩:=w.sp;have Hj:=cR AK.hold;have G1:=ag AK.hold;have DP:=AK.BQ;have EK:=AK.Ag;have FR:=AK.up;have Iz:=AK.GV;simp only[dw,sQ w AK AN,oP w AK AN,ABk,ABb,ABa,ABN,not_and]at BB;have Aq:a.Cs.A6<=a.BT+n/\a.BT+n<=a.Cs.Bc/\I7 a+n<=a.Cs.Bc/\a.Cs.A6<=IU a+n:=by
          rcases Int.lt_trichotomy n 0 with q|q|q
          · have:=BB.2 q;omega
          · exact absurd q h2
          · have:=BB.1 q;omega
         obtain⟨CY,Dh,DQ,En⟩:=Aq;refine⟨AK,AN,rfl,⟨AK.key,CY,Dh,AK.rd,AK.hold,?_,?_,AK.YK,fun e=>absurd (gy AN) e⟩,⟨w.wf.1,w.wf.2.1,⟨by show-9223372036854775808<=a.BT+n;omega,by show a.BT+n<=9223372036854775807;omega⟩,w.wf.2.2.2.1,trivial,w.wf.2.2.2.2.2⟩,w.A7⟩
         · rw[Akx];show a.BT+n-a.BT+I7 a<=a.Cs.Bc;omega
         · rw[yC];show a.Cs.A6<=a.BT+n-a.BT+IU a;omega
theorem sN{a:AD}{r:Int}(h:Fw a)(Bh:0<=r):Fw {a with Cn:=r}:=⟨h.key,h.BQ,h.Ag,Bh,h.hold,h.up,h.GV,h.YK,h.Om⟩
theorem k_{a:AD}{r:Int}(h:D3 a)(Bh:A' r):D3 {a with Cn:=r}:=⟨⟨h.wf.1,h.wf.2.1,h.wf.2.2.1,Bh,trivial,h.wf.2.2.2.2.2⟩,h.A7⟩
theorem ig{a:AD}{r:Int}(w:D3 a)(h:Fw a)(Af:1<=r)(h2:r<=EW):(Mx a r).1={a with Cn:=if a.Cn=0 then r else a.Cn}/\Fw (Mx a r).1/\D3 (Mx a r).1:=by
 have e:Mx a r=(if a.Cn=0 then({a with Cn:=r},0)else(a,0)):=by
  rw[Mx,AA9 (by rw[h.acc w];decide),AA9 (by simp only[ABk,ABa];omega)]
 rw[e];split
 · exact⟨rfl,sN h AJv,k_ w ⟨AJv,by unfold EW at h2;omega⟩⟩
 · exact⟨rfl,h,w⟩
theorem l8{a:AD}(w:D3 a)(h:Fw a):(OA a).1={a with Cn:=0}/\Fw (OA a).1/\D3 (OA a).1:=by
 rw[OA,AA9 (by rw[h.acc w];decide)];exact⟨rfl,sN h AJv,k_ w DW⟩
theorem nD{a:AD}{s:GC}(w:D3 a)(hs:s.wf)(h:(Pu a s).2=0):(Pu a s).1={a with Cs:=s}/\Fw a/\Fw (Pu a s).1/\D3 (Pu a s).1/\(Io a).2=true:=by
 unfold Pu at h ⊢;split at h
 · rename_i Ao;exact absurd h Ao
 · rename_i Ao;rw[AA9 Ao];split at h
   · cases h
   · rename_i h2;rw[AA9 h2];have AE:LJ a=0:=ACD.1 Ao;unfold LJ at AE;split at AE
     · cases AE
     · rename_i A1;split at AE
       · cases AE
       · rename_i AY;have AK:Fw a:=(P3 w.sp).1 (by simpa using A1);have Av:(Io a).2=true:=(by simpa using AY);obtain⟨CY,Dh⟩:=eJ.1 (by simpa using h2:Rb s a.BT=true);have pV:a.A0=[]/\G_ a=false:=by
          unfold Io at Av;split at Av
          · cases Av
          · rename_i q;simp only[ABk,ABa,ABN,ABe,AB_,ACH]at q;exact⟨ADd.1 AJv,q.1.2⟩
         have u:I7 a=a.BT/\IU a=a.BT:=by
          unfold I7 IU;rw[pV.1];simp
         refine⟨rfl,AK,⟨AK.key,CY,Dh,AK.rd,AK.hold,?_,?_,AK.YK,fun e=>absurd (gy pV.2) e⟩,⟨⟨w.wf.1,hs,w.wf.2.2⟩,w.A7⟩,Av⟩
         · show I7 a<=s.Bc;omega
         · show s.A6<=IU a;omega
end Go.Apw
