/- The law ShardGiven holds of every input of bulk at most 1048576: what waits and is given up is answered with ErrBusy, and nothing else changes; when nothing waits any more, the account thaws, and its holder's rights are as they were. Condition: the bulk bound, which the given statement names. -/
import Derived.JoinedCond
import Derived.Test.YtalfaopffbkdnabGreatStm24

set_option maxRecDepth 20000
set_option maxHeartbeats 1000000
open Go.Proofs.Tryz renaming underlying22→ABH,underlying23→ACh,underlying4→ADM,underlying49→AJG,underlying56→ADN
open Nat renaming lt_succ_self→AJI
open Go.A_ Go.Proofs Go.Proofs.YtalfaopffbkdnabGreat
namespace Go.Apw
def AGE(P:Int->Bool)(n:Nat):List Value:=(AGz P n).map Value.bool
theorem AHu(P:Int->Bool)(n:Nat):(AGE P n).length=n:=by rw[AGE,List.length_map,AG4]
theorem AGU{P:Int->Bool}{n j:Nat}(h:j<n):(AGE P n)[j]? =some (.bool (P (2+(j:Int)))):=by
  have:=AGZ (P:=P) h;rw[ACn]at this;rw[AGE,List.getElem?_map,ABs (by rw[AG4];exact h)]at*;exact ABE (fun b=>some (Value.bool b)) this
theorem AHQ{P:Int->Bool}{n k:Nat}:(AGE P n).set k (.bool true)=AGE (AGv P k) n:=by rw[AGE,AGE,<-AIs,List.map_set]
theorem AIi(n:Nat):List.replicate n (Value.bool false)=AGE (fun _=>false) n:=by
  refine List.ext_getElem (by rw[List.length_replicate,AHu]) fun j Af h2=>?_;rw[List.length_replicate]at Af;have:=AGU (P:=fun _=>false) Af;rw[ABs h2]at this;rw[List.getElem_replicate];exact(Option.some.inj this).symm
theorem AIq{ops:List FL}(hw:∀o∈ops,o.wf){k i:Nat}{P:Int->Bool}{S:Bv}(AE:k<AGn ops)(Fy:XO (F8 1) S i)(g:AGN (AGp ops) (AGn ops) P S)(Ag:(i:Int)+1<=EW):
    ∃(Z:Bv) (E:List FE),Gc S (AGA k) (S.DX+1) 3=(Z,E,0)/\(P (2+(k:Int))=true/\E=[]\/P (2+(k:Int))=false/\E=[⟨1,2+(k:Int),1,HN 190⟩])/\XO (F8 1) Z (i+1)/\AGN (AGp ops) (AGn ops) (AGv P k) Z/\Z.AA.length=AGD (AGz (AGv P k) (AGn ops)) (AGn ops)/\
      (ApH Z AGq).BT=(AGo 0).BT/\(ApH Z AGq).A0=(AGo 0).A0/\(ApH Z AGq).Cs=(AGo 0).Cs/\((ApH Z AGq).Cn=0↔Z.AA.length=0)/\ApE Z AGq=true:=by
  obtain⟨Z,a,b,c,d,e,f,AmS,h⟩:=AIm hw AE Fy g Ag;obtain⟨i1,i2⟩:=AIj c;rw[<-i1]at e f AmS h;refine⟨Z,_,a,?_,b,c,d,e,f,AmS,h,i2⟩;cases P (2+(k:Int))with
  |true=>exact .inl ⟨rfl,rfl⟩
  |false=>exact .inr ⟨rfl,rfl⟩
theorem AIn{ops:List FL}(hw:∀o∈ops,o.wf):XO (F8 1) (AGr (AGp ops) (AGn ops)) (AGn ops+1):=by
  by_cases h:AGn ops=0
  · rw[h];exact AHi
  · exact AHB (AHk hw) (AHY AJv) (by rw[AGJ];exact(AG7 ops).1) _ (by rw[AGJ];exact ABW _)
theorem AIS{n i l:Nat}(Ag:(i:Int)<(l:Int)+(n:Int))(AN:l<=1048576)(Ao:n<=7):(((i:Int)-(l:Int)<0\/n=0)\/∃k:Nat,(i:Int)-(l:Int)=(k:Int)/\k<n)/\A' ((i:Int)-(l:Int)):=by
  refine⟨?_,⟨AJv,AJv⟩⟩;by_cases q:i<l
  · exact .inl (.inl AJv)
  · exact .inr ⟨i-l,AJv,AJv⟩
theorem AIT{n:Nat}{x:Int}(h:(x<0\/n=0)\/∃k:Nat,x=(k:Int)/\k<n)(Af:¬x<0)(h2:¬(n:Int)=0):∃k:Nat,x=(k:Int)/\k<n:=by
  rcases h with(h|h)|h
  · exact absurd h Af
  · omega
  · exact h
theorem AIC(o:FL)(_:o.wf):Cv AG 7 [.agg (MZ o).toArray] [] (.agg (MZ (AGH o)).toArray):=by
  refine Aw.proof Tryz.func7 rfl 44 rfl rfl fun X w=>?_;obtain⟨AJi,AJj⟩:=AG1 o.B2;obtain⟨AJg,AJh⟩:=AG1 o.A6;obtain⟨Tp,Jf⟩:=AG1 o.Bc;refine Am<|rg<|CV rfl rfl rfl fun CY=>CT vt rfl fun Dh=>Ac<|Am<|rg<|Db (ps:=[(0,.const (.int .i64 4)),(1,_)]) (cs:=MZ AGs) AJy AJw rfl<|CT vt rfl fun DQ=>BZ 0 (us:=(MZ AGs)) rfl rfl rfl AGL rfl rfl<|Ac<|Am ?_;refine Am<|rg<|UG rfl AHd rfl<|ME 2 rfl rfl AGG rfl rfl<|Ac<|B5<|Am<|Am<|rg<|zc rfl rfl rfl<|VQ rfl rfl<|Ac ?_;refine qA (σ:=Bool) [(1,_),(2,_),(3,_),(6,_)] _ (fun s C=>(7,.bool s)::C) (fun s=>[AO DQ 47 (MZ AGs),AO Dh 47 [.int .i64 0,.string ByteArray.empty,.string ByteArray.empty,.int .i64 0,.int .i64 0,.int .i64 0],AO CY 47 (MZ o),CL X w]) (fun s=>(s=true↔o.Ca=1\/o.Ca=2)) ⟨rfl,rfl,rfl,rfl,trivial⟩ Bg.nil ?_ ?_
  ·
    refine B9 rfl (fun GY=>?_) (fun GY=>?_)
    · exact EG<|e9 (decide (o.Ca=1)) ⟨fun _=>.inl GY,fun _=>ABG GY⟩ ⟨rfl,rfl,rfl,rfl,rfl,trivial⟩ rfl Bg.nil
    · exact rg<|zc rfl rfl rfl<|VQ rfl rfl<|nl<|e9 (decide (o.Ca=2)) ⟨fun q=>.inr (ABA q),fun q=>ABG AJv⟩ ⟨rfl,rfl,rfl,rfl,rfl,trivial⟩ rfl Bg.nil
  ·
    intro Bi AHe;show Eg _ _ _ [(7,_),(1,_),(2,_),(3,_),(6,_)] [AO DQ 47 (MZ AGs),AO Dh 47 [.int .i64 0,.string ByteArray.empty,.string ByteArray.empty,.int .i64 0,.int .i64 0,.int .i64 0],AO CY 47 (MZ o),CL X w] _;refine A5<|qA (σ:=FL) [(2,_),(3,_)] _ (fun s C=>C) (fun s=>[AO DQ 47 (MZ s),AO Dh 47 [.int .i64 0,.string ByteArray.empty,.string ByteArray.empty,.int .i64 0,.int .i64 0,.int .i64 0],AO CY 47 (MZ o),CL X w]) (fun s=>s=AGH o) ⟨rfl,rfl,trivial⟩ Bg.nil ?_ ?_
    ·
      refine BN rfl (fun GY=>?_) (fun GY=>?_)
      ·
        refine AuG [] [(0,[(9,.f0 (AO DQ 47 [.int .i64 o.Ca,.string AGs.Al,.string AGs.EL,.int .i64 AGs.B2,.int .i64 AGs.A6,.int .i64 AGs.Bc])),(11,.f0 (AO DQ 47 [.int .i64 o.Ca,.string AGs.Al,.string AGs.EL,.int .i64 ((1+(KP o.B2 30))),.int .i64 AGs.A6,.int .i64 AGs.Bc]))])] [(4,DF [] (.int .u64 (IntKind.u64.wrap o.B2))),(5,DF [] (.int .u64 (KP o.B2 30))),(6,DF [] (.int .i64 ((KP o.B2 30)))),(7,DF [] (.int .i64 ((1+(KP o.B2 30))))),(9,DF [0] undef),(11,DF [0] undef)] [(1,2),(3,2)] [2,3] (fun _=>rfl) (fun _=>rfl) (fun Ai AV Az=>⟨fun _=>?_,fun _=>?_,fun _=>?_,fun _=>?_,fun _=>?_,fun _=>?_,trivial⟩) fun Ai _=>?_
        · exact F0 ABc ADN rfl (r:=IntKind.u64.wrap o.B2) rfl rfl<|BU [] [] 0 rfl rfl
        · exact k' rfl rfl AJx (r:=KP o.B2 30) rfl rfl<|BU [] [] 0 rfl rfl
        · exact F0 ADN ABc rfl (Uf ⟨AJv,AJv⟩) rfl<|BU [] [] 0 rfl rfl
        · exact C5 rfl rfl BV rfl<|BU [] [] 0 rfl rfl
        · exact Fi 0 rfl rfl rfl AGG rfl (ACp (AJI _) (ABy rfl))<|BU [] [] 0 rfl rfl
        · exact Fi 0 rfl rfl rfl AGG rfl (ACp (AJI _) (ABy rfl))<|BU [] [] 0 rfl rfl
        · exact e9 ({AGs with Ca:=o.Ca,B2:=1+KP o.B2 30}:FL) (by rw[AGH,AA_ (AHe.1 GY)]) ⟨rfl,rfl,trivial⟩ rfl Bg.nil
      ·
        refine Am<|rg<|zc rfl rfl rfl<|VQ rfl rfl<|Ac<|B9 rfl (fun HQ=>?_) (fun HQ=>?_)
        ·
          refine AuG [] [(0,[(14,.f0 (AO DQ 47 [.int .i64 o.Ca,.string AGs.Al,.string AGs.EL,.int .i64 AGs.B2,.int .i64 AGs.A6,.int .i64 AGs.Bc])),(16,.f0 (AO DQ 47 [.int .i64 o.Ca,.string AGs.Al,.string AGs.EL,.int .i64 AGs.B2,.int .i64 ((-(KP o.A6 30))),.int .i64 AGs.Bc])),(18,.f0 (AO DQ 47 [.int .i64 o.Ca,.string AGs.Al,.string AGs.EL,.int .i64 AGs.B2,.int .i64 ((-(KP o.A6 30))),.int .i64 ((KP o.Bc 30))]))])] [(4,DF [] (.int .u64 (IntKind.u64.wrap o.A6))),(5,DF [] (.int .u64 (KP o.A6 30))),(6,DF [] (.int .i64 ((KP o.A6 30)))),(7,DF [] (.int .i64 ((-(KP o.A6 30))))),(10,DF [] (.int .u64 (IntKind.u64.wrap o.Bc))),(11,DF [] (.int .u64 (KP o.Bc 30))),(12,DF [] (.int .i64 ((KP o.Bc 30)))),(14,DF [0] undef),(16,DF [0] undef),(18,DF [0] undef)] [(1,2),(3,2),(9,2)] [2,3] (fun _=>rfl) (fun _=>rfl) (fun Ai AV Az=>⟨fun _=>?_,fun _=>?_,fun _=>?_,fun _=>?_,fun _=>?_,fun _=>?_,fun _=>?_,fun _=>?_,fun _=>?_,fun _=>?_,trivial⟩) fun Ai _=>?_
          · exact F0 ABc ADN rfl (r:=IntKind.u64.wrap o.A6) rfl rfl<|BU [] [] 0 rfl rfl
          · exact k' rfl rfl AJx (r:=KP o.A6 30) rfl rfl<|BU [] [] 0 rfl rfl
          · exact F0 ADN ABc rfl (Uf ⟨AJv,AJv⟩) rfl<|BU [] [] 0 rfl rfl
          · exact fl rfl BV rfl<|BU [] [] 0 rfl rfl
          · exact F0 ABc ADN rfl (r:=IntKind.u64.wrap o.Bc) rfl rfl<|BU [] [] 0 rfl rfl
          · exact k' rfl rfl AJx (r:=KP o.Bc 30) rfl rfl<|BU [] [] 0 rfl rfl
          · exact F0 ADN ABc rfl (Uf ⟨AJv,AJv⟩) rfl<|BU [] [] 0 rfl rfl
          · exact Fi 0 rfl rfl rfl AGG rfl (ACp (AJI _) (ABy rfl))<|BU [] [] 0 rfl rfl
          · exact Fi 0 rfl rfl rfl AGG rfl (ACp (AJI _) (ABy rfl))<|BU [] [] 0 rfl rfl
          · exact Fi 0 rfl rfl rfl AGG rfl (ACp (AJI _) (ABy rfl))<|BU [] [] 0 rfl rfl
          · exact e9 ({AGs with Ca:=o.Ca,A6:= -KP o.A6 30,Bc:=KP o.Bc 30}:FL) (by rw[AGH,AA9 (fun q=>ABd (GY.symm.trans (AHe.2 q))),AA_ HQ]) ⟨rfl,rfl,trivial⟩ rfl Bg.nil
        ·
          refine Am<|rg<|zc rfl rfl rfl<|VQ rfl rfl<|Ac<|B9 rfl (fun NK=>?_) (fun NK=>?_)
          · exact rg<|UG rfl AHd rfl<|ME 2 rfl rfl AGG rfl rfl<|UG rfl AHd rfl<|Fi 0 rfl rfl rfl AGG rfl (ACp (AJI _) (ABy rfl))<|nl<|e9 ({AGs with Ca:=o.Ca}:FL) (by rw[AGH,AA9 (fun q=>ABd (GY.symm.trans (AHe.2 q))),AA9 HQ,AA_ NK]) ⟨rfl,rfl,trivial⟩ rfl Bg.nil
          · exact EG<|e9 AGs (by rw[AGH,AA9 (fun q=>ABd (GY.symm.trans (AHe.2 q))),AA9 HQ,AA9 NK]) ⟨rfl,rfl,trivial⟩ rfl Bg.nil
    ·
      intro AG2 AHg;subst AHg;show Eg _ _ _ [(2,_),(3,_)] [AO DQ 47 (MZ (AGH o)),AO Dh 47 [.int .i64 0,.string ByteArray.empty,.string ByteArray.empty,.int .i64 0,.int .i64 0,.int .i64 0],AO CY 47 (MZ o),CL X w] _;exact CU<|A5<|Am<|rg<|BJ 0 (MZ ((AGH o))) rfl rfl AGL rfl rfl<|BZ 1 (us:=(MZ ((AGH o)))) rfl rfl rfl AGL rfl rfl<|Ac<|rt<|D8 () [_,_,_] (Qv 1 rfl rfl rfl AGL) AJy rfl Bg.nil
end Go.Apw
namespace Go.A_
open Go.RowKit
end Go.A_
namespace Go.Apw
theorem AIH:Aw AG 4 [.int .i64 0,.int .i64 20] [] [] (fun(y:Value×Value×Value×Value×Value×Value) u=>u=.tuple #[.agg (BY AGt y.1 y.2.1 y.2.2.1 y.2.2.2.1 y.2.2.2.2.1 y.2.2.2.2.2).toArray,.bool true]) (fun _ _=>[]) (fun y _=>[⟨y.1,AGt.Aj⟩,⟨y.2.1,AGt.Bz⟩,⟨y.2.2.1,AGt.AA⟩,⟨y.2.2.2.1,AGt.Bj⟩,⟨y.2.2.2.2.1,AGt.CX⟩,⟨y.2.2.2.2.2,AGt.Cf⟩]):=by
  refine Aw.proof Tryz.func4 rfl 63 rfl rfl fun X w=>DJ (α:=AD) ?_;refine DJ (α:=BL) ?_;refine DJ (α:=BX) ?_;refine DJ (α:=Bx) ?_;refine DJ (α:=Df) ?_;refine DJ (α:=UInt8) ?_;refine Am<|rg<|CT LQ rfl fun En=>VQ rfl rfl<|Ac<|Am<|rg<|B0 (rH 1 ⟨AJx,AJx⟩ rfl) (Ar G) rfl Bg.nil rfl<|An rfl rfl<|Ec rfl rfl rfl<|Ec rfl rfl rfl<|CT LQ rfl fun Hg=>BZ 0 (us:=(BY ((F8 1)) AI AI AI AI AI AI)) rfl rfl rfl AGy rfl rfl ?_;refine VQ rfl rfl<|Ac<|Am<|rg<|An rfl rfl<|An rfl rfl<|Db (ps:=[(0,_),(1,_),(4,_),(5,_)]) (cs:=MZ AGI.AM) AJy AJw rfl<|CT vt rfl fun K0=>BZ 0 (us:=(MZ AGI.AM)) rfl rfl rfl AGL rfl rfl<|Ac<|Am<|rg ?_;refine BJ 1 (BY ((F8 1)) AI AI AI AI AI AI) rfl rfl AGy rfl rfl<|BJ 0 (MZ AGI.AM) rfl rfl AGL rfl rfl<|Db (ps:=[(0,_),(1,_),(2,_),(3,_),(4,_),(11,_)]) (cs:=IT AGI AI) AJy AJw rfl<|Dm (w4 (F8 1) _ _ _ _ _ _ AGI _ 1 3 (AGt,[⟨1,1,1,GS⟩],0) AHX (fJ (g:=1) rfl).ints (Aeq ⟨AJx,AJx⟩) AHL ⟨AJx,AJx⟩ ⟨AJx,AJx⟩) (Ar G) rfl (Bg.cons 5 rfl (Bg.cons 4 rfl (Bg.cons 3 rfl (Bg.cons 2 rfl (Bg.cons 1 rfl (Bg.cons 0 rfl (Bg.cons 0 rfl Bg.nil))))))) rfl fun AI8 T7 Gr=>?_;obtain⟨RF,N8,OF,P1,P2,SK,vq⟩:=AI8;obtain⟨AIg,Vs⟩:=Gr;subst AIg;refine An rfl rfl<|Ec rfl rfl rfl<|Ec rfl rfl rfl<|Ec rfl rfl rfl<|CT LQ rfl fun H7=>GO (q:=RF.oneCell'=true) (fun S w h=>Fh (h _ (AA' (i:=0) rfl))) fun bT=>?_;refine GO (q:=N8.oneCell'=true) (fun S w h=>Fh (h _ (AA' (i:=1) rfl))) fun bU=>?_;refine GO (q:=OF.oneCell'=true) (fun S w h=>Fh (h _ (AA' (i:=2) rfl))) fun bV=>?_;refine GO (q:=P1.oneCell'=true) (fun S w h=>Fh (h _ (AA' (i:=3) rfl))) fun bW=>?_;refine GO (q:=P2.oneCell'=true) (fun S w h=>Fh (h _ (AA' (i:=4) rfl))) fun bX=>?_;refine GO (q:=SK.oneCell'=true) (fun S w h=>Fh (h _ (AA' (i:=5) rfl))) fun bY=>?_;refine BZ 0 (us:=(BY AGt RF N8 OF P1 P2 SK)) rfl rfl rfl AGy (by simp only[ABn,ABr,ABp,bT,bU,bV,bW,bX,bY];rfl) rfl<|VQ rfl rfl<|VQ rfl rfl<|Ac<|Am<|rg<|BJ 0 (BY AGt RF N8 OF P1 P2 SK) rfl rfl AGy rfl rfl<|Dm (AqC AGt _ _ _ _ _ _ AGq (AGo 0) AHh.1 Vs (AqL AHU AHV)) (Ar G) rfl (Bg.cons 0 rfl (Bg.cons 1 rfl (Bg.cons 2 rfl (Bg.cons 3 rfl (Bg.cons 4 rfl (Bg.cons 5 rfl Bg.nil)))))) rfl fun Vw L5 ES=>?_;obtain⟨AHN,cZ⟩:=ES;rw[AHh.2]at AHN;subst AHN;refine An rfl rfl<|Ec rfl rfl rfl<|Ec rfl rfl rfl<|CT Hd rfl fun ns=>GO (q:=Vw.oneCell'=true) (fun S w h=>Fh (h _ (AA' (i:=0) rfl))) fun AIO=>?_;refine BZ 0 (us:=(A3 ((AGo 0)) Vw)) rfl rfl rfl AHo (by simp only[ABn,ABr,ABp,AIO];rfl) rfl<|VQ rfl rfl<|Ac<|Am ?_;have AJf:0<(AGo 0).A0.length:=AJx;refine AuG [] [(4,[(29,.f0 (AO En 33 (BY AGt RF N8 OF P1 P2 SK)))])] [(2,DF [] (.bool true)),(5,DF [] (.bool true)),(9,DF [] (.int .i64 (([(⟨1,1,1,GS⟩:FE)].length:Int)))),(10,DF [] (.bool true)),(18,DF [] (.int .i64 (((AGo 0).A0.length:Int)))),(19,DF [] (.bool true)),(24,Ff [] (fun A4=>some (A4 0)) fun A4=>[⟨(A4 0),(⟨((AGo 0).A0.getD 0 default)⟩:Cq BD)⟩]),(25,Ff [] (fun A4=>some (A4 0)) fun A4=>[⟨(A4 0),(⟨((AGo 0).A0.getD 0 default).Bn⟩:Cq Int)⟩]),(26,⟨[],fun _=>some (.int .i64 (((AGo 0).A0.getD 0 default).Bn)),fun _=>[],[A' ((AGo 0).A0.getD 0 default).Bn]⟩),(27,DF [] (.bool true)),(29,DF [4] undef)] [(0,1),(17,0),(23,0)] [4,5] (fun _=>rfl) (fun _=>rfl) (fun Ai AV Az=>⟨fun _=>?_,fun _=>?_,fun _=>?_,fun _=>?_,fun _=>?_,fun _=>?_,fun _=>?_,fun _=>?_,fun _=>?_,fun QJ=>?_,fun _=>?_,trivial⟩) fun Ai QJ=>?_
  · exact zc rfl rfl rfl<|ApG (ABE Value.bool (ABG rfl))<|BU [] [] 0 rfl rfl
  · exact Bl rfl rfl rfl<|zc rfl rfl rfl<|ApG (ABE Value.bool (ABG rfl))<|BU [] [] 0 rfl rfl
  · exact Bl rfl rfl rfl<|C2 7 rfl rfl AJG rfl fun AIF=>BU [] [] 0 rfl rfl
  · exact Bl rfl rfl rfl<|zc rfl rfl rfl<|ApG (ABE Value.bool (ABG rfl))<|BU [] [] 0 rfl rfl
  · exact Bl rfl rfl rfl<|C2 0 rfl rfl Tryz.underlying39 rfl fun AJc=>BU [] [] 0 rfl rfl
  · exact Bl rfl rfl rfl<|zc rfl rfl rfl<|ApG (ABE Value.bool (ABG rfl))<|BU [] [] 0 rfl rfl
  · exact Bl rfl rfl rfl<|Qh 0 rfl rfl rfl I6 AJv (Ly (d:=default) AJv) rfl fun AtV=>BU [_] [0] 1 rfl rfl
  · exact Bl rfl rfl rfl<|IY (α:=BD) (β:=Int) 0 (fun x:BD=>x.Bn) rfl rfl AHP Agt rfl fun QB=>BU [_] [0] 2 rfl rfl
  ·
    refine Bl rfl rfl rfl<|CQ 1 rfl rfl AGG rfl fun AkV=>?_;exact WT [] [] 2 rfl rfl ⟨AkV,trivial⟩
  · exact Bl rfl rfl rfl<|zc rfl rfl rfl<|ApG (ABE Value.bool (ABG rfl))<|BU [] [] 2 rfl rfl
  ·
    refine GO (q:=RF.oneCell'=true) (fun S w h=>Fh (h _ (AA' (i:=1) rfl))) fun bT=>?_;refine GO (q:=N8.oneCell'=true) (fun S w h=>Fh (h _ (AA' (i:=2) rfl))) fun bU=>?_;refine GO (q:=OF.oneCell'=true) (fun S w h=>Fh (h _ (AA' (i:=3) rfl))) fun bV=>?_;refine GO (q:=P1.oneCell'=true) (fun S w h=>Fh (h _ (AA' (i:=4) rfl))) fun bW=>?_;refine GO (q:=P2.oneCell'=true) (fun S w h=>Fh (h _ (AA' (i:=5) rfl))) fun bX=>?_;refine GO (q:=SK.oneCell'=true) (fun S w h=>Fh (h _ (AA' (i:=6) rfl))) fun bY=>?_;exact BZ 0 (us:=(BY AGt RF N8 OF P1 P2 SK)) rfl rfl rfl AGy (by simp only[ABn,ABr,ABp,bT,bU,bV,bW,bX,bY];rfl) rfl<|BU [] [] 0 rfl rfl
  ·
    obtain⟨AkV,_⟩:=QJ;generalize Ai 24 0=AJp,Ai 25 0=AI4;exact A5<|rt<|D8 ⟨RF,N8,OF,P1,P2,SK⟩ [_,_,_,_,_] (Fp 4 rfl rfl rfl rfl AGy) AJy rfl (Bg.cons 3 rfl (Bg.cons 4 rfl (Bg.cons 5 rfl (Bg.cons 6 rfl (Bg.cons 7 rfl (Bg.cons 8 rfl Bg.nil))))))
end Go.Apw
namespace Go.A_
open Go.RowKit
end Go.A_
namespace Go.Apw
theorem AH2(I8 I9:Value){x y:List BD}(h:x=y):Cv AG 9 [I8,I9] [⟨I8,x⟩,⟨I9,y⟩] (.bool true):=by
  have:=Ahv I8 x I9 y;rw[ABG h]at this;exact this
theorem AIl(AH_:Value)(ops:List FL)(AsS:Value)(Ar4:List Int)(hlen:ops.length+Ar4.length<=1048576)(hw:∀o∈ops,o.wf):Cv AG 3 [AH_,AsS] [⟨AH_,ops⟩,⟨AsS,Ar4⟩] (.bool true):=by
  refine Aw.proof Tryz.func3 rfl 223 rfl rfl fun X w=>DJ (α:=UInt8) ?_;refine Am<|rg<|VQ rfl rfl<|Ac<|Am<|rg<|Dm AIH (Ar G) rfl Bg.nil rfl fun mJ Pf JR=>?_;obtain⟨RF,N8,OF,P1,P2,SK⟩:=mJ;subst JR;refine An rfl rfl<|Ec rfl rfl rfl<|Ec rfl rfl rfl<|CT LQ rfl fun E'=>GO (q:=RF.oneCell'=true) (fun S w h=>Fh (h _ (AA' (i:=0) rfl))) fun bT=>?_;refine GO (q:=N8.oneCell'=true) (fun S w h=>Fh (h _ (AA' (i:=1) rfl))) fun bU=>?_;refine GO (q:=OF.oneCell'=true) (fun S w h=>Fh (h _ (AA' (i:=2) rfl))) fun bV=>?_;refine GO (q:=P1.oneCell'=true) (fun S w h=>Fh (h _ (AA' (i:=3) rfl))) fun bW=>?_;refine GO (q:=P2.oneCell'=true) (fun S w h=>Fh (h _ (AA' (i:=4) rfl))) fun bX=>?_;refine GO (q:=SK.oneCell'=true) (fun S w h=>Fh (h _ (AA' (i:=5) rfl))) fun bY=>?_;refine BZ 0 (us:=(BY AGt RF N8 OF P1 P2 SK)) rfl rfl rfl AGy (by simp only[ABn,ABr,ABp,bT,bU,bV,bW,bX,bY];rfl) rfl<|VQ rfl rfl<|Ac<|Am<|Am<|rg<|B0 (xe) (Ar G) rfl Bg.nil rfl<|IH rfl rfl<|An rfl rfl<|Bl rfl rfl rfl<|An rfl rfl<|Bl rfl rfl rfl<|IH rfl rfl ?_;refine Ahj rfl rfl rfl<|Ac<|LW rfl<|AZ<|Am<|rg<|BJ 0 (BY AGt RF N8 OF P1 P2 SK) rfl rfl AGy rfl rfl<|Dm (AqC AGt _ _ _ _ _ _ AGq (AGo 0) AHh.1 AHW (AqL AHU AHV)) (Ar G) rfl (Bg.cons 0 rfl (Bg.cons 1 rfl (Bg.cons 2 rfl (Bg.cons 3 rfl (Bg.cons 4 rfl (Bg.cons 5 rfl Bg.nil)))))) rfl fun AlI PT NK=>?_;obtain⟨yM,Zt⟩:=NK;rw[AHh.2]at yM;subst yM;refine An rfl rfl<|Ec rfl rfl rfl<|Ec rfl rfl rfl<|CT Hd rfl fun Jo=>GO (q:=AlI.oneCell'=true) (fun S w h=>Fh (h _ (AA' (i:=0) rfl))) fun AIP=>?_;refine BZ 0 (us:=(A3 ((AGo 0)) AlI)) rfl rfl rfl AHo (by simp only[ABn,ABr,ABp,AIP];rfl) rfl<|VQ rfl rfl<|Ac<|Am<|rg<|VQ rfl rfl<|Ac<|Am<|Am<|rg<|VQ rfl rfl<|nl ?_;refine A5<|B5<|Hx (σ:=Nat×(Value×Value×Value×Value×Value×Value)) [(0,_),(1,_),(5,_),(7,_)] _ (fun s C=>(10,.int .i64 (s.1:Int))::(9,.int .i64 (s.1:Int))::C) (fun s=>[AO Jo 43 (A3 ((AGo 0)) AlI),AO E' 33 (BY (AGr (AGp ops) s.1) s.2.1 s.2.2.1 s.2.2.2.1 s.2.2.2.2.1 s.2.2.2.2.2.1 s.2.2.2.2.2.2),CL X w]) (fun s Dw=>(⟨s.2.1,(AGr (AGp ops) s.1).Aj⟩:Atom)::(⟨s.2.2.1,(AGr (AGp ops) s.1).Bz⟩:Atom)::(⟨s.2.2.2.1,(AGr (AGp ops) s.1).AA⟩:Atom)::(⟨s.2.2.2.2.1,(AGr (AGp ops) s.1).Bj⟩:Atom)::(⟨s.2.2.2.2.2.1,(AGr (AGp ops) s.1).CX⟩:Atom)::(⟨s.2.2.2.2.2.2,(AGr (AGp ops) s.1).Cf⟩:Atom)::Dw) (fun s=>s.1<=AGn ops/\(AGr (AGp ops) s.1).wf) (fun s=>AGn ops-s.1) (0,⟨RF,N8,OF,P1,P2,SK⟩) ⟨rfl,rfl,rfl,rfl,trivial⟩ (Bg.cons 0 rfl (Bg.cons 7 rfl (Bg.cons 8 rfl (Bg.cons 9 rfl Bg.nil)))) ⟨ABg _,AHW⟩ ⟨rfl,rfl,rfl,rfl,rfl,rfl,trivial⟩ rfl (Bg.cons 1 rfl (Bg.cons 2 rfl (Bg.cons 3 rfl (Bg.cons 4 rfl (Bg.cons 5 rfl (Bg.cons 6 rfl (Bg.cons 0 rfl (Bg.cons 7 rfl (Bg.cons 8 rfl (Bg.cons 9 rfl Bg.nil)))))))))) ?_;rintro⟨i,KX,J5,Kd,Ke,IN,Ls⟩ ⟨Ay,gF⟩;simp only at Ay gF;obtain⟨Kh,aN⟩:∃wv,(AGr (AGp ops) i)=wv:=⟨_,rfl⟩;show CF _ _ _ [(10,.int .i64 (i:Int)),(9,.int .i64 (i:Int)),(0,_),(1,_),(5,_),(7,_)] [AO Jo 43 (A3 ((AGo 0)) AlI),AO E' 33 (BY (AGr (AGp ops) i) KX J5 Kd Ke IN Ls),CL X w] ((⟨KX,(AGr (AGp ops) i).Aj⟩:Atom)::(⟨J5,(AGr (AGp ops) i).Bz⟩:Atom)::(⟨Kd,(AGr (AGp ops) i).AA⟩:Atom)::(⟨Ke,(AGr (AGp ops) i).Bj⟩:Atom)::(⟨IN,(AGr (AGp ops) i).CX⟩:Atom)::(⟨Ls,(AGr (AGp ops) i).Cf⟩:Atom)::_);rw[aN];rw[aN]at gF;show CF _ _ _ [(10,.int .i64 ((i:Int))),(9,.int .i64 ((i:Int))),(0,_),(1,_),(5,_),(7,_)] [AO Jo 43 (A3 ((AGo 0)) AlI),AO E' 33 (BY Kh KX J5 Kd Ke IN Ls),CL X w] _;refine Am<|Am<|rg<|An rfl rfl<|An rfl rfl<|C2 8 rfl rfl ABH rfl fun AIF=>Ci rfl rfl rfl<|An rfl rfl ?_;apply AnJ [(0,_),(1,_),(5,_),(7,_),(9,_),(10,_)] ⟨rfl,rfl,rfl,rfl,rfl,rfl,trivial⟩
  ·
    intro VG;refine ts (i:=45) rfl (fun EN=>?_) (fun EN=>?_)
    ·
      have Af9:=ABA EN;exact Bl rfl rfl rfl<|An rfl rfl<|Bl rfl rfl rfl<|Ci rfl rfl rfl<|Ahk rfl rfl rfl<|qv VG EN ⟨rfl,rfl,rfl,rfl,rfl,rfl,trivial⟩ Bg.refl
    · exact AGV (g:=[_,_]) rfl<|Ahj rfl rfl rfl<|qw VG EN ⟨rfl,rfl,rfl,rfl,rfl,rfl,trivial⟩ Bg.refl
  refine Ac<|BN rfl (fun aH=>?_) (fun aH=>?_)
  ·
    have C_:i<ops.length/\i<7:=(by simp at aH;omega);have AHf:i<AGn ops:=(by unfold AGn;omega);obtain⟨C_,_⟩:=C_;obtain⟨Hj,G1,Jt⟩:=AIK hw AHf;rw[aN]at Hj G1;obtain⟨Pl,SJ⟩:=AqO G1.ints G1.right;have ArP:EW=4611686018427387904:=rfl;have AI6:=(AHk hw i (by rw[AGJ];exact AHf)).2;have AJk:=AII (AGp ops) (i+1);refine AZ<|Am<|B5<|Am<|rg<|An rfl rfl<|An rfl rfl<|Qh 8 rfl rfl rfl AI2 AJv (Ly (d:=default) AJv) rfl fun cT=>Gi 0 rfl rfl AGL rfl fun AJn AJt=>?_;refine B0 (AIC (ops.getD i default) (hw _ (Hl C_))) (Ar G) rfl Bg.nil rfl<|CT vt rfl fun XT=>BZ 0 (us:=(MZ ((AGH (ops.getD i default))))) rfl rfl rfl AGL rfl rfl<|Ac<|Am<|Am<|rg<|An rfl rfl<|zc rfl rfl rfl<|Ac<|qA (σ:=FL) [(0,_),(1,_),(5,_),(7,_),(9,_),(10,_),(11,_)] _ (fun s C=>C) (fun s=>[AO XT 47 (MZ s),AO Jo 43 (A3 ((AGo 0)) AlI),AO E' 33 (BY Kh KX J5 Kd Ke IN Ls),CL X w]) (fun s=>s=((AGp ops).getD i default)) ⟨rfl,rfl,rfl,rfl,rfl,rfl,rfl,trivial⟩ (Bg.cons 2 rfl (Bg.cons 3 rfl (Bg.cons 4 rfl (Bg.cons 5 rfl (Bg.cons 6 rfl (Bg.cons 7 rfl (Bg.cons 8 rfl (Bg.cons 9 rfl (Bg.cons 10 rfl (Bg.cons 11 rfl Bg.nil)))))))))) ?_ ?_
    ·
      refine B9 rfl (fun ev=>?_) (fun ev=>?_)
      · exact rg<|Db (ps:=[(0,.const (.int .i64 4)),(1,_)]) (cs:=MZ AGs) AJy AJw rfl<|BZ 0 (us:=(MZ AGs)) rfl rfl rfl AGL rfl rfl<|nl<|e9 AGs (by rw[AHj AHf,AGX,AA_ AJv]) ⟨rfl,rfl,rfl,rfl,rfl,rfl,rfl,trivial⟩ rfl (Bg.cons 2 rfl (Bg.cons 3 rfl (Bg.cons 4 rfl (Bg.cons 5 rfl (Bg.cons 6 rfl (Bg.cons 7 rfl (Bg.cons 8 rfl (Bg.cons 9 rfl (Bg.cons 10 rfl (Bg.cons 11 rfl Bg.nil))))))))))
      · exact EG<|e9 (AGH (ops.getD i default)) (by rw[AHj AHf,AGX,AA9 AJv]) ⟨rfl,rfl,rfl,rfl,rfl,rfl,rfl,trivial⟩ rfl (Bg.cons 2 rfl (Bg.cons 3 rfl (Bg.cons 4 rfl (Bg.cons 5 rfl (Bg.cons 6 rfl (Bg.cons 7 rfl (Bg.cons 8 rfl (Bg.cons 9 rfl (Bg.cons 10 rfl (Bg.cons 11 rfl Bg.nil))))))))))
    ·
      intro AG2 AHg;have AJu:AG2.wf:=(by rw[AHg];exact AI6);rw[AIa,<-AHg]at Hj Jt;show Eg _ _ _ [(0,_),(1,_),(5,_),(7,_),(9,_),(10,_),(11,_)] [AO XT 47 (MZ AG2),AO Jo 43 (A3 ((AGo 0)) AlI),AO E' 33 (BY Kh KX J5 Kd Ke IN Ls),CL X w] _;refine A5<|Am<|rg<|BJ 2 (BY Kh KX J5 Kd Ke IN Ls) rfl rfl AGy rfl rfl<|An rfl rfl<|C5 rfl rfl BV rfl<|BJ 0 (MZ AG2) rfl rfl AGL rfl rfl<|Db (ps:=[(0,_),(1,_),(2,_),(3,_),(4,_),(11,_)]) (cs:=IT (AHp i AG2) AI) AJy AJw rfl<|UG rfl AHr rfl<|ME 2 rfl rfl AGG rfl rfl<|C5 rfl rfl BV rfl<|Dm (w4 Kh _ _ _ _ _ _ (AHp i AG2) _ (Kh.DX+1) 3 ((AGr (AGp ops) (i+1)),[],0) Hj G1.ints gF Jt ⟨AJv,AJv⟩ ⟨AJx,AJx⟩) (Ar G) rfl (Bg.cons 0 rfl (Bg.cons 1 rfl (Bg.cons 2 rfl (Bg.cons 3 rfl (Bg.cons 4 rfl (Bg.cons 5 rfl (Bg.cons 7 rfl Bg.nil))))))) rfl fun AI9 mn R5=>?_;obtain⟨gx,Zp,mg,Aqc,Aqd,AoB,ArV⟩:=AI9;obtain⟨hY,AkW⟩:=R5;subst hY;refine An rfl rfl<|Ec rfl rfl rfl<|Ec rfl rfl rfl<|Ec rfl rfl rfl<|CT LQ rfl fun ns=>GO (q:=gx.oneCell'=true) (fun S w h=>Fh (h _ (AA' (i:=0) rfl))) fun Aq1=>?_;refine GO (q:=Zp.oneCell'=true) (fun S w h=>Fh (h _ (AA' (i:=1) rfl))) fun Aq2=>?_;refine GO (q:=mg.oneCell'=true) (fun S w h=>Fh (h _ (AA' (i:=2) rfl))) fun Aq3=>?_;refine GO (q:=Aqc.oneCell'=true) (fun S w h=>Fh (h _ (AA' (i:=3) rfl))) fun Aq4=>?_;refine GO (q:=Aqd.oneCell'=true) (fun S w h=>Fh (h _ (AA' (i:=4) rfl))) fun Aq5=>?_;refine GO (q:=AoB.oneCell'=true) (fun S w h=>Fh (h _ (AA' (i:=5) rfl))) fun Aq6=>?_;refine BZ 0 (us:=(BY ((AGr (AGp ops) (i+1))) gx Zp mg Aqc Aqd AoB)) rfl rfl rfl AGy (by simp only[ABn,ABr,ABp,Aq1,Aq2,Aq3,Aq4,Aq5,Aq6];rfl) rfl<|VQ rfl rfl<|VQ rfl rfl<|Ac<|Am<|Am<|rg<|An rfl rfl<|Aem rfl rfl rfl<|An rfl rfl ?_;apply AnJ [(0,_),(1,_),(5,_),(7,_),(9,_),(10,_),(12,_)] ⟨rfl,rfl,rfl,rfl,rfl,rfl,rfl,trivial⟩
      ·
        intro AHK;refine tt (i:=74) rfl (fun ew=>?_) (fun ew=>?_)
        ·
          have Aga:=ew;simp only[ABI,ABa]at Aga;exact Bl rfl rfl rfl<|An rfl rfl<|Bl rfl rfl rfl<|C2 6 rfl rfl AJG rfl fun AJd=>Bl rfl rfl rfl<|AaD rfl rfl rfl<|Ahj rfl rfl rfl<|qx AHK ew ⟨rfl,rfl,rfl,rfl,rfl,rfl,rfl,trivial⟩ Bg.refl
        · exact AGV (g:=[_,_,_]) rfl<|Ahk rfl rfl rfl<|qy AHK ew ⟨rfl,rfl,rfl,rfl,rfl,rfl,rfl,trivial⟩ Bg.refl
      refine Ac<|BN rfl (fun AaN=>?_) (fun AaN=>?_)
      ·
        exfalso;simp at AaN --#done
      ·
        refine AZ<|Am<|rg<|BJ 0 (BY ((AGr (AGp ops) (i+1))) gx Zp mg Aqc Aqd AoB) rfl rfl AGy rfl rfl<|GO (q:=gx.oneCell'=true) (fun S w h=>Fh (h _ (AA' (i:=0) rfl))) fun Aq1=>?_;refine GO (q:=Zp.oneCell'=true) (fun S w h=>Fh (h _ (AA' (i:=1) rfl))) fun Aq2=>?_;refine GO (q:=mg.oneCell'=true) (fun S w h=>Fh (h _ (AA' (i:=2) rfl))) fun Aq3=>?_;refine GO (q:=Aqc.oneCell'=true) (fun S w h=>Fh (h _ (AA' (i:=3) rfl))) fun Aq4=>?_;refine GO (q:=Aqd.oneCell'=true) (fun S w h=>Fh (h _ (AA' (i:=4) rfl))) fun Aq5=>?_;refine GO (q:=AoB.oneCell'=true) (fun S w h=>Fh (h _ (AA' (i:=5) rfl))) fun Aq6=>?_;refine BZ 3 (us:=(BY ((AGr (AGp ops) (i+1))) gx Zp mg Aqc Aqd AoB)) rfl rfl rfl AGy (by simp only[ABn,ABr,ABp,Aq1,Aq2,Aq3,Aq4,Aq5,Aq6];rfl) rfl<|Ac<|rg<|An rfl rfl<|C5 rfl rfl BV rfl<|VQ rfl rfl<|nl<|CU<|A5<|rg<|An rfl rfl<|C5 rfl rfl BV rfl<|VQ rfl rfl ?_;refine nl<|AQ<|AQ ?_;exact Dy ((i+1,⟨gx,Zp,mg,Aqc,Aqd,AoB⟩):Nat×(Value×Value×Value×Value×Value×Value)) ⟨by show i+1<=_;omega,AkW⟩ (by show AGn ops-(i+1)<AGn ops-i;omega) ⟨rfl,rfl,rfl,rfl,rfl,rfl,trivial⟩ rfl (Bg.cons 0 rfl (Bg.cons 1 rfl (Bg.cons 2 rfl (Bg.cons 3 rfl (Bg.cons 4 rfl (Bg.cons 5 rfl (Bg.cons 13 rfl (Bg.cons 14 rfl (Bg.cons 15 rfl (Bg.cons 16 rfl Bg.nil))))))))))
  ·
    have Qb:i=AGn ops:=(by unfold AGn at Ay ⊢;simp at aH;omega);obtain rfl:i=AGn ops:=Qb;have AIy:=(AG7 ops).1;have NM:=AGJ ops;have AH7:=AIn hw;have AHS:=AIo (AGp ops) (AGn ops);rw[aN]at AH7 AHS;have ArP:EW=4611686018427387904:=rfl;refine ex<|Ck<|Ck<|D7<|A5<|Am<|rg<|An rfl rfl<|AIM (n:=(AGn ops)) rfl rfl Tryz.underlying55 rfl AJv rfl fun AGF=>?_;rw[AIi];refine VQ rfl rfl<|Ac<|Am<|Am<|rg<|VQ rfl rfl<|Ac<|B5<|Hx (σ:=Nat×(Int->Bool)×Bv×(Value×Value×Value×Value×Value×Value)) [(1,_),(5,_),(7,_),(9,_),(15,_)] _ (fun s C=>(16,.int .i64 (s.1:Int))::C) (fun s=>[AO AGF 4 (AGE s.2.1 (AGn ops)),AO Jo 43 (A3 ((AGo 0)) AlI),AO E' 33 (BY s.2.2.1 s.2.2.2.1 s.2.2.2.2.1 s.2.2.2.2.2.1 s.2.2.2.2.2.2.1 s.2.2.2.2.2.2.2.1 s.2.2.2.2.2.2.2.2),CL X w]) (fun s Dw=>(⟨s.2.2.2.1,s.2.2.1.Aj⟩:Atom)::(⟨s.2.2.2.2.1,s.2.2.1.Bz⟩:Atom)::(⟨s.2.2.2.2.2.1,s.2.2.1.AA⟩:Atom)::(⟨s.2.2.2.2.2.2.1,s.2.2.1.Bj⟩:Atom)::(⟨s.2.2.2.2.2.2.2.1,s.2.2.1.CX⟩:Atom)::(⟨s.2.2.2.2.2.2.2.2,s.2.2.1.Cf⟩:Atom)::Dw) (fun s=>s.1<=Ar4.length+AGn ops/\(∃r,r<=AGn ops+1+s.1/\XO (F8 1) s.2.2.1 r)/\AGN (AGp ops) (AGn ops) s.2.1 s.2.2.1/\s.2.2.1.wf) (fun s=>Ar4.length+AGn ops-s.1) (0,(fun _=>false),Kh,⟨KX,J5,Kd,Ke,IN,Ls⟩) ⟨rfl,rfl,rfl,rfl,rfl,trivial⟩ (Bg.cons 6 rfl (Bg.cons 7 rfl (Bg.cons 9 rfl Bg.nil))) ⟨ABg _,⟨_,AJv,AH7⟩,AHS,gF⟩ ⟨rfl,rfl,rfl,rfl,rfl,rfl,trivial⟩ rfl (Bg.cons 0 rfl (Bg.cons 1 rfl (Bg.cons 2 rfl (Bg.cons 3 rfl (Bg.cons 4 rfl (Bg.cons 5 rfl (Bg.cons 6 rfl (Bg.cons 7 rfl (Bg.cons 9 rfl Bg.nil))))))))) ?_;rintro⟨i,P,Y,RF,N8,OF,P1,P2,SK⟩ ⟨Ay,⟨r,Bh,AGY⟩,iw,AHH⟩;simp only at Ay Bh AGY iw AHH;show CF _ _ _ [(16,.int .i64 ((i:Int))),(1,_),(5,_),(7,_),(9,_),(15,_)] [AO AGF 4 (AGE P (AGn ops)),AO Jo 43 (A3 ((AGo 0)) AlI),AO E' 33 (BY Y RF N8 OF P1 P2 SK),CL X w] _;refine Am<|Am<|rg<|An rfl rfl<|An rfl rfl<|C2 8 rfl rfl ACh rfl fun At8=>An rfl rfl<|C5 rfl rfl BV rfl<|Ci rfl rfl rfl<|Ac<|B9 rfl (fun AaP=>?_) (fun AaP=>?_)
    ·
      refine AZ<|Am<|B5<|Am<|rg<|An rfl rfl<|An rfl rfl<|C2 8 rfl rfl ACh rfl fun AJe=>TU rfl rfl BV rfl<|VQ rfl rfl<|Ac<|Am ?_;refine Am<|rg<|An rfl rfl<|An rfl rfl<|C2 8 rfl rfl ACh rfl fun An0=>Ci rfl rfl rfl<|An rfl rfl ?_;apply AnJ [(1,_),(5,_),(7,_),(9,_),(15,_),(16,_),(17,_)] ⟨rfl,rfl,rfl,rfl,rfl,rfl,rfl,trivial⟩
      ·
        intro vI;refine ts (i:=100) rfl (fun iz=>?_) (fun iz=>?_)
        ·
          have AJl:=ABA iz;exact Bl rfl rfl rfl<|An rfl rfl<|Bl rfl rfl rfl<|AaD rfl rfl rfl<|Ahk rfl rfl rfl<|qv vI iz ⟨rfl,rfl,rfl,rfl,rfl,rfl,rfl,trivial⟩ Bg.refl
        · exact AGV (g:=[_,_]) rfl<|Ahj rfl rfl rfl<|qw vI iz ⟨rfl,rfl,rfl,rfl,rfl,rfl,rfl,trivial⟩ Bg.refl
      refine Ac<|qA (σ:=Int) [(1,_),(5,_),(7,_),(9,_),(15,_),(16,_)] _ (fun s C=>(17,.int .i64 s)::C) (fun s=>[AO AGF 4 (AGE P (AGn ops)),AO Jo 43 (A3 ((AGo 0)) AlI),AO E' 33 (BY Y RF N8 OF P1 P2 SK),CL X w]) (fun s=>((s<0\/AGn ops=0)\/∃k:Nat,s=(k:Int)/\k<AGn ops)/\A' s) ⟨rfl,rfl,rfl,rfl,rfl,rfl,trivial⟩ (Bg.cons 0 rfl (Bg.cons 1 rfl (Bg.cons 2 rfl (Bg.cons 3 rfl (Bg.cons 4 rfl (Bg.cons 5 rfl (Bg.cons 6 rfl (Bg.cons 7 rfl (Bg.cons 8 rfl Bg.nil))))))))) ?_ ?_
      ·
        refine BN rfl (fun iA=>?_) (fun iA=>?_)
        ·
          obtain⟨CY,Dh⟩:i<Ar4.length/\0<AGn ops:=(by simp at iA;omega);obtain⟨AtF,AtG⟩:=AtH (Ar4.getD i default) Dh;refine rg<|An rfl rfl<|An rfl rfl<|Qh 8 rfl rfl rfl tp AJv (Ly (d:=default) AJv) rfl fun AJq=>CQ 0 rfl rfl AGG rfl fun AJr=>?_;exact F0 ABc ADN rfl (r:=IntKind.u64.wrap (Ar4.getD i default)) rfl rfl<|An rfl rfl<|F0 ABc ADN rfl (r:=((AGn ops):Int)) (mh AJv) rfl<|k' rfl rfl AJv (r:=KP (Ar4.getD i default) (AGn ops)) rfl rfl<|F0 ADN ABc rfl (r:=(((Asd (Ar4.getD i default) (AGn ops)):Nat):Int)) ((Uf ⟨AJv,AJv⟩).trans AtF) rfl<|VQ rfl rfl<|nl<|e9 (((Asd (Ar4.getD i default) (AGn ops)):Nat):Int) ⟨.inr ⟨_,rfl,AtG⟩,⟨AJv,AJv⟩⟩ ⟨rfl,rfl,rfl,rfl,rfl,rfl,rfl,trivial⟩ rfl (Bg.cons 1 rfl (Bg.cons 2 rfl (Bg.cons 3 rfl (Bg.cons 4 rfl (Bg.cons 5 rfl (Bg.cons 6 rfl (Bg.cons 7 rfl (Bg.cons 8 rfl (Bg.cons 9 rfl Bg.nil)))))))))
        · exact EG<|e9 ((i:Int)-(Ar4.length:Int)) (AIS AaP AJv AIy) ⟨rfl,rfl,rfl,rfl,rfl,rfl,rfl,trivial⟩ rfl (Bg.cons 0 rfl (Bg.cons 1 rfl (Bg.cons 2 rfl (Bg.cons 3 rfl (Bg.cons 4 rfl (Bg.cons 5 rfl (Bg.cons 6 rfl (Bg.cons 7 rfl (Bg.cons 8 rfl Bg.nil)))))))))
      ·
        intro AID AHz;obtain⟨AHz,AI'⟩:=AHz;show Eg _ _ _ [(17,.int .i64 AID),(1,_),(5,_),(7,_),(9,_),(15,_),(16,_)] [AO AGF 4 (AGE P (AGn ops)),AO Jo 43 (A3 ((AGo 0)) AlI),AO E' 33 (BY Y RF N8 OF P1 P2 SK),CL X w] _;refine A5<|Am<|Am<|rg<|An rfl rfl<|Ci rfl rfl rfl<|An rfl rfl ?_;apply AnJ [(1,_),(5,_),(7,_),(9,_),(15,_),(16,_),(17,_)] ⟨rfl,rfl,rfl,rfl,rfl,rfl,rfl,trivial⟩
        ·
          intro AHJ;refine tt (i:=115) rfl (fun Wf=>?_) (fun Wf=>?_)
          ·
            have AJm:=ACe Wf;exact Bl rfl rfl rfl<|An rfl rfl<|Bl rfl rfl rfl<|zc rfl rfl rfl<|Ahj rfl rfl rfl<|qx AHJ Wf ⟨rfl,rfl,rfl,rfl,rfl,rfl,rfl,trivial⟩ Bg.refl
          · exact AGV (g:=[_,_]) rfl<|Ahk rfl rfl rfl<|qy AHJ Wf ⟨rfl,rfl,rfl,rfl,rfl,rfl,rfl,trivial⟩ Bg.refl
        refine Ac<|BN rfl (fun AHx=>?_) (fun AHx=>?_)
        ·
          refine ex<|Ck<|D7<|A5<|rg<|An rfl rfl<|C5 rfl rfl BV rfl<|VQ rfl rfl<|nl ?_;exact Dy ((i+1,P,Y,⟨RF,N8,OF,P1,P2,SK⟩):Nat×(Int->Bool)×Bv×(Value×Value×Value×Value×Value×Value)) ⟨by show i+1<=_;omega,⟨r,AJv,AGY⟩,iw,AHH⟩ (by show Ar4.length+AGn ops-(i+1)<Ar4.length+AGn ops-i;omega) ⟨rfl,rfl,rfl,rfl,rfl,rfl,trivial⟩ rfl (Bg.cons 0 rfl (Bg.cons 1 rfl (Bg.cons 2 rfl (Bg.cons 3 rfl (Bg.cons 4 rfl (Bg.cons 5 rfl (Bg.cons 6 rfl (Bg.cons 7 rfl (Bg.cons 8 rfl Bg.nil)))))))))
        ·
          obtain⟨k,rfl,AE⟩:=AIT AHz (by simp at AHx;omega) (by simp at AHx;omega);obtain⟨Z,E,AIU,AHc,AHF,AH4,AHn,AH3,AH5,AH6,AHm,AJo⟩:=AIq hw AE AGY iw AJv;obtain⟨Pl,SJ⟩:=AqO AGY.ints AGY.right;have ArX:=AGY.ix;have AH8:=AHF;refine AZ<|Am<|rg<|BJ 2 (BY Y RF N8 OF P1 P2 SK) rfl rfl AGy rfl rfl<|An rfl rfl<|C5 rfl rfl BV rfl<|Db (ps:=[(0,_),(1,_),(2,_)]) (cs:=IT (AGA k) AI) AJy AJw rfl<|UG rfl AHr rfl<|ME 2 rfl rfl AGG rfl rfl<|C5 rfl rfl BV rfl<|Dm (w4 Y _ _ _ _ _ _ (AGA k) _ (Y.DX+1) 3 (Z,E,0) AIU AGY.ints AHH (AHw AJv) ⟨AJv,AJv⟩ ⟨AJx,AJx⟩) (Ar G) rfl (Bg.cons 0 rfl (Bg.cons 1 rfl (Bg.cons 2 rfl (Bg.cons 3 rfl (Bg.cons 4 rfl (Bg.cons 5 rfl (Bg.cons 7 rfl Bg.nil))))))) rfl fun AI7 ArH AIt=>?_;obtain⟨t0,t1,t2,t3,t4,t5,t6⟩:=AI7;obtain⟨AIe,Auv⟩:=AIt;subst AIe;refine An rfl rfl<|Ec rfl rfl rfl<|Ec rfl rfl rfl<|Ec rfl rfl rfl<|CT LQ rfl fun Asy=>GO (q:=t0.oneCell'=true) (fun S w h=>Fh (h _ (AA' (i:=0) rfl))) fun AG8=>?_;refine GO (q:=t1.oneCell'=true) (fun S w h=>Fh (h _ (AA' (i:=1) rfl))) fun AG9=>?_;refine GO (q:=t2.oneCell'=true) (fun S w h=>Fh (h _ (AA' (i:=2) rfl))) fun AG_=>?_;refine GO (q:=t3.oneCell'=true) (fun S w h=>Fh (h _ (AA' (i:=3) rfl))) fun AG'=>?_;refine GO (q:=t4.oneCell'=true) (fun S w h=>Fh (h _ (AA' (i:=4) rfl))) fun AHa=>?_;refine GO (q:=t5.oneCell'=true) (fun S w h=>Fh (h _ (AA' (i:=5) rfl))) fun AHb=>?_;refine BZ 0 (us:=(BY Z t0 t1 t2 t3 t4 t5)) rfl rfl rfl AGy (by simp only[ABn,ABr,ABp,AG8,AG9,AG_,AG',AHa,AHb];rfl) rfl<|VQ rfl rfl<|VQ rfl rfl<|Ac<|Am<|rg<|BJ 0 (BY Z t0 t1 t2 t3 t4 t5) rfl rfl AGy rfl rfl<|Dm (AqC Z _ _ _ _ _ _ AGq (ApH Z AGq) rfl Auv (AqL AH8.ints AH8.right)) (Ar G) rfl (Bg.cons 0 rfl (Bg.cons 1 rfl (Bg.cons 2 rfl (Bg.cons 3 rfl (Bg.cons 4 rfl (Bg.cons 5 rfl Bg.nil)))))) rfl fun gM AoG AaG=>?_;obtain⟨AIf,AJs⟩:=AaG;subst AIf;refine An rfl rfl<|Ec rfl rfl rfl<|Ec rfl rfl rfl<|CT Hd rfl fun AtZ=>GO (q:=gM.oneCell'=true) (fun S w h=>Fh (h _ (AA' (i:=0) rfl))) fun AIN=>?_;refine BZ 0 (us:=(A3 ((ApH Z AGq)) gM)) rfl rfl rfl AHo (by simp only[ABn,ABr,ABp,AIN];rfl) rfl<|VQ rfl rfl<|Ac<|Am<|rg<|An rfl rfl<|C5 rfl rfl BV rfl<|Db (ps:=[(0,.const (.int .i64 190))]) (cs:=(GM (({Jd:=190,JM:=0,JJ:=0,JK:=0}:De)))) AJy AJw rfl<|Db (ps:=[(0,.const (.int .i64 1)),(1,.tmp 137),(2,.const (.int .i64 1)),(3,.tmp 138)]) (cs:=(VW (({Ca:=1,Ap:=(2+(k:Int)),As:=1,Cm:=({Jd:=190,JM:=0,JJ:=0,JK:=0}:De)}:FE)))) AJy AJw rfl<|CT Aqg rfl fun Amc=>BZ 0 (us:=(VW (({Ca:=1,Ap:=(2+(k:Int)),As:=1,Cm:=({Jd:=190,JM:=0,JJ:=0,JK:=0}:De)}:FE)))) rfl rfl rfl AH9 rfl rfl<|Ac ?_;refine Am<|Am ?_;rcases AHc with⟨AG6,AHc⟩|⟨AG6,AHc⟩
          ·
            subst AHc;refine AuG [] [] [(1,DF [] (.bool false)),(3,DF [] (.slice (some ⟨AGF,0,none⟩) (AGn ops) (AGn ops))),(5,DF [] (.pointer (some ⟨AGF,k,none⟩))),(6,DF [3] (.bool true)),(9,DF [] (.int .i64 ((([]:List FE).length:Int)))),(10,DF [] (.bool false)),(14,DF [] (.slice (some ⟨AGF,0,none⟩) (AGn ops) (AGn ops))),(16,DF [] (.pointer (some ⟨AGF,k,none⟩))),(17,DF [3] (.bool true)),(37,DF [] (.bool false)),(44,DF [] (.bool true)),(52,DF [] (.bool false))] [(34,1),(36,4),(41,1),(43,4),(49,1),(51,4)] [1,5,7,9,15,16,17,18,21,193] (fun _=>rfl) (fun _=>rfl) (fun Ai AV Az=>⟨fun _=>?_,fun _=>?_,fun _=>?_,fun _=>?_,fun _=>?_,fun _=>?_,fun _=>?_,fun _=>?_,fun _=>?_,fun _=>?_,fun _=>?_,fun _=>?_,trivial⟩) fun Ai _=>?_
            · exact Aem rfl rfl rfl<|ApG (ABE Value.bool (show _=false from rfl))<|BU [] [] 0 rfl rfl
            · exact Bl rfl rfl rfl<|An rfl rfl<|BU [] [] 0 rfl rfl
            · exact Bl rfl rfl rfl<|AGP (k:=k) rfl rfl AGR rfl AE rfl<|BU [] [] 0 rfl rfl
            · exact Bl rfl rfl rfl<|ME 0 rfl rfl AGK (AGU AE) rfl<|ApG (ABE Value.bool AG6)<|BU [] [] 0 rfl rfl
            · exact Bl rfl rfl rfl<|C2 7 rfl rfl AJG rfl fun AJa=>BU [] [] 0 rfl rfl
            · exact Bl rfl rfl rfl<|AaD rfl rfl rfl<|ApG (ABE Value.bool (show _=false from rfl))<|BU [] [] 0 rfl rfl
            · exact Bl rfl rfl rfl<|An rfl rfl<|BU [] [] 0 rfl rfl
            · exact Bl rfl rfl rfl<|AGP (k:=k) rfl rfl AGR rfl AE rfl<|BU [] [] 0 rfl rfl
            · exact Bl rfl rfl rfl<|ME 0 rfl rfl AGK (AGU AE) rfl<|ApG (ABE Value.bool AG6)<|BU [] [] 0 rfl rfl
            · exact Bl rfl rfl rfl<|Aem rfl rfl rfl<|ApG (ABE Value.bool (show _= !true from ABE (!·) (ABG AH3)))<|BU [] [] 0 rfl rfl
            · exact Bl rfl rfl rfl<|B0 (AH2 _ _ AH5) (Ar G) rfl (Bg.cons 0 rfl (Bg.cons 14 rfl Bg.nil)) rfl<|BU [] [] 0 rfl rfl
            · exact Bl rfl rfl rfl<|Qo oL ((ApH Z AGq).Cs) ((AGo 0).Cs) rfl rfl rfl<|ApG (ABE Value.bool (show _= !true from ABE (!·) (ABG AH6)))<|BU [] [] 0 rfl rfl
            ·
              refine A5<|LW rfl<|AZ<|Am<|rg<|An rfl rfl<|An rfl rfl<|AGP (k:=k) rfl rfl AGR rfl AE rfl<|Fi 3 rfl rfl rfl AGK rfl (by rw[AHu];exact AE) ?_;rw[AHQ];refine Ac<|Am<|rg<|VQ rfl rfl<|Ac<|Am<|Am<|rg<|VQ rfl rfl<|Ac<|B5 ?_;refine Hx (σ:=Nat×Int) [(1,_),(5,_),(7,_),(9,_),(15,_),(16,_),(18,_),(21,_)] _ (fun s C=>(25,.int .i64 (s.1:Int))::(24,.int .i64 s.2)::C) (fun s=>[AO Amc 60 (VW (({Ca:=1,Ap:=(2+(k:Int)),As:=1,Cm:=({Jd:=190,JM:=0,JJ:=0,JK:=0}:De)}:FE))),AO AtZ 43 (A3 ((ApH Z AGq)) gM),AO Asy 33 (BY Z t0 t1 t2 t3 t4 t5),AO AGF 4 (AGE (AGv P k) (AGn ops)),AO Jo 43 (A3 ((AGo 0)) AlI),AO E' 33 (BY Y RF N8 OF P1 P2 SK),CL X w]) (fun _ Dw=>Dw) (fun s=>s.1<=AGn ops/\s.2=((AGD (AGz (AGv P k) (AGn ops)) s.1:Nat):Int)) (fun s=>AGn ops-s.1) (0,0) ⟨rfl,rfl,rfl,rfl,rfl,rfl,rfl,rfl,trivial⟩ (Bg.cons 0 rfl (Bg.cons 1 rfl (Bg.cons 2 rfl (Bg.cons 3 rfl (Bg.cons 4 rfl (Bg.cons 5 rfl (Bg.cons 6 rfl (Bg.cons 8 rfl (Bg.cons 9 rfl (Bg.cons 10 rfl (Bg.cons 11 rfl (Bg.cons 12 rfl (Bg.cons 13 rfl (Bg.cons 14 rfl (Bg.cons 15 rfl (Bg.cons 16 rfl Bg.nil)))))))))))))))) ⟨ABg _,rfl⟩ ⟨rfl,rfl,rfl,rfl,rfl,rfl,rfl,rfl,rfl,rfl,trivial⟩ rfl (Bg.cons 0 rfl (Bg.cons 1 rfl (Bg.cons 2 rfl (Bg.cons 3 rfl (Bg.cons 4 rfl (Bg.cons 5 rfl (Bg.cons 6 rfl (Bg.cons 8 rfl (Bg.cons 9 rfl (Bg.cons 10 rfl (Bg.cons 11 rfl (Bg.cons 12 rfl (Bg.cons 13 rfl (Bg.cons 14 rfl (Bg.cons 15 rfl (Bg.cons 16 rfl Bg.nil)))))))))))))))) ?_;rintro⟨j,m⟩ ⟨AbO,hm⟩;simp only at AbO hm;have E5:=AHq (AGz (AGv P k) (AGn ops)) j;show CF _ _ _ [(25,.int .i64 ((j:Int))),(24,.int .i64 m),(1,_),(5,_),(7,_),(9,_),(15,_),(16,_),(18,_),(21,_)] [AO Amc 60 (VW (({Ca:=1,Ap:=(2+(k:Int)),As:=1,Cm:=({Jd:=190,JM:=0,JJ:=0,JK:=0}:De)}:FE))),AO AtZ 43 (A3 ((ApH Z AGq)) gM),AO Asy 33 (BY Z t0 t1 t2 t3 t4 t5),AO AGF 4 (AGE (AGv P k) (AGn ops)),AO Jo 43 (A3 ((AGo 0)) AlI),AO E' 33 (BY Y RF N8 OF P1 P2 SK),CL X w] _;refine Am<|Am<|rg<|An rfl rfl<|An rfl rfl<|Ci rfl rfl rfl<|Ac<|B9 rfl (fun As_=>?_) (fun As_=>?_)
              ·
                have AGO:j<AGn ops:=(by simpa using As_);refine AZ<|Am<|B5<|Am<|rg<|An rfl rfl<|An rfl rfl<|AGP (k:=j) rfl rfl AGR rfl AGO rfl<|ME 3 rfl rfl AGK (AGU AGO) rfl<|IH rfl rfl<|Ac<|BN rfl (fun As'=>?_) (fun As'=>?_)
                ·
                  refine rg<|An rfl rfl<|C5 rfl rfl BV rfl<|VQ rfl rfl<|nl<|CU<|A5<|rg<|An rfl rfl<|C5 rfl rfl BV rfl<|VQ rfl rfl<|nl ?_;exact Dy ((j+1,m+1):Nat×Int) ⟨by show j+1<=_;omega,by show m+1=((AGD (AGz (AGv P k) (AGn ops)) (j+1):Nat):Int);rw[AGD,AGZ AGO,AA9 (by simpa using As')];omega⟩ (by show AGn ops-(j+1)<AGn ops-j;omega) ⟨rfl,rfl,rfl,rfl,rfl,rfl,rfl,rfl,rfl,rfl,trivial⟩ rfl (Bg.cons 0 rfl (Bg.cons 1 rfl (Bg.cons 2 rfl (Bg.cons 3 rfl (Bg.cons 4 rfl (Bg.cons 5 rfl (Bg.cons 6 rfl (Bg.cons 7 rfl (Bg.cons 8 rfl (Bg.cons 9 rfl (Bg.cons 10 rfl (Bg.cons 11 rfl (Bg.cons 12 rfl (Bg.cons 13 rfl (Bg.cons 14 rfl (Bg.cons 15 rfl Bg.nil))))))))))))))))
                ·
                  refine EG<|CU<|A5<|rg<|An rfl rfl<|C5 rfl rfl BV rfl<|VQ rfl rfl<|nl ?_;exact Dy ((j+1,m):Nat×Int) ⟨by show j+1<=_;omega,by show m=((AGD (AGz (AGv P k) (AGn ops)) (j+1):Nat):Int);rw[AGD,AGZ AGO,AA_ (by simpa using As')];omega⟩ (by show AGn ops-(j+1)<AGn ops-j;omega) ⟨rfl,rfl,rfl,rfl,rfl,rfl,rfl,rfl,rfl,rfl,trivial⟩ rfl (Bg.cons 0 rfl (Bg.cons 1 rfl (Bg.cons 2 rfl (Bg.cons 3 rfl (Bg.cons 4 rfl (Bg.cons 5 rfl (Bg.cons 6 rfl (Bg.cons 7 rfl (Bg.cons 8 rfl (Bg.cons 9 rfl (Bg.cons 10 rfl (Bg.cons 11 rfl (Bg.cons 12 rfl (Bg.cons 13 rfl (Bg.cons 14 rfl (Bg.cons 15 rfl Bg.nil))))))))))))))))
              ·
                obtain rfl:j=AGn ops:=(by simp at As_;omega);refine ex<|Ck<|Ck<|D7<|A5<|Am<|Am<|rg<|UG rfl AHs rfl<|ME 2 rfl rfl AHE rfl rfl<|C2 3 rfl rfl ACi rfl fun AIE=>An rfl rfl<|Aem rfl rfl rfl<|An rfl rfl ?_;apply AnJ [(1,_),(5,_),(7,_),(9,_),(15,_),(16,_),(18,_)] ⟨rfl,rfl,rfl,rfl,rfl,rfl,rfl,trivial⟩
                ·
                  intro AG3;refine tt (i:=214) rfl (fun AFk=>?_) (fun AFk=>?_)
                  ·
                    have AF0:=AFk;simp only[ABI,ABa]at AF0;exact Bl rfl rfl rfl<|UG rfl AHt rfl<|Bl rfl rfl rfl<|ME 1 rfl rfl AGG rfl rfl<|Bl rfl rfl rfl<|Aem rfl rfl rfl<|Bl rfl rfl rfl<|An rfl rfl<|Bl rfl rfl rfl<|AaD rfl rfl rfl<|Bl rfl rfl rfl<|Aek ADM rfl rfl rfl<|Ahj rfl rfl rfl<|qx AG3 AFk ⟨rfl,rfl,rfl,rfl,rfl,rfl,rfl,trivial⟩ Bg.refl
                  · exact AGV (g:=[_,_,_,_,_,_]) rfl<|Ahk rfl rfl rfl<|qy AG3 AFk ⟨rfl,rfl,rfl,rfl,rfl,rfl,rfl,trivial⟩ Bg.refl
                refine Ac<|BN rfl (fun AG5=>?_) (fun AG5=>?_)
                ·
                  exfalso;rw[AHn]at AHm;simp[AHn,hm,AHm]at AG5;omega --#done
                ·
                  refine AZ<|rg<|BJ 2 (BY Z t0 t1 t2 t3 t4 t5) rfl rfl AGy rfl rfl<|GO (q:=t0.oneCell'=true) (fun S w h=>Fh (h _ (AA' (i:=1) rfl))) fun AG8=>?_;refine GO (q:=t1.oneCell'=true) (fun S w h=>Fh (h _ (AA' (i:=2) rfl))) fun AG9=>?_;refine GO (q:=t2.oneCell'=true) (fun S w h=>Fh (h _ (AA' (i:=3) rfl))) fun AG_=>?_;refine GO (q:=t3.oneCell'=true) (fun S w h=>Fh (h _ (AA' (i:=4) rfl))) fun AG'=>?_;refine GO (q:=t4.oneCell'=true) (fun S w h=>Fh (h _ (AA' (i:=5) rfl))) fun AHa=>?_;refine GO (q:=t5.oneCell'=true) (fun S w h=>Fh (h _ (AA' (i:=6) rfl))) fun AHb=>?_;refine BZ 5 (us:=(BY Z t0 t1 t2 t3 t4 t5)) rfl rfl rfl AGy (by simp only[ABn,ABr,ABp,AG8,AG9,AG_,AG',AHa,AHb];rfl) rfl<|nl<|CU<|A5<|rg<|An rfl rfl<|C5 rfl rfl BV rfl<|VQ rfl rfl<|nl<|AQ<|AQ<|AQ ?_;exact Dy ((i+1,AGv P k,Z,⟨t0,t1,t2,t3,t4,t5⟩):Nat×(Int->Bool)×Bv×(Value×Value×Value×Value×Value×Value)) ⟨by show i+1<=_;omega,⟨r+1,AJv,AHF⟩,AH4,Auv⟩ (by show Ar4.length+AGn ops-(i+1)<Ar4.length+AGn ops-i;omega) ⟨rfl,rfl,rfl,rfl,rfl,rfl,trivial⟩ rfl (Bg.cons 1 rfl (Bg.cons 2 rfl (Bg.cons 3 rfl (Bg.cons 4 rfl (Bg.cons 5 rfl (Bg.cons 6 rfl (Bg.cons 13 rfl (Bg.cons 14 rfl (Bg.cons 15 rfl Bg.nil)))))))))
          ·
            subst AHc;refine AuG [] [] [(1,DF [] (.bool false)),(3,DF [] (.slice (some ⟨AGF,0,none⟩) (AGn ops) (AGn ops))),(5,DF [] (.pointer (some ⟨AGF,k,none⟩))),(6,DF [3] (.bool false)),(14,DF [] (.slice (some ⟨AGF,0,none⟩) (AGn ops) (AGn ops))),(16,DF [] (.pointer (some ⟨AGF,k,none⟩))),(17,DF [3] (.bool false)),(21,DF [] (.int .i64 (([(⟨1,2+(k:Int),1,HN 190⟩:FE)].length:Int)))),(22,DF [] (.bool false)),(25,Ff [] (fun A4=>some (A4 0)) fun A4=>[⟨(A4 0),(⟨([(⟨1,2+(k:Int),1,HN 190⟩:FE)].getD 0 default)⟩:Cq FE)⟩]),(26,⟨[],fun _=>some (.agg (VW (([(⟨1,2+(k:Int),1,HN 190⟩:FE)].getD 0 default))).toArray),fun _=>[],[([(⟨1,2+(k:Int),1,HN 190⟩:FE)].getD 0 default).wf]⟩),(28,DF [] (.bool false)),(37,DF [] (.bool false)),(44,DF [] (.bool true)),(52,DF [] (.bool false))] [(27,0),(34,1),(36,4),(41,1),(43,4),(49,1),(51,4)] [1,5,7,9,15,16,17,18,21,193] (fun _=>rfl) (fun _=>rfl) (fun Ai AV Az=>⟨fun _=>?_,fun _=>?_,fun _=>?_,fun _=>?_,fun _=>?_,fun _=>?_,fun _=>?_,fun _=>?_,fun _=>?_,fun _=>?_,fun _=>?_,fun QJ=>?_,fun QJ=>?_,fun QJ=>?_,fun QJ=>?_,trivial⟩) fun Ai QJ=>?_
            · exact Aem rfl rfl rfl<|ApG (ABE Value.bool (show _=false from rfl))<|BU [] [] 0 rfl rfl
            · exact Bl rfl rfl rfl<|An rfl rfl<|BU [] [] 0 rfl rfl
            · exact Bl rfl rfl rfl<|AGP (k:=k) rfl rfl AGR rfl AE rfl<|BU [] [] 0 rfl rfl
            · exact Bl rfl rfl rfl<|ME 0 rfl rfl AGK (AGU AE) rfl<|ApG (ABE Value.bool AG6)<|BU [] [] 0 rfl rfl
            · exact Bl rfl rfl rfl<|An rfl rfl<|BU [] [] 0 rfl rfl
            · exact Bl rfl rfl rfl<|AGP (k:=k) rfl rfl AGR rfl AE rfl<|BU [] [] 0 rfl rfl
            · exact Bl rfl rfl rfl<|ME 0 rfl rfl AGK (AGU AE) rfl<|ApG (ABE Value.bool AG6)<|BU [] [] 0 rfl rfl
            · exact Bl rfl rfl rfl<|C2 7 rfl rfl AJG rfl fun AJb=>BU [] [] 0 rfl rfl
            · exact Bl rfl rfl rfl<|Aem rfl rfl rfl<|ApG (ABE Value.bool (show _=false from rfl))<|BU [] [] 0 rfl rfl
            · exact Bl rfl rfl rfl<|Qh 7 rfl rfl rfl tn AJv (Ly (d:=default) (Nat.zero_lt_succ _)) rfl fun AoK=>BU [_] [0] 1 rfl rfl
            ·
              refine Bl rfl rfl rfl<|Gi 0 rfl rfl AH9 rfl fun Aoo uu=>?_;exact WT [] [] 2 rfl rfl ⟨uu,trivial⟩
            · exact Bl rfl rfl rfl<|Qo zh (([(⟨1,2+(k:Int),1,HN 190⟩:FE)].getD 0 default)) (({Ca:=1,Ap:=(2+(k:Int)),As:=1,Cm:=({Jd:=190,JM:=0,JJ:=0,JK:=0}:De)}:FE)) rfl rfl rfl<|ApG (ABE Value.bool (show _= !true from ABE (!·) (ABG rfl)))<|BU [] [] 1 rfl rfl
            · exact Bl rfl rfl rfl<|Aem rfl rfl rfl<|ApG (ABE Value.bool (show _= !true from ABE (!·) (ABG AH3)))<|BU [] [] 1 rfl rfl
            · exact Bl rfl rfl rfl<|B0 (AH2 _ _ AH5) (Ar G) rfl (Bg.cons 1 rfl (Bg.cons 15 rfl Bg.nil)) rfl<|BU [] [] 1 rfl rfl
            · exact Bl rfl rfl rfl<|Qo oL ((ApH Z AGq).Cs) ((AGo 0).Cs) rfl rfl rfl<|ApG (ABE Value.bool (show _= !true from ABE (!·) (ABG AH6)))<|BU [] [] 1 rfl rfl
            ·
              obtain⟨uu,_⟩:=QJ;generalize Ai 25 0=AI4;refine A5<|LW rfl<|AZ<|Am<|rg<|An rfl rfl<|An rfl rfl<|AGP (k:=k) rfl rfl AGR rfl AE rfl<|Fi 3 rfl rfl rfl AGK rfl (by rw[AHu];exact AE) ?_;rw[AHQ];refine Ac<|Am<|rg<|VQ rfl rfl<|Ac<|Am<|Am<|rg<|VQ rfl rfl<|Ac<|B5 ?_;refine Hx (σ:=Nat×Int) [(1,_),(5,_),(7,_),(9,_),(15,_),(16,_),(18,_),(21,_)] _ (fun s C=>(25,.int .i64 (s.1:Int))::(24,.int .i64 s.2)::C) (fun s=>[AO Amc 60 (VW (({Ca:=1,Ap:=(2+(k:Int)),As:=1,Cm:=({Jd:=190,JM:=0,JJ:=0,JK:=0}:De)}:FE))),AO AtZ 43 (A3 ((ApH Z AGq)) gM),AO Asy 33 (BY Z t0 t1 t2 t3 t4 t5),AO AGF 4 (AGE (AGv P k) (AGn ops)),AO Jo 43 (A3 ((AGo 0)) AlI),AO E' 33 (BY Y RF N8 OF P1 P2 SK),CL X w]) (fun _ Dw=>Dw) (fun s=>s.1<=AGn ops/\s.2=((AGD (AGz (AGv P k) (AGn ops)) s.1:Nat):Int)) (fun s=>AGn ops-s.1) (0,0) ⟨rfl,rfl,rfl,rfl,rfl,rfl,rfl,rfl,trivial⟩ (Bg.cons 1 rfl (Bg.cons 2 rfl (Bg.cons 3 rfl (Bg.cons 4 rfl (Bg.cons 5 rfl (Bg.cons 6 rfl (Bg.cons 7 rfl (Bg.cons 9 rfl (Bg.cons 10 rfl (Bg.cons 11 rfl (Bg.cons 12 rfl (Bg.cons 13 rfl (Bg.cons 14 rfl (Bg.cons 15 rfl (Bg.cons 16 rfl (Bg.cons 17 rfl Bg.nil)))))))))))))))) ⟨ABg _,rfl⟩ ⟨rfl,rfl,rfl,rfl,rfl,rfl,rfl,rfl,rfl,rfl,trivial⟩ rfl (Bg.cons 1 rfl (Bg.cons 2 rfl (Bg.cons 3 rfl (Bg.cons 4 rfl (Bg.cons 5 rfl (Bg.cons 6 rfl (Bg.cons 7 rfl (Bg.cons 9 rfl (Bg.cons 10 rfl (Bg.cons 11 rfl (Bg.cons 12 rfl (Bg.cons 13 rfl (Bg.cons 14 rfl (Bg.cons 15 rfl (Bg.cons 16 rfl (Bg.cons 17 rfl Bg.nil)))))))))))))))) ?_;rintro⟨j,m⟩ ⟨AbO,hm⟩;simp only at AbO hm;have E5:=AHq (AGz (AGv P k) (AGn ops)) j;show CF _ _ _ [(25,.int .i64 ((j:Int))),(24,.int .i64 m),(1,_),(5,_),(7,_),(9,_),(15,_),(16,_),(18,_),(21,_)] [AO Amc 60 (VW (({Ca:=1,Ap:=(2+(k:Int)),As:=1,Cm:=({Jd:=190,JM:=0,JJ:=0,JK:=0}:De)}:FE))),AO AtZ 43 (A3 ((ApH Z AGq)) gM),AO Asy 33 (BY Z t0 t1 t2 t3 t4 t5),AO AGF 4 (AGE (AGv P k) (AGn ops)),AO Jo 43 (A3 ((AGo 0)) AlI),AO E' 33 (BY Y RF N8 OF P1 P2 SK),CL X w] _;refine Am<|Am<|rg<|An rfl rfl<|An rfl rfl<|Ci rfl rfl rfl<|Ac<|B9 rfl (fun As_=>?_) (fun As_=>?_)
              ·
                have AGO:j<AGn ops:=(by simpa using As_);refine AZ<|Am<|B5<|Am<|rg<|An rfl rfl<|An rfl rfl<|AGP (k:=j) rfl rfl AGR rfl AGO rfl<|ME 3 rfl rfl AGK (AGU AGO) rfl<|IH rfl rfl<|Ac<|BN rfl (fun As'=>?_) (fun As'=>?_)
                ·
                  refine rg<|An rfl rfl<|C5 rfl rfl BV rfl<|VQ rfl rfl<|nl<|CU<|A5<|rg<|An rfl rfl<|C5 rfl rfl BV rfl<|VQ rfl rfl<|nl ?_;exact Dy ((j+1,m+1):Nat×Int) ⟨by show j+1<=_;omega,by show m+1=((AGD (AGz (AGv P k) (AGn ops)) (j+1):Nat):Int);rw[AGD,AGZ AGO,AA9 (by simpa using As')];omega⟩ (by show AGn ops-(j+1)<AGn ops-j;omega) ⟨rfl,rfl,rfl,rfl,rfl,rfl,rfl,rfl,rfl,rfl,trivial⟩ rfl (Bg.cons 0 rfl (Bg.cons 1 rfl (Bg.cons 2 rfl (Bg.cons 3 rfl (Bg.cons 4 rfl (Bg.cons 5 rfl (Bg.cons 6 rfl (Bg.cons 7 rfl (Bg.cons 8 rfl (Bg.cons 9 rfl (Bg.cons 10 rfl (Bg.cons 11 rfl (Bg.cons 12 rfl (Bg.cons 13 rfl (Bg.cons 14 rfl (Bg.cons 15 rfl Bg.nil))))))))))))))))
                ·
                  refine EG<|CU<|A5<|rg<|An rfl rfl<|C5 rfl rfl BV rfl<|VQ rfl rfl<|nl ?_;exact Dy ((j+1,m):Nat×Int) ⟨by show j+1<=_;omega,by show m=((AGD (AGz (AGv P k) (AGn ops)) (j+1):Nat):Int);rw[AGD,AGZ AGO,AA_ (by simpa using As')];omega⟩ (by show AGn ops-(j+1)<AGn ops-j;omega) ⟨rfl,rfl,rfl,rfl,rfl,rfl,rfl,rfl,rfl,rfl,trivial⟩ rfl (Bg.cons 0 rfl (Bg.cons 1 rfl (Bg.cons 2 rfl (Bg.cons 3 rfl (Bg.cons 4 rfl (Bg.cons 5 rfl (Bg.cons 6 rfl (Bg.cons 7 rfl (Bg.cons 8 rfl (Bg.cons 9 rfl (Bg.cons 10 rfl (Bg.cons 11 rfl (Bg.cons 12 rfl (Bg.cons 13 rfl (Bg.cons 14 rfl (Bg.cons 15 rfl Bg.nil))))))))))))))))
              ·
                obtain rfl:j=AGn ops:=(by simp at As_;omega);refine ex<|Ck<|Ck<|D7<|A5<|Am<|Am<|rg<|UG rfl AHs rfl<|ME 2 rfl rfl AHE rfl rfl<|C2 3 rfl rfl ACi rfl fun AIE=>An rfl rfl<|Aem rfl rfl rfl<|An rfl rfl ?_;apply AnJ [(1,_),(5,_),(7,_),(9,_),(15,_),(16,_),(18,_)] ⟨rfl,rfl,rfl,rfl,rfl,rfl,rfl,trivial⟩
                ·
                  intro AG3;refine tt (i:=214) rfl (fun AFk=>?_) (fun AFk=>?_)
                  ·
                    have AF0:=AFk;simp only[ABI,ABa]at AF0;exact Bl rfl rfl rfl<|UG rfl AHt rfl<|Bl rfl rfl rfl<|ME 1 rfl rfl AGG rfl rfl<|Bl rfl rfl rfl<|Aem rfl rfl rfl<|Bl rfl rfl rfl<|An rfl rfl<|Bl rfl rfl rfl<|AaD rfl rfl rfl<|Bl rfl rfl rfl<|Aek ADM rfl rfl rfl<|Ahj rfl rfl rfl<|qx AG3 AFk ⟨rfl,rfl,rfl,rfl,rfl,rfl,rfl,trivial⟩ Bg.refl
                  · exact AGV (g:=[_,_,_,_,_,_]) rfl<|Ahk rfl rfl rfl<|qy AG3 AFk ⟨rfl,rfl,rfl,rfl,rfl,rfl,rfl,trivial⟩ Bg.refl
                refine Ac<|BN rfl (fun AG5=>?_) (fun AG5=>?_)
                ·
                  exfalso;rw[AHn]at AHm;simp[AHn,hm,AHm]at AG5;omega --#done
                ·
                  refine AZ<|rg<|BJ 2 (BY Z t0 t1 t2 t3 t4 t5) rfl rfl AGy rfl rfl<|GO (q:=t0.oneCell'=true) (fun S w h=>Fh (h _ (AA' (i:=1) rfl))) fun AG8=>?_;refine GO (q:=t1.oneCell'=true) (fun S w h=>Fh (h _ (AA' (i:=2) rfl))) fun AG9=>?_;refine GO (q:=t2.oneCell'=true) (fun S w h=>Fh (h _ (AA' (i:=3) rfl))) fun AG_=>?_;refine GO (q:=t3.oneCell'=true) (fun S w h=>Fh (h _ (AA' (i:=4) rfl))) fun AG'=>?_;refine GO (q:=t4.oneCell'=true) (fun S w h=>Fh (h _ (AA' (i:=5) rfl))) fun AHa=>?_;refine GO (q:=t5.oneCell'=true) (fun S w h=>Fh (h _ (AA' (i:=6) rfl))) fun AHb=>?_;refine BZ 5 (us:=(BY Z t0 t1 t2 t3 t4 t5)) rfl rfl rfl AGy (by simp only[ABn,ABr,ABp,AG8,AG9,AG_,AG',AHa,AHb];rfl) rfl<|nl<|CU<|A5<|rg<|An rfl rfl<|C5 rfl rfl BV rfl<|VQ rfl rfl<|nl<|AQ<|AQ<|AQ ?_;exact Dy ((i+1,AGv P k,Z,⟨t0,t1,t2,t3,t4,t5⟩):Nat×(Int->Bool)×Bv×(Value×Value×Value×Value×Value×Value)) ⟨by show i+1<=_;omega,⟨r+1,AJv,AHF⟩,AH4,Auv⟩ (by show Ar4.length+AGn ops-(i+1)<Ar4.length+AGn ops-i;omega) ⟨rfl,rfl,rfl,rfl,rfl,rfl,trivial⟩ rfl (Bg.cons 1 rfl (Bg.cons 2 rfl (Bg.cons 3 rfl (Bg.cons 4 rfl (Bg.cons 5 rfl (Bg.cons 6 rfl (Bg.cons 13 rfl (Bg.cons 14 rfl (Bg.cons 15 rfl Bg.nil)))))))))
    ·
      refine ex<|Ck<|Ck<|D7<|A5<|Am<|rg<|VQ rfl rfl<|Ac<|rt<|AQ<|AQ<|AQ ?_;exact Bq () rfl rfl AJy rfl Bg.nil
end Go.Apw
namespace Go.Proofs.YtalfaopffbkdnabGreat
open Go.A_ Go.Apw Go.ChangeShapes Go.WideShapes Go.ChangeAt Go.RowKit
section
theorem Tryz.own:ownKnob Tryz.prog.godebug=none:=AJw
theorem Tryz.laidOut:laidOutB Tryz.prog=true:=AJw
set_option maxRecDepth 100000 in
theorem AIW(H:Type)(enc:TypeId×Value->H)(W:World)(base:Nat)(args:Array Value)(Cx gs:List (DataW H))(before:List MemPlace)(AE:Rows.uptoSmall H (Cx++gs)=true)
    (PD:∀(j:Nat) t v,Tryz.f3.params[j]? =some t->args[j]? =some v->Value.okWide Tryz.prog W .any base t v)
    (F5:DataW.Whole enc Tryz.prog Tryz.f3.params.toList Rows.shardGivenSpec.vars false W args.toList Cx gs before):
    Calls Tryz.prog 3 args W fun e SY=>∃v,e=.returned v/\Rows.shardGivenSpec.post enc Tryz.prog Tryz.f3 false true false false W args v SY:=by
  have iV:=F5;obtain⟨p,q,AaS,LC,rfl,AbI,OZ⟩:=F5;have Cl:DataW.TrodAll enc Tryz.prog W 0 (fun _=>true) true Tryz.f3.params.toList args.toList Cx p:=AaS;rw[Tryz.params3]at Cl PD;obtain⟨v0,cg,d0,Fb,An9,L3,AK,rfl,rfl,Bw,Cl⟩:=trodAll_cons Cl;obtain⟨v1,NY,d1,B4,Rn,Ey,rfl,rfl,rfl,Af,Cl⟩:=trodAll_cons Cl;obtain⟨rfl,rfl,rfl⟩:=trodAll_nil Cl;obtain⟨rfl,rfl⟩:=trodVars_none LC;have eI:args= #[v0,v1]:=Array.toList_inj.1 AK;subst eI;obtain⟨os,AHG⟩:=w8 ABH AIR (PD 0 22 v0 rfl rfl) Bw;have AI_:=AdS ABH Bw AHG;obtain⟨Ar4,AsQ⟩:=w8 ACh Atw (PD 1 23 v1 rfl rfl) Af;have At1:=AdS ACh Af AsQ;have AE:Rows.uptoBulk d0+(Rows.uptoBulk d1+0)<=1048576:=(by simpa[Rows.uptoSmall,Rows.uptoBulkAll]using AE);have JU:=AIl v0 os v1 Ar4 AJv (O7 (s:=Ai1) AHG);refine JU.post Tryz.laidOut AJw rfl AJw ADM rfl iV ?_;intro t Av;rcases ABf.1 Av with rfl|h
  · exact AHG
  · obtain rfl:=ADe.1 h;exact AsQ
set_option maxRecDepth 100000 in
theorem AIY(os:Os)(started:os.Started)(H:Type)(enc:TypeId×Value->H)(F:Stop.Interp):
    ReturnsInHanded {} Tryz.checked os 3 .any ((Rows.OpenSpec.upto Rows.shardGivenSpec).pre6 enc Tryz.prog Tryz.f3 Rows.shardGivenUptoRow.domain false) (((Rows.OpenSpec.upto Rows.shardGivenSpec).at F).post enc Tryz.prog Tryz.f3 false true false false):=by
  refine returnsInHanded_of_cond (C:=Tryz.checked) (s:=Rows.OpenSpec.upto Rows.shardGivenSpec) (k:=Rows.uptoSmall) rfl Tryz.own started AJw Tryz.func3
    (OpenSpec.witness (enc:=enc) (C:=Tryz.checked) (s:=Rows.OpenSpec.upto Rows.shardGivenSpec) (k:=Rows.uptoSmall) rfl false ⟨#[],#[.slice none 0 0,.slice none 0 0],[]⟩ 8 AJw AJw AJw
      (x:=([.nil,.nil],[],[])) AJw rfl AJw) ?_
  intro W base args Cx gs before PD F5 _ AE _;exact AIW H enc W base args Cx gs before AE PD F5
theorem w2{a b:Bool}(AK:a=true)(Aq:b=true):(a&&b)=true:=by rw[AK,Aq];rfl
set_option maxHeartbeats 40000000 in
theorem AIV:joinedFacts Tryz.prog 3 Tryz.f3 (Rows.OpenSpec.upto Rows.shardGivenSpec).bare Rows.shardGivenUptoRow=true:=by
  unfold joinedFacts;repeat' (with_reducible apply w2)
  all_goals (as_aux_lemma=>kernel_rfl)
theorem AIZ:Tryz.prog.funcNamed Rows.shardGivenUptoRow.func=some 3:=AJw
theorem AIX:Tryz.f3.isInstance Tryz.prog Rows.shardGivenUptoRow.origin Rows.shardGivenUptoRow.targs:=ABA AJw
theorem AI1:Tryz.f3.isWrapper Tryz.prog Rows.shardGivenUptoRow.wrapper Rows.shardGivenUptoRow.mainSum:=by
  unfold Func.isWrapper;rw[AA9 (by decide+kernel)];exact⟨rfl,rfl⟩
theorem AI0:Rows.shardGivenUptoRow.holds Tryz.pinned (Rows.OpenSpec.upto Rows.shardGivenSpec):=
  OpenClaim.holds_of_cond 3 Tryz.f3 rfl rfl rfl rfl rfl rfl rfl ⟨rfl,rfl,rfl,rfl,rfl⟩ rfl rfl rfl rfl rfl AIZ Tryz.func3 AIV AIX AI1
    (fun os started H enc _ F=>AIY os started H enc F)
theorem shardGiven_holds:Rows.ShardGivenUptoSaid:=AI0
#print axioms shardGiven_holds
end
end Go.Proofs.YtalfaopffbkdnabGreat
