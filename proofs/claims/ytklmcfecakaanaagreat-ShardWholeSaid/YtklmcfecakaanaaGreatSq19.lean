/- Part 19 of shardWhole_holds. -/
import Derived.Test.YtklmcfecakaanaaGreatSq18

set_option maxRecDepth 20000
set_option maxHeartbeats 1000000
open Go.Proofs.Tryz renaming underlying39→ARN,underlying40→ARR
open List renaming length_append→ABP,length_cons→ABv,length_nil→ABo,length_set→ABj,set_set→ABL
open Go.A_ Go.Proofs Go.Proofs.YtklmcfecakaanaaGreat
namespace Go.Apw
variable(Bk CP:Value) (l:List Bx) (c q:Int)
theorem Awi{l:List Bx}{c q:Int}(h:(F1 l c q).2=0):∃i:Nat,(F1 l c q).1=(i:Int)/\i<l.length/\Is l=true:=by
 unfold F1 at h ⊢;by_cases Af:Is l=false
 ·
  rw[AA_ Af]at h;exact absurd h ARp
 rw[AA9 Af]at h ⊢;by_cases h2:HI (Kt l c q)<0
 ·
  rw[AA_ h2]at h;exact absurd h ARp
 rw[AA9 h2];cases e:Kt l c q with
 |none=>rw[e]at h2;exact absurd ARp h2
 |some i=>exact⟨i,rfl,Q4 e,by simpa using Af⟩
theorem ia{d:Bx}(h:d.wf){n:Int}(Ao:A' n):({d with C3:=n}:Bx).wf:=⟨h.1,h.2.1,h.2.2.1,h.2.2.2.1,h.2.2.2.2.1,h.2.2.2.2.2.1,h.2.2.2.2.2.2.1,Ao⟩
theorem dL(hlen:l.length<=100000):Aw AG 63 [Bk] [] [⟨Bk,l⟩] (fun(_:Unit) _=>True) (fun _ v=>[@row Bx ML 67 v l]) (fun _ _=>[]):=by
 refine Aw.proof Tryz.func63 G 8 G G fun X w=>AF 1 G<|Am<|Ae<|An G G<|RT 0 ARN G G G G fun PM ARA=>Ac<|BN G (fun BB=>?_) (fun BB=>?_)
 ·
  have Ab:l=[]:=ARA BB;subst Ab;exact Lk Bx 67<|AF 1 G<|BA<|Bq () G G trivial G Aa
 exact AZ<|Ae<|NB QQ G fun E'=>Nm (α:=Bx) [] [] G G (fun _ _ _=>trivial) G<|An G G<|ap 0 0 G G G G QQ (by simp only[ABo];omega) (by simp only[ABo];omega) G fun EZ=>U 1 G<|Ac<|rt<|Bq () G G trivial G Aa
theorem x6(l:List Df)(hlen:l.length<=100000):Aw AG 64 [Bk] [] [⟨Bk,l⟩] (fun(_:Unit) _=>True) (fun _ v=>[@row Df Y9 125 v l]) (fun _ _=>[]):=by
 refine Aw.proof Tryz.func64 G 8 G G fun X w=>AF 1 G<|Am<|Ae<|An G G<|RT 0 ARR G G G G fun PM ARA=>Ac<|BN G (fun BB=>?_) (fun BB=>?_)
 ·
  have Ab:l=[]:=ARA BB;subst Ab;exact Lk Df 125<|AF 1 G<|BA<|Bq () G G trivial G Aa
 exact AZ<|Ae<|NB RM G fun E'=>Nm (α:=Df) [] [] G G (fun _ _ _=>trivial) G<|An G G<|ap 0 0 G G G G RM (by simp only[ABo];omega) (by simp only[ABo];omega) G fun EZ=>U 1 G<|Ac<|rt<|Bq () G G trivial G Aa
theorem ie(BK:A' c)(Ed:A' q):Cv AG 192 [CP,.int .i64 c,.int .i64 q] [⟨CP,l⟩] (.tuple #[.int .i64 (F1 l c q).1,.int .i64 (F1 l c q).2]):=by
 refine Aw.proof Tryz.func192 G 19 G G fun X w=>?_;obtain⟨K9,K_⟩:=id BK;obtain⟨LD,LF⟩:=id Ed;refine AF 2 G<|Am<|Ae<|An G G<|B0 (dS _ _) (Ar G) G (Ad 0 G Aa) G<|U 1 G<|Ac<|Fa G (fun Ct=>?_) (fun Ct=>?_)
 ·
  have Qr:=BS.1 Ct;exact AF 2 G<|BA<|Fl () G G G (by rw[F1,AA_ Qr]) G Aa
 have Qr:¬Is l=false:=fun q=>BS.2 q Ct;refine AZ<|Ae<|U 3 G<|B0 (fA _ _ c q BK Ed) (Ar G) G (Ad 0 G Aa) G<|U 1 G<|Ac<|Am<|AF 2 G<|B9 G (fun DA=>?_) (fun DA=>?_)
 · exact AF 2 G<|BA<|Fl () G G G (by rw[F1,AA9 Qr,AA_ DA]) G Aa
 exact AZ<|AF 3 G<|rt<|Fl () G G G (by rw[F1,AA9 Qr,AA9 DA]) G Aa
theorem Aax(Z:List Bx×Bool×Int)(AW:NJ l c q=Z)(BK:A' c)(Ed:A' q):Aw AG 189 [CP,.int .i64 c,.int .i64 q] [] [⟨CP,l⟩] (fun(y:Value) u=>u=.tuple #[y,.bool Z.2.1,.int .i64 Z.2.2]) (fun _ _=>[]) (fun y _=>[⟨y,Z.1⟩]):=by
 refine Aw.proof Tryz.func189 G 39 G G fun X w=>?_;obtain⟨K9,K_⟩:=id BK;obtain⟨LD,LF⟩:=id Ed;refine DJ (α:=Bx) ?_;refine HP (q:=∀x∈l,x.wf) (fun S w h=>O7 (s:=Kx) (h _ (AA' (i:=1) G))) fun F5=>AF 3 G<|Ae<|U 3 G<|B0 (ie _ _ c q BK Ed) (Ar G) G (Ad 1 G Aa) G<|U 5 G<|Ac<|Am<|AF 2 G<|Fa G (fun E1=>?_) (fun E1=>?_)
 ·
  have AB:(([],false,(F1 l c q).2):List Bx×Bool×Int)=Z:=(by rw[<-AW,NJ,AA_ (by simpa using E1)]);subst AB;exact AF 4 G<|BA<|IB AI G G G G G G (Ad 0 G Aa)
 have Y6:¬¬(F1 l c q).2=0:=by simpa using E1
 obtain⟨B6,PA,FF,LH⟩:=Awi (by simpa using E1);have Ko:(F1 l c q).1.toNat=B6:=by rw[PA];rfl
 have jh:=V0 LH;rw[PA];refine AZ<|Ae<|An G G<|Dm (dL _ _ AMT) (Ar G) G (Ad 1 G Aa) G fun _ Xl _=>U 1 G<|Ac<|Ae<|U 2 G<|IF 0 (B6) G G G Ox AMT AMT G<|K3 0 G G AMT (BR G) G<|NR (s:=Kx) 0 (B6) 7 (fun _=>.int .i64 (l.getD (B6) default).C3) G G JP (fun _=>G) (A2 G) G fun cd uw=>U 1 G<|Ac<|Am<|AF 2 G<|B9 G (fun ES=>?_) (fun ES=>?_)
 ·
  have Rr:(l.getD (F1 l c q).1.toNat default).C3=0:=(by rw[Ko];exact ES);have AB:((l.set B6 {(l.getD B6 default)with C3:=2},true,0):List Bx×Bool×Int)=Z:=(by rw[<-AW,NJ,AA9 Y6,AA_ Rr,Ko]);subst AB;exact rg<|U 2 G<|IF 0 (B6) G G G Ox AMT AMT G<|K3 0 G G AMT (BR G) G<|Sz (s:=Kx) 0 (B6) 7 () (ov':=({(l.getD (B6) default)with C3:=2}:Bx)) G G G G JP (ABy G) (fun _=>G) Aa (ia (F5 _ (Hl FF)) ⟨ARp,ARp⟩) (A2 G)<|Ac<|Am<|RY<|rg<|U 3 G<|U 3 G<|Ac<|rt<|IB Xl G G G G (by rw[ABG ES]) G (Ad 0 G Aa)
 have Rr:¬(l.getD (F1 l c q).1.toNat default).C3=0:=by rw[Ko];exact ES
 have AB:((l,false,0):List Bx×Bool×Int)=Z:=by rw[<-AW,NJ,AA9 Y6,AA9 Rr]
 subst AB;exact AZ<|Am<|RY<|FA 6 G<|A5<|rt<|IB Xl G G G G (by rw[ABM ES]) G (Ad 0 G Aa)
theorem zU(Z:List Bx×Int)(AW:OP l c q=Z)(BK:A' c)(Ed:A' q):Aw AG 132 [CP,.int .i64 c,.int .i64 q] [] [⟨CP,l⟩] (fun(y:Value) u=>u=.tuple #[y,.int .i64 Z.2]) (fun _ _=>[]) (fun y _=>[⟨y,Z.1⟩]):=by
 refine Aw.proof Tryz.func132 G 32 G G fun X w=>?_;obtain⟨K9,K_⟩:=id BK;obtain⟨LD,LF⟩:=id Ed;refine DJ (α:=Bx) ?_;refine HP (q:=∀x∈l,x.wf) (fun S w h=>O7 (s:=Kx) (h _ (AA' (i:=1) G))) fun F5=>AF 2 G<|Ae<|U 3 G<|B0 (ie _ _ c q BK Ed) (Ar G) G (Ad 1 G Aa) G<|An G G<|U 4 G<|Ac<|Am<|AF 2 G<|Fa G (fun ER=>?_) (fun ER=>?_)
 ·
  have AB:(([],(F1 l c q).2):List Bx×Int)=Z:=(by rw[<-AW,OP,AA_ (by simpa using ER)]);subst AB;exact AF 3 G<|BA<|Fl AI G G G G G (Ad 0 G Aa)
 have Nj:¬¬(F1 l c q).2=0:=by simpa using ER
 obtain⟨B6,PA,FF,LH⟩:=Awi (by simpa using ER);have Ko:(F1 l c q).1.toNat=B6:=by rw[PA];rfl
 have jh:=V0 LH;rw[PA];refine AZ<|Am<|Ae<|U 2 G<|Fo 1 G G G Ox G fun RB=>CJ 0 r_ G G (BR G) G fun Pe=>CQ 0 G G (A2 G) G fun PW=>U 1 G<|Ac<|B9 G (fun Gr=>?_) (fun Gr=>?_)
 ·
  have PL:(l.getD (F1 l c q).1.toNat default).C3=0:=(by rw[Ko];exact Gr);have AB:(([],60):List Bx×Int)=Z:=(by rw[<-AW,OP,AA9 Nj,AA_ PL]);subst AB;exact AF 2 G<|BA<|Fl AI G G G G G (Ad 2 G Aa)
 have PL:¬(l.getD (F1 l c q).1.toNat default).C3=0:=by rw[Ko];exact Gr
 have AB:((l.eraseIdx B6,0):List Bx×Int)=Z:=by rw[<-AW,OP,AA9 Nj,AA9 PL,Ko]
 subst AB;refine AZ<|Ae<|An G G<|Dm (dL _ _ AMT) (Ar G) G (Ad 3 G Aa) G fun _ N4 _=>U 2 G<|Hf (r:=((B6+1:Nat):Int)) G G AMT BV G<|Ch 0 (yx N4 l B6 FF AMT) (Ar G) G G Aa G fun _ L5 _=>?_;exact U 2 G<|Ac<|rt<|K5<|Fl L5 G G G G G (Ad 0 G Aa)
theorem AfD(d:Bx)(Z:List Bx×Int)(AW:Mf l d=Z)(Tj:d.wf):Aw AG 184 [CP,.agg (H8 d).toArray] [] [⟨CP,l⟩] (fun(y:Value) u=>u=.tuple #[y,.int .i64 Z.2]) (fun _ _=>[]) (fun y _=>[⟨y,Z.1⟩]):=by
 refine Aw.proof Tryz.func184 G 46 G G fun X w=>DJ (α:=Bx) ?_;refine Ae<|CV G G G fun DQ=>U 2 G<|Ac<|Am<|B5<|Ae<|An G G<|B0 (dS _ _) (Ar G) G (Ad 1 G Aa) G<|U 1 G<|U 1 G<|Ac<|Fa G (fun F4=>?_) (fun F4=>?_)
 ·
  have Mi:Is l=false:=(by first|exact F4|exact BS.1 F4|exact(fun q=>BS.2 q F4)|exact(fun q=>ABd (F4.symm.trans q))|simpa using F4)
  have AB:(([],21):List Bx×Int)=Z:=(by rw[<-AW,Mf,AA_ Mi]);subst AB;exact AF 2 G<|rt<|C9<|Cd<|AQ<|Fl AI G G G G G (Ad 0 G Aa)
 have Mi:¬(Is l=false):=(by first|exact F4|exact BS.1 F4|exact(fun q=>BS.2 q F4)|exact(fun q=>ABd (F4.symm.trans q))|simpa using F4)
 refine Ae<|BJ 0 (H8 d) G G (At G) G G<|B0 (oq _ Tj) (Ar G) G Aa G<|U 2 G<|ET 14 4 [0] [0,3] G G G<|An G G<|ET 19 4 [0] [0,3] G G G<|An G G<|ET 24 4 [0] [0,3] G G G<|U 1 G<|Ac<|BN G (fun Dq=>?_) (fun Dq=>?_)
 ·
  have Ni:(!M1 d|| !decide (d.DN=0)|| !decide (d.DO=0)|| !decide (d.C3=0))=true:=(by first|exact Dq|exact BS.1 Dq|exact(fun q=>BS.2 q Dq)|exact(fun q=>ABd (Dq.symm.trans q))|simpa using Dq)
  have AB:(([],1):List Bx×Int)=Z:=(by rw[<-AW,Mf,AA9 Mi,AA_ Ni]);subst AB;exact AF 2 G<|rt<|C9<|Cd<|AQ<|Fl AI G G G G G (Ad 0 G Aa)
 have Ni:¬((!M1 d|| !decide (d.DN=0)|| !decide (d.DO=0)|| !decide (d.C3=0))=true):=(by first|exact Dq|exact BS.1 Dq|exact(fun q=>BS.2 q Dq)|exact(fun q=>ABd (Dq.symm.trans q))|simpa using Dq)
 refine Ae<|AX 5 [0,0] G G<|B0 (fA _ _ d.Ap d.As Tj.1 Tj.2.1) (Ar G) G (Ad 1 G Aa) G<|U 2 G<|Ac<|B9 G (fun G5=>?_) (fun G5=>?_)
 ·
  have cd:decide (HI (Kt l d.Ap d.As)>=0)=true:=(by first|exact G5|exact BS.1 G5|exact(fun q=>BS.2 q G5)|exact(fun q=>ABd (G5.symm.trans q))|simpa using G5)
  have AB:(([],171):List Bx×Int)=Z:=(by rw[<-AW,Mf,AA9 Mi,AA9 Ni,AA_ cd]);subst AB;exact AF 2 G<|rt<|C9<|Cd<|AQ<|Fl AI G G G G G (Ad 0 G Aa)
 have cd:¬(decide (HI (Kt l d.Ap d.As)>=0)=true):=(by first|exact G5|exact BS.1 G5|exact(fun q=>BS.2 q G5)|exact(fun q=>ABd (G5.symm.trans q))|simpa using G5)
 refine Ae<|An G G<|C2 1 G G ARN G fun AnU=>U 2 G<|Ac<|B9 G (fun M5=>?_) (fun M5=>?_)
 ·
  have kX:(l.length:Int)>=4:=(by first|exact M5|exact BS.1 M5|exact(fun q=>BS.2 q M5)|exact(fun q=>ABd (M5.symm.trans q))|simpa using M5)
  have AB:(([],3):List Bx×Int)=Z:=(by rw[<-AW,Mf,AA9 Mi,AA9 Ni,AA9 cd,AA_ kX]);subst AB;exact AF 2 G<|rt<|C9<|Cd<|AQ<|Fl AI G G G G G (Ad 0 G Aa)
 have kX:¬((l.length:Int)>=4):=(by first|exact M5|exact BS.1 M5|exact(fun q=>BS.2 q M5)|exact(fun q=>ABd (M5.symm.trans q))|simpa using M5)
 have AB:((l++[d],0):List Bx×Int)=Z:=by rw[<-AW,Mf,AA9 Mi,AA9 Ni,AA9 cd,AA9 kX]
 subst AB;refine EG<|CU<|A5<|Am<|AuG [[(1,.f1 1 fun BM=>[@row Bx ML 67 (BM 0) l]),(4,.f1 4 fun BM=>[@row Bx ML 67 (BM 0) (l++[d])])]] [] [(1,Ol [0] fun A4=>some ((A4 0))),(3,Ff [] (fun A4=>some (A4 0)) fun A4=>[⟨(A4 0),[d]⟩]),(4,Ol [0] fun A4=>some ((A4 0)))] [(2,1)] [4,5] (fun _=>G) (fun _=>G) (fun Ai AV Az=>⟨fun _=>Dm (dL _ _ AMT) (Ar G) G (Ad 1 G Aa) G fun _ ml _=>BU [ml] [] 0 G G,fun _=>Lw G QQ G G G G fun Amk=>KJ (α:=Bx) d (fun S w h=>⟨(),G,by simp,Tj⟩)<|BU [_] [0] 1 G G,fun _=>?_,trivial⟩) fun Ai _=>?_
 · exact ap 0 0 G G G G QQ (by simp only[ABv,ABo];omega) (by simp only[ABv,ABo];omega) G fun mm=>BU [mm] [] 1 G G
 generalize Ai 1 0=v1,Ai 3 0=Mm,Ai 4 0=v4;exact A5<|rt<|K5<|AQ<|Fl v4 G G G G G (Ad 0 G Aa)
theorem lB{d:Bx}(h:d.wf){n:Int}(Ao:A' n):({d with DN:=n}:Bx).wf:=⟨h.1,h.2.1,h.2.2.1,h.2.2.2.1,h.2.2.2.2.1,Ao,h.2.2.2.2.2.2.1,h.2.2.2.2.2.2.2⟩
theorem lC{d:Bx}(h:d.wf){n:Int}(Ao:A' n):({d with DO:=n}:Bx).wf:=⟨h.1,h.2.1,h.2.2.1,h.2.2.2.1,h.2.2.2.2.1,h.2.2.2.2.2.1,Ao,h.2.2.2.2.2.2.2⟩
theorem oQ(m t:Int):A' (JN m t):=by
 unfold JN;split
 · exact⟨ARp,ARp⟩
 split<;>exact⟨ARp,ARp⟩
theorem gk{b:Bool}:A' (if b=true then 1 else 2):=by split<;>exact⟨ARp,ARp⟩
theorem fY{l:List Bx}{c q:Int}{B6:Nat}{m b:Bool}(B':¬¬(F1 l c q).2=0)(Ko:(F1 l c q).1.toNat=B6)(FF:B6<l.length)(h:¬(l.getD B6 default).C3=0\/¬(if m=true then(l.getD B6 default).DN else(l.getD B6 default).DO)=0):Jk l c q m b=(l,false,0):=by
 have e:TT (l.getD B6 default) m b=(l.getD B6 default,false):=by
  rw[TT,AA_];simpa using h
 rw[Jk,AA9 B',Ko,e];simp only[Prod.mk.injEq,and_true];refine List.ext_getElem? fun k=>?_;rw[List.getElem?_set];split
 ·
  rename_i B4;subst B4;rw[ABs FF,Go.A_.G3 FF]
 rfl
theorem s8{l:List Bx}{c q:Int}{B6:Nat}{m b:Bool}(B':¬¬(F1 l c q).2=0)(Ko:(F1 l c q).1.toNat=B6)(hs:(if m=true then(l.getD B6 default).DN else(l.getD B6 default).DO)=0)(Bw:(l.getD B6 default).C3=0){E:Bx}
  (Ge:(if m=true then{l.getD B6 default with DN:=if b=true then 1 else 2}else{l.getD B6 default with DO:=if b=true then 1 else 2})=E):Jk l c q m b=(l.set B6 {E with C3:=JN E.DN E.DO},!decide (JN E.DN E.DO=0),0):=by
 rw[Jk,AA9 B',Ko,TT,AA9 (by rw[Bw,hs];decide)];simp only[Ge]
theorem Ia{α:Type}[Inhabited α]{xs:List α}{m:Nat}(h:m<xs.length){a:α}:(xs.set m a).getD m default=a:=by
 rw[ACn,ACP h];rfl
theorem Aje(v:Value)(xs:List Bx)(m:Nat)(b:Bool)(hm:m<xs.length)(F5:∀j,j<xs.length->(xs.getD j default).wf):Aw AG 193 [JI v (m*8+5),.bool b] [@row Bx ML 67 v xs] [] (fun(_:Unit) u=>u=.bool (decide ((xs.getD m default).DN=0))) (fun _ _=>[@row Bx ML 67 v (if(xs.getD m default).DN=0 then xs.set m {xs.getD m default with DN:=(if b=true then 1 else 2)}else xs)]) (fun _ _=>[]):=by
 refine Aw.proof Tryz.func193 G 14 G G fun X w=>?_;have FG:0<xs.length:=AMT;refine AF 1 G<|Am<|Ae<|An G G<|Kr 0 G G AMT G<|NR (s:=Kx) 0 m 5 (fun _=>.int .i64 (xs.getD m default).DN) G G JP (fun _=>G) (A2 G) G fun Y8 OD=>U 1 G<|Ac<|Fa G (fun D2=>?_) (fun D2=>?_)
 ·
  have Ab:(if(xs.getD m default).DN=0 then xs.set m {xs.getD m default with DN:=(if b=true then 1 else 2)}else xs)=xs:=AA9 D2;exact AF 1 G<|BA<|Bq () G G (by rw[ABM D2]) (by rw[Ab]) Aa
 have HZ:(xs.getD m default).DN=0:=D2;have Oi:=F5 m hm;refine AZ<|Ae<|An G G<|Kr 0 G G AMT G<|Sz (s:=Kx) 0 m 5 () (ov':=({(xs.getD m default)with DN:=2}:Bx)) G G G G JP (ABy G) (fun _=>G) Aa (lB Oi ⟨ARp,ARp⟩) (A2 G)<|Ac<|Am<|Ae<|An G G<|Ac<|BN G (fun Ct=>?_) (fun Ct=>?_)
 · exact rg<|An G G<|Kr 0 G G (by simp only[ABj];omega) G<|Sz (s:=Kx) 0 m 5 () (ov':=({((xs.set m ({(xs.getD m default)with DN:=2}:Bx)).getD m default)with DN:=1}:Bx)) G G G G (Ly (d:=default) (by simp only[ABj];omega)) (ABy G) (fun _=>G) Aa (by rw[Ia hm];exact lB Oi ⟨ARp,ARp⟩) (A2 G)<|Ac<|AF 1 G<|rt<|Bq () G G (by rw[ABG HZ]) (by rw[AA_ HZ,AA_ Ct,Ia hm,ABL (l:=xs)];rfl) Aa
 exact AZ<|AF 1 G<|rt<|Bq () G G (by rw[ABG HZ]) (by rw[AA_ HZ,AA9 (by rw[Ct];decide)];rfl) Aa
theorem Ajf(v:Value)(xs:List Bx)(m:Nat)(b:Bool)(hm:m<xs.length)(F5:∀j,j<xs.length->(xs.getD j default).wf):Aw AG 193 [JI v (m*8+6),.bool b] [@row Bx ML 67 v xs] [] (fun(_:Unit) u=>u=.bool (decide ((xs.getD m default).DO=0))) (fun _ _=>[@row Bx ML 67 v (if(xs.getD m default).DO=0 then xs.set m {xs.getD m default with DO:=(if b=true then 1 else 2)}else xs)]) (fun _ _=>[]):=by
 refine Aw.proof Tryz.func193 G 14 G G fun X w=>?_;have FG:0<xs.length:=AMT;refine AF 1 G<|Am<|Ae<|An G G<|Kr 0 G G AMT G<|NR (s:=Kx) 0 m 6 (fun _=>.int .i64 (xs.getD m default).DO) G G JP (fun _=>G) (A2 G) G fun Y8 OD=>U 1 G<|Ac<|Fa G (fun D2=>?_) (fun D2=>?_)
 ·
  have Ab:(if(xs.getD m default).DO=0 then xs.set m {xs.getD m default with DO:=(if b=true then 1 else 2)}else xs)=xs:=AA9 D2;exact AF 1 G<|BA<|Bq () G G (by rw[ABM D2]) (by rw[Ab]) Aa
 have HZ:(xs.getD m default).DO=0:=D2;have Oi:=F5 m hm;refine AZ<|Ae<|An G G<|Kr 0 G G AMT G<|Sz (s:=Kx) 0 m 6 () (ov':=({(xs.getD m default)with DO:=2}:Bx)) G G G G JP (ABy G) (fun _=>G) Aa (lC Oi ⟨ARp,ARp⟩) (A2 G)<|Ac<|Am<|Ae<|An G G<|Ac<|BN G (fun Ct=>?_) (fun Ct=>?_)
 · exact rg<|An G G<|Kr 0 G G (by simp only[ABj];omega) G<|Sz (s:=Kx) 0 m 6 () (ov':=({((xs.set m ({(xs.getD m default)with DO:=2}:Bx)).getD m default)with DO:=1}:Bx)) G G G G (Ly (d:=default) (by simp only[ABj];omega)) (ABy G) (fun _=>G) Aa (by rw[Ia hm];exact lC Oi ⟨ARp,ARp⟩) (A2 G)<|Ac<|AF 1 G<|rt<|Bq () G G (by rw[ABG HZ]) (by rw[AA_ HZ,AA_ Ct,Ia hm,ABL (l:=xs)];rfl) Aa
 exact AZ<|AF 1 G<|rt<|Bq () G G (by rw[ABG HZ]) (by rw[AA_ HZ,AA9 (by rw[Ct];decide)];rfl) Aa
theorem lD(CP:Value)(l:List Bx)(c q:Int)(m b:Bool)(Z:List Bx×Bool×Int)(AW:Jk l c q m b=Z)(BK:A' c)(Ed:A' q):Aw AG 126 [CP,.int .i64 c,.int .i64 q,.bool m,.bool b] [] [⟨CP,l⟩] (fun(y:Value) u=>u=.tuple #[y,.bool Z.2.1,.int .i64 Z.2.2]) (fun _ _=>[]) (fun y _=>[⟨y,Z.1⟩]):=by
 refine Aw.proof Tryz.func126 G 70 G G fun X w=>?_;obtain⟨K9,K_⟩:=id BK;obtain⟨LD,LF⟩:=id Ed;refine DJ (α:=Bx) ?_;refine HP (q:=∀x∈l,x.wf) (fun S w h=>O7 (s:=Kx) (h _ (AA' (i:=1) G))) fun F5=>?_;have Yj:∀j,j<l.length->(l.getD j default).wf:=fun j Ay=>F5 _ (Hl Ay);refine AF 3 G<|Ae<|U 3 G<|B0 (ie _ _ c q BK Ed) (Ar G) G (Ad 1 G Aa) G<|An G G<|U 4 G<|Ac<|Am<|AF 2 G<|Fa G (fun JR=>?_) (fun JR=>?_)
 ·
  have AB:(([],false,(F1 l c q).2):List Bx×Bool×Int)=Z:=(by rw[<-AW,Jk,AA_ (by simpa using JR)]);subst AB;exact AF 4 G<|BA<|IB AI G G G G G G (Ad 0 G Aa)
 have Rq:¬¬(F1 l c q).2=0:=by simpa using JR
 obtain⟨B6,PA,FF,LH⟩:=Awi (by simpa using JR);have Ko:(F1 l c q).1.toNat=B6:=by rw[PA];rfl
 have jh:=V0 LH;rw[PA];refine AZ<|Ae<|An G G<|Dm (dL _ _ AMT) (Ar G) G (Ad 1 G Aa) G fun _ MR _=>U 1 G<|Ac<|Ae<|U 2 G<|IF 0 (B6) G G G Ox AMT AMT G<|U 1 G<|Ac<|Ae<|An G G<|Kr 0 G G AMT G<|K3 0 G G AMT (BR G) G<|U 1 G<|Ac<|Am<|Ae<|An G G<|Ac<|BN G (fun K6=>?_) (fun K6=>?_)
 ·
  refine rg<|An G G<|Kr 0 G G AMT G<|K3 0 G G AMT (BR G) G<|U 1 G<|Ac<|Am<|Am ?_;rcases Decidable.em ((l.getD B6 default).C3=0)with Rf|Rf
  ·
   refine rg<|An G G<|Kr 0 G G AMT G<|K3 0 G G AMT (BR G) G<|NR (s:=Kx) 0 (B6) 7 (fun _=>.int .i64 (l.getD (B6) default).C3) G G JP (fun _=>G) (A2 G) G fun kZ gD=>U 1 G ?_;rw[show(!decide ((l.getD B6 default).C3=0))=false from by rw[ABG Rf];rfl];refine U 3 G<|Bl G G G<|Ch 0 (Aje MR l B6 b FF Yj) (Ar G) G G Aa G fun _ Akq hU=>?_;subst hU;refine U 2 G<|Ac<|BN G (fun Ra=>?_) (fun Ra=>?_)
   ·
    have Rs:¬(l.getD B6 default).DN=0:=(by simpa using Ra);have AB:((l,false,0):List Bx×Bool×Int)=Z:=(by rw[<-AW,fY Rq Ko FF (.inr (by rw[AA_ K6];exact Rs))]);subst AB;rw[AA9 Rs];exact AF 4 G<|BA<|K5<|IB MR G G G G (G) G (Ad 0 G Aa)
   have Rs:(l.getD B6 default).DN=0:=(by simpa using Ra);have AB:((l.set B6 ({({(l.getD B6 default)with DN:=(if b=true then 1 else 2)}:Bx)with C3:=JN ({(l.getD B6 default)with DN:=(if b=true then 1 else 2)}:Bx).DN ({(l.getD B6 default)with DN:=(if b=true then 1 else 2)}:Bx).DO}:Bx),!decide (JN ({(l.getD B6 default)with DN:=(if b=true then 1 else 2)}:Bx).DN ({(l.getD B6 default)with DN:=(if b=true then 1 else 2)}:Bx).DO=0),0):List Bx×Bool×Int)=Z:=(by rw[<-AW,s8 Rq Ko (by rw[AA_ K6];exact Rs) Rf (E:=({(l.getD B6 default)with DN:=(if b=true then 1 else 2)}:Bx)) (by rw[AA_ K6])]);subst AB;rw[AA_ Rs];refine AZ<|Am<|Ow 12 mixed ARs<|U 2 G<|Kr 0 G G (by simp only[ABj];omega) G<|K3 0 G G (by simp only[ABj];omega) (BR G) G<|NR (s:=Kx) 0 (B6) 5 (fun _=>.int .i64 ((l.set B6 ({(l.getD B6 default)with DN:=(if b=true then 1 else 2)}:Bx)).getD (B6) default).DN) G G (Ly (d:=default) (by simp only[ABj];omega)) (fun _=>G) (A2 G) G fun AhP mx=>An G G<|Kr 0 G G (by simp only[ABj];omega) G<|K3 0 G G (by simp only[ABj];omega) (BR G) G<|NR (s:=Kx) 0 (B6) 6 (fun _=>.int .i64 ((l.set B6 ({(l.getD B6 default)with DN:=(if b=true then 1 else 2)}:Bx)).getD (B6) default).DO) G G (Ly (d:=default) (by simp only[ABj];omega)) (fun _=>G) (A2 G) G fun AhQ AkV=>HD (h' _ _ (by rw[Ia FF];exact gk) (by rw[Ia FF];exact(Yj _ FF).2.2.2.2.2.2.1)) (Ar G) G Aa G<|Kr 0 G G (by simp only[ABj];omega) G<|K3 0 G G (by simp only[ABj];omega) (BR G) G<|Oq<|Sz (s:=Kx) 0 (B6) 7 () (ov':=({((l.set B6 ({(l.getD B6 default)with DN:=(if b=true then 1 else 2)}:Bx)).getD (B6) default)with C3:=(JN ((l.set B6 ({(l.getD B6 default)with DN:=(if b=true then 1 else 2)}:Bx)).getD B6 default).DN ((l.set B6 ({(l.getD B6 default)with DN:=(if b=true then 1 else 2)}:Bx)).getD B6 default).DO)}:Bx)) G G G G (Ly (d:=default) (by simp only[ABj];omega)) (ABy G) (fun _=>G) Aa (ia (by rw[Ia FF];exact lB (Yj _ FF) gk) (oQ _ _)) (A2 G)<|Ac<|Am ?_;have Hm:((l.set B6 ({(l.getD B6 default)with DN:=(if b=true then 1 else 2)}:Bx)).set B6 {(l.set B6 ({(l.getD B6 default)with DN:=(if b=true then 1 else 2)}:Bx)).getD B6 default with C3:=(JN ((l.set B6 ({(l.getD B6 default)with DN:=(if b=true then 1 else 2)}:Bx)).getD B6 default).DN ((l.set B6 ({(l.getD B6 default)with DN:=(if b=true then 1 else 2)}:Bx)).getD B6 default).DO)})=l.set B6 ({({(l.getD B6 default)with DN:=(if b=true then 1 else 2)}:Bx)with C3:=JN ({(l.getD B6 default)with DN:=(if b=true then 1 else 2)}:Bx).DN ({(l.getD B6 default)with DN:=(if b=true then 1 else 2)}:Bx).DO}:Bx):=(by rw[Ia FF,ABL]);rw[Hm];exact Gx mixed ARs<|U 2 G<|Kr 0 G G (by simp only[ABj];omega) G<|K3 0 G G (by simp only[ABj];omega) (BR G) G<|NR (s:=Kx) 0 (B6) 7 (fun _=>.int .i64 ((l.set B6 ({({(l.getD B6 default)with DN:=(if b=true then 1 else 2)}:Bx)with C3:=JN ({(l.getD B6 default)with DN:=(if b=true then 1 else 2)}:Bx).DN ({(l.getD B6 default)with DN:=(if b=true then 1 else 2)}:Bx).DO}:Bx)).getD (B6) default).C3) G G (Ly (d:=default) (by simp only[ABj];omega)) (fun _=>G) (A2 G) G fun AhR AkW=>U 4 G<|Gj<|A5<|rt<|K5<|IB MR G G G G (by rw[Ia FF]) G (Ad 0 G Aa)
  refine rg<|An G G<|Kr 0 G G AMT G<|K3 0 G G AMT (BR G) G<|NR (s:=Kx) 0 (B6) 7 (fun _=>.int .i64 (l.getD (B6) default).C3) G G JP (fun _=>G) (A2 G) G fun kZ gD=>U 1 G ?_;rw[show(!decide ((l.getD B6 default).C3=0))=true from by rw[ABM Rf];rfl];refine An G G<|G2 G G G G G<|G2 G G G G G<|G2 G G G G G<|G2 G G G G G<|U 1 G<|Ac<|Mv G<|Ae ?_;have AB:((l,false,0):List Bx×Bool×Int)=Z:=(by rw[<-AW,fY Rq Ko FF (.inl Rf)]);subst AB;exact U 4 G<|Ac<|BA<|K5<|IB MR G G G G (G) G (Ad 0 G Aa)
 refine AZ<|Am<|Am ?_;rcases Decidable.em ((l.getD B6 default).C3=0)with Rf|Rf
 ·
  refine rg<|An G G<|Kr 0 G G AMT G<|K3 0 G G AMT (BR G) G<|NR (s:=Kx) 0 (B6) 7 (fun _=>.int .i64 (l.getD (B6) default).C3) G G JP (fun _=>G) (A2 G) G fun kZ gD=>U 1 G ?_;rw[show(!decide ((l.getD B6 default).C3=0))=false from by rw[ABG Rf];rfl];refine U 3 G<|Bl G G G<|Ch 0 (Ajf MR l B6 b FF Yj) (Ar G) G G Aa G fun _ Akq hU=>?_;subst hU;refine U 2 G<|Ac<|BN G (fun Ra=>?_) (fun Ra=>?_)
  ·
   have Rs:¬(l.getD B6 default).DO=0:=(by simpa using Ra);have AB:((l,false,0):List Bx×Bool×Int)=Z:=(by rw[<-AW,fY Rq Ko FF (.inr (by rw[AA9 (by rw[K6];decide)];exact Rs))]);subst AB;rw[AA9 Rs];exact AF 4 G<|BA<|K5<|IB MR G G G G (G) G (Ad 0 G Aa)
  have Rs:(l.getD B6 default).DO=0:=(by simpa using Ra);have AB:((l.set B6 ({({(l.getD B6 default)with DO:=(if b=true then 1 else 2)}:Bx)with C3:=JN ({(l.getD B6 default)with DO:=(if b=true then 1 else 2)}:Bx).DN ({(l.getD B6 default)with DO:=(if b=true then 1 else 2)}:Bx).DO}:Bx),!decide (JN ({(l.getD B6 default)with DO:=(if b=true then 1 else 2)}:Bx).DN ({(l.getD B6 default)with DO:=(if b=true then 1 else 2)}:Bx).DO=0),0):List Bx×Bool×Int)=Z:=(by rw[<-AW,s8 Rq Ko (by rw[AA9 (by rw[K6];decide)];exact Rs) Rf (E:=({(l.getD B6 default)with DO:=(if b=true then 1 else 2)}:Bx)) (by rw[AA9 (by rw[K6];decide)])]);subst AB;rw[AA_ Rs];refine AZ<|Am<|Ow 12 mixed ARs<|U 2 G<|Kr 0 G G (by simp only[ABj];omega) G<|K3 0 G G (by simp only[ABj];omega) (BR G) G<|NR (s:=Kx) 0 (B6) 5 (fun _=>.int .i64 ((l.set B6 ({(l.getD B6 default)with DO:=(if b=true then 1 else 2)}:Bx)).getD (B6) default).DN) G G (Ly (d:=default) (by simp only[ABj];omega)) (fun _=>G) (A2 G) G fun AhP mx=>An G G<|Kr 0 G G (by simp only[ABj];omega) G<|K3 0 G G (by simp only[ABj];omega) (BR G) G<|NR (s:=Kx) 0 (B6) 6 (fun _=>.int .i64 ((l.set B6 ({(l.getD B6 default)with DO:=(if b=true then 1 else 2)}:Bx)).getD (B6) default).DO) G G (Ly (d:=default) (by simp only[ABj];omega)) (fun _=>G) (A2 G) G fun AhQ AkV=>HD (h' _ _ (by rw[Ia FF];exact(Yj _ FF).2.2.2.2.2.1) (by rw[Ia FF];exact gk)) (Ar G) G Aa G<|Kr 0 G G (by simp only[ABj];omega) G<|K3 0 G G (by simp only[ABj];omega) (BR G) G<|Oq<|Sz (s:=Kx) 0 (B6) 7 () (ov':=({((l.set B6 ({(l.getD B6 default)with DO:=(if b=true then 1 else 2)}:Bx)).getD (B6) default)with C3:=(JN ((l.set B6 ({(l.getD B6 default)with DO:=(if b=true then 1 else 2)}:Bx)).getD B6 default).DN ((l.set B6 ({(l.getD B6 default)with DO:=(if b=true then 1 else 2)}:Bx)).getD B6 default).DO)}:Bx)) G G G G (Ly (d:=default) (by simp only[ABj];omega)) (ABy G) (fun _=>G) Aa (ia (by rw[Ia FF];exact lC (Yj _ FF) gk) (oQ _ _)) (A2 G)<|Ac<|Am ?_;have Hm:((l.set B6 ({(l.getD B6 default)with DO:=(if b=true then 1 else 2)}:Bx)).set B6 {(l.set B6 ({(l.getD B6 default)with DO:=(if b=true then 1 else 2)}:Bx)).getD B6 default with C3:=(JN ((l.set B6 ({(l.getD B6 default)with DO:=(if b=true then 1 else 2)}:Bx)).getD B6 default).DN ((l.set B6 ({(l.getD B6 default)with DO:=(if b=true then 1 else 2)}:Bx)).getD B6 default).DO)})=l.set B6 ({({(l.getD B6 default)with DO:=(if b=true then 1 else 2)}:Bx)with C3:=JN ({(l.getD B6 default)with DO:=(if b=true then 1 else 2)}:Bx).DN ({(l.getD B6 default)with DO:=(if b=true then 1 else 2)}:Bx).DO}:Bx):=(by rw[Ia FF,ABL]);rw[Hm];exact Gx mixed ARs<|U 2 G<|Kr 0 G G (by simp only[ABj];omega) G<|K3 0 G G (by simp only[ABj];omega) (BR G) G<|NR (s:=Kx) 0 (B6) 7 (fun _=>.int .i64 ((l.set B6 ({({(l.getD B6 default)with DO:=(if b=true then 1 else 2)}:Bx)with C3:=JN ({(l.getD B6 default)with DO:=(if b=true then 1 else 2)}:Bx).DN ({(l.getD B6 default)with DO:=(if b=true then 1 else 2)}:Bx).DO}:Bx)).getD (B6) default).C3) G G (Ly (d:=default) (by simp only[ABj];omega)) (fun _=>G) (A2 G) G fun AhR AkW=>U 4 G<|Gj<|A5<|rt<|K5<|IB MR G G G G (by rw[Ia FF]) G (Ad 0 G Aa)
 refine rg<|An G G<|Kr 0 G G AMT G<|K3 0 G G AMT (BR G) G<|NR (s:=Kx) 0 (B6) 7 (fun _=>.int .i64 (l.getD (B6) default).C3) G G JP (fun _=>G) (A2 G) G fun kZ gD=>U 1 G ?_;rw[show(!decide ((l.getD B6 default).C3=0))=true from by rw[ABM Rf];rfl];refine An G G<|G2 G G G G G<|G2 G G G G G<|G2 G G G G G<|G2 G G G G G<|U 1 G<|Ac<|Mv G<|Ae ?_;have AB:((l,false,0):List Bx×Bool×Int)=Z:=by rw[<-AW,fY Rq Ko FF (.inl Rf)]
 subst AB;exact U 4 G<|Ac<|BA<|K5<|IB MR G G G G (G) G (Ad 0 G Aa)
variable(CP:Value) (l:List Df) (c q:Int)
theorem oG:V6 l c=H_ l c:=rfl
theorem Ayk:H_ l c<=l.length:=by
 unfold H_;cases e:Gd l.length (fun j=>decide ((l.getD j default).Ap>=c))with
 |none=>exact ABW _
 |some j=>exact Nat.le_of_lt (Q4 e)
theorem qt:U8 l c=Sj l c:=by
 unfold U8 Sj H_ X';cases e:Gd l.length (fun j=>decide ((l.getD j default).Ap>=c))with
 |none=>simp
 |some j=>simp[Q4 e]
theorem AcR{l:List Df}{c:Int}(h:Sj l c=true):H_ l c<l.length:=by
 unfold Sj at h;simp only[ABb,ABa]at h;exact h.1
theorem fy:kP l c q=fx l c q:=by
 unfold kP fx;rw[qt,oG,aA]
theorem Ajo{e:Df}(h:e.wf){q:Int}(B':A' q):({e with As:=max e.As q}:Df).wf:=⟨h.1,by
 obtain⟨Af,h2⟩:=h.2;obtain⟨Hj,G1⟩:=B';show A' (max e.As q);exact⟨AMT,AMT⟩⟩
theorem sE(Z:List Df×Int)(AW:Kv l c q=Z)(BK:A' c)(Ed:A' q):Aw AG 195 [CP,.int .i64 c,.int .i64 q] [] [⟨CP,l⟩] (fun(y:Value) u=>u=.tuple #[y,.int .i64 Z.2]) (fun _ _=>[]) (fun y _=>[⟨y,Z.1⟩]):=by
 refine Aw.proof Tryz.func195 G 47 G G fun X w=>?_;obtain⟨K9,K_⟩:=id BK;obtain⟨LD,LF⟩:=id Ed;refine DJ (α:=Df) ?_;refine HP (q:=∀x∈l,x.wf) (fun S w h=>O7 (s:=Ze) (h _ (AA' (i:=1) G))) fun F5=>AF 2 G<|Am<|Ae<|An G G<|B0 (X2 _ _) (Ar G) G (Ad 1 G Aa) G<|U 1 G<|Ac<|Fa G (fun Dp=>?_) (fun Dp=>?_)
 ·
  have HJ:HE l=false:=(by first|exact Dp|exact BS.1 Dp|exact(fun q=>BS.2 q Dp)|exact(fun q=>ABd (Dp.symm.trans q))|simpa using Dp)
  have AB:(([],21):List Df×Int)=Z:=(by rw[<-AW,Kv,AA_ HJ]);subst AB;exact AF 2 G<|BA<|Fl AI G G G G G (Ad 0 G Aa)
 have HJ:¬(HE l=false):=(by first|exact Dp|exact BS.1 Dp|exact(fun q=>BS.2 q Dp)|exact(fun q=>ABd (Dp.symm.trans q))|simpa using Dp)
 have py:=ed (by simpa using HJ);refine AZ<|Am<|Ae<|U 2 G<|B0 (hS _ _ BK Ed) (Ar G) G Aa G<|IH G G<|Ac<|BN G (fun DA=>?_) (fun DA=>?_)
 ·
  have O_:Jj c q=false:=(by first|exact DA|exact BS.1 DA|exact(fun q=>BS.2 q DA)|exact(fun q=>ABd (DA.symm.trans q))|simpa using DA)
  have AB:(([],1):List Df×Int)=Z:=(by rw[<-AW,Kv,AA9 HJ,AA_ O_]);subst AB;exact AF 2 G<|BA<|Fl AI G G G G G (Ad 0 G Aa)
 have O_:¬(Jj c q=false):=(by first|exact DA|exact BS.1 DA|exact(fun q=>BS.2 q DA)|exact(fun q=>ABd (DA.symm.trans q))|simpa using DA)
 refine AZ<|Ae<|An G G<|Dm (x6 _ _ AMT) (Ar G) G (Ad 1 G Aa) G fun _ KC _=>U 1 G<|Ac<|Ae<|U 2 G<|P6 [⟨KC,l⟩] (oE KC l c BK) (Ar G) G (DU.row 0 G DU.nil) (Ad 0 G Aa) G ?_;rw[qt,oG];refine U 5 G<|Ac<|Am<|AF 2 G<|BN G (fun G4=>?_) (fun G4=>?_)
 ·
  have NX:Sj l c=false:=(by first|exact G4|exact BS.1 G4|exact(fun q=>BS.2 q G4)|exact(fun q=>ABd (G4.symm.trans q))|simpa using G4)
  have AB:((FO (H_ l c) ⟨c,q⟩ l,0):List Df×Int)=Z:=(by rw[<-AW,Kv,AA9 HJ,AA9 O_,AA_ NX]);subst AB;exact Ae<|U 4 G<|Db (ps:=[(0,.tmp 30),(1,.tmp 31)]) (cs:=(QT ((⟨c,q⟩:Df)))) ARz ARs G<|Lw G RM G G G G fun nv=>D9 1 G<|Hs 2 (AcJ KC l (H_ l c) nv ⟨c,q⟩ (Ayk _ _) ⟨BK,Ed⟩ AMT) (Ar G) G G Aa G fun _ Xm _=>U 2 G<|Ac<|BA<|K5<|Fl Xm G G G G G (Ad 0 G Aa)
 have NX:¬(Sj l c=false):=(by first|exact G4|exact BS.1 G4|exact(fun q=>BS.2 q G4)|exact(fun q=>ABd (G4.symm.trans q))|simpa using G4)
 have AB:((l.set (H_ l c) {l.getD (H_ l c) default with As:=max (l.getD (H_ l c) default).As q},0):List Df×Int)=Z:=by rw[<-AW,Kv,AA9 HJ,AA9 O_,AA9 NX]
 subst AB;have C_:=AcR (by simpa using NX);exact AZ<|Ae<|U 4 G<|IF 0 (H_ l c) G G G Ky AMT AMT G<|K3 0 G G AMT (BR G) G<|NR (s:=Ze) 0 (H_ l c) 1 (fun _=>.int .i64 (l.getD (H_ l c) default).As) G G JP (fun _=>G) (A2 G) G fun Aop Ao7=>An G G<|ka G G G G<|IF 0 (H_ l c) G G G Ky AMT AMT G<|K3 0 G G AMT (BR G) G<|Sz (s:=Ze) 0 (H_ l c) 1 () (ov':=({(l.getD (H_ l c) default)with As:=(max (l.getD (H_ l c) default).As q)}:Df)) G G G G JP (ABy G) (fun _=>G) Aa (Ajo (F5 _ (Hl C_)) Ed) (A2 G)<|Ac<|AF 3 G<|rt<|K5<|Fl KC G G G G G (Ad 0 G Aa)
theorem Ac0(PU:Value)(b:List Df)(Z:List Df×Int)(AW:Ok l b=Z):Aw AG 138 [CP,PU] [] [⟨CP,l⟩,⟨PU,b⟩] (fun(y:Value) u=>u=.tuple #[y,.int .i64 Z.2]) (fun _ _=>[]) (fun y _=>[⟨y,Z.1⟩]):=by
 refine Aw.proof Tryz.func138 G 36 G G fun X w=>DJ (α:=Df) ?_;refine AF 2 G<|Am<|Ae<|An G G<|B0 (X2 _ _) (Ar G) G (Ad 1 G Aa) G<|U 2 G ?_;refine DE 12 4 [0,1] G G (fun EM ZG=>by
  have r1:=EM;simp only[ABI,ABa]at r1;exact U 1 G<|Bl G G G<|B0 (X2 _ _) (Ar G) G (Ad 2 G Aa) G<|U 2 G<|ZG G Br) ?_
 refine Ac<|BN G (fun CR=>?_) (fun CR=>?_)
 ·
  have Ii:(HE l&&HE b)=false:=(by first|exact qB CR|exact CR|exact BS.1 CR|exact(fun q=>BS.2 q CR)|exact(fun q=>ABd (CR.symm.trans q))|simpa using CR)
  have AB:(([],21):List Df×Int)=Z:=(by rw[<-AW,Ok,AA_ Ii]);subst AB;exact AF 2 G<|BA<|Fl AI G G G G G (Ad 0 G Aa)
 have Ii:¬((HE l&&HE b)=false):=(by first|exact qC CR|exact CR|exact BS.1 CR|exact(fun q=>BS.2 q CR)|exact(fun q=>ABd (CR.symm.trans q))|simpa using CR)
 have OY:HE l=true/\HE b=true:=by simpa using Ii
 have AbS:=ed OY.1;have Abv:=ed OY.2;refine AZ<|Ae<|An G G<|Dm (hJ _ _ AMT) (Ar G) G (Ad 1 G Aa) G fun _ Zq _=>U 1 G<|Ac<|Am<|Ae<|An G G<|C2 3 G G ARR G fun U_=>An G G<|Ac<|B5<|Hx (σ:=Nat×Value) [(19,_),(20,_)] _ (fun s C=>(21,.int .i64 (s.1:Int))::(6,s.2)::C) (fun s=>[CL X w]) (fun s Dw=>(⟨s.2,(b.take s.1).foldl (fun out x=>(Kv out x.Ap x.As).1) l⟩:Atom)::Dw) (fun s=>s.1<=b.length) (fun s=>b.length-s.1) (0,Zq) (Bs G) (Ad 2 G (Ad 3 G (Ad 1 G Aa))) (ABg _) (Bs G) G (Ad 0 G (Ad 2 G (Ad 3 G (Ad 1 G Aa)))) ?_;rintro⟨i,ov⟩ Ag;simp only at Ag;refine AF 1 G<|Am<|B9 G (fun JQ=>?_) (fun JQ=>?_)
 ·
  refine AZ<|Am<|B5<|Ae<|Fo 2 G G G Ky G fun Pe=>Gi 0 G G (At G) G fun MJ PW=>?_;refine CT de G fun K0=>BZ 0 (us:=(QT ((b.getD i default)))) G G G (At G) G G<|Ac<|rg<|AX 5 [0,0] G G<|Dm (sE _ _ (b.getD i default).Ap (b.getD i default).As (Kv ((b.take i).foldl (fun out x=>(Kv out x.Ap x.As).1) l) (b.getD i default).Ap (b.getD i default).As) G PW.1 PW.2) (Ar G) G (Ad 2 G Aa) G fun Vw L5 ES=>?_;subst ES;refine U 4 G<|nl<|CU<|A5<|rg<|C5 G G BV G<|An G G<|nl<|AQ ?_;have a2:(b.take (i+1)).foldl (fun out x=>(Kv out x.Ap x.As).1) l=(Kv ((b.take i).foldl (fun out x=>(Kv out x.Ap x.As).1) l) (b.getD i default).Ap (b.getD i default).As).1:=NH AMT;exact Dy ((i+1,Vw):Nat×Value) (by show i+1<=_;omega) (by show b.length-(i+1)<b.length-i;omega) (Bs G) G (by show Bg ((⟨Vw,(b.take (i+1)).foldl (fun out x=>(Kv out x.Ap x.As).1) l⟩:Atom)::_) _;rw[a2];exact(Bg.cons 0 rfl (Bg.cons 4 rfl (Bg.cons 5 rfl (Bg.cons 6 rfl Bg.nil)))))
 obtain rfl:i=b.length:=AMT;rw[ACB];have AB:((b.foldl (fun out x=>(Kv out x.Ap x.As).1) l,0):List Df×Int)=Z:=by rw[<-AW,Ok,AA9 Ii]
 subst AB;exact ex<|Ck<|Ck<|D7<|A5<|AF 3 G<|rt<|Fl ov G G G G G (Ad 0 G Aa)
section
@[reducible] def Xz(b:Nat)(W:Ah)(AS A1 AY A9 Ba Bd Bp Bi:Value):Go.A_.Own:=[AO b 118 (FB W AS A1 AY A9 Ba Bd Bp Bi),@row AD GR 58 AS W.S.Aj,@row BX Ha 108 AY W.S.AA,@row FE Nk 97 Bp W.EF,@row JE TQ 156 Bi W.BQ]
@[reducible] def Xy(W:Ah)(_ A1 _ A9 Ba Bd _ _:Value):List Atom:=[⟨A1,W.S.Bz⟩,⟨A9,W.S.Bj⟩,⟨Ba,W.S.CX⟩,⟨Bd,W.S.Cf⟩]
@[reducible] def DS(b:Nat)(nd:List Nat)(W:Ah):C4:=RW (σ:=Value×Value×Value×Value×Value×Value×Value×Value) nd (fun h=>Xz b W h.1 h.2.1 h.2.2.1 h.2.2.2.1 h.2.2.2.2.1 h.2.2.2.2.2.1 h.2.2.2.2.2.2.1 h.2.2.2.2.2.2.2) (fun h=>Xy W h.1 h.2.1 h.2.2.1 h.2.2.2.1 h.2.2.2.2.1 h.2.2.2.2.2.1 h.2.2.2.2.2.2.1 h.2.2.2.2.2.2.2) (fun _=>W.wf)
section
variable{c:Cj} {ops:Array Oper} {Q:AuE} {env:Env} {L:Go.A_.Own} {D:List Atom} {b:Nat} {nd:List Nat}
theorem mz(W:Ah)(AS A1 AY A9 Ba Bd Bp Bi:Value){L0:Go.A_.Own}{l:List Oper}(Dv:L0=AO b 118 (FB W AS A1 AY A9 Ba Bd Bp Bi)::@row AD GR 58 AS W.S.Aj::@row BX Ha 108 AY W.S.AA::@row FE Nk 97 Bp W.EF::@row JE TQ 156 Bi W.BQ::L)(AU:W.wf)(DK:Bg (Xy W AS A1 AY A9 Ba Bd Bp Bi) D)(k:∀nd,Cb Q c ops l env (DS b nd W::L) (D)):Cb Q c ops l env (L0) (D):=
 xV (LL:=fun h:Value×Value×Value×Value×Value×Value×Value×Value=>Xz b W h.1 h.2.1 h.2.2.1 h.2.2.2.1 h.2.2.2.2.1 h.2.2.2.2.2.1 h.2.2.2.2.2.2.1 h.2.2.2.2.2.2.2) (DD:=fun h=>Xy W h.1 h.2.1 h.2.2.1 h.2.2.2.1 h.2.2.2.2.1 h.2.2.2.2.2.1 h.2.2.2.2.2.2.1 h.2.2.2.2.2.2.2) (I:=fun _=>W.wf) [] L (AS,A1,AY,A9,Ba,Bd,Bp,Bi) Dv AU DK (k _)
theorem Gu{W:Ah}{x:Code}(k:∀AS A1 AY A9 Ba Bd Bp Bi,W.wf->CF c x Q env (AO b 118 (FB W AS A1 AY A9 Ba Bd Bp Bi)::@row AD GR 58 AS W.S.Aj::@row BX Ha 108 AY W.S.AA::@row FE Nk 97 Bp W.EF::@row JE TQ 156 Bi W.BQ::L) (⟨A1,W.S.Bz⟩::⟨A9,W.S.Bj⟩::⟨Ba,W.S.CX⟩::⟨Bd,W.S.Cf⟩::D)):CF c x Q env (DS b nd W::L) (D):=
 rN 0 rfl fun⟨AS,A1,AY,A9,Ba,Bd,Bp,Bi⟩ h=>k AS A1 AY A9 Ba Bd Bp Bi h
theorem Ho(W:Ah)(AS A1 AY A9 Ba Bd Bp Bi:Value){L0:Go.A_.Own}{x:Code}(Dv:L0=AO b 118 (FB W AS A1 AY A9 Ba Bd Bp Bi)::@row AD GR 58 AS W.S.Aj::@row BX Ha 108 AY W.S.AA::@row FE Nk 97 Bp W.EF::@row JE TQ 156 Bi W.BQ::L)(AU:W.wf)(DK:Bg (Xy W AS A1 AY A9 Ba Bd Bp Bi) D)(k:∀nd,CF c x Q env (DS b nd W::L) (D)):CF c x Q env (L0) (D):=
 nO (LL:=fun h:Value×Value×Value×Value×Value×Value×Value×Value=>Xz b W h.1 h.2.1 h.2.2.1 h.2.2.2.1 h.2.2.2.2.1 h.2.2.2.2.2.1 h.2.2.2.2.2.2.1 h.2.2.2.2.2.2.2) (DD:=fun h=>Xy W h.1 h.2.1 h.2.2.1 h.2.2.2.1 h.2.2.2.2.1 h.2.2.2.2.2.1 h.2.2.2.2.2.2.1 h.2.2.2.2.2.2.2) (I:=fun _=>W.wf) [] L (AS,A1,AY,A9,Ba,Bd,Bp,Bi) Dv AU DK (k _)
theorem Es(W:Ah)(AS A1 AY A9 Ba Bd Bp Bi:Value){L0:Go.A_.Own}{e:Exit}(Dv:L0=AO b 118 (FB W AS A1 AY A9 Ba Bd Bp Bi)::@row AD GR 58 AS W.S.Aj::@row BX Ha 108 AY W.S.AA::@row FE Nk 97 Bp W.EF::@row JE TQ 156 Bi W.BQ::L)(AU:W.wf)(DK:Bg (Xy W AS A1 AY A9 Ba Bd Bp Bi) D)(k:∀nd,Eg c Q e env (DS b nd W::L) (D)):Eg c Q e env (L0) (D):=
 nP (LL:=fun h:Value×Value×Value×Value×Value×Value×Value×Value=>Xz b W h.1 h.2.1 h.2.2.1 h.2.2.2.1 h.2.2.2.2.1 h.2.2.2.2.2.1 h.2.2.2.2.2.2.1 h.2.2.2.2.2.2.2) (DD:=fun h=>Xy W h.1 h.2.1 h.2.2.1 h.2.2.2.1 h.2.2.2.2.1 h.2.2.2.2.2.1 h.2.2.2.2.2.2.1 h.2.2.2.2.2.2.2) (I:=fun _=>W.wf) [] L (AS,A1,AY,A9,Ba,Bd,Bp,Bi) Dv AU DK (k _)
end
def Ah.B7(W:Ah):Nat:=W.EF.length+W.BQ.length
theorem cI{W:Ah}{n:Nat}(h:W.B7<=n):W.EF.length<=n:=by unfold Ah.B7 at h;omega
theorem tN{W:Ah}{n:Nat}(h:W.B7<=n):W.BQ.length<=n:=by unfold Ah.B7 at h;omega
theorem Xh(W:Ah)(k c q:Int)(a:De):(W.tell k c q a).B7=W.B7+1:=by
 simp only[Ah.B7,Ah.tell,ABP,ABv,ABo];omega
theorem sv(W:Ah)(a:AD):(W.put a).B7=W.B7:=rfl
theorem hR(W:Ah)(p:BX->Bool):(W.drop p).B7=W.B7:=rfl
theorem k3(W:Ah)(c q:Int):(W.raise c q).B7=W.B7:=by unfold Ah.raise;split<;>rfl
theorem X4(W:Ah)(c q:Int)(a:De):(W.done c q a).B7=W.B7+1:=by
 have h:=Xh W 1 c q a;unfold Ah.done;simp only;split
 · exact h
 exact h
theorem ta(W:Ah)(c q n:Int)(k:ByteArray)(a:De):(W.served c q n k a).B7<=W.B7+2:=by
 have h:=X4 W c q a;unfold Ah.served;simp only;split
 ·
  simp only[Ah.B7,ABP,ABv,ABo]at h ⊢;omega
 omega
theorem aw(W:Ah)(c q e:Int):(W.ends c q e).B7=W.B7+1:=by
 unfold Ah.ends;simp only;rw[k3,hR];exact X4 W c q (HN e)
theorem og(W:Ah)(c q:Int):(W.RR c q).B7=W.B7+1:=aw _ _ _ _
theorem o'(W:Ah)(c q:Int):(W.OR c q).B7<=W.B7+1:=by
 unfold Ah.OR;simp only;split
 ·
  rw[aw];exact ABW _
 omega
end
variable(b:Nat) (nd:List Nat)
theorem gv(W:Ah)(k c q:Int)(a:De)(Z:Ah)(AW:W.tell k c q a=Z)(_:Ce W.S)(Ge:W.B7<=1000)(R8:A' k)(BK:A' c)(Ed:A' q)(C6:a.wf):Aw AG 114 [ALM b 0,.int .i64 k,.int .i64 c,.int .i64 q,.agg (GM a).toArray] [DS b nd W] [] (fun(_:List Nat) _=>True) (fun y _=>[DS b y Z]) (fun _ _=>[]):=by
 refine Aw.proof Tryz.func114 G 24 G G fun X w=>?_;obtain⟨Aa9,Aa_⟩:=id R8;obtain⟨K9,K_⟩:=id BK;obtain⟨LD,LF⟩:=id Ed;refine Gu fun AS A1 AY A9 Ba Bd Bp Bi AU=>?_;refine Ae<|CV G G G fun H7=>Ac<|AuG [] [(1,[(14,.f1 11 fun BM=>[AO b 118 (FB W AS A1 AY A9 Ba Bd (BM 0) Bi)])]),(4,[(11,.f1 11 fun BM=>[@row FE Nk 97 (BM 0) (W.EF++[(⟨k,c,q,a⟩:FE)])])])] [(9,DF [] (.agg (VW ((⟨k,c,q,a⟩:FE))).toArray)),(10,Ff [] (fun A4=>some (A4 0)) fun A4=>[⟨(A4 0),[(⟨k,c,q,a⟩:FE)]⟩]),(11,Ol [4] fun A4=>some ((A4 0))),(14,DF [1,4] undef)] [(4,1),(8,0)] [] (fun _=>G) (fun _=>G) (fun Ai AV Az=>⟨fun _=>Db (ps:=[(0,.tmp 15),(1,.tmp 16),(2,.tmp 17),(3,.tmp 18)]) (cs:=(VW ((⟨k,c,q,a⟩:FE)))) ARz ARs G<|BU [] [] 0 G G,fun _=>Lw G ZV G G G G fun hp=>KJ (α:=FE) ⟨k,c,q,a⟩ (fun S w h=>⟨(),G,by simp,R8,BK,Ed,C6⟩)<|BU [_] [0] 1 G G,fun _=>?_,fun _=>IL 0 1 G G G G (A2 G) (Da G)<|BU [] [] 1 G G,trivial⟩) fun Ai _=>?_
 · exact ap 0 0 G G G G ZV (by have:=cI Ge;simp only[ABv,ABo];omega) (by have:=cI Ge;simp only[ABv,ABo];omega) G fun SB=>BU [SB] [] 1 G G
 generalize Ai 10 0=Vo,Ai 11 0=v11;have AB:(W.tell k c q a)=Z:=by exact AW
 subst AB;exact Au 5 G<|Au 5 G<|Au 5 G<|Au 5 G<|Au 5 G<|Es (W.tell k c q a) AS A1 AY A9 Ba Bd v11 Bi G AU (BE [1,2,3,4] G) fun BH=>Au 1 G<|AQ<|Dz BH G trivial G Aa
theorem ss(W:Ah)(a:AD)(Cw:Value)(Z:Ah)(AW:W.put a=Z)(hlen:W.S.Aj.length<=100000)(C6:a.wf):Aw AG 87 [ALM b 0,.agg (A3 a Cw).toArray] [DS b nd W] [⟨Cw,a.A0⟩] (fun(_:List Nat) _=>True) (fun y _=>[DS b y Z]) (fun _ _=>[]):=by
 refine Aw.proof Tryz.func87 G 39 G G fun X w=>Gu fun AS A1 AY A9 Ba Bd Bp Bi AU=>Ae<|CV G G G fun DQ=>Ac<|Am<|Gx mixed ARs<|AX 7 [1,0] G G<|dH [⟨AS,W.S.Aj⟩] (nn AS W.S.Aj a.Al hlen) (Ar G) G (DU.row 2 G DU.nil) (Ad 0 G Aa) G<|U 5 G<|Gj<|A5<|Am<|Ae<|An G G<|Ac<|BN G (fun DA=>?_) (fun DA=>?_)
 ·
  have C_:(Cz (fun x:AD=>x.Al) Ds a.Al W.S.Aj)<W.S.Aj.length:=YD (by rw[DA];decide);refine Am<|Ow 8 mixed ARs<|AX 6 [1] G G<|BJ 0 (A3 a Cw) G G (At G) G G<|IF 2 ((Cz (fun x:AD=>x.Al) Ds a.Al W.S.Aj)) G G G Gt AMT AMT G<|Oq<|Qz (s:=Nn) 2 ((Cz (fun x:AD=>x.Al) Ds a.Al W.S.Aj)) (ov:=a) Cw G G G AMT (At G) (Ad 4 G Aa) C6<|Ac<|BA ?_;have AB:{W with S:={W.S with Aj:=W.S.Aj.set (Cz (fun x:AD=>x.Al) Ds a.Al W.S.Aj) a}}=Z:=(by rw[<-AW,Ah.put,FQ,AA_ DA]);subst AB;exact Au 5 G<|Au 5 G<|Au 5 G<|Au 5 G<|Au 5 G<|Es {W with S:={W.S with Aj:=W.S.Aj.set (Cz (fun x:AD=>x.Al) Ds a.Al W.S.Aj) a}} AS A1 AY A9 Ba Bd Bp Bi G AU (BE [0,1,2,3] G) fun BH=>Au 1 G<|AQ<|Ej BH G trivial G Aa
 refine AZ<|AuG [[(8,.f1 8 fun BM=>[AO (FH (BM 0)) 58 (A3 a Cw)]),(9,.f1 9 fun _=>[])]] [(2,[(13,.f1 9 fun BM=>[AO b 118 (FB W (BM 0) A1 AY A9 Ba Bd Bp Bi)])]),(3,[(9,.f1 9 fun BM=>[@row AD GR 58 (BM 0) (FO (Cz (fun x:AD=>x.Al) Ds a.Al W.S.Aj) a W.S.Aj)])])] [(8,Ol [0] fun A4=>some (.slice (some ⟨(FH (A4 0)),0,none⟩) 1 1)),(9,Ol [0,3] fun A4=>some ((A4 0))),(13,DF [2,3] undef)] [(5,2),(7,1)] [] (fun _=>G) (fun _=>G) (fun Ai AV Az=>⟨fun _=>Lw G OI G G G G fun ZZ=>BU [ALM ZZ 0] [] 0 G G,fun _=>D9 1 G<|Hs 2 (qp AS W.S.Aj (Cz (fun x:AD=>x.Al) Ds a.Al W.S.Aj) _ a Cw (St _ _) C6 hlen) (Ar G) G G (Ad 4 G Aa) G fun _ Mo _=>BU [Mo] [] 0 G G,fun _=>IL 0 1 G G G G (A2 G) (Da G)<|BU [] [] 0 G G,trivial⟩) fun Ai _=>?_;generalize FH (Ai 8 0)=ZZ,Ai 9 0=Nr;have AB:{W with S:={W.S with Aj:=FO (Cz (fun x:AD=>x.Al) Ds a.Al W.S.Aj) a W.S.Aj}}=Z:=by rw[<-AW,Ah.put,FQ,AA9 (by rw[DA];decide)]
 subst AB;exact Au 5 G<|Au 5 G<|Au 5 G<|Au 5 G<|Au 5 G<|Es {W with S:={W.S with Aj:=FO (Cz (fun x:AD=>x.Al) Ds a.Al W.S.Aj) a W.S.Aj}} Nr A1 AY A9 Ba Bd Bp Bi G AU (BE [0,1,2,3] G) fun BH=>Au 1 G<|AQ<|Dz BH G trivial G Aa
theorem Vd(W:Ah)(a:AD)(Cw:Value)(Z:Ah)(AW:W.put a=Z)(BO:Ce W.S)(C6:a.wf):Aw AG 87 [ALM b 0,.agg (A3 a Cw).toArray] [DS b nd W] [⟨Cw,a.A0⟩] (fun(_:List Nat) _=>True) (fun y _=>[DS b y Z]) (fun _ _=>[]):=ss b nd W a Cw Z AW (ABB BO.len ARp) C6
theorem hN(W:Ah)(c q:Int)(a:De)(Z:Ah)(AW:W.done c q a=Z)(BO:Ce W.S)(Ge:W.B7<=990)(BK:A' c)(Ed:A' q)(C6:a.wf):Aw AG 120 [ALM b 0,.int .i64 c,.int .i64 q,.agg (GM a).toArray] [DS b nd W] [] (fun(_:List Nat) _=>True) (fun y _=>[DS b y Z]) (fun _ _=>[]):=by
 refine Aw.proof Tryz.func120 G 34 G G fun X w=>?_;obtain⟨K9,K_⟩:=id BK;obtain⟨LD,LF⟩:=id Ed;refine Ae<|CV G G G fun Jo=>Ac<|Ae<|U 3 G<|BJ 0 (GM a) G G (At G) G G ?_;obtain⟨Ax,CB⟩:∃V,W.tell 1 c q a=V:=⟨_,rfl⟩;refine Ch 1 (gv b _ W 1 c q a Ax CB BO AMT ⟨ARp,ARp⟩ BK Ed C6) (Ar G) G G Aa G fun HC _ _=>?_;have JB:CE W Ax:=CB▸cJ BO 1 c q a;have HR:=JB.ws;have JC:=Xh W 1 c q a;rw[CB]at JC;refine Ac<|Am<|B8 1 G<|Gu fun AS A1 AY A9 Ba Bd Bp Bi AU=>?_;refine AuG [] [] [(8,Ff [] (fun A4=>some (.tuple #[(A4 0),.int .i64 ((Oe Ax.S.Bz c q a).2)])) fun A4=>[⟨(A4 0),(Oe Ax.S.Bz c q a).1⟩])] [(4,0),(7,5)] [0,8,9] (fun _=>G) (fun _=>G) (fun Ai AV Az=>⟨fun _=>?_,trivial⟩) fun Ai _=>?_
 ·
  refine Dm (yX _ _ c q a (Oe Ax.S.Bz c q a) G BK Ed C6) (Ar G) G (Ad 0 G Aa) G fun mI Xl F3=>?_;subst F3;exact BU [mI] [0] 1 G G
 generalize Ai 8 0=mI;refine A5<|AF 2 G<|B9 G (fun R2=>?_) (fun R2=>?_)
 ·
  refine rg<|U 5 G<|J2 0 0 G G G G (A2 G) (Da G)<|nl ?_;have AB:{Ax with S:={Ax.S with Bz:=(Oe Ax.S.Bz c q a).1}}=Z:=(by rw[<-AW,Ah.done];simp only[CB];rw[AA_ R2]);subst AB;exact Es {Ax with S:={Ax.S with Bz:=(Oe Ax.S.Bz c q a).1}} AS mI AY A9 Ba Bd Bp Bi G AU (BE [0,2,3,4] G) fun BH=>Au 1 G<|AQ<|Dz BH G trivial G Aa
 refine EG ?_;have AB:Ax=Z:=by rw[<-AW,Ah.done];simp only[CB];rw[AA9 R2]
 subst AB;exact Es Ax AS A1 AY A9 Ba Bd Bp Bi G AU (BE [1,2,3,4] G) fun BH=>Au 1 G<|AQ<|Dz BH G trivial G Aa
theorem f_(W:Ah)(c q n:Int)(k:ByteArray)(a:De)(Z:Ah)(AW:W.served c q n k a=Z)(BO:Ce W.S)(Ge:W.B7<=980)(BK:A' c)(Ed:A' q)(MB:A' n)(R8:k.size<=9223372036854775807)(C6:a.wf):Aw AG 79 [ALM b 0,.int .i64 c,.int .i64 q,.int .i64 n,.string k,.agg (GM a).toArray] [DS b nd W] [] (fun(_:List Nat) _=>True) (fun y _=>[DS b y Z]) (fun _ _=>[]):=by
 refine Aw.proof Tryz.func79 G 32 G G fun X w=>?_;obtain⟨K9,K_⟩:=id BK;obtain⟨LD,LF⟩:=id Ed;obtain⟨Yk,Yl⟩:=id MB;refine Ae<|CV G G G fun XT=>Ac<|Ae<|U 3 G<|BJ 0 (GM a) G G (At G) G G ?_;obtain⟨Ax,CB⟩:∃V,W.done c q a=V:=⟨_,rfl⟩;refine Ch 1 (hN b _ W c q a Ax CB BO AMT BK Ed C6) (Ar G) G G Aa G fun HC _ _=>?_;have JB:CE W Ax:=CB▸X3 BO c q C6;have HR:=JB.ws;have JC:=X4 W c q a;rw[CB]at JC;refine Ac<|I5 3 [0] G G<|B9 G (fun Fe=>?_) (fun Fe=>?_)
 ·
  refine B8 1 G<|Gu fun AS A1 AY A9 Ba Bd Bp Bi AU=>?_;refine rg<|AX 7 [0] G G<|Db (ps:=[(0,.tmp 25),(1,.tmp 26)]) (cs:=(dK ((⟨n,k⟩:JE)))) ARz ARs G<|Lw G np G G G G fun Ame=>KJ (α:=JE) ⟨n,k⟩ (fun S w h=>⟨(),G,by simp,MB,R8⟩)<|ap 4 0 G G G G np (by have:=tN (ACo JC);simp only[ABv,ABo];omega) (by have:=tN (ACo JC);simp only[ABv,ABo];omega) G fun MR=>U 2 G<|IL 0 4 G G G G (A2 G) (Da G)<|nl ?_;have AB:{Ax with BQ:=Ax.BQ++[⟨n,k⟩]}=Z:=(by rw[<-AW,Ah.served];simp only[CB];rw[AA_ Fe]);subst AB;exact Es {Ax with BQ:=Ax.BQ++[⟨n,k⟩]} AS A1 AY A9 Ba Bd Bp MR G AU (BE [1,2,3,4] G) fun BH=>Au 1 G<|AQ<|Dz BH G trivial G Aa
 refine EG ?_;have AB:Ax=Z:=by rw[<-AW,Ah.served];simp only[CB];rw[AA9 Fe]
 subst AB;exact AQ<|Dz HC G trivial G Aa
theorem c8(W:Ah)(c q:Int)(Z:Ah)(AW:W.raise c q=Z)(_:Ce W.S)(BK:A' c)(Ed:A' q):Aw AG 131 [ALM b 0,.int .i64 c,.int .i64 q] [DS b nd W] [] (fun(_:List Nat) _=>True) (fun y _=>[DS b y Z]) (fun _ _=>[]):=by
 refine Aw.proof Tryz.func131 G 26 G G fun X w=>?_;obtain⟨K9,K_⟩:=id BK;obtain⟨LD,LF⟩:=id Ed;refine Gu fun AS A1 AY A9 Ba Bd Bp Bi AU=>?_;refine Ae<|AX 7 [0] G G<|Dm (sE _ _ c q (Kv W.S.CX c q) G BK Ed) (Ar G) G (Ad 2 G Aa) G fun Ui Mn CR=>?_;subst CR;refine U 5 G<|Ac<|AF 2 G<|B9 G (fun HQ=>?_) (fun HQ=>?_)
 ·
  refine rg<|U 5 G<|J2 0 0 G G G G (A2 G) (Da G)<|nl ?_;have AB:{W with S:={W.S with CX:=(Kv W.S.CX c q).1}}=Z:=(by rw[<-AW,Ah.raise,AA_ HQ]);subst AB;exact Es {W with S:={W.S with CX:=(Kv W.S.CX c q).1}} AS A1 AY A9 Ui Bd Bp Bi G AU (BE [1,2,0,4] G) fun BH=>Dz BH G trivial G Aa
 refine EG ?_;have AB:W=Z:=by rw[<-AW,Ah.raise,AA9 HQ]
 subst AB;exact Es W AS A1 AY A9 Ba Bd Bp Bi G AU (BE [1,2,3,4] G) fun BH=>Dz BH G trivial G Aa
variable(a:AD) (Cw:Value) (k:ByteArray) (S:Bv) (El EV D_ EA Em Eh:Value) (key:ByteArray)
theorem kc:Sq k=(O9 k).1:=by
 cases e:Ix k with
 |true=>
  rw[(YR e).1,Sq,AA_ e];rfl
 |false=>
  have q:¬(¬(k.size:Int)<1/\¬(k.size:Int)>16):=fun h=>by
   rw[YY.2 h]at e;cases e
  rw[Sq,AA9 (by rw[e];decide),O9,AA_ (by simp only[ABk,ABa];omega)];rfl
theorem Aer:(O9 k).1.A0=[]:=by
 rw[O9];split<;>rfl
theorem AiP{c:Cj}{x:Code}{Q:AuE}{env:Env}{L:Go.A_.Own}{D:List Atom}{l:List BD}(h:l=[])(k:CF c x Q env (@row BD Mj 123 AI l::L) D):CF c x Q env L D:=by
 subst h;exact Lk BD 123 k
theorem Vi{y:Value}{l:List BD}:∀p∈[@row BD Mj 123 y l],∀S Fq w,p.holds S w->p.holds Fq w:=fun p AH S Fq w h=>by
 obtain rfl:=ADe.1 AH;exact AiF (Ajr (fun _ _=>G)) h
theorem zP{l:List AD}{k:ByteArray}{i:Nat}(Ag:i<l.length)(h:∀j,j<i->decide ((l.getD j default).Al=k)=false)(h2:(l.getD i default).Al=k):BF l k=(l.getD i default,true):=by
 rw[BF,Tc Ag h (ABG h2)]
theorem zN{l:List AD}{k:ByteArray}(h:∀j,j<l.length->decide ((l.getD j default).Al=k)=false):BF l k=((O9 k).1,false):=by
 rw[BF,Tb h]
theorem kE(C6:a.wf)(Aq:a.A0.length<=100000):Aw AG 23 [.agg (A3 a Cw).toArray] [] [⟨Cw,a.A0⟩] (fun(y:Value) u=>u=.agg (A3 a y).toArray) (fun y _=>[@row BD Mj 123 y a.A0]) (fun _ _=>[]):=by
 refine Aw.proof Tryz.func23 G 8 G G fun X w=>Ae<|CV G G G fun CY=>CT Hd G fun Dh=>Ac<|Ae<|AX 2 [1] G G<|Dm (nZ _ _ Aq) (Ar G) G (Ad 0 G Aa) G fun _ Mp _=>U 1 G<|IL 2 0 G G G G (A2 G) (Da G)<|Ac<|Ae ?_;have Anj:=C6;refine BJ 2 (A3 ((⟨a.Al,(⟨a.Cs.A6,a.Cs.Bc⟩:GC),a.BT,a.Cn,a.A0,(⟨a.BG.Ap,a.BG.As,a.BG.DH,a.BG.B2⟩:F_)⟩:AD)) Mp) G G (At G) G G<|GZ 0 G fun WV=>?_;exact BZ 1 (us:=(A3 ((⟨a.Al,(⟨a.Cs.A6,a.Cs.Bc⟩:GC),a.BT,a.Cn,a.A0,(⟨a.BG.Ap,a.BG.As,a.BG.DH,a.BG.B2⟩:F_)⟩:AD)) Mp)) G G G (At G) (by simp only[ABn,ABr,ABp,WV];rfl) G<|Ac<|rt<|Au 2 G<|Au 2 G<|D8 Mp [_,_] (Qv 0 G G G (At G)) ARz G Aa
theorem UI(S:Bv)(El EV D_ EA Em Eh:Value)(key:ByteArray)(Z:AD×Bool)(AW:BF S.Aj key=Z)(Aq:∀a∈S.Aj,a.A0.length<=100000):Aw AG 15 [.agg (BY S El EV D_ EA Em Eh).toArray,.string key] [] [⟨El,S.Aj⟩] (fun(y:Value) u=>u=.tuple #[.agg (A3 Z.1 y).toArray,.bool Z.2]/\Z.1.wf) (fun y _=>[@row BD Mj 123 y Z.1.A0]) (fun _ _=>[]):=by
 refine Aw.proof Tryz.func15 G 30 G G fun X w=>Ae<|CV G G G fun Dh=>CT Hd G fun En=>U 1 G<|Ac<|Am<|Ae<|AX 2 [1] G G<|C2 0 G G Tryz.underlying36 G fun qR=>An G G<|Ac<|B5<|Ji (σ:=Nat) [(1,_),(4,_),(11,_),(12,_)] _ (fun i C=>(13,.int .i64 (i:Int))::C) (fun i=>i<=S.Aj.length/\(∀j,j<i->decide ((S.Aj.getD j default).Al=key)=false)) (fun i=>S.Aj.length-i) 0 (Bs G) (Ad 0 G Aa) ⟨ABg _,fun j Ay=>absurd Ay (AB2 j)⟩ (Bs G) ?_;rintro i ⟨Ag,C0⟩;refine AF 1 G<|Am<|B9 G (fun Fm=>?_) (fun Fm=>?_)
 ·
  refine AZ<|Am<|B5<|Ae<|Fo 0 G G G Gt G fun Xk=>Gi 0 G G (At G) G fun Ii PV=>?_;refine CT Hd G fun Jo=>Cp 1 G fun WU=>?_;refine BZ 0 (us:=(A3 ((S.Aj.getD i default)) Ii)) G G G (At G) (by simp only[ABn,ABr,ABp,WU];rfl) G<|Ac<|I5 4 [0] G G<|B9 G (fun HQ=>?_) (fun HQ=>?_)
  ·
   have AB:(((S.Aj.getD i default),true):AD×Bool)=Z:=(by rw[<-AW,zP AMT C0 HQ]);subst AB;refine Ae<|BJ 0 (A3 ((S.Aj.getD i default)) Ii) G G (At G) G G<|Dm (kE _ _ PV (Aq _ (Hl AMT))) (Ar G) G (Ad 1 G Aa) G fun u6 RB JQ=>?_;subst JQ;refine GZ 0 G fun Ae'=>?_;exact BZ 2 (us:=(A3 ((S.Aj.getD i default)) u6)) G G G (At G) (by simp only[ABn,ABr,ABp,Ae'];rfl) G<|U 1 G<|Ac<|rt<|C9<|Cd<|Cd<|C9<|Cd<|Au 3 G<|Au 3 G<|Au 3 G<|D8 u6 [_,_,_] (Fp 1 G G G G (At G)) (by exact⟨rfl,PV⟩) G Aa
  refine EG<|CU<|A5<|rg<|C5 G G BV G<|An G G<|nl<|AQ ?_;exact Dy (i+1) ⟨AMT,(Ki C0 (ABM HQ))⟩ AMT (Bs G) G (Ad 3 G Aa)
 have AB:(((O9 key).1,false):AD×Bool)=Z:=by rw[<-AW,zN (fun k AE=>C0 k AMT)]
 subst AB;exact AiP (Aer key)<|ex<|Ck<|Ck<|D7<|A5<|Ae<|An G G<|B0 (Aep key) (Ar G) G Aa G<|U 3 G<|CT Hd G fun K0=>BZ 0 (us:=(A3 ((Sq key)) AI)) G G G (At G) G G<|U 1 G<|Ac<|Ae<|BJ 0 (A3 ((Sq key)) AI) G G (At G) G G<|BZ 2 (us:=(A3 ((Sq key)) AI)) G G G (At G) G G<|U 1 G<|Ac<|rt<|Au 1 G<|Au 3 G<|Au 3 G<|Au 3 G<|D8 AI [_,_,_] (Fp 1 G G G G (At G)) (by rw[kc];exact⟨rfl,by rw[<-kc];exact rI _⟩) G Aa
theorem fu(_:S.wf):Cv AG 35 [.agg (BY S El EV D_ EA Em Eh).toArray,.string key] [] (.bool (F' S key)):=by
 exact Aw.proof Tryz.func35 G 15 G G fun X w=>Ae<|CV G G G fun Dh=>U 1 G<|Ac<|Ae<|AX 3 [0] G G<|D4 7 7 [] G G (fun GY VC=>AX 5 [0,0] G G<|Bl G G G<|B0 (Xx _ _ _) (Ar G) G Aa G<|U 1 G<|VC G Br)<|U 1 G<|Ac<|rt<|AQ<|Bq () G G ARz G Aa
theorem TV(_:S.wf):Cv AG 52 [.agg (BY S El EV D_ EA Em Eh).toArray,.string key] [] (.bool (Ef S key)):=by
 refine Aw.proof Tryz.func52 G 19 G G fun X w=>Ae<|CV G G G fun Dh=>U 1 G<|Ac<|Ae<|AX 5 [0] G G ?_;refine D4 9 9 [] G G (fun EO N'=>by
  have Y0:=EO;simp only[ABe,ABl]at Y0;exact AX 7 [0,0] G G<|Bl G G G<|B0 (Xx _ _ _) (Ar G) G Aa G<|U 1 G<|N' G Br) ?_
 exact U 1 G<|Ac<|rt<|AQ<|Bq () G G ARz G Aa
theorem j6(c q:Int)(_:a.wf):Cv AG 124 [.agg (A3 a Cw).toArray,.int .i64 c,.int .i64 q] [] (.bool (Hn a c q)):=by
 exact Aw.proof Tryz.func124 G 25 G G fun X w=>Ae<|CV G G G fun DQ=>U 1 G<|Ac<|Ae<|AX 5 [0] G G<|Fu 11 6 [0] [2,3] G G G<|An G G<|Fu 18 6 [0] [] G G G<|U 1 G<|Ac<|rt<|AQ<|Bq () G G ARz G Aa
@[reducible] def Ov(b:Nat)(W:Ah)(AS A1 AY A9 Ba Bd Bp Bi:Value):Atom:=@Atom.mk (Cq (Ah×QA.H)) (@F9 _ (Iy QA)) (ALM b 0) ⟨(W,(AS,A1,AY,A9,Ba,Bd,Bp,Bi))⟩
theorem Y_{W:Ah}{AS A1 AY A9 Ba Bd Bp Bi:Value}(JZ:AS.oneCell'=true)(o1:A1.oneCell'=true)(o2:AY.oneCell'=true)(IJ:A9.oneCell'=true)(J0:Ba.oneCell'=true)(Ks:Bd.oneCell'=true)(MG:Bp.oneCell'=true)(NU:Bi.oneCell'=true)(AU:W.wf):∀S w,(Iy QA).rd S w (FB W AS A1 AY A9 Ba Bd Bp Bi) (W,(AS,A1,AY,A9,Ba,Bd,Bp,Bi)):=fun S w=>⟨(),rfl,rR fun u hu=>by
 simp only[FB,ABf,ABh,ABi]at hu;rcases hu with rfl|rfl|rfl|rfl|rfl|rfl|rfl|rfl|rfl|rfl|rfl|rfl|rfl|rfl|rfl|rfl|rfl|rfl|rfl|rfl|rfl|rfl|rfl|rfl|rfl|rfl|rfl|rfl|rfl|rfl|rfl|rfl|rfl<;>first|rfl|exact JZ|exact o1|exact o2|exact IJ|exact J0|exact Ks|exact MG|exact NU,AU⟩
theorem WZ{W:Ah}{h:QA.H}:∀S w cs,(Iy QA).rd S w cs (W,h)->(Iy DL).rd S w ((cs.drop 0).take 29) (W.S,(h.1,h.2.1,h.2.2.1,h.2.2.2.1,h.2.2.2.2.1,h.2.2.2.2.2.1)):=by
 rintro S w cs ⟨_,rfl,hs,hw⟩;refine⟨(),G,fun t Av=>?_,hw.1⟩;obtain⟨u,hu,rfl⟩:=AB6.1 Av;exact hs _ (AB6.2 ⟨u,List.mem_of_mem_take (i:=29) (l:=FB W h.1 h.2.1 h.2.2.1 h.2.2.2.1 h.2.2.2.2.1 h.2.2.2.2.2.1 h.2.2.2.2.2.2.1 h.2.2.2.2.2.2.2) hu,G⟩)
theorem Ag7{Ei:Bv}{h:DL.H}:∀S w cs,(Iy DL).rd S w cs (Ei,h)->E_.rd S w ((cs.drop 0).take 1) Ei.CZ:=by
 rintro S w cs ⟨_,rfl,hs,hw⟩;exact⟨G,hw.1⟩
theorem ow(b:Nat)(nd:List Nat)(W:Ah)(f:Nat)(D0:Array Value)(A:List Atom)(p:BX->Bool)(CM:GU AG f)(E5:∀(AS A1 AY A9 Ba Bd Bp Bi:Value) (x:BX),x.wf->Cv AG f (.agg (Hh x).toArray::D0.toList) (Ov b W AS A1 AY A9 Ba Bd Bp Bi::A) (.bool (p x)))(Z:Ah)(AW:W.drop p=Z):Aw AG 129 [ALM b 0,.func (.func f) #[] D0] [DS b nd W] A (fun(_:List Nat) _=>True) (fun y _=>[DS b y Z]) (fun _ _=>[]):=by
 refine Aw.proof Tryz.func129 G 15 G G fun X w=>Gu fun AS A1 AY A9 Ba Bd Bp Bi AU=>rg<|AX 7 [0] G G<|GZ 1 G fun JZ=>GZ 2 G fun o2=>?_;refine GZ 3 G fun MG=>?_;refine GZ 4 G fun NU=>?_;refine GO (q:=Value.oneCell' _=true) (fun S w h=>Fh (h _ (AA' (i:=0) G))) fun o1=>GO (q:=Value.oneCell' _=true) (fun S w h=>Fh (h _ (AA' (i:=1) G))) fun IJ=>GO (q:=Value.oneCell' _=true) (fun S w h=>Fh (h _ (AA' (i:=2) G))) fun J0=>GO (q:=Value.oneCell' _=true) (fun S w h=>Fh (h _ (AA' (i:=3) G))) fun Ks=>D9 2 G<|Hs 2 (yz AY W.S.AA f D0 A [Ov b W AS A1 AY A9 Ba Bd Bp Bi] (AO b 118 (FB W AS A1 AY A9 Ba Bd Bp Bi)) p (fun _ i Ag=>DU.AO i Ag (Y_ JZ o1 o2 IJ J0 Ks MG NU AU) DU.nil) CM (E5 AS A1 AY A9 Ba Bd Bp Bi)) (Ar G) G G (Bg.tail (Bg.tail (Bg.tail (Bg.tail Br)))) G fun _ v11 _=>U 3 G<|IL 1 0 G G G G (A2 G) (Da G)<|nl ?_;have AB:{W with S:={W.S with AA:=W.S.AA.filter (fun x=> !p x)}}=Z:=by rw[<-AW,Ah.drop]
 subst AB;exact Au 4 G<|Au 4 G<|Au 2 G<|Au 4 G<|Au 4 G<|Es {W with S:={W.S with AA:=W.S.AA.filter (fun x=> !p x)}} AS A1 v11 A9 Ba Bd Bp Bi G AU (BE [0,1,2,3] G) fun BH=>Dz BH G trivial G Aa
theorem hQ(b:Nat)(nd:List Nat)(W:Ah)(f:Nat)(D0:Array Value)(A:List Atom)(p:BX->Bool)(CM:GU AG f)(E5:∀(AS A1 AY A9 Ba Bd Bp Bi:Value) (x:BX),x.wf->Cv AG f (.agg (Hh x).toArray::D0.toList) (Ov b W AS A1 AY A9 Ba Bd Bp Bi::A) (.bool (p x)))(Z:Ah)(AW:W.drop p=Z)(_:Ce W.S):Aw AG 129 [ALM b 0,.func (.func f) #[] D0] [DS b nd W] A (fun(_:List Nat) _=>True) (fun y _=>[DS b y Z]) (fun _ _=>[]):=ow b nd W f D0 A p CM E5 Z AW
theorem y5(x:BX)(v1 v2 Ph:Value)(c q:Int)(b:Nat)(W:Ah)(AS A1 AY A9 Ba Bd Bp Bi:Value)(_:x.wf):Cv AG 222 [.agg (Hh x).toArray,v1,v2,Ph] [Ov b W AS A1 AY A9 Ba Bd Bp Bi,⟨v1,(⟨c⟩:Cq Int)⟩,⟨v2,(⟨q⟩:Cq Int)⟩,⟨Ph,(⟨⟨ALM b 0⟩⟩:Cq JD)⟩] (.bool (decide (x.Ca=2)&&decide (x.Ap=c)&&decide (x.As=q)&&decide (x.DH=W.S.CZ))):=by
 refine Aw.proof Tryz.func222 G 31 G G fun X w=>Ae<|CV G G G fun En=>U 1 G<|Ac<|Am<|Gx mixed ARs<|AX 4 [0] G G ?_;refine D4 9 5 [2,3,4] G G (fun EO VC=>by
  have Y0:=ABA EO;exact AX 2 [0] G G<|Bl G G G<|CQ 1 G G (A2 G) G fun Xr=>U 2 G<|VC G Br) ?_
 refine An G G ?_;refine D4 15 5 [3,4] G G (fun Ft SR=>by
  exact AX 2 [0] G G<|Bl G G G<|CQ 2 G G (A2 G) G fun cX=>U 2 G<|SR G Br) ?_
 refine An G G ?_;refine D4 21 9 [] G G (fun E1 VE=>by
  exact AX 2 [0] G G<|Bl G G G<|CQ 3 G G (A2 G) G fun PW=>Bl G G G<|Co 0 G G G<|Bl G G G<|IY (α:=Ah×QA.H) (β:=Bv×DL.H) 0 (fun x=>(x.1.S,(x.2.1,x.2.2.1,x.2.2.2.1,x.2.2.2.2.1,x.2.2.2.2.2.1,x.2.2.2.2.2.2.1))) G G (BR G) WZ G fun Pf=>Bl G G G<|IY (α:=Bv×DL.H) (β:=Int) 0 (fun x=>x.1.CZ) G G (BR G) Ag7 G fun N4=>Bl G G G<|CQ 0 G G (A2 G) G fun Uc=>U 2 G<|VE G (Bg.tail (Bg.tail Br))) ?_
 exact U 1 G<|Gj<|A5<|rt<|AQ<|Bq () G G ARz G Aa
end Go.Apw
namespace Go.A_
open Go.RowKit
section
section
variable{env:Env} {L:Own} {D:List Atom} {fn:Func} {P:Program} {n:Nat} {BW:World} {M:List Nat}
theorem cj{t u s:Nat}{T Pr:TypeId}{b:Nat}{cs:List Value}{v2 Ph:Value}(i:Nat)(Bh:fn.results= #[.cell t T,.tmp u,.tmp s])(Af:C1 env t=some (.pointer (some ⟨b,0,none⟩)))(h2:C1 env u=some v2)(Bo:C1 env s=some Ph)
 (Ag:L[i]? =some (AO b Pr cs))(Av:Oc P T cs.length):dr P n BW M fn env L (.tuple #[.agg cs.toArray,v2,Ph]):=fun a w f st=>by
 simp[results,Bh,f.at_ t _ Af,f.at_ u _ h2,f.at_ s _ Bo,asAddr,lr Av (kH i Ag st)]
end
end
end Go.A_
