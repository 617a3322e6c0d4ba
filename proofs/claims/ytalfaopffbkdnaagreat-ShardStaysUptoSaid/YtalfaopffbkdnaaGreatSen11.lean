/- Part 11 of shardStays_holds. -/
import Derived.Test.YtalfaopffbkdnaaGreatSen10

set_option maxRecDepth 20000
set_option maxHeartbeats 1000000
open Go.Proofs.Tryz renaming underlying278→AB1,underlying5→AC'
open List renaming append_nil→AB7,cons_append→ABU,length_set→ABj,nil_append→ABK,nodup_cons→ADq,set_cons_succ→ABu,set_cons_zero→ABt,set_set→ABL
open Go.A_ Go.Apw
namespace Go.Proofs.YtalfaopffbkdnaaGreat.MW
theorem AcM(p:Nat)(bv:Value)(J:List UInt8)(s DR:Bb)(x:Int)(AH:s.pos<=J.length)(Ab:D6 J s=(x,DR)):Aw AG 282 [.pointer (some ⟨p,0,none⟩)] [CG p bv s] [⟨bv,J⟩] (fun(_:Unit) v=>v=.int .i64 x) (fun _ _=>[CG p bv DR]) (fun _ _=>[]):=by
 refine Aw.proof Tryz.func282 G 16 G G fun X w=>?_;obtain⟨rfl,rfl⟩:x=Ul (rdNum J s).1/\DR=(rdNum J s).2:=by simp only[D6,Prod.mk.injEq]at Ab;exact⟨Ab.1.symm,Ab.2.symm⟩
 have AN:=sM J s;refine AF 1 G<|Ae<|An G G<|Ch 0 (AeD _ _ _ _ AH) (Ar G) G G (Ad 0 G Aa) G fun Ls Mp C'=>?_;have C':Mp=.int .u64 ((rdNum J s).1:Int):=C';subst C';refine U 1 G<|Ac<|Am<|Ae<|An G G<|hA G G (and_1 AN) G<|U 1 G<|Ac<|B9 G (fun D2=>?_) (fun D2=>?_)
 · exact Ae<|An G G<|Vl G G AGn (th _) G<|F0 ABJ ABc G (bq AGn) G<|n_ G (n' BV) G<|U 1 G<|Ac<|BA<|Bq () G G (by unfold Ul;rw[if_pos AGn]) G Aa
 · exact AZ<|Ae<|An G G<|Vl G G AGn (th _) G<|F0 ABJ ABc G (bq AGn) G<|U 1 G<|Ac<|rt<|Bq () G G (by unfold Ul;rw[if_neg AGn]) G Aa
theorem zE(p:Nat)(bv:Value)(_:List UInt8)(s:Bb):Aw AG 303 [.pointer (some ⟨p,0,none⟩)] [CG p bv s] [] (fun(_:Unit) v=>v=.tuple #[.int .i64 (s.fault:Int),.int .i64 ((if s.fault=0 then 0 else s.pos:Nat):Int)]) (fun _ _=>[CG p bv s]) (fun _ _=>[]):=by
 refine Aw.proof Tryz.func303 G 19 G G fun X w=>AF 2 G<|Am<|Ae<|An G G<|M3 AB1 G G G<|Ac<|LW G<|AZ<|Am<|I5 5 [0] G G<|B9 G (fun Dq=>?_) (fun Dq=>?_)
 ·
  refine AF 2 G<|BA ?_;have e:s.fault=0:=AGn;rw[AA_ e];exact Fl () G G G (by rw[e];rfl) G Aa
 ·
  refine AZ<|Am<|Gx mixed AGo<|AX 10 [0,0] G G<|Gj<|A5<|rt ?_;rw[AA9 AGn];exact Fl () G G G G G Aa
theorem Aes(Bk:Value)(J:List UInt8)(hlen:J.length<=140737488355328):Aw AG 221 [Bk] [] [⟨Bk,J⟩] (fun(y:Nat×Value) v=>v=.pointer (some ⟨y.1,0,none⟩)) (fun y _=>[CG y.1 y.2 ⟨0,0⟩]) (fun y _=>[⟨y.2,J⟩]):=by
 refine Aw.proof Tryz.func221 G 7 G G fun X w=>AF 1 G<|Ae<|An G G<|Dm (dN _ _ (by first|assumption|(simp only[ACt,ABz];omega))) (Ar G) G (Ad 0 G Aa) G fun IN v4 BB=>w9 0 G ?_
 rintro⟨A,Dc,rfl⟩;exact Db (ps:=[(0,.tmp 4)]) (cs:=[.slice A J.length Dc,.int .i64 0,.int .i64 0]) AGq AGo G<|CV G G G fun Hg=>U 1 G<|Ac<|rt<|Bq (Hg,.slice A J.length Dc) G G G G (Ad 0 G Aa)
theorem zQ(b:Nat)(Bk:Value)(J:List UInt8):Aw AG 306 [Bk,.pointer (some ⟨b,0,none⟩)] [AO b 4 [.bool false]] [⟨Bk,J⟩] (fun(_:Unit) v=>v=Pb (NG J).2.1 (NG J).2.2) (fun _ _=>[AO b 4 [.bool (NG J).1]]) (fun _ _=>[]):=by
 refine Aw.proof Tryz.func306 G 16 G G fun X w=>AF 2 G<|Am<|Ae<|An G G<|C2 0 G G ABT G fun qY=>U 1 G<|Ac<|B9 G (fun GY=>?_) (fun GY=>?_)
 ·
  have Ab:J=[]:=ADo AGn;subst Ab;exact AF 2 G<|BA<|Fl () G G G G G Aa
 ·
  obtain⟨c,r,rfl⟩:∃c r,J=c::r:=by
   cases J with
   |nil=>exact absurd rfl GY
   |cons c r=>exact⟨c,r,rfl⟩
  refine AZ<|Am<|Ae<|An G G<|Qh 0 G G G TZ AGn (show(c::r)[0]? =some c from G) G fun Nr=>CQ 0 G G (A2 G) G fun cW=>U 1 G<|Ac<|B9 G (fun Ct=>?_) (fun Ct=>?_)
  ·
   have JU:NG (c::r)=(false,0,21):=(by simp only[NG];rw[AA_ AGn]);rw[JU];exact AF 2 G<|BA<|Fl () G G G G G Aa
  ·
   have JU:NG (c::r)=(decide ((c.toNat:Int)=1),1,0):=by
    simp only[NG];rw[AA9 AGn];congr 1;rw[ACy];simp only[ABa];rw[<-UInt8.toNat_inj];show c.toNat=1↔_;omega
   rw[JU];exact AZ<|Ae<|An G G<|Qh 1 G G G TZ AGn (show(c::r)[0]? =some c from G) G fun RA=>CQ 0 G G (A2 G) G fun SE=>U 1 G<|Fi 0 G G G (A2 G) G (Da G)<|Ac<|AF 2 G<|rt<|Fl () G G G G G Aa
theorem zS(p:Nat)(bv:Value)(J:List UInt8)(s:Bb)(AH:s.pos<=J.length):Aw AG 283 [.pointer (some ⟨p,0,none⟩)] [CG p bv s] [⟨bv,J⟩] (fun(_:Unit) v=>v=.bool (Kw J s).1) (fun _ _=>[CG p bv (Kw J s).2]) (fun _ _=>[]):=by
 refine Aw.proof Tryz.func283 G 8 G G fun X w=>?_;have LB:=fun b Bk=>zQ b Bk (J.drop s.pos);have Aq:=oY (J.drop s.pos);rcases Fx:NG (J.drop s.pos)with⟨x,n,e⟩;rw[Fx]at Aq;simp only[Fx]at LB;simp only at Aq;have Bh:Kw J s=(s.val false x e,s.step n e):=by simp only[Kw,Lj,Fx]
 rw[Bh];have Aq:True/\n<=(J.drop s.pos).length/\(e≠0->x=false/\n=0):=⟨trivial,Aq⟩;refine AF 1 G<|Ae<|CT AlX G fun DQ=>Fi 0 G G G (A2 G) G (Da G)<|Ac<|Ae<|An G G<|Nd (xs:=[.tmp 3]) G G<|XY (L0:=[AO DQ 4 [.bool false],CG p bv s]) (Lr:=[CL X w]) (tU p 306 bv J s #[.pointer (some ⟨DQ,0,none⟩)] _ (AO DQ 4 [.bool (s.val false x e:Bool)]) n e (Ar G) AH AGn (fun h Bk=>?_) (fun h=>?_)) (Ar G) G AGq (Ad 0 G Aa) AGq fun y v h=>?_
 ·
  have q:=LB DQ Bk;have B4:s.val false x e=x:=(by unfold Bb.val;rw[if_neg AGn];split;exact(by simp[Aq.2.2, *]);rfl);rw[B4];exact q
 ·
  have B4:s.val false x e=false:=(by unfold Bb.val;rw[if_pos h]);rw[B4];try rfl
 obtain rfl:v=.bool (decide (s.fault=0/\e=0)):=h;exact Ac<|I5 2 [0] G G<|rt<|AQ<|Bq () G G G G Aa
theorem y3(p:Nat)(bv:Value)(J:List UInt8)(s:Bb):Aw AG 222 [.pointer (some ⟨p,0,none⟩)] [CG p bv s] [⟨bv,J⟩] (fun(_:Unit) v=>v=.int .i64 (Q0 J s)) (fun _ _=>[CG p bv s]) (fun _ _=>[]):=by
 refine Aw.proof Tryz.func222 G 26 G G fun X w=>AF 1 G<|Am<|Ae<|An G G<|M3 AB1 G G G<|Ac<|LW G<|AZ<|Am<|Am<|Gx mixed AGo<|AX 6 [0] G G<|cD (i:=10) G (fun Dq=>?_) (fun Dq=>?_)
 ·
  refine AX 7 [0] G G<|AX 1 [0] G G<|Bl G G G<|C2 0 G G ABT G fun U9=>U 2 G<|Gj<|A5<|B9 G (fun E1=>?_) (fun E1=>?_)
  · exact AF 1 G<|BA<|Bq () G G (by unfold Q0;first|rw[if_pos AGn]|rw[if_neg AGn]) G Aa
  · exact AZ<|I5 5 [0] G G<|rt<|Bq () G G (by unfold Q0;first|rw[if_pos AGn]|rw[if_neg AGn]) G Aa
 · exact G2 G G G G G<|G2 G G G G G<|G2 G G G G G<|G2 G G G G G<|G2 G G G G G<|G2 G G G G G<|G2 G G G G G<|G2 G G G G G<|G2 G G G G G<|G2 G G G G G<|U 1 G<|Gj<|A5<|LW G<|AZ<|I5 5 [0] G G<|rt<|Bq () G G (by unfold Q0;first|rw[if_pos AGn]|rw[if_neg AGn]) G Aa
end Go.Proofs.YtalfaopffbkdnaaGreat.MW
namespace Go.Proofs.YtalfaopffbkdnaaGreat.XM
section
variable(By bv Bk:Value) (p:Nat) (J:List UInt8) (B3 s:Bb) (b T:Nat) (cells:List Value) (offs:List Nat) (o:Nat)
theorem Oz:Aw AG 279 [By] [CG p bv s] [⟨By,(⟨⟨p⟩⟩:Cq Gb)⟩] (fun(_:Unit) v=>v=.bool (Ml s)) (fun _ _=>[CG p bv s]) (fun _ _=>[]):=by
 refine Aw.proof Tryz.func279 G 31 G G fun X w=>AF 1 G<|Am<|Ae<|An G G<|Co 0 G G G<|CJ 0 Ku G G (BR G) G fun EZ=>CQ 0 G G (A2 G) G fun gE=>M3 AB1 G G G<|Ac<|LW G<|AZ<|Ae<|An G G<|Co 1 G G G<|CJ 1 Ku G G (BR G) G fun T6=>CQ 0 G G (A2 G) G fun cX=>Ch 0 (MW.zE p bv [] s) (Ar G) G G Aa G fun _ KC Fe=>?_;subst Fe;refine U 5 G<|Ac<|Ae<|U 3 G ?_;refine DE 24 6 [] G G (fun F3 VE=>by
  have Af4:=F3;simp only[ABI,ABa]at Af4;exact U 1 G<|Bl G G G<|Co 2 G G G<|Bl G G G<|CJ 2 sn G G (BR G) G fun N4=>Bl G G G<|CQ 0 G G (A2 G) G fun Uc=>U 2 G<|VE G (Bg.tail Br)) ?_
 exact U 1 G<|Ac<|rt<|Bq () G G G G Aa
theorem qs(AH:B3.pos<=J.length)(Cu:gQ cells offs)(Ao:offs.Nodup):Aw AG 223 [By,Bk] [AO b T cells,CG p bv B3] [⟨By,(⟨⟨p⟩⟩:Cq Gb)⟩,⟨bv,J⟩,⟨Bk,NW b offs⟩] (fun(_:Unit) _=>True) (fun _ _=>[AO b T (CO J offs (cells,B3)).1,CG p bv (CO J offs (cells,B3)).2]) (fun _ _=>[]):=by
 refine Aw.proof Tryz.func223 G 35 G G fun X w=>Ae<|An G G<|C2 2 G G Tryz.underlying259 G fun MD=>An G G<|Ac<|B5<|Hx (σ:=Nat×List Value×Bb) [(0,_),(6,_),(7,_)] _ (fun i C=>(8,.int .i64 (i.1:Int))::C) (fun i=>[AO b T i.2.1,CG p bv i.2.2,CL X w]) (fun _ Dw=>Dw) (fun i=>i.1<=offs.length/\i.2.2.pos<=J.length/\gQ i.2.1 (offs.drop i.1)/\(offs.drop i.1).Nodup/\CO J (offs.drop i.1) i.2=CO J offs (cells,B3)) (fun i=>offs.length-i.1) (0,cells,B3) (Bs G) (Ad 0 G (Ad 1 G (Ad 2 G Aa))) ⟨ABg _,AH,Cu,Ao,G⟩ (Bs G) G (Ad 0 G (Ad 1 G (Ad 2 G Aa))) ?_;rintro⟨i,c,s⟩ ⟨Ag,hs,Bm,AJ,he⟩;simp only at Ag hs Bm AJ he;refine AF 1 G<|Am<|B9 G (fun EO=>?_) (fun EO=>?_)
 ·
  have Jf:i<offs.length:=(by rw[Y4]at EO;omega);rw[drop_cons Jf]at Bm AJ he;have A7:=Rj (Bm _ (ABx ..));refine AZ<|Am<|B5<|Ae<|Qh 2 G G G lQ AGn (sr Jf) G fun v10=>CQ 0 G G (A2 G) G fun SD=>U 1 G<|Ac<|B5<|Ae<|An G G<|Ch 1 (Oz By bv p s) (Ar G) G G (Ad 1 G Aa) G fun _ SB E1=>?_;have E1:SB=.bool (Ml s):=E1;subst E1;refine U 1 G<|Ac<|BN G (fun Fe=>?_) (fun Fe=>?_)
  ·
   refine EG<|CU<|CU<|A5<|rg<|C5 G G BV G<|An G G<|nl ?_;exact Dy ((i+1,c,s):Nat×List Value×Bb) ⟨AGn,hs,fun x Ab=>Bm x (ABR _ Ab),(ADq.1 AJ).2,(AcN ((N2 s).1 Fe) (Bm _ (ABx ..))).symm.trans he⟩ (by show _-_<_-_;omega) (Bs G) G (BE [1,2,3] G)
  ·
   have BI:=(Xf s).1 (by simpa using Fe);refine Ae<|An G G<|Co 1 G G G<|CJ 1 Ku G G (BR G) G fun T7=>CQ 0 G G (A2 G) G fun mv=>M3 AB1 G G G<|U 1 G<|Ac<|LW G<|rg<|U 2 G<|Co 2 G G G<|CJ 2 Ku G G (BR G) G fun Xk=>CQ 0 G G (A2 G) G fun PV=>Ch 1 (MW.AcM p bv J s (D6 J s).2 (D6 J s).1 hs G) (Ar G) G G (Ad 4 G Aa) G fun _ T6 DA=>?_;have DA:T6=.int .i64 (D6 J s).1:=DA;subst DA;refine Va G G<|Fi 0 G G G (A2 G) G A7<|nl<|CU<|CU<|A5<|rg<|C5 G G BV G<|An G G<|nl ?_;exact Dy ((i+1,c.set (offs.getD i 0) (.int .i64 (D6 J s).1),(D6 J s).2):Nat×List Value×Bb) ⟨AGn,Hb hs,vu (α:=Nat) AJ (fun x Ab=>Bm x (ABR _ Ab)),(ADq.1 AJ).2,he⟩ (by show _-_<_-_;omega) (Bs G) G (BE [3,4,5] G)
 ·
  have Jf:i=offs.length:=(by rw[Y4]at EO;omega);subst Jf;rw[List.drop_length]at he;have he:(c,s)=CO J offs (cells,B3):=he;rw[<-he];exact ex<|Ck<|Ck<|D7<|Dz () G trivial G Aa
theorem zo(AH:s.pos<=J.length)(Cu:cells[o]? =some (.int .i64 0)):Aw AG 288 [By,.pointer (some ⟨b,o,none⟩)] [AO b T cells,CG p bv s] [⟨By,(⟨⟨p⟩⟩:Cq Gb)⟩,⟨bv,J⟩] (fun(_:Unit) _=>True) (fun _ _=>[AO b T (cells.set o (.int .i64 (D6 J s).1)),CG p bv (D6 J s).2]) (fun _ _=>[]):=by
 refine Aw.proof Tryz.func288 G 14 G G fun X w=>?_;have A7:=Rj Cu;exact Ae<|U 2 G<|ME 0 G G (A2 G) Cu G<|CT df G fun En=>Fi 0 G G G (A2 G) G AGp<|Ac<|Ae<|An G G<|BH (xs:=[.tmp 4]) (us:=[.pointer (some ⟨En,0,none⟩)]) (E:=171) (bytes:=8) (n:=1) G (by exact HB) G G G G G G fun H7=>Q5 (NW En [0]) ([0].map fun o=>[.pointer (some ⟨En,o,none⟩)]) G (fun S w h=>Y5 S w _) (ABy G)<|D9 2 G<|D9 1 G<|Hs 2 (qs By bv _ p J s En 3 [.int .i64 0] [0] AH (by intro o A7;simp only[ABf,ABh,ABi]at A7;subst A7;rfl) AGp) (Ar G) G G (BE [1,2,0] G) G fun _ v10 Dq=>Ac<|rg<|An G G<|ME 0 G G (A2 G) (show _=some (.int .i64 (D6 J s).1)from G) G<|Va G G<|Fi 2 G G G (A2 G) G A7<|nl<|AQ<|Au 1 G<|Dz () G trivial G Aa
theorem zR(AH:s.pos<=J.length)(Cu:cells[o]? =some (.bool false)):Aw AG 224 [By,.pointer (some ⟨b,o,none⟩)] [AO b T cells,CG p bv s] [⟨By,(⟨⟨p⟩⟩:Cq Gb)⟩,⟨bv,J⟩] (fun(_:Unit) _=>True) (fun _ _=>[AO b T (cells.set o (.bool (Kw J s).1)),CG p bv (Kw J s).2]) (fun _ _=>[]):=by
 refine Aw.proof Tryz.func224 G 37 G G fun X w=>?_;have A7:=Rj Cu;refine B5<|Ae<|An G G<|Ch 1 (Oz By bv p s) (Ar G) G G (Ad 0 G Aa) G fun _ RA Dp=>?_;have Dp:RA=.bool (Ml s):=Dp;subst Dp;refine U 1 G<|Ac<|BN G (fun Ct=>?_) (fun Ct=>?_)
 ·
  have BI:=(N2 s).1 Ct;exact EG<|CU<|Dz () G trivial (by rw[Ah6 BI,Ah5 BI,TW Cu];rfl) Aa
 ·
  refine Ae<|An G G<|Co 0 G G G<|CJ 0 Ku G G (BR G) G fun T6=>CQ 0 G G (A2 G) G fun cX=>M3 AB1 G G G<|An G G<|G2 G G G G G<|G2 G G G G G<|G2 G G G G G<|U 2 G<|Ac<|LW G<|Ae<|An G G<|Co 1 G G G<|CJ 1 Ku G G (BR G) G fun L5=>CQ 0 G G (A2 G) G fun AkS=>M3 AB1 G G G<|U 1 G<|Ac<|LW G<|rg<|U 2 G<|Co 2 G G G<|CJ 2 Ku G G (BR G) G fun EZ=>CQ 0 G G (A2 G) G fun gE=>Ch 1 (MW.zS p bv J s AH) (Ar G) G G (Ad 4 G Aa) G fun _ Nr EO=>?_;have EO:Nr=.bool (Kw J s).1:=EO;subst EO;exact Va G G<|Fi 0 G G G (A2 G) G A7<|nl<|CU<|Dz () G trivial G Aa
theorem nM(u:Value)(AH:s.pos<=J.length)(hu:cells[o]? =some u):Aw AG 237 [By,.pointer (some ⟨b,o,none⟩)] [AO b T cells,CG p bv s] [⟨By,(⟨⟨p⟩⟩:Cq Gb)⟩,⟨bv,J⟩,⟨u,([]:List UInt8)⟩] (fun(_:Value) _=>True) (fun y _=>[AO b T (cells.set o y),CG p bv (Gm J 65535 s).2]) (fun y _=>[⟨y,(Gm J 65535 s).1⟩]):=by
 refine Aw.proof Tryz.func237 G 35 G G fun X w=>?_;have A7:=Rj hu;refine B5<|Ae<|An G G<|Ch 1 (Oz By bv p s) (Ar G) G G (Ad 0 G Aa) G fun _ gz EM=>?_;have EM:gz=.bool (Ml s):=EM;subst EM;refine U 1 G<|Ac<|BN G (fun Dq=>?_) (fun Dq=>?_)
 ·
  have BI:=(N2 s).1 Dq;exact EG<|CU<|Dz u G trivial (by rw[Aif BI,TW hu];rfl) (by rw[Aig BI];exact(Bg.cons 2 rfl Bg.nil))
 ·
  refine Ae<|An G G<|Co 0 G G G<|CJ 0 Ku G G (BR G) G fun Mn=>CQ 0 G G (A2 G) G fun mr=>rG AB1 G G G<|U 1 G<|Ac<|Mv G<|rg<|U 2 G<|Co 1 G G G<|CJ 1 Ku G G (BR G) G fun RB=>CQ 0 G G (A2 G) G fun cY=>Ch 1 (MW.Ake p bv J s 65535 BV AGn AH) (Ar G) G G (Ad 3 G Aa) G fun _ Xl _=>?_;exact Va G G<|J2 0 0 G G G G (A2 G) A7<|nl<|CU<|Dz Xl G trivial G (Ad 0 G Aa)
theorem Akd(AH:B3.pos<=J.length)(Cu:gR cells offs)(Ao:offs.Nodup):Aw AG 225 [By,Bk] [AO b T cells,CG p bv B3] [⟨By,(⟨⟨p⟩⟩:Cq Gb)⟩,⟨bv,J⟩,⟨Bk,NW b offs⟩] (fun(_:Unit) _=>True) (fun _ _=>[AO b T (Ea J offs (cells,B3)).1,CG p bv (Ea J offs (cells,B3)).2]) (fun _ _=>[]):=by
 refine Aw.proof Tryz.func225 G 44 G G fun X w=>Ae<|An G G<|C2 2 G G Tryz.underlying339 G fun Adl=>An G G<|Ac<|B5<|Hx (σ:=Nat×List Value×Bb) [(0,_),(7,_),(8,_)] _ (fun i C=>(9,.int .i64 (i.1:Int))::C) (fun i=>[AO b T i.2.1,CG p bv i.2.2,CL X w]) (fun _ Dw=>Dw) (fun i=>i.1<=offs.length/\i.2.2.pos<=J.length/\gR i.2.1 (offs.drop i.1)/\(offs.drop i.1).Nodup/\Ea J (offs.drop i.1) i.2=Ea J offs (cells,B3)) (fun i=>offs.length-i.1) (0,cells,B3) (Bs G) (Ad 0 G (Ad 1 G (Ad 2 G Aa))) ⟨ABg _,AH,Cu,Ao,G⟩ (Bs G) G (Ad 0 G (Ad 1 G (Ad 2 G Aa))) ?_;rintro⟨i,c,s⟩ ⟨Ag,hs,Bm,AJ,he⟩;simp only at Ag hs Bm AJ he;refine AF 1 G<|Am<|B9 G (fun Dq=>?_) (fun Dq=>?_)
 ·
  have Jf:i<offs.length:=(by rw[Y4]at Dq;omega);rw[drop_cons Jf]at Bm AJ he;have A7:=Rj (Bm _ (ABx ..));refine AZ<|Am<|B5<|Ae<|Qh 2 G G G lR AGn (sr Jf) G fun v11=>CQ 0 G G (A2 G) G fun Xr=>U 1 G<|Ac<|Am<|Ae<|An G G<|Co 1 G G G<|CJ 1 Ku G G (BR G) G fun Xk=>CQ 0 G G (A2 G) G fun PV=>M3 AB1 G G G<|An G G<|G2 G G G G G<|G2 G G G G G<|G2 G G G G G<|G2 G G G G G<|G2 G G G G G<|U 1 G<|Ac<|LW G<|AZ<|Ae<|U 2 G<|ME 0 G G (A2 G) (Bm _ (ABx ..)) G<|oa ABO ABT AC' G AGp G fun L5=>CT dg G fun Hg=>J2 0 0 G G G G (A2 G) (Da G)<|Ac<|Ae<|An G G<|D9 2 G<|D9 1 G<|Hs 2 (nM By bv p J s Hg 29 [L5] 0 L5 hs G) (Ar G) G G (BE [3,4,0] G) G fun y ue L'=>?_;refine Ac<|Ae<|An G G<|Co 4 G G G<|CJ 4 Ku G G (BR G) G fun SC=>CQ 0 G G (A2 G) G fun AkU=>rG AB1 G G G<|Ac<|Mv G<|rg<|An G G<|ME 0 G G (A2 G) (show _=some y from G) G<|xU 1 ABT AC' ABO G G G<|Va G G<|Fi 2 G G G (A2 G) G A7<|nl<|CU<|A5<|rg<|C5 G G BV G<|An G G<|nl<|AQ<|Au 1 G ?_;exact Dy ((i+1,c.set (offs.getD i 0) (.string ⟨(Gm J 65535 s).1.toArray⟩),(Gm J 65535 s).2):Nat×List Value×Bb) ⟨AGn,Vf hs,vu (α:=Nat) AJ (fun x Ab=>Bm x (ABR _ Ab)),(ADq.1 AJ).2,he⟩ (by show _-_<_-_;omega) (Bs G) G (BE [5,6,7] G)
 ·
  have Jf:i=offs.length:=(by rw[Y4]at Dq;omega);subst Jf;rw[List.drop_length]at he;have he:(c,s)=Ea J offs (cells,B3):=he;rw[<-he];exact ex<|Ck<|Ck<|D7<|Dz () G trivial G Aa
end
end Go.Proofs.YtalfaopffbkdnaaGreat.XM
namespace Go.Apw
theorem z9(J:List UInt8)(s:Bb):(CO J [0,1,2,3] (([.int .i64 0,.int .i64 0,.int .i64 0,.int .i64 0]:List Value),s))=(JH (Iu J s).1,(Iu J s).2):=by
 simp only[CO,Iu,Di,ABt,ABu]
theorem z7(J:List UInt8)(s:Bb):(CO J [0,1] (([.int .i64 0,.int .i64 0]:List Value),s))=(QT (HF J s).1,(HF J s).2):=by
 simp only[CO,HF,Di,ABt,ABu]
theorem z5(J:List UInt8)(s:Bb):(CO J [4,5,6,7] (Ea J [2,3] (CO J [0,1] (([.int .i64 0,.int .i64 0,.string ByteArray.empty,.string ByteArray.empty,.int .i64 0,.int .i64 0,.int .i64 0,.int .i64 0]:List Value),s))))=(H8 (Hk J s).1,(Hk J s).2):=by
 simp only[CO,Ea,Hk,Di,ABt,ABu]
theorem Aab(J:List UInt8)(s:Bb):(CO J [4,5,6] (CO J [3] (E9 J 2 (CO J [0,1] (([.int .i64 0,.int .i64 0,.bool false,.int .i64 0,.int .i64 0,.int .i64 0,.int .i64 0]:List Value),s)))))=(H9 (GG J s).1,(GG J s).2):=by
 simp only[CO,E9,GG,UL,Di,ABt,ABu]
theorem Aaq(J:List UInt8)(s:Bb):(Hy J 5 (CO J [0,1,2,3,4] (([.int .i64 0,.int .i64 0,.int .i64 0,.int .i64 0,.int .i64 0,.int .i64 0,.string ByteArray.empty,.string ByteArray.empty,.int .i64 0,.int .i64 0,.int .i64 0]:List Value),s)))=(Hh (GX J s).1,(GX J s).2):=by
 simp only[CO,Ea,Hy,GX,Wc,Di,ABt,ABu,Nat.reduceAdd]
theorem z1(J:List UInt8)(s:Bb)(XC:Value):(CO J [6,7,8,9] (C7 5 XC (CS J (Iu J)) (CO J [1,2,3,4] (Ea J [0] (([.string ByteArray.empty,.int .i64 0,.int .i64 0,.int .i64 0,.int .i64 0,.slice none 0 0,.int .i64 0,.int .i64 0,.int .i64 0,.int .i64 0]:List Value),s)))))=(A3 (F2 J s).1 XC,(F2 J s).2):=by
 simp only[CO,Ea,C7,F2,UO,UM,Di,ABt,ABu]
theorem z2(J:List UInt8)(s:Bb)(_:Value):(CS J (Iu J) (CO J [1,2,3,4] (Ea J [0] (([.string ByteArray.empty,.int .i64 0,.int .i64 0,.int .i64 0,.int .i64 0,.slice none 0 0,.int .i64 0,.int .i64 0,.int .i64 0,.int .i64 0]:List Value),s))).2).1=(F2 J s).1.A0:=by
 simp only[CO,Ea,C7,F2,UO,UM,Di,ABt,ABu]
theorem Aai(J:List UInt8)(s:Bb)(I' Ja Kf HS KF Ns:Value):(CO J [26,27,28] (C7 25 Ns (Gm J 65535) (Ga J 18 (Ga J 11 (C7 10 KF (CS J (HF J)) (C7 9 HS (CS J (Hk J)) (C7 8 Kf (CS J (GX J)) (C7 7 Ja (CS J (GG J)) (C7 6 I' (CS J (F2 J)) (CO J [5] (Ea J [3,4] (E9 J 2 (CO J [0,1] (([.int .i64 0,.int .i64 0,.bool false,.string ByteArray.empty,.string ByteArray.empty,.int .i64 0,.slice none 0 0,.slice none 0 0,.slice none 0 0,.slice none 0 0,.slice none 0 0,.int .i64 0,.int .i64 0,.int .i64 0,.string ByteArray.empty,.string ByteArray.empty,.int .i64 0,.int .i64 0,.int .i64 0,.int .i64 0,.int .i64 0,.string ByteArray.empty,.string ByteArray.empty,.int .i64 0,.int .i64 0,.slice none 0 0,.int .i64 0,.int .i64 0,.int .i64 0]:List Value),s))))))))))))))=(BY (FC J s).1 I' Ja Kf HS KF Ns,(FC J s).2):=by
 simp only[CO,Ea,E9,C7,Ga,FC,L_,L_,Di,ABt,ABu,Nat.reduceAdd]
theorem Aaj(J:List UInt8)(s:Bb)(_ _ _ _ _ _:Value):(CS J (F2 J) (CO J [5] (Ea J [3,4] (E9 J 2 (CO J [0,1] (([.int .i64 0,.int .i64 0,.bool false,.string ByteArray.empty,.string ByteArray.empty,.int .i64 0,.slice none 0 0,.slice none 0 0,.slice none 0 0,.slice none 0 0,.slice none 0 0,.int .i64 0,.int .i64 0,.int .i64 0,.string ByteArray.empty,.string ByteArray.empty,.int .i64 0,.int .i64 0,.int .i64 0,.int .i64 0,.int .i64 0,.string ByteArray.empty,.string ByteArray.empty,.int .i64 0,.int .i64 0,.slice none 0 0,.int .i64 0,.int .i64 0,.int .i64 0]:List Value),s))))).2).1=(FC J s).1.Aj:=by
 simp only[CO,Ea,E9,C7,Ga,FC,L_,L_,Di,ABt,ABu,Nat.reduceAdd]
theorem Aak(J:List UInt8)(s:Bb)(I' _ _ _ _ _:Value):(CS J (GG J) (C7 6 I' (CS J (F2 J)) (CO J [5] (Ea J [3,4] (E9 J 2 (CO J [0,1] (([.int .i64 0,.int .i64 0,.bool false,.string ByteArray.empty,.string ByteArray.empty,.int .i64 0,.slice none 0 0,.slice none 0 0,.slice none 0 0,.slice none 0 0,.slice none 0 0,.int .i64 0,.int .i64 0,.int .i64 0,.string ByteArray.empty,.string ByteArray.empty,.int .i64 0,.int .i64 0,.int .i64 0,.int .i64 0,.int .i64 0,.string ByteArray.empty,.string ByteArray.empty,.int .i64 0,.int .i64 0,.slice none 0 0,.int .i64 0,.int .i64 0,.int .i64 0]:List Value),s)))))).2).1=(FC J s).1.Bz:=by
 simp only[CO,Ea,E9,C7,Ga,FC,L_,L_,Di,ABt,ABu,Nat.reduceAdd]
theorem Aal(J:List UInt8)(s:Bb)(I' Ja _ _ _ _:Value):(CS J (GX J) (C7 7 Ja (CS J (GG J)) (C7 6 I' (CS J (F2 J)) (CO J [5] (Ea J [3,4] (E9 J 2 (CO J [0,1] (([.int .i64 0,.int .i64 0,.bool false,.string ByteArray.empty,.string ByteArray.empty,.int .i64 0,.slice none 0 0,.slice none 0 0,.slice none 0 0,.slice none 0 0,.slice none 0 0,.int .i64 0,.int .i64 0,.int .i64 0,.string ByteArray.empty,.string ByteArray.empty,.int .i64 0,.int .i64 0,.int .i64 0,.int .i64 0,.int .i64 0,.string ByteArray.empty,.string ByteArray.empty,.int .i64 0,.int .i64 0,.slice none 0 0,.int .i64 0,.int .i64 0,.int .i64 0]:List Value),s))))))).2).1=(FC J s).1.AA:=by
 simp only[CO,Ea,E9,C7,Ga,FC,L_,L_,Di,ABt,ABu,Nat.reduceAdd]
theorem Aam(J:List UInt8)(s:Bb)(I' Ja Kf _ _ _:Value):(CS J (Hk J) (C7 8 Kf (CS J (GX J)) (C7 7 Ja (CS J (GG J)) (C7 6 I' (CS J (F2 J)) (CO J [5] (Ea J [3,4] (E9 J 2 (CO J [0,1] (([.int .i64 0,.int .i64 0,.bool false,.string ByteArray.empty,.string ByteArray.empty,.int .i64 0,.slice none 0 0,.slice none 0 0,.slice none 0 0,.slice none 0 0,.slice none 0 0,.int .i64 0,.int .i64 0,.int .i64 0,.string ByteArray.empty,.string ByteArray.empty,.int .i64 0,.int .i64 0,.int .i64 0,.int .i64 0,.int .i64 0,.string ByteArray.empty,.string ByteArray.empty,.int .i64 0,.int .i64 0,.slice none 0 0,.int .i64 0,.int .i64 0,.int .i64 0]:List Value),s)))))))).2).1=(FC J s).1.Bj:=by
 simp only[CO,Ea,E9,C7,Ga,FC,L_,L_,Di,ABt,ABu,Nat.reduceAdd]
theorem Aan(J:List UInt8)(s:Bb)(I' Ja Kf HS _ _:Value):(CS J (HF J) (C7 9 HS (CS J (Hk J)) (C7 8 Kf (CS J (GX J)) (C7 7 Ja (CS J (GG J)) (C7 6 I' (CS J (F2 J)) (CO J [5] (Ea J [3,4] (E9 J 2 (CO J [0,1] (([.int .i64 0,.int .i64 0,.bool false,.string ByteArray.empty,.string ByteArray.empty,.int .i64 0,.slice none 0 0,.slice none 0 0,.slice none 0 0,.slice none 0 0,.slice none 0 0,.int .i64 0,.int .i64 0,.int .i64 0,.string ByteArray.empty,.string ByteArray.empty,.int .i64 0,.int .i64 0,.int .i64 0,.int .i64 0,.int .i64 0,.string ByteArray.empty,.string ByteArray.empty,.int .i64 0,.int .i64 0,.slice none 0 0,.int .i64 0,.int .i64 0,.int .i64 0]:List Value),s))))))))).2).1=(FC J s).1.CX:=by
 simp only[CO,Ea,E9,C7,Ga,FC,L_,L_,Di,ABt,ABu,Nat.reduceAdd]
theorem Aao(J:List UInt8)(s:Bb)(I' Ja Kf HS KF _:Value):(Gm J 65535 (Ga J 18 (Ga J 11 (C7 10 KF (CS J (HF J)) (C7 9 HS (CS J (Hk J)) (C7 8 Kf (CS J (GX J)) (C7 7 Ja (CS J (GG J)) (C7 6 I' (CS J (F2 J)) (CO J [5] (Ea J [3,4] (E9 J 2 (CO J [0,1] (([.int .i64 0,.int .i64 0,.bool false,.string ByteArray.empty,.string ByteArray.empty,.int .i64 0,.slice none 0 0,.slice none 0 0,.slice none 0 0,.slice none 0 0,.slice none 0 0,.int .i64 0,.int .i64 0,.int .i64 0,.string ByteArray.empty,.string ByteArray.empty,.int .i64 0,.int .i64 0,.int .i64 0,.int .i64 0,.int .i64 0,.string ByteArray.empty,.string ByteArray.empty,.int .i64 0,.int .i64 0,.slice none 0 0,.int .i64 0,.int .i64 0,.int .i64 0]:List Value),s)))))))))))).2).1=(FC J s).1.Cf:=by
 simp only[CO,Ea,E9,C7,Ga,FC,L_,L_,Di,ABt,ABu,Nat.reduceAdd]
end Go.Apw
namespace Go.Proofs.YtalfaopffbkdnaaGreat.XM
section
variable(By bv Bk:Value) (p:Nat) (J:List UInt8) (s:Bb) (b T:Nat) (cells:List Value) (q:List Value×Bb) (offs:List Nat) (o:Nat)
theorem NO(AH:q.2.pos<=J.length)(Cu:gQ q.1 offs)(Ao:offs.Nodup):Aw AG 223 [By,Bk] [AO b T q.1,CG p bv q.2] [⟨By,(⟨⟨p⟩⟩:Cq Gb)⟩,⟨bv,J⟩,⟨Bk,NW b offs⟩] (fun(_:Unit) _=>True) (fun _ _=>[AO b T (CO J offs q).1,CG p bv (CO J offs q).2]) (fun _ _=>[]):=
 qs By bv Bk p J q.2 b T q.1 offs AH Cu Ao
theorem cK(AH:q.2.pos<=J.length)(Cu:gR q.1 offs)(Ao:offs.Nodup):Aw AG 225 [By,Bk] [AO b T q.1,CG p bv q.2] [⟨By,(⟨⟨p⟩⟩:Cq Gb)⟩,⟨bv,J⟩,⟨Bk,NW b offs⟩] (fun(_:Unit) _=>True) (fun _ _=>[AO b T (Ea J offs q).1,CG p bv (Ea J offs q).2]) (fun _ _=>[]):=
 Akd By bv Bk p J q.2 b T q.1 offs AH Cu Ao
theorem zp(AH:q.2.pos<=J.length)(Cu:q.1[o]? =some (.int .i64 0)):Aw AG 288 [By,.pointer (some ⟨b,o,none⟩)] [AO b T q.1,CG p bv q.2] [⟨By,(⟨⟨p⟩⟩:Cq Gb)⟩,⟨bv,J⟩] (fun(_:Unit) _=>True) (fun _ _=>[AO b T (CO J [o] q).1,CG p bv (CO J [o] q).2]) (fun _ _=>[]):=
 zo By bv p J q.2 b T q.1 o AH Cu
theorem o0(AH:q.2.pos<=J.length)(Cu:q.1[o]? =some (.bool false)):Aw AG 224 [By,.pointer (some ⟨b,o,none⟩)] [AO b T q.1,CG p bv q.2] [⟨By,(⟨⟨p⟩⟩:Cq Gb)⟩,⟨bv,J⟩] (fun(_:Unit) _=>True) (fun _ _=>[AO b T (E9 J o q).1,CG p bv (E9 J o q).2]) (fun _ _=>[]):=
 zR By bv p J q.2 b T q.1 o AH Cu
theorem xP(u:Value)(AH:q.2.pos<=J.length)(Cu:q.1[o]? =some u):Aw AG 237 [By,.pointer (some ⟨b,o,none⟩)] [AO b T q.1,CG p bv q.2] [⟨By,(⟨⟨p⟩⟩:Cq Gb)⟩,⟨bv,J⟩,⟨u,([]:List UInt8)⟩] (fun(_:Value) _=>True) (fun y _=>[AO b T (C7 o y (Gm J 65535) q).1,CG p bv (C7 o y (Gm J 65535) q).2]) (fun y _=>[⟨y,(Gm J 65535 q.2).1⟩]):=
 nM By bv p J q.2 b T q.1 o u AH Cu
theorem Afy(AH:s.pos<=J.length)(bl:cells[o]? =some (.int .i64 0))(Tw:cells[o+1]? =some (.string ByteArray.empty))(PE:cells[o+2]? =some (.string ByteArray.empty))(WH:cells[o+3]? =some (.int .i64 0))(bm:cells[o+4]? =some (.int .i64 0))(bn:cells[o+5]? =some (.int .i64 0)):Aw AG 289 [By,.pointer (some ⟨b,o,none⟩)] [AO b T cells,CG p bv s] [⟨By,(⟨⟨p⟩⟩:Cq Gb)⟩,⟨bv,J⟩] (fun(_:Unit) _=>True) (fun _ _=>[AO b T (Hy J o (cells,s)).1,CG p bv (Hy J o (cells,s)).2]) (fun _ _=>[]):=by
 exact Aw.proof Tryz.func289 G 31 G G fun X w=>Ae<|U 4 G<|BH (xs:=[.tmp 7]) (us:=[.pointer (some ⟨b,o,none⟩)]) (E:=171) (bytes:=8) (n:=1) G (by exact HB) G G G G G G fun K0=>Q5 (NW b [o]) ([o].map fun o=>[.pointer (some ⟨b,o,none⟩)]) G (fun S w h=>Y5 S w _) (ABy G)<|Hs 2 (NO By bv _ p J b T (cells,s) [o] AH (by intro x Ab;simp only[ABf,ABh,ABi]at Ab;rcases Ab with rfl<;>first|assumption|(repeat first|rw[WJ (by simp only[ABf,ABh,ABi];omega)]|rw[Xi (by simp only[ABf,ABh,ABi];omega)]);assumption) (by simp)) (Ar G) G G (BE [1,2,0] G) G fun _ _ _=>Ac<|Am<|MM b [(o+1),(o+2)] [2,3,0] (fun u=>cK By bv u p J b T (CO J [o] (cells,s)) [(o+1),(o+2)] (Hw AH) (by intro x Ab;simp only[ABf,ABh,ABi]at Ab;rcases Ab with rfl|rfl<;>first|assumption|(repeat first|rw[WJ (by simp only[ABf,ABh,ABi];omega)]|rw[Xi (by simp only[ABf,ABh,ABi];omega)]);assumption) (by simp)) (Ar G) QO G G AGo (fun _=>G)<|A5<|MM b [(o+3),(o+4),(o+5)] [2,3,0] (fun u=>NO By bv u p J b T (Ea J [(o+1),(o+2)] (CO J [o] (cells,s))) [(o+3),(o+4),(o+5)] (MP (Hw AH)) (by intro x Ab;simp only[ABf,ABh,ABi]at Ab;rcases Ab with rfl|rfl|rfl<;>first|assumption|(repeat first|rw[WJ (by simp only[ABf,ABh,ABi];omega)]|rw[Xi (by simp only[ABf,ABh,ABi];omega)]);assumption) (by simp)) (Ar G) HB G G AGo (fun _=>G)<|Dz () G trivial G Aa
theorem Ahy(AH:s.pos<=J.length)(bl:cells[o]? =some (.int .i64 0))(Tw:cells[o+1]? =some (.int .i64 0))(PE:cells[o+2]? =some (.int .i64 0))(WH:cells[o+3]? =some (.string ByteArray.empty))(bm:cells[o+4]? =some (.string ByteArray.empty))(bn:cells[o+5]? =some (.int .i64 0))(qg:cells[o+6]? =some (.int .i64 0)):Aw AG 236 [By,.pointer (some ⟨b,o,none⟩)] [AO b T cells,CG p bv s] [⟨By,(⟨⟨p⟩⟩:Cq Gb)⟩,⟨bv,J⟩] (fun(_:Unit) _=>True) (fun _ _=>[AO b T (Ga J o (cells,s)).1,CG p bv (Ga J o (cells,s)).2]) (fun _ _=>[]):=by
 exact Aw.proof Tryz.func236 G 34 G G fun X w=>Am<|MM b [o,(o+1),(o+2)] [1,2,0] (fun u=>NO By bv u p J b T (cells,s) [o,(o+1),(o+2)] AH (by intro x Ab;simp only[ABf,ABh,ABi]at Ab;rcases Ab with rfl|rfl|rfl<;>first|assumption|(repeat first|rw[WJ (by simp only[ABf,ABh,ABi];omega)]|rw[Xi (by simp only[ABf,ABh,ABi];omega)]);assumption) (by simp)) (Ar G) HB G G AGo (fun _=>G)<|A5<|Am<|MM b [(o+3),(o+4)] [1,2,0] (fun u=>cK By bv u p J b T (CO J [o,(o+1),(o+2)] (cells,s)) [(o+3),(o+4)] (Hw AH) (by intro x Ab;simp only[ABf,ABh,ABi]at Ab;rcases Ab with rfl|rfl<;>first|assumption|(repeat first|rw[WJ (by simp only[ABf,ABh,ABi];omega)]|rw[Xi (by simp only[ABf,ABh,ABi];omega)]);assumption) (by simp)) (Ar G) QO G G AGo (fun _=>G)<|A5<|MM b [(o+5),(o+6)] [1,2,0] (fun u=>NO By bv u p J b T (Ea J [(o+3),(o+4)] (CO J [o,(o+1),(o+2)] (cells,s))) [(o+5),(o+6)] (MP (Hw AH)) (by intro x Ab;simp only[ABf,ABh,ABi]at Ab;rcases Ab with rfl|rfl<;>first|assumption|(repeat first|rw[WJ (by simp only[ABf,ABh,ABi];omega)]|rw[Xi (by simp only[ABf,ABh,ABi];omega)]);assumption) (by simp)) (Ar G) HB G G AGo (fun _=>G)<|Dz () G trivial G Aa
theorem Afz(AH:q.2.pos<=J.length)(bl:q.1[o]? =some (.int .i64 0))(Tw:q.1[o+1]? =some (.string ByteArray.empty))(PE:q.1[o+2]? =some (.string ByteArray.empty))(WH:q.1[o+3]? =some (.int .i64 0))(bm:q.1[o+4]? =some (.int .i64 0))(bn:q.1[o+5]? =some (.int .i64 0)):Aw AG 289 [By,.pointer (some ⟨b,o,none⟩)] [AO b T q.1,CG p bv q.2] [⟨By,(⟨⟨p⟩⟩:Cq Gb)⟩,⟨bv,J⟩] (fun(_:Unit) _=>True) (fun _ _=>[AO b T (Hy J o q).1,CG p bv (Hy J o q).2]) (fun _ _=>[]):=
 Afy By bv p J q.2 b T q.1 o AH bl Tw PE WH bm bn
theorem sk(AH:q.2.pos<=J.length)(bl:q.1[o]? =some (.int .i64 0))(Tw:q.1[o+1]? =some (.int .i64 0))(PE:q.1[o+2]? =some (.int .i64 0))(WH:q.1[o+3]? =some (.string ByteArray.empty))(bm:q.1[o+4]? =some (.string ByteArray.empty))(bn:q.1[o+5]? =some (.int .i64 0))(qg:q.1[o+6]? =some (.int .i64 0)):Aw AG 236 [By,.pointer (some ⟨b,o,none⟩)] [AO b T q.1,CG p bv q.2] [⟨By,(⟨⟨p⟩⟩:Cq Gb)⟩,⟨bv,J⟩] (fun(_:Unit) _=>True) (fun _ _=>[AO b T (Ga J o q).1,CG p bv (Ga J o q).2]) (fun _ _=>[]):=
 Ahy By bv p J q.2 b T q.1 o AH bl Tw PE WH bm bn qg
theorem Ab4(AH:s.pos<=J.length):Aw AG 287 [By,.pointer (some ⟨b,0,none⟩)] [AO b 83 vx,CG p bv s] [⟨By,(⟨⟨p⟩⟩:Cq Gb)⟩,⟨bv,J⟩] (fun(_:Unit) _=>True) (fun _ _=>[AO b 83 (JH (Iu J s).1),CG p bv (Iu J s).2]) (fun _ _=>[]):=by
 exact Aw.proof Tryz.func287 G 19 G G fun X w=>MM b [0,1,2,3] [1,2,0] (fun u=>NO By bv u p J b 83 (vx,s) [0,1,2,3] AH (SL G) AGp) (Ar G) HB G G AGo (fun _=>G)<|Dz () G trivial (by simp only[z9,ABU,ABK]<;>rfl) Aa
theorem y0(AH:s.pos<=J.length):Aw AG 235 [By,.pointer (some ⟨b,0,none⟩)] [AO b 125 vy,CG p bv s] [⟨By,(⟨⟨p⟩⟩:Cq Gb)⟩,⟨bv,J⟩] (fun(_:Unit) _=>True) (fun _ _=>[AO b 125 (QT (HF J s).1),CG p bv (HF J s).2]) (fun _ _=>[]):=by
 exact Aw.proof Tryz.func235 G 13 G G fun X w=>MM b [0,1] [1,2,0] (fun u=>NO By bv u p J b 125 (vy,s) [0,1] AH (SL G) AGp) (Ar G) HB G G AGo (fun _=>G)<|Dz () G trivial (by simp only[z7,ABU,ABK]<;>rfl) Aa
theorem yv(AH:s.pos<=J.length):Aw AG 233 [By,.pointer (some ⟨b,0,none⟩)] [AO b 52 XH,CG p bv s] [⟨By,(⟨⟨p⟩⟩:Cq Gb)⟩,⟨bv,J⟩] (fun(_:Unit) _=>True) (fun _ _=>[AO b 52 (H8 (Hk J s).1),CG p bv (Hk J s).2]) (fun _ _=>[]):=by
 exact Aw.proof Tryz.func233 G 37 G G fun X w=>Am<|MM b [0,1] [1,2,0] (fun u=>NO By bv u p J b 52 (XH,s) [0,1] AH (SL G) AGp) (Ar G) HB G G AGo (fun _=>G)<|A5<|Am<|MM b [2,3] [1,2,0] (fun u=>cK By bv u p J b 52 (CO J [0,1] (XH,s)) [2,3] (Hw AH) (vr G) AGp) (Ar G) QO G G AGo (fun _=>G)<|A5<|MM b [4,5,6,7] [1,2,0] (fun u=>NO By bv u p J b 52 (Ea J [2,3] (CO J [0,1] (XH,s))) [4,5,6,7] (MP (Hw AH)) (SL G) AGp) (Ar G) HB G G AGo (fun _=>G)<|Dz () G trivial (by simp only[z5,ABU,ABK]<;>rfl) Aa
theorem Aeb(AH:s.pos<=J.length):Aw AG 229 [By,.pointer (some ⟨b,0,none⟩)] [AO b 54 dh,CG p bv s] [⟨By,(⟨⟨p⟩⟩:Cq Gb)⟩,⟨bv,J⟩] (fun(_:Unit) _=>True) (fun _ _=>[AO b 54 (H9 (GG J s).1),CG p bv (GG J s).2]) (fun _ _=>[]):=by
 exact Aw.proof Tryz.func229 G 39 G G fun X w=>Am<|MM b [0,1] [1,2,0] (fun u=>NO By bv u p J b 54 (dh,s) [0,1] AH (SL G) AGp) (Ar G) HB G G AGo (fun _=>G)<|A5<|Ae<|U 4 G<|Hs 2 (o0 By bv p J b 54 (CO J [0,1] (dh,s)) 2 (Hw AH) G) (Ar G) G G (BE [0,1] G) G fun _ _ _=>Ac<|Ae<|U 5 G<|Hs 2 (zp By bv p J b 54 (E9 J 2 (CO J [0,1] (dh,s))) 3 (Pw (Hw AH)) G) (Ar G) G G (BE [0,1] G) G fun _ _ _=>Ac<|MM b [4,5,6] [1,2,0] (fun u=>NO By bv u p J b 54 (CO J [3] (E9 J 2 (CO J [0,1] (dh,s)))) [4,5,6] (Hb (Pw (Hw AH))) (SL G) AGp) (Ar G) HB G G AGo (fun _=>G)<|Dz () G trivial (by simp only[Aab,ABU,ABK]<;>rfl) Aa
theorem Ak5(AH:s.pos<=J.length):Aw AG 231 [By,.pointer (some ⟨b,0,none⟩)] [AO b 50 gU,CG p bv s] [⟨By,(⟨⟨p⟩⟩:Cq Gb)⟩,⟨bv,J⟩] (fun(_:Unit) _=>True) (fun _ _=>[AO b 50 (Hh (GX J s).1),CG p bv (GX J s).2]) (fun _ _=>[]):=by
 exact Aw.proof Tryz.func231 G 27 G G fun X w=>Am<|MM b [0,1,2,3,4] [1,2,0] (fun u=>NO By bv u p J b 50 (gU,s) [0,1,2,3,4] AH (SL G) AGp) (Ar G) HB G G AGo (fun _=>G)<|A5<|rg<|U 4 G<|Hs 2 (Afz By bv p J b 50 (CO J [0,1,2,3,4] (gU,s)) 5 (Hw AH) G G G G G G) (Ar G) G G (BE [0,1] G) G fun _ _ _=>nl<|Dz () G trivial (by simp only[Aaq,ABU,ABK]<;>rfl) Aa
end
section
attribute [local irreducible] UO UM Iu UL Wc L_ HF GG Hk GX F2 FC D6 Gm Kw DT
variable(By bv:Value) (p:Nat) (J:List UInt8) (B3:Bb) (b T:Nat) (q:List Value×Bb) (cells:List Value) (o:Nat)
theorem AdF(AH:B3.pos<=J.length)(Cu:cells[o]? =some AI):Aw AG 286 [By,.pointer (some ⟨b,o,none⟩),.func (.func 287) #[By] #[]] [AO b T cells,CG p bv B3] [⟨By,(⟨⟨p⟩⟩:Cq Gb)⟩,⟨bv,J⟩] (fun(_:Value) _=>True) (fun y _=>[AO b T (cells.set o y),CG p bv (CS J (Iu J) B3).2]) (fun y _=>[⟨y,(CS J (Iu J) B3).1⟩]):=by
 refine Aw.proof Tryz.func286 G 80 G G fun X w=>?_;obtain⟨GD,rfl⟩:∃GD:List Value,cells=GD.set o AI:=⟨cells,(TW Cu).symm⟩;have A7:o<GD.length:=by have:=Rj Cu;rwa [ABj]at this
 have aM:=W9 J B3;refine Am<|Ae<|An G G<|Ch 1 (Oz By bv p B3) (Ar G) G G (Ad 0 G Aa) G fun _ v11 Ct=>?_;have Ct:v11=.bool (Ml B3):=Ct;subst Ct;refine Ac<|BN G (fun Ct=>?_) (fun Ct=>?_)
 ·
  have BI:=(N2 B3).1 Ct;exact DJ (α:=BD)<|BA<|Ej AI G trivial (by simp only[Qw BI,ABL,ABU,ABK];rfl) (by rw[Qw BI];exact(Bg.cons 0 rfl Bg.nil))
 ·
  refine AZ<|Am<|Ae<|An G G<|Co 0 G G G<|CJ 0 Ku G G (BR G) G fun PS=>CQ 0 G G (A2 G) G fun N6=>M3 AB1 G G G<|Ac<|LW G<|AZ<|Ae<|An G G<|Co 1 G G G<|CJ 1 Ku G G (BR G) G fun T8=>CQ 0 G G (A2 G) G fun Vt=>Ch 1 (MW.X0 p bv J B3 1024 BV AH) (Ar G) G G (Ad 3 G Aa) G fun _ QB JS=>?_;have JS:QB=.int .i64 ((DT J 1024 B3).1:Int):=JS;subst JS;refine U 1 G<|Ac<|AF 1 G<|B5<|Lk BD 83<|Hx (σ:=Nat×Value×List BD×Bb) [(0,_),(1,_),(2,_),(7,_)] _ (fun i C=>(8,.int .i64 (i.1:Int))::C) (fun i=>[row 83 i.2.1 i.2.2.1,AO b T (GD.set o i.2.1),CG p bv i.2.2.2,CL X w]) (fun _ Dw=>Dw) (fun i=>i.1<=(DT J 1024 B3).1/\i.2.2.1.length=i.1/\i.2.2.2.pos<=J.length/\CS J (Iu J) B3=(i.2.2.1++(GI (Iu J) ((DT J 1024 B3).1-i.1) i.2.2.2).1,(GI (Iu J) ((DT J 1024 B3).1-i.1) i.2.2.2).2)) (fun i=>(DT J 1024 B3).1-i.1) (0,.slice none 0 0,[],(DT J 1024 B3).2) (Bs G) (Ad 2 G (Ad 3 G Aa)) ⟨ABg _,G,W_ AH,G⟩ (Bs G) G (Ad 2 G (Ad 3 G Aa)) ?_;rintro⟨i,Fv,acc,s⟩ ⟨Ag,AN,hs,he⟩;simp only at Ag AN hs he;refine Am<|Ae<|U 4 G ?_;refine D4 63 4 [0,1,2,7,8] G G (fun Of QE=>by
   have b7:=ABA Of;refine U 1 G<|Bl G G G<|Ch 2 (Oz By bv p s) (Ar G) G G (Ad 0 G Aa) G fun _ RC Ju=>?_;have Ju:RC=.bool (Ml s):=Ju;subst Ju;exact U 2 G<|QE G Br) ?_
  refine Ac<|BN G (fun JT=>?_) (fun JT=>?_)
  ·
   have HK:=JT;simp at HK;obtain⟨Ey,Ez⟩:=HK;have BI:=(Xf s).1 Ez;have Qa:[(Iu J s).1].length=1:=rfl;refine AZ<|Am<|B5<|Ae<|CT Um G fun H7=>Ac<|Ae<|An G G<|D9 3 G<|D9 1 G<|VX 2 (Ab4 By bv p J s H7 hs) (Ar G) G G G G (BE [0,1] G) G fun _ _ _=>?_;refine Ac<|Vh (L:=[AO H7 83 (JH (Iu J s).1),CG p bv (Iu J s).2,row 83 Fv acc,AO b T (GD.set o Fv),CL X w]) [(4,.NQ 0)] [(3,⟨some (Fv),fun _=>[],false⟩),(5,⟨none,fun u=>[⟨u,[(Iu J s).1]⟩],false⟩),(6,⟨none,fun _=>[],true⟩),(8,⟨none,fun _=>[],true⟩)] [] [] [(6,fun L Gz=>NZ 2 (row 83 (Gz 6) (acc++[(Iu J s).1])) L),(8,fun L Gz=>NZ 1 (AO b T ((GD.set o Fv).set o (Gz 6))) L)] (fun _=>G) (fun _=>AGo) ⟨fun V Az _=>GK (ME 3 G G (A2 G) (Zg A7) G<|GH G G G G),fun V Az _=>GK (Lw G S1 G G G G fun Z0=>KJ (α:=BD) (Iu J s).1 (fun S w h=>⟨(),G,by simp,z_ J s⟩)<|nl (Ig G G G trivial (Ad 0 G Aa) (Bg.tail Br))),fun V Az _=>GK (ap 2 0 G G G G S1 AGn AGn G fun Zr=>nl (Ig G G G trivial Aa (Bg.tail Br))),fun V Az _=>GK (IL 3 2 G G G G (A2 G) (by rw[ABj];exact A7)<|nl (YW G G Br)),trivial⟩ fun V _=>Vu [1,2] G<|?_;generalize V 6=v0;refine CU<|A5<|rg<|An G G<|C5 G G BV G<|U 1 G<|nl<|AQ<|Au 2 G<|Au 2 G ?_;exact Dy ((i+1,v0,acc++[(Iu J s).1],(Iu J s).2):Nat×Value×List BD×Bb) ⟨AGn,by simp[AN],ik hs,Y' AGn BI he⟩ (by show _-_<_-_;omega) (Bs G) (by simp only[ABL];rfl) (BE [0,1] G)
  ·
   have HK:=JT;simp at HK;have Fx:GI (Iu J) ((DT J 1024 B3).1-i) s=([],s):=by
    by_cases BI:s.fault=0
    ·
     by_cases C_:i<(DT J 1024 B3).1
     · exact absurd BI ((N2 s).1 (HK AGn))
     ·
      have e:(DT J 1024 B3).1-i=0:=AGn;rw[e];rfl
    · exact Za BI _
   rw[Fx]at he;simp only[AB7]at he;exact ex<|Ck<|Ck<|D7<|K5<|Dz Fv G trivial (by simp only[he,ABL,ABU,ABK]<;>rfl) (by simp only[he];exact(Bg.cons 0 rfl Bg.nil))
theorem AdG(AH:q.2.pos<=J.length)(Cu:q.1[o]? =some AI):Aw AG 286 [By,.pointer (some ⟨b,o,none⟩),.func (.func 287) #[By] #[]] [AO b T q.1,CG p bv q.2] [⟨By,(⟨⟨p⟩⟩:Cq Gb)⟩,⟨bv,J⟩] (fun(_:Value) _=>True) (fun y _=>[AO b T (C7 o y (CS J (Iu J)) q).1,CG p bv (C7 o y (CS J (Iu J)) q).2]) (fun y _=>[⟨y,(CS J (Iu J) q.2).1⟩]):=
 AdF By bv p J q.2 b T q.1 o AH Cu
theorem wN(s:Bb)(b:Nat)(AH:s.pos<=J.length):Aw AG 227 [By,.pointer (some ⟨b,0,none⟩)] [AO b 73 N9,CG p bv s] [⟨By,(⟨⟨p⟩⟩:Cq Gb)⟩,⟨bv,J⟩] (fun(_:Value) _=>True) (fun y _=>[AO b 73 (A3 (F2 J s).1 y),CG p bv (F2 J s).2]) (fun y _=>[⟨y,(F2 J s).1.A0⟩]):=by
 exact Aw.proof Tryz.func227 G 53 G G fun X w=>Ae<|U 4 G<|BH (xs:=[.tmp 7]) (us:=[.pointer (some ⟨b,0,none⟩)]) (E:=175) (bytes:=8) (n:=1) G (by exact QO) G G G G G G fun K0=>Q5 (NW b [0]) ([0].map fun o=>[.pointer (some ⟨b,o,none⟩)]) G (fun S w h=>Y5 S w _) (ABy G)<|Hs 2 (cK By bv _ p J b 73 (N9,s) [0] AH (by intro x Ab;simp only[ABf,ABh,ABi]at Ab;rcases Ab with rfl<;>rfl) AGp) (Ar G) G G (BE [1,2,0] G) G fun _ _ _=>Ac<|Am<|MM b [1,2,3,4] [2,3,0] (fun u=>NO By bv u p J b 73 (Ea J [0] (N9,s)) [1,2,3,4] (MP AH) (SL G) AGp) (Ar G) HB G G AGo (fun _=>G)<|A5<|Ae<|U 5 G<|Ql (ys:=[.tmp 31]) (xs:=[]) G G G<|Hs 2 (AdG By bv p J b 73 (CO J [1,2,3,4] (Ea J [0] (N9,s))) 5 (Hw (MP AH)) G) (Ar G) G G (BE [1,2] G) G fun XC _ _=>Ac<|MM b [6,7,8,9] [3,4,0] (fun u=>NO By bv u p J b 73 (C7 5 XC (CS J (Iu J)) (CO J [1,2,3,4] (Ea J [0] (N9,s)))) [6,7,8,9] (Ik (Ij (fun _ hh=>ik hh) (Hw (MP AH)))) (SL G) AGp) (Ar G) HB G G AGo (fun _=>G)<|Dz XC G trivial (by simp only[z1,ABU,ABK]<;>rfl) (by rw[<-z2 J s XC];exact(Bg.cons 0 rfl Bg.nil))
theorem Adw(AH:B3.pos<=J.length)(Cu:cells[o]? =some AI):Aw AG 226 [By,.pointer (some ⟨b,o,none⟩),.func (.func 227) #[By] #[]] [AO b T cells,CG p bv B3] [⟨By,(⟨⟨p⟩⟩:Cq Gb)⟩,⟨bv,J⟩] (fun(_:Value) _=>True) (fun y _=>[AO b T (cells.set o y),CG p bv (CS J (F2 J) B3).2]) (fun y _=>[⟨y,(CS J (F2 J) B3).1⟩]):=by
 refine Aw.proof Tryz.func226 G 80 G G fun X w=>?_;obtain⟨GD,rfl⟩:∃GD:List Value,cells=GD.set o AI:=⟨cells,(TW Cu).symm⟩;have A7:o<GD.length:=by have:=Rj Cu;rwa [ABj]at this
 have aM:=W9 J B3;refine Am<|Ae<|An G G<|Ch 1 (Oz By bv p B3) (Ar G) G G (Ad 0 G Aa) G fun _ v11 Ct=>?_;have Ct:v11=.bool (Ml B3):=Ct;subst Ct;refine Ac<|BN G (fun Ct=>?_) (fun Ct=>?_)
 ·
  have BI:=(N2 B3).1 Ct;exact DJ (α:=AD)<|BA<|Ej AI G trivial (by simp only[Qw BI,ABL,ABU,ABK];rfl) (by rw[Qw BI];exact(Bg.cons 0 rfl Bg.nil))
 ·
  refine AZ<|Am<|Ae<|An G G<|Co 0 G G G<|CJ 0 Ku G G (BR G) G fun PS=>CQ 0 G G (A2 G) G fun N6=>M3 AB1 G G G<|Ac<|LW G<|AZ<|Ae<|An G G<|Co 1 G G G<|CJ 1 Ku G G (BR G) G fun T8=>CQ 0 G G (A2 G) G fun Vt=>Ch 1 (MW.X0 p bv J B3 1024 BV AH) (Ar G) G G (Ad 3 G Aa) G fun _ QB JS=>?_;have JS:QB=.int .i64 ((DT J 1024 B3).1:Int):=JS;subst JS;refine U 1 G<|Ac<|AF 1 G<|B5<|Lk AD 73<|Hx (σ:=Nat×Value×List AD×Bb) [(0,_),(1,_),(2,_),(7,_)] _ (fun i C=>(8,.int .i64 (i.1:Int))::C) (fun i=>[row 73 i.2.1 i.2.2.1,AO b T (GD.set o i.2.1),CG p bv i.2.2.2,CL X w]) (fun _ Dw=>Dw) (fun i=>i.1<=(DT J 1024 B3).1/\i.2.2.1.length=i.1/\i.2.2.2.pos<=J.length/\CS J (F2 J) B3=(i.2.2.1++(GI (F2 J) ((DT J 1024 B3).1-i.1) i.2.2.2).1,(GI (F2 J) ((DT J 1024 B3).1-i.1) i.2.2.2).2)) (fun i=>(DT J 1024 B3).1-i.1) (0,.slice none 0 0,[],(DT J 1024 B3).2) (Bs G) (Ad 2 G (Ad 3 G Aa)) ⟨ABg _,G,W_ AH,G⟩ (Bs G) G (Ad 2 G (Ad 3 G Aa)) ?_;rintro⟨i,Fv,acc,s⟩ ⟨Ag,AN,hs,he⟩;simp only at Ag AN hs he;refine Am<|Ae<|U 4 G ?_;refine D4 63 4 [0,1,2,7,8] G G (fun Of QE=>by
   have b7:=ABA Of;refine U 1 G<|Bl G G G<|Ch 2 (Oz By bv p s) (Ar G) G G (Ad 0 G Aa) G fun _ RC Ju=>?_;have Ju:RC=.bool (Ml s):=Ju;subst Ju;exact U 2 G<|QE G Br) ?_
  refine Ac<|BN G (fun JT=>?_) (fun JT=>?_)
  ·
   have HK:=JT;simp at HK;obtain⟨Ey,Ez⟩:=HK;have BI:=(Xf s).1 Ez;have Qa:[(F2 J s).1].length=1:=rfl;refine AZ<|Am<|B5<|Ae<|CT Hd G fun H7=>Ac<|Ae<|An G G<|D9 3 G<|D9 1 G<|VX 2 (wN By bv p J s H7 hs) (Ar G) G G G G (BE [0,1] G) G fun XD _ _=>?_;refine Ac<|Vh (L:=[AO H7 73 (A3 (F2 J s).1 XD),CG p bv (F2 J s).2,row 73 Fv acc,AO b T (GD.set o Fv),CL X w]) [(4,.NQ 0)] [(3,⟨some (Fv),fun _=>[],false⟩),(5,⟨none,fun u=>[⟨u,[(F2 J s).1]⟩],false⟩),(6,⟨none,fun _=>[],true⟩),(8,⟨none,fun _=>[],true⟩)] [] [] [(6,fun L Gz=>NZ 2 (row 73 (Gz 6) (acc++[(F2 J s).1])) L),(8,fun L Gz=>NZ 1 (AO b T ((GD.set o Fv).set o (Gz 6))) L)] (fun _=>G) (fun _=>AGo) ?_ fun V _=>?_
   ·
    refine⟨fun V Az _=>GK (ME 3 G G (A2 G) (Zg A7) G<|GH G G G G),?_⟩;refine⟨fun V Az _=>GK ?_,?_⟩
    ·
     refine Lw G OI G G G G fun Z0=>?_;refine KJ (α:=AD) (F2 J s).1 (fun S w h=>⟨XD,G,fun t Av=>by
       simp only[ABf,ABh,ABi]at Av;subst Av;exact h _ (AA' (i:=0) G),o9 J s⟩) ?_
     exact nl (Ig G G G trivial (Ad 0 G Aa) (Bg.tail Br))
    exact⟨fun V Az _=>GK (ap 2 0 G G G G OI AGn AGn G fun Zr=>nl (Ig G G G trivial Aa (Bg.tail Br))),fun V Az _=>GK (IL 3 2 G G G G (A2 G) (by rw[ABj];exact A7)<|nl (YW G G Br)),trivial⟩
   ·
    refine Vu [1,2,3] G<|?_;generalize V 6=v0;refine CU<|A5<|rg<|An G G<|C5 G G BV G<|U 1 G<|nl<|AQ<|Au 2 G<|Au 2 G ?_;exact Dy ((i+1,v0,acc++[(F2 J s).1],(F2 J s).2):Nat×Value×List AD×Bb) ⟨AGn,by simp[AN],Td hs,Y' AGn BI he⟩ (by show _-_<_-_;omega) (Bs G) (by simp only[ABL];rfl) (BE [1,2] G)
  ·
   have HK:=JT;simp at HK;have Fx:GI (F2 J) ((DT J 1024 B3).1-i) s=([],s):=by
    by_cases BI:s.fault=0
    ·
     by_cases C_:i<(DT J 1024 B3).1
     · exact absurd BI ((N2 s).1 (HK AGn))
     ·
      have e:(DT J 1024 B3).1-i=0:=AGn;rw[e];rfl
    · exact Za BI _
   rw[Fx]at he;simp only[AB7]at he;exact ex<|Ck<|Ck<|D7<|K5<|Dz Fv G trivial (by simp only[he,ABL,ABU,ABK]<;>rfl) (by simp only[he];exact(Bg.cons 0 rfl Bg.nil))
theorem Adx(AH:q.2.pos<=J.length)(Cu:q.1[o]? =some AI):Aw AG 226 [By,.pointer (some ⟨b,o,none⟩),.func (.func 227) #[By] #[]] [AO b T q.1,CG p bv q.2] [⟨By,(⟨⟨p⟩⟩:Cq Gb)⟩,⟨bv,J⟩] (fun(_:Value) _=>True) (fun y _=>[AO b T (C7 o y (CS J (F2 J)) q).1,CG p bv (C7 o y (CS J (F2 J)) q).2]) (fun y _=>[⟨y,(CS J (F2 J) q.2).1⟩]):=
 Adw By bv p J q.2 b T q.1 o AH Cu
theorem AdJ(AH:B3.pos<=J.length)(Cu:cells[o]? =some AI):Aw AG 228 [By,.pointer (some ⟨b,o,none⟩),.func (.func 229) #[By] #[]] [AO b T cells,CG p bv B3] [⟨By,(⟨⟨p⟩⟩:Cq Gb)⟩,⟨bv,J⟩] (fun(_:Value) _=>True) (fun y _=>[AO b T (cells.set o y),CG p bv (CS J (GG J) B3).2]) (fun y _=>[⟨y,(CS J (GG J) B3).1⟩]):=by
 refine Aw.proof Tryz.func228 G 80 G G fun X w=>?_;obtain⟨GD,rfl⟩:∃GD:List Value,cells=GD.set o AI:=⟨cells,(TW Cu).symm⟩;have A7:o<GD.length:=by have:=Rj Cu;rwa [ABj]at this
 have aM:=W9 J B3;refine Am<|Ae<|An G G<|Ch 1 (Oz By bv p B3) (Ar G) G G (Ad 0 G Aa) G fun _ v11 Ct=>?_;have Ct:v11=.bool (Ml B3):=Ct;subst Ct;refine Ac<|BN G (fun Ct=>?_) (fun Ct=>?_)
 ·
  have BI:=(N2 B3).1 Ct;exact DJ (α:=BL)<|BA<|Ej AI G trivial (by simp only[Qw BI,ABL,ABU,ABK];rfl) (by rw[Qw BI];exact(Bg.cons 0 rfl Bg.nil))
 ·
  refine AZ<|Am<|Ae<|An G G<|Co 0 G G G<|CJ 0 Ku G G (BR G) G fun PS=>CQ 0 G G (A2 G) G fun N6=>M3 AB1 G G G<|Ac<|LW G<|AZ<|Ae<|An G G<|Co 1 G G G<|CJ 1 Ku G G (BR G) G fun T8=>CQ 0 G G (A2 G) G fun Vt=>Ch 1 (MW.X0 p bv J B3 1024 BV AH) (Ar G) G G (Ad 3 G Aa) G fun _ QB JS=>?_;have JS:QB=.int .i64 ((DT J 1024 B3).1:Int):=JS;subst JS;refine U 1 G<|Ac<|AF 1 G<|B5<|Lk BL 54<|Hx (σ:=Nat×Value×List BL×Bb) [(0,_),(1,_),(2,_),(7,_)] _ (fun i C=>(8,.int .i64 (i.1:Int))::C) (fun i=>[row 54 i.2.1 i.2.2.1,AO b T (GD.set o i.2.1),CG p bv i.2.2.2,CL X w]) (fun _ Dw=>Dw) (fun i=>i.1<=(DT J 1024 B3).1/\i.2.2.1.length=i.1/\i.2.2.2.pos<=J.length/\CS J (GG J) B3=(i.2.2.1++(GI (GG J) ((DT J 1024 B3).1-i.1) i.2.2.2).1,(GI (GG J) ((DT J 1024 B3).1-i.1) i.2.2.2).2)) (fun i=>(DT J 1024 B3).1-i.1) (0,.slice none 0 0,[],(DT J 1024 B3).2) (Bs G) (Ad 2 G (Ad 3 G Aa)) ⟨ABg _,G,W_ AH,G⟩ (Bs G) G (Ad 2 G (Ad 3 G Aa)) ?_;rintro⟨i,Fv,acc,s⟩ ⟨Ag,AN,hs,he⟩;simp only at Ag AN hs he;refine Am<|Ae<|U 4 G ?_;refine D4 63 4 [0,1,2,7,8] G G (fun Of QE=>by
   have b7:=ABA Of;refine U 1 G<|Bl G G G<|Ch 2 (Oz By bv p s) (Ar G) G G (Ad 0 G Aa) G fun _ RC Ju=>?_;have Ju:RC=.bool (Ml s):=Ju;subst Ju;exact U 2 G<|QE G Br) ?_
  refine Ac<|BN G (fun JT=>?_) (fun JT=>?_)
  ·
   have HK:=JT;simp at HK;obtain⟨Ey,Ez⟩:=HK;have BI:=(Xf s).1 Ez;have Qa:[(GG J s).1].length=1:=rfl;refine AZ<|Am<|B5<|Ae<|CT SN G fun H7=>Ac<|Ae<|An G G<|D9 3 G<|D9 1 G<|VX 2 (Aeb By bv p J s H7 hs) (Ar G) G G G G (BE [0,1] G) G fun _ _ _=>?_;refine Ac<|Vh (L:=[AO H7 54 (H9 (GG J s).1),CG p bv (GG J s).2,row 54 Fv acc,AO b T (GD.set o Fv),CL X w]) [(4,.NQ 0)] [(3,⟨some (Fv),fun _=>[],false⟩),(5,⟨none,fun u=>[⟨u,[(GG J s).1]⟩],false⟩),(6,⟨none,fun _=>[],true⟩),(8,⟨none,fun _=>[],true⟩)] [] [] [(6,fun L Gz=>NZ 2 (row 54 (Gz 6) (acc++[(GG J s).1])) L),(8,fun L Gz=>NZ 1 (AO b T ((GD.set o Fv).set o (Gz 6))) L)] (fun _=>G) (fun _=>AGo) ⟨fun V Az _=>GK (ME 3 G G (A2 G) (Zg A7) G<|GH G G G G),fun V Az _=>GK (Lw G QN G G G G fun Z0=>KJ (α:=BL) (GG J s).1 (fun S w h=>⟨(),G,by simp,o_ J s⟩)<|nl (Ig G G G trivial (Ad 0 G Aa) (Bg.tail Br))),fun V Az _=>GK (ap 2 0 G G G G QN AGn AGn G fun Zr=>nl (Ig G G G trivial Aa (Bg.tail Br))),fun V Az _=>GK (IL 3 2 G G G G (A2 G) (by rw[ABj];exact A7)<|nl (YW G G Br)),trivial⟩ fun V _=>Vu [1,2] G<|?_;generalize V 6=v0;refine CU<|A5<|rg<|An G G<|C5 G G BV G<|U 1 G<|nl<|AQ<|Au 2 G<|Au 2 G ?_;exact Dy ((i+1,v0,acc++[(GG J s).1],(GG J s).2):Nat×Value×List BL×Bb) ⟨AGn,by simp[AN],UN hs,Y' AGn BI he⟩ (by show _-_<_-_;omega) (Bs G) (by simp only[ABL];rfl) (BE [0,1] G)
  ·
   have HK:=JT;simp at HK;have Fx:GI (GG J) ((DT J 1024 B3).1-i) s=([],s):=by
    by_cases BI:s.fault=0
    ·
     by_cases C_:i<(DT J 1024 B3).1
     · exact absurd BI ((N2 s).1 (HK AGn))
     ·
      have e:(DT J 1024 B3).1-i=0:=AGn;rw[e];rfl
    · exact Za BI _
   rw[Fx]at he;simp only[AB7]at he;exact ex<|Ck<|Ck<|D7<|K5<|Dz Fv G trivial (by simp only[he,ABL,ABU,ABK]<;>rfl) (by simp only[he];exact(Bg.cons 0 rfl Bg.nil))
theorem AdK(AH:q.2.pos<=J.length)(Cu:q.1[o]? =some AI):Aw AG 228 [By,.pointer (some ⟨b,o,none⟩),.func (.func 229) #[By] #[]] [AO b T q.1,CG p bv q.2] [⟨By,(⟨⟨p⟩⟩:Cq Gb)⟩,⟨bv,J⟩] (fun(_:Value) _=>True) (fun y _=>[AO b T (C7 o y (CS J (GG J)) q).1,CG p bv (C7 o y (CS J (GG J)) q).2]) (fun y _=>[⟨y,(CS J (GG J) q.2).1⟩]):=
 AdJ By bv p J q.2 b T q.1 o AH Cu
theorem AdO(AH:B3.pos<=J.length)(Cu:cells[o]? =some AI):Aw AG 230 [By,.pointer (some ⟨b,o,none⟩),.func (.func 231) #[By] #[]] [AO b T cells,CG p bv B3] [⟨By,(⟨⟨p⟩⟩:Cq Gb)⟩,⟨bv,J⟩] (fun(_:Value) _=>True) (fun y _=>[AO b T (cells.set o y),CG p bv (CS J (GX J) B3).2]) (fun y _=>[⟨y,(CS J (GX J) B3).1⟩]):=by
 refine Aw.proof Tryz.func230 G 80 G G fun X w=>?_;obtain⟨GD,rfl⟩:∃GD:List Value,cells=GD.set o AI:=⟨cells,(TW Cu).symm⟩;have A7:o<GD.length:=by have:=Rj Cu;rwa [ABj]at this
 have aM:=W9 J B3;refine Am<|Ae<|An G G<|Ch 1 (Oz By bv p B3) (Ar G) G G (Ad 0 G Aa) G fun _ v11 Ct=>?_;have Ct:v11=.bool (Ml B3):=Ct;subst Ct;refine Ac<|BN G (fun Ct=>?_) (fun Ct=>?_)
 ·
  have BI:=(N2 B3).1 Ct;exact DJ (α:=BX)<|BA<|Ej AI G trivial (by simp only[Qw BI,ABL,ABU,ABK];rfl) (by rw[Qw BI];exact(Bg.cons 0 rfl Bg.nil))
 ·
  refine AZ<|Am<|Ae<|An G G<|Co 0 G G G<|CJ 0 Ku G G (BR G) G fun PS=>CQ 0 G G (A2 G) G fun N6=>M3 AB1 G G G<|Ac<|LW G<|AZ<|Ae<|An G G<|Co 1 G G G<|CJ 1 Ku G G (BR G) G fun T8=>CQ 0 G G (A2 G) G fun Vt=>Ch 1 (MW.X0 p bv J B3 1024 BV AH) (Ar G) G G (Ad 3 G Aa) G fun _ QB JS=>?_;have JS:QB=.int .i64 ((DT J 1024 B3).1:Int):=JS;subst JS;refine U 1 G<|Ac<|AF 1 G<|B5<|Lk BX 50<|Hx (σ:=Nat×Value×List BX×Bb) [(0,_),(1,_),(2,_),(7,_)] _ (fun i C=>(8,.int .i64 (i.1:Int))::C) (fun i=>[row 50 i.2.1 i.2.2.1,AO b T (GD.set o i.2.1),CG p bv i.2.2.2,CL X w]) (fun _ Dw=>Dw) (fun i=>i.1<=(DT J 1024 B3).1/\i.2.2.1.length=i.1/\i.2.2.2.pos<=J.length/\CS J (GX J) B3=(i.2.2.1++(GI (GX J) ((DT J 1024 B3).1-i.1) i.2.2.2).1,(GI (GX J) ((DT J 1024 B3).1-i.1) i.2.2.2).2)) (fun i=>(DT J 1024 B3).1-i.1) (0,.slice none 0 0,[],(DT J 1024 B3).2) (Bs G) (Ad 2 G (Ad 3 G Aa)) ⟨ABg _,G,W_ AH,G⟩ (Bs G) G (Ad 2 G (Ad 3 G Aa)) ?_;rintro⟨i,Fv,acc,s⟩ ⟨Ag,AN,hs,he⟩;simp only at Ag AN hs he;refine Am<|Ae<|U 4 G ?_;refine D4 63 4 [0,1,2,7,8] G G (fun Of QE=>by
   have b7:=ABA Of;refine U 1 G<|Bl G G G<|Ch 2 (Oz By bv p s) (Ar G) G G (Ad 0 G Aa) G fun _ RC Ju=>?_;have Ju:RC=.bool (Ml s):=Ju;subst Ju;exact U 2 G<|QE G Br) ?_
  refine Ac<|BN G (fun JT=>?_) (fun JT=>?_)
  ·
   have HK:=JT;simp at HK;obtain⟨Ey,Ez⟩:=HK;have BI:=(Xf s).1 Ez;have Qa:[(GX J s).1].length=1:=rfl;refine AZ<|Am<|B5<|Ae<|CT SM G fun H7=>Ac<|Ae<|An G G<|D9 3 G<|D9 1 G<|VX 2 (Ak5 By bv p J s H7 hs) (Ar G) G G G G (BE [0,1] G) G fun _ _ _=>?_;refine Ac<|Vh (L:=[AO H7 50 (Hh (GX J s).1),CG p bv (GX J s).2,row 50 Fv acc,AO b T (GD.set o Fv),CL X w]) [(4,.NQ 0)] [(3,⟨some (Fv),fun _=>[],false⟩),(5,⟨none,fun u=>[⟨u,[(GX J s).1]⟩],false⟩),(6,⟨none,fun _=>[],true⟩),(8,⟨none,fun _=>[],true⟩)] [] [] [(6,fun L Gz=>NZ 2 (row 50 (Gz 6) (acc++[(GX J s).1])) L),(8,fun L Gz=>NZ 1 (AO b T ((GD.set o Fv).set o (Gz 6))) L)] (fun _=>G) (fun _=>AGo) ⟨fun V Az _=>GK (ME 3 G G (A2 G) (Zg A7) G<|GH G G G G),fun V Az _=>GK (Lw G Mt G G G G fun Z0=>KJ (α:=BX) (GX J s).1 (fun S w h=>⟨(),G,by simp,Aar J s⟩)<|nl (Ig G G G trivial (Ad 0 G Aa) (Bg.tail Br))),fun V Az _=>GK (ap 2 0 G G G G Mt AGn AGn G fun Zr=>nl (Ig G G G trivial Aa (Bg.tail Br))),fun V Az _=>GK (IL 3 2 G G G G (A2 G) (by rw[ABj];exact A7)<|nl (YW G G Br)),trivial⟩ fun V _=>Vu [1,2] G<|?_;generalize V 6=v0;refine CU<|A5<|rg<|An G G<|C5 G G BV G<|U 1 G<|nl<|AQ<|Au 2 G<|Au 2 G ?_;exact Dy ((i+1,v0,acc++[(GX J s).1],(GX J s).2):Nat×Value×List BX×Bb) ⟨AGn,by simp[AN],Wd hs,Y' AGn BI he⟩ (by show _-_<_-_;omega) (Bs G) (by simp only[ABL];rfl) (BE [0,1] G)
  ·
   have HK:=JT;simp at HK;have Fx:GI (GX J) ((DT J 1024 B3).1-i) s=([],s):=by
    by_cases BI:s.fault=0
    ·
     by_cases C_:i<(DT J 1024 B3).1
     · exact absurd BI ((N2 s).1 (HK AGn))
     ·
      have e:(DT J 1024 B3).1-i=0:=AGn;rw[e];rfl
    · exact Za BI _
   rw[Fx]at he;simp only[AB7]at he;exact ex<|Ck<|Ck<|D7<|K5<|Dz Fv G trivial (by simp only[he,ABL,ABU,ABK]<;>rfl) (by simp only[he];exact(Bg.cons 0 rfl Bg.nil))
theorem AdP(AH:q.2.pos<=J.length)(Cu:q.1[o]? =some AI):Aw AG 230 [By,.pointer (some ⟨b,o,none⟩),.func (.func 231) #[By] #[]] [AO b T q.1,CG p bv q.2] [⟨By,(⟨⟨p⟩⟩:Cq Gb)⟩,⟨bv,J⟩] (fun(_:Value) _=>True) (fun y _=>[AO b T (C7 o y (CS J (GX J)) q).1,CG p bv (C7 o y (CS J (GX J)) q).2]) (fun y _=>[⟨y,(CS J (GX J) q.2).1⟩]):=
 AdO By bv p J q.2 b T q.1 o AH Cu
theorem Adz(AH:B3.pos<=J.length)(Cu:cells[o]? =some AI):Aw AG 232 [By,.pointer (some ⟨b,o,none⟩),.func (.func 233) #[By] #[]] [AO b T cells,CG p bv B3] [⟨By,(⟨⟨p⟩⟩:Cq Gb)⟩,⟨bv,J⟩] (fun(_:Value) _=>True) (fun y _=>[AO b T (cells.set o y),CG p bv (CS J (Hk J) B3).2]) (fun y _=>[⟨y,(CS J (Hk J) B3).1⟩]):=by
 refine Aw.proof Tryz.func232 G 80 G G fun X w=>?_;obtain⟨GD,rfl⟩:∃GD:List Value,cells=GD.set o AI:=⟨cells,(TW Cu).symm⟩;have A7:o<GD.length:=by have:=Rj Cu;rwa [ABj]at this
 have aM:=W9 J B3;refine Am<|Ae<|An G G<|Ch 1 (Oz By bv p B3) (Ar G) G G (Ad 0 G Aa) G fun _ v11 Ct=>?_;have Ct:v11=.bool (Ml B3):=Ct;subst Ct;refine Ac<|BN G (fun Ct=>?_) (fun Ct=>?_)
 ·
  have BI:=(N2 B3).1 Ct;exact DJ (α:=Bx)<|BA<|Ej AI G trivial (by simp only[Qw BI,ABL,ABU,ABK];rfl) (by rw[Qw BI];exact(Bg.cons 0 rfl Bg.nil))
 ·
  refine AZ<|Am<|Ae<|An G G<|Co 0 G G G<|CJ 0 Ku G G (BR G) G fun PS=>CQ 0 G G (A2 G) G fun N6=>M3 AB1 G G G<|Ac<|LW G<|AZ<|Ae<|An G G<|Co 1 G G G<|CJ 1 Ku G G (BR G) G fun T8=>CQ 0 G G (A2 G) G fun Vt=>Ch 1 (MW.X0 p bv J B3 1024 BV AH) (Ar G) G G (Ad 3 G Aa) G fun _ QB JS=>?_;have JS:QB=.int .i64 ((DT J 1024 B3).1:Int):=JS;subst JS;refine U 1 G<|Ac<|AF 1 G<|B5<|Lk Bx 52<|Hx (σ:=Nat×Value×List Bx×Bb) [(0,_),(1,_),(2,_),(7,_)] _ (fun i C=>(8,.int .i64 (i.1:Int))::C) (fun i=>[row 52 i.2.1 i.2.2.1,AO b T (GD.set o i.2.1),CG p bv i.2.2.2,CL X w]) (fun _ Dw=>Dw) (fun i=>i.1<=(DT J 1024 B3).1/\i.2.2.1.length=i.1/\i.2.2.2.pos<=J.length/\CS J (Hk J) B3=(i.2.2.1++(GI (Hk J) ((DT J 1024 B3).1-i.1) i.2.2.2).1,(GI (Hk J) ((DT J 1024 B3).1-i.1) i.2.2.2).2)) (fun i=>(DT J 1024 B3).1-i.1) (0,.slice none 0 0,[],(DT J 1024 B3).2) (Bs G) (Ad 2 G (Ad 3 G Aa)) ⟨ABg _,G,W_ AH,G⟩ (Bs G) G (Ad 2 G (Ad 3 G Aa)) ?_;rintro⟨i,Fv,acc,s⟩ ⟨Ag,AN,hs,he⟩;simp only at Ag AN hs he;refine Am<|Ae<|U 4 G ?_;refine D4 63 4 [0,1,2,7,8] G G (fun Of QE=>by
   have b7:=ABA Of;refine U 1 G<|Bl G G G<|Ch 2 (Oz By bv p s) (Ar G) G G (Ad 0 G Aa) G fun _ RC Ju=>?_;have Ju:RC=.bool (Ml s):=Ju;subst Ju;exact U 2 G<|QE G Br) ?_
  refine Ac<|BN G (fun JT=>?_) (fun JT=>?_)
  ·
   have HK:=JT;simp at HK;obtain⟨Ey,Ez⟩:=HK;have BI:=(Xf s).1 Ez;have Qa:[(Hk J s).1].length=1:=rfl;refine AZ<|Am<|B5<|Ae<|CT SO G fun H7=>Ac<|Ae<|An G G<|D9 3 G<|D9 1 G<|VX 2 (yv By bv p J s H7 hs) (Ar G) G G G G (BE [0,1] G) G fun _ _ _=>?_;refine Ac<|Vh (L:=[AO H7 52 (H8 (Hk J s).1),CG p bv (Hk J s).2,row 52 Fv acc,AO b T (GD.set o Fv),CL X w]) [(4,.NQ 0)] [(3,⟨some (Fv),fun _=>[],false⟩),(5,⟨none,fun u=>[⟨u,[(Hk J s).1]⟩],false⟩),(6,⟨none,fun _=>[],true⟩),(8,⟨none,fun _=>[],true⟩)] [] [] [(6,fun L Gz=>NZ 2 (row 52 (Gz 6) (acc++[(Hk J s).1])) L),(8,fun L Gz=>NZ 1 (AO b T ((GD.set o Fv).set o (Gz 6))) L)] (fun _=>G) (fun _=>AGo) ⟨fun V Az _=>GK (ME 3 G G (A2 G) (Zg A7) G<|GH G G G G),fun V Az _=>GK (Lw G QQ G G G G fun Z0=>KJ (α:=Bx) (Hk J s).1 (fun S w h=>⟨(),G,by simp,z6 J s⟩)<|nl (Ig G G G trivial (Ad 0 G Aa) (Bg.tail Br))),fun V Az _=>GK (ap 2 0 G G G G QQ AGn AGn G fun Zr=>nl (Ig G G G trivial Aa (Bg.tail Br))),fun V Az _=>GK (IL 3 2 G G G G (A2 G) (by rw[ABj];exact A7)<|nl (YW G G Br)),trivial⟩ fun V _=>Vu [1,2] G<|?_;generalize V 6=v0;refine CU<|A5<|rg<|An G G<|C5 G G BV G<|U 1 G<|nl<|AQ<|Au 2 G<|Au 2 G ?_;exact Dy ((i+1,v0,acc++[(Hk J s).1],(Hk J s).2):Nat×Value×List Bx×Bb) ⟨AGn,by simp[AN],Ye hs,Y' AGn BI he⟩ (by show _-_<_-_;omega) (Bs G) (by simp only[ABL];rfl) (BE [0,1] G)
  ·
   have HK:=JT;simp at HK;have Fx:GI (Hk J) ((DT J 1024 B3).1-i) s=([],s):=by
    by_cases BI:s.fault=0
    ·
     by_cases C_:i<(DT J 1024 B3).1
     · exact absurd BI ((N2 s).1 (HK AGn))
     ·
      have e:(DT J 1024 B3).1-i=0:=AGn;rw[e];rfl
    · exact Za BI _
   rw[Fx]at he;simp only[AB7]at he;exact ex<|Ck<|Ck<|D7<|K5<|Dz Fv G trivial (by simp only[he,ABL,ABU,ABK]<;>rfl) (by simp only[he];exact(Bg.cons 0 rfl Bg.nil))
theorem AdA(AH:q.2.pos<=J.length)(Cu:q.1[o]? =some AI):Aw AG 232 [By,.pointer (some ⟨b,o,none⟩),.func (.func 233) #[By] #[]] [AO b T q.1,CG p bv q.2] [⟨By,(⟨⟨p⟩⟩:Cq Gb)⟩,⟨bv,J⟩] (fun(_:Value) _=>True) (fun y _=>[AO b T (C7 o y (CS J (Hk J)) q).1,CG p bv (C7 o y (CS J (Hk J)) q).2]) (fun y _=>[⟨y,(CS J (Hk J) q.2).1⟩]):=
 Adz By bv p J q.2 b T q.1 o AH Cu
theorem AdC(AH:B3.pos<=J.length)(Cu:cells[o]? =some AI):Aw AG 234 [By,.pointer (some ⟨b,o,none⟩),.func (.func 235) #[By] #[]] [AO b T cells,CG p bv B3] [⟨By,(⟨⟨p⟩⟩:Cq Gb)⟩,⟨bv,J⟩] (fun(_:Value) _=>True) (fun y _=>[AO b T (cells.set o y),CG p bv (CS J (HF J) B3).2]) (fun y _=>[⟨y,(CS J (HF J) B3).1⟩]):=by
 refine Aw.proof Tryz.func234 G 80 G G fun X w=>?_;obtain⟨GD,rfl⟩:∃GD:List Value,cells=GD.set o AI:=⟨cells,(TW Cu).symm⟩;have A7:o<GD.length:=by have:=Rj Cu;rwa [ABj]at this
 have aM:=W9 J B3;refine Am<|Ae<|An G G<|Ch 1 (Oz By bv p B3) (Ar G) G G (Ad 0 G Aa) G fun _ v11 Ct=>?_;have Ct:v11=.bool (Ml B3):=Ct;subst Ct;refine Ac<|BN G (fun Ct=>?_) (fun Ct=>?_)
 ·
  have BI:=(N2 B3).1 Ct;exact DJ (α:=Df)<|BA<|Ej AI G trivial (by simp only[Qw BI,ABL,ABU,ABK];rfl) (by rw[Qw BI];exact(Bg.cons 0 rfl Bg.nil))
 ·
  refine AZ<|Am<|Ae<|An G G<|Co 0 G G G<|CJ 0 Ku G G (BR G) G fun PS=>CQ 0 G G (A2 G) G fun N6=>M3 AB1 G G G<|Ac<|LW G<|AZ<|Ae<|An G G<|Co 1 G G G<|CJ 1 Ku G G (BR G) G fun T8=>CQ 0 G G (A2 G) G fun Vt=>Ch 1 (MW.X0 p bv J B3 1024 BV AH) (Ar G) G G (Ad 3 G Aa) G fun _ QB JS=>?_;have JS:QB=.int .i64 ((DT J 1024 B3).1:Int):=JS;subst JS;refine U 1 G<|Ac<|AF 1 G<|B5<|Lk Df 125<|Hx (σ:=Nat×Value×List Df×Bb) [(0,_),(1,_),(2,_),(7,_)] _ (fun i C=>(8,.int .i64 (i.1:Int))::C) (fun i=>[row 125 i.2.1 i.2.2.1,AO b T (GD.set o i.2.1),CG p bv i.2.2.2,CL X w]) (fun _ Dw=>Dw) (fun i=>i.1<=(DT J 1024 B3).1/\i.2.2.1.length=i.1/\i.2.2.2.pos<=J.length/\CS J (HF J) B3=(i.2.2.1++(GI (HF J) ((DT J 1024 B3).1-i.1) i.2.2.2).1,(GI (HF J) ((DT J 1024 B3).1-i.1) i.2.2.2).2)) (fun i=>(DT J 1024 B3).1-i.1) (0,.slice none 0 0,[],(DT J 1024 B3).2) (Bs G) (Ad 2 G (Ad 3 G Aa)) ⟨ABg _,G,W_ AH,G⟩ (Bs G) G (Ad 2 G (Ad 3 G Aa)) ?_;rintro⟨i,Fv,acc,s⟩ ⟨Ag,AN,hs,he⟩;simp only at Ag AN hs he;refine Am<|Ae<|U 4 G ?_;refine D4 63 4 [0,1,2,7,8] G G (fun Of QE=>by
   have b7:=ABA Of;refine U 1 G<|Bl G G G<|Ch 2 (Oz By bv p s) (Ar G) G G (Ad 0 G Aa) G fun _ RC Ju=>?_;have Ju:RC=.bool (Ml s):=Ju;subst Ju;exact U 2 G<|QE G Br) ?_
  refine Ac<|BN G (fun JT=>?_) (fun JT=>?_)
  ·
   have HK:=JT;simp at HK;obtain⟨Ey,Ez⟩:=HK;have BI:=(Xf s).1 Ez;have Qa:[(HF J s).1].length=1:=rfl;refine AZ<|Am<|B5<|Ae<|CT de G fun H7=>Ac<|Ae<|An G G<|D9 3 G<|D9 1 G<|VX 2 (y0 By bv p J s H7 hs) (Ar G) G G G G (BE [0,1] G) G fun _ _ _=>?_;refine Ac<|Vh (L:=[AO H7 125 (QT (HF J s).1),CG p bv (HF J s).2,row 125 Fv acc,AO b T (GD.set o Fv),CL X w]) [(4,.NQ 0)] [(3,⟨some (Fv),fun _=>[],false⟩),(5,⟨none,fun u=>[⟨u,[(HF J s).1]⟩],false⟩),(6,⟨none,fun _=>[],true⟩),(8,⟨none,fun _=>[],true⟩)] [] [] [(6,fun L Gz=>NZ 2 (row 125 (Gz 6) (acc++[(HF J s).1])) L),(8,fun L Gz=>NZ 1 (AO b T ((GD.set o Fv).set o (Gz 6))) L)] (fun _=>G) (fun _=>AGo) ⟨fun V Az _=>GK (ME 3 G G (A2 G) (Zg A7) G<|GH G G G G),fun V Az _=>GK (Lw G RM G G G G fun Z0=>KJ (α:=Df) (HF J s).1 (fun S w h=>⟨(),G,by simp,z8 J s⟩)<|nl (Ig G G G trivial (Ad 0 G Aa) (Bg.tail Br))),fun V Az _=>GK (ap 2 0 G G G G RM AGn AGn G fun Zr=>nl (Ig G G G trivial Aa (Bg.tail Br))),fun V Az _=>GK (IL 3 2 G G G G (A2 G) (by rw[ABj];exact A7)<|nl (YW G G Br)),trivial⟩ fun V _=>Vu [1,2] G<|?_;generalize V 6=v0;refine CU<|A5<|rg<|An G G<|C5 G G BV G<|U 1 G<|nl<|AQ<|Au 2 G<|Au 2 G ?_;exact Dy ((i+1,v0,acc++[(HF J s).1],(HF J s).2):Nat×Value×List Df×Bb) ⟨AGn,by simp[AN],aF hs,Y' AGn BI he⟩ (by show _-_<_-_;omega) (Bs G) (by simp only[ABL];rfl) (BE [0,1] G)
  ·
   have HK:=JT;simp at HK;have Fx:GI (HF J) ((DT J 1024 B3).1-i) s=([],s):=by
    by_cases BI:s.fault=0
    ·
     by_cases C_:i<(DT J 1024 B3).1
     · exact absurd BI ((N2 s).1 (HK AGn))
     ·
      have e:(DT J 1024 B3).1-i=0:=AGn;rw[e];rfl
    · exact Za BI _
   rw[Fx]at he;simp only[AB7]at he;exact ex<|Ck<|Ck<|D7<|K5<|Dz Fv G trivial (by simp only[he,ABL,ABU,ABK]<;>rfl) (by simp only[he];exact(Bg.cons 0 rfl Bg.nil))
theorem AdD(AH:q.2.pos<=J.length)(Cu:q.1[o]? =some AI):Aw AG 234 [By,.pointer (some ⟨b,o,none⟩),.func (.func 235) #[By] #[]] [AO b T q.1,CG p bv q.2] [⟨By,(⟨⟨p⟩⟩:Cq Gb)⟩,⟨bv,J⟩] (fun(_:Value) _=>True) (fun y _=>[AO b T (C7 o y (CS J (HF J)) q).1,CG p bv (C7 o y (CS J (HF J)) q).2]) (fun y _=>[⟨y,(CS J (HF J) q.2).1⟩]):=
 AdC By bv p J q.2 b T q.1 o AH Cu
end
end Go.Proofs.YtalfaopffbkdnaaGreat.XM
