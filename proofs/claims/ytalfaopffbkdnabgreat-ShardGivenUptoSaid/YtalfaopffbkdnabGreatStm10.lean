/- Part 10 of shardGiven_holds. -/
import Derived.Test.YtalfaopffbkdnabGreatStm9

set_option maxRecDepth 20000
set_option maxHeartbeats 1000000
open Go.Proofs.Tryz renaming underlying185→AJA,underlying31→ACb,underlying39→AJB
open List renaming append_nil→AB7,cons_append→ABU,getElem?_cons_zero→ABV,length_set→ABj,nil_append→ABK,set_cons_succ→ABu,set_cons_zero→ABt,set_set→ABL
open Go.A_ Go.Apw Go.Proofs Go.Proofs.YtalfaopffbkdnabGreat
namespace Go.Proofs.YtalfaopffbkdnabGreat.XM
section
variable(By bv Bk:Value) (p:Nat) (J:List UInt8) (s:Bb) (b T:Nat) (cells:List Value) (q:List Value×Bb) (offs:List Nat) (o:Nat)
theorem NO(AH:q.2.pos<=J.length)(Cu:gQ q.1 offs)(Ao:offs.Nodup):Aw AG 133 [By,Bk] [AO b T q.1,CG p bv q.2] [⟨By,(⟨⟨p⟩⟩:Cq Gb)⟩,⟨bv,J⟩,⟨Bk,NW b offs⟩] (fun(_:Unit) _=>True) (fun _ _=>[AO b T (CO J offs q).1,CG p bv (CO J offs q).2]) (fun _ _=>[]):=
 qs By bv Bk p J q.2 b T q.1 offs AH Cu Ao
theorem cK(AH:q.2.pos<=J.length)(Cu:gR q.1 offs)(Ao:offs.Nodup):Aw AG 135 [By,Bk] [AO b T q.1,CG p bv q.2] [⟨By,(⟨⟨p⟩⟩:Cq Gb)⟩,⟨bv,J⟩,⟨Bk,NW b offs⟩] (fun(_:Unit) _=>True) (fun _ _=>[AO b T (Ea J offs q).1,CG p bv (Ea J offs q).2]) (fun _ _=>[]):=
 Akd By bv Bk p J q.2 b T q.1 offs AH Cu Ao
theorem zp(AH:q.2.pos<=J.length)(Cu:q.1[o]? =some (.int .i64 0)):Aw AG 189 [By,.pointer (some ⟨b,o,none⟩)] [AO b T q.1,CG p bv q.2] [⟨By,(⟨⟨p⟩⟩:Cq Gb)⟩,⟨bv,J⟩] (fun(_:Unit) _=>True) (fun _ _=>[AO b T (CO J [o] q).1,CG p bv (CO J [o] q).2]) (fun _ _=>[]):=
 zo By bv p J q.2 b T q.1 o AH Cu
theorem o0(AH:q.2.pos<=J.length)(Cu:q.1[o]? =some (.bool false)):Aw AG 134 [By,.pointer (some ⟨b,o,none⟩)] [AO b T q.1,CG p bv q.2] [⟨By,(⟨⟨p⟩⟩:Cq Gb)⟩,⟨bv,J⟩] (fun(_:Unit) _=>True) (fun _ _=>[AO b T (E9 J o q).1,CG p bv (E9 J o q).2]) (fun _ _=>[]):=
 zR By bv p J q.2 b T q.1 o AH Cu
theorem xP(u:Value)(AH:q.2.pos<=J.length)(Cu:q.1[o]? =some u):Aw AG 147 [By,.pointer (some ⟨b,o,none⟩)] [AO b T q.1,CG p bv q.2] [⟨By,(⟨⟨p⟩⟩:Cq Gb)⟩,⟨bv,J⟩,⟨u,([]:List UInt8)⟩] (fun(_:Value) _=>True) (fun y _=>[AO b T (C7 o y (Gm J 65535) q).1,CG p bv (C7 o y (Gm J 65535) q).2]) (fun y _=>[⟨y,(Gm J 65535 q.2).1⟩]):=
 nM By bv p J q.2 b T q.1 o u AH Cu
theorem Afy(AH:s.pos<=J.length)(bl:cells[o]? =some (.int .i64 0))(Tw:cells[o+1]? =some (.string ByteArray.empty))(PE:cells[o+2]? =some (.string ByteArray.empty))(WH:cells[o+3]? =some (.int .i64 0))(bm:cells[o+4]? =some (.int .i64 0))(bn:cells[o+5]? =some (.int .i64 0)):Aw AG 190 [By,.pointer (some ⟨b,o,none⟩)] [AO b T cells,CG p bv s] [⟨By,(⟨⟨p⟩⟩:Cq Gb)⟩,⟨bv,J⟩] (fun(_:Unit) _=>True) (fun _ _=>[AO b T (Hy J o (cells,s)).1,CG p bv (Hy J o (cells,s)).2]) (fun _ _=>[]):=by
 exact Aw.proof Tryz.func190 G 31 G G fun X w=>Ae<|U 4 G<|BH (xs:=[.tmp 7]) (us:=[.pointer (some ⟨b,o,none⟩)]) (E:=191) (bytes:=8) (n:=1) G (by exact HB) G G G G G G fun K0=>Q5 (NW b [o]) ([o].map fun o=>[.pointer (some ⟨b,o,none⟩)]) G (fun S w h=>Y5 S w _) (ABy G)<|Hs 2 (NO By bv _ p J b T (cells,s) [o] AH (by intro x Ab;simp only[ABf,ABh,ABi]at Ab;rcases Ab with rfl<;>first|assumption|(repeat first|rw[WJ (by simp only[ABf,ABh,ABi];omega)]|rw[Xi (by simp only[ABf,ABh,ABi];omega)]);assumption) (by simp)) (Ar G) G G (BE [1,2,0] G) G fun _ _ _=>Ac<|Am<|MM b [(o+1),(o+2)] [2,3,0] (fun u=>cK By bv u p J b T (CO J [o] (cells,s)) [(o+1),(o+2)] (Hw AH) (by intro x Ab;simp only[ABf,ABh,ABi]at Ab;rcases Ab with rfl|rfl<;>first|assumption|(repeat first|rw[WJ (by simp only[ABf,ABh,ABi];omega)]|rw[Xi (by simp only[ABf,ABh,ABi];omega)]);assumption) (by simp)) (Ar G) QO G G AJw (fun _=>G)<|A5<|MM b [(o+3),(o+4),(o+5)] [2,3,0] (fun u=>NO By bv u p J b T (Ea J [(o+1),(o+2)] (CO J [o] (cells,s))) [(o+3),(o+4),(o+5)] (MP (Hw AH)) (by intro x Ab;simp only[ABf,ABh,ABi]at Ab;rcases Ab with rfl|rfl|rfl<;>first|assumption|(repeat first|rw[WJ (by simp only[ABf,ABh,ABi];omega)]|rw[Xi (by simp only[ABf,ABh,ABi];omega)]);assumption) (by simp)) (Ar G) HB G G AJw (fun _=>G)<|Dz () G trivial G Aa
theorem Ahy(AH:s.pos<=J.length)(bl:cells[o]? =some (.int .i64 0))(Tw:cells[o+1]? =some (.int .i64 0))(PE:cells[o+2]? =some (.int .i64 0))(WH:cells[o+3]? =some (.string ByteArray.empty))(bm:cells[o+4]? =some (.string ByteArray.empty))(bn:cells[o+5]? =some (.int .i64 0))(qg:cells[o+6]? =some (.int .i64 0)):Aw AG 146 [By,.pointer (some ⟨b,o,none⟩)] [AO b T cells,CG p bv s] [⟨By,(⟨⟨p⟩⟩:Cq Gb)⟩,⟨bv,J⟩] (fun(_:Unit) _=>True) (fun _ _=>[AO b T (Ga J o (cells,s)).1,CG p bv (Ga J o (cells,s)).2]) (fun _ _=>[]):=by
 exact Aw.proof Tryz.func146 G 34 G G fun X w=>Am<|MM b [o,(o+1),(o+2)] [1,2,0] (fun u=>NO By bv u p J b T (cells,s) [o,(o+1),(o+2)] AH (by intro x Ab;simp only[ABf,ABh,ABi]at Ab;rcases Ab with rfl|rfl|rfl<;>first|assumption|(repeat first|rw[WJ (by simp only[ABf,ABh,ABi];omega)]|rw[Xi (by simp only[ABf,ABh,ABi];omega)]);assumption) (by simp)) (Ar G) HB G G AJw (fun _=>G)<|A5<|Am<|MM b [(o+3),(o+4)] [1,2,0] (fun u=>cK By bv u p J b T (CO J [o,(o+1),(o+2)] (cells,s)) [(o+3),(o+4)] (Hw AH) (by intro x Ab;simp only[ABf,ABh,ABi]at Ab;rcases Ab with rfl|rfl<;>first|assumption|(repeat first|rw[WJ (by simp only[ABf,ABh,ABi];omega)]|rw[Xi (by simp only[ABf,ABh,ABi];omega)]);assumption) (by simp)) (Ar G) QO G G AJw (fun _=>G)<|A5<|MM b [(o+5),(o+6)] [1,2,0] (fun u=>NO By bv u p J b T (Ea J [(o+3),(o+4)] (CO J [o,(o+1),(o+2)] (cells,s))) [(o+5),(o+6)] (MP (Hw AH)) (by intro x Ab;simp only[ABf,ABh,ABi]at Ab;rcases Ab with rfl|rfl<;>first|assumption|(repeat first|rw[WJ (by simp only[ABf,ABh,ABi];omega)]|rw[Xi (by simp only[ABf,ABh,ABi];omega)]);assumption) (by simp)) (Ar G) HB G G AJw (fun _=>G)<|Dz () G trivial G Aa
theorem Afz(AH:q.2.pos<=J.length)(bl:q.1[o]? =some (.int .i64 0))(Tw:q.1[o+1]? =some (.string ByteArray.empty))(PE:q.1[o+2]? =some (.string ByteArray.empty))(WH:q.1[o+3]? =some (.int .i64 0))(bm:q.1[o+4]? =some (.int .i64 0))(bn:q.1[o+5]? =some (.int .i64 0)):Aw AG 190 [By,.pointer (some ⟨b,o,none⟩)] [AO b T q.1,CG p bv q.2] [⟨By,(⟨⟨p⟩⟩:Cq Gb)⟩,⟨bv,J⟩] (fun(_:Unit) _=>True) (fun _ _=>[AO b T (Hy J o q).1,CG p bv (Hy J o q).2]) (fun _ _=>[]):=
 Afy By bv p J q.2 b T q.1 o AH bl Tw PE WH bm bn
theorem sk(AH:q.2.pos<=J.length)(bl:q.1[o]? =some (.int .i64 0))(Tw:q.1[o+1]? =some (.int .i64 0))(PE:q.1[o+2]? =some (.int .i64 0))(WH:q.1[o+3]? =some (.string ByteArray.empty))(bm:q.1[o+4]? =some (.string ByteArray.empty))(bn:q.1[o+5]? =some (.int .i64 0))(qg:q.1[o+6]? =some (.int .i64 0)):Aw AG 146 [By,.pointer (some ⟨b,o,none⟩)] [AO b T q.1,CG p bv q.2] [⟨By,(⟨⟨p⟩⟩:Cq Gb)⟩,⟨bv,J⟩] (fun(_:Unit) _=>True) (fun _ _=>[AO b T (Ga J o q).1,CG p bv (Ga J o q).2]) (fun _ _=>[]):=
 Ahy By bv p J q.2 b T q.1 o AH bl Tw PE WH bm bn qg
theorem Ab4(AH:s.pos<=J.length):Aw AG 188 [By,.pointer (some ⟨b,0,none⟩)] [AO b 63 vx,CG p bv s] [⟨By,(⟨⟨p⟩⟩:Cq Gb)⟩,⟨bv,J⟩] (fun(_:Unit) _=>True) (fun _ _=>[AO b 63 (JH (Iu J s).1),CG p bv (Iu J s).2]) (fun _ _=>[]):=by
 exact Aw.proof Tryz.func188 G 19 G G fun X w=>MM b [0,1,2,3] [1,2,0] (fun u=>NO By bv u p J b 63 (vx,s) [0,1,2,3] AH (SL G) AJx) (Ar G) HB G G AJw (fun _=>G)<|Dz () G trivial (by simp only[z9,ABU,ABK]<;>rfl) Aa
theorem y0(AH:s.pos<=J.length):Aw AG 145 [By,.pointer (some ⟨b,0,none⟩)] [AO b 101 vy,CG p bv s] [⟨By,(⟨⟨p⟩⟩:Cq Gb)⟩,⟨bv,J⟩] (fun(_:Unit) _=>True) (fun _ _=>[AO b 101 (QT (HF J s).1),CG p bv (HF J s).2]) (fun _ _=>[]):=by
 exact Aw.proof Tryz.func145 G 13 G G fun X w=>MM b [0,1] [1,2,0] (fun u=>NO By bv u p J b 101 (vy,s) [0,1] AH (SL G) AJx) (Ar G) HB G G AJw (fun _=>G)<|Dz () G trivial (by simp only[z7,ABU,ABK]<;>rfl) Aa
theorem yv(AH:s.pos<=J.length):Aw AG 143 [By,.pointer (some ⟨b,0,none⟩)] [AO b 98 XH,CG p bv s] [⟨By,(⟨⟨p⟩⟩:Cq Gb)⟩,⟨bv,J⟩] (fun(_:Unit) _=>True) (fun _ _=>[AO b 98 (H8 (Hk J s).1),CG p bv (Hk J s).2]) (fun _ _=>[]):=by
 exact Aw.proof Tryz.func143 G 37 G G fun X w=>Am<|MM b [0,1] [1,2,0] (fun u=>NO By bv u p J b 98 (XH,s) [0,1] AH (SL G) AJx) (Ar G) HB G G AJw (fun _=>G)<|A5<|Am<|MM b [2,3] [1,2,0] (fun u=>cK By bv u p J b 98 (CO J [0,1] (XH,s)) [2,3] (Hw AH) (vr G) AJx) (Ar G) QO G G AJw (fun _=>G)<|A5<|MM b [4,5,6,7] [1,2,0] (fun u=>NO By bv u p J b 98 (Ea J [2,3] (CO J [0,1] (XH,s))) [4,5,6,7] (MP (Hw AH)) (SL G) AJx) (Ar G) HB G G AJw (fun _=>G)<|Dz () G trivial (by simp only[z5,ABU,ABK]<;>rfl) Aa
theorem Aeb(AH:s.pos<=J.length):Aw AG 139 [By,.pointer (some ⟨b,0,none⟩)] [AO b 94 dh,CG p bv s] [⟨By,(⟨⟨p⟩⟩:Cq Gb)⟩,⟨bv,J⟩] (fun(_:Unit) _=>True) (fun _ _=>[AO b 94 (H9 (GG J s).1),CG p bv (GG J s).2]) (fun _ _=>[]):=by
 exact Aw.proof Tryz.func139 G 39 G G fun X w=>Am<|MM b [0,1] [1,2,0] (fun u=>NO By bv u p J b 94 (dh,s) [0,1] AH (SL G) AJx) (Ar G) HB G G AJw (fun _=>G)<|A5<|Ae<|U 4 G<|Hs 2 (o0 By bv p J b 94 (CO J [0,1] (dh,s)) 2 (Hw AH) G) (Ar G) G G (BE [0,1] G) G fun _ _ _=>Ac<|Ae<|U 5 G<|Hs 2 (zp By bv p J b 94 (E9 J 2 (CO J [0,1] (dh,s))) 3 (Pw (Hw AH)) G) (Ar G) G G (BE [0,1] G) G fun _ _ _=>Ac<|MM b [4,5,6] [1,2,0] (fun u=>NO By bv u p J b 94 (CO J [3] (E9 J 2 (CO J [0,1] (dh,s)))) [4,5,6] (Hb (Pw (Hw AH))) (SL G) AJx) (Ar G) HB G G AJw (fun _=>G)<|Dz () G trivial (by simp only[Aab,ABU,ABK]<;>rfl) Aa
theorem Ak5(AH:s.pos<=J.length):Aw AG 141 [By,.pointer (some ⟨b,0,none⟩)] [AO b 86 gU,CG p bv s] [⟨By,(⟨⟨p⟩⟩:Cq Gb)⟩,⟨bv,J⟩] (fun(_:Unit) _=>True) (fun _ _=>[AO b 86 (Hh (GX J s).1),CG p bv (GX J s).2]) (fun _ _=>[]):=by
 exact Aw.proof Tryz.func141 G 27 G G fun X w=>Am<|MM b [0,1,2,3,4] [1,2,0] (fun u=>NO By bv u p J b 86 (gU,s) [0,1,2,3,4] AH (SL G) AJx) (Ar G) HB G G AJw (fun _=>G)<|A5<|rg<|U 4 G<|Hs 2 (Afz By bv p J b 86 (CO J [0,1,2,3,4] (gU,s)) 5 (Hw AH) G G G G G G) (Ar G) G G (BE [0,1] G) G fun _ _ _=>nl<|Dz () G trivial (by simp only[Aaq,ABU,ABK]<;>rfl) Aa
end
section
attribute [local irreducible] UO UM Iu UL Wc L_ HF GG Hk GX F2 FC D6 Gm Kw DT
variable(By bv:Value) (p:Nat) (J:List UInt8) (B3:Bb) (b T:Nat) (q:List Value×Bb) (cells:List Value) (o:Nat)
theorem AdF(AH:B3.pos<=J.length)(Cu:cells[o]? =some AI):Aw AG 187 [By,.pointer (some ⟨b,o,none⟩),.func (.func 188) #[By] #[]] [AO b T cells,CG p bv B3] [⟨By,(⟨⟨p⟩⟩:Cq Gb)⟩,⟨bv,J⟩] (fun(_:Value) _=>True) (fun y _=>[AO b T (cells.set o y),CG p bv (CS J (Iu J) B3).2]) (fun y _=>[⟨y,(CS J (Iu J) B3).1⟩]):=by
 refine Aw.proof Tryz.func187 G 80 G G fun X w=>?_;obtain⟨GD,rfl⟩:∃GD:List Value,cells=GD.set o AI:=⟨cells,(TW Cu).symm⟩;have A7:o<GD.length:=by have:=Rj Cu;rwa [ABj]at this
 have aM:=W9 J B3;refine Am<|Ae<|An G G<|Ch 1 (Oz By bv p B3) (Ar G) G G (Ad 0 G Aa) G fun _ v11 Ct=>?_;have Ct:v11=.bool (Ml B3):=Ct;subst Ct;refine Ac<|BN G (fun Ct=>?_) (fun Ct=>?_)
 ·
  have BI:=(N2 B3).1 Ct;exact DJ (α:=BD)<|BA<|Ej AI G trivial (by simp only[Qw BI,ABL,ABU,ABK];rfl) (by rw[Qw BI];exact(Bg.cons 0 rfl Bg.nil))
 ·
  refine AZ<|Am<|Ae<|An G G<|Co 0 G G G<|CJ 0 Ku G G (BR G) G fun PS=>CQ 0 G G (A2 G) G fun N6=>M3 AJA G G G<|Ac<|LW G<|AZ<|Ae<|An G G<|Co 1 G G G<|CJ 1 Ku G G (BR G) G fun T8=>CQ 0 G G (A2 G) G fun Vt=>Ch 1 (MW.X0 p bv J B3 1024 BV AH) (Ar G) G G (Ad 3 G Aa) G fun _ QB JS=>?_;have JS:QB=.int .i64 ((DT J 1024 B3).1:Int):=JS;subst JS;refine U 1 G<|Ac<|AF 1 G<|B5<|Lk BD 63<|Hx (σ:=Nat×Value×List BD×Bb) [(0,_),(1,_),(2,_),(7,_)] _ (fun i C=>(8,.int .i64 (i.1:Int))::C) (fun i=>[row 63 i.2.1 i.2.2.1,AO b T (GD.set o i.2.1),CG p bv i.2.2.2,CL X w]) (fun _ Dw=>Dw) (fun i=>i.1<=(DT J 1024 B3).1/\i.2.2.1.length=i.1/\i.2.2.2.pos<=J.length/\CS J (Iu J) B3=(i.2.2.1++(GI (Iu J) ((DT J 1024 B3).1-i.1) i.2.2.2).1,(GI (Iu J) ((DT J 1024 B3).1-i.1) i.2.2.2).2)) (fun i=>(DT J 1024 B3).1-i.1) (0,.slice none 0 0,[],(DT J 1024 B3).2) (Bs G) (Ad 2 G (Ad 3 G Aa)) ⟨ABg _,G,W_ AH,G⟩ (Bs G) G (Ad 2 G (Ad 3 G Aa)) ?_;rintro⟨i,Fv,acc,s⟩ ⟨Ag,AN,hs,he⟩;simp only at Ag AN hs he;refine Am<|Ae<|U 4 G ?_;refine D4 63 4 [0,1,2,7,8] G G (fun Of QE=>by
   have b7:=ABA Of;refine U 1 G<|Bl G G G<|Ch 2 (Oz By bv p s) (Ar G) G G (Ad 0 G Aa) G fun _ RC Ju=>?_;have Ju:RC=.bool (Ml s):=Ju;subst Ju;exact U 2 G<|QE G Br) ?_
  refine Ac<|BN G (fun JT=>?_) (fun JT=>?_)
  ·
   have HK:=JT;simp at HK;obtain⟨Ey,Ez⟩:=HK;have BI:=(Xf s).1 Ez;have Qa:[(Iu J s).1].length=1:=rfl;refine AZ<|Am<|B5<|Ae<|CT Um G fun H7=>Ac<|Ae<|An G G<|D9 3 G<|D9 1 G<|VX 2 (Ab4 By bv p J s H7 hs) (Ar G) G G G G (BE [0,1] G) G fun _ _ _=>?_;refine Ac<|Vh (L:=[AO H7 63 (JH (Iu J s).1),CG p bv (Iu J s).2,row 63 Fv acc,AO b T (GD.set o Fv),CL X w]) [(4,.NQ 0)] [(3,⟨some (Fv),fun _=>[],false⟩),(5,⟨none,fun u=>[⟨u,[(Iu J s).1]⟩],false⟩),(6,⟨none,fun _=>[],true⟩),(8,⟨none,fun _=>[],true⟩)] [] [] [(6,fun L Gz=>NZ 2 (row 63 (Gz 6) (acc++[(Iu J s).1])) L),(8,fun L Gz=>NZ 1 (AO b T ((GD.set o Fv).set o (Gz 6))) L)] (fun _=>G) (fun _=>AJw) ⟨fun V Az _=>GK (ME 3 G G (A2 G) (Zg A7) G<|GH G G G G),fun V Az _=>GK (Lw G S1 G G G G fun Z0=>KJ (α:=BD) (Iu J s).1 (fun S w h=>⟨(),G,by simp,z_ J s⟩)<|nl (Ig G G G trivial (Ad 0 G Aa) (Bg.tail Br))),fun V Az _=>GK (ap 2 0 G G G G S1 AJv AJv G fun Zr=>nl (Ig G G G trivial Aa (Bg.tail Br))),fun V Az _=>GK (IL 3 2 G G G G (A2 G) (by rw[ABj];exact A7)<|nl (YW G G Br)),trivial⟩ fun V _=>Vu [1,2] G<|?_;generalize V 6=v0;refine CU<|A5<|rg<|An G G<|C5 G G BV G<|U 1 G<|nl<|AQ<|Au 2 G<|Au 2 G ?_;exact Dy ((i+1,v0,acc++[(Iu J s).1],(Iu J s).2):Nat×Value×List BD×Bb) ⟨AJv,by simp[AN],ik hs,Y' AJv BI he⟩ (by show _-_<_-_;omega) (Bs G) (by simp only[ABL];rfl) (BE [0,1] G)
  ·
   have HK:=JT;simp at HK;have Fx:GI (Iu J) ((DT J 1024 B3).1-i) s=([],s):=by
    by_cases BI:s.fault=0
    ·
     by_cases C_:i<(DT J 1024 B3).1
     · exact absurd BI ((N2 s).1 (HK AJv))
     ·
      have e:(DT J 1024 B3).1-i=0:=AJv;rw[e];rfl
    · exact Za BI _
   rw[Fx]at he;simp only[AB7]at he;exact ex<|Ck<|Ck<|D7<|K5<|Dz Fv G trivial (by simp only[he,ABL,ABU,ABK]<;>rfl) (by simp only[he];exact(Bg.cons 0 rfl Bg.nil))
theorem AdG(AH:q.2.pos<=J.length)(Cu:q.1[o]? =some AI):Aw AG 187 [By,.pointer (some ⟨b,o,none⟩),.func (.func 188) #[By] #[]] [AO b T q.1,CG p bv q.2] [⟨By,(⟨⟨p⟩⟩:Cq Gb)⟩,⟨bv,J⟩] (fun(_:Value) _=>True) (fun y _=>[AO b T (C7 o y (CS J (Iu J)) q).1,CG p bv (C7 o y (CS J (Iu J)) q).2]) (fun y _=>[⟨y,(CS J (Iu J) q.2).1⟩]):=
 AdF By bv p J q.2 b T q.1 o AH Cu
theorem wN(s:Bb)(b:Nat)(AH:s.pos<=J.length):Aw AG 137 [By,.pointer (some ⟨b,0,none⟩)] [AO b 43 N9,CG p bv s] [⟨By,(⟨⟨p⟩⟩:Cq Gb)⟩,⟨bv,J⟩] (fun(_:Value) _=>True) (fun y _=>[AO b 43 (A3 (F2 J s).1 y),CG p bv (F2 J s).2]) (fun y _=>[⟨y,(F2 J s).1.A0⟩]):=by
 exact Aw.proof Tryz.func137 G 53 G G fun X w=>Ae<|U 4 G<|BH (xs:=[.tmp 7]) (us:=[.pointer (some ⟨b,0,none⟩)]) (E:=195) (bytes:=8) (n:=1) G (by exact QO) G G G G G G fun K0=>Q5 (NW b [0]) ([0].map fun o=>[.pointer (some ⟨b,o,none⟩)]) G (fun S w h=>Y5 S w _) (ABy G)<|Hs 2 (cK By bv _ p J b 43 (N9,s) [0] AH (by intro x Ab;simp only[ABf,ABh,ABi]at Ab;rcases Ab with rfl<;>rfl) AJx) (Ar G) G G (BE [1,2,0] G) G fun _ _ _=>Ac<|Am<|MM b [1,2,3,4] [2,3,0] (fun u=>NO By bv u p J b 43 (Ea J [0] (N9,s)) [1,2,3,4] (MP AH) (SL G) AJx) (Ar G) HB G G AJw (fun _=>G)<|A5<|Ae<|U 5 G<|Ql (ys:=[.tmp 31]) (xs:=[]) G G G<|Hs 2 (AdG By bv p J b 43 (CO J [1,2,3,4] (Ea J [0] (N9,s))) 5 (Hw (MP AH)) G) (Ar G) G G (BE [1,2] G) G fun XC _ _=>Ac<|MM b [6,7,8,9] [3,4,0] (fun u=>NO By bv u p J b 43 (C7 5 XC (CS J (Iu J)) (CO J [1,2,3,4] (Ea J [0] (N9,s)))) [6,7,8,9] (Ik (Ij (fun _ hh=>ik hh) (Hw (MP AH)))) (SL G) AJx) (Ar G) HB G G AJw (fun _=>G)<|Dz XC G trivial (by simp only[z1,ABU,ABK]<;>rfl) (by rw[<-z2 J s XC];exact(Bg.cons 0 rfl Bg.nil))
theorem Adw(AH:B3.pos<=J.length)(Cu:cells[o]? =some AI):Aw AG 136 [By,.pointer (some ⟨b,o,none⟩),.func (.func 137) #[By] #[]] [AO b T cells,CG p bv B3] [⟨By,(⟨⟨p⟩⟩:Cq Gb)⟩,⟨bv,J⟩] (fun(_:Value) _=>True) (fun y _=>[AO b T (cells.set o y),CG p bv (CS J (F2 J) B3).2]) (fun y _=>[⟨y,(CS J (F2 J) B3).1⟩]):=by
 refine Aw.proof Tryz.func136 G 80 G G fun X w=>?_;obtain⟨GD,rfl⟩:∃GD:List Value,cells=GD.set o AI:=⟨cells,(TW Cu).symm⟩;have A7:o<GD.length:=by have:=Rj Cu;rwa [ABj]at this
 have aM:=W9 J B3;refine Am<|Ae<|An G G<|Ch 1 (Oz By bv p B3) (Ar G) G G (Ad 0 G Aa) G fun _ v11 Ct=>?_;have Ct:v11=.bool (Ml B3):=Ct;subst Ct;refine Ac<|BN G (fun Ct=>?_) (fun Ct=>?_)
 ·
  have BI:=(N2 B3).1 Ct;exact DJ (α:=AD)<|BA<|Ej AI G trivial (by simp only[Qw BI,ABL,ABU,ABK];rfl) (by rw[Qw BI];exact(Bg.cons 0 rfl Bg.nil))
 ·
  refine AZ<|Am<|Ae<|An G G<|Co 0 G G G<|CJ 0 Ku G G (BR G) G fun PS=>CQ 0 G G (A2 G) G fun N6=>M3 AJA G G G<|Ac<|LW G<|AZ<|Ae<|An G G<|Co 1 G G G<|CJ 1 Ku G G (BR G) G fun T8=>CQ 0 G G (A2 G) G fun Vt=>Ch 1 (MW.X0 p bv J B3 1024 BV AH) (Ar G) G G (Ad 3 G Aa) G fun _ QB JS=>?_;have JS:QB=.int .i64 ((DT J 1024 B3).1:Int):=JS;subst JS;refine U 1 G<|Ac<|AF 1 G<|B5<|Lk AD 43<|Hx (σ:=Nat×Value×List AD×Bb) [(0,_),(1,_),(2,_),(7,_)] _ (fun i C=>(8,.int .i64 (i.1:Int))::C) (fun i=>[row 43 i.2.1 i.2.2.1,AO b T (GD.set o i.2.1),CG p bv i.2.2.2,CL X w]) (fun _ Dw=>Dw) (fun i=>i.1<=(DT J 1024 B3).1/\i.2.2.1.length=i.1/\i.2.2.2.pos<=J.length/\CS J (F2 J) B3=(i.2.2.1++(GI (F2 J) ((DT J 1024 B3).1-i.1) i.2.2.2).1,(GI (F2 J) ((DT J 1024 B3).1-i.1) i.2.2.2).2)) (fun i=>(DT J 1024 B3).1-i.1) (0,.slice none 0 0,[],(DT J 1024 B3).2) (Bs G) (Ad 2 G (Ad 3 G Aa)) ⟨ABg _,G,W_ AH,G⟩ (Bs G) G (Ad 2 G (Ad 3 G Aa)) ?_;rintro⟨i,Fv,acc,s⟩ ⟨Ag,AN,hs,he⟩;simp only at Ag AN hs he;refine Am<|Ae<|U 4 G ?_;refine D4 63 4 [0,1,2,7,8] G G (fun Of QE=>by
   have b7:=ABA Of;refine U 1 G<|Bl G G G<|Ch 2 (Oz By bv p s) (Ar G) G G (Ad 0 G Aa) G fun _ RC Ju=>?_;have Ju:RC=.bool (Ml s):=Ju;subst Ju;exact U 2 G<|QE G Br) ?_
  refine Ac<|BN G (fun JT=>?_) (fun JT=>?_)
  ·
   have HK:=JT;simp at HK;obtain⟨Ey,Ez⟩:=HK;have BI:=(Xf s).1 Ez;have Qa:[(F2 J s).1].length=1:=rfl;refine AZ<|Am<|B5<|Ae<|CT Hd G fun H7=>Ac<|Ae<|An G G<|D9 3 G<|D9 1 G<|VX 2 (wN By bv p J s H7 hs) (Ar G) G G G G (BE [0,1] G) G fun XD _ _=>?_;refine Ac<|Vh (L:=[AO H7 43 (A3 (F2 J s).1 XD),CG p bv (F2 J s).2,row 43 Fv acc,AO b T (GD.set o Fv),CL X w]) [(4,.NQ 0)] [(3,⟨some (Fv),fun _=>[],false⟩),(5,⟨none,fun u=>[⟨u,[(F2 J s).1]⟩],false⟩),(6,⟨none,fun _=>[],true⟩),(8,⟨none,fun _=>[],true⟩)] [] [] [(6,fun L Gz=>NZ 2 (row 43 (Gz 6) (acc++[(F2 J s).1])) L),(8,fun L Gz=>NZ 1 (AO b T ((GD.set o Fv).set o (Gz 6))) L)] (fun _=>G) (fun _=>AJw) ?_ fun V _=>?_
   ·
    refine⟨fun V Az _=>GK (ME 3 G G (A2 G) (Zg A7) G<|GH G G G G),?_⟩;refine⟨fun V Az _=>GK ?_,?_⟩
    ·
     refine Lw G OI G G G G fun Z0=>?_;refine KJ (α:=AD) (F2 J s).1 (fun S w h=>⟨XD,G,fun t Av=>by
       simp only[ABf,ABh,ABi]at Av;subst Av;exact h _ (AA' (i:=0) G),o9 J s⟩) ?_
     exact nl (Ig G G G trivial (Ad 0 G Aa) (Bg.tail Br))
    exact⟨fun V Az _=>GK (ap 2 0 G G G G OI AJv AJv G fun Zr=>nl (Ig G G G trivial Aa (Bg.tail Br))),fun V Az _=>GK (IL 3 2 G G G G (A2 G) (by rw[ABj];exact A7)<|nl (YW G G Br)),trivial⟩
   ·
    refine Vu [1,2,3] G<|?_;generalize V 6=v0;refine CU<|A5<|rg<|An G G<|C5 G G BV G<|U 1 G<|nl<|AQ<|Au 2 G<|Au 2 G ?_;exact Dy ((i+1,v0,acc++[(F2 J s).1],(F2 J s).2):Nat×Value×List AD×Bb) ⟨AJv,by simp[AN],Td hs,Y' AJv BI he⟩ (by show _-_<_-_;omega) (Bs G) (by simp only[ABL];rfl) (BE [1,2] G)
  ·
   have HK:=JT;simp at HK;have Fx:GI (F2 J) ((DT J 1024 B3).1-i) s=([],s):=by
    by_cases BI:s.fault=0
    ·
     by_cases C_:i<(DT J 1024 B3).1
     · exact absurd BI ((N2 s).1 (HK AJv))
     ·
      have e:(DT J 1024 B3).1-i=0:=AJv;rw[e];rfl
    · exact Za BI _
   rw[Fx]at he;simp only[AB7]at he;exact ex<|Ck<|Ck<|D7<|K5<|Dz Fv G trivial (by simp only[he,ABL,ABU,ABK]<;>rfl) (by simp only[he];exact(Bg.cons 0 rfl Bg.nil))
theorem Adx(AH:q.2.pos<=J.length)(Cu:q.1[o]? =some AI):Aw AG 136 [By,.pointer (some ⟨b,o,none⟩),.func (.func 137) #[By] #[]] [AO b T q.1,CG p bv q.2] [⟨By,(⟨⟨p⟩⟩:Cq Gb)⟩,⟨bv,J⟩] (fun(_:Value) _=>True) (fun y _=>[AO b T (C7 o y (CS J (F2 J)) q).1,CG p bv (C7 o y (CS J (F2 J)) q).2]) (fun y _=>[⟨y,(CS J (F2 J) q.2).1⟩]):=
 Adw By bv p J q.2 b T q.1 o AH Cu
theorem AdJ(AH:B3.pos<=J.length)(Cu:cells[o]? =some AI):Aw AG 138 [By,.pointer (some ⟨b,o,none⟩),.func (.func 139) #[By] #[]] [AO b T cells,CG p bv B3] [⟨By,(⟨⟨p⟩⟩:Cq Gb)⟩,⟨bv,J⟩] (fun(_:Value) _=>True) (fun y _=>[AO b T (cells.set o y),CG p bv (CS J (GG J) B3).2]) (fun y _=>[⟨y,(CS J (GG J) B3).1⟩]):=by
 refine Aw.proof Tryz.func138 G 80 G G fun X w=>?_;obtain⟨GD,rfl⟩:∃GD:List Value,cells=GD.set o AI:=⟨cells,(TW Cu).symm⟩;have A7:o<GD.length:=by have:=Rj Cu;rwa [ABj]at this
 have aM:=W9 J B3;refine Am<|Ae<|An G G<|Ch 1 (Oz By bv p B3) (Ar G) G G (Ad 0 G Aa) G fun _ v11 Ct=>?_;have Ct:v11=.bool (Ml B3):=Ct;subst Ct;refine Ac<|BN G (fun Ct=>?_) (fun Ct=>?_)
 ·
  have BI:=(N2 B3).1 Ct;exact DJ (α:=BL)<|BA<|Ej AI G trivial (by simp only[Qw BI,ABL,ABU,ABK];rfl) (by rw[Qw BI];exact(Bg.cons 0 rfl Bg.nil))
 ·
  refine AZ<|Am<|Ae<|An G G<|Co 0 G G G<|CJ 0 Ku G G (BR G) G fun PS=>CQ 0 G G (A2 G) G fun N6=>M3 AJA G G G<|Ac<|LW G<|AZ<|Ae<|An G G<|Co 1 G G G<|CJ 1 Ku G G (BR G) G fun T8=>CQ 0 G G (A2 G) G fun Vt=>Ch 1 (MW.X0 p bv J B3 1024 BV AH) (Ar G) G G (Ad 3 G Aa) G fun _ QB JS=>?_;have JS:QB=.int .i64 ((DT J 1024 B3).1:Int):=JS;subst JS;refine U 1 G<|Ac<|AF 1 G<|B5<|Lk BL 94<|Hx (σ:=Nat×Value×List BL×Bb) [(0,_),(1,_),(2,_),(7,_)] _ (fun i C=>(8,.int .i64 (i.1:Int))::C) (fun i=>[row 94 i.2.1 i.2.2.1,AO b T (GD.set o i.2.1),CG p bv i.2.2.2,CL X w]) (fun _ Dw=>Dw) (fun i=>i.1<=(DT J 1024 B3).1/\i.2.2.1.length=i.1/\i.2.2.2.pos<=J.length/\CS J (GG J) B3=(i.2.2.1++(GI (GG J) ((DT J 1024 B3).1-i.1) i.2.2.2).1,(GI (GG J) ((DT J 1024 B3).1-i.1) i.2.2.2).2)) (fun i=>(DT J 1024 B3).1-i.1) (0,.slice none 0 0,[],(DT J 1024 B3).2) (Bs G) (Ad 2 G (Ad 3 G Aa)) ⟨ABg _,G,W_ AH,G⟩ (Bs G) G (Ad 2 G (Ad 3 G Aa)) ?_;rintro⟨i,Fv,acc,s⟩ ⟨Ag,AN,hs,he⟩;simp only at Ag AN hs he;refine Am<|Ae<|U 4 G ?_;refine D4 63 4 [0,1,2,7,8] G G (fun Of QE=>by
   have b7:=ABA Of;refine U 1 G<|Bl G G G<|Ch 2 (Oz By bv p s) (Ar G) G G (Ad 0 G Aa) G fun _ RC Ju=>?_;have Ju:RC=.bool (Ml s):=Ju;subst Ju;exact U 2 G<|QE G Br) ?_
  refine Ac<|BN G (fun JT=>?_) (fun JT=>?_)
  ·
   have HK:=JT;simp at HK;obtain⟨Ey,Ez⟩:=HK;have BI:=(Xf s).1 Ez;have Qa:[(GG J s).1].length=1:=rfl;refine AZ<|Am<|B5<|Ae<|CT SN G fun H7=>Ac<|Ae<|An G G<|D9 3 G<|D9 1 G<|VX 2 (Aeb By bv p J s H7 hs) (Ar G) G G G G (BE [0,1] G) G fun _ _ _=>?_;refine Ac<|Vh (L:=[AO H7 94 (H9 (GG J s).1),CG p bv (GG J s).2,row 94 Fv acc,AO b T (GD.set o Fv),CL X w]) [(4,.NQ 0)] [(3,⟨some (Fv),fun _=>[],false⟩),(5,⟨none,fun u=>[⟨u,[(GG J s).1]⟩],false⟩),(6,⟨none,fun _=>[],true⟩),(8,⟨none,fun _=>[],true⟩)] [] [] [(6,fun L Gz=>NZ 2 (row 94 (Gz 6) (acc++[(GG J s).1])) L),(8,fun L Gz=>NZ 1 (AO b T ((GD.set o Fv).set o (Gz 6))) L)] (fun _=>G) (fun _=>AJw) ⟨fun V Az _=>GK (ME 3 G G (A2 G) (Zg A7) G<|GH G G G G),fun V Az _=>GK (Lw G QN G G G G fun Z0=>KJ (α:=BL) (GG J s).1 (fun S w h=>⟨(),G,by simp,o_ J s⟩)<|nl (Ig G G G trivial (Ad 0 G Aa) (Bg.tail Br))),fun V Az _=>GK (ap 2 0 G G G G QN AJv AJv G fun Zr=>nl (Ig G G G trivial Aa (Bg.tail Br))),fun V Az _=>GK (IL 3 2 G G G G (A2 G) (by rw[ABj];exact A7)<|nl (YW G G Br)),trivial⟩ fun V _=>Vu [1,2] G<|?_;generalize V 6=v0;refine CU<|A5<|rg<|An G G<|C5 G G BV G<|U 1 G<|nl<|AQ<|Au 2 G<|Au 2 G ?_;exact Dy ((i+1,v0,acc++[(GG J s).1],(GG J s).2):Nat×Value×List BL×Bb) ⟨AJv,by simp[AN],UN hs,Y' AJv BI he⟩ (by show _-_<_-_;omega) (Bs G) (by simp only[ABL];rfl) (BE [0,1] G)
  ·
   have HK:=JT;simp at HK;have Fx:GI (GG J) ((DT J 1024 B3).1-i) s=([],s):=by
    by_cases BI:s.fault=0
    ·
     by_cases C_:i<(DT J 1024 B3).1
     · exact absurd BI ((N2 s).1 (HK AJv))
     ·
      have e:(DT J 1024 B3).1-i=0:=AJv;rw[e];rfl
    · exact Za BI _
   rw[Fx]at he;simp only[AB7]at he;exact ex<|Ck<|Ck<|D7<|K5<|Dz Fv G trivial (by simp only[he,ABL,ABU,ABK]<;>rfl) (by simp only[he];exact(Bg.cons 0 rfl Bg.nil))
theorem AdK(AH:q.2.pos<=J.length)(Cu:q.1[o]? =some AI):Aw AG 138 [By,.pointer (some ⟨b,o,none⟩),.func (.func 139) #[By] #[]] [AO b T q.1,CG p bv q.2] [⟨By,(⟨⟨p⟩⟩:Cq Gb)⟩,⟨bv,J⟩] (fun(_:Value) _=>True) (fun y _=>[AO b T (C7 o y (CS J (GG J)) q).1,CG p bv (C7 o y (CS J (GG J)) q).2]) (fun y _=>[⟨y,(CS J (GG J) q.2).1⟩]):=
 AdJ By bv p J q.2 b T q.1 o AH Cu
theorem AdO(AH:B3.pos<=J.length)(Cu:cells[o]? =some AI):Aw AG 140 [By,.pointer (some ⟨b,o,none⟩),.func (.func 141) #[By] #[]] [AO b T cells,CG p bv B3] [⟨By,(⟨⟨p⟩⟩:Cq Gb)⟩,⟨bv,J⟩] (fun(_:Value) _=>True) (fun y _=>[AO b T (cells.set o y),CG p bv (CS J (GX J) B3).2]) (fun y _=>[⟨y,(CS J (GX J) B3).1⟩]):=by
 refine Aw.proof Tryz.func140 G 80 G G fun X w=>?_;obtain⟨GD,rfl⟩:∃GD:List Value,cells=GD.set o AI:=⟨cells,(TW Cu).symm⟩;have A7:o<GD.length:=by have:=Rj Cu;rwa [ABj]at this
 have aM:=W9 J B3;refine Am<|Ae<|An G G<|Ch 1 (Oz By bv p B3) (Ar G) G G (Ad 0 G Aa) G fun _ v11 Ct=>?_;have Ct:v11=.bool (Ml B3):=Ct;subst Ct;refine Ac<|BN G (fun Ct=>?_) (fun Ct=>?_)
 ·
  have BI:=(N2 B3).1 Ct;exact DJ (α:=BX)<|BA<|Ej AI G trivial (by simp only[Qw BI,ABL,ABU,ABK];rfl) (by rw[Qw BI];exact(Bg.cons 0 rfl Bg.nil))
 ·
  refine AZ<|Am<|Ae<|An G G<|Co 0 G G G<|CJ 0 Ku G G (BR G) G fun PS=>CQ 0 G G (A2 G) G fun N6=>M3 AJA G G G<|Ac<|LW G<|AZ<|Ae<|An G G<|Co 1 G G G<|CJ 1 Ku G G (BR G) G fun T8=>CQ 0 G G (A2 G) G fun Vt=>Ch 1 (MW.X0 p bv J B3 1024 BV AH) (Ar G) G G (Ad 3 G Aa) G fun _ QB JS=>?_;have JS:QB=.int .i64 ((DT J 1024 B3).1:Int):=JS;subst JS;refine U 1 G<|Ac<|AF 1 G<|B5<|Lk BX 86<|Hx (σ:=Nat×Value×List BX×Bb) [(0,_),(1,_),(2,_),(7,_)] _ (fun i C=>(8,.int .i64 (i.1:Int))::C) (fun i=>[row 86 i.2.1 i.2.2.1,AO b T (GD.set o i.2.1),CG p bv i.2.2.2,CL X w]) (fun _ Dw=>Dw) (fun i=>i.1<=(DT J 1024 B3).1/\i.2.2.1.length=i.1/\i.2.2.2.pos<=J.length/\CS J (GX J) B3=(i.2.2.1++(GI (GX J) ((DT J 1024 B3).1-i.1) i.2.2.2).1,(GI (GX J) ((DT J 1024 B3).1-i.1) i.2.2.2).2)) (fun i=>(DT J 1024 B3).1-i.1) (0,.slice none 0 0,[],(DT J 1024 B3).2) (Bs G) (Ad 2 G (Ad 3 G Aa)) ⟨ABg _,G,W_ AH,G⟩ (Bs G) G (Ad 2 G (Ad 3 G Aa)) ?_;rintro⟨i,Fv,acc,s⟩ ⟨Ag,AN,hs,he⟩;simp only at Ag AN hs he;refine Am<|Ae<|U 4 G ?_;refine D4 63 4 [0,1,2,7,8] G G (fun Of QE=>by
   have b7:=ABA Of;refine U 1 G<|Bl G G G<|Ch 2 (Oz By bv p s) (Ar G) G G (Ad 0 G Aa) G fun _ RC Ju=>?_;have Ju:RC=.bool (Ml s):=Ju;subst Ju;exact U 2 G<|QE G Br) ?_
  refine Ac<|BN G (fun JT=>?_) (fun JT=>?_)
  ·
   have HK:=JT;simp at HK;obtain⟨Ey,Ez⟩:=HK;have BI:=(Xf s).1 Ez;have Qa:[(GX J s).1].length=1:=rfl;refine AZ<|Am<|B5<|Ae<|CT SM G fun H7=>Ac<|Ae<|An G G<|D9 3 G<|D9 1 G<|VX 2 (Ak5 By bv p J s H7 hs) (Ar G) G G G G (BE [0,1] G) G fun _ _ _=>?_;refine Ac<|Vh (L:=[AO H7 86 (Hh (GX J s).1),CG p bv (GX J s).2,row 86 Fv acc,AO b T (GD.set o Fv),CL X w]) [(4,.NQ 0)] [(3,⟨some (Fv),fun _=>[],false⟩),(5,⟨none,fun u=>[⟨u,[(GX J s).1]⟩],false⟩),(6,⟨none,fun _=>[],true⟩),(8,⟨none,fun _=>[],true⟩)] [] [] [(6,fun L Gz=>NZ 2 (row 86 (Gz 6) (acc++[(GX J s).1])) L),(8,fun L Gz=>NZ 1 (AO b T ((GD.set o Fv).set o (Gz 6))) L)] (fun _=>G) (fun _=>AJw) ⟨fun V Az _=>GK (ME 3 G G (A2 G) (Zg A7) G<|GH G G G G),fun V Az _=>GK (Lw G Mt G G G G fun Z0=>KJ (α:=BX) (GX J s).1 (fun S w h=>⟨(),G,by simp,Aar J s⟩)<|nl (Ig G G G trivial (Ad 0 G Aa) (Bg.tail Br))),fun V Az _=>GK (ap 2 0 G G G G Mt AJv AJv G fun Zr=>nl (Ig G G G trivial Aa (Bg.tail Br))),fun V Az _=>GK (IL 3 2 G G G G (A2 G) (by rw[ABj];exact A7)<|nl (YW G G Br)),trivial⟩ fun V _=>Vu [1,2] G<|?_;generalize V 6=v0;refine CU<|A5<|rg<|An G G<|C5 G G BV G<|U 1 G<|nl<|AQ<|Au 2 G<|Au 2 G ?_;exact Dy ((i+1,v0,acc++[(GX J s).1],(GX J s).2):Nat×Value×List BX×Bb) ⟨AJv,by simp[AN],Wd hs,Y' AJv BI he⟩ (by show _-_<_-_;omega) (Bs G) (by simp only[ABL];rfl) (BE [0,1] G)
  ·
   have HK:=JT;simp at HK;have Fx:GI (GX J) ((DT J 1024 B3).1-i) s=([],s):=by
    by_cases BI:s.fault=0
    ·
     by_cases C_:i<(DT J 1024 B3).1
     · exact absurd BI ((N2 s).1 (HK AJv))
     ·
      have e:(DT J 1024 B3).1-i=0:=AJv;rw[e];rfl
    · exact Za BI _
   rw[Fx]at he;simp only[AB7]at he;exact ex<|Ck<|Ck<|D7<|K5<|Dz Fv G trivial (by simp only[he,ABL,ABU,ABK]<;>rfl) (by simp only[he];exact(Bg.cons 0 rfl Bg.nil))
theorem AdP(AH:q.2.pos<=J.length)(Cu:q.1[o]? =some AI):Aw AG 140 [By,.pointer (some ⟨b,o,none⟩),.func (.func 141) #[By] #[]] [AO b T q.1,CG p bv q.2] [⟨By,(⟨⟨p⟩⟩:Cq Gb)⟩,⟨bv,J⟩] (fun(_:Value) _=>True) (fun y _=>[AO b T (C7 o y (CS J (GX J)) q).1,CG p bv (C7 o y (CS J (GX J)) q).2]) (fun y _=>[⟨y,(CS J (GX J) q.2).1⟩]):=
 AdO By bv p J q.2 b T q.1 o AH Cu
theorem Adz(AH:B3.pos<=J.length)(Cu:cells[o]? =some AI):Aw AG 142 [By,.pointer (some ⟨b,o,none⟩),.func (.func 143) #[By] #[]] [AO b T cells,CG p bv B3] [⟨By,(⟨⟨p⟩⟩:Cq Gb)⟩,⟨bv,J⟩] (fun(_:Value) _=>True) (fun y _=>[AO b T (cells.set o y),CG p bv (CS J (Hk J) B3).2]) (fun y _=>[⟨y,(CS J (Hk J) B3).1⟩]):=by
 refine Aw.proof Tryz.func142 G 80 G G fun X w=>?_;obtain⟨GD,rfl⟩:∃GD:List Value,cells=GD.set o AI:=⟨cells,(TW Cu).symm⟩;have A7:o<GD.length:=by have:=Rj Cu;rwa [ABj]at this
 have aM:=W9 J B3;refine Am<|Ae<|An G G<|Ch 1 (Oz By bv p B3) (Ar G) G G (Ad 0 G Aa) G fun _ v11 Ct=>?_;have Ct:v11=.bool (Ml B3):=Ct;subst Ct;refine Ac<|BN G (fun Ct=>?_) (fun Ct=>?_)
 ·
  have BI:=(N2 B3).1 Ct;exact DJ (α:=Bx)<|BA<|Ej AI G trivial (by simp only[Qw BI,ABL,ABU,ABK];rfl) (by rw[Qw BI];exact(Bg.cons 0 rfl Bg.nil))
 ·
  refine AZ<|Am<|Ae<|An G G<|Co 0 G G G<|CJ 0 Ku G G (BR G) G fun PS=>CQ 0 G G (A2 G) G fun N6=>M3 AJA G G G<|Ac<|LW G<|AZ<|Ae<|An G G<|Co 1 G G G<|CJ 1 Ku G G (BR G) G fun T8=>CQ 0 G G (A2 G) G fun Vt=>Ch 1 (MW.X0 p bv J B3 1024 BV AH) (Ar G) G G (Ad 3 G Aa) G fun _ QB JS=>?_;have JS:QB=.int .i64 ((DT J 1024 B3).1:Int):=JS;subst JS;refine U 1 G<|Ac<|AF 1 G<|B5<|Lk Bx 98<|Hx (σ:=Nat×Value×List Bx×Bb) [(0,_),(1,_),(2,_),(7,_)] _ (fun i C=>(8,.int .i64 (i.1:Int))::C) (fun i=>[row 98 i.2.1 i.2.2.1,AO b T (GD.set o i.2.1),CG p bv i.2.2.2,CL X w]) (fun _ Dw=>Dw) (fun i=>i.1<=(DT J 1024 B3).1/\i.2.2.1.length=i.1/\i.2.2.2.pos<=J.length/\CS J (Hk J) B3=(i.2.2.1++(GI (Hk J) ((DT J 1024 B3).1-i.1) i.2.2.2).1,(GI (Hk J) ((DT J 1024 B3).1-i.1) i.2.2.2).2)) (fun i=>(DT J 1024 B3).1-i.1) (0,.slice none 0 0,[],(DT J 1024 B3).2) (Bs G) (Ad 2 G (Ad 3 G Aa)) ⟨ABg _,G,W_ AH,G⟩ (Bs G) G (Ad 2 G (Ad 3 G Aa)) ?_;rintro⟨i,Fv,acc,s⟩ ⟨Ag,AN,hs,he⟩;simp only at Ag AN hs he;refine Am<|Ae<|U 4 G ?_;refine D4 63 4 [0,1,2,7,8] G G (fun Of QE=>by
   have b7:=ABA Of;refine U 1 G<|Bl G G G<|Ch 2 (Oz By bv p s) (Ar G) G G (Ad 0 G Aa) G fun _ RC Ju=>?_;have Ju:RC=.bool (Ml s):=Ju;subst Ju;exact U 2 G<|QE G Br) ?_
  refine Ac<|BN G (fun JT=>?_) (fun JT=>?_)
  ·
   have HK:=JT;simp at HK;obtain⟨Ey,Ez⟩:=HK;have BI:=(Xf s).1 Ez;have Qa:[(Hk J s).1].length=1:=rfl;refine AZ<|Am<|B5<|Ae<|CT SO G fun H7=>Ac<|Ae<|An G G<|D9 3 G<|D9 1 G<|VX 2 (yv By bv p J s H7 hs) (Ar G) G G G G (BE [0,1] G) G fun _ _ _=>?_;refine Ac<|Vh (L:=[AO H7 98 (H8 (Hk J s).1),CG p bv (Hk J s).2,row 98 Fv acc,AO b T (GD.set o Fv),CL X w]) [(4,.NQ 0)] [(3,⟨some (Fv),fun _=>[],false⟩),(5,⟨none,fun u=>[⟨u,[(Hk J s).1]⟩],false⟩),(6,⟨none,fun _=>[],true⟩),(8,⟨none,fun _=>[],true⟩)] [] [] [(6,fun L Gz=>NZ 2 (row 98 (Gz 6) (acc++[(Hk J s).1])) L),(8,fun L Gz=>NZ 1 (AO b T ((GD.set o Fv).set o (Gz 6))) L)] (fun _=>G) (fun _=>AJw) ⟨fun V Az _=>GK (ME 3 G G (A2 G) (Zg A7) G<|GH G G G G),fun V Az _=>GK (Lw G QQ G G G G fun Z0=>KJ (α:=Bx) (Hk J s).1 (fun S w h=>⟨(),G,by simp,z6 J s⟩)<|nl (Ig G G G trivial (Ad 0 G Aa) (Bg.tail Br))),fun V Az _=>GK (ap 2 0 G G G G QQ AJv AJv G fun Zr=>nl (Ig G G G trivial Aa (Bg.tail Br))),fun V Az _=>GK (IL 3 2 G G G G (A2 G) (by rw[ABj];exact A7)<|nl (YW G G Br)),trivial⟩ fun V _=>Vu [1,2] G<|?_;generalize V 6=v0;refine CU<|A5<|rg<|An G G<|C5 G G BV G<|U 1 G<|nl<|AQ<|Au 2 G<|Au 2 G ?_;exact Dy ((i+1,v0,acc++[(Hk J s).1],(Hk J s).2):Nat×Value×List Bx×Bb) ⟨AJv,by simp[AN],Ye hs,Y' AJv BI he⟩ (by show _-_<_-_;omega) (Bs G) (by simp only[ABL];rfl) (BE [0,1] G)
  ·
   have HK:=JT;simp at HK;have Fx:GI (Hk J) ((DT J 1024 B3).1-i) s=([],s):=by
    by_cases BI:s.fault=0
    ·
     by_cases C_:i<(DT J 1024 B3).1
     · exact absurd BI ((N2 s).1 (HK AJv))
     ·
      have e:(DT J 1024 B3).1-i=0:=AJv;rw[e];rfl
    · exact Za BI _
   rw[Fx]at he;simp only[AB7]at he;exact ex<|Ck<|Ck<|D7<|K5<|Dz Fv G trivial (by simp only[he,ABL,ABU,ABK]<;>rfl) (by simp only[he];exact(Bg.cons 0 rfl Bg.nil))
theorem AdA(AH:q.2.pos<=J.length)(Cu:q.1[o]? =some AI):Aw AG 142 [By,.pointer (some ⟨b,o,none⟩),.func (.func 143) #[By] #[]] [AO b T q.1,CG p bv q.2] [⟨By,(⟨⟨p⟩⟩:Cq Gb)⟩,⟨bv,J⟩] (fun(_:Value) _=>True) (fun y _=>[AO b T (C7 o y (CS J (Hk J)) q).1,CG p bv (C7 o y (CS J (Hk J)) q).2]) (fun y _=>[⟨y,(CS J (Hk J) q.2).1⟩]):=
 Adz By bv p J q.2 b T q.1 o AH Cu
theorem AdC(AH:B3.pos<=J.length)(Cu:cells[o]? =some AI):Aw AG 144 [By,.pointer (some ⟨b,o,none⟩),.func (.func 145) #[By] #[]] [AO b T cells,CG p bv B3] [⟨By,(⟨⟨p⟩⟩:Cq Gb)⟩,⟨bv,J⟩] (fun(_:Value) _=>True) (fun y _=>[AO b T (cells.set o y),CG p bv (CS J (HF J) B3).2]) (fun y _=>[⟨y,(CS J (HF J) B3).1⟩]):=by
 refine Aw.proof Tryz.func144 G 80 G G fun X w=>?_;obtain⟨GD,rfl⟩:∃GD:List Value,cells=GD.set o AI:=⟨cells,(TW Cu).symm⟩;have A7:o<GD.length:=by have:=Rj Cu;rwa [ABj]at this
 have aM:=W9 J B3;refine Am<|Ae<|An G G<|Ch 1 (Oz By bv p B3) (Ar G) G G (Ad 0 G Aa) G fun _ v11 Ct=>?_;have Ct:v11=.bool (Ml B3):=Ct;subst Ct;refine Ac<|BN G (fun Ct=>?_) (fun Ct=>?_)
 ·
  have BI:=(N2 B3).1 Ct;exact DJ (α:=Df)<|BA<|Ej AI G trivial (by simp only[Qw BI,ABL,ABU,ABK];rfl) (by rw[Qw BI];exact(Bg.cons 0 rfl Bg.nil))
 ·
  refine AZ<|Am<|Ae<|An G G<|Co 0 G G G<|CJ 0 Ku G G (BR G) G fun PS=>CQ 0 G G (A2 G) G fun N6=>M3 AJA G G G<|Ac<|LW G<|AZ<|Ae<|An G G<|Co 1 G G G<|CJ 1 Ku G G (BR G) G fun T8=>CQ 0 G G (A2 G) G fun Vt=>Ch 1 (MW.X0 p bv J B3 1024 BV AH) (Ar G) G G (Ad 3 G Aa) G fun _ QB JS=>?_;have JS:QB=.int .i64 ((DT J 1024 B3).1:Int):=JS;subst JS;refine U 1 G<|Ac<|AF 1 G<|B5<|Lk Df 101<|Hx (σ:=Nat×Value×List Df×Bb) [(0,_),(1,_),(2,_),(7,_)] _ (fun i C=>(8,.int .i64 (i.1:Int))::C) (fun i=>[row 101 i.2.1 i.2.2.1,AO b T (GD.set o i.2.1),CG p bv i.2.2.2,CL X w]) (fun _ Dw=>Dw) (fun i=>i.1<=(DT J 1024 B3).1/\i.2.2.1.length=i.1/\i.2.2.2.pos<=J.length/\CS J (HF J) B3=(i.2.2.1++(GI (HF J) ((DT J 1024 B3).1-i.1) i.2.2.2).1,(GI (HF J) ((DT J 1024 B3).1-i.1) i.2.2.2).2)) (fun i=>(DT J 1024 B3).1-i.1) (0,.slice none 0 0,[],(DT J 1024 B3).2) (Bs G) (Ad 2 G (Ad 3 G Aa)) ⟨ABg _,G,W_ AH,G⟩ (Bs G) G (Ad 2 G (Ad 3 G Aa)) ?_;rintro⟨i,Fv,acc,s⟩ ⟨Ag,AN,hs,he⟩;simp only at Ag AN hs he;refine Am<|Ae<|U 4 G ?_;refine D4 63 4 [0,1,2,7,8] G G (fun Of QE=>by
   have b7:=ABA Of;refine U 1 G<|Bl G G G<|Ch 2 (Oz By bv p s) (Ar G) G G (Ad 0 G Aa) G fun _ RC Ju=>?_;have Ju:RC=.bool (Ml s):=Ju;subst Ju;exact U 2 G<|QE G Br) ?_
  refine Ac<|BN G (fun JT=>?_) (fun JT=>?_)
  ·
   have HK:=JT;simp at HK;obtain⟨Ey,Ez⟩:=HK;have BI:=(Xf s).1 Ez;have Qa:[(HF J s).1].length=1:=rfl;refine AZ<|Am<|B5<|Ae<|CT de G fun H7=>Ac<|Ae<|An G G<|D9 3 G<|D9 1 G<|VX 2 (y0 By bv p J s H7 hs) (Ar G) G G G G (BE [0,1] G) G fun _ _ _=>?_;refine Ac<|Vh (L:=[AO H7 101 (QT (HF J s).1),CG p bv (HF J s).2,row 101 Fv acc,AO b T (GD.set o Fv),CL X w]) [(4,.NQ 0)] [(3,⟨some (Fv),fun _=>[],false⟩),(5,⟨none,fun u=>[⟨u,[(HF J s).1]⟩],false⟩),(6,⟨none,fun _=>[],true⟩),(8,⟨none,fun _=>[],true⟩)] [] [] [(6,fun L Gz=>NZ 2 (row 101 (Gz 6) (acc++[(HF J s).1])) L),(8,fun L Gz=>NZ 1 (AO b T ((GD.set o Fv).set o (Gz 6))) L)] (fun _=>G) (fun _=>AJw) ⟨fun V Az _=>GK (ME 3 G G (A2 G) (Zg A7) G<|GH G G G G),fun V Az _=>GK (Lw G RM G G G G fun Z0=>KJ (α:=Df) (HF J s).1 (fun S w h=>⟨(),G,by simp,z8 J s⟩)<|nl (Ig G G G trivial (Ad 0 G Aa) (Bg.tail Br))),fun V Az _=>GK (ap 2 0 G G G G RM AJv AJv G fun Zr=>nl (Ig G G G trivial Aa (Bg.tail Br))),fun V Az _=>GK (IL 3 2 G G G G (A2 G) (by rw[ABj];exact A7)<|nl (YW G G Br)),trivial⟩ fun V _=>Vu [1,2] G<|?_;generalize V 6=v0;refine CU<|A5<|rg<|An G G<|C5 G G BV G<|U 1 G<|nl<|AQ<|Au 2 G<|Au 2 G ?_;exact Dy ((i+1,v0,acc++[(HF J s).1],(HF J s).2):Nat×Value×List Df×Bb) ⟨AJv,by simp[AN],aF hs,Y' AJv BI he⟩ (by show _-_<_-_;omega) (Bs G) (by simp only[ABL];rfl) (BE [0,1] G)
  ·
   have HK:=JT;simp at HK;have Fx:GI (HF J) ((DT J 1024 B3).1-i) s=([],s):=by
    by_cases BI:s.fault=0
    ·
     by_cases C_:i<(DT J 1024 B3).1
     · exact absurd BI ((N2 s).1 (HK AJv))
     ·
      have e:(DT J 1024 B3).1-i=0:=AJv;rw[e];rfl
    · exact Za BI _
   rw[Fx]at he;simp only[AB7]at he;exact ex<|Ck<|Ck<|D7<|K5<|Dz Fv G trivial (by simp only[he,ABL,ABU,ABK]<;>rfl) (by simp only[he];exact(Bg.cons 0 rfl Bg.nil))
theorem AdD(AH:q.2.pos<=J.length)(Cu:q.1[o]? =some AI):Aw AG 144 [By,.pointer (some ⟨b,o,none⟩),.func (.func 145) #[By] #[]] [AO b T q.1,CG p bv q.2] [⟨By,(⟨⟨p⟩⟩:Cq Gb)⟩,⟨bv,J⟩] (fun(_:Value) _=>True) (fun y _=>[AO b T (C7 o y (CS J (HF J)) q).1,CG p bv (C7 o y (CS J (HF J)) q).2]) (fun y _=>[⟨y,(CS J (HF J) q.2).1⟩]):=
 AdC By bv p J q.2 b T q.1 o AH Cu
end
section
theorem AjP(By bv:Value)(p:Nat)(J:List UInt8)(s:Bb)(b:Nat)(AH:s.pos<=J.length):Aw AG 72 [By,.pointer (some ⟨b,0,none⟩)] [AO b 33 IQ,CG p bv s] [⟨By,(⟨⟨p⟩⟩:Cq Gb)⟩,⟨bv,J⟩] (fun(_:Value×Value×Value×Value×Value×Value) _=>True) (fun y _=>[AO b 33 (BY (FC J s).1 y.1 y.2.1 y.2.2.1 y.2.2.2.1 y.2.2.2.2.1 y.2.2.2.2.2),CG p bv (FC J s).2]) (fun y _=>[⟨y.1,(FC J s).1.Aj⟩,⟨y.2.1,(FC J s).1.Bz⟩,⟨y.2.2.1,(FC J s).1.AA⟩,⟨y.2.2.2.1,(FC J s).1.Bj⟩,⟨y.2.2.2.2.1,(FC J s).1.CX⟩,⟨y.2.2.2.2.2,(FC J s).1.Cf⟩]):=by
 refine Aw.proof Tryz.func72 G 95 G G fun X w=>Am<|MM b [0,1] [1,2,0] (fun u=>NO By bv u p J b 33 (IQ,s) [0,1] AH (SL G) AJx) (Ar G) HB G G AJw (fun _=>G)<|A5<|Ae<|U 4 G<|Hs 2 (o0 By bv p J b 33 (CO J [0,1] (IQ,s)) 2 (Hw AH) G) (Ar G) G G (BE [0,1] G) G fun _ _ _=>Ac<|Am<|MM b [3,4] [1,2,0] (fun u=>cK By bv u p J b 33 (E9 J 2 (CO J [0,1] (IQ,s))) [3,4] (Pw (Hw AH)) (vr G) AJx) (Ar G) QO G G AJw (fun _=>G)<|A5<|Ae<|U 4 G<|BH (xs:=[.tmp 30]) (us:=[.pointer (some ⟨b,5,none⟩)]) (E:=191) (bytes:=8) (n:=1) G (by exact HB) G G G G G G fun xl=>Q5 (NW b [5]) ([5].map fun o=>[.pointer (some ⟨b,o,none⟩)]) G (fun S w h=>Y5 S w _) (ABy G)<|Hs 2 (NO By bv _ p J b 33 (Ea J [3,4] (E9 J 2 (CO J [0,1] (IQ,s)))) [5] (MP (Pw (Hw AH))) (by intro x Ab;simp only[ABf,ABh,ABi]at Ab;rcases Ab with rfl<;>rfl) AJx) (Ar G) G G (BE [1,2,0] G) G fun _ _ _=>Ac<|Ae<|U 5 G<|Ql (ys:=[.tmp 37]) (xs:=[]) G G G<|Hs 2 (Adx By bv p J b 33 (CO J [5] (Ea J [3,4] (E9 J 2 (CO J [0,1] (IQ,s))))) 6 (Hw (MP (Pw (Hw AH)))) G) (Ar G) G G (BE [1,2] G) G fun I' _ _=>Ac<|Ae<|U 5 G<|Ql (ys:=[.tmp 44]) (xs:=[]) G G G<|Hs 2 (AdK By bv p J b 33 (C7 6 I' (CS J (F2 J)) (CO J [5] (Ea J [3,4] (E9 J 2 (CO J [0,1] (IQ,s)))))) 7 (Ik (Ij (fun _ hh=>Td hh) (Hw (MP (Pw (Hw AH)))))) G) (Ar G) G G (BE [2,3] G) G fun Ja _ _=>Ac<|Ae<|U 5 G<|Ql (ys:=[.tmp 51]) (xs:=[]) G G G<|Hs 2 (AdP By bv p J b 33 (C7 7 Ja (CS J (GG J)) (C7 6 I' (CS J (F2 J)) (CO J [5] (Ea J [3,4] (E9 J 2 (CO J [0,1] (IQ,s))))))) 8 (Ik (Ij (fun _ hh=>UN hh) (Ik (Ij (fun _ hh=>Td hh) (Hw (MP (Pw (Hw AH)))))))) G) (Ar G) G G (BE [3,4] G) G fun Kf _ _=>Ac<|Ae<|U 5 G<|Ql (ys:=[.tmp 58]) (xs:=[]) G G G<|Hs 2 (AdA By bv p J b 33 (C7 8 Kf (CS J (GX J)) (C7 7 Ja (CS J (GG J)) (C7 6 I' (CS J (F2 J)) (CO J [5] (Ea J [3,4] (E9 J 2 (CO J [0,1] (IQ,s)))))))) 9 (Ik (Ij (fun _ hh=>Wd hh) (Ik (Ij (fun _ hh=>UN hh) (Ik (Ij (fun _ hh=>Td hh) (Hw (MP (Pw (Hw AH)))))))))) G) (Ar G) G G (BE [4,5] G) G fun HS _ _=>Ac<|Ae<|U 5 G<|Ql (ys:=[.tmp 65]) (xs:=[]) G G G<|Hs 2 (AdD By bv p J b 33 (C7 9 HS (CS J (Hk J)) (C7 8 Kf (CS J (GX J)) (C7 7 Ja (CS J (GG J)) (C7 6 I' (CS J (F2 J)) (CO J [5] (Ea J [3,4] (E9 J 2 (CO J [0,1] (IQ,s))))))))) 10 (Ik (Ij (fun _ hh=>Ye hh) (Ik (Ij (fun _ hh=>Wd hh) (Ik (Ij (fun _ hh=>UN hh) (Ik (Ij (fun _ hh=>Td hh) (Hw (MP (Pw (Hw AH)))))))))))) (by simp only[CO,Ea,E9,C7,ABt,ABu,ABC,ABV])) (Ar G) G G (BE [5,6] G) G fun KF _ _=>?_;refine Ac<|Ae<|U 4 G<|Hs 2 (sk By bv p J b 33 (C7 10 KF (CS J (HF J)) (C7 9 HS (CS J (Hk J)) (C7 8 Kf (CS J (GX J)) (C7 7 Ja (CS J (GG J)) (C7 6 I' (CS J (F2 J)) (CO J [5] (Ea J [3,4] (E9 J 2 (CO J [0,1] (IQ,s)))))))))) 11 (Ik (Ij (fun _ hh=>aF hh) (Ik (Ij (fun _ hh=>Ye hh) (Ik (Ij (fun _ hh=>Wd hh) (Ik (Ij (fun _ hh=>UN hh) (Ik (Ij (fun _ hh=>Td hh) (Hw (MP (Pw (Hw AH)))))))))))))) (by simp only[CO,Ea,E9,C7,ABt,ABu,ABC,ABV]) (by simp only[CO,Ea,E9,C7,ABt,ABu,Nat.reduceAdd,ABC,ABV]) (by simp only[CO,Ea,E9,C7,ABt,ABu,Nat.reduceAdd,ABC,ABV]) (by simp only[CO,Ea,E9,C7,ABt,ABu,Nat.reduceAdd,ABC,ABV]) (by simp only[CO,Ea,E9,C7,ABt,ABu,Nat.reduceAdd,ABC,ABV]) (by simp only[CO,Ea,E9,C7,ABt,ABu,Nat.reduceAdd,ABC,ABV]) (by simp only[CO,Ea,E9,C7,ABt,ABu,Nat.reduceAdd,ABC,ABV])) (Ar G) G G (BE [6,7] G) G fun _ _ _=>?_;refine Ac<|Ae<|U 4 G<|Hs 2 (sk By bv p J b 33 (Ga J 11 (C7 10 KF (CS J (HF J)) (C7 9 HS (CS J (Hk J)) (C7 8 Kf (CS J (GX J)) (C7 7 Ja (CS J (GG J)) (C7 6 I' (CS J (F2 J)) (CO J [5] (Ea J [3,4] (E9 J 2 (CO J [0,1] (IQ,s))))))))))) 18 (b_ (Ik (Ij (fun _ hh=>aF hh) (Ik (Ij (fun _ hh=>Ye hh) (Ik (Ij (fun _ hh=>Wd hh) (Ik (Ij (fun _ hh=>UN hh) (Ik (Ij (fun _ hh=>Td hh) (Hw (MP (Pw (Hw AH))))))))))))))) (by simp only[CO,Ea,E9,C7,Ga,ABt,ABu,Nat.reduceAdd,ABC,ABV]) (by simp only[CO,Ea,E9,C7,Ga,ABt,ABu,Nat.reduceAdd,ABC,ABV]) (by simp only[CO,Ea,E9,C7,Ga,ABt,ABu,Nat.reduceAdd,ABC,ABV]) (by simp only[CO,Ea,E9,C7,Ga,ABt,ABu,Nat.reduceAdd,ABC,ABV]) (by simp only[CO,Ea,E9,C7,Ga,ABt,ABu,Nat.reduceAdd,ABC,ABV]) (by simp only[CO,Ea,E9,C7,Ga,ABt,ABu,Nat.reduceAdd,ABC,ABV]) (by simp only[CO,Ea,E9,C7,Ga,ABt,ABu,Nat.reduceAdd,ABC,ABV])) (Ar G) G G (BE [6,7] G) G fun _ _ _=>?_;refine Ac<|Ae<|U 4 G<|oA (α:=UInt8)<|Hs 2 (xP By bv p J b 33 (Ga J 18 (Ga J 11 (C7 10 KF (CS J (HF J)) (C7 9 HS (CS J (Hk J)) (C7 8 Kf (CS J (GX J)) (C7 7 Ja (CS J (GG J)) (C7 6 I' (CS J (F2 J)) (CO J [5] (Ea J [3,4] (E9 J 2 (CO J [0,1] (IQ,s)))))))))))) 25 AI (b_ (b_ (Ik (Ij (fun _ hh=>aF hh) (Ik (Ij (fun _ hh=>Ye hh) (Ik (Ij (fun _ hh=>Wd hh) (Ik (Ij (fun _ hh=>UN hh) (Ik (Ij (fun _ hh=>Td hh) (Hw (MP (Pw (Hw AH)))))))))))))))) (by simp only[CO,Ea,E9,C7,Ga,ABt,ABu,Nat.reduceAdd,ABC,ABV])) (Ar G) G G (BE [7,8,0] G) G fun Ns _ _=>?_;exact Ac<|MM b [26,27,28] [9,10,0] (fun u=>NO By bv u p J b 33 (C7 25 Ns (Gm J 65535) (Ga J 18 (Ga J 11 (C7 10 KF (CS J (HF J)) (C7 9 HS (CS J (Hk J)) (C7 8 Kf (CS J (GX J)) (C7 7 Ja (CS J (GG J)) (C7 6 I' (CS J (F2 J)) (CO J [5] (Ea J [3,4] (E9 J 2 (CO J [0,1] (IQ,s))))))))))))) [26,27,28] (Ik (Vf (b_ (b_ (Ik (Ij (fun _ hh=>aF hh) (Ik (Ij (fun _ hh=>Ye hh) (Ik (Ij (fun _ hh=>Wd hh) (Ik (Ij (fun _ hh=>UN hh) (Ik (Ij (fun _ hh=>Td hh) (Hw (MP (Pw (Hw AH)))))))))))))))))) (by intro x Ab;simp only[ABf,ABh,ABi]at Ab;rcases Ab with rfl|rfl|rfl<;>simp only[CO,Ea,E9,C7,Ga,ABt,ABu,Nat.reduceAdd,ABC,ABV]) AJx) (Ar G) HB G G AJw (fun _=>G)<|Dz ⟨I',Ja,Kf,HS,KF,Ns⟩ G trivial (by simp only[Aai,ABU,ABK]<;>rfl) (by rw[<-Aaj J s I' Ja Kf HS KF Ns,<-Aak J s I' Ja Kf HS KF Ns,<-Aal J s I' Ja Kf HS KF Ns,<-Aam J s I' Ja Kf HS KF Ns,<-Aan J s I' Ja Kf HS KF Ns,<-Aao J s I' Ja Kf HS KF Ns];exact(Bg.cons 6 rfl (Bg.cons 5 rfl (Bg.cons 4 rfl (Bg.cons 3 rfl (Bg.cons 2 rfl (Bg.cons 0 rfl Bg.nil)))))))
attribute [local irreducible] FC D6 Gm Kw DT Q0 NF Lm
theorem Aim(By bv:Value)(p:Nat)(J:List UInt8)(s:Bb)(b:Nat)(AH:s.pos<=J.length):Aw AG 71 [By,.pointer (some ⟨b,0,none⟩)] [AO b 33 IQ,CG p bv s] [⟨By,(⟨⟨p⟩⟩:Cq Gb)⟩,⟨bv,J⟩] (fun(_:Value×Value×Value×Value×Value×Value) _=>True) (fun y _=>[AO b 33 (BY (FC J s).1 y.1 y.2.1 y.2.2.1 y.2.2.2.1 y.2.2.2.2.1 y.2.2.2.2.2),CG p bv (FC J s).2]) (fun y _=>[⟨y.1,(FC J s).1.Aj⟩,⟨y.2.1,(FC J s).1.Bz⟩,⟨y.2.2.1,(FC J s).1.AA⟩,⟨y.2.2.2.1,(FC J s).1.Bj⟩,⟨y.2.2.2.2.1,(FC J s).1.CX⟩,⟨y.2.2.2.2.2,(FC J s).1.Cf⟩]):=by
 exact Aw.proof Tryz.func71 G 5 G G fun X w=>rg<|An G G<|Hs 2 (AjP By bv p J s b AH) (Ar G) G G (BE [0,1] G) G fun y _ _=>nl<|Dz y G trivial G (Ad 0 G (Ad 1 G (Ad 2 G (Ad 3 G (Ad 4 G (Ad 5 G Aa))))))
theorem Aio(Bk:Value)(J:List UInt8)(b:Nat):Aw AG 70 [Bk,.func (.func 71) #[] #[.pointer (some ⟨b,0,none⟩)]] [AO b 33 IQ] [⟨Bk,J⟩] (fun(_:Value×Value×Value×Value×Value×Value) v=>v=.int .i64 (NF J)) (fun y _=>[AO b 33 (BY (Lm J) y.1 y.2.1 y.2.2.1 y.2.2.2.1 y.2.2.2.2.1 y.2.2.2.2.2)]) (fun y _=>[⟨y.1,(Lm J).Aj⟩,⟨y.2.1,(Lm J).Bz⟩,⟨y.2.2.1,(Lm J).AA⟩,⟨y.2.2.2.1,(Lm J).Bj⟩,⟨y.2.2.2.2.1,(Lm J).CX⟩,⟨y.2.2.2.2.2,(Lm J).Cf⟩]):=by
 refine Aw.proof Tryz.func70 G 30 G G fun X w=>AF 1 G<|Am<|Ae<|An G G<|C2 0 G G ACb G fun MD=>U 1 G<|Ac<|B9 G (fun D2=>?_) (fun D2=>?_)
 ·
  have AN:65536<J.length:=AJv;rw[lY AN,zn AN];exact DJ (α:=AD)<|DJ (α:=BL)<|DJ (α:=BX)<|DJ (α:=Bx)<|DJ (α:=Df)<|DJ (α:=UInt8)<|AF 1 G<|BA<|Bq (AI,AI,AI,AI,AI,AI) G G G G (Ad 5 G (Ad 4 G (Ad 3 G (Ad 2 G (Ad 1 G (Ad 0 G Aa))))))
 ·
  have AN:¬65536<J.length:=AJv;rw[gn AN,oM AN];refine AZ<|Ae<|An G G<|Dm (MW.Aes Bk J AJv) (Ar G) G (Ad 0 G Aa) G fun AlD v10 Dq=>?_;obtain⟨p,bv⟩:=AlD;have Dq:v10=.pointer (some ⟨p,0,none⟩):=Dq;subst Dq;refine Db (ps:=[(0,.tmp 10)]) (cs:=[.pointer (some ⟨p,0,none⟩),.slice none 0 0,.bool false,.int .i64 0]) AJy AJw G<|CV G G G fun ns=>U 1 G<|Ac<|Ae<|M4 (α:=Gb) ⟨p⟩ (fun S w h=>⟨(),G,by simp,trivial⟩)<|U 2 G<|D9 1 G<|VX 2 (Aim (.pointer (some ⟨ns,0,none⟩)) bv p J ⟨0,0⟩ b (ABg _)) (Ar G) G G G G (BE [0,1] G) G fun y _ _=>Ac<|Am<|Ae<|An G G<|Co 6 G G G<|CJ 6 sn G G (BR G) G fun Zq=>CQ 0 G G (A2 G) G fun AkR=>U 1 G<|Ac<|Fa G (fun HQ=>?_) (fun HQ=>?_)
  · exact absurd G HQ --#done
  ·
   refine AZ<|Ae<|An G G<|Co 7 G G G<|CJ 7 Ku G G (BR G) G fun N4=>CQ 0 G G (A2 G) G fun Uc=>Ch 1 (MW.y3 p bv J (FC J ⟨0,0⟩).2) (Ar G) G G (Ad 9 G Aa) G fun _ MR G5=>?_;have G5:MR=.int .i64 (Q0 J (FC J ⟨0,0⟩).2):=G5;subst G5;exact U 1 G<|Ac<|rt<|Au 1 G<|AQ<|Bq y G G G G (Ad 2 G (Ad 3 G (Ad 4 G (Ad 5 G (Ad 6 G (Ad 7 G Aa))))))
end
section
attribute [local irreducible] FC D6 Gm Kw DT Q0 NF Lm
theorem Ain(Bk:Value)(J:List UInt8):Aw AG 30 [Bk] [] [⟨Bk,J⟩] (fun(y:Value×Value×Value×Value×Value×Value) r=>r=.tuple #[.agg (BY (Er J).1 y.1 y.2.1 y.2.2.1 y.2.2.2.1 y.2.2.2.2.1 y.2.2.2.2.2).toArray,.int .i64 (Er J).2]) (fun _ _=>[]) (fun y _=>[⟨y.1,(Er J).1.Aj⟩,⟨y.2.1,(Er J).1.Bz⟩,⟨y.2.2.1,(Er J).1.AA⟩,⟨y.2.2.2.1,(Er J).1.Bj⟩,⟨y.2.2.2.2.1,(Er J).1.CX⟩,⟨y.2.2.2.2.2,(Er J).1.Cf⟩]):=by
 refine Aw.proof Tryz.func30 G 14 G G fun X w=>Ae<|CT LQ G fun Dh=>U 1 G<|Ac<|Ae<|CT LQ G fun En=>Ac<|Am<|Ae<|An G G<|Nd (xs:=[.tmp 4]) G G<|Hs 1 (Aio Bk J En) (Ar G) G G (Ad 0 G Aa) G fun y T9 D2=>?_;have D2:T9=.int .i64 (NF J):=D2;subst D2;obtain⟨KX,J5,Kd,Ke,IN,Ls⟩:=y;refine U 1 G<|Ac<|AF 2 G<|Fa G (fun Dq=>?_) (fun Dq=>?_)
 ·
  rw[k8 Dq];exact DJ (α:=AD)<|DJ (α:=BL)<|DJ (α:=BX)<|DJ (α:=Bx)<|DJ (α:=Df)<|DJ (α:=UInt8)<|Ae<|Db (ps:=[]) (cs:=(BY Np AI AI AI AI AI AI)) AJy AJw G<|An G G<|BZ 1 (us:=(BY Np AI AI AI AI AI AI)) G G G (At G) G G<|U 1 G<|Ac<|BA<|D8 (AI,AI,AI,AI,AI,AI) [_,_] (Fp 1 G G G G (At G)) AJy G (Ad 5 G (Ad 4 G (Ad 3 G (Ad 2 G (Ad 1 G (Ad 0 G Aa))))))
 ·
  rw[fN Dq];refine AZ<|Ae<|BJ 0 (BY ((Lm J)) KX J5 Kd Ke IN Ls) G G (At G) G G<|Cp 0 G fun bM=>?_;refine Cp 1 G fun WW=>?_;refine Cp 2 G fun bP=>?_;refine Cp 3 G fun bQ=>?_;refine Cp 4 G fun TH=>?_;refine Cp 5 G fun bS=>?_;exact BZ 1 (us:=(BY ((Lm J)) KX J5 Kd Ke IN Ls)) G G G (At G) (by simp only[ABn,ABr,ABp,bM,WW,bP,bQ,TH,bS];rfl) G<|U 1 G<|Ac<|rt<|D8 (KX,J5,Kd,Ke,IN,Ls) [_,_] (Fp 1 G G G G (At G)) AJy G (Ad 0 G (Ad 1 G (Ad 2 G (Ad 3 G (Ad 4 G (Ad 5 G Aa))))))
end
end Go.Proofs.YtalfaopffbkdnabGreat.XM
namespace Go.Proofs.YtalfaopffbkdnabGreat.Ref
end Go.Proofs.YtalfaopffbkdnabGreat.Ref
namespace Go.Apw
end Go.Apw
namespace Go.Proofs.YtalfaopffbkdnabGreat.Ref
end Go.Proofs.YtalfaopffbkdnabGreat.Ref
namespace Go.Apw
end Go.Apw
namespace Go.Proofs.YtalfaopffbkdnabGreat.Ref
end Go.Proofs.YtalfaopffbkdnabGreat.Ref
namespace Go.Apw
end Go.Apw
namespace Go.Proofs.YtalfaopffbkdnabGreat.Ref
end Go.Proofs.YtalfaopffbkdnabGreat.Ref
namespace Go.Apw
end Go.Apw
namespace Go.Proofs.YtalfaopffbkdnabGreat.Ref
section
attribute [local irreducible] UO UM Iu UL Wc L_ HF GG Hk GX F2 FC D6 Gm Kw DT
end
section
attribute [local irreducible] FC D6 Gm Kw DT
end
section
attribute [local irreducible] FC D6 Gm Kw DT Q0 NF Lm
end
end Go.Proofs.YtalfaopffbkdnabGreat.Ref
namespace Go.Apw
theorem ln(PU:Value)(b:List UInt8):Aw AG 30 [PU] [] [⟨PU,b⟩] (fun(y:Value×Value×Value×Value×Value×Value) r=>r=.tuple #[.agg (BY (Er b).1 y.1 y.2.1 y.2.2.1 y.2.2.2.1 y.2.2.2.2.1 y.2.2.2.2.2).toArray,.int .i64 (Er b).2]) (fun _ _=>[]) (fun y _=>[⟨y.1,(Er b).1.Aj⟩,⟨y.2.1,(Er b).1.Bz⟩,⟨y.2.2.1,(Er b).1.AA⟩,⟨y.2.2.2.1,(Er b).1.Bj⟩,⟨y.2.2.2.2.1,(Er b).1.CX⟩,⟨y.2.2.2.2.2,(Er b).1.Cf⟩]):=XM.Ain PU b
theorem AHr:QD AG 33 1 1:=QD.mk Tryz.underlying33 rfl AJw rfl
theorem N0:H5 AG 26 86 11:=⟨ACi,AJw⟩
theorem SM:E3 AG 86 [.int .i64 0,.int .i64 0,.int .i64 0,.int .i64 0,.int .i64 0,.int .i64 0,.string ByteArray.empty,.string ByteArray.empty,.int .i64 0,.int .i64 0,.int .i64 0]:=E3.mk AJw
theorem LQ:E3 AG 33 [.int .i64 0,.int .i64 0,.bool false,.string ByteArray.empty,.string ByteArray.empty,.int .i64 0,.slice none 0 0,.slice none 0 0,.slice none 0 0,.slice none 0 0,.slice none 0 0,.int .i64 0,.int .i64 0,.int .i64 0,.string ByteArray.empty,.string ByteArray.empty,.int .i64 0,.int .i64 0,.int .i64 0,.int .i64 0,.int .i64 0,.string ByteArray.empty,.string ByteArray.empty,.int .i64 0,.int .i64 0,.slice none 0 0,.int .i64 0,.int .i64 0,.int .i64 0]:=E3.mk AJw
theorem tx(s:Bv)(El EV D_ EA Em Eh:Value)(J8:s.wf):Cv AG 14 [.agg (BY s El EV D_ EA Em Eh).toArray] [⟨El,s.Aj⟩,⟨EV,s.Bz⟩,⟨D_,s.AA⟩,⟨EA,s.Bj⟩,⟨Em,s.CX⟩,⟨Eh,s.Cf⟩] (.bool (LN s)):=by
 refine Aw.proof Tryz.func14 G 133 G G fun X w=>Ae<|CV G G G fun CY=>U 1 G<|Ac<|Am<|Ae<|AX 2 [0] G G<|B0 (Zh _ J8.1) (Ar G) G Aa G<|U 2 G ?_;refine DE 11 14 [1] G G (fun Ct ZI=>by
  exact AX 7 [0,0,0] G G<|AX 3 [0,0] G G<|Bl G G G<|BH (xs:=[.tmp 13,.tmp 15,.tmp 17,.tmp 19,.tmp 21]) (us:=[.int .i64 s.DX,.int .i64 s.Dn,.int .i64 s.Jc,.int .i64 s.JL,.int .i64 s.GW]) (E:=3) (bytes:=8) (n:=5) G (by exact RL) G G G G G G fun Amb=>Q5 (α:=Int) [s.DX,s.Dn,s.Jc,s.JL,s.GW] [[.int .i64 s.DX],[.int .i64 s.Dn],[.int .i64 s.Jc],[.int .i64 s.JL],[.int .i64 s.GW]] G (fun S w h=>⟨⟨G,J8.2.1⟩,⟨G,J8.2.2.2.2.2.1⟩,⟨G,J8.2.2.2.2.2.2.2.2.2.2.2.2.2.2.1⟩,⟨G,J8.2.2.2.2.2.2.2.2.2.2.2.2.2.2.2.1⟩,⟨G,J8.2.2.2.2.2.2.2.2.2.2.2.2.2.2.2.2⟩,trivial⟩) (ABy G)<|Bl G G G<|B0 (yn _ _) (Ar G) G (Ad 0 G Aa) G<|U 2 G<|ZI G (Bg.tail Br)) ?_
 refine An G G<|DE 26 4 [1] G G (fun JR VE=>Bl G G G<|BJ 0 (BY s El EV D_ EA Em Eh) G G (At G) G G<|Bl G G G<|B0 (AfW _ _ _ _ _ _ _ J8) (Ar G) G (BE [0,1,2,3,4,5] G) G<|U 2 G<|VE G Br)<|An G G<|DE 31 4 [1] G G (fun ES g1=>Bl G G G<|BJ 0 (BY s El EV D_ EA Em Eh) G G (At G) G G<|Bl G G G<|B0 (Ai6 _ _ _ _ _ _ _ J8) (Ar G) G (BE [0,1,2,3,4,5] G) G<|U 2 G<|g1 G Br)<|Ac<|BN G (fun Lz=>?_) (fun Lz=>?_)
 ·
  have S8:(Zj s)=true:=Lz;exact AF 1 G<|BA<|AQ<|Bq () G G (by rw[LN,AA_ S8]) G Aa
 ·
  have S8:(Zj s)=false:=Lz;refine AZ<|Am<|Ae<|AX 2 [0] G G<|B0 (Xd _ _) (Ar G) G (Ad 1 G Aa) G<|U 2 G ?_;refine DE 40 5 [1] G G (fun K7 ZN=>by
   have Af7:=K7;simp only[ABI,ABa]at Af7;exact AX 2 [0] G G<|Bl G G G<|B0 (dS _ _) (Ar G) G (Ad 3 G Aa) G<|U 2 G<|ZN G Br) ?_
  refine An G G<|DE 46 5 [1] G G (fun US ZO=>AX 2 [0] G G<|Bl G G G<|B0 (X2 _ _) (Ar G) G (Ad 4 G Aa) G<|U 2 G<|ZO G Br)<|An G G<|DE 52 5 [1] G G (fun iK g5=>AX 2 [0] G G<|Bl G G G<|C2 2 G G ACi G fun AnW=>U 2 G<|g5 G Br)<|Ac<|BN G (fun ev=>?_) (fun ev=>?_)
  ·
   have X6:(Zk s)=true:=ev;exact AF 1 G<|BA<|AQ<|Bq () G G (by rw[LN,AA9 (by rw[S8];decide),AA_ X6]) G Aa
  ·
   have X6:(Zk s)=false:=ev;refine AZ<|Am<|Ae<|AX 2 [0] G G<|C2 2 G G ACi G fun Adk=>An G G<|Ac<|B5<|Ji (σ:=Nat) [(1,_),(59,_),(60,_)] _ (fun i C=>(61,.int .i64 (i:Int))::C) (fun i=>i<=s.AA.length/\(∀j,j<i->Mr s (s.AA.getD j default)=true)) (fun i=>s.AA.length-i) 0 (Bs G) (Ad 0 G (Ad 1 G (Ad 2 G (Ad 3 G (Ad 4 G (Ad 5 G Aa)))))) ⟨ABg _,fun j Ay=>absurd Ay (AB2 j)⟩ (Bs G) ?_;rintro i ⟨Ag,C0⟩;refine AF 1 G<|Am<|B9 G (fun Th=>?_) (fun Th=>?_)
   ·
    refine AZ<|Am<|B5<|Ae<|Fo 2 G G G N0 G fun AoO=>Gi 0 G G (At G) G fun Aor uz=>CT SM G fun En=>BZ 0 (us:=(Hh ((s.AA.getD i default)))) G G G (At G) G G<|Ac<|Ae<|BJ 1 (BY s El EV D_ EA Em Eh) G G (At G) G G<|BJ 0 (Hh ((s.AA.getD i default))) G G (At G) G G<|B0 (Ak8 _ _ _ _ _ _ _ _ J8 uz) (Ar G) G (BE [2,3,4,5,6,7] G) G<|IH G G<|Ac<|BN G (fun R5=>?_) (fun R5=>?_)
    · exact AF 1 G<|rt<|C9<|Cd<|Cd<|C9<|Cd<|AQ<|AQ<|Bq () G G (by rw[LN,AA9 (by rw[S8];decide),AA9 (by rw[X6];decide),AA9 (by rw[gm,Ur i AJv (by simpa using R5)];decide)]) G Aa
    ·
     refine EG<|CU<|A5<|rg<|C5 G G BV G<|An G G<|nl<|AQ ?_;exact Dy (i+1) ⟨AJv,(Ki C0 (by simpa using R5))⟩ AJv (Bs G) G (BE [2,3,4,5,6,7] G)
   ·
    have h0:gm s=true:=Us (fun j Ay=>C0 j AJv);refine ex<|Ck<|Ck<|D7<|A5<|Am<|Ae<|U 1 G<|BJ 0 (ED s.Bt) G G (At G) G G<|Db (ps:=[]) (cs:=(ED (Gs))) AJy AJw G<|Qo RV (s.Bt) (Gs) G G G<|An G G ?_;refine D4 74 29 [1] G G (fun ew vI=>by
     have Aga:=ew;simp only[ABe,ABl]at Aga;refine U 1 G<|Bl G G G<|BJ 0 (ED s.Bt) G G (At G) G G<|Bl G G G<|B0 (fC _ J8.2.2.2.2.2.2.2.2.2.2.2.1) (Ar G) G Aa G<|U 2 G ?_;refine DE 79 7 [1,74] G G (fun AmX g_=>by
      exact AX 7 [0,0] G G<|g_ G Br) ?_
     refine U 1 G ?_;refine DE 87 7 [1,74] G G (fun AmY g'=>by
      exact AX 7 [0,0] G G<|g' G Br) ?_
     refine U 1 G ?_;refine DE 95 7 [1,74] G G (fun Yg vH=>by
      exact Bl G G G<|BJ 0 (BY s El EV D_ EA Em Eh) G G (At G) G G<|AX 3 [0] G G<|Bl G G G<|B0 (kJ _ _ _ _ _ _ _ _ J8) (Ar G) G (BE [0,1,2,3,4,5] G) G<|U 2 G<|vH G Br) ?_
     exact U 1 G<|vI G Br) ?_
    refine Ac<|BN G (fun iA=>?_) (fun iA=>?_)
    ·
     have dY:(Xe s)=true:=iA;exact AF 1 G<|BA<|AQ<|Bq () G G (by rw[LN,AA9 (by rw[S8];decide),AA9 (by rw[X6];decide),AA_ h0,dY];first|(rw[dZ];try rfl)|(try rfl)) G Aa
    ·
     have dY:(Xe s)=false:=iA;refine AZ<|Am<|Ae<|U 1 G<|BJ 0 (ED s.CW) G G (At G) G G<|Db (ps:=[]) (cs:=(ED (Gs))) AJy AJw G<|RU RV (s.CW) (Gs) G G G<|Ac<|B9 G (fun iC=>?_) (fun iC=>?_)
     ·
      have dZ:(decide (s.CW=⟨0,0,0,ByteArray.empty,ByteArray.empty,0,0⟩))=true:=(ABG iC);exact Ae<|AX 2 [0] G G<|C2 5 G G ACb G fun Adf=>U 2 G<|Ac<|BA<|AQ<|Bq () G G (by rw[LN,AA9 (by rw[S8];decide),AA9 (by rw[X6];decide),AA_ h0,dY];first|(rw[dZ];try rfl)|(try rfl)) G Aa
     ·
      have dZ:(decide (s.CW=⟨0,0,0,ByteArray.empty,ByteArray.empty,0,0⟩))=false:=(ABM iC);refine AZ<|Ae<|AX 2 [0] G G<|Dm (ln _ _) (Ar G) G (Ad 5 G Aa) G fun AlF AkB Wf=>?_;obtain⟨uZ,u0,u1,u2,u3,u4⟩:=AlF;replace Wf:AkB=.tuple #[.agg (BY (Er _).1 uZ u0 u1 u2 u3 u4).toArray,.int .i64 (Er _).2]:=Wf;subst Wf;refine U 3 G<|CT LQ G fun E'=>Cp 0 G fun Ae5=>?_;refine Cp 1 G fun Ae6=>?_;refine Cp 2 G fun Ae7=>?_;refine Cp 3 G fun Ae8=>?_;refine Cp 4 G fun Ae9=>?_;refine Cp 5 G fun Ae_=>?_;exact BZ 0 (us:=(BY ((Er s.Cf).1) uZ u0 u1 u2 u3 u4)) G G G (At G) (by simp only[ABn,ABr,ABp,Ae5,Ae6,Ae7,Ae8,Ae9,Ae_];rfl) G<|U 1 G<|Ac<|Ae<|U 1 G<|BJ 1 (ED s.CW) G G (At G) G G<|B0 (fC _ J8.2.2.2.2.2.2.2.2.2.2.2.2.1) (Ar G) G Aa G<|An G G<|Fu 121 7 [1,1] [6] G G G<|An G G<|Fu 129 3 [] [] G G G<|U 1 G<|Ac<|rt<|AQ<|AQ<|Bq () G G (by rw[LN,AA9 (by rw[S8];decide),AA9 (by rw[X6];decide),AA_ h0,dY];first|(rw[dZ];try rfl)|(try rfl)) G Aa
theorem AjA(s:Bv)(El EV D_ EA Em Eh:Value)(J8:s.wf):Cv AG 11 [.agg (BY s El EV D_ EA Em Eh).toArray] [⟨El,s.Aj⟩,⟨EV,s.Bz⟩,⟨D_,s.AA⟩,⟨EA,s.Bj⟩,⟨Em,s.CX⟩,⟨Eh,s.Cf⟩] (.int .i64 (IA (LN s))):=by
 refine Aw.proof Tryz.func11 G 6 G G fun X w=>Ae<|CV G G G fun CY=>U 1 G<|Ac<|Am<|Ae<|BJ 0 (BY s El EV D_ EA Em Eh) G G (At G) G G<|B0 (tx _ _ _ _ _ _ _ J8) (Ar G) G (BE [0,1,2,3,4,5] G) G<|IH G G<|Ac<|BN G (fun C'=>?_) (fun C'=>?_)
 · exact AF 1 G<|BA<|AQ<|Bq () G G (by rw[IA,AA9 (by have q:=C';rw[ABe]at q;rw[q];decide)]) G Aa
 · exact AZ<|AF 1 G<|rt<|AQ<|Bq () G G (by rw[IA,AA_ (by have q:=C';rw[ABI]at q;exact q)]) G Aa
theorem zj:Po AG 63 JH:=by
 refine⟨AJw,fun a b w=>?_⟩;rw[run_equalIn_struct w 9999 63 _ _ (by simp only[Program.fieldsOf,Tryz.underlying63]) AJw];simp only[Program.fieldsOf,Tryz.underlying63];refine Eq.trans (EI G ABc G G G (Fk ABc _ _) (fun w=>EI G ABc G G G (Fk ABc _ _) (fun w=>EI G ABc G G G (Fk ABc _ _) (fun w=>EI G ABc G G G (Fk ABc _ _) (fun w=>OO w))))) ?_;congr 1;obtain⟨He,DP,EK,FR⟩:=a;obtain⟨Pt,CY,Dh,DQ⟩:=b;simp[BD.mk.injEq]
theorem Ahv(I8:Value)(x:List BD)(I9:Value)(y:List BD):Cv AG 9 [I8,I9] [⟨I8,x⟩,⟨I9,y⟩] (.bool (decide (x=y))):=by
 refine Aw.proof Tryz.func9 G 26 G G fun X w=>HP (q:=x.length<=9223372036854775807) (fun S w h=>L1 (h _ (AA' (i:=0) G))) fun Wv=>HP (q:=y.length<=9223372036854775807) (fun S w h=>L1 (h _ (AA' (i:=1) G))) fun Ww=>AF 1 G<|Am<|Ae<|An G G<|C2 0 G G AJB G fun MD=>An G G<|C2 1 G G AJB G fun Sm=>U 1 G<|Ac<|Fa G (fun Dq=>?_) (fun Dq=>?_)
 · exact AF 1 G<|BA<|Bq () G G (by rw[W2 AJv]) G Aa
 ·
  have AN:x.length=y.length:=AJv;refine AZ<|Am<|AF 1 G<|B5<|Ji (σ:=Nat) [(0,_),(1,_)] _ (fun i C=>(5,.int .i64 (i:Int))::C) (fun i=>i<=x.length/\(∀j,j<i->x.getD j default=y.getD j default)) (fun i=>x.length-i) 0 (Bs G) (Ad 0 G (Ad 1 G Aa)) ⟨ABg _,fun j Ay=>absurd Ay (AB2 j)⟩ (Bs G) ?_;rintro i ⟨Ag,C0⟩;refine Am<|Ae<|U 2 G<|C2 0 G G AJB G fun TC=>U 1 G<|Ac<|B9 G (fun Fm=>?_) (fun Fm=>?_)
  ·
   refine AZ<|Am<|B5<|Am<|Gx mixed AJw<|U 2 G<|Fo 0 G G G I6 G fun KC=>Gi 0 G G (At G) G fun Qt Vr=>U 2 G<|Fo 3 G G G I6 G fun Pe=>Gi 0 G G (At G) G fun MJ PW=>Qo zj ((x.getD i default)) ((y.getD i default)) G G G<|Gj<|A5<|Fa G (fun Gr=>?_) (fun Gr=>?_)
   · exact AF 1 G<|rt<|C9<|Cd<|Cd<|C9<|Cd<|Bq () G G (by rw[W1 i (by simpa using Gr)]) G Aa
   ·
    refine EG<|CU<|A5<|rg<|An G G<|C5 G G BV G<|U 1 G<|nl ?_;exact Dy (i+1) ⟨AJv,(Ki C0 (by simpa using Gr))⟩ AJv (Bs G) G (BE [4,5] G)
  · exact ex<|Ck<|Ck<|D7<|A5<|AF 1 G<|rt<|Bq () G G (by rw[W0 AN (fun j Ay=>C0 j AJv)]) G Aa
end Go.Apw
