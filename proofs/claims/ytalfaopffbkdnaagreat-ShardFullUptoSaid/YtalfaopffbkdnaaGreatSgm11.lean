/- Part 11 of shardFull_holds. -/
import Derived.Test.YtalfaopffbkdnaaGreatSgm10

set_option maxRecDepth 20000
set_option maxHeartbeats 1000000
open Go.A_ Go.Apw
namespace Go.Proofs.YtalfaopffbkdnaaGreat.XM
section
variable(By bv Bk:Value) (p:Nat) (J:List UInt8) (s:Bb) (b T:Nat) (cells:List Value) (q:List Value×Bb) (offs:List Nat) (o:Nat)
theorem NO(AH:q.2.pos<=J.length)(Cu:gQ q.1 offs)(Ao:offs.Nodup):Aw AG 223 [By,Bk] [AO b T q.1,CG p bv q.2] [⟨By,(⟨⟨p⟩⟩:Cq Gb)⟩,⟨bv,J⟩,⟨Bk,NW b offs⟩] (fun(_:Unit) _=>True) (fun _ _=>[AO b T (CO J offs q).1,CG p bv (CO J offs q).2]) (fun _ _=>[]):=
 qs By bv Bk p J q.2 b T q.1 offs AH Cu Ao
theorem cK(AH:q.2.pos<=J.length)(Cu:gR q.1 offs)(Ao:offs.Nodup):Aw AG 225 [By,Bk] [AO b T q.1,CG p bv q.2] [⟨By,(⟨⟨p⟩⟩:Cq Gb)⟩,⟨bv,J⟩,⟨Bk,NW b offs⟩] (fun(_:Unit) _=>True) (fun _ _=>[AO b T (Ea J offs q).1,CG p bv (Ea J offs q).2]) (fun _ _=>[]):=
 Akd By bv Bk p J q.2 b T q.1 offs AH Cu Ao
theorem zp(AH:q.2.pos<=J.length)(Cu:q.1[o]? =some (.int .i64 0)):Aw AG 288 [By,.pointer (some ⟨b,o,none⟩)] [AO b T q.1,CG p bv q.2] [⟨By,(⟨⟨p⟩⟩:Cq Gb)⟩,⟨bv,J⟩] (fun(_:Unit) _=>True) (fun _ _=>[AO b T (CO J [o] q).1,CG p bv (CO J [o] q).2]) (fun _ _=>[]):=
 zo By bv p J q.2 b T q.1 o AH Cu
theorem o0(AH:q.2.pos<=J.length)(Cu:q.1[o]? =some (.bool false)):Aw AG 224 [By,.pointer (some ⟨b,o,none⟩)] [AO b T q.1,CG p bv q.2] [⟨By,(⟨⟨p⟩⟩:Cq Gb)⟩,⟨bv,J⟩] (fun(_:Unit) _=>True) (fun _ _=>[AO b T (E9 J o q).1,CG p bv (E9 J o q).2]) (fun _ _=>[]):=
 zR By bv p J q.2 b T q.1 o AH Cu
theorem xP(u:Value)(AH:q.2.pos<=J.length)(Cu:q.1[o]? =some u):Aw AG 237 [By,.pointer (some ⟨b,o,none⟩)] [AO b T q.1,CG p bv q.2] [⟨By,(⟨⟨p⟩⟩:Cq Gb)⟩,⟨bv,J⟩,⟨u,([]:List UInt8)⟩] (fun(_:Value) _=>True) (fun y _=>[AO b T (C7 o y (Gm J 65535) q).1,CG p bv (C7 o y (Gm J 65535) q).2]) (fun y _=>[⟨y,(Gm J 65535 q.2).1⟩]):=
 nM By bv p J q.2 b T q.1 o u AH Cu
theorem Afy(AH:s.pos<=J.length)(bl:cells[o]? =some (.int .i64 0))(Tw:cells[o+1]? =some (.string ByteArray.empty))(PE:cells[o+2]? =some (.string ByteArray.empty))(WH:cells[o+3]? =some (.int .i64 0))(bm:cells[o+4]? =some (.int .i64 0))(bn:cells[o+5]? =some (.int .i64 0)):Aw AG 289 [By,.pointer (some ⟨b,o,none⟩)] [AO b T cells,CG p bv s] [⟨By,(⟨⟨p⟩⟩:Cq Gb)⟩,⟨bv,J⟩] (fun(_:Unit) _=>True) (fun _ _=>[AO b T (Hy J o (cells,s)).1,CG p bv (Hy J o (cells,s)).2]) (fun _ _=>[]):=by
 exact Aw.proof Tryz.func289 G 31 G G fun X w=>Ae<|U 4 G<|BH (xs:=[.tmp 7]) (us:=[.pointer (some ⟨b,o,none⟩)]) (E:=171) (bytes:=8) (n:=1) G (by exact HB) G G G G G G fun K0=>Q5 (NW b [o]) ([o].map fun o=>[.pointer (some ⟨b,o,none⟩)]) G (fun S w h=>Y5 S w _) (Nat.le_of_ble_eq_true G)<|Hs 2 (NO By bv _ p J b T (cells,s) [o] AH (by intro x Ab;simp only[List.mem_cons,List.not_mem_nil,or_false]at Ab;rcases Ab with rfl<;>first|assumption|(repeat first|rw[WJ (by simp only[List.mem_cons,List.not_mem_nil,or_false];omega)]|rw[Xi (by simp only[List.mem_cons,List.not_mem_nil,or_false];omega)]);assumption) (by simp)) (Ar G) G G (BE [1,2,0] G) G fun _ _ _=>Ac<|Am<|MM b [(o+1),(o+2)] [2,3,0] (fun u=>cK By bv u p J b T (CO J [o] (cells,s)) [(o+1),(o+2)] (Hw AH) (by intro x Ab;simp only[List.mem_cons,List.not_mem_nil,or_false]at Ab;rcases Ab with rfl|rfl<;>first|assumption|(repeat first|rw[WJ (by simp only[List.mem_cons,List.not_mem_nil,or_false];omega)]|rw[Xi (by simp only[List.mem_cons,List.not_mem_nil,or_false];omega)]);assumption) (by simp)) (Ar G) QO G G (by kernel_rfl) (fun _=>G)<|A5<|MM b [(o+3),(o+4),(o+5)] [2,3,0] (fun u=>NO By bv u p J b T (Ea J [(o+1),(o+2)] (CO J [o] (cells,s))) [(o+3),(o+4),(o+5)] (MP (Hw AH)) (by intro x Ab;simp only[List.mem_cons,List.not_mem_nil,or_false]at Ab;rcases Ab with rfl|rfl|rfl<;>first|assumption|(repeat first|rw[WJ (by simp only[List.mem_cons,List.not_mem_nil,or_false];omega)]|rw[Xi (by simp only[List.mem_cons,List.not_mem_nil,or_false];omega)]);assumption) (by simp)) (Ar G) HB G G (by kernel_rfl) (fun _=>G)<|Dz () G trivial G Aa
theorem Ahy(AH:s.pos<=J.length)(bl:cells[o]? =some (.int .i64 0))(Tw:cells[o+1]? =some (.int .i64 0))(PE:cells[o+2]? =some (.int .i64 0))(WH:cells[o+3]? =some (.string ByteArray.empty))(bm:cells[o+4]? =some (.string ByteArray.empty))(bn:cells[o+5]? =some (.int .i64 0))(qg:cells[o+6]? =some (.int .i64 0)):Aw AG 236 [By,.pointer (some ⟨b,o,none⟩)] [AO b T cells,CG p bv s] [⟨By,(⟨⟨p⟩⟩:Cq Gb)⟩,⟨bv,J⟩] (fun(_:Unit) _=>True) (fun _ _=>[AO b T (Ga J o (cells,s)).1,CG p bv (Ga J o (cells,s)).2]) (fun _ _=>[]):=by
 exact Aw.proof Tryz.func236 G 34 G G fun X w=>Am<|MM b [o,(o+1),(o+2)] [1,2,0] (fun u=>NO By bv u p J b T (cells,s) [o,(o+1),(o+2)] AH (by intro x Ab;simp only[List.mem_cons,List.not_mem_nil,or_false]at Ab;rcases Ab with rfl|rfl|rfl<;>first|assumption|(repeat first|rw[WJ (by simp only[List.mem_cons,List.not_mem_nil,or_false];omega)]|rw[Xi (by simp only[List.mem_cons,List.not_mem_nil,or_false];omega)]);assumption) (by simp)) (Ar G) HB G G (by kernel_rfl) (fun _=>G)<|A5<|Am<|MM b [(o+3),(o+4)] [1,2,0] (fun u=>cK By bv u p J b T (CO J [o,(o+1),(o+2)] (cells,s)) [(o+3),(o+4)] (Hw AH) (by intro x Ab;simp only[List.mem_cons,List.not_mem_nil,or_false]at Ab;rcases Ab with rfl|rfl<;>first|assumption|(repeat first|rw[WJ (by simp only[List.mem_cons,List.not_mem_nil,or_false];omega)]|rw[Xi (by simp only[List.mem_cons,List.not_mem_nil,or_false];omega)]);assumption) (by simp)) (Ar G) QO G G (by kernel_rfl) (fun _=>G)<|A5<|MM b [(o+5),(o+6)] [1,2,0] (fun u=>NO By bv u p J b T (Ea J [(o+3),(o+4)] (CO J [o,(o+1),(o+2)] (cells,s))) [(o+5),(o+6)] (MP (Hw AH)) (by intro x Ab;simp only[List.mem_cons,List.not_mem_nil,or_false]at Ab;rcases Ab with rfl|rfl<;>first|assumption|(repeat first|rw[WJ (by simp only[List.mem_cons,List.not_mem_nil,or_false];omega)]|rw[Xi (by simp only[List.mem_cons,List.not_mem_nil,or_false];omega)]);assumption) (by simp)) (Ar G) HB G G (by kernel_rfl) (fun _=>G)<|Dz () G trivial G Aa
theorem Afz(AH:q.2.pos<=J.length)(bl:q.1[o]? =some (.int .i64 0))(Tw:q.1[o+1]? =some (.string ByteArray.empty))(PE:q.1[o+2]? =some (.string ByteArray.empty))(WH:q.1[o+3]? =some (.int .i64 0))(bm:q.1[o+4]? =some (.int .i64 0))(bn:q.1[o+5]? =some (.int .i64 0)):Aw AG 289 [By,.pointer (some ⟨b,o,none⟩)] [AO b T q.1,CG p bv q.2] [⟨By,(⟨⟨p⟩⟩:Cq Gb)⟩,⟨bv,J⟩] (fun(_:Unit) _=>True) (fun _ _=>[AO b T (Hy J o q).1,CG p bv (Hy J o q).2]) (fun _ _=>[]):=
 Afy By bv p J q.2 b T q.1 o AH bl Tw PE WH bm bn
theorem sk(AH:q.2.pos<=J.length)(bl:q.1[o]? =some (.int .i64 0))(Tw:q.1[o+1]? =some (.int .i64 0))(PE:q.1[o+2]? =some (.int .i64 0))(WH:q.1[o+3]? =some (.string ByteArray.empty))(bm:q.1[o+4]? =some (.string ByteArray.empty))(bn:q.1[o+5]? =some (.int .i64 0))(qg:q.1[o+6]? =some (.int .i64 0)):Aw AG 236 [By,.pointer (some ⟨b,o,none⟩)] [AO b T q.1,CG p bv q.2] [⟨By,(⟨⟨p⟩⟩:Cq Gb)⟩,⟨bv,J⟩] (fun(_:Unit) _=>True) (fun _ _=>[AO b T (Ga J o q).1,CG p bv (Ga J o q).2]) (fun _ _=>[]):=
 Ahy By bv p J q.2 b T q.1 o AH bl Tw PE WH bm bn qg
theorem Ab4(AH:s.pos<=J.length):Aw AG 287 [By,.pointer (some ⟨b,0,none⟩)] [AO b 83 vx,CG p bv s] [⟨By,(⟨⟨p⟩⟩:Cq Gb)⟩,⟨bv,J⟩] (fun(_:Unit) _=>True) (fun _ _=>[AO b 83 (JH (Iu J s).1),CG p bv (Iu J s).2]) (fun _ _=>[]):=by
 exact Aw.proof Tryz.func287 G 19 G G fun X w=>MM b [0,1,2,3] [1,2,0] (fun u=>NO By bv u p J b 83 (vx,s) [0,1,2,3] AH (SL G) (by decide)) (Ar G) HB G G (by kernel_rfl) (fun _=>G)<|Dz () G trivial (by simp only[z9,List.cons_append,List.nil_append]<;>rfl) Aa
theorem y0(AH:s.pos<=J.length):Aw AG 235 [By,.pointer (some ⟨b,0,none⟩)] [AO b 125 vy,CG p bv s] [⟨By,(⟨⟨p⟩⟩:Cq Gb)⟩,⟨bv,J⟩] (fun(_:Unit) _=>True) (fun _ _=>[AO b 125 (QT (HF J s).1),CG p bv (HF J s).2]) (fun _ _=>[]):=by
 exact Aw.proof Tryz.func235 G 13 G G fun X w=>MM b [0,1] [1,2,0] (fun u=>NO By bv u p J b 125 (vy,s) [0,1] AH (SL G) (by decide)) (Ar G) HB G G (by kernel_rfl) (fun _=>G)<|Dz () G trivial (by simp only[z7,List.cons_append,List.nil_append]<;>rfl) Aa
theorem yv(AH:s.pos<=J.length):Aw AG 233 [By,.pointer (some ⟨b,0,none⟩)] [AO b 52 XH,CG p bv s] [⟨By,(⟨⟨p⟩⟩:Cq Gb)⟩,⟨bv,J⟩] (fun(_:Unit) _=>True) (fun _ _=>[AO b 52 (H8 (Hk J s).1),CG p bv (Hk J s).2]) (fun _ _=>[]):=by
 exact Aw.proof Tryz.func233 G 37 G G fun X w=>Am<|MM b [0,1] [1,2,0] (fun u=>NO By bv u p J b 52 (XH,s) [0,1] AH (SL G) (by decide)) (Ar G) HB G G (by kernel_rfl) (fun _=>G)<|A5<|Am<|MM b [2,3] [1,2,0] (fun u=>cK By bv u p J b 52 (CO J [0,1] (XH,s)) [2,3] (Hw AH) (vr G) (by decide)) (Ar G) QO G G (by kernel_rfl) (fun _=>G)<|A5<|MM b [4,5,6,7] [1,2,0] (fun u=>NO By bv u p J b 52 (Ea J [2,3] (CO J [0,1] (XH,s))) [4,5,6,7] (MP (Hw AH)) (SL G) (by decide)) (Ar G) HB G G (by kernel_rfl) (fun _=>G)<|Dz () G trivial (by simp only[z5,List.cons_append,List.nil_append]<;>rfl) Aa
theorem Aeb(AH:s.pos<=J.length):Aw AG 229 [By,.pointer (some ⟨b,0,none⟩)] [AO b 54 dh,CG p bv s] [⟨By,(⟨⟨p⟩⟩:Cq Gb)⟩,⟨bv,J⟩] (fun(_:Unit) _=>True) (fun _ _=>[AO b 54 (H9 (GG J s).1),CG p bv (GG J s).2]) (fun _ _=>[]):=by
 exact Aw.proof Tryz.func229 G 39 G G fun X w=>Am<|MM b [0,1] [1,2,0] (fun u=>NO By bv u p J b 54 (dh,s) [0,1] AH (SL G) (by decide)) (Ar G) HB G G (by kernel_rfl) (fun _=>G)<|A5<|Ae<|U 4 G<|Hs 2 (o0 By bv p J b 54 (CO J [0,1] (dh,s)) 2 (Hw AH) G) (Ar G) G G (BE [0,1] G) G fun _ _ _=>Ac<|Ae<|U 5 G<|Hs 2 (zp By bv p J b 54 (E9 J 2 (CO J [0,1] (dh,s))) 3 (Pw (Hw AH)) G) (Ar G) G G (BE [0,1] G) G fun _ _ _=>Ac<|MM b [4,5,6] [1,2,0] (fun u=>NO By bv u p J b 54 (CO J [3] (E9 J 2 (CO J [0,1] (dh,s)))) [4,5,6] (Hb (Pw (Hw AH))) (SL G) (by decide)) (Ar G) HB G G (by kernel_rfl) (fun _=>G)<|Dz () G trivial (by simp only[Aab,List.cons_append,List.nil_append]<;>rfl) Aa
theorem Ak5(AH:s.pos<=J.length):Aw AG 231 [By,.pointer (some ⟨b,0,none⟩)] [AO b 50 gU,CG p bv s] [⟨By,(⟨⟨p⟩⟩:Cq Gb)⟩,⟨bv,J⟩] (fun(_:Unit) _=>True) (fun _ _=>[AO b 50 (Hh (GX J s).1),CG p bv (GX J s).2]) (fun _ _=>[]):=by
 exact Aw.proof Tryz.func231 G 27 G G fun X w=>Am<|MM b [0,1,2,3,4] [1,2,0] (fun u=>NO By bv u p J b 50 (gU,s) [0,1,2,3,4] AH (SL G) (by decide)) (Ar G) HB G G (by kernel_rfl) (fun _=>G)<|A5<|rg<|U 4 G<|Hs 2 (Afz By bv p J b 50 (CO J [0,1,2,3,4] (gU,s)) 5 (Hw AH) G G G G G G) (Ar G) G G (BE [0,1] G) G fun _ _ _=>nl<|Dz () G trivial (by simp only[Aaq,List.cons_append,List.nil_append]<;>rfl) Aa
end
section
attribute [local irreducible] UO UM Iu UL Wc L_ HF GG Hk GX F2 FC D6 Gm Kw DT
variable(By bv:Value) (p:Nat) (J:List UInt8) (B3:Bb) (b T:Nat) (q:List Value×Bb) (cells:List Value) (o:Nat)
theorem AdF(AH:B3.pos<=J.length)(Cu:cells[o]? =some AI):Aw AG 286 [By,.pointer (some ⟨b,o,none⟩),.func (.func 287) #[By] #[]] [AO b T cells,CG p bv B3] [⟨By,(⟨⟨p⟩⟩:Cq Gb)⟩,⟨bv,J⟩] (fun(_:Value) _=>True) (fun y _=>[AO b T (cells.set o y),CG p bv (CS J (Iu J) B3).2]) (fun y _=>[⟨y,(CS J (Iu J) B3).1⟩]):=by
 refine Aw.proof Tryz.func286 G 80 G G fun X w=>?_;obtain⟨GD,rfl⟩:∃GD:List Value,cells=GD.set o AI:=⟨cells,(TW Cu).symm⟩;have A7:o<GD.length:=by have:=Rj Cu;rwa [List.length_set]at this
 have aM:=W9 J B3;refine Am<|Ae<|An G G<|Ch 1 (Oz By bv p B3) (Ar G) G G (Ad 0 G Aa) G fun _ v11 Ct=>?_;have Ct:v11=.bool (Ml B3):=Ct;subst Ct;refine Ac<|BN G (fun Ct=>?_) (fun Ct=>?_)
 ·
  have BI:=(N2 B3).1 Ct;exact DJ (α:=BD)<|BA<|Ej AI G trivial (by simp only[Qw BI,List.set_set,List.cons_append,List.nil_append];rfl) (by rw[Qw BI];exact(Bg.cons 0 rfl Bg.nil))
 ·
  refine AZ<|Am<|Ae<|An G G<|Co 0 G G G<|CJ 0 Ku G G (BR G) G fun PS=>CQ 0 G G (A2 G) G fun N6=>M3 Tryz.underlying278 G G G<|Ac<|LW G<|AZ<|Ae<|An G G<|Co 1 G G G<|CJ 1 Ku G G (BR G) G fun T8=>CQ 0 G G (A2 G) G fun Vt=>Ch 1 (MW.X0 p bv J B3 1024 BV AH) (Ar G) G G (Ad 3 G Aa) G fun _ QB JS=>?_;have JS:QB=.int .i64 ((DT J 1024 B3).1:Int):=JS;subst JS;refine U 1 G<|Ac<|AF 1 G<|B5<|Lk BD 83<|Hx (σ:=Nat×Value×List BD×Bb) [(0,_),(1,_),(2,_),(7,_)] _ (fun i C=>(8,.int .i64 (i.1:Int))::C) (fun i=>[row 83 i.2.1 i.2.2.1,AO b T (GD.set o i.2.1),CG p bv i.2.2.2,CL X w]) (fun _ Dw=>Dw) (fun i=>i.1<=(DT J 1024 B3).1/\i.2.2.1.length=i.1/\i.2.2.2.pos<=J.length/\CS J (Iu J) B3=(i.2.2.1++(GI (Iu J) ((DT J 1024 B3).1-i.1) i.2.2.2).1,(GI (Iu J) ((DT J 1024 B3).1-i.1) i.2.2.2).2)) (fun i=>(DT J 1024 B3).1-i.1) (0,.slice none 0 0,[],(DT J 1024 B3).2) (Bs G) (Ad 2 G (Ad 3 G Aa)) ⟨Nat.zero_le _,G,W_ AH,G⟩ (Bs G) G (Ad 2 G (Ad 3 G Aa)) ?_;rintro⟨i,Fv,acc,s⟩ ⟨Ag,AN,hs,he⟩;simp only at Ag AN hs he;refine Am<|Ae<|U 4 G ?_;refine D4 63 4 [0,1,2,7,8] G G (fun Of QE=>by
   have b7:=of_decide_eq_true Of;refine U 1 G<|Bl G G G<|Ch 2 (Oz By bv p s) (Ar G) G G (Ad 0 G Aa) G fun _ RC Ju=>?_;have Ju:RC=.bool (Ml s):=Ju;subst Ju;exact U 2 G<|QE G Br) ?_
  refine Ac<|BN G (fun JT=>?_) (fun JT=>?_)
  ·
   have HK:=JT;simp at HK;obtain⟨Ey,Ez⟩:=HK;have BI:=(Xf s).1 Ez;have Qa:[(Iu J s).1].length=1:=rfl;refine AZ<|Am<|B5<|Ae<|CT Um G fun H7=>Ac<|Ae<|An G G<|D9 3 G<|D9 1 G<|VX 2 (Ab4 By bv p J s H7 hs) (Ar G) G G G G (BE [0,1] G) G fun _ _ _=>?_;refine Ac<|Vh (L:=[AO H7 83 (JH (Iu J s).1),CG p bv (Iu J s).2,row 83 Fv acc,AO b T (GD.set o Fv),CL X w]) [(4,.NQ 0)] [(3,⟨some (Fv),fun _=>[],false⟩),(5,⟨none,fun u=>[⟨u,[(Iu J s).1]⟩],false⟩),(6,⟨none,fun _=>[],true⟩),(8,⟨none,fun _=>[],true⟩)] [] [] [(6,fun L Gz=>NZ 2 (row 83 (Gz 6) (acc++[(Iu J s).1])) L),(8,fun L Gz=>NZ 1 (AO b T ((GD.set o Fv).set o (Gz 6))) L)] (fun _=>G) (fun _=>by kernel_rfl) ⟨fun V Az _=>GK (ME 3 G G (A2 G) (Zg A7) G<|GH G G G G),fun V Az _=>GK (Lw G S1 G G G G fun Z0=>KJ (α:=BD) (Iu J s).1 (fun S w h=>⟨(),G,by simp,z_ J s⟩)<|nl (Ig G G G trivial (Ad 0 G Aa) (Bg.tail Br))),fun V Az _=>GK (ap 2 0 G G G G S1 (by omega) (by omega) G fun Zr=>nl (Ig G G G trivial Aa (Bg.tail Br))),fun V Az _=>GK (IL 3 2 G G G G (A2 G) (by rw[List.length_set];exact A7)<|nl (YW G G Br)),trivial⟩ fun V _=>Vu [1,2] G<|?_;generalize V 6=v0;refine CU<|A5<|rg<|An G G<|C5 G G BV G<|U 1 G<|nl<|AQ<|Au 2 G<|Au 2 G ?_;exact Dy ((i+1,v0,acc++[(Iu J s).1],(Iu J s).2):Nat×Value×List BD×Bb) ⟨by omega,by simp[AN],ik hs,Y' (by omega) BI he⟩ (by show _-_<_-_;omega) (Bs G) (by simp only[List.set_set];rfl) (BE [0,1] G)
  ·
   have HK:=JT;simp at HK;have Fx:GI (Iu J) ((DT J 1024 B3).1-i) s=([],s):=by
    by_cases BI:s.fault=0
    ·
     by_cases C_:i<(DT J 1024 B3).1
     · exact absurd BI ((N2 s).1 (HK (by omega)))
     ·
      have e:(DT J 1024 B3).1-i=0:=(by omega);rw[e];rfl
    · exact Za BI _
   rw[Fx]at he;simp only[List.append_nil]at he;exact ex<|Ck<|Ck<|D7<|K5<|Dz Fv G trivial (by simp only[he,List.set_set,List.cons_append,List.nil_append]<;>rfl) (by simp only[he];exact(Bg.cons 0 rfl Bg.nil))
theorem AdG(AH:q.2.pos<=J.length)(Cu:q.1[o]? =some AI):Aw AG 286 [By,.pointer (some ⟨b,o,none⟩),.func (.func 287) #[By] #[]] [AO b T q.1,CG p bv q.2] [⟨By,(⟨⟨p⟩⟩:Cq Gb)⟩,⟨bv,J⟩] (fun(_:Value) _=>True) (fun y _=>[AO b T (C7 o y (CS J (Iu J)) q).1,CG p bv (C7 o y (CS J (Iu J)) q).2]) (fun y _=>[⟨y,(CS J (Iu J) q.2).1⟩]):=
 AdF By bv p J q.2 b T q.1 o AH Cu
theorem wN(s:Bb)(b:Nat)(AH:s.pos<=J.length):Aw AG 227 [By,.pointer (some ⟨b,0,none⟩)] [AO b 73 N9,CG p bv s] [⟨By,(⟨⟨p⟩⟩:Cq Gb)⟩,⟨bv,J⟩] (fun(_:Value) _=>True) (fun y _=>[AO b 73 (A3 (F2 J s).1 y),CG p bv (F2 J s).2]) (fun y _=>[⟨y,(F2 J s).1.A0⟩]):=by
 exact Aw.proof Tryz.func227 G 53 G G fun X w=>Ae<|U 4 G<|BH (xs:=[.tmp 7]) (us:=[.pointer (some ⟨b,0,none⟩)]) (E:=175) (bytes:=8) (n:=1) G (by exact QO) G G G G G G fun K0=>Q5 (NW b [0]) ([0].map fun o=>[.pointer (some ⟨b,o,none⟩)]) G (fun S w h=>Y5 S w _) (Nat.le_of_ble_eq_true G)<|Hs 2 (cK By bv _ p J b 73 (N9,s) [0] AH (by intro x Ab;simp only[List.mem_cons,List.not_mem_nil,or_false]at Ab;rcases Ab with rfl<;>rfl) (by decide)) (Ar G) G G (BE [1,2,0] G) G fun _ _ _=>Ac<|Am<|MM b [1,2,3,4] [2,3,0] (fun u=>NO By bv u p J b 73 (Ea J [0] (N9,s)) [1,2,3,4] (MP AH) (SL G) (by decide)) (Ar G) HB G G (by kernel_rfl) (fun _=>G)<|A5<|Ae<|U 5 G<|Ql (ys:=[.tmp 31]) (xs:=[]) G G G<|Hs 2 (AdG By bv p J b 73 (CO J [1,2,3,4] (Ea J [0] (N9,s))) 5 (Hw (MP AH)) G) (Ar G) G G (BE [1,2] G) G fun XC _ _=>Ac<|MM b [6,7,8,9] [3,4,0] (fun u=>NO By bv u p J b 73 (C7 5 XC (CS J (Iu J)) (CO J [1,2,3,4] (Ea J [0] (N9,s)))) [6,7,8,9] (Ik (Ij (fun _ hh=>ik hh) (Hw (MP AH)))) (SL G) (by decide)) (Ar G) HB G G (by kernel_rfl) (fun _=>G)<|Dz XC G trivial (by simp only[z1,List.cons_append,List.nil_append]<;>rfl) (by rw[<-z2 J s XC];exact(Bg.cons 0 rfl Bg.nil))
theorem Adw(AH:B3.pos<=J.length)(Cu:cells[o]? =some AI):Aw AG 226 [By,.pointer (some ⟨b,o,none⟩),.func (.func 227) #[By] #[]] [AO b T cells,CG p bv B3] [⟨By,(⟨⟨p⟩⟩:Cq Gb)⟩,⟨bv,J⟩] (fun(_:Value) _=>True) (fun y _=>[AO b T (cells.set o y),CG p bv (CS J (F2 J) B3).2]) (fun y _=>[⟨y,(CS J (F2 J) B3).1⟩]):=by
 refine Aw.proof Tryz.func226 G 80 G G fun X w=>?_;obtain⟨GD,rfl⟩:∃GD:List Value,cells=GD.set o AI:=⟨cells,(TW Cu).symm⟩;have A7:o<GD.length:=by have:=Rj Cu;rwa [List.length_set]at this
 have aM:=W9 J B3;refine Am<|Ae<|An G G<|Ch 1 (Oz By bv p B3) (Ar G) G G (Ad 0 G Aa) G fun _ v11 Ct=>?_;have Ct:v11=.bool (Ml B3):=Ct;subst Ct;refine Ac<|BN G (fun Ct=>?_) (fun Ct=>?_)
 ·
  have BI:=(N2 B3).1 Ct;exact DJ (α:=AD)<|BA<|Ej AI G trivial (by simp only[Qw BI,List.set_set,List.cons_append,List.nil_append];rfl) (by rw[Qw BI];exact(Bg.cons 0 rfl Bg.nil))
 ·
  refine AZ<|Am<|Ae<|An G G<|Co 0 G G G<|CJ 0 Ku G G (BR G) G fun PS=>CQ 0 G G (A2 G) G fun N6=>M3 Tryz.underlying278 G G G<|Ac<|LW G<|AZ<|Ae<|An G G<|Co 1 G G G<|CJ 1 Ku G G (BR G) G fun T8=>CQ 0 G G (A2 G) G fun Vt=>Ch 1 (MW.X0 p bv J B3 1024 BV AH) (Ar G) G G (Ad 3 G Aa) G fun _ QB JS=>?_;have JS:QB=.int .i64 ((DT J 1024 B3).1:Int):=JS;subst JS;refine U 1 G<|Ac<|AF 1 G<|B5<|Lk AD 73<|Hx (σ:=Nat×Value×List AD×Bb) [(0,_),(1,_),(2,_),(7,_)] _ (fun i C=>(8,.int .i64 (i.1:Int))::C) (fun i=>[row 73 i.2.1 i.2.2.1,AO b T (GD.set o i.2.1),CG p bv i.2.2.2,CL X w]) (fun _ Dw=>Dw) (fun i=>i.1<=(DT J 1024 B3).1/\i.2.2.1.length=i.1/\i.2.2.2.pos<=J.length/\CS J (F2 J) B3=(i.2.2.1++(GI (F2 J) ((DT J 1024 B3).1-i.1) i.2.2.2).1,(GI (F2 J) ((DT J 1024 B3).1-i.1) i.2.2.2).2)) (fun i=>(DT J 1024 B3).1-i.1) (0,.slice none 0 0,[],(DT J 1024 B3).2) (Bs G) (Ad 2 G (Ad 3 G Aa)) ⟨Nat.zero_le _,G,W_ AH,G⟩ (Bs G) G (Ad 2 G (Ad 3 G Aa)) ?_;rintro⟨i,Fv,acc,s⟩ ⟨Ag,AN,hs,he⟩;simp only at Ag AN hs he;refine Am<|Ae<|U 4 G ?_;refine D4 63 4 [0,1,2,7,8] G G (fun Of QE=>by
   have b7:=of_decide_eq_true Of;refine U 1 G<|Bl G G G<|Ch 2 (Oz By bv p s) (Ar G) G G (Ad 0 G Aa) G fun _ RC Ju=>?_;have Ju:RC=.bool (Ml s):=Ju;subst Ju;exact U 2 G<|QE G Br) ?_
  refine Ac<|BN G (fun JT=>?_) (fun JT=>?_)
  ·
   have HK:=JT;simp at HK;obtain⟨Ey,Ez⟩:=HK;have BI:=(Xf s).1 Ez;have Qa:[(F2 J s).1].length=1:=rfl;refine AZ<|Am<|B5<|Ae<|CT Hd G fun H7=>Ac<|Ae<|An G G<|D9 3 G<|D9 1 G<|VX 2 (wN By bv p J s H7 hs) (Ar G) G G G G (BE [0,1] G) G fun XD _ _=>?_;refine Ac<|Vh (L:=[AO H7 73 (A3 (F2 J s).1 XD),CG p bv (F2 J s).2,row 73 Fv acc,AO b T (GD.set o Fv),CL X w]) [(4,.NQ 0)] [(3,⟨some (Fv),fun _=>[],false⟩),(5,⟨none,fun u=>[⟨u,[(F2 J s).1]⟩],false⟩),(6,⟨none,fun _=>[],true⟩),(8,⟨none,fun _=>[],true⟩)] [] [] [(6,fun L Gz=>NZ 2 (row 73 (Gz 6) (acc++[(F2 J s).1])) L),(8,fun L Gz=>NZ 1 (AO b T ((GD.set o Fv).set o (Gz 6))) L)] (fun _=>G) (fun _=>by kernel_rfl) ?_ fun V _=>?_
   ·
    refine⟨fun V Az _=>GK (ME 3 G G (A2 G) (Zg A7) G<|GH G G G G),?_⟩;refine⟨fun V Az _=>GK ?_,?_⟩
    ·
     refine Lw G OI G G G G fun Z0=>?_;refine KJ (α:=AD) (F2 J s).1 (fun S w h=>⟨XD,G,fun t Av=>by
       simp only[List.mem_cons,List.not_mem_nil,or_false]at Av;subst Av;exact h _ (List.mem_of_getElem? (i:=0) G),o9 J s⟩) ?_
     exact nl (Ig G G G trivial (Ad 0 G Aa) (Bg.tail Br))
    exact⟨fun V Az _=>GK (ap 2 0 G G G G OI (by omega) (by omega) G fun Zr=>nl (Ig G G G trivial Aa (Bg.tail Br))),fun V Az _=>GK (IL 3 2 G G G G (A2 G) (by rw[List.length_set];exact A7)<|nl (YW G G Br)),trivial⟩
   ·
    refine Vu [1,2,3] G<|?_;generalize V 6=v0;refine CU<|A5<|rg<|An G G<|C5 G G BV G<|U 1 G<|nl<|AQ<|Au 2 G<|Au 2 G ?_;exact Dy ((i+1,v0,acc++[(F2 J s).1],(F2 J s).2):Nat×Value×List AD×Bb) ⟨by omega,by simp[AN],Td hs,Y' (by omega) BI he⟩ (by show _-_<_-_;omega) (Bs G) (by simp only[List.set_set];rfl) (BE [1,2] G)
  ·
   have HK:=JT;simp at HK;have Fx:GI (F2 J) ((DT J 1024 B3).1-i) s=([],s):=by
    by_cases BI:s.fault=0
    ·
     by_cases C_:i<(DT J 1024 B3).1
     · exact absurd BI ((N2 s).1 (HK (by omega)))
     ·
      have e:(DT J 1024 B3).1-i=0:=(by omega);rw[e];rfl
    · exact Za BI _
   rw[Fx]at he;simp only[List.append_nil]at he;exact ex<|Ck<|Ck<|D7<|K5<|Dz Fv G trivial (by simp only[he,List.set_set,List.cons_append,List.nil_append]<;>rfl) (by simp only[he];exact(Bg.cons 0 rfl Bg.nil))
theorem Adx(AH:q.2.pos<=J.length)(Cu:q.1[o]? =some AI):Aw AG 226 [By,.pointer (some ⟨b,o,none⟩),.func (.func 227) #[By] #[]] [AO b T q.1,CG p bv q.2] [⟨By,(⟨⟨p⟩⟩:Cq Gb)⟩,⟨bv,J⟩] (fun(_:Value) _=>True) (fun y _=>[AO b T (C7 o y (CS J (F2 J)) q).1,CG p bv (C7 o y (CS J (F2 J)) q).2]) (fun y _=>[⟨y,(CS J (F2 J) q.2).1⟩]):=
 Adw By bv p J q.2 b T q.1 o AH Cu
theorem AdJ(AH:B3.pos<=J.length)(Cu:cells[o]? =some AI):Aw AG 228 [By,.pointer (some ⟨b,o,none⟩),.func (.func 229) #[By] #[]] [AO b T cells,CG p bv B3] [⟨By,(⟨⟨p⟩⟩:Cq Gb)⟩,⟨bv,J⟩] (fun(_:Value) _=>True) (fun y _=>[AO b T (cells.set o y),CG p bv (CS J (GG J) B3).2]) (fun y _=>[⟨y,(CS J (GG J) B3).1⟩]):=by
 refine Aw.proof Tryz.func228 G 80 G G fun X w=>?_;obtain⟨GD,rfl⟩:∃GD:List Value,cells=GD.set o AI:=⟨cells,(TW Cu).symm⟩;have A7:o<GD.length:=by have:=Rj Cu;rwa [List.length_set]at this
 have aM:=W9 J B3;refine Am<|Ae<|An G G<|Ch 1 (Oz By bv p B3) (Ar G) G G (Ad 0 G Aa) G fun _ v11 Ct=>?_;have Ct:v11=.bool (Ml B3):=Ct;subst Ct;refine Ac<|BN G (fun Ct=>?_) (fun Ct=>?_)
 ·
  have BI:=(N2 B3).1 Ct;exact DJ (α:=BL)<|BA<|Ej AI G trivial (by simp only[Qw BI,List.set_set,List.cons_append,List.nil_append];rfl) (by rw[Qw BI];exact(Bg.cons 0 rfl Bg.nil))
 ·
  refine AZ<|Am<|Ae<|An G G<|Co 0 G G G<|CJ 0 Ku G G (BR G) G fun PS=>CQ 0 G G (A2 G) G fun N6=>M3 Tryz.underlying278 G G G<|Ac<|LW G<|AZ<|Ae<|An G G<|Co 1 G G G<|CJ 1 Ku G G (BR G) G fun T8=>CQ 0 G G (A2 G) G fun Vt=>Ch 1 (MW.X0 p bv J B3 1024 BV AH) (Ar G) G G (Ad 3 G Aa) G fun _ QB JS=>?_;have JS:QB=.int .i64 ((DT J 1024 B3).1:Int):=JS;subst JS;refine U 1 G<|Ac<|AF 1 G<|B5<|Lk BL 54<|Hx (σ:=Nat×Value×List BL×Bb) [(0,_),(1,_),(2,_),(7,_)] _ (fun i C=>(8,.int .i64 (i.1:Int))::C) (fun i=>[row 54 i.2.1 i.2.2.1,AO b T (GD.set o i.2.1),CG p bv i.2.2.2,CL X w]) (fun _ Dw=>Dw) (fun i=>i.1<=(DT J 1024 B3).1/\i.2.2.1.length=i.1/\i.2.2.2.pos<=J.length/\CS J (GG J) B3=(i.2.2.1++(GI (GG J) ((DT J 1024 B3).1-i.1) i.2.2.2).1,(GI (GG J) ((DT J 1024 B3).1-i.1) i.2.2.2).2)) (fun i=>(DT J 1024 B3).1-i.1) (0,.slice none 0 0,[],(DT J 1024 B3).2) (Bs G) (Ad 2 G (Ad 3 G Aa)) ⟨Nat.zero_le _,G,W_ AH,G⟩ (Bs G) G (Ad 2 G (Ad 3 G Aa)) ?_;rintro⟨i,Fv,acc,s⟩ ⟨Ag,AN,hs,he⟩;simp only at Ag AN hs he;refine Am<|Ae<|U 4 G ?_;refine D4 63 4 [0,1,2,7,8] G G (fun Of QE=>by
   have b7:=of_decide_eq_true Of;refine U 1 G<|Bl G G G<|Ch 2 (Oz By bv p s) (Ar G) G G (Ad 0 G Aa) G fun _ RC Ju=>?_;have Ju:RC=.bool (Ml s):=Ju;subst Ju;exact U 2 G<|QE G Br) ?_
  refine Ac<|BN G (fun JT=>?_) (fun JT=>?_)
  ·
   have HK:=JT;simp at HK;obtain⟨Ey,Ez⟩:=HK;have BI:=(Xf s).1 Ez;have Qa:[(GG J s).1].length=1:=rfl;refine AZ<|Am<|B5<|Ae<|CT SN G fun H7=>Ac<|Ae<|An G G<|D9 3 G<|D9 1 G<|VX 2 (Aeb By bv p J s H7 hs) (Ar G) G G G G (BE [0,1] G) G fun _ _ _=>?_;refine Ac<|Vh (L:=[AO H7 54 (H9 (GG J s).1),CG p bv (GG J s).2,row 54 Fv acc,AO b T (GD.set o Fv),CL X w]) [(4,.NQ 0)] [(3,⟨some (Fv),fun _=>[],false⟩),(5,⟨none,fun u=>[⟨u,[(GG J s).1]⟩],false⟩),(6,⟨none,fun _=>[],true⟩),(8,⟨none,fun _=>[],true⟩)] [] [] [(6,fun L Gz=>NZ 2 (row 54 (Gz 6) (acc++[(GG J s).1])) L),(8,fun L Gz=>NZ 1 (AO b T ((GD.set o Fv).set o (Gz 6))) L)] (fun _=>G) (fun _=>by kernel_rfl) ⟨fun V Az _=>GK (ME 3 G G (A2 G) (Zg A7) G<|GH G G G G),fun V Az _=>GK (Lw G QN G G G G fun Z0=>KJ (α:=BL) (GG J s).1 (fun S w h=>⟨(),G,by simp,o_ J s⟩)<|nl (Ig G G G trivial (Ad 0 G Aa) (Bg.tail Br))),fun V Az _=>GK (ap 2 0 G G G G QN (by omega) (by omega) G fun Zr=>nl (Ig G G G trivial Aa (Bg.tail Br))),fun V Az _=>GK (IL 3 2 G G G G (A2 G) (by rw[List.length_set];exact A7)<|nl (YW G G Br)),trivial⟩ fun V _=>Vu [1,2] G<|?_;generalize V 6=v0;refine CU<|A5<|rg<|An G G<|C5 G G BV G<|U 1 G<|nl<|AQ<|Au 2 G<|Au 2 G ?_;exact Dy ((i+1,v0,acc++[(GG J s).1],(GG J s).2):Nat×Value×List BL×Bb) ⟨by omega,by simp[AN],UN hs,Y' (by omega) BI he⟩ (by show _-_<_-_;omega) (Bs G) (by simp only[List.set_set];rfl) (BE [0,1] G)
  ·
   have HK:=JT;simp at HK;have Fx:GI (GG J) ((DT J 1024 B3).1-i) s=([],s):=by
    by_cases BI:s.fault=0
    ·
     by_cases C_:i<(DT J 1024 B3).1
     · exact absurd BI ((N2 s).1 (HK (by omega)))
     ·
      have e:(DT J 1024 B3).1-i=0:=(by omega);rw[e];rfl
    · exact Za BI _
   rw[Fx]at he;simp only[List.append_nil]at he;exact ex<|Ck<|Ck<|D7<|K5<|Dz Fv G trivial (by simp only[he,List.set_set,List.cons_append,List.nil_append]<;>rfl) (by simp only[he];exact(Bg.cons 0 rfl Bg.nil))
theorem AdK(AH:q.2.pos<=J.length)(Cu:q.1[o]? =some AI):Aw AG 228 [By,.pointer (some ⟨b,o,none⟩),.func (.func 229) #[By] #[]] [AO b T q.1,CG p bv q.2] [⟨By,(⟨⟨p⟩⟩:Cq Gb)⟩,⟨bv,J⟩] (fun(_:Value) _=>True) (fun y _=>[AO b T (C7 o y (CS J (GG J)) q).1,CG p bv (C7 o y (CS J (GG J)) q).2]) (fun y _=>[⟨y,(CS J (GG J) q.2).1⟩]):=
 AdJ By bv p J q.2 b T q.1 o AH Cu
theorem AdO(AH:B3.pos<=J.length)(Cu:cells[o]? =some AI):Aw AG 230 [By,.pointer (some ⟨b,o,none⟩),.func (.func 231) #[By] #[]] [AO b T cells,CG p bv B3] [⟨By,(⟨⟨p⟩⟩:Cq Gb)⟩,⟨bv,J⟩] (fun(_:Value) _=>True) (fun y _=>[AO b T (cells.set o y),CG p bv (CS J (GX J) B3).2]) (fun y _=>[⟨y,(CS J (GX J) B3).1⟩]):=by
 refine Aw.proof Tryz.func230 G 80 G G fun X w=>?_;obtain⟨GD,rfl⟩:∃GD:List Value,cells=GD.set o AI:=⟨cells,(TW Cu).symm⟩;have A7:o<GD.length:=by have:=Rj Cu;rwa [List.length_set]at this
 have aM:=W9 J B3;refine Am<|Ae<|An G G<|Ch 1 (Oz By bv p B3) (Ar G) G G (Ad 0 G Aa) G fun _ v11 Ct=>?_;have Ct:v11=.bool (Ml B3):=Ct;subst Ct;refine Ac<|BN G (fun Ct=>?_) (fun Ct=>?_)
 ·
  have BI:=(N2 B3).1 Ct;exact DJ (α:=BX)<|BA<|Ej AI G trivial (by simp only[Qw BI,List.set_set,List.cons_append,List.nil_append];rfl) (by rw[Qw BI];exact(Bg.cons 0 rfl Bg.nil))
 ·
  refine AZ<|Am<|Ae<|An G G<|Co 0 G G G<|CJ 0 Ku G G (BR G) G fun PS=>CQ 0 G G (A2 G) G fun N6=>M3 Tryz.underlying278 G G G<|Ac<|LW G<|AZ<|Ae<|An G G<|Co 1 G G G<|CJ 1 Ku G G (BR G) G fun T8=>CQ 0 G G (A2 G) G fun Vt=>Ch 1 (MW.X0 p bv J B3 1024 BV AH) (Ar G) G G (Ad 3 G Aa) G fun _ QB JS=>?_;have JS:QB=.int .i64 ((DT J 1024 B3).1:Int):=JS;subst JS;refine U 1 G<|Ac<|AF 1 G<|B5<|Lk BX 50<|Hx (σ:=Nat×Value×List BX×Bb) [(0,_),(1,_),(2,_),(7,_)] _ (fun i C=>(8,.int .i64 (i.1:Int))::C) (fun i=>[row 50 i.2.1 i.2.2.1,AO b T (GD.set o i.2.1),CG p bv i.2.2.2,CL X w]) (fun _ Dw=>Dw) (fun i=>i.1<=(DT J 1024 B3).1/\i.2.2.1.length=i.1/\i.2.2.2.pos<=J.length/\CS J (GX J) B3=(i.2.2.1++(GI (GX J) ((DT J 1024 B3).1-i.1) i.2.2.2).1,(GI (GX J) ((DT J 1024 B3).1-i.1) i.2.2.2).2)) (fun i=>(DT J 1024 B3).1-i.1) (0,.slice none 0 0,[],(DT J 1024 B3).2) (Bs G) (Ad 2 G (Ad 3 G Aa)) ⟨Nat.zero_le _,G,W_ AH,G⟩ (Bs G) G (Ad 2 G (Ad 3 G Aa)) ?_;rintro⟨i,Fv,acc,s⟩ ⟨Ag,AN,hs,he⟩;simp only at Ag AN hs he;refine Am<|Ae<|U 4 G ?_;refine D4 63 4 [0,1,2,7,8] G G (fun Of QE=>by
   have b7:=of_decide_eq_true Of;refine U 1 G<|Bl G G G<|Ch 2 (Oz By bv p s) (Ar G) G G (Ad 0 G Aa) G fun _ RC Ju=>?_;have Ju:RC=.bool (Ml s):=Ju;subst Ju;exact U 2 G<|QE G Br) ?_
  refine Ac<|BN G (fun JT=>?_) (fun JT=>?_)
  ·
   have HK:=JT;simp at HK;obtain⟨Ey,Ez⟩:=HK;have BI:=(Xf s).1 Ez;have Qa:[(GX J s).1].length=1:=rfl;refine AZ<|Am<|B5<|Ae<|CT SM G fun H7=>Ac<|Ae<|An G G<|D9 3 G<|D9 1 G<|VX 2 (Ak5 By bv p J s H7 hs) (Ar G) G G G G (BE [0,1] G) G fun _ _ _=>?_;refine Ac<|Vh (L:=[AO H7 50 (Hh (GX J s).1),CG p bv (GX J s).2,row 50 Fv acc,AO b T (GD.set o Fv),CL X w]) [(4,.NQ 0)] [(3,⟨some (Fv),fun _=>[],false⟩),(5,⟨none,fun u=>[⟨u,[(GX J s).1]⟩],false⟩),(6,⟨none,fun _=>[],true⟩),(8,⟨none,fun _=>[],true⟩)] [] [] [(6,fun L Gz=>NZ 2 (row 50 (Gz 6) (acc++[(GX J s).1])) L),(8,fun L Gz=>NZ 1 (AO b T ((GD.set o Fv).set o (Gz 6))) L)] (fun _=>G) (fun _=>by kernel_rfl) ⟨fun V Az _=>GK (ME 3 G G (A2 G) (Zg A7) G<|GH G G G G),fun V Az _=>GK (Lw G Mt G G G G fun Z0=>KJ (α:=BX) (GX J s).1 (fun S w h=>⟨(),G,by simp,Aar J s⟩)<|nl (Ig G G G trivial (Ad 0 G Aa) (Bg.tail Br))),fun V Az _=>GK (ap 2 0 G G G G Mt (by omega) (by omega) G fun Zr=>nl (Ig G G G trivial Aa (Bg.tail Br))),fun V Az _=>GK (IL 3 2 G G G G (A2 G) (by rw[List.length_set];exact A7)<|nl (YW G G Br)),trivial⟩ fun V _=>Vu [1,2] G<|?_;generalize V 6=v0;refine CU<|A5<|rg<|An G G<|C5 G G BV G<|U 1 G<|nl<|AQ<|Au 2 G<|Au 2 G ?_;exact Dy ((i+1,v0,acc++[(GX J s).1],(GX J s).2):Nat×Value×List BX×Bb) ⟨by omega,by simp[AN],Wd hs,Y' (by omega) BI he⟩ (by show _-_<_-_;omega) (Bs G) (by simp only[List.set_set];rfl) (BE [0,1] G)
  ·
   have HK:=JT;simp at HK;have Fx:GI (GX J) ((DT J 1024 B3).1-i) s=([],s):=by
    by_cases BI:s.fault=0
    ·
     by_cases C_:i<(DT J 1024 B3).1
     · exact absurd BI ((N2 s).1 (HK (by omega)))
     ·
      have e:(DT J 1024 B3).1-i=0:=(by omega);rw[e];rfl
    · exact Za BI _
   rw[Fx]at he;simp only[List.append_nil]at he;exact ex<|Ck<|Ck<|D7<|K5<|Dz Fv G trivial (by simp only[he,List.set_set,List.cons_append,List.nil_append]<;>rfl) (by simp only[he];exact(Bg.cons 0 rfl Bg.nil))
theorem AdP(AH:q.2.pos<=J.length)(Cu:q.1[o]? =some AI):Aw AG 230 [By,.pointer (some ⟨b,o,none⟩),.func (.func 231) #[By] #[]] [AO b T q.1,CG p bv q.2] [⟨By,(⟨⟨p⟩⟩:Cq Gb)⟩,⟨bv,J⟩] (fun(_:Value) _=>True) (fun y _=>[AO b T (C7 o y (CS J (GX J)) q).1,CG p bv (C7 o y (CS J (GX J)) q).2]) (fun y _=>[⟨y,(CS J (GX J) q.2).1⟩]):=
 AdO By bv p J q.2 b T q.1 o AH Cu
theorem Adz(AH:B3.pos<=J.length)(Cu:cells[o]? =some AI):Aw AG 232 [By,.pointer (some ⟨b,o,none⟩),.func (.func 233) #[By] #[]] [AO b T cells,CG p bv B3] [⟨By,(⟨⟨p⟩⟩:Cq Gb)⟩,⟨bv,J⟩] (fun(_:Value) _=>True) (fun y _=>[AO b T (cells.set o y),CG p bv (CS J (Hk J) B3).2]) (fun y _=>[⟨y,(CS J (Hk J) B3).1⟩]):=by
 refine Aw.proof Tryz.func232 G 80 G G fun X w=>?_;obtain⟨GD,rfl⟩:∃GD:List Value,cells=GD.set o AI:=⟨cells,(TW Cu).symm⟩;have A7:o<GD.length:=by have:=Rj Cu;rwa [List.length_set]at this
 have aM:=W9 J B3;refine Am<|Ae<|An G G<|Ch 1 (Oz By bv p B3) (Ar G) G G (Ad 0 G Aa) G fun _ v11 Ct=>?_;have Ct:v11=.bool (Ml B3):=Ct;subst Ct;refine Ac<|BN G (fun Ct=>?_) (fun Ct=>?_)
 ·
  have BI:=(N2 B3).1 Ct;exact DJ (α:=Bx)<|BA<|Ej AI G trivial (by simp only[Qw BI,List.set_set,List.cons_append,List.nil_append];rfl) (by rw[Qw BI];exact(Bg.cons 0 rfl Bg.nil))
 ·
  refine AZ<|Am<|Ae<|An G G<|Co 0 G G G<|CJ 0 Ku G G (BR G) G fun PS=>CQ 0 G G (A2 G) G fun N6=>M3 Tryz.underlying278 G G G<|Ac<|LW G<|AZ<|Ae<|An G G<|Co 1 G G G<|CJ 1 Ku G G (BR G) G fun T8=>CQ 0 G G (A2 G) G fun Vt=>Ch 1 (MW.X0 p bv J B3 1024 BV AH) (Ar G) G G (Ad 3 G Aa) G fun _ QB JS=>?_;have JS:QB=.int .i64 ((DT J 1024 B3).1:Int):=JS;subst JS;refine U 1 G<|Ac<|AF 1 G<|B5<|Lk Bx 52<|Hx (σ:=Nat×Value×List Bx×Bb) [(0,_),(1,_),(2,_),(7,_)] _ (fun i C=>(8,.int .i64 (i.1:Int))::C) (fun i=>[row 52 i.2.1 i.2.2.1,AO b T (GD.set o i.2.1),CG p bv i.2.2.2,CL X w]) (fun _ Dw=>Dw) (fun i=>i.1<=(DT J 1024 B3).1/\i.2.2.1.length=i.1/\i.2.2.2.pos<=J.length/\CS J (Hk J) B3=(i.2.2.1++(GI (Hk J) ((DT J 1024 B3).1-i.1) i.2.2.2).1,(GI (Hk J) ((DT J 1024 B3).1-i.1) i.2.2.2).2)) (fun i=>(DT J 1024 B3).1-i.1) (0,.slice none 0 0,[],(DT J 1024 B3).2) (Bs G) (Ad 2 G (Ad 3 G Aa)) ⟨Nat.zero_le _,G,W_ AH,G⟩ (Bs G) G (Ad 2 G (Ad 3 G Aa)) ?_;rintro⟨i,Fv,acc,s⟩ ⟨Ag,AN,hs,he⟩;simp only at Ag AN hs he;refine Am<|Ae<|U 4 G ?_;refine D4 63 4 [0,1,2,7,8] G G (fun Of QE=>by
   have b7:=of_decide_eq_true Of;refine U 1 G<|Bl G G G<|Ch 2 (Oz By bv p s) (Ar G) G G (Ad 0 G Aa) G fun _ RC Ju=>?_;have Ju:RC=.bool (Ml s):=Ju;subst Ju;exact U 2 G<|QE G Br) ?_
  refine Ac<|BN G (fun JT=>?_) (fun JT=>?_)
  ·
   have HK:=JT;simp at HK;obtain⟨Ey,Ez⟩:=HK;have BI:=(Xf s).1 Ez;have Qa:[(Hk J s).1].length=1:=rfl;refine AZ<|Am<|B5<|Ae<|CT SO G fun H7=>Ac<|Ae<|An G G<|D9 3 G<|D9 1 G<|VX 2 (yv By bv p J s H7 hs) (Ar G) G G G G (BE [0,1] G) G fun _ _ _=>?_;refine Ac<|Vh (L:=[AO H7 52 (H8 (Hk J s).1),CG p bv (Hk J s).2,row 52 Fv acc,AO b T (GD.set o Fv),CL X w]) [(4,.NQ 0)] [(3,⟨some (Fv),fun _=>[],false⟩),(5,⟨none,fun u=>[⟨u,[(Hk J s).1]⟩],false⟩),(6,⟨none,fun _=>[],true⟩),(8,⟨none,fun _=>[],true⟩)] [] [] [(6,fun L Gz=>NZ 2 (row 52 (Gz 6) (acc++[(Hk J s).1])) L),(8,fun L Gz=>NZ 1 (AO b T ((GD.set o Fv).set o (Gz 6))) L)] (fun _=>G) (fun _=>by kernel_rfl) ⟨fun V Az _=>GK (ME 3 G G (A2 G) (Zg A7) G<|GH G G G G),fun V Az _=>GK (Lw G QQ G G G G fun Z0=>KJ (α:=Bx) (Hk J s).1 (fun S w h=>⟨(),G,by simp,z6 J s⟩)<|nl (Ig G G G trivial (Ad 0 G Aa) (Bg.tail Br))),fun V Az _=>GK (ap 2 0 G G G G QQ (by omega) (by omega) G fun Zr=>nl (Ig G G G trivial Aa (Bg.tail Br))),fun V Az _=>GK (IL 3 2 G G G G (A2 G) (by rw[List.length_set];exact A7)<|nl (YW G G Br)),trivial⟩ fun V _=>Vu [1,2] G<|?_;generalize V 6=v0;refine CU<|A5<|rg<|An G G<|C5 G G BV G<|U 1 G<|nl<|AQ<|Au 2 G<|Au 2 G ?_;exact Dy ((i+1,v0,acc++[(Hk J s).1],(Hk J s).2):Nat×Value×List Bx×Bb) ⟨by omega,by simp[AN],Ye hs,Y' (by omega) BI he⟩ (by show _-_<_-_;omega) (Bs G) (by simp only[List.set_set];rfl) (BE [0,1] G)
  ·
   have HK:=JT;simp at HK;have Fx:GI (Hk J) ((DT J 1024 B3).1-i) s=([],s):=by
    by_cases BI:s.fault=0
    ·
     by_cases C_:i<(DT J 1024 B3).1
     · exact absurd BI ((N2 s).1 (HK (by omega)))
     ·
      have e:(DT J 1024 B3).1-i=0:=(by omega);rw[e];rfl
    · exact Za BI _
   rw[Fx]at he;simp only[List.append_nil]at he;exact ex<|Ck<|Ck<|D7<|K5<|Dz Fv G trivial (by simp only[he,List.set_set,List.cons_append,List.nil_append]<;>rfl) (by simp only[he];exact(Bg.cons 0 rfl Bg.nil))
theorem AdA(AH:q.2.pos<=J.length)(Cu:q.1[o]? =some AI):Aw AG 232 [By,.pointer (some ⟨b,o,none⟩),.func (.func 233) #[By] #[]] [AO b T q.1,CG p bv q.2] [⟨By,(⟨⟨p⟩⟩:Cq Gb)⟩,⟨bv,J⟩] (fun(_:Value) _=>True) (fun y _=>[AO b T (C7 o y (CS J (Hk J)) q).1,CG p bv (C7 o y (CS J (Hk J)) q).2]) (fun y _=>[⟨y,(CS J (Hk J) q.2).1⟩]):=
 Adz By bv p J q.2 b T q.1 o AH Cu
theorem AdC(AH:B3.pos<=J.length)(Cu:cells[o]? =some AI):Aw AG 234 [By,.pointer (some ⟨b,o,none⟩),.func (.func 235) #[By] #[]] [AO b T cells,CG p bv B3] [⟨By,(⟨⟨p⟩⟩:Cq Gb)⟩,⟨bv,J⟩] (fun(_:Value) _=>True) (fun y _=>[AO b T (cells.set o y),CG p bv (CS J (HF J) B3).2]) (fun y _=>[⟨y,(CS J (HF J) B3).1⟩]):=by
 refine Aw.proof Tryz.func234 G 80 G G fun X w=>?_;obtain⟨GD,rfl⟩:∃GD:List Value,cells=GD.set o AI:=⟨cells,(TW Cu).symm⟩;have A7:o<GD.length:=by have:=Rj Cu;rwa [List.length_set]at this
 have aM:=W9 J B3;refine Am<|Ae<|An G G<|Ch 1 (Oz By bv p B3) (Ar G) G G (Ad 0 G Aa) G fun _ v11 Ct=>?_;have Ct:v11=.bool (Ml B3):=Ct;subst Ct;refine Ac<|BN G (fun Ct=>?_) (fun Ct=>?_)
 ·
  have BI:=(N2 B3).1 Ct;exact DJ (α:=Df)<|BA<|Ej AI G trivial (by simp only[Qw BI,List.set_set,List.cons_append,List.nil_append];rfl) (by rw[Qw BI];exact(Bg.cons 0 rfl Bg.nil))
 ·
  refine AZ<|Am<|Ae<|An G G<|Co 0 G G G<|CJ 0 Ku G G (BR G) G fun PS=>CQ 0 G G (A2 G) G fun N6=>M3 Tryz.underlying278 G G G<|Ac<|LW G<|AZ<|Ae<|An G G<|Co 1 G G G<|CJ 1 Ku G G (BR G) G fun T8=>CQ 0 G G (A2 G) G fun Vt=>Ch 1 (MW.X0 p bv J B3 1024 BV AH) (Ar G) G G (Ad 3 G Aa) G fun _ QB JS=>?_;have JS:QB=.int .i64 ((DT J 1024 B3).1:Int):=JS;subst JS;refine U 1 G<|Ac<|AF 1 G<|B5<|Lk Df 125<|Hx (σ:=Nat×Value×List Df×Bb) [(0,_),(1,_),(2,_),(7,_)] _ (fun i C=>(8,.int .i64 (i.1:Int))::C) (fun i=>[row 125 i.2.1 i.2.2.1,AO b T (GD.set o i.2.1),CG p bv i.2.2.2,CL X w]) (fun _ Dw=>Dw) (fun i=>i.1<=(DT J 1024 B3).1/\i.2.2.1.length=i.1/\i.2.2.2.pos<=J.length/\CS J (HF J) B3=(i.2.2.1++(GI (HF J) ((DT J 1024 B3).1-i.1) i.2.2.2).1,(GI (HF J) ((DT J 1024 B3).1-i.1) i.2.2.2).2)) (fun i=>(DT J 1024 B3).1-i.1) (0,.slice none 0 0,[],(DT J 1024 B3).2) (Bs G) (Ad 2 G (Ad 3 G Aa)) ⟨Nat.zero_le _,G,W_ AH,G⟩ (Bs G) G (Ad 2 G (Ad 3 G Aa)) ?_;rintro⟨i,Fv,acc,s⟩ ⟨Ag,AN,hs,he⟩;simp only at Ag AN hs he;refine Am<|Ae<|U 4 G ?_;refine D4 63 4 [0,1,2,7,8] G G (fun Of QE=>by
   have b7:=of_decide_eq_true Of;refine U 1 G<|Bl G G G<|Ch 2 (Oz By bv p s) (Ar G) G G (Ad 0 G Aa) G fun _ RC Ju=>?_;have Ju:RC=.bool (Ml s):=Ju;subst Ju;exact U 2 G<|QE G Br) ?_
  refine Ac<|BN G (fun JT=>?_) (fun JT=>?_)
  ·
   have HK:=JT;simp at HK;obtain⟨Ey,Ez⟩:=HK;have BI:=(Xf s).1 Ez;have Qa:[(HF J s).1].length=1:=rfl;refine AZ<|Am<|B5<|Ae<|CT de G fun H7=>Ac<|Ae<|An G G<|D9 3 G<|D9 1 G<|VX 2 (y0 By bv p J s H7 hs) (Ar G) G G G G (BE [0,1] G) G fun _ _ _=>?_;refine Ac<|Vh (L:=[AO H7 125 (QT (HF J s).1),CG p bv (HF J s).2,row 125 Fv acc,AO b T (GD.set o Fv),CL X w]) [(4,.NQ 0)] [(3,⟨some (Fv),fun _=>[],false⟩),(5,⟨none,fun u=>[⟨u,[(HF J s).1]⟩],false⟩),(6,⟨none,fun _=>[],true⟩),(8,⟨none,fun _=>[],true⟩)] [] [] [(6,fun L Gz=>NZ 2 (row 125 (Gz 6) (acc++[(HF J s).1])) L),(8,fun L Gz=>NZ 1 (AO b T ((GD.set o Fv).set o (Gz 6))) L)] (fun _=>G) (fun _=>by kernel_rfl) ⟨fun V Az _=>GK (ME 3 G G (A2 G) (Zg A7) G<|GH G G G G),fun V Az _=>GK (Lw G RM G G G G fun Z0=>KJ (α:=Df) (HF J s).1 (fun S w h=>⟨(),G,by simp,z8 J s⟩)<|nl (Ig G G G trivial (Ad 0 G Aa) (Bg.tail Br))),fun V Az _=>GK (ap 2 0 G G G G RM (by omega) (by omega) G fun Zr=>nl (Ig G G G trivial Aa (Bg.tail Br))),fun V Az _=>GK (IL 3 2 G G G G (A2 G) (by rw[List.length_set];exact A7)<|nl (YW G G Br)),trivial⟩ fun V _=>Vu [1,2] G<|?_;generalize V 6=v0;refine CU<|A5<|rg<|An G G<|C5 G G BV G<|U 1 G<|nl<|AQ<|Au 2 G<|Au 2 G ?_;exact Dy ((i+1,v0,acc++[(HF J s).1],(HF J s).2):Nat×Value×List Df×Bb) ⟨by omega,by simp[AN],aF hs,Y' (by omega) BI he⟩ (by show _-_<_-_;omega) (Bs G) (by simp only[List.set_set];rfl) (BE [0,1] G)
  ·
   have HK:=JT;simp at HK;have Fx:GI (HF J) ((DT J 1024 B3).1-i) s=([],s):=by
    by_cases BI:s.fault=0
    ·
     by_cases C_:i<(DT J 1024 B3).1
     · exact absurd BI ((N2 s).1 (HK (by omega)))
     ·
      have e:(DT J 1024 B3).1-i=0:=(by omega);rw[e];rfl
    · exact Za BI _
   rw[Fx]at he;simp only[List.append_nil]at he;exact ex<|Ck<|Ck<|D7<|K5<|Dz Fv G trivial (by simp only[he,List.set_set,List.cons_append,List.nil_append]<;>rfl) (by simp only[he];exact(Bg.cons 0 rfl Bg.nil))
theorem AdD(AH:q.2.pos<=J.length)(Cu:q.1[o]? =some AI):Aw AG 234 [By,.pointer (some ⟨b,o,none⟩),.func (.func 235) #[By] #[]] [AO b T q.1,CG p bv q.2] [⟨By,(⟨⟨p⟩⟩:Cq Gb)⟩,⟨bv,J⟩] (fun(_:Value) _=>True) (fun y _=>[AO b T (C7 o y (CS J (HF J)) q).1,CG p bv (C7 o y (CS J (HF J)) q).2]) (fun y _=>[⟨y,(CS J (HF J) q.2).1⟩]):=
 AdC By bv p J q.2 b T q.1 o AH Cu
end
section
theorem AjP(By bv:Value)(p:Nat)(J:List UInt8)(s:Bb)(b:Nat)(AH:s.pos<=J.length):Aw AG 144 [By,.pointer (some ⟨b,0,none⟩)] [AO b 31 IQ,CG p bv s] [⟨By,(⟨⟨p⟩⟩:Cq Gb)⟩,⟨bv,J⟩] (fun(_:Value×Value×Value×Value×Value×Value) _=>True) (fun y _=>[AO b 31 (BY (FC J s).1 y.1 y.2.1 y.2.2.1 y.2.2.2.1 y.2.2.2.2.1 y.2.2.2.2.2),CG p bv (FC J s).2]) (fun y _=>[⟨y.1,(FC J s).1.Aj⟩,⟨y.2.1,(FC J s).1.Bz⟩,⟨y.2.2.1,(FC J s).1.AA⟩,⟨y.2.2.2.1,(FC J s).1.Bj⟩,⟨y.2.2.2.2.1,(FC J s).1.CX⟩,⟨y.2.2.2.2.2,(FC J s).1.Cf⟩]):=by
 refine Aw.proof Tryz.func144 G 95 G G fun X w=>Am<|MM b [0,1] [1,2,0] (fun u=>NO By bv u p J b 31 (IQ,s) [0,1] AH (SL G) (by decide)) (Ar G) HB G G (by kernel_rfl) (fun _=>G)<|A5<|Ae<|U 4 G<|Hs 2 (o0 By bv p J b 31 (CO J [0,1] (IQ,s)) 2 (Hw AH) G) (Ar G) G G (BE [0,1] G) G fun _ _ _=>Ac<|Am<|MM b [3,4] [1,2,0] (fun u=>cK By bv u p J b 31 (E9 J 2 (CO J [0,1] (IQ,s))) [3,4] (Pw (Hw AH)) (vr G) (by decide)) (Ar G) QO G G (by kernel_rfl) (fun _=>G)<|A5<|Ae<|U 4 G<|BH (xs:=[.tmp 30]) (us:=[.pointer (some ⟨b,5,none⟩)]) (E:=171) (bytes:=8) (n:=1) G (by exact HB) G G G G G G fun xl=>Q5 (NW b [5]) ([5].map fun o=>[.pointer (some ⟨b,o,none⟩)]) G (fun S w h=>Y5 S w _) (Nat.le_of_ble_eq_true G)<|Hs 2 (NO By bv _ p J b 31 (Ea J [3,4] (E9 J 2 (CO J [0,1] (IQ,s)))) [5] (MP (Pw (Hw AH))) (by intro x Ab;simp only[List.mem_cons,List.not_mem_nil,or_false]at Ab;rcases Ab with rfl<;>rfl) (by decide)) (Ar G) G G (BE [1,2,0] G) G fun _ _ _=>Ac<|Ae<|U 5 G<|Ql (ys:=[.tmp 37]) (xs:=[]) G G G<|Hs 2 (Adx By bv p J b 31 (CO J [5] (Ea J [3,4] (E9 J 2 (CO J [0,1] (IQ,s))))) 6 (Hw (MP (Pw (Hw AH)))) G) (Ar G) G G (BE [1,2] G) G fun I' _ _=>Ac<|Ae<|U 5 G<|Ql (ys:=[.tmp 44]) (xs:=[]) G G G<|Hs 2 (AdK By bv p J b 31 (C7 6 I' (CS J (F2 J)) (CO J [5] (Ea J [3,4] (E9 J 2 (CO J [0,1] (IQ,s)))))) 7 (Ik (Ij (fun _ hh=>Td hh) (Hw (MP (Pw (Hw AH)))))) G) (Ar G) G G (BE [2,3] G) G fun Ja _ _=>Ac<|Ae<|U 5 G<|Ql (ys:=[.tmp 51]) (xs:=[]) G G G<|Hs 2 (AdP By bv p J b 31 (C7 7 Ja (CS J (GG J)) (C7 6 I' (CS J (F2 J)) (CO J [5] (Ea J [3,4] (E9 J 2 (CO J [0,1] (IQ,s))))))) 8 (Ik (Ij (fun _ hh=>UN hh) (Ik (Ij (fun _ hh=>Td hh) (Hw (MP (Pw (Hw AH)))))))) G) (Ar G) G G (BE [3,4] G) G fun Kf _ _=>Ac<|Ae<|U 5 G<|Ql (ys:=[.tmp 58]) (xs:=[]) G G G<|Hs 2 (AdA By bv p J b 31 (C7 8 Kf (CS J (GX J)) (C7 7 Ja (CS J (GG J)) (C7 6 I' (CS J (F2 J)) (CO J [5] (Ea J [3,4] (E9 J 2 (CO J [0,1] (IQ,s)))))))) 9 (Ik (Ij (fun _ hh=>Wd hh) (Ik (Ij (fun _ hh=>UN hh) (Ik (Ij (fun _ hh=>Td hh) (Hw (MP (Pw (Hw AH)))))))))) G) (Ar G) G G (BE [4,5] G) G fun HS _ _=>Ac<|Ae<|U 5 G<|Ql (ys:=[.tmp 65]) (xs:=[]) G G G<|Hs 2 (AdD By bv p J b 31 (C7 9 HS (CS J (Hk J)) (C7 8 Kf (CS J (GX J)) (C7 7 Ja (CS J (GG J)) (C7 6 I' (CS J (F2 J)) (CO J [5] (Ea J [3,4] (E9 J 2 (CO J [0,1] (IQ,s))))))))) 10 (Ik (Ij (fun _ hh=>Ye hh) (Ik (Ij (fun _ hh=>Wd hh) (Ik (Ij (fun _ hh=>UN hh) (Ik (Ij (fun _ hh=>Td hh) (Hw (MP (Pw (Hw AH)))))))))))) (by simp only[CO,Ea,E9,C7,List.set_cons_zero,List.set_cons_succ,List.getElem?_cons_succ,List.getElem?_cons_zero])) (Ar G) G G (BE [5,6] G) G fun KF _ _=>?_;refine Ac<|Ae<|U 4 G<|Hs 2 (sk By bv p J b 31 (C7 10 KF (CS J (HF J)) (C7 9 HS (CS J (Hk J)) (C7 8 Kf (CS J (GX J)) (C7 7 Ja (CS J (GG J)) (C7 6 I' (CS J (F2 J)) (CO J [5] (Ea J [3,4] (E9 J 2 (CO J [0,1] (IQ,s)))))))))) 11 (Ik (Ij (fun _ hh=>aF hh) (Ik (Ij (fun _ hh=>Ye hh) (Ik (Ij (fun _ hh=>Wd hh) (Ik (Ij (fun _ hh=>UN hh) (Ik (Ij (fun _ hh=>Td hh) (Hw (MP (Pw (Hw AH)))))))))))))) (by simp only[CO,Ea,E9,C7,List.set_cons_zero,List.set_cons_succ,List.getElem?_cons_succ,List.getElem?_cons_zero]) (by simp only[CO,Ea,E9,C7,List.set_cons_zero,List.set_cons_succ,Nat.reduceAdd,List.getElem?_cons_succ,List.getElem?_cons_zero]) (by simp only[CO,Ea,E9,C7,List.set_cons_zero,List.set_cons_succ,Nat.reduceAdd,List.getElem?_cons_succ,List.getElem?_cons_zero]) (by simp only[CO,Ea,E9,C7,List.set_cons_zero,List.set_cons_succ,Nat.reduceAdd,List.getElem?_cons_succ,List.getElem?_cons_zero]) (by simp only[CO,Ea,E9,C7,List.set_cons_zero,List.set_cons_succ,Nat.reduceAdd,List.getElem?_cons_succ,List.getElem?_cons_zero]) (by simp only[CO,Ea,E9,C7,List.set_cons_zero,List.set_cons_succ,Nat.reduceAdd,List.getElem?_cons_succ,List.getElem?_cons_zero]) (by simp only[CO,Ea,E9,C7,List.set_cons_zero,List.set_cons_succ,Nat.reduceAdd,List.getElem?_cons_succ,List.getElem?_cons_zero])) (Ar G) G G (BE [6,7] G) G fun _ _ _=>?_;refine Ac<|Ae<|U 4 G<|Hs 2 (sk By bv p J b 31 (Ga J 11 (C7 10 KF (CS J (HF J)) (C7 9 HS (CS J (Hk J)) (C7 8 Kf (CS J (GX J)) (C7 7 Ja (CS J (GG J)) (C7 6 I' (CS J (F2 J)) (CO J [5] (Ea J [3,4] (E9 J 2 (CO J [0,1] (IQ,s))))))))))) 18 (b_ (Ik (Ij (fun _ hh=>aF hh) (Ik (Ij (fun _ hh=>Ye hh) (Ik (Ij (fun _ hh=>Wd hh) (Ik (Ij (fun _ hh=>UN hh) (Ik (Ij (fun _ hh=>Td hh) (Hw (MP (Pw (Hw AH))))))))))))))) (by simp only[CO,Ea,E9,C7,Ga,List.set_cons_zero,List.set_cons_succ,Nat.reduceAdd,List.getElem?_cons_succ,List.getElem?_cons_zero]) (by simp only[CO,Ea,E9,C7,Ga,List.set_cons_zero,List.set_cons_succ,Nat.reduceAdd,List.getElem?_cons_succ,List.getElem?_cons_zero]) (by simp only[CO,Ea,E9,C7,Ga,List.set_cons_zero,List.set_cons_succ,Nat.reduceAdd,List.getElem?_cons_succ,List.getElem?_cons_zero]) (by simp only[CO,Ea,E9,C7,Ga,List.set_cons_zero,List.set_cons_succ,Nat.reduceAdd,List.getElem?_cons_succ,List.getElem?_cons_zero]) (by simp only[CO,Ea,E9,C7,Ga,List.set_cons_zero,List.set_cons_succ,Nat.reduceAdd,List.getElem?_cons_succ,List.getElem?_cons_zero]) (by simp only[CO,Ea,E9,C7,Ga,List.set_cons_zero,List.set_cons_succ,Nat.reduceAdd,List.getElem?_cons_succ,List.getElem?_cons_zero]) (by simp only[CO,Ea,E9,C7,Ga,List.set_cons_zero,List.set_cons_succ,Nat.reduceAdd,List.getElem?_cons_succ,List.getElem?_cons_zero])) (Ar G) G G (BE [6,7] G) G fun _ _ _=>?_;refine Ac<|Ae<|U 4 G<|oA (α:=UInt8)<|Hs 2 (xP By bv p J b 31 (Ga J 18 (Ga J 11 (C7 10 KF (CS J (HF J)) (C7 9 HS (CS J (Hk J)) (C7 8 Kf (CS J (GX J)) (C7 7 Ja (CS J (GG J)) (C7 6 I' (CS J (F2 J)) (CO J [5] (Ea J [3,4] (E9 J 2 (CO J [0,1] (IQ,s)))))))))))) 25 AI (b_ (b_ (Ik (Ij (fun _ hh=>aF hh) (Ik (Ij (fun _ hh=>Ye hh) (Ik (Ij (fun _ hh=>Wd hh) (Ik (Ij (fun _ hh=>UN hh) (Ik (Ij (fun _ hh=>Td hh) (Hw (MP (Pw (Hw AH)))))))))))))))) (by simp only[CO,Ea,E9,C7,Ga,List.set_cons_zero,List.set_cons_succ,Nat.reduceAdd,List.getElem?_cons_succ,List.getElem?_cons_zero])) (Ar G) G G (BE [7,8,0] G) G fun Ns _ _=>?_;exact Ac<|MM b [26,27,28] [9,10,0] (fun u=>NO By bv u p J b 31 (C7 25 Ns (Gm J 65535) (Ga J 18 (Ga J 11 (C7 10 KF (CS J (HF J)) (C7 9 HS (CS J (Hk J)) (C7 8 Kf (CS J (GX J)) (C7 7 Ja (CS J (GG J)) (C7 6 I' (CS J (F2 J)) (CO J [5] (Ea J [3,4] (E9 J 2 (CO J [0,1] (IQ,s))))))))))))) [26,27,28] (Ik (Vf (b_ (b_ (Ik (Ij (fun _ hh=>aF hh) (Ik (Ij (fun _ hh=>Ye hh) (Ik (Ij (fun _ hh=>Wd hh) (Ik (Ij (fun _ hh=>UN hh) (Ik (Ij (fun _ hh=>Td hh) (Hw (MP (Pw (Hw AH)))))))))))))))))) (by intro x Ab;simp only[List.mem_cons,List.not_mem_nil,or_false]at Ab;rcases Ab with rfl|rfl|rfl<;>simp only[CO,Ea,E9,C7,Ga,List.set_cons_zero,List.set_cons_succ,Nat.reduceAdd,List.getElem?_cons_succ,List.getElem?_cons_zero]) (by decide)) (Ar G) HB G G (by kernel_rfl) (fun _=>G)<|Dz ⟨I',Ja,Kf,HS,KF,Ns⟩ G trivial (by simp only[Aai,List.cons_append,List.nil_append]<;>rfl) (by rw[<-Aaj J s I' Ja Kf HS KF Ns,<-Aak J s I' Ja Kf HS KF Ns,<-Aal J s I' Ja Kf HS KF Ns,<-Aam J s I' Ja Kf HS KF Ns,<-Aan J s I' Ja Kf HS KF Ns,<-Aao J s I' Ja Kf HS KF Ns];exact(Bg.cons 6 rfl (Bg.cons 5 rfl (Bg.cons 4 rfl (Bg.cons 3 rfl (Bg.cons 2 rfl (Bg.cons 0 rfl Bg.nil)))))))
attribute [local irreducible] FC D6 Gm Kw DT Q0 NF Lm
theorem Aim(By bv:Value)(p:Nat)(J:List UInt8)(s:Bb)(b:Nat)(AH:s.pos<=J.length):Aw AG 143 [By,.pointer (some ⟨b,0,none⟩)] [AO b 31 IQ,CG p bv s] [⟨By,(⟨⟨p⟩⟩:Cq Gb)⟩,⟨bv,J⟩] (fun(_:Value×Value×Value×Value×Value×Value) _=>True) (fun y _=>[AO b 31 (BY (FC J s).1 y.1 y.2.1 y.2.2.1 y.2.2.2.1 y.2.2.2.2.1 y.2.2.2.2.2),CG p bv (FC J s).2]) (fun y _=>[⟨y.1,(FC J s).1.Aj⟩,⟨y.2.1,(FC J s).1.Bz⟩,⟨y.2.2.1,(FC J s).1.AA⟩,⟨y.2.2.2.1,(FC J s).1.Bj⟩,⟨y.2.2.2.2.1,(FC J s).1.CX⟩,⟨y.2.2.2.2.2,(FC J s).1.Cf⟩]):=by
 exact Aw.proof Tryz.func143 G 5 G G fun X w=>rg<|An G G<|Hs 2 (AjP By bv p J s b AH) (Ar G) G G (BE [0,1] G) G fun y _ _=>nl<|Dz y G trivial G (Ad 0 G (Ad 1 G (Ad 2 G (Ad 3 G (Ad 4 G (Ad 5 G Aa))))))
theorem Aio(Bk:Value)(J:List UInt8)(b:Nat):Aw AG 142 [Bk,.func (.func 143) #[] #[.pointer (some ⟨b,0,none⟩)]] [AO b 31 IQ] [⟨Bk,J⟩] (fun(_:Value×Value×Value×Value×Value×Value) v=>v=.int .i64 (NF J)) (fun y _=>[AO b 31 (BY (Lm J) y.1 y.2.1 y.2.2.1 y.2.2.2.1 y.2.2.2.2.1 y.2.2.2.2.2)]) (fun y _=>[⟨y.1,(Lm J).Aj⟩,⟨y.2.1,(Lm J).Bz⟩,⟨y.2.2.1,(Lm J).AA⟩,⟨y.2.2.2.1,(Lm J).Bj⟩,⟨y.2.2.2.2.1,(Lm J).CX⟩,⟨y.2.2.2.2.2,(Lm J).Cf⟩]):=by
 refine Aw.proof Tryz.func142 G 30 G G fun X w=>AF 1 G<|Am<|Ae<|An G G<|C2 0 G G Tryz.underlying29 G fun MD=>U 1 G<|Ac<|B9 G (fun D2=>?_) (fun D2=>?_)
 ·
  have AN:65536<J.length:=(by omega);rw[lY AN,zn AN];exact DJ (α:=AD)<|DJ (α:=BL)<|DJ (α:=BX)<|DJ (α:=Bx)<|DJ (α:=Df)<|DJ (α:=UInt8)<|AF 1 G<|BA<|Bq (AI,AI,AI,AI,AI,AI) G G G G (Ad 5 G (Ad 4 G (Ad 3 G (Ad 2 G (Ad 1 G (Ad 0 G Aa))))))
 ·
  have AN:¬65536<J.length:=(by omega);rw[gn AN,oM AN];refine AZ<|Ae<|An G G<|Dm (MW.Aes Bk J (by omega)) (Ar G) G (Ad 0 G Aa) G fun AlD v10 Dq=>?_;obtain⟨p,bv⟩:=AlD;have Dq:v10=.pointer (some ⟨p,0,none⟩):=Dq;subst Dq;refine Db (ps:=[(0,.tmp 10)]) (cs:=[.pointer (some ⟨p,0,none⟩),.slice none 0 0,.bool false,.int .i64 0]) (by rfl) (by kernel_rfl) G<|CV G G G fun ns=>U 1 G<|Ac<|Ae<|M4 (α:=Gb) ⟨p⟩ (fun S w h=>⟨(),G,by simp,trivial⟩)<|U 2 G<|D9 1 G<|VX 2 (Aim (.pointer (some ⟨ns,0,none⟩)) bv p J ⟨0,0⟩ b (Nat.zero_le _)) (Ar G) G G G G (BE [0,1] G) G fun y _ _=>Ac<|Am<|Ae<|An G G<|Co 6 G G G<|CJ 6 sn G G (BR G) G fun Zq=>CQ 0 G G (A2 G) G fun AkR=>U 1 G<|Ac<|Fa G (fun HQ=>?_) (fun HQ=>?_)
  · exact absurd G HQ --#done
  ·
   refine AZ<|Ae<|An G G<|Co 7 G G G<|CJ 7 Ku G G (BR G) G fun N4=>CQ 0 G G (A2 G) G fun Uc=>Ch 1 (MW.y3 p bv J (FC J ⟨0,0⟩).2) (Ar G) G G (Ad 9 G Aa) G fun _ MR G5=>?_;have G5:MR=.int .i64 (Q0 J (FC J ⟨0,0⟩).2):=G5;subst G5;exact U 1 G<|Ac<|rt<|Au 1 G<|AQ<|Bq y G G G G (Ad 2 G (Ad 3 G (Ad 4 G (Ad 5 G (Ad 6 G (Ad 7 G Aa))))))
end
section
attribute [local irreducible] FC D6 Gm Kw DT Q0 NF Lm
theorem Ain(Bk:Value)(J:List UInt8):Aw AG 71 [Bk] [] [⟨Bk,J⟩] (fun(y:Value×Value×Value×Value×Value×Value) r=>r=.tuple #[.agg (BY (Er J).1 y.1 y.2.1 y.2.2.1 y.2.2.2.1 y.2.2.2.2.1 y.2.2.2.2.2).toArray,.int .i64 (Er J).2]) (fun _ _=>[]) (fun y _=>[⟨y.1,(Er J).1.Aj⟩,⟨y.2.1,(Er J).1.Bz⟩,⟨y.2.2.1,(Er J).1.AA⟩,⟨y.2.2.2.1,(Er J).1.Bj⟩,⟨y.2.2.2.2.1,(Er J).1.CX⟩,⟨y.2.2.2.2.2,(Er J).1.Cf⟩]):=by
 refine Aw.proof Tryz.func71 G 14 G G fun X w=>Ae<|CT LQ G fun Dh=>U 1 G<|Ac<|Ae<|CT LQ G fun En=>Ac<|Am<|Ae<|An G G<|Nd (xs:=[.tmp 4]) G G<|Hs 1 (Aio Bk J En) (Ar G) G G (Ad 0 G Aa) G fun y T9 D2=>?_;have D2:T9=.int .i64 (NF J):=D2;subst D2;obtain⟨KX,J5,Kd,Ke,IN,Ls⟩:=y;refine U 1 G<|Ac<|AF 2 G<|Fa G (fun Dq=>?_) (fun Dq=>?_)
 ·
  rw[k8 Dq];exact DJ (α:=AD)<|DJ (α:=BL)<|DJ (α:=BX)<|DJ (α:=Bx)<|DJ (α:=Df)<|DJ (α:=UInt8)<|Ae<|Db (ps:=[]) (cs:=(BY Np AI AI AI AI AI AI)) (by rfl) (by kernel_rfl) G<|An G G<|BZ 1 (us:=(BY Np AI AI AI AI AI AI)) G G G (At G) G G<|U 1 G<|Ac<|BA<|D8 (AI,AI,AI,AI,AI,AI) [_,_] (Fp 1 G G G G (At G)) (by rfl) G (Ad 5 G (Ad 4 G (Ad 3 G (Ad 2 G (Ad 1 G (Ad 0 G Aa))))))
 ·
  rw[fN Dq];refine AZ<|Ae<|BJ 0 (BY ((Lm J)) KX J5 Kd Ke IN Ls) G G (At G) G G<|Cp 0 G fun bM=>?_;refine Cp 1 G fun WW=>?_;refine Cp 2 G fun bP=>?_;refine Cp 3 G fun bQ=>?_;refine Cp 4 G fun TH=>?_;refine Cp 5 G fun bS=>?_;exact BZ 1 (us:=(BY ((Lm J)) KX J5 Kd Ke IN Ls)) G G G (At G) (by simp only[List.all_cons,List.all_nil,Bool.and_true,bM,WW,bP,bQ,TH,bS];rfl) G<|U 1 G<|Ac<|rt<|D8 (KX,J5,Kd,Ke,IN,Ls) [_,_] (Fp 1 G G G G (At G)) (by rfl) G (Ad 0 G (Ad 1 G (Ad 2 G (Ad 3 G (Ad 4 G (Ad 5 G Aa))))))
end
end Go.Proofs.YtalfaopffbkdnaaGreat.XM
namespace Go.Proofs.YtalfaopffbkdnaaGreat.Ref
theorem QP:EH AG 29 5 1 1:=EH.mk Tryz.underlying29 (by kernel_rfl) (by decide)
theorem mixed:Tryz.prog.follows .mixedOrders=true:=by kernel_rfl
theorem TZ:H5 AG 29 5 1:=⟨Tryz.underlying29,by kernel_rfl⟩
theorem QN:EH AG 23 54 7 56:=EH.mk Tryz.underlying23 (by kernel_rfl) (by decide)
theorem HB:EH AG 259 171 1 8:=EH.mk Tryz.underlying259 (by kernel_rfl) (by decide)
theorem OI:EH AG 22 73 10 104:=EH.mk Tryz.underlying22 (by kernel_rfl) (by decide)
theorem Mt:EH AG 24 50 11 104:=EH.mk Tryz.underlying24 (by kernel_rfl) (by decide)
theorem QQ:EH AG 25 52 8 80:=EH.mk Tryz.underlying25 (by kernel_rfl) (by decide)
theorem RM:EH AG 26 125 2 16:=EH.mk Tryz.underlying26 (by kernel_rfl) (by decide)
theorem S1:EH AG 69 83 4 32:=EH.mk Tryz.underlying69 (by kernel_rfl) (by decide)
theorem lQ:H5 AG 259 171 1:=⟨Tryz.underlying259,by kernel_rfl⟩
theorem SM:E3 AG 50 [.int .i64 0,.int .i64 0,.int .i64 0,.int .i64 0,.int .i64 0,.int .i64 0,.string ByteArray.empty,.string ByteArray.empty,.int .i64 0,.int .i64 0,.int .i64 0]:=E3.mk (by kernel_rfl)
theorem SN:E3 AG 54 [.int .i64 0,.int .i64 0,.bool false,.int .i64 0,.int .i64 0,.int .i64 0,.int .i64 0]:=E3.mk (by kernel_rfl)
theorem SO:E3 AG 52 [.int .i64 0,.int .i64 0,.string ByteArray.empty,.string ByteArray.empty,.int .i64 0,.int .i64 0,.int .i64 0,.int .i64 0]:=E3.mk (by kernel_rfl)
theorem de:E3 AG 125 [.int .i64 0,.int .i64 0]:=E3.mk (by kernel_rfl)
theorem Um:E3 AG 83 [.int .i64 0,.int .i64 0,.int .i64 0,.int .i64 0]:=E3.mk (by kernel_rfl)
theorem df:E3 AG 3 [.int .i64 0]:=E3.mk (by kernel_rfl)
theorem dg:E3 AG 29 [.slice none 0 0]:=E3.mk (by kernel_rfl)
theorem LQ:E3 AG 31 [.int .i64 0,.int .i64 0,.bool false,.string ByteArray.empty,.string ByteArray.empty,.int .i64 0,.slice none 0 0,.slice none 0 0,.slice none 0 0,.slice none 0 0,.slice none 0 0,.int .i64 0,.int .i64 0,.int .i64 0,.string ByteArray.empty,.string ByteArray.empty,.int .i64 0,.int .i64 0,.int .i64 0,.int .i64 0,.int .i64 0,.string ByteArray.empty,.string ByteArray.empty,.int .i64 0,.int .i64 0,.slice none 0 0,.int .i64 0,.int .i64 0,.int .i64 0]:=E3.mk (by kernel_rfl)
theorem Hd:E3 AG 73 [.string ByteArray.empty,.int .i64 0,.int .i64 0,.int .i64 0,.int .i64 0,.slice none 0 0,.int .i64 0,.int .i64 0,.int .i64 0,.int .i64 0]:=E3.mk (by kernel_rfl)
end Go.Proofs.YtalfaopffbkdnaaGreat.Ref
namespace Go.Apw
@[reducible] def AuD(p:Nat)(bv:Value)(s:Bb):C4:=AO p 192 [bv,.int .i64 (s.pos:Int),.int .i64 (s.fault:Int)]
def Ay8(pos:Nat)(x:Nat×Nat×Nat):Value:=.tuple #[.int .u64 (x.1:Int),.int .i64 ((if x.2.2=0 then pos+x.2.1 else 0:Nat):Int),.int .i64 (x.2.2:Int)]
theorem Ay5{i v:Nat}{c:UInt8}{r:List UInt8}(h:(i=9/\1<c.toNat)\/(0<i/\c.toNat=0)):HH i v (c::r)=(0,0,21):=by
 simp only[HH];split
 · rfl
 ·
  split
  ·
   omega
  ·
   split
   · rfl
   ·
    omega
theorem Ay7{i v:Nat}{c:UInt8}{r:List UInt8}(h:¬((i=9/\1<c.toNat)\/(0<i/\c.toNat=0)))(h2:128<=c.toNat):HH i v (c::r)=HH (i+1) (v+c.toNat % 128*2^(7*i)) r:=by
 simp only[HH];rw[if_neg (by omega),if_pos h2]
theorem Ay6{i v:Nat}{c:UInt8}{r:List UInt8}(h:¬((i=9/\1<c.toNat)\/(0<i/\c.toNat=0)))(h2:¬128<=c.toNat):HH i v (c::r)=(v+c.toNat % 128*2^(7*i),i+1,0):=by
 simp only[HH];rw[if_neg (by omega),if_neg h2,if_neg (by omega)]
theorem Axb{i v:Nat}{c:UInt8}(Ag:i<=9)(BC:v<2^(7*i))(h:¬((i=9/\1<c.toNat)\/(0<i/\c.toNat=0))):v+c.toNat % 128*2^(7*i)<2^64:=by
 by_cases EO:i=9
 ·
  subst EO;have Af:c.toNat % 128<=1:=(by omega);have h2:c.toNat % 128*2^(7*9)<=1*2^(7*9):=Nat.mul_le_mul_right _ Af;simp only[Nat.reduceMul,Nat.reducePow]at BC h2 ⊢;omega
 ·
  have h:=gd (c:=c.toNat) BC;have:=AhB (i:=i+1) (by omega);omega
theorem AAe(c:UInt8):IntKind.u64.wrap ((c.toNat:Int).tmod 128)=((c.toNat % 128:Nat):Int):=by
 rw[show((128:Int))=((128:Nat):Int)from rfl,<-Int.ofNat_tmod,mB (by omega)]
theorem AAc{a b:Nat}(h:a+b<2^64):IntKind.u64.wrap ((a:Int)+(b:Int))=((a+b:Nat):Int):=by
 rw[<-Int.natCast_add,mB (by omega)]
theorem Axq(n:Nat)(h:n<2^64):IntKind.u64.wrap ((n:Int).tdiv 2)=((n / 2:Nat):Int):=by
 rw[show((2:Int))=((2:Nat):Int)from rfl,<-Int.ofNat_tdiv,mB (by omega)]
theorem AAd(n:Nat):(n:Int).tmod 2=((n % 2:Nat):Int):=by
 rw[show((2:Int))=((2:Nat):Int)from rfl,<-Int.ofNat_tmod]
theorem Au4{s:Bb}{n e:Nat}(BI:s.fault=0)(he:e≠0):s.step n e=⟨s.pos,e⟩:=by
 unfold Bb.step;rw[if_neg (by omega),if_pos he]
theorem Avs{s:Bb}{n e:Nat}(BI:s.fault=0)(he:e=0):s.step n e=⟨s.pos+n,0⟩:=by
 unfold Bb.step;rw[if_neg (by omega),if_neg (by omega),BI]
theorem Au0{α:Type}{s:Bb}{d x:α}{e:Nat}(he:e≠0):s.val d x e=d:=by
 unfold Bb.val;rw[if_pos he];split<;>rfl
theorem Avh{α:Type}{s:Bb}{d x:α}{e:Nat}(BI:s.fault=0)(he:e=0):s.val d x e=x:=by
 unfold Bb.val;rw[if_neg (by omega),if_neg (by omega)]
theorem AwB{J:List UInt8}{s:Bb}(h:s.fault≠0):rdNum J s=(0,s):=by
 simp only[rdNum,Lj,Bb.val,Bb.step,if_pos h]
theorem AwA{J:List UInt8}{s:Bb}(h:s.fault≠0):k5 J s=(0,s):=by
 simp only[k5,Lj,Bb.val,Bb.step,if_pos h]
end Go.Apw
namespace Go.Proofs.YtalfaopffbkdnaaGreat.Ref
theorem Avy(p:Nat)(bv:Value)(J:List UInt8)(s:Bb)(e:Nat)(BI:s.fault=0):Aw AG 270 [.pointer (some ⟨p,0,none⟩),.int .i64 (e:Int)] [AuD p bv s] [⟨bv,J⟩] (fun(_:Unit) _=>True) (fun _ _=>[AuD p bv ⟨s.pos,e⟩]) (fun _ _=>[]):=by
 refine Aw.proof Tryz.func270 G 13 G G fun X w=>I5 5 [0] G G<|B9 G (fun D2=>?_) (fun D2=>?_)
 · exact rg<|U 4 G<|Fi 0 G G G (A2 G) G (Da G)<|nl<|Dz () G trivial G Aa
 · exact absurd (show(s.fault:Int)=0 by rw[BI];rfl) D2 --#done
theorem Aw_(Bk:Value)(J:List UInt8)(hlen:J.length<=140737488355328):Aw AG 104 [Bk] [] [⟨Bk,J⟩] (fun(y:Nat×Value) v=>v=.pointer (some ⟨y.1,0,none⟩)) (fun y _=>[AuD y.1 y.2 ⟨0,0⟩]) (fun y _=>[⟨y.2,J⟩]):=by
 refine Aw.proof Tryz.func104 G 8 G G fun X w=>AF 1 G<|Ae<|NB QP G fun DQ=>Nm (α:=UInt8) [] [] G G (fun _ _ _=>trivial) G<|An G G<|ap 0 0 G G G G QP (by simpa using hlen) (by simpa using hlen) G fun Mp=>JO<|w9 0 G ?_;rintro⟨A,Dc,rfl⟩;exact Db (ps:=[(0,.tmp 5)]) (cs:=[.slice A ([]++J).length Dc,.int .i64 0,.int .i64 0]) (by rfl) (by kernel_rfl) G<|CV G G G fun Jo=>U 1 G<|Ac<|rt<|Bq (Jo,_) G G G G (Ad 0 G Aa)
theorem rL(p:Nat)(bv:Value)(J:List UInt8)(s:Bb)(AH:s.pos<=J.length):Aw AG 301 [.pointer (some ⟨p,0,none⟩)] [AuD p bv s] [⟨bv,J⟩] (fun(_:Unit) v=>v=Ay8 s.pos (HH 0 0 (J.drop s.pos))) (fun _ _=>[AuD p bv s]) (fun _ _=>[]):=by
 refine Aw.proof Tryz.func301 G 66 G G fun X w=>HP (q:=J.length<=9223372036854775807) (fun S w h=>L1 (h _ (List.mem_of_getElem? (i:=0) G))) fun hlen=>AF 3 G<|AF 1 G<|AF 1 G<|B5<|Ji (σ:=Nat×Nat) [(0,_)] _ (fun i C=>(5,.int .u64 (i.2:Int))::(6,.int .i64 (i.1:Int))::C) (fun i=>i.1<=9/\s.pos+i.1<=J.length/\i.2<2^(7*i.1)/\HH 0 0 (J.drop s.pos)=HH i.1 i.2 (J.drop (s.pos+i.1))) (fun i=>J.length-i.1) (0,0) ⟨G,trivial⟩ (Ad 0 G Aa) ⟨by decide,AH,by decide,G⟩ (Bs G) ?_;rintro⟨i,v⟩ ⟨Ag,hs,BC,he⟩;simp only at Ag hs BC he;refine Am<|B5<|Am<|Am<|Gx mixed (by kernel_rfl)<|AX 5 [0] G G<|C5 G G BV G<|U 3 G<|AX 1 [0] G G<|C2 0 G G Tryz.underlying29 G fun U_=>U 1 G<|Gj<|A5<|B9 G (fun E1=>?_) (fun E1=>?_)
 ·
  have AJ:J.drop (s.pos+i)=[]:=List.drop_eq_nil_of_le (by omega);rw[AJ]at he;have he:HH 0 0 (J.drop s.pos)=(0,0,20):=he;rw[he];exact AF 3 G<|BA<|C9<|Cd<|Cd<|C9<|IB () G G G G G G Aa
 ·
  obtain⟨c,Bm⟩:∃c,J[s.pos+i]? =some c:=⟨_,Aav (by omega)⟩;have AJ:=yD Bm;have E5:=c.toNat_lt;refine AZ<|Am<|Gx mixed (by kernel_rfl)<|AX 9 [0,0] G G<|C5 G G BV G<|Qh 0 G G G TZ (by omega) Bm G fun OC=>CQ 0 G G (A2 G) G fun AA7=>U 1 G<|Gj<|A5<|Am<|Ae<|U 3 G<|Fu 36 3 [] [0,5,6,7] G G G<|An G G ?_;refine DE 40 7 [0,5,6,7] G G (fun K7 AvY=>by
   exact U 3 G<|Fu 43 3 [] [0,5,6,7,40] G G G<|U 1 G<|AvY G Br) ?_
  refine Ac<|BN G (fun Wg=>?_) (fun Wg=>?_)
  ·
   have Au2:=Wg;simp at Au2;have Au2:(i=9/\1<c.toNat)\/(0<i/\c.toNat=0):=(by omega);rw[AJ,Ay5 Au2]at he;rw[he];exact AF 3 G<|BA<|C9<|Cd<|Cd<|C9<|IB () G G G G G G Aa
  ·
   have Au2:=Wg;simp at Au2;have Au2:¬((i=9/\1<c.toNat)\/(0<i/\c.toNat=0)):=(by omega);refine AZ<|Ae<|U 2 G<|Aik G G (by decide) G<|F0 Tryz.underlying5 Tryz.underlying136 G (AAe c) G<|An G G<|rD G G BV G<|gb G G (by omega) (lN _ (7*i) (Nat.lt_of_le_of_lt (Nat.le_add_left _ _) (Axb Ag BC Au2)) (by omega)) G<|Ax0 G G (AAc (Axb Ag BC Au2)) G<|U 1 G<|Ac<|AF 2 G<|B9 G (fun ev=>?_) (fun ev=>?_)
   ·
    rw[AJ,Ay6 Au2 (by omega)]at he;rw[he];exact Am<|Gx mixed (by kernel_rfl)<|AX 6 [0] G G<|C5 G G BV G<|C5 G G BV G<|U 3 G<|Gj<|A5<|rt<|C9<|Cd<|Cd<|C9<|IB () G G G G (congrArg (fun x:Int=>Value.tuple #[.int .u64 ((v+c.toNat % 128*2^(7*i):Nat):Int),.int .i64 x,.int .i64 0]) (by show(s.pos:Int)+(i:Int)+1=((s.pos+(i+1):Nat):Int);omega)) G Aa
   ·
    refine EG<|CU<|A5<|rg<|An G G<|C5 G G BV G<|U 1 G<|nl ?_;exact Dy ((i+1,v+c.toNat % 128*2^(7*i)):Nat×Nat) ⟨by show i+1<=9;omega,by show s.pos+(i+1)<=J.length;omega,gd BC,by show HH 0 0 _=_;rw[he,AJ,Ay7 Au2 (by omega)];rfl⟩ (by show J.length-(i+1)<J.length-i;omega) (Bs G) G (Ad 1 G Aa)
theorem Axa(p:Nat)(bv:Value)(J:List UInt8)(s:Bb)(AH:s.pos<=J.length):Aw AG 272 [.pointer (some ⟨p,0,none⟩)] [AuD p bv s] [⟨bv,J⟩] (fun(_:Unit) v=>v=.int .u64 ((rdNum J s).1:Int)) (fun _ _=>[AuD p bv (rdNum J s).2]) (fun _ _=>[]):=by
 refine Aw.proof Tryz.func272 G 27 G G fun X w=>?_;have Aq:=YV (J.drop s.pos) 0 0 (by decide) (by decide);rcases Fx:HH 0 0 (J.drop s.pos)with⟨x,n,e⟩;rw[Fx]at Aq;simp only at Aq;have Bh:rdNum J s=(s.val 0 x e,s.step n e):=by simp only[rdNum,Lj,Fx]
 refine AF 1 G<|Am<|I5 5 [0] G G<|Fa G (fun Dq=>?_) (fun Dq=>?_)
 ·
  have BI:s.fault≠0:=(by omega);rw[AwB BI];exact AF 1 G<|BA<|Bq () G G G G Aa
 ·
  have BI:s.fault=0:=(by omega);rw[Bh];refine AZ<|Ae<|An G G<|Ch 0 (rL p bv J s AH) (Ar G) G G (Ad 0 G Aa) G fun _ RA Dp=>?_;rw[Fx]at Dp;have Dp:RA=.tuple #[.int .u64 (x:Int),.int .i64 ((if e=0 then s.pos+n else 0:Nat):Int),.int .i64 (e:Int)]:=Dp;subst Dp;refine U 7 G<|Ac<|Am<|AF 2 G<|Fa G (fun ER=>?_) (fun ER=>?_)
  ·
   have he:e≠0:=(by omega);rw[Au0 he,Au4 BI he];refine Ae<|U 2 G<|Ch 0 (Avy p bv J s e (by first|exact BI|rfl)) (Ar G) G G (Ad 0 G Aa) G fun _ SB _=>?_
   exact Ac<|AF 1 G<|BA<|Bq () G G G G Aa
  ·
   have he:e=0:=(by omega);rw[Avh BI he,Avs BI he];subst he;exact AZ<|Ae<|U 4 G<|Fi 0 G G G (A2 G) G (Da G)<|Ac<|Ae<|An G G<|U 1 G<|Ac<|rt<|Bq () G G G (by simp only[BI];rfl) Aa
end Go.Proofs.YtalfaopffbkdnaaGreat.Ref
