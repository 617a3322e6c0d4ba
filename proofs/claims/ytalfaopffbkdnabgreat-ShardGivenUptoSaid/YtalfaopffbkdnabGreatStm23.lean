/- Part 23 of shardGiven_holds. -/
import Derived.Test.YtalfaopffbkdnabGreatStm22

set_option maxRecDepth 20000
set_option maxHeartbeats 1000000
open Go.Addr renaming add_mid→ACm
open List renaming append_nil→AB7,filter_cons→AJH,length_append→ABP,length_cons→ABv,length_nil→ABo
open Go.A_ Go.Proofs Go.Proofs.YtalfaopffbkdnabGreat
namespace Go.Apw
theorem ca{α:Type}{r:Be α}{S:Nat->Prop}{w:World}{v k:Value}{l:List α}(h:Atom.holds (@Atom.mk (Cq JD) (@F9 JD Qx) v ⟨⟨k⟩⟩) S w)(h2:Atom.holds (@Atom.mk (List α) (@FI α r) k l) S w):Atom.holds (@Atom.mk (Cq (List α)) (@F9 (List α) (@FI α r)) v ⟨l⟩) S w:=by
 obtain⟨b,o,Cx,rfl,Aq,⟨rfl,_⟩,AN⟩:=@Rp JD Qx _ _ _ _ h;exact⟨G,b,o,[k],G,Aq,j4 h2,AN⟩
theorem Ah1{Ei:Bv}{AS A1 AY A9 Ba Bd:Value}(JZ:AS.oneCell'=true)(Ie:A1.oneCell'=true)(II:AY.oneCell'=true)(IJ:A9.oneCell'=true)(J0:Ba.oneCell'=true)(Ks:Bd.oneCell'=true)(AU:Ei.wf):∀S w,(Iy DL).rd S w (BY Ei AS A1 AY A9 Ba Bd) (Ei,(AS,A1,AY,A9,Ba,Bd)):=fun S w=>⟨(),rfl,rR fun u hu=>by
 simp only[BY,ABf,ABh,ABi]at hu;rcases hu with rfl|rfl|rfl|rfl|rfl|rfl|rfl|rfl|rfl|rfl|rfl|rfl|rfl|rfl|rfl|rfl|rfl|rfl|rfl|rfl|rfl|rfl|rfl|rfl|rfl|rfl|rfl|rfl|rfl<;>first|rfl|exact JZ|exact Ie|exact II|exact IJ|exact J0|exact Ks,AU⟩
theorem AgQ{Ei:Bv}{h:DL.H}:∀S w cs,(Iy DL).rd S w cs (Ei,h)->E_.rd S w ((cs.drop 0).take 1) Ei.CZ:=by
 rintro S w cs ⟨_,rfl,hs,hw⟩;exact⟨G,hw.1⟩
theorem AgR{Ei:Bv}{h:DL.H}:∀S w cs,(Iy DL).rd S w cs (Ei,h)->E_.rd S w ((cs.drop 1).take 1) Ei.DX:=by
 rintro S w cs ⟨_,rfl,hs,hw⟩;exact⟨G,hw.2.1⟩
theorem AgZ{Ei:Bv}{h:DL.H}:∀S w cs,(Iy DL).rd S w cs (Ei,h)->cr.rd S w ((cs.drop 2).take 1) Ei.Du:=by
 rintro S w cs ⟨_,rfl,hs,hw⟩;exact⟨G,trivial⟩
theorem Ag0{Ei:Bv}{h:DL.H}:∀S w cs,(Iy DL).rd S w cs (Ei,h)->Nl.rd S w ((cs.drop 3).take 1) Ei.A6:=by
 rintro S w cs ⟨_,rfl,hs,hw⟩;exact⟨G,hw.2.2.2.1⟩
theorem Ag1{Ei:Bv}{h:DL.H}:∀S w cs,(Iy DL).rd S w cs (Ei,h)->Nl.rd S w ((cs.drop 4).take 1) Ei.Bc:=by
 rintro S w cs ⟨_,rfl,hs,hw⟩;exact⟨G,hw.2.2.2.2.1⟩
theorem Ag2{Ei:Bv}{h:DL.H}:∀S w cs,(Iy DL).rd S w cs (Ei,h)->E_.rd S w ((cs.drop 5).take 1) Ei.Dn:=by
 rintro S w cs ⟨_,rfl,hs,hw⟩;exact⟨G,hw.2.2.2.2.2.1⟩
theorem Ag3{Ei:Bv}{h:DL.H}:∀S w cs,(Iy DL).rd S w cs (Ei,h)->Qx.rd S w ((cs.drop 6).take 1) ⟨h.1⟩:=by
 rintro S w cs ⟨_,rfl,hs,hw⟩;exact⟨G,TJ (hs _ (AB6.2 ⟨_,ACF (l:=(BY Ei h.1 h.2.1 h.2.2.1 h.2.2.2.1 h.2.2.2.2.1 h.2.2.2.2.2)) (n:=6) (ABy G),G⟩))⟩
theorem Ag4{Ei:Bv}{h:DL.H}:∀S w cs,(Iy DL).rd S w cs (Ei,h)->Qx.rd S w ((cs.drop 7).take 1) ⟨h.2.1⟩:=by
 rintro S w cs ⟨_,rfl,hs,hw⟩;exact⟨G,TJ (hs _ (AB6.2 ⟨_,ACF (l:=(BY Ei h.1 h.2.1 h.2.2.1 h.2.2.2.1 h.2.2.2.2.1 h.2.2.2.2.2)) (n:=7) (ABy G),G⟩))⟩
theorem Ag5{Ei:Bv}{h:DL.H}:∀S w cs,(Iy DL).rd S w cs (Ei,h)->Qx.rd S w ((cs.drop 8).take 1) ⟨h.2.2.1⟩:=by
 rintro S w cs ⟨_,rfl,hs,hw⟩;exact⟨G,TJ (hs _ (AB6.2 ⟨_,ACF (l:=(BY Ei h.1 h.2.1 h.2.2.1 h.2.2.2.1 h.2.2.2.2.1 h.2.2.2.2.2)) (n:=8) (ABy G),G⟩))⟩
theorem Ag6{Ei:Bv}{h:DL.H}:∀S w cs,(Iy DL).rd S w cs (Ei,h)->Qx.rd S w ((cs.drop 9).take 1) ⟨h.2.2.2.1⟩:=by
 rintro S w cs ⟨_,rfl,hs,hw⟩;exact⟨G,TJ (hs _ (AB6.2 ⟨_,ACF (l:=(BY Ei h.1 h.2.1 h.2.2.1 h.2.2.2.1 h.2.2.2.2.1 h.2.2.2.2.2)) (n:=9) (ABy G),G⟩))⟩
theorem AgS{Ei:Bv}{h:DL.H}:∀S w cs,(Iy DL).rd S w cs (Ei,h)->Qx.rd S w ((cs.drop 10).take 1) ⟨h.2.2.2.2.1⟩:=by
 rintro S w cs ⟨_,rfl,hs,hw⟩;exact⟨G,TJ (hs _ (AB6.2 ⟨_,ACF (l:=(BY Ei h.1 h.2.1 h.2.2.1 h.2.2.2.1 h.2.2.2.2.1 h.2.2.2.2.2)) (n:=10) (ABy G),G⟩))⟩
theorem AgT{Ei:Bv}{h:DL.H}:∀S w cs,(Iy DL).rd S w cs (Ei,h)->Ru.rd S w ((cs.drop 11).take 7) Ei.Bt:=by
 rintro S w cs ⟨_,rfl,hs,hw⟩;exact⟨(),G,by simp,hw.2.2.2.2.2.2.2.2.2.2.2.1⟩
theorem AgU{Ei:Bv}{h:DL.H}:∀S w cs,(Iy DL).rd S w cs (Ei,h)->Ru.rd S w ((cs.drop 18).take 7) Ei.CW:=by
 rintro S w cs ⟨_,rfl,hs,hw⟩;exact⟨(),G,by simp,hw.2.2.2.2.2.2.2.2.2.2.2.2.1⟩
theorem AgV{Ei:Bv}{h:DL.H}:∀S w cs,(Iy DL).rd S w cs (Ei,h)->Qx.rd S w ((cs.drop 25).take 1) ⟨h.2.2.2.2.2⟩:=by
 rintro S w cs ⟨_,rfl,hs,hw⟩;exact⟨G,TJ (hs _ (AB6.2 ⟨_,ACF (l:=(BY Ei h.1 h.2.1 h.2.2.1 h.2.2.2.1 h.2.2.2.2.1 h.2.2.2.2.2)) (n:=25) (ABy G),G⟩))⟩
theorem AgW{Ei:Bv}{h:DL.H}:∀S w cs,(Iy DL).rd S w cs (Ei,h)->E_.rd S w ((cs.drop 26).take 1) Ei.Jc:=by
 rintro S w cs ⟨_,rfl,hs,hw⟩;exact⟨G,hw.2.2.2.2.2.2.2.2.2.2.2.2.2.2.1⟩
theorem AgX{Ei:Bv}{h:DL.H}:∀S w cs,(Iy DL).rd S w cs (Ei,h)->E_.rd S w ((cs.drop 27).take 1) Ei.JL:=by
 rintro S w cs ⟨_,rfl,hs,hw⟩;exact⟨G,hw.2.2.2.2.2.2.2.2.2.2.2.2.2.2.2.1⟩
theorem AgY{Ei:Bv}{h:DL.H}:∀S w cs,(Iy DL).rd S w cs (Ei,h)->E_.rd S w ((cs.drop 28).take 1) Ei.GW:=by
 rintro S w cs ⟨_,rfl,hs,hw⟩;exact⟨G,hw.2.2.2.2.2.2.2.2.2.2.2.2.2.2.2.2⟩
theorem AjQ(p:Nat)(J:List Nat)(o:Cc)(v1:Value)(S:Bv)(AS A1 AY A9 Ba Bd:Value)(Z:Cc)(AW:N7 S o=Z):Aw AG 72 [.pointer (some ⟨p,0,none⟩),v1] [DG p J o] [(@Atom.mk (Cq (Bv×DL.H)) (@F9 _ (Iy DL)) v1 ⟨(S,(AS,A1,AY,A9,Ba,Bd))⟩),⟨A1,(⟨⟩:Kg)⟩,⟨AS,S.Aj⟩,⟨A1,S.Bz⟩,⟨AY,S.AA⟩,⟨A9,S.Bj⟩,⟨Ba,S.CX⟩,⟨Bd,S.Cf⟩] (fun(_:List Nat) _=>True) (fun y _=>[DG p y Z]) (fun _ _=>[]):=by
 refine Aw.proof Tryz.func72 G 95 G G fun X w=>Am<|AuR (ω:=List Nat×Value) [] [(0,[(8,.f1 8 fun BM=>[DG p BM.1 (B_ [Ak S.CZ,Ak S.DX] o)])])] [(2,⟨[],fun _=>some (v1),fun _=>[],[]⟩),(3,CC (Ak S.CZ)),(5,⟨[],fun _=>some (v1),fun _=>[],[]⟩),(6,CC (Ak S.DX)),(7,CC [Ak S.CZ,Ak S.DX]),(8,K8 [0])] [] [0,1] (fun _=>G) (fun _=>G) (fun Ai AV Az=>⟨fun _=>?_,fun _=>?_,fun _=>?_,fun _=>?_,fun _=>?_,fun _=>?_,trivial⟩) fun Ai _=>?_
 · exact Co 0 G G G<|I4 ([],undef) [] 0 G G trivial
 · exact IY (α:=Bv×DL.H) (β:=Int) 0 (fun x=>x.1.CZ) G G (BR G) AgQ G fun EZ=>CD [0] 1 G G
 · exact Co 0 G G G<|I4 ([],undef) [] 0 G G trivial
 · exact IY (α:=Bv×DL.H) (β:=Int) 0 (fun x=>x.1.DX) G G (BR G) AgR G fun v10=>CD [0] 1 G G
 · exact Kj [0,1] [Ak S.CZ,Ak S.DX] HB G G G fun XT=>CD [0] 3 G G
 ·
  refine Ch 0 (AuS p _ o _ [Ak S.CZ,Ak S.DX] (B_ [Ak S.CZ,Ak S.DX] o) G) (Ar G) G G (Ad 2 G Aa) G fun P5 _ _=>?_;exact I4 (P5,_) [] 3 G G trivial
 ·
  generalize (Ai 3).2=Mm,(Ai 6).2=MQ,(Ai 7).2=PR,(Ai 8).1=P5,(Ai 8).2=Nq;refine A5<|Ae<|U 2 G<|Co 3 G G G<|IY (α:=Bv×DL.H) (β:=Bool) 3 (fun x=>x.1.Du) G G (BR G) AgZ G fun Mn=>Ch 0 (o1 p _ (B_ [Ak S.CZ,Ak S.DX] o) _ S.Du (Gy S.Du (B_ [Ak S.CZ,Ak S.DX] o)) G) (Ar G) G G (Ad 0 G Aa) G fun xA _ _=>Ac<|Am<|AuR (ω:=List Nat×Value) [] [(0,[(8,.f1 8 fun BM=>[DG p BM.1 (E0 [Ak S.A6,Ak S.Bc] (Gy S.Du (B_ [Ak S.CZ,Ak S.DX] o)))])])] [(2,⟨[],fun _=>some (v1),fun _=>[],[]⟩),(3,CC (Ak S.A6)),(5,⟨[],fun _=>some (v1),fun _=>[],[]⟩),(6,CC (Ak S.Bc)),(7,CC [Ak S.A6,Ak S.Bc]),(8,K8 [0])] [] [0,1] (fun _=>G) (fun _=>G) (fun Ai AV Az=>⟨fun _=>?_,fun _=>?_,fun _=>?_,fun _=>?_,fun _=>?_,fun _=>?_,trivial⟩) fun Ai _=>?_
  · exact Co 4 G G G<|I4 ([],undef) [] 0 G G trivial
  · exact IY (α:=Bv×DL.H) (β:=ByteArray) 4 (fun x=>x.1.A6) G G (BR G) Ag0 G fun SB=>CD [0] 1 G G
  · exact Co 4 G G G<|I4 ([],undef) [] 0 G G trivial
  · exact IY (α:=Bv×DL.H) (β:=ByteArray) 4 (fun x=>x.1.Bc) G G (BR G) Ag1 G fun Xl=>CD [0] 1 G G
  · exact Kj [0,1] [Ak S.A6,Ak S.Bc] QO G G G fun xk=>CD [0] 3 G G
  ·
   refine Ch 0 (cL p _ (Gy S.Du (B_ [Ak S.CZ,Ak S.DX] o)) _ [Ak S.A6,Ak S.Bc] (E0 [Ak S.A6,Ak S.Bc] (Gy S.Du (B_ [Ak S.CZ,Ak S.DX] o))) G) (Ar G) G G (Ad 2 G Aa) G fun VS _ _=>?_;exact I4 (VS,_) [] 3 G G trivial
  ·
   generalize (Ai 3).2=Mm,(Ai 6).2=MQ,(Ai 7).2=PR,(Ai 8).1=VS,(Ai 8).2=Nq;refine A5<|Ae<|U 2 G<|Co 7 G G G<|IY (α:=Bv×DL.H) (β:=Int) 7 (fun x=>x.1.Dn) G G (BR G) Ag2 G fun v30=>Kj [0] [Ak S.Dn] HB G G G fun xl=>Ch 0 (AuS p _ (E0 [Ak S.A6,Ak S.Bc] (Gy S.Du (B_ [Ak S.CZ,Ak S.DX] o))) _ [Ak S.Dn] (B_ [Ak S.Dn] (E0 [Ak S.A6,Ak S.Bc] (Gy S.Du (B_ [Ak S.CZ,Ak S.DX] o)))) G) (Ar G) G G (Ad 0 G Aa) G fun Amw _ _=>Ac<|Ae<|U 2 G<|Co 9 G G G<|IY (α:=Bv×DL.H) (β:=JD) 9 (fun x=>⟨x.2.1⟩) G G (BR G) Ag3 G fun SC=>XR (@Atom.mk (Cq (List AD)) (@F9 (List AD) (@FI AD GR)) SC ⟨S.Aj⟩) (fun S w h=>ca (h _ (AA' (i:=0) G)) (h _ (AA' (i:=12) G)))<|An G G<|Ql (ys:=[.tmp 37]) (xs:=[]) G G G<|Ch 0 (Ady p _ (B_ [Ak S.Dn] (E0 [Ak S.A6,Ak S.Bc] (Gy S.Du (B_ [Ak S.CZ,Ak S.DX] o)))) _ S.Aj (CH I_ S.Aj (B_ [Ak S.Dn] (E0 [Ak S.A6,Ak S.Bc] (Gy S.Du (B_ [Ak S.CZ,Ak S.DX] o))))) G) (Ar G) G G (Ad 0 G Aa) G fun Amx _ _=>?_;refine Ac<|Ae<|U 2 G<|Co 11 G G G<|IY (α:=Bv×DL.H) (β:=JD) 11 (fun x=>⟨x.2.2.1⟩) G G (BR G) Ag4 G fun cS=>An G G<|Ql (ys:=[.tmp 44]) (xs:=[]) G G G<|Ch 0 (AdL p _ (CH I_ S.Aj (B_ [Ak S.Dn] (E0 [Ak S.A6,Ak S.Bc] (Gy S.Du (B_ [Ak S.CZ,Ak S.DX] o))))) _ A1 S.Bz (CH Kc S.Bz (CH I_ S.Aj (B_ [Ak S.Dn] (E0 [Ak S.A6,Ak S.Bc] (Gy S.Du (B_ [Ak S.CZ,Ak S.DX] o)))))) G) (Ar G) G G (BE [0,15,13] G) G fun Amy _ _=>?_;refine Ac<|Ae<|U 2 G<|Co 12 G G G<|IY (α:=Bv×DL.H) (β:=JD) 12 (fun x=>⟨x.2.2.2.1⟩) G G (BR G) Ag5 G fun uf=>XR (@Atom.mk (Cq (List BX)) (@F9 (List BX) (@FI BX Ha)) uf ⟨S.AA⟩) (fun S w h=>ca (h _ (AA' (i:=0) G)) (h _ (AA' (i:=17) G)))<|An G G<|Ql (ys:=[.tmp 51]) (xs:=[]) G G G<|Ch 0 (AdQ p _ (CH Kc S.Bz (CH I_ S.Aj (B_ [Ak S.Dn] (E0 [Ak S.A6,Ak S.Bc] (Gy S.Du (B_ [Ak S.CZ,Ak S.DX] o)))))) _ S.AA (CH KV S.AA (CH Kc S.Bz (CH I_ S.Aj (B_ [Ak S.Dn] (E0 [Ak S.A6,Ak S.Bc] (Gy S.Du (B_ [Ak S.CZ,Ak S.DX] o))))))) G) (Ar G) G G (Ad 0 G Aa) G fun Amz _ _=>?_;refine Ac<|Ae<|U 2 G<|Co 14 G G G<|IY (α:=Bv×DL.H) (β:=JD) 14 (fun x=>⟨x.2.2.2.2.1⟩) G G (BR G) Ag6 G fun T8=>XR (@Atom.mk (Cq (List Bx)) (@F9 (List Bx) (@FI Bx ML)) T8 ⟨S.Bj⟩) (fun S w h=>ca (h _ (AA' (i:=0) G)) (h _ (AA' (i:=20) G)))<|An G G<|Ql (ys:=[.tmp 58]) (xs:=[]) G G G<|Ch 0 (AdB p _ (CH KV S.AA (CH Kc S.Bz (CH I_ S.Aj (B_ [Ak S.Dn] (E0 [Ak S.A6,Ak S.Bc] (Gy S.Du (B_ [Ak S.CZ,Ak S.DX] o))))))) _ S.Bj (CH LO S.Bj (CH KV S.AA (CH Kc S.Bz (CH I_ S.Aj (B_ [Ak S.Dn] (E0 [Ak S.A6,Ak S.Bc] (Gy S.Du (B_ [Ak S.CZ,Ak S.DX] o)))))))) G) (Ar G) G G (Ad 0 G Aa) G fun AmA _ _=>?_;refine Ac<|Ae<|U 2 G<|Co 16 G G G<|IY (α:=Bv×DL.H) (β:=JD) 16 (fun x=>⟨x.2.2.2.2.2.1⟩) G G (BR G) AgS G fun AkK=>XR (@Atom.mk (Cq (List Df)) (@F9 (List Df) (@FI Df Y9)) AkK ⟨S.CX⟩) (fun S w h=>ca (h _ (AA' (i:=0) G)) (h _ (AA' (i:=23) G)))<|An G G<|Ql (ys:=[.tmp 65]) (xs:=[]) G G G<|Ch 0 (AdE p _ (CH LO S.Bj (CH KV S.AA (CH Kc S.Bz (CH I_ S.Aj (B_ [Ak S.Dn] (E0 [Ak S.A6,Ak S.Bc] (Gy S.Du (B_ [Ak S.CZ,Ak S.DX] o)))))))) _ S.CX (CH Mq S.CX (CH LO S.Bj (CH KV S.AA (CH Kc S.Bz (CH I_ S.Aj (B_ [Ak S.Dn] (E0 [Ak S.A6,Ak S.Bc] (Gy S.Du (B_ [Ak S.CZ,Ak S.DX] o))))))))) G) (Ar G) G G (Ad 0 G Aa) G fun AmB _ _=>?_;refine Ac<|Ae<|U 2 G<|Co 18 G G G<|IY (α:=Bv×DL.H) (β:=Fs) 18 (fun x=>x.1.Bt) G G (BR G) AgT G fun AoQ=>Ch 0 (sl p _ (CH Mq S.CX (CH LO S.Bj (CH KV S.AA (CH Kc S.Bz (CH I_ S.Aj (B_ [Ak S.Dn] (E0 [Ak S.A6,Ak S.Bc] (Gy S.Du (B_ [Ak S.CZ,Ak S.DX] o))))))))) _ S.Bt (Lq S.Bt (CH Mq S.CX (CH LO S.Bj (CH KV S.AA (CH Kc S.Bz (CH I_ S.Aj (B_ [Ak S.Dn] (E0 [Ak S.A6,Ak S.Bc] (Gy S.Du (B_ [Ak S.CZ,Ak S.DX] o)))))))))) G) (Ar G) G G (Ad 0 G Aa) G fun AmC _ _=>Ac<|Ae<|U 2 G<|Co 19 G G G<|IY (α:=Bv×DL.H) (β:=Fs) 19 (fun x=>x.1.CW) G G (BR G) AgU G fun AkL=>Ch 0 (sl p _ (Lq S.Bt (CH Mq S.CX (CH LO S.Bj (CH KV S.AA (CH Kc S.Bz (CH I_ S.Aj (B_ [Ak S.Dn] (E0 [Ak S.A6,Ak S.Bc] (Gy S.Du (B_ [Ak S.CZ,Ak S.DX] o)))))))))) _ S.CW (Lq S.CW (Lq S.Bt (CH Mq S.CX (CH LO S.Bj (CH KV S.AA (CH Kc S.Bz (CH I_ S.Aj (B_ [Ak S.Dn] (E0 [Ak S.A6,Ak S.Bc] (Gy S.Du (B_ [Ak S.CZ,Ak S.DX] o))))))))))) G) (Ar G) G G (Ad 0 G Aa) G fun AmD _ _=>Ac<|Ae<|U 2 G<|Co 20 G G G<|IY (α:=Bv×DL.H) (β:=JD) 20 (fun x=>⟨x.2.2.2.2.2.2⟩) G G (BR G) AgV G fun gC=>XR (@Atom.mk (Cq (List UInt8)) (@F9 (List UInt8) (@FI UInt8 Rv)) gC ⟨S.Cf⟩) (fun S w h=>ca (h _ (AA' (i:=0) G)) (h _ (AA' (i:=28) G)))<|Ch 0 (nN p _ (Lq S.CW (Lq S.Bt (CH Mq S.CX (CH LO S.Bj (CH KV S.AA (CH Kc S.Bz (CH I_ S.Aj (B_ [Ak S.Dn] (E0 [Ak S.A6,Ak S.Bc] (Gy S.Du (B_ [Ak S.CZ,Ak S.DX] o))))))))))) _ S.Cf (KT S.Cf (Lq S.CW (Lq S.Bt (CH Mq S.CX (CH LO S.Bj (CH KV S.AA (CH Kc S.Bz (CH I_ S.Aj (B_ [Ak S.Dn] (E0 [Ak S.A6,Ak S.Bc] (Gy S.Du (B_ [Ak S.CZ,Ak S.DX] o)))))))))))) G) (Ar G) G G (Ad 0 G Aa) G fun AmE _ _=>?_;refine Ac<|AuR (ω:=List Nat×Value) [] [(0,[(11,.f1 11 fun BM=>[DG p BM.1 (B_ [Ak S.Jc,Ak S.JL,Ak S.GW] (KT S.Cf (Lq S.CW (Lq S.Bt (CH Mq S.CX (CH LO S.Bj (CH KV S.AA (CH Kc S.Bz (CH I_ S.Aj (B_ [Ak S.Dn] (E0 [Ak S.A6,Ak S.Bc] (Gy S.Du (B_ [Ak S.CZ,Ak S.DX] o)))))))))))))])])] [(2,⟨[],fun _=>some (v1),fun _=>[],[]⟩),(3,CC (Ak S.Jc)),(5,⟨[],fun _=>some (v1),fun _=>[],[]⟩),(6,CC (Ak S.JL)),(8,⟨[],fun _=>some (v1),fun _=>[],[]⟩),(9,CC (Ak S.GW)),(10,CC [Ak S.Jc,Ak S.JL,Ak S.GW]),(11,K8 [0])] [] [] (fun _=>G) (fun _=>G) (fun Ai AV Az=>⟨fun _=>?_,fun _=>?_,fun _=>?_,fun _=>?_,fun _=>?_,fun _=>?_,fun _=>?_,fun _=>?_,trivial⟩) fun Ai _=>?_
   · exact Co 22 G G G<|I4 ([],undef) [] 0 G G trivial
   · exact IY (α:=Bv×DL.H) (β:=Int) 22 (fun x=>x.1.Jc) G G (BR G) AgW G fun AoV=>CD [0] 1 G G
   · exact Co 22 G G G<|I4 ([],undef) [] 0 G G trivial
   · exact IY (α:=Bv×DL.H) (β:=Int) 22 (fun x=>x.1.JL) G G (BR G) AgX G fun AoW=>CD [0] 1 G G
   · exact Co 22 G G G<|I4 ([],undef) [] 0 G G trivial
   · exact IY (α:=Bv×DL.H) (β:=Int) 22 (fun x=>x.1.GW) G G (BR G) AgY G fun AoX=>CD [0] 1 G G
   · exact Kj [0,1,2] [Ak S.Jc,Ak S.JL,Ak S.GW] HB G G G fun Amt=>CD [0] 4 G G
   ·
    refine Ch 0 (AuS p _ (KT S.Cf (Lq S.CW (Lq S.Bt (CH Mq S.CX (CH LO S.Bj (CH KV S.AA (CH Kc S.Bz (CH I_ S.Aj (B_ [Ak S.Dn] (E0 [Ak S.A6,Ak S.Bc] (Gy S.Du (B_ [Ak S.CZ,Ak S.DX] o)))))))))))) _ [Ak S.Jc,Ak S.JL,Ak S.GW] (B_ [Ak S.Jc,Ak S.JL,Ak S.GW] (KT S.Cf (Lq S.CW (Lq S.Bt (CH Mq S.CX (CH LO S.Bj (CH KV S.AA (CH Kc S.Bz (CH I_ S.Aj (B_ [Ak S.Dn] (E0 [Ak S.A6,Ak S.Bc] (Gy S.Du (B_ [Ak S.CZ,Ak S.DX] o))))))))))))) G) (Ar G) G G (Ad 3 G Aa) G fun hy _ _=>?_;exact I4 (hy,_) [] 4 G G trivial
   ·
    generalize (Ai 3).2=Mm,(Ai 6).2=MQ,(Ai 9).2=cP,(Ai 10).2=Vo,(Ai 11).1=hy,(Ai 11).2=Vp;have AB:(B_ [Ak S.Jc,Ak S.JL,Ak S.GW] (KT S.Cf (Lq S.CW (Lq S.Bt (CH Mq S.CX (CH LO S.Bj (CH KV S.AA (CH Kc S.Bz (CH I_ S.Aj (B_ [Ak S.Dn] (E0 [Ak S.A6,Ak S.Bc] (Gy S.Du (B_ [Ak S.CZ,Ak S.DX] o)))))))))))))=Z:=(by exact AW);subst AB;exact Dz hy G trivial G Aa
theorem AjN(p:Nat)(J:List Nat)(o:Cc)(v1:Value)(S:Bv)(AS A1 AY A9 Ba Bd:Value)(Z:Cc)(AW:N7 S o=Z):Aw AG 170 [.pointer (some ⟨p,0,none⟩),v1] [DG p J o] [(@Atom.mk (Cq (Bv×DL.H)) (@F9 _ (Iy DL)) v1 ⟨(S,(AS,A1,AY,A9,Ba,Bd))⟩),⟨A1,(⟨⟩:Kg)⟩,⟨AS,S.Aj⟩,⟨A1,S.Bz⟩,⟨AY,S.AA⟩,⟨A9,S.Bj⟩,⟨Ba,S.CX⟩,⟨Bd,S.Cf⟩] (fun(_:List Nat) _=>True) (fun y _=>[DG p y Z]) (fun _ _=>[]):=by
 refine Aw.proof Tryz.func170 G 5 G G fun X w=>rg<|An G G<|Ch 0 (AjQ p _ o _ S AS A1 AY A9 Ba Bd (N7 S o) G) (Ar G) G G (BE [0,1,2,3,4,5,6,7] G) G fun xB _ _=>?_;refine nl ?_;have AB:(N7 S o)=Z:=by exact AW
 subst AB;exact Dz xB G trivial G Aa
theorem yV(S:Bv):IW S=(if(N7 S ⟨[],false⟩).E6=true then([],22)else((N7 S ⟨[],false⟩).out,0)):=rfl
theorem Alq(f:Nat)(D0:Array Value)(A:List Atom)(eg:Cc->Cc)(CM:GU AG f)(E5:∀(p:Nat) (J:List Nat) (o:Cc),Aw AG f (.pointer (some ⟨p,0,none⟩)::D0.toList) [DG p J o] A (fun(_:List Nat) _=>True) (fun y _=>[DG p y (eg o)]) (fun _ _=>[]))(Z:List UInt8×Int)(AW:((if(eg ⟨[],false⟩).E6=true then([],22)else((eg ⟨[],false⟩).out,0)):List UInt8×Int)=Z):Aw AG 169 [.func (.func f) #[] D0] [] A (fun(y:Value) u=>u=.tuple #[y,.int .i64 Z.2]) (fun _ _=>[]) (fun y _=>[⟨y,Z.1⟩]):=by
 refine Aw.proof Tryz.func169 G 18 G G fun X w=>AF 2 G<|Ae<|Db (ps:=[]) (cs:=[.pointer none,.slice none 0 0,.bool false,.int .i64 0]) AJy AJw G<|CV G G G fun Hg=>U 1 G<|Ac<|Am<|Lk UInt8 5<|B8 1 G<|Mh (⟨[],false⟩:Cc) AI G AJx fun NB=>rg<|U 2 G<|Uv 0 (E5 Hg _ ⟨[],false⟩) CM G G G G Br G fun K1 _ _=>?_;refine Ac<|Am<|Am<|L2 fun k Dk=>?_;refine Kb 4 [0] G G<|A5<|BN G (fun Dp=>?_) (fun Dp=>?_)
 ·
  refine AF 2 G<|BA ?_;have AB:(([],22):List UInt8×Int)=Z:=(by rw[<-AW,AA_ Dp]);subst AB;exact oB (α:=UInt8)<|AQ<|AQ<|Fl AI G G G G G (Ad 0 G Aa)
 ·
  refine AZ<|I5 6 [0] G G<|rt<|Au 1 G<|K5 ?_;have AB:(((eg ⟨[],false⟩).out,0):List UInt8×Int)=Z:=(by rw[<-AW,AA9 (by rw[Dp];decide)]);subst AB;exact AQ<|Fl k G G G G G (Ad 0 G Aa)
theorem Alf(S:Bv)(AS A1 AY A9 Ba Bd:Value)(JV:S.wf):Aw AG 111 [.agg (BY S AS A1 AY A9 Ba Bd).toArray] [] [⟨A1,(⟨⟩:Kg)⟩,⟨AS,S.Aj⟩,⟨A1,S.Bz⟩,⟨AY,S.AA⟩,⟨A9,S.Bj⟩,⟨Ba,S.CX⟩,⟨Bd,S.Cf⟩] (fun(y:Value) u=>u=.tuple #[y,.int .i64 (IW S).2]) (fun _ _=>[]) (fun y _=>[⟨y,(IW S).1⟩]):=by
 refine Aw.proof Tryz.func111 G 8 G G fun X w=>Ae<|CV G G G fun CY=>U 2 G<|Ac<|Ae<|GO (q:=Value.oneCell' _=true) (fun S w h=>Fh (h _ (AA' (i:=1) G))) fun JZ=>GO (q:=Value.oneCell' _=true) (fun S w h=>Fh (h _ (AA' (i:=2) G))) fun Ie=>GO (q:=Value.oneCell' _=true) (fun S w h=>Fh (h _ (AA' (i:=3) G))) fun II=>GO (q:=Value.oneCell' _=true) (fun S w h=>Fh (h _ (AA' (i:=4) G))) fun IJ=>GO (q:=Value.oneCell' _=true) (fun S w h=>Fh (h _ (AA' (i:=5) G))) fun J0=>GO (q:=Value.oneCell' _=true) (fun S w h=>Fh (h _ (AA' (i:=6) G))) fun Ks=>M4 (α:=Bv×DL.H) (r:=Iy DL) (S,(AS,A1,AY,A9,Ba,Bd)) (fun S w h=>Ah1 JZ Ie II IJ J0 Ks JV S w)<|Nd (xs:=[.tmp 1]) G G<|Dm (Alq _ #[_] [(@Atom.mk (Cq (Bv×DL.H)) (@F9 _ (Iy DL)) _ ⟨(S,(AS,A1,AY,A9,Ba,Bd))⟩),⟨A1,(⟨⟩:Kg)⟩,⟨AS,S.Aj⟩,⟨A1,S.Bz⟩,⟨AY,S.AA⟩,⟨A9,S.Bj⟩,⟨Ba,S.CX⟩,⟨Bd,S.Cf⟩] (N7 S) (Ar G) (fun p J o=>AjN p J o _ S AS A1 AY A9 Ba Bd (N7 S o) G) (IW S) (yV S).symm) (Ar G) G (BE [0,1,2,3,4,5,6,7] G) G fun Ls Mp C'=>?_;subst C';exact U 4 G<|Ac<|rt<|Fl Ls G G G G G (Ad 0 G Aa)
end Go.Apw
namespace Go.A_
section
theorem tD(v:Value):v.ownBlock.toList.Nodup:=by cases v.ownBlock<;>simp
section
variable{c:Cj} {ops:Array Oper} {Q:AuE} {env:Env} {L:Own} {D:List Atom} {rest:List Oper} {d:Nat} {t:TypeId} {p:String} {af:Array Edge} {x y:Operand} {T:TypeId}
theorem nk{α:Type}{r:Be α}(i j:Nat){e:TypeId}{bytes:Nat}{Bk XE:Value}{xs ys:List α}(Ab:AL env x=some Bk)(Bf:AL env y=some XE)(Ag:L[i]? =some (@row α r e Bk xs))(Ay:L[j]? =some (@row α r e XE ys))
 (Av:EH c.P T e r.size bytes)(Aq:(xs.length+ys.length)*bytes<=140737488355328)(R9:xs.length+ys.length<=140737488355328)(Ao:Nat.blt d c.n=true)
 (k:∀v,Cb Q c ops rest ((d,v)::env) (L.set i (@row α r e v (xs++ys))) D):
 Cb Q c ops (⟨some d,.call {callee:=.builtin .append,args:= #[x,y],argTypes:= #[T,T]},t,p,af,none⟩::rest) env L D:=by
 refine Ue (σ:=Value) rfl rfl (fun v=>(d,v)::env) (fun v=>L.set i (@row α r e v (xs++ys))) (fun _=>D) (fun a w f st AR=>?_) k;obtain⟨Cy,G8,Ep,Sg⟩:=st.own _ (AA' Ag);obtain⟨ob,pZ,p5,AnE⟩:=st.own _ (AA' Ay);have Ant:=p5.len;obtain⟨A,Dc,rfl,BB⟩:∃A Dc,XE=.slice A ys.length Dc/\(ys≠[]->∃g,A=some ⟨g,0,none⟩/\Lt w g 0 ob.flatten):=by
  rcases pZ.2 with⟨rfl,Ao⟩|⟨g,cap,cur,rfl,_,CK,Tt,Wp,I0,Md⟩
  · exact⟨none,0,by rw[Ao],fun h=>absurd (ADo Ao) h⟩
  · refine⟨some ⟨g,0,none⟩,cap,rfl,fun _=>⟨g,rfl,fun j u hu=>?_⟩⟩;have:=World.ownsRow.cells pZ (g:=g) rfl j u hu
    rwa [ACm]at this
 have aW:∀(w:World) (u:Value) (AT:World),(Builtin.append_ #[T,T] t #[Bk,.slice A ys.length Dc]).run c.P w=.ok u AT->(execOp a.eval ⟨some d,.call {callee:=.builtin .append,args:= #[x,y],argTypes:= #[T,T]},t,p,af,none⟩).run c.P w=.ok (.value u) AT:=by
  intro w u AT h;simp only[execOp,resolve,invoke,builtin,Sem.run_bind,Sem.run_pure,Result.andThen_ok,List.map_toArray,AB8,List.map_nil,f.AL Ab,f.AL Bf,h]
 by_cases Qg:ys=[]
 · subst Qg;have BC:∀w:World,w.ownsRow 0 e r.size Bk xs.length Cy.flatten->∃AT,(Builtin.append_ #[T,T] t #[Bk,.slice A 0 Dc]).run c.P w=.ok Bk AT/\C8 Bk.ownBlock.toList w AT/\AT.ownsRow 0 e r.size Bk xs.length Cy.flatten:=by
    intro w G8;cases A with
    |none=>exact⟨w,run_append_nil w Av G8 Dc,C8.refl _ _,G8⟩
    |some RJ=>
     obtain⟨hu,ii,Gz,Gf,Cu,hs,P_,Oj,Bw⟩:=Av;rcases G8.2 with⟨rfl,Ts⟩|⟨g,cap,cur,rfl,_,CK,Tt,_⟩
     · refine⟨w,?_,C8.refl _ _,G8⟩;simp[Builtin.append_,ABQ hu,sizeOf,typeInfo,Gf,Builtin.lenOf,Builtin.firstCells,loadCells,loadCellsFrom]
     · refine⟨w,?_,C8.refl _ _,G8⟩;simp[Builtin.append_,ABQ hu,sizeOf,typeInfo,Gf,Builtin.lenOf,Builtin.firstCells,Tt,storeCells,loadCells,loadCellsFrom]
   obtain⟨AT,Ek,hs,Wz⟩:=BC w G8;have HW:C8 (row e Bk xs).J w AT:=hs;refine⟨Bk,Bk,AT,aW w _ _ Ek,f.put _ (EU Ao),?_,AR.KB i Ag HW (fun b Aq=>.inl Aq)⟩;refine st.KB i Ag HW ?_ (tD Bk) (fun b Aq=>.inl Aq);refine⟨Cy,by simpa using Wz,?_,by simpa using R9⟩;rw[AB7];exact Ep.DY (fun b Aq=>⟨ACp Aq.1 hs.size,fun Ab=>Aq.2 (by
    rcases OK Ag b Ab with h|h
    · exact FW.2 ⟨_,AA' Ag,h⟩
    · exact h)⟩) (fun b Aq=>hs.block b Aq.1 (fun Ab=>Aq.2 (FW.2 ⟨_,AA' Ag,Ab⟩)))
 · obtain⟨b,rfl,PB⟩:=BB Qg;have Qd:=p5;generalize ob=dss at Qd PB;have Yy:=Av;obtain⟨hu,ii,Gz,Gf,Cu,hs,P_,Oj,Bw⟩:=Yy;obtain⟨J4,AT,Ek,Wz,jn,_,Rc⟩:=run_append_own_at (P:=c.P) w 0 T t e ii Gz r.size bytes hu Gf Cu hs P_ Oj Bw Bk xs.length Cy.flatten G8 ⟨b,0,none⟩ ys.length Dc dss.flatten Qd.len
    (fun j u hu=>by rw[ACm];have:=PB j u hu;simpa using this) Qd.one (by simp only[maxLen];omega) Aq (ABg _)
   have Qf:=C8.rO jn;have Hu:∀b∈J4.ownBlock.toList,b∈Bk.ownBlock.toList\/w.heap.size<=b:=by
    intro b Aq;rcases Rc with h|h
    · left;rw[<-h];exact Aq
    · right;rw[kG]at Aq;rw[h]at Aq;injection Aq with Aq;omega
   refine⟨J4,J4,AT,aW w _ _ Ek,f.put _ (EU Ao),?_,AR.KB (p':=row e J4 (xs++ys)) i Ag Qf Hu⟩;refine st.KB (p':=row e J4 (xs++ys)) i Ag Qf ?_ (tD J4) Hu;have Lc:∀b,Et L.J w b->Et (Own.J (L.set i (row e J4 (xs++ys)))) AT b:=fun b Ab=>⟨ACp Ab.1 Qf.size,fun Bf=>by
    rcases OK Ag b Bf with h|h
    · rcases Hu b h with h|h
      · exact Ab.2 (FW.2 ⟨_,AA' Ag,h⟩)
      · have:=Ab.1;omega
    · exact Ab.2 h⟩
   have jF:∀b,Et L.J w b->AT.heap[b]? =w.heap[b]? :=fun b Aq=>Qf.block b Aq.1 (fun Ab=>Aq.2 (FW.2 ⟨_,AA' Ag,Ab⟩));refine⟨Cy++dss,?_,(Ep.app Qd).DY Lc jF,by rw[ABP];exact R9⟩;rw[List.flatten_append,ABP];exact Wz
end
section
variable{c:Cj} {ops:Array Oper} {AP:Cj->Array Oper->List Oper->Env->Own->List Atom->Prop} [Dr:Ip AP] {env:Env} {L:Own} {D:List Atom} {rest:List Oper} {d:Nat} {t:TypeId} {p:String} {af:Array Edge} {x y:Operand} {Ec FK:TypeId}
include Dr
theorem oJ{α:Type}{r:Be α}(i:Nat){xs:List α}{Bk:Value}{E e:TypeId}(hu:c.P.underlying Ec=some (.slice E))(Ab:AL env x=some Bk)(Ag:L[i]? =some (@row α r e Bk xs))(Bf:AL env y=some (.slice none 0 0))(Ao:Nat.blt d c.n=true)
 (k:∀b:Bool,(b=true->xs=[])->AP c ops rest ((d,.bool b)::env) L D):AP c ops (⟨some d,.binOp .eql Ec x y FK,t,p,af,none⟩::rest) env L D:=by
 refine Dr.fact (q:=∃A Dc,Bk=.slice A xs.length Dc/\(A=none->xs=[])) (fun a w f st AR=>?_) ?_
 · obtain⟨Cy,G8,Ep,AN⟩:=st.own _ (AA' Ag);rcases G8.2 with⟨rfl,Ao⟩|⟨g,cap,cur,rfl,_⟩
   · exact⟨none,0,by rw[Ao],fun _=>ADo Ao⟩
   · exact⟨_,_,rfl,fun h=>by cases h⟩
 · rintro⟨A,Dc,rfl,h⟩;refine pu rfl rfl Ao (fun a w f=>?_) (k A.isNone fun Cl=>h (by simpa using Cl));simp[execOp,f.AL Ab,f.AL Bf,eqGuard,binOp,run_equal_slice_nil w Ec E A xs.length Dc hu]
end
end
end Go.A_
namespace Go.Apw
theorem x5(Bk:Value)(l:List AD)(hlen:l.length<=100000):Aw AG 31 [Bk] [] [⟨Bk,l⟩] (fun(_:Unit) _=>True) (fun _ v=>[@row AD GR 43 v l]) (fun _ _=>[]):=by
 refine Aw.proof Tryz.func31 G 8 G G fun X w=>AF 1 G<|Am<|Ae<|An G G<|RT 0 AB4 G G G G fun PM J'=>Ac<|BN G (fun BB=>?_) (fun BB=>?_)
 ·
  have Ab:l=[]:=J' BB;subst Ab;exact Lk AD 43<|AF 1 G<|BA<|Bq () G G trivial G Aa
 · exact AZ<|Ae<|NB OI G fun E'=>Nm (α:=AD) [] [] G G (fun _ _ _=>trivial) G<|An G G<|ap 0 0 G G G G OI (by simp only[ABo];omega) (by simp only[ABo];omega) G fun EZ=>U 1 G<|Ac<|rt<|Bq () G G trivial G Aa
theorem x8(Bk:Value)(l:List BX)(hlen:l.length<=100000):Aw AG 33 [Bk] [] [⟨Bk,l⟩] (fun(_:Unit) _=>True) (fun _ v=>[@row BX Ha 86 v l]) (fun _ _=>[]):=by
 refine Aw.proof Tryz.func33 G 8 G G fun X w=>AF 1 G<|Am<|Ae<|An G G<|RT 0 ACi G G G G fun PM J'=>Ac<|BN G (fun BB=>?_) (fun BB=>?_)
 ·
  have Ab:l=[]:=J' BB;subst Ab;exact Lk BX 86<|AF 1 G<|BA<|Bq () G G trivial G Aa
 · exact AZ<|Ae<|NB Mt G fun E'=>Nm (α:=BX) [] [] G G (fun _ _ _=>trivial) G<|An G G<|ap 0 0 G G G G Mt (by simp only[ABo];omega) (by simp only[ABo];omega) G fun EZ=>U 1 G<|Ac<|rt<|Bq () G G trivial G Aa
theorem x4(Bk:Value)(l:List AD)(hlen:l.length<=100000):Aw AG 31 [Bk] [@row AD GR 43 Bk l] [] (fun(_:Unit) _=>True) (fun _ v=>[@row AD GR 43 Bk l,@row AD GR 43 v l]) (fun _ _=>[]):=by
 refine Aw.proof Tryz.func31 G 8 G G fun X w=>AF 1 G<|Am<|Ae<|An G G<|oJ 0 AB4 G G G G fun PM J'=>Ac<|BN G (fun BB=>?_) (fun BB=>?_)
 ·
  have Ab:l=[]:=J' BB;subst Ab;exact Lk AD 43<|AF 1 G<|BA<|Au 1 G<|Bq () G G trivial G Aa
 · exact AZ<|Ae<|NB OI G fun E'=>Nm (α:=AD) [] [] G G (fun _ _ _=>trivial) G<|An G G<|nk 0 1 G G G G OI (by simp only[ABo];omega) (by simp only[ABo];omega) G fun EZ=>U 1 G<|Ac<|rt<|Au 1 G<|Bq () G G trivial G Aa
theorem x7(Bk:Value)(l:List BX)(hlen:l.length<=100000):Aw AG 33 [Bk] [@row BX Ha 86 Bk l] [] (fun(_:Unit) _=>True) (fun _ v=>[@row BX Ha 86 Bk l,@row BX Ha 86 v l]) (fun _ _=>[]):=by
 refine Aw.proof Tryz.func33 G 8 G G fun X w=>AF 1 G<|Am<|Ae<|An G G<|oJ 0 ACi G G G G fun PM J'=>Ac<|BN G (fun BB=>?_) (fun BB=>?_)
 ·
  have Ab:l=[]:=J' BB;subst Ab;exact Lk BX 86<|AF 1 G<|BA<|Au 1 G<|Bq () G G trivial G Aa
 · exact AZ<|Ae<|NB Mt G fun E'=>Nm (α:=BX) [] [] G G (fun _ _ _=>trivial) G<|An G G<|nk 0 1 G G G G Mt (by simp only[ABo];omega) (by simp only[ABo];omega) G fun EZ=>U 1 G<|Ac<|rt<|Au 1 G<|Bq () G G trivial G Aa
theorem tb{α:Type}[Inhabited α]{l:List α}{i:Nat}(h:i<l.length):l.set i (l.getD i default)=l:=by
 refine List.ext_getElem? fun k=>?_;rw[List.getElem?_set];split
 ·
  rename_i B4;subst B4;rw[ABs h,Go.A_.G3 h]
 · rfl
theorem yk(S:Bv)(El EV D_ EA Em Eh:Value)(_:S.wf)(Aq:∀a∈S.Aj,a.A0.length<=100000)(a4:S.Aj.length<=100000)(Qa:S.Bz.length<=100000)(PB:S.AA.length<=100000)(a5:S.Bj.length<=100000)(a6:S.CX.length<=100000)(Ys:S.Cf.length<=100000):Aw AG 15 [.agg (BY S El EV D_ EA Em Eh).toArray] [] [⟨El,S.Aj⟩,⟨EV,S.Bz⟩,⟨D_,S.AA⟩,⟨EA,S.Bj⟩,⟨Em,S.CX⟩,⟨Eh,S.Cf⟩] (fun(y:Value×Value×Value×Value×Value×Value) u=>u=.agg (BY S y.1 y.2.1 y.2.2.1 y.2.2.2.1 y.2.2.2.2.1 y.2.2.2.2.2).toArray) (fun y _=>[@row AD GR 43 y.1 S.Aj,@row BX Ha 86 y.2.2.1 S.AA]) (fun y _=>[⟨y.2.1,S.Bz⟩,⟨y.2.1,(⟨⟩:Kg)⟩,⟨y.2.2.2.1,S.Bj⟩,⟨y.2.2.2.2.1,S.CX⟩,⟨y.2.2.2.2.2,S.Cf⟩]):=by
 refine Aw.proof Tryz.func15 G 45 G G fun X w=>Ae<|CV G G G fun CY=>CT LQ G fun Dh=>Ac<|Ae<|AX 2 [1] G G<|Dm (x5 El S.Aj a4) (Ar G) G (Ad 0 G Aa) G fun _ EZ _=>U 1 G<|IL 2 0 G G G G (A2 G) (Da G)<|Ac<|Am<|Ae<|AX 2 [2] G G<|JX 0 G G AB4 G fun e'=>An G G<|Ac<|B5<|Hx (σ:=Nat) [(1,_),(2,_),(10,_),(11,_)] _ (fun i C=>(12,.int .i64 (i:Int))::C) (fun i=>[row 43 EZ S.Aj,AO Dh 33 IQ,AO CY 33 (BY S EZ EV D_ EA Em Eh),CL X w]) (fun _ Dw=>Dw) (fun i=>i<=S.Aj.length) (fun i=>S.Aj.length-i) 0 (Bs G) (Ad 0 G (Ad 1 G (Ad 2 G (Ad 3 G (Ad 4 G (Ad 5 G Aa)))))) (ABg _) (Bs G) G (Ad 0 G (Ad 1 G (Ad 2 G (Ad 3 G (Ad 4 G (Ad 5 G Aa)))))) ?_;intro i Ag;show CF _ _ _ [(12,.int .i64 ((i:Int))),(1,_),(2,_),(10,_),(11,_)] [row 43 EZ S.Aj,AO Dh 33 IQ,AO CY 33 (BY S EZ EV D_ EA Em Eh),CL X w] _;refine AF 1 G<|Am<|B9 G (fun Dp=>?_) (fun Dp=>?_)
 ·
  refine AZ<|Am<|B5<|Ae<|An G G<|IF 0 (i) G G G Gt AJv AJv G<|Qk (s:=Nn) 0 (i) G G JP (At G) G fun Ii PV=>CT Hd G fun En=>U 1 G<|Cp 1 G fun WU=>?_;refine BZ 0 (us:=(A3 ((S.Aj.getD (i) default)) Ii)) G G G (At G) (by simp only[ABn,ABr,ABp,WU];rfl) G<|Ac<|AuG [] [(1,[(6,.f0 (row 43 EZ (S.Aj.set (i) (S.Aj.getD (i) default))))])] [(4,Ff [] (fun A4=>some (.agg (A3 ((S.Aj.getD (i) default)) (A4 0)).toArray)) fun A4=>[⟨(A4 0),(S.Aj.getD (i) default).A0⟩]),(5,DF [1] ((JI EZ ((i)*10)))),(6,DF [1] undef)] [(1,3),(3,0)] [1,2,10,11,12] (fun _=>G) (fun _=>G) (fun Ai AV Az=>⟨fun _=>?_,fun _=>?_,fun _=>?_,trivial⟩) fun Ai _=>?_
  ·
   refine Dm (kE _ _ PV (Aq _ (Hl AJv))) (Ar G) G (Ad 1 G Aa) G fun da SB E1=>?_;subst E1;exact JO<|BU [da] [0] 1 G G
  · exact IF 0 (i) G G G Gt AJv AJv G<|BU [] [] 1 G G
  · exact Qz (s:=Nn) 0 (i) (ov:=(S.Aj.getD (i) default)) (Ai 4 0) G G G AJv (At G) (Ad 0 G Aa) PV<|BU [] [] 1 G G
  ·
   generalize Ai 4 0=da;refine CU<|A5<|rg<|C5 G G BV G<|An G G<|nl<|AQ ?_;rw[tb AJv];exact Dy (i+1) AJv AJv (Bs G) G (BE [3,4,5,6,7,8] G)
 ·
  obtain rfl:i=S.Aj.length:=AJv;refine ex<|Ck<|Ck<|D7<|A5<|Am<|AuG [[(5,.f1 5 fun BM=>[@row BX Ha 86 (BM 0) S.AA])]] [(3,[(16,.f1 2 fun BM=>[AO CY 33 (BY S EZ (BM 0) D_ EA Em Eh)]),(18,.f2 2 5 fun BM GL=>[AO CY 33 (BY S EZ (BM 0) (GL 0) EA Em Eh)]),(20,.f3 2 5 8 fun BM GL QU=>[AO CY 33 (BY S EZ (BM 0) (GL 0) (QU 0) Em Eh)]),(22,.f5 2 5 8 11 2 fun BM GL QU VY aq=>[AO CY 33 (BY S EZ (BM 0) (GL 0) (QU 0) (VY 0) Eh)]),(24,.f5 2 5 8 11 14 fun BM GL QU VY aq=>[AO CY 33 (BY S EZ (BM 0) (GL 0) (QU 0) (VY 0) (aq 0))])])] [(2,Ff [] (fun A4=>some ((A4 0))) fun A4=>[⟨(A4 0),S.Bz⟩,⟨(A4 0),(⟨⟩:Kg)⟩]),(5,Ol [0] fun A4=>some ((A4 0))),(8,Ff [] (fun A4=>some ((A4 0))) fun A4=>[⟨(A4 0),S.Bj⟩]),(11,Ff [] (fun A4=>some ((A4 0))) fun A4=>[⟨(A4 0),S.CX⟩]),(14,Ff [] (fun A4=>some ((A4 0))) fun A4=>[⟨(A4 0),S.Cf⟩]),(16,DF [3] undef),(18,DF [0,3] undef),(20,DF [3] undef),(22,DF [3] undef),(24,DF [3] undef)] [(1,3),(4,3),(7,3),(10,3),(13,3)] [1,2] (fun _=>G) (fun _=>G) (fun Ai AV Az=>⟨fun _=>?_,fun _=>?_,fun _=>?_,fun _=>?_,fun _=>?_,fun _=>?_,fun _=>?_,fun _=>?_,fun _=>?_,fun _=>?_,trivial⟩) fun Ai _=>?_
  · exact Dm (dM EV S.Bz Qa) (Ar G) G (Ad 1 G Aa) G fun _ Pf _=>o4<|BU [Pf] [0,1] 2 G G
  · exact Dm (x8 D_ S.AA PB) (Ar G) G (Ad 4 G Aa) G fun _ MR _=>BU [MR] [] 2 G G
  · exact Dm (hI EA S.Bj a5) (Ar G) G (Ad 5 G Aa) G fun _ OC _=>BU [OC] [0] 3 G G
  · exact Dm (hJ Em S.CX a6) (Ar G) G (Ad 7 G Aa) G fun _ Mo _=>BU [Mo] [0] 4 G G
  · exact Dm (MW.dN Eh S.Cf (ABB Ys AJx)) (Ar G) G (Ad 9 G Aa) G fun _ PT _=>BU [PT] [0] 5 G G
  · exact J2 0 0 G G G G (A2 G) (Da G)<|BU [] [] 5 G G
  · exact IL 1 0 G G G G (A2 G) (Da G)<|BU [] [] 5 G G
  · exact J2 0 2 G G G G (A2 G) (Da G)<|BU [] [] 5 G G
  · exact J2 0 3 G G G G (A2 G) (Da G)<|BU [] [] 5 G G
  · exact J2 0 4 G G G G (A2 G) (Da G)<|BU [] [] 5 G G
  ·
   generalize Ai 2 0=Pf,Ai 5 0=Mp,Ai 8 0=OC,Ai 11 0=Mo,Ai 14 0=PT;refine A5<|Ae<|BJ 3 (BY S EZ Pf Mp OC Mo PT) G G (At G) G G<|GZ 1 G fun kq=>?_;refine Cp 0 G fun km=>?_;refine GZ 0 G fun WV=>?_;refine Cp 2 G fun kn=>?_;refine Cp 3 G fun ko=>?_;refine Cp 4 G fun kp=>?_;exact BZ 2 (us:=(BY S EZ Pf Mp OC Mo PT)) G G G (At G) (by simp only[ABn,ABr,ABp,kq,km,WV,kn,ko,kp];rfl) G<|Ac<|rt<|Au 1 G<|Au 3 G<|Au 3 G<|D8 ⟨EZ,Pf,Mp,OC,Mo,PT⟩ [_,_] (Qv 0 G G G (At G)) AJy G (Ad 0 G (Ad 1 G (Ad 2 G (Ad 3 G (Ad 4 G Aa)))))
theorem yl(S:Bv)(El EV D_ EA Em Eh:Value)(_:S.wf)(Aq:∀a∈S.Aj,a.A0.length<=100000)(a4:S.Aj.length<=100000)(Qa:S.Bz.length<=100000)(PB:S.AA.length<=100000)(a5:S.Bj.length<=100000)(a6:S.CX.length<=100000)(Ys:S.Cf.length<=100000):Aw AG 15 [.agg (BY S El EV D_ EA Em Eh).toArray] [@row AD GR 43 El S.Aj,@row BX Ha 86 D_ S.AA] [⟨EV,S.Bz⟩,⟨EA,S.Bj⟩,⟨Em,S.CX⟩,⟨Eh,S.Cf⟩] (fun(y:Value×Value×Value×Value×Value×Value) u=>u=.agg (BY S y.1 y.2.1 y.2.2.1 y.2.2.2.1 y.2.2.2.2.1 y.2.2.2.2.2).toArray) (fun y _=>[@row AD GR 43 El S.Aj,@row BX Ha 86 D_ S.AA,@row AD GR 43 y.1 S.Aj,@row BX Ha 86 y.2.2.1 S.AA]) (fun y _=>[⟨y.2.1,S.Bz⟩,⟨y.2.1,(⟨⟩:Kg)⟩,⟨y.2.2.2.1,S.Bj⟩,⟨y.2.2.2.2.1,S.CX⟩,⟨y.2.2.2.2.2,S.Cf⟩]):=by
 refine Aw.proof Tryz.func15 G 45 G G fun X w=>Ae<|CV G G G fun CY=>CT LQ G fun Dh=>Ac<|Ae<|AX 2 [1] G G<|D9 2 G<|Hs 1 (x4 El S.Aj a4) (Ar G) G G Aa G fun _ EZ _=>U 1 G<|IL 3 1 G G G G (A2 G) (Da G)<|Ac<|Am<|Ae<|AX 2 [3] G G<|JX 1 G G AB4 G fun e'=>An G G<|Ac<|B5<|Hx (σ:=Nat) [(1,_),(2,_),(10,_),(11,_)] _ (fun i C=>(12,.int .i64 (i:Int))::C) (fun i=>[row 43 El S.Aj,row 43 EZ S.Aj,AO Dh 33 IQ,AO CY 33 (BY S EZ EV D_ EA Em Eh),row 86 D_ S.AA,CL X w]) (fun _ Dw=>Dw) (fun i=>i<=S.Aj.length) (fun i=>S.Aj.length-i) 0 (Bs G) (Ad 0 G (Ad 1 G (Ad 2 G (Ad 3 G Aa)))) (ABg _) (Bs G) G (Ad 0 G (Ad 1 G (Ad 2 G (Ad 3 G Aa)))) ?_;intro i Ag;show CF _ _ _ [(12,.int .i64 ((i:Int))),(1,_),(2,_),(10,_),(11,_)] [row 43 El S.Aj,row 43 EZ S.Aj,AO Dh 33 IQ,AO CY 33 (BY S EZ EV D_ EA Em Eh),row 86 D_ S.AA,CL X w] _;refine AF 1 G<|Am<|B9 G (fun Dp=>?_) (fun Dp=>?_)
 ·
  refine AZ<|Am<|B5<|Ae<|An G G<|IF 1 (i) G G G Gt AJv AJv G<|Qk (s:=Nn) 1 (i) G G JP (At G) G fun Ii PV=>CT Hd G fun En=>U 1 G<|Cp 1 G fun WU=>?_;refine BZ 0 (us:=(A3 ((S.Aj.getD (i) default)) Ii)) G G G (At G) (by simp only[ABn,ABr,ABp,WU];rfl) G<|Ac<|AuG [] [(2,[(6,.f0 (row 43 EZ (S.Aj.set (i) (S.Aj.getD (i) default))))])] [(4,Ff [] (fun A4=>some (.agg (A3 ((S.Aj.getD (i) default)) (A4 0)).toArray)) fun A4=>[⟨(A4 0),(S.Aj.getD (i) default).A0⟩]),(5,DF [2] ((JI EZ ((i)*10)))),(6,DF [2] undef)] [(1,4),(3,0)] [1,2,10,11,12] (fun _=>G) (fun _=>G) (fun Ai AV Az=>⟨fun _=>?_,fun _=>?_,fun _=>?_,trivial⟩) fun Ai _=>?_
  ·
   refine Dm (kE _ _ PV (Aq _ (Hl AJv))) (Ar G) G (Ad 1 G Aa) G fun da SB E1=>?_;subst E1;exact JO<|BU [da] [0] 1 G G
  · exact IF 0 (i) G G G Gt AJv AJv G<|BU [] [] 1 G G
  · exact Qz (s:=Nn) 0 (i) (ov:=(S.Aj.getD (i) default)) (Ai 4 0) G G G AJv (At G) (Ad 0 G Aa) PV<|BU [] [] 1 G G
  ·
   generalize Ai 4 0=da;refine CU<|A5<|rg<|C5 G G BV G<|An G G<|nl<|AQ ?_;rw[tb AJv];exact Dy (i+1) AJv AJv (Bs G) G (BE [3,4,5,6] G)
 ·
  obtain rfl:i=S.Aj.length:=AJv;refine ex<|Ck<|Ck<|D7<|A5<|Am<|AuG [[(5,.f1 5 fun BM=>[@row BX Ha 86 (BM 0) S.AA])]] [(4,[(16,.f1 2 fun BM=>[AO CY 33 (BY S EZ (BM 0) D_ EA Em Eh)]),(18,.f2 2 5 fun BM GL=>[AO CY 33 (BY S EZ (BM 0) (GL 0) EA Em Eh)]),(20,.f3 2 5 8 fun BM GL QU=>[AO CY 33 (BY S EZ (BM 0) (GL 0) (QU 0) Em Eh)]),(22,.f5 2 5 8 11 2 fun BM GL QU VY aq=>[AO CY 33 (BY S EZ (BM 0) (GL 0) (QU 0) (VY 0) Eh)]),(24,.f5 2 5 8 11 14 fun BM GL QU VY aq=>[AO CY 33 (BY S EZ (BM 0) (GL 0) (QU 0) (VY 0) (aq 0))])])] [(2,Ff [] (fun A4=>some ((A4 0))) fun A4=>[⟨(A4 0),S.Bz⟩,⟨(A4 0),(⟨⟩:Kg)⟩]),(5,Ol [0,5] fun A4=>some ((A4 0))),(8,Ff [] (fun A4=>some ((A4 0))) fun A4=>[⟨(A4 0),S.Bj⟩]),(11,Ff [] (fun A4=>some ((A4 0))) fun A4=>[⟨(A4 0),S.CX⟩]),(14,Ff [] (fun A4=>some ((A4 0))) fun A4=>[⟨(A4 0),S.Cf⟩]),(16,DF [4] undef),(18,DF [0,4] undef),(20,DF [4] undef),(22,DF [4] undef),(24,DF [4] undef)] [(1,4),(4,4),(7,4),(10,4),(13,4)] [1,2] (fun _=>G) (fun _=>G) (fun Ai AV Az=>⟨fun _=>?_,fun _=>?_,fun _=>?_,fun _=>?_,fun _=>?_,fun _=>?_,fun _=>?_,fun _=>?_,fun _=>?_,fun _=>?_,trivial⟩) fun Ai _=>?_
  · exact Dm (dM EV S.Bz Qa) (Ar G) G (Ad 0 G Aa) G fun _ Pf _=>o4<|BU [Pf] [0,1] 2 G G
  · exact Hs 1 (x7 D_ S.AA PB) (Ar G) G G Aa G fun _ MR _=>D9 1 G<|BU [MR] [] 2 G G
  · exact Dm (hI EA S.Bj a5) (Ar G) G (Ad 3 G Aa) G fun _ OC _=>BU [OC] [0] 3 G G
  · exact Dm (hJ Em S.CX a6) (Ar G) G (Ad 5 G Aa) G fun _ Mo _=>BU [Mo] [0] 4 G G
  · exact Dm (MW.dN Eh S.Cf (ABB Ys AJx)) (Ar G) G (Ad 7 G Aa) G fun _ PT _=>BU [PT] [0] 5 G G
  · exact J2 0 0 G G G G (A2 G) (Da G)<|BU [] [] 5 G G
  · exact IL 1 0 G G G G (A2 G) (Da G)<|BU [] [] 5 G G
  · exact J2 0 2 G G G G (A2 G) (Da G)<|BU [] [] 5 G G
  · exact J2 0 3 G G G G (A2 G) (Da G)<|BU [] [] 5 G G
  · exact J2 0 4 G G G G (A2 G) (Da G)<|BU [] [] 5 G G
  ·
   generalize Ai 2 0=Pf,Ai 5 0=Mp,Ai 8 0=OC,Ai 11 0=Mo,Ai 14 0=PT;refine A5<|Ae<|BJ 4 (BY S EZ Pf Mp OC Mo PT) G G (At G) G G<|GZ 2 G fun kq=>?_;refine Cp 0 G fun km=>?_;refine GZ 0 G fun WV=>?_;refine Cp 2 G fun kn=>?_;refine Cp 3 G fun ko=>?_;refine Cp 4 G fun kp=>?_;exact BZ 3 (us:=(BY S EZ Pf Mp OC Mo PT)) G G G (At G) (by simp only[ABn,ABr,ABp,kq,km,WV,kn,ko,kp];rfl) G<|Ac<|rt<|Au 2 G<|Au 5 G<|Au 3 G<|Au 5 G<|Au 5 G<|D8 ⟨EZ,Pf,Mp,OC,Mo,PT⟩ [_,_] (Qv 0 G G G (At G)) AJy G (Ad 0 G (Ad 1 G (Ad 2 G (Ad 3 G (Ad 4 G Aa)))))
theorem AeA{S:Nat->Prop}{w:World}:Atom.holds (@Atom.mk Kg Vg AI ⟨⟩) S w:=⟨rfl,none,0,0,rfl,fun _ _ _ e=>by cases e⟩
theorem Alh(CP:Value)(l:List BL)(m:BL)(UX:m.wf)(hlen:l.length<=99999):Aw AG 148 [CP,.agg (H9 m).toArray] [] [⟨CP,l⟩] (fun(_:Unit) _=>True) (fun _ _=>[]) (fun _ v=>[⟨v,LP l m⟩,⟨v,(⟨⟩:Kg)⟩]):=by
 refine Aw.proof Tryz.func148 G 28 G G fun X w=>Ae<|CV G G G fun DQ=>U 1 G<|Ac<|Ae<|An G G<|Dm (dM _ _ AJv) (Ar G) G (Ad 0 G Aa) G fun _ Nr _=>U 1 G<|Ac<|Ae<|AX 3 [1] G G<|P6 [⟨Nr,l⟩] (lV Nr l m.Ap AJv) (Ar G) G (DU.row 0 G DU.nil) (Ad 0 G Aa) G<|U 5 G<|Ac<|Am<|Ae<|An G G<|Ac<|BN G (fun DA=>?_) (fun DA=>?_)
 ·
  have C_:(Cz (fun x:BL=>x.Ap) Go.Apw.AGl m.Ap l)<l.length:=YD (by rw[DA];decide);have Ab:LP l m=l.set (Cz (fun x:BL=>x.Ap) Go.Apw.AGl m.Ap l) m:=(by rw[LP,FQ,AA_ DA]);exact Ae<|U 2 G<|BJ 1 (H9 m) G G (At G) G G<|IF 0 ((Cz (fun x:BL=>x.Ap) Go.Apw.AGl m.Ap l)) G G G J1 AJv AJv G<|Qz (s:=cy) 0 ((Cz (fun x:BL=>x.Ap) Go.Apw.AGl m.Ap l)) (ov:=m) () G G G AJv (At G) Aa UX<|Ac<|Am<|zX<|FA 2 G<|A5<|BA<|AQ<|Bq () G G trivial G (by rw[Ab];exact(Bg.cons 0 rfl (Bg.cons 1 rfl Bg.nil)))
 ·
  have Ab:LP l m=FO (Cz (fun x:BL=>x.Ap) Go.Apw.AGl m.Ap l) m l:=(by rw[LP,FQ,AA9 (by rw[DA];decide)]);exact AZ<|Ae<|U 2 G<|BJ 1 (H9 m) G G (At G) G G<|Lw G QN G G G G fun dB=>D9 1 G<|Hs 2 (qq Nr l (Cz (fun x:BL=>x.Ap) Go.Apw.AGl m.Ap l) dB m (St _ _) UX AJv) (Ar G) G G Aa G fun _ N4 _=>U 1 G<|Ac<|rt<|zY<|AQ<|Bq () G G trivial G (by rw[Ab];exact(Bg.cons 0 rfl (Bg.cons 1 rfl Bg.nil)))
theorem Ad1(CP:Value)(l:List BL)(c q:Int)(Z:List BL×Int)(AW:G' l c q=Z)(BK:A' c)(Ed:A' q)(Tu:A' (q-1)):Aw AG 95 [CP,.int .i64 c,.int .i64 q] [] [⟨CP,l⟩] (fun(y:Value) u=>u=.tuple #[y,.int .i64 Z.2]) (fun _ _=>[]) (fun y _=>[⟨y,Z.1⟩,⟨y,(⟨⟩:Kg)⟩]):=by
 refine Aw.proof Tryz.func95 G 23 G G fun X w=>?_;obtain⟨K9,K_⟩:=id BK;obtain⟨LD,LF⟩:=id Ed;refine DJ (α:=BL) ?_;refine m9 (@Atom.mk Kg Vg AI ⟨⟩) (fun S w h=>AeA) ?_;refine AF 2 G<|Am<|Ae<|U 3 G<|B0 (kB _ _ c q) (Ar G) G (Ad 2 G Aa) G<|U 1 G<|Ac<|AF 2 G<|Fa G (fun Fm=>?_) (fun Fm=>?_)
 ·
  have MI:¬KQ l c q=0:=(by first|exact Fm|exact BS.1 Fm|exact(fun q=>BS.2 q Fm)|exact(fun q=>ABd (Fm.symm.trans q))|simpa using Fm)
  have AB:(([],KQ l c q):List BL×Int)=Z:=(by rw[<-AW,G',AA_ MI]);subst AB;exact AF 3 G<|BA<|Fl AI G G G G G (Ad 1 G (Ad 0 G Aa))
 ·
  have MI:¬(¬KQ l c q=0):=(by first|exact Fm|exact BS.1 Fm|exact(fun q=>BS.2 q Fm)|exact(fun q=>ABd (Fm.symm.trans q))|simpa using Fm)
  have AB:((LP l {Ap:=c,As:=q-1,HV:=false,Cm:=⟨80,0,0,0⟩},0):List BL×Int)=Z:=(by rw[<-AW,G',AA9 MI]);subst AB;have OY:Fg l=true:=kC (by simpa using MI);exact AZ<|Ae<|U 3 G<|TU G G Tu G<|Db (ps:=[(0,.const (.int .i64 80))]) (cs:=(GM ((⟨80,0,0,0⟩:De)))) AJy AJw G<|Db (ps:=[(0,.tmp 17),(1,.tmp 19),(3,.tmp 20)]) (cs:=(H9 ((⟨c,(q-1),false,(⟨80,0,0,0⟩:De)⟩:BL)))) AJy AJw G<|Dm (Alh _ _ {Ap:=c,As:=q-1,HV:=false,Cm:=⟨80,0,0,0⟩} ⟨BK,Tu,trivial,oy⟩ (ABB (TE OY) AJx)) (Ar G) G (Ad 2 G Aa) G fun _ RB _=>U 2 G<|Ac<|rt<|Fl RB G G G G G (Ad 0 G (Ad 1 G Aa))
theorem oR{α β:Type}[Inhabited α]{f:α->β}{p:β->Bool}{l:List α}{i:Nat}(h:i<l.length):((l.take (i+1)).map f).filter p=((l.take i).map f).filter p++[f (l.getD i default)].filter p:=by
 rw[gl h,List.map_append,List.filter_append];rfl
theorem wW{S:Bv}{I2 I3:ByteArray}{i:Nat}(h:i<S.Aj.length)(AH:(within I2 I3 (S.Aj.getD i default).Al&& !FT ({(S.Aj.getD i default)with Cn:=0}:AD))=true):(((S.Aj.take (i+1)).map (fun a:AD=>({a with Cn:=0}:AD))).filter (fun a:AD=>within I2 I3 a.Al&& !FT a))=(((S.Aj.take i).map (fun a:AD=>({a with Cn:=0}:AD))).filter (fun a:AD=>within I2 I3 a.Al&& !FT a))++[({(S.Aj.getD i default)with Cn:=0}:AD)]:=by
 rw[oR h,AJH,AA_ AH];rfl
theorem wV{S:Bv}{I2 I3:ByteArray}{i:Nat}(h:i<S.Aj.length)(AH:(within I2 I3 (S.Aj.getD i default).Al&& !FT ({(S.Aj.getD i default)with Cn:=0}:AD))=false):(((S.Aj.take (i+1)).map (fun a:AD=>({a with Cn:=0}:AD))).filter (fun a:AD=>within I2 I3 a.Al&& !FT a))=(((S.Aj.take i).map (fun a:AD=>({a with Cn:=0}:AD))).filter (fun a:AD=>within I2 I3 a.Al&& !FT a)):=by
 rw[oR h,AJH,AA9 (by rw[AH];decide),List.filter_nil,AB7]
theorem xu{m:List BL}{e:List Df}{u v:Value}(Af:u.oneCell'=true)(h2:v.oneCell'=true):Tryz.prog.built 33 ([7,10].zip [u,v])=some (BY ({IP with Bz:=m,CX:=e}:Bv) AI u AI AI v AI).toArray:=by
 cases u with
 |agg=>exact absurd Af (by simp[Value.oneCell'])
 |_=>cases v with
  |agg=>exact absurd h2 (by simp[Value.oneCell'])
  |_=>kernel_rfl
theorem Ahh(S:Bv)(El EV D_ EA Em Eh:Value)(I2 I3:ByteArray)(BO:Ce S)(JV:S.wf)(Aq:∀a∈S.Aj,a.A0.length<=100000)(a4:S.Aj.length<=100000)(Qa:S.Bz.length<=100000)(PB:S.AA.length<=100000)(a5:S.Bj.length<=100000)(a6:S.CX.length<=100000)(Ys:S.Cf.length<=100000):Aw AG 112 [.agg (BY S El EV D_ EA Em Eh).toArray,.string I2,.string I3] [@row AD GR 43 El S.Aj,@row BX Ha 86 D_ S.AA] [⟨EV,S.Bz⟩,⟨EA,S.Bj⟩,⟨Em,S.CX⟩,⟨Eh,S.Cf⟩] (fun(y:Value×Value×Value×Value×Value×Value) u=>u=.agg (BY (Gl S I2 I3) y.1 y.2.1 y.2.2.1 y.2.2.2.1 y.2.2.2.2.1 y.2.2.2.2.2).toArray) (fun _ _=>[@row AD GR 43 El S.Aj,@row BX Ha 86 D_ S.AA]) (fun y _=>[⟨y.2.1,(⟨⟩:Kg)⟩,⟨y.1,(Gl S I2 I3).Aj⟩,⟨y.2.1,(Gl S I2 I3).Bz⟩,⟨y.2.2.1,(Gl S I2 I3).AA⟩,⟨y.2.2.2.1,(Gl S I2 I3).Bj⟩,⟨y.2.2.2.2.1,(Gl S I2 I3).CX⟩,⟨y.2.2.2.2.2,(Gl S I2 I3).Cf⟩]):=by
 refine Aw.proof Tryz.func112 G 69 G G fun X w=>DJ (α:=BX) ?_;refine DJ (α:=Bx) ?_;refine DJ (α:=UInt8) ?_;refine Ae<|CV G G G fun DQ=>CT LQ G fun Hg=>Ac<|Ae<|BJ 1 (BY S El EV D_ EA Em Eh) G G (At G) G G<|D9 3 G<|D9 3 G<|Hs 2 (yl S El EV D_ EA Em Eh JV Aq a4 Qa PB a5 a6 Ys) (Ar G) G G (BE [3,4,5,6] G) G fun P0 Xk Ft=>?_;obtain⟨KX,J5,Kd,Ke,IN,Ls⟩:=P0;subst Ft;refine GZ 2 G fun bM=>?_;refine Cp 0 G fun WW=>?_;refine GZ 3 G fun bP=>?_;refine Cp 2 G fun bQ=>?_;refine Cp 3 G fun TH=>?_;refine Cp 4 G fun bS=>?_;refine BZ 5 (us:=(BY S KX J5 Kd Ke IN Ls)) G G G (At G) (by simp only[ABn,ABr,ABp,bM,WW,bP,bQ,TH,bS];rfl) G<|Ac<|Ae<|AX 4 [5,5] G G<|GO (q:=Value.oneCell' J5=true) (fun S w h=>Fh (h _ (AA' (i:=0) G))) fun Ie=>GO (q:=Value.oneCell' IN=true) (fun S w h=>Fh (h _ (AA' (i:=3) G))) fun J0=>Db (ps:=[(7,.tmp 17),(10,.tmp 19)]) (cs:=(BY ((⟨0,0,false,ByteArray.empty,ByteArray.empty,0,[],S.Bz,[],[],S.CX,Gs,Gs,[],0,0,0⟩:Bv)) AI J5 AI AI IN AI)) AJy (xu Ie J0) G<|CT LQ G fun Jo=>Cp 0 G fun WW=>?_;refine Cp 3 G fun TH=>?_;refine BZ 0 (us:=(BY (({IP with Bz:=S.Bz,CX:=S.CX}:Bv)) AI J5 AI AI IN AI)) G G G (At G) (by simp only[ABn,ABr,ABp,WW,TH];rfl) G<|Ac<|Am<|Am<|Lk AD 43<|rg<|AX 2 [7] G G<|JX 4 G G AB4 G fun qV=>An G G<|Ac<|B5<|Hx (σ:=Nat×Value) [(1,_),(2,_),(3,_),(6,_),(7,_),(22,_),(23,_)] _ (fun s C=>(24,.int .i64 (s.1:Int))::C) (fun s=>[@row AD GR 43 s.2 (((S.Aj.take s.1).map (fun a:AD=>({a with Cn:=0}:AD))).filter (fun a:AD=>within I2 I3 a.Al&& !FT a)),AO Jo 33 (BY IP s.2 J5 AI AI IN AI),row 43 El S.Aj,row 86 D_ S.AA,row 43 KX S.Aj,row 86 Kd S.AA,AO Hg 33 IQ,AO DQ 33 (BY S KX J5 Kd Ke IN Ls),CL X w]) (fun _ Dw=>Dw) (fun s=>s.1<=S.Aj.length) (fun s=>S.Aj.length-s.1) (0,AI) (Bs G) (Ad 0 G (Ad 1 G (Ad 2 G (Ad 3 G (Ad 4 G (Ad 5 G (Ad 6 G (Ad 7 G (Ad 8 G (Ad 9 G (Ad 10 G (Ad 11 G Aa)))))))))))) (ABg _) (Bs G) G (Ad 0 G (Ad 1 G (Ad 2 G (Ad 3 G (Ad 4 G (Ad 5 G (Ad 6 G (Ad 7 G (Ad 8 G (Ad 9 G (Ad 10 G (Ad 11 G Aa)))))))))))) ?_;rintro⟨i,Fv⟩ Ag;simp only at Ag;show CF _ _ _ [(24,.int .i64 ((i:Int))),(1,_),(2,_),(3,_),(6,_),(7,_),(22,_),(23,_)] [@row AD GR 43 Fv (((S.Aj.take i).map (fun a:AD=>({a with Cn:=0}:AD))).filter (fun a:AD=>within I2 I3 a.Al&& !FT a)),AO Jo 33 (BY IP Fv J5 AI AI IN AI),row 43 El S.Aj,row 86 D_ S.AA,row 43 KX S.Aj,row 86 Kd S.AA,AO Hg 33 IQ,AO DQ 33 (BY S KX J5 Kd Ke IN Ls),CL X w] _;refine AF 1 G<|Am<|B9 G (fun Gr=>?_) (fun Gr=>?_)
 ·
  refine AZ<|Am<|B5<|Ae<|IF 4 (i) G G G Gt AJv AJv G<|Qk (s:=Nn) 4 (i) G G JP (At G) G fun NX PX=>CT Hd G fun H7=>Cp 1 G fun Ae0=>?_;refine BZ 0 (us:=(A3 ((S.Aj.getD (i) default)) NX)) G G G (At G) (by simp only[ABn,ABr,ABp,Ae0];rfl) G<|Ac<|Ae<|U 1 G<|Fi 0 G G G (A2 G) G (Da G)<|Ac<|Ae<|U 3 G<|AX 1 [0] G G<|B0 (Xx _ _ _) (Ar G) G Aa G<|An G G<|D4 34 4 [1,2,3,6,7,9,22,23,24] G G (fun FN g2=>Bl G G G<|BJ 0 (A3 (({(S.Aj.getD i default)with Cn:=0}:AD)) NX) G G (At G) G G<|Bl G G G<|B0 (dz (({(S.Aj.getD i default)with Cn:=0}:AD)) _ (⟨PX.1,PX.2.1,PX.2.2.1,DW,PX.2.2.2.2⟩)) (Ar G) G (Ad 1 G Aa) G<|U 2 G<|g2 G Br)<|Ac<|BN G (fun NK=>?_) (fun NK=>?_)
  ·
   refine rg<|AX 2 [2] G G<|BJ 0 (A3 (({(S.Aj.getD i default)with Cn:=0}:AD)) NX) G G (At G) G G<|Lw G OI G G G G fun Amj=>?_;refine KJ (α:=AD) ({(S.Aj.getD i default)with Cn:=0}:AD) (fun S w h=>⟨NX,G,fun t Av=>by
     simp only[ABf,ABh,ABi]at Av;subst Av
     · exact h _ (AA' (i:=1) G),⟨PX.1,PX.2.1,PX.2.2.1,DW,PX.2.2.2.2⟩⟩) ?_
   have Ani:(((S.Aj.take i).map (fun a:AD=>({a with Cn:=0}:AD))).filter (fun a:AD=>within I2 I3 a.Al&& !FT a)).length<=S.Aj.length:=ABB (List.length_filter_le ..) (by rw[List.length_map,ABz];omega);refine ap 1 0 G G G G OI (by simp only[ABv,ABo];omega) (by simp only[ABv,ABo];omega) G fun cS=>U 1 G<|IL 2 1 G G G G (A2 G) (Da G)<|nl<|CU<|A5<|rg<|C5 G G BV G<|An G G<|nl<|AQ ?_;rw[show(((S.Aj.take i).map (fun a:AD=>({a with Cn:=0}:AD))).filter (fun a:AD=>within I2 I3 a.Al&& !FT a))++[({(S.Aj.getD i default)with Cn:=0}:AD)]=(((S.Aj.take (i+1)).map (fun a:AD=>({a with Cn:=0}:AD))).filter (fun a:AD=>within I2 I3 a.Al&& !FT a))from(wW AJv NK).symm];exact Dy ((i+1,cS):Nat×Value) (by show i+1<=_;omega) (by show S.Aj.length-(i+1)<S.Aj.length-i;omega) (Bs G) G (BE [3,4,5,6,7,8,9,10,11,12,13,14] G)
  ·
   refine EG<|CU<|A5<|rg<|C5 G G BV G<|An G G<|nl<|AQ ?_;rw[show(((S.Aj.take i).map (fun a:AD=>({a with Cn:=0}:AD))).filter (fun a:AD=>within I2 I3 a.Al&& !FT a))=(((S.Aj.take (i+1)).map (fun a:AD=>({a with Cn:=0}:AD))).filter (fun a:AD=>within I2 I3 a.Al&& !FT a))from(wV AJv NK).symm];exact Dy ((i+1,Fv):Nat×Value) (by show i+1<=_;omega) (by show S.Aj.length-(i+1)<S.Aj.length-i;omega) (Bs G) G (BE [2,3,4,5,6,7,8,9,10,11,12,13] G)
 ·
  obtain rfl:i=S.Aj.length:=AJv;rw[ACB];refine ex<|Ck<|Ck<|D7<|A5<|Am<|Ae<|AX 2 [7] G G<|C2 0 G G ACa G fun Adj=>An G G<|Ac<|B5<|Hx (σ:=Nat×Value) [(6,_),(7,_),(47,_),(48,_)] _ (fun s C=>(49,.int .i64 (s.1:Int))::C) (fun s=>[row 43 Fv ((S.Aj.map (fun a:AD=>({a with Cn:=0}:AD))).filter (fun a:AD=>within I2 I3 a.Al&& !FT a)),AO Jo 33 (BY IP Fv s.2 AI AI IN AI),row 43 El S.Aj,row 86 D_ S.AA,row 43 KX S.Aj,row 86 Kd S.AA,AO Hg 33 IQ,AO DQ 33 (BY S KX J5 Kd Ke IN Ls),CL X w]) (fun s Dw=>(⟨s.2,((S.Bz.take s.1).foldl (fun(l:List BL) (m:BL)=>if(G' l m.Ap m.As).2=0 then(G' l m.Ap m.As).1 else l) S.Bz)⟩:Atom)::(⟨s.2,(⟨⟩:Kg)⟩:Atom)::Dw) (fun s=>s.1<=S.Bz.length) (fun s=>S.Bz.length-s.1) (0,J5) (Bs G) (Ad 0 G (Ad 1 G (Ad 2 G (Ad 3 G (Ad 4 G (Ad 5 G (Ad 6 G (Ad 7 G (Ad 8 G (Ad 9 G (Ad 10 G (Ad 11 G Aa)))))))))))) (ABg _) (Bs G) G (Ad 0 G (Ad 1 G (Ad 0 G (Ad 1 G (Ad 2 G (Ad 3 G (Ad 4 G (Ad 5 G (Ad 6 G (Ad 7 G (Ad 8 G (Ad 9 G (Ad 10 G (Ad 11 G Aa)))))))))))))) ?_;rintro⟨i,bI⟩ Ag;simp only at Ag;show CF _ _ _ [(49,.int .i64 ((i:Int))),(6,_),(7,_),(47,_),(48,_)] [row 43 Fv ((S.Aj.map (fun a:AD=>({a with Cn:=0}:AD))).filter (fun a:AD=>within I2 I3 a.Al&& !FT a)),AO Jo 33 (BY IP Fv bI AI AI IN AI),row 43 El S.Aj,row 86 D_ S.AA,row 43 KX S.Aj,row 86 Kd S.AA,AO Hg 33 IQ,AO DQ 33 (BY S KX J5 Kd Ke IN Ls),CL X w] _;refine AF 1 G<|Am<|B9 G (fun Ra=>?_) (fun Ra=>?_)
  ·
   refine AZ<|Am<|B5<|Ae<|Fo 2 G G G J1 G fun Xn=>Gi 0 G G (At G) G fun Aoq mw=>CT SN G fun XT=>BZ 0 (us:=(H9 ((S.Bz.getD i default)))) G G G (At G) G G<|Ac<|Ae<|AX 6 [2,0,0] G G ?_;have pQ:=(Rl.1 BO.marks).1 (S.Bz.getD i default) (Hl AJv);have Tu:A' ((S.Bz.getD i default).As-1):=by
    obtain⟨DP,EK⟩:A' (S.Bz.getD i default).As:=mw.2.1;have:=pQ.2.L3;exact⟨AJv,AJv⟩
   refine Dm (Ad1 _ _ (S.Bz.getD i default).Ap (S.Bz.getD i default).As (G' ((S.Bz.take i).foldl (fun(l:List BL) (m:BL)=>if(G' l m.Ap m.As).2=0 then(G' l m.Ap m.As).1 else l) S.Bz) (S.Bz.getD i default).Ap (S.Bz.getD i default).As) G mw.1 mw.2.1 Tu) (Ar G) G (Ad 2 G Aa) G fun HS uh Tg=>?_;subst Tg;refine U 5 G<|Ac<|AF 2 G<|B9 G (fun iL=>?_) (fun iL=>?_)
   ·
    refine rg<|U 2 G<|J2 2 0 G G G G (A2 G) (Da G)<|nl<|CU<|A5<|rg<|C5 G G BV G<|An G G<|nl<|AQ ?_;have hm:(G' ((S.Bz.take i).foldl (fun(l:List BL) (m:BL)=>if(G' l m.Ap m.As).2=0 then(G' l m.Ap m.As).1 else l) S.Bz) (S.Bz.getD i default).Ap (S.Bz.getD i default).As).1=((S.Bz.take (i+1)).foldl (fun(l:List BL) (m:BL)=>if(G' l m.Ap m.As).2=0 then(G' l m.Ap m.As).1 else l) S.Bz):=(by rw[NH AJv];exact(AA_ iL).symm);rw[hm];exact Dy ((i+1,HS):Nat×Value) (by show i+1<=_;omega) (by show S.Bz.length-(i+1)<S.Bz.length-i;omega) (Bs G) G (BE [0,1,6,7,8,9,10,11,12,13,14,15,16,17] G)
   ·
    refine EG<|CU<|A5<|rg<|C5 G G BV G<|An G G<|nl<|AQ ?_;have hm:((S.Bz.take i).foldl (fun(l:List BL) (m:BL)=>if(G' l m.Ap m.As).2=0 then(G' l m.Ap m.As).1 else l) S.Bz)=((S.Bz.take (i+1)).foldl (fun(l:List BL) (m:BL)=>if(G' l m.Ap m.As).2=0 then(G' l m.Ap m.As).1 else l) S.Bz):=(by rw[NH AJv];exact(AA9 iL).symm);rw[hm];exact Dy ((i+1,bI):Nat×Value) (by show i+1<=_;omega) (by show S.Bz.length-(i+1)<S.Bz.length-i;omega) (Bs G) G (BE [4,5,6,7,8,9,10,11,12,13,14,15,16,17] G)
  ·
   obtain rfl:i=S.Bz.length:=AJv;rw[ACB];refine ex<|Ck<|Ck<|D7<|A5<|Am<|RY<|rg<|BJ 0 (BY (Gl S I2 I3) Fv bI AI AI IN AI) G G (At G) G G<|Cp 0 G fun Ae3=>?_;refine Cp 1 G fun AeW=>?_;refine Cp 6 G fun TH=>?_;exact BZ 5 (us:=(BY ((Gl S I2 I3)) Fv bI AI AI IN AI)) G G G (At G) (by simp only[ABn,ABr,ABp,Ae3,AeW,TH];rfl) G<|Ac<|rt<|Au 2 G<|Au 2 G<|Au 6 G<|Au 6 G<|Au 6 G<|Au 6 G<|Au 6 G<|D8 ⟨Fv,bI,AI,AI,IN,AI⟩ [_,_,_,_,_] (Qv 3 G G G (At G)) AJy G (Ad 2 G (Ad 0 G (Ad 1 G (Ad 10 G (Ad 9 G (Ad 6 G (Ad 8 G Aa)))))))
theorem Abk(x:AD)(KW v1:Value)(b:Nat)(W:Ah)(AS A1 AY A9 Ba Bd Bp Bi:Value)(_:x.wf):Cv AG 110 [.agg (A3 x KW).toArray,v1] [⟨KW,x.A0⟩,Ov b W AS A1 AY A9 Ba Bd Bp Bi,⟨v1,(⟨⟨.pointer (some ⟨b,0,none⟩)⟩⟩:Cq JD)⟩] (.bool (Ef W.S x.Al&&(decide ((x.A0.length:Int)>0)|| !decide (x.BG.Ap=0)))):=by
 refine Aw.proof Tryz.func110 G 23 G G fun X w=>Ae<|CV G G G fun Dh=>U 1 G<|Ac<|Am<|Gx mixed AJw<|CQ 2 G G (A2 G) G fun RD=>Co 1 G G G<|IY (α:=Ah×QA.H) (β:=Bv×DL.H) 1 (fun x=>(x.1.S,(x.2.1,x.2.2.1,x.2.2.2.1,x.2.2.2.2.1,x.2.2.2.2.2.1,x.2.2.2.2.2.2.1))) G G (BR G) WZ G fun v6=>j1 (s:=DL) (ov:=W.S) (hh:=(AS,A1,AY,A9,Ba,Bd)) 0 G G (At G) G fun OD=>AX 2 [0] G G<|HD (TV _ _ _ _ _ _ _ _ OD) (Ar G) G Aa G<|An G G ?_;refine D4 11 11 [] G G (fun Ct VD=>by
  exact AX 2 [0] G G<|Bl G G G<|C2 1 G G Tryz.underlying39 G fun qS=>U 2 G<|ET 16 5 [0] [11] G G G<|U 1 G<|VD G Br) ?_
 exact U 1 G<|Gj<|A5<|rt<|AQ<|Bq () G G AJy G Aa
theorem Abl(x:AD)(KW v1:Value)(b:Nat)(W:Ah)(AS A1 AY A9 Ba Bd Bp Bi:Value)(_:x.wf):Cv AG 113 [.agg (A3 x KW).toArray,v1] [⟨KW,x.A0⟩,Ov b W AS A1 AY A9 Ba Bd Bp Bi,⟨v1,(⟨⟨.pointer (some ⟨b,0,none⟩)⟩⟩:Cq JD)⟩] (.bool (Ef W.S x.Al)):=by
 exact Aw.proof Tryz.func113 G 11 G G fun X w=>Ae<|CV G G G fun Dh=>U 1 G<|Ac<|Am<|Gx mixed AJw<|CQ 2 G G (A2 G) G fun RD=>Co 1 G G G<|IY (α:=Ah×QA.H) (β:=Bv×DL.H) 1 (fun x=>(x.1.S,(x.2.1,x.2.2.1,x.2.2.2.1,x.2.2.2.2.1,x.2.2.2.2.2.1,x.2.2.2.2.2.2.1))) G G (BR G) WZ G fun v6=>j1 (s:=DL) (ov:=W.S) (hh:=(AS,A1,AY,A9,Ba,Bd)) 0 G G (At G) G fun OD=>AX 2 [0] G G<|HD (TV _ _ _ _ _ _ _ _ OD) (Ar G) G Aa G<|U 1 G<|Gj<|A5<|rt<|AQ<|Bq () G G AJy G Aa
theorem yg(CP:Value)(l:List AD)(f:Nat)(D0:Array Value)(A:List Atom)(p:AD->Bool)(CM:GU AG f)(E5:∀(x:AD) (KW:Value),x.wf->Cv AG f (.agg (A3 x KW).toArray::D0.toList) (⟨KW,x.A0⟩::A) (.bool (p x))):Cv AG 109 [CP,.func (.func f) #[] D0] (⟨CP,l⟩::A) (.bool (decide (HI (Gd l.length (fun j=>p (l.getD j default)))>=0))):=by
 exact Aw.proof Tryz.func109 G 9 G G fun X w=>AF 1 G<|Ae<|U 2 G<|B0 (qo _ _ f D0 A p CM E5) (Ar G) G (Ad 0 G (Bg.tail Br)) G<|U 2 G<|Ac<|rt<|Bq () G G AJy G Aa
theorem yh(CP:Value)(l:List AD)(f:Nat)(D0:Array Value)(A:List Atom)(p:AD->Bool)(CM:GU AG f)(E5:∀(x:AD) (KW:Value),x.wf->Cv AG f (.agg (A3 x KW).toArray::D0.toList) (⟨KW,x.A0⟩::A) (.bool (p x))):Cv AG 109 [CP,.func (.func f) #[] D0] (⟨CP,l⟩::A) (.bool (l.any p)):=by
 rw[<-dx];exact yg CP l f D0 A p CM E5
end Go.Apw
