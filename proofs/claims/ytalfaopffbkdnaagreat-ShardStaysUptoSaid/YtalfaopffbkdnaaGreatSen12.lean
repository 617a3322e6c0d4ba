/- Part 12 of shardStays_holds. -/
import Derived.Test.YtalfaopffbkdnaaGreatSen11

set_option maxRecDepth 20000
set_option maxHeartbeats 1000000
open Go.Proofs.Tryz renaming underlying105→ACf,underlying259→ADj,underlying5→AC'
open List renaming cons_append→ABU,drop_eq_nil_of_le→ACc,length_append→ABP,length_nil→ABo,nil_append→ABK,set_cons_succ→ABu,set_cons_zero→ABt
open Go.A_ Go.Apw
namespace Go.Proofs.YtalfaopffbkdnaaGreat.XM
section
theorem AjP(By bv:Value)(p:Nat)(J:List UInt8)(s:Bb)(b:Nat)(AH:s.pos<=J.length):Aw AG 144 [By,.pointer (some ⟨b,0,none⟩)] [AO b 31 IQ,CG p bv s] [⟨By,(⟨⟨p⟩⟩:Cq Gb)⟩,⟨bv,J⟩] (fun(_:Value×Value×Value×Value×Value×Value) _=>True) (fun y _=>[AO b 31 (BY (FC J s).1 y.1 y.2.1 y.2.2.1 y.2.2.2.1 y.2.2.2.2.1 y.2.2.2.2.2),CG p bv (FC J s).2]) (fun y _=>[⟨y.1,(FC J s).1.Aj⟩,⟨y.2.1,(FC J s).1.Bz⟩,⟨y.2.2.1,(FC J s).1.AA⟩,⟨y.2.2.2.1,(FC J s).1.Bj⟩,⟨y.2.2.2.2.1,(FC J s).1.CX⟩,⟨y.2.2.2.2.2,(FC J s).1.Cf⟩]):=by
 refine Aw.proof Tryz.func144 G 95 G G fun X w=>Am<|MM b [0,1] [1,2,0] (fun u=>NO By bv u p J b 31 (IQ,s) [0,1] AH (SL G) AGp) (Ar G) HB G G AGo (fun _=>G)<|A5<|Ae<|U 4 G<|Hs 2 (o0 By bv p J b 31 (CO J [0,1] (IQ,s)) 2 (Hw AH) G) (Ar G) G G (BE [0,1] G) G fun _ _ _=>Ac<|Am<|MM b [3,4] [1,2,0] (fun u=>cK By bv u p J b 31 (E9 J 2 (CO J [0,1] (IQ,s))) [3,4] (Pw (Hw AH)) (vr G) AGp) (Ar G) QO G G AGo (fun _=>G)<|A5<|Ae<|U 4 G<|BH (xs:=[.tmp 30]) (us:=[.pointer (some ⟨b,5,none⟩)]) (E:=171) (bytes:=8) (n:=1) G (by exact HB) G G G G G G fun xl=>Q5 (NW b [5]) ([5].map fun o=>[.pointer (some ⟨b,o,none⟩)]) G (fun S w h=>Y5 S w _) (ABy G)<|Hs 2 (NO By bv _ p J b 31 (Ea J [3,4] (E9 J 2 (CO J [0,1] (IQ,s)))) [5] (MP (Pw (Hw AH))) (by intro x Ab;simp only[ABf,ABh,ABi]at Ab;rcases Ab with rfl<;>rfl) AGp) (Ar G) G G (BE [1,2,0] G) G fun _ _ _=>Ac<|Ae<|U 5 G<|Ql (ys:=[.tmp 37]) (xs:=[]) G G G<|Hs 2 (Adx By bv p J b 31 (CO J [5] (Ea J [3,4] (E9 J 2 (CO J [0,1] (IQ,s))))) 6 (Hw (MP (Pw (Hw AH)))) G) (Ar G) G G (BE [1,2] G) G fun I' _ _=>Ac<|Ae<|U 5 G<|Ql (ys:=[.tmp 44]) (xs:=[]) G G G<|Hs 2 (AdK By bv p J b 31 (C7 6 I' (CS J (F2 J)) (CO J [5] (Ea J [3,4] (E9 J 2 (CO J [0,1] (IQ,s)))))) 7 (Ik (Ij (fun _ hh=>Td hh) (Hw (MP (Pw (Hw AH)))))) G) (Ar G) G G (BE [2,3] G) G fun Ja _ _=>Ac<|Ae<|U 5 G<|Ql (ys:=[.tmp 51]) (xs:=[]) G G G<|Hs 2 (AdP By bv p J b 31 (C7 7 Ja (CS J (GG J)) (C7 6 I' (CS J (F2 J)) (CO J [5] (Ea J [3,4] (E9 J 2 (CO J [0,1] (IQ,s))))))) 8 (Ik (Ij (fun _ hh=>UN hh) (Ik (Ij (fun _ hh=>Td hh) (Hw (MP (Pw (Hw AH)))))))) G) (Ar G) G G (BE [3,4] G) G fun Kf _ _=>Ac<|Ae<|U 5 G<|Ql (ys:=[.tmp 58]) (xs:=[]) G G G<|Hs 2 (AdA By bv p J b 31 (C7 8 Kf (CS J (GX J)) (C7 7 Ja (CS J (GG J)) (C7 6 I' (CS J (F2 J)) (CO J [5] (Ea J [3,4] (E9 J 2 (CO J [0,1] (IQ,s)))))))) 9 (Ik (Ij (fun _ hh=>Wd hh) (Ik (Ij (fun _ hh=>UN hh) (Ik (Ij (fun _ hh=>Td hh) (Hw (MP (Pw (Hw AH)))))))))) G) (Ar G) G G (BE [4,5] G) G fun HS _ _=>Ac<|Ae<|U 5 G<|Ql (ys:=[.tmp 65]) (xs:=[]) G G G<|Hs 2 (AdD By bv p J b 31 (C7 9 HS (CS J (Hk J)) (C7 8 Kf (CS J (GX J)) (C7 7 Ja (CS J (GG J)) (C7 6 I' (CS J (F2 J)) (CO J [5] (Ea J [3,4] (E9 J 2 (CO J [0,1] (IQ,s))))))))) 10 (Ik (Ij (fun _ hh=>Ye hh) (Ik (Ij (fun _ hh=>Wd hh) (Ik (Ij (fun _ hh=>UN hh) (Ik (Ij (fun _ hh=>Td hh) (Hw (MP (Pw (Hw AH)))))))))))) (by simp only[CO,Ea,E9,C7,ABt,ABu,ABC,ABV])) (Ar G) G G (BE [5,6] G) G fun KF _ _=>?_;refine Ac<|Ae<|U 4 G<|Hs 2 (sk By bv p J b 31 (C7 10 KF (CS J (HF J)) (C7 9 HS (CS J (Hk J)) (C7 8 Kf (CS J (GX J)) (C7 7 Ja (CS J (GG J)) (C7 6 I' (CS J (F2 J)) (CO J [5] (Ea J [3,4] (E9 J 2 (CO J [0,1] (IQ,s)))))))))) 11 (Ik (Ij (fun _ hh=>aF hh) (Ik (Ij (fun _ hh=>Ye hh) (Ik (Ij (fun _ hh=>Wd hh) (Ik (Ij (fun _ hh=>UN hh) (Ik (Ij (fun _ hh=>Td hh) (Hw (MP (Pw (Hw AH)))))))))))))) (by simp only[CO,Ea,E9,C7,ABt,ABu,ABC,ABV]) (by simp only[CO,Ea,E9,C7,ABt,ABu,Nat.reduceAdd,ABC,ABV]) (by simp only[CO,Ea,E9,C7,ABt,ABu,Nat.reduceAdd,ABC,ABV]) (by simp only[CO,Ea,E9,C7,ABt,ABu,Nat.reduceAdd,ABC,ABV]) (by simp only[CO,Ea,E9,C7,ABt,ABu,Nat.reduceAdd,ABC,ABV]) (by simp only[CO,Ea,E9,C7,ABt,ABu,Nat.reduceAdd,ABC,ABV]) (by simp only[CO,Ea,E9,C7,ABt,ABu,Nat.reduceAdd,ABC,ABV])) (Ar G) G G (BE [6,7] G) G fun _ _ _=>?_;refine Ac<|Ae<|U 4 G<|Hs 2 (sk By bv p J b 31 (Ga J 11 (C7 10 KF (CS J (HF J)) (C7 9 HS (CS J (Hk J)) (C7 8 Kf (CS J (GX J)) (C7 7 Ja (CS J (GG J)) (C7 6 I' (CS J (F2 J)) (CO J [5] (Ea J [3,4] (E9 J 2 (CO J [0,1] (IQ,s))))))))))) 18 (b_ (Ik (Ij (fun _ hh=>aF hh) (Ik (Ij (fun _ hh=>Ye hh) (Ik (Ij (fun _ hh=>Wd hh) (Ik (Ij (fun _ hh=>UN hh) (Ik (Ij (fun _ hh=>Td hh) (Hw (MP (Pw (Hw AH))))))))))))))) (by simp only[CO,Ea,E9,C7,Ga,ABt,ABu,Nat.reduceAdd,ABC,ABV]) (by simp only[CO,Ea,E9,C7,Ga,ABt,ABu,Nat.reduceAdd,ABC,ABV]) (by simp only[CO,Ea,E9,C7,Ga,ABt,ABu,Nat.reduceAdd,ABC,ABV]) (by simp only[CO,Ea,E9,C7,Ga,ABt,ABu,Nat.reduceAdd,ABC,ABV]) (by simp only[CO,Ea,E9,C7,Ga,ABt,ABu,Nat.reduceAdd,ABC,ABV]) (by simp only[CO,Ea,E9,C7,Ga,ABt,ABu,Nat.reduceAdd,ABC,ABV]) (by simp only[CO,Ea,E9,C7,Ga,ABt,ABu,Nat.reduceAdd,ABC,ABV])) (Ar G) G G (BE [6,7] G) G fun _ _ _=>?_;refine Ac<|Ae<|U 4 G<|oA (α:=UInt8)<|Hs 2 (xP By bv p J b 31 (Ga J 18 (Ga J 11 (C7 10 KF (CS J (HF J)) (C7 9 HS (CS J (Hk J)) (C7 8 Kf (CS J (GX J)) (C7 7 Ja (CS J (GG J)) (C7 6 I' (CS J (F2 J)) (CO J [5] (Ea J [3,4] (E9 J 2 (CO J [0,1] (IQ,s)))))))))))) 25 AI (b_ (b_ (Ik (Ij (fun _ hh=>aF hh) (Ik (Ij (fun _ hh=>Ye hh) (Ik (Ij (fun _ hh=>Wd hh) (Ik (Ij (fun _ hh=>UN hh) (Ik (Ij (fun _ hh=>Td hh) (Hw (MP (Pw (Hw AH)))))))))))))))) (by simp only[CO,Ea,E9,C7,Ga,ABt,ABu,Nat.reduceAdd,ABC,ABV])) (Ar G) G G (BE [7,8,0] G) G fun Ns _ _=>?_;exact Ac<|MM b [26,27,28] [9,10,0] (fun u=>NO By bv u p J b 31 (C7 25 Ns (Gm J 65535) (Ga J 18 (Ga J 11 (C7 10 KF (CS J (HF J)) (C7 9 HS (CS J (Hk J)) (C7 8 Kf (CS J (GX J)) (C7 7 Ja (CS J (GG J)) (C7 6 I' (CS J (F2 J)) (CO J [5] (Ea J [3,4] (E9 J 2 (CO J [0,1] (IQ,s))))))))))))) [26,27,28] (Ik (Vf (b_ (b_ (Ik (Ij (fun _ hh=>aF hh) (Ik (Ij (fun _ hh=>Ye hh) (Ik (Ij (fun _ hh=>Wd hh) (Ik (Ij (fun _ hh=>UN hh) (Ik (Ij (fun _ hh=>Td hh) (Hw (MP (Pw (Hw AH)))))))))))))))))) (by intro x Ab;simp only[ABf,ABh,ABi]at Ab;rcases Ab with rfl|rfl|rfl<;>simp only[CO,Ea,E9,C7,Ga,ABt,ABu,Nat.reduceAdd,ABC,ABV]) AGp) (Ar G) HB G G AGo (fun _=>G)<|Dz ⟨I',Ja,Kf,HS,KF,Ns⟩ G trivial (by simp only[Aai,ABU,ABK]<;>rfl) (by rw[<-Aaj J s I' Ja Kf HS KF Ns,<-Aak J s I' Ja Kf HS KF Ns,<-Aal J s I' Ja Kf HS KF Ns,<-Aam J s I' Ja Kf HS KF Ns,<-Aan J s I' Ja Kf HS KF Ns,<-Aao J s I' Ja Kf HS KF Ns];exact(Bg.cons 6 rfl (Bg.cons 5 rfl (Bg.cons 4 rfl (Bg.cons 3 rfl (Bg.cons 2 rfl (Bg.cons 0 rfl Bg.nil)))))))
attribute [local irreducible] FC D6 Gm Kw DT Q0 NF Lm
theorem Aim(By bv:Value)(p:Nat)(J:List UInt8)(s:Bb)(b:Nat)(AH:s.pos<=J.length):Aw AG 143 [By,.pointer (some ⟨b,0,none⟩)] [AO b 31 IQ,CG p bv s] [⟨By,(⟨⟨p⟩⟩:Cq Gb)⟩,⟨bv,J⟩] (fun(_:Value×Value×Value×Value×Value×Value) _=>True) (fun y _=>[AO b 31 (BY (FC J s).1 y.1 y.2.1 y.2.2.1 y.2.2.2.1 y.2.2.2.2.1 y.2.2.2.2.2),CG p bv (FC J s).2]) (fun y _=>[⟨y.1,(FC J s).1.Aj⟩,⟨y.2.1,(FC J s).1.Bz⟩,⟨y.2.2.1,(FC J s).1.AA⟩,⟨y.2.2.2.1,(FC J s).1.Bj⟩,⟨y.2.2.2.2.1,(FC J s).1.CX⟩,⟨y.2.2.2.2.2,(FC J s).1.Cf⟩]):=by
 exact Aw.proof Tryz.func143 G 5 G G fun X w=>rg<|An G G<|Hs 2 (AjP By bv p J s b AH) (Ar G) G G (BE [0,1] G) G fun y _ _=>nl<|Dz y G trivial G (Ad 0 G (Ad 1 G (Ad 2 G (Ad 3 G (Ad 4 G (Ad 5 G Aa))))))
theorem Aio(Bk:Value)(J:List UInt8)(b:Nat):Aw AG 142 [Bk,.func (.func 143) #[] #[.pointer (some ⟨b,0,none⟩)]] [AO b 31 IQ] [⟨Bk,J⟩] (fun(_:Value×Value×Value×Value×Value×Value) v=>v=.int .i64 (NF J)) (fun y _=>[AO b 31 (BY (Lm J) y.1 y.2.1 y.2.2.1 y.2.2.2.1 y.2.2.2.2.1 y.2.2.2.2.2)]) (fun y _=>[⟨y.1,(Lm J).Aj⟩,⟨y.2.1,(Lm J).Bz⟩,⟨y.2.2.1,(Lm J).AA⟩,⟨y.2.2.2.1,(Lm J).Bj⟩,⟨y.2.2.2.2.1,(Lm J).CX⟩,⟨y.2.2.2.2.2,(Lm J).Cf⟩]):=by
 refine Aw.proof Tryz.func142 G 30 G G fun X w=>AF 1 G<|Am<|Ae<|An G G<|C2 0 G G ABT G fun MD=>U 1 G<|Ac<|B9 G (fun D2=>?_) (fun D2=>?_)
 ·
  have AN:65536<J.length:=AGn;rw[lY AN,zn AN];exact DJ (α:=AD)<|DJ (α:=BL)<|DJ (α:=BX)<|DJ (α:=Bx)<|DJ (α:=Df)<|DJ (α:=UInt8)<|AF 1 G<|BA<|Bq (AI,AI,AI,AI,AI,AI) G G G G (Ad 5 G (Ad 4 G (Ad 3 G (Ad 2 G (Ad 1 G (Ad 0 G Aa))))))
 ·
  have AN:¬65536<J.length:=AGn;rw[gn AN,oM AN];refine AZ<|Ae<|An G G<|Dm (MW.Aes Bk J AGn) (Ar G) G (Ad 0 G Aa) G fun AlD v10 Dq=>?_;obtain⟨p,bv⟩:=AlD;have Dq:v10=.pointer (some ⟨p,0,none⟩):=Dq;subst Dq;refine Db (ps:=[(0,.tmp 10)]) (cs:=[.pointer (some ⟨p,0,none⟩),.slice none 0 0,.bool false,.int .i64 0]) AGq AGo G<|CV G G G fun ns=>U 1 G<|Ac<|Ae<|M4 (α:=Gb) ⟨p⟩ (fun S w h=>⟨(),G,by simp,trivial⟩)<|U 2 G<|D9 1 G<|VX 2 (Aim (.pointer (some ⟨ns,0,none⟩)) bv p J ⟨0,0⟩ b (ABg _)) (Ar G) G G G G (BE [0,1] G) G fun y _ _=>Ac<|Am<|Ae<|An G G<|Co 6 G G G<|CJ 6 sn G G (BR G) G fun Zq=>CQ 0 G G (A2 G) G fun AkR=>U 1 G<|Ac<|Fa G (fun HQ=>?_) (fun HQ=>?_)
  · exact absurd G HQ --#done
  ·
   refine AZ<|Ae<|An G G<|Co 7 G G G<|CJ 7 Ku G G (BR G) G fun N4=>CQ 0 G G (A2 G) G fun Uc=>Ch 1 (MW.y3 p bv J (FC J ⟨0,0⟩).2) (Ar G) G G (Ad 9 G Aa) G fun _ MR G5=>?_;have G5:MR=.int .i64 (Q0 J (FC J ⟨0,0⟩).2):=G5;subst G5;exact U 1 G<|Ac<|rt<|Au 1 G<|AQ<|Bq y G G G G (Ad 2 G (Ad 3 G (Ad 4 G (Ad 5 G (Ad 6 G (Ad 7 G Aa))))))
end
section
attribute [local irreducible] FC D6 Gm Kw DT Q0 NF Lm
theorem Ain(Bk:Value)(J:List UInt8):Aw AG 71 [Bk] [] [⟨Bk,J⟩] (fun(y:Value×Value×Value×Value×Value×Value) r=>r=.tuple #[.agg (BY (Er J).1 y.1 y.2.1 y.2.2.1 y.2.2.2.1 y.2.2.2.2.1 y.2.2.2.2.2).toArray,.int .i64 (Er J).2]) (fun _ _=>[]) (fun y _=>[⟨y.1,(Er J).1.Aj⟩,⟨y.2.1,(Er J).1.Bz⟩,⟨y.2.2.1,(Er J).1.AA⟩,⟨y.2.2.2.1,(Er J).1.Bj⟩,⟨y.2.2.2.2.1,(Er J).1.CX⟩,⟨y.2.2.2.2.2,(Er J).1.Cf⟩]):=by
 refine Aw.proof Tryz.func71 G 14 G G fun X w=>Ae<|CT LQ G fun Dh=>U 1 G<|Ac<|Ae<|CT LQ G fun En=>Ac<|Am<|Ae<|An G G<|Nd (xs:=[.tmp 4]) G G<|Hs 1 (Aio Bk J En) (Ar G) G G (Ad 0 G Aa) G fun y T9 D2=>?_;have D2:T9=.int .i64 (NF J):=D2;subst D2;obtain⟨KX,J5,Kd,Ke,IN,Ls⟩:=y;refine U 1 G<|Ac<|AF 2 G<|Fa G (fun Dq=>?_) (fun Dq=>?_)
 ·
  rw[k8 Dq];exact DJ (α:=AD)<|DJ (α:=BL)<|DJ (α:=BX)<|DJ (α:=Bx)<|DJ (α:=Df)<|DJ (α:=UInt8)<|Ae<|Db (ps:=[]) (cs:=(BY Np AI AI AI AI AI AI)) AGq AGo G<|An G G<|BZ 1 (us:=(BY Np AI AI AI AI AI AI)) G G G (At G) G G<|U 1 G<|Ac<|BA<|D8 (AI,AI,AI,AI,AI,AI) [_,_] (Fp 1 G G G G (At G)) AGq G (Ad 5 G (Ad 4 G (Ad 3 G (Ad 2 G (Ad 1 G (Ad 0 G Aa))))))
 ·
  rw[fN Dq];refine AZ<|Ae<|BJ 0 (BY ((Lm J)) KX J5 Kd Ke IN Ls) G G (At G) G G<|Cp 0 G fun bM=>?_;refine Cp 1 G fun WW=>?_;refine Cp 2 G fun bP=>?_;refine Cp 3 G fun bQ=>?_;refine Cp 4 G fun TH=>?_;refine Cp 5 G fun bS=>?_;exact BZ 1 (us:=(BY ((Lm J)) KX J5 Kd Ke IN Ls)) G G G (At G) (by simp only[ABn,ABr,ABp,bM,WW,bP,bQ,TH,bS];rfl) G<|U 1 G<|Ac<|rt<|D8 (KX,J5,Kd,Ke,IN,Ls) [_,_] (Fp 1 G G G G (At G)) AGq G (Ad 0 G (Ad 1 G (Ad 2 G (Ad 3 G (Ad 4 G (Ad 5 G Aa))))))
end
end Go.Proofs.YtalfaopffbkdnaaGreat.XM
namespace Go.Proofs.YtalfaopffbkdnaaGreat.Ref
theorem QP:EH AG 29 5 1 1:=EH.mk ABT AGo AGp
theorem mixed:Tryz.prog.follows .mixedOrders=true:=AGo
theorem TZ:H5 AG 29 5 1:=⟨ABT,AGo⟩
theorem QN:EH AG 23 54 7 56:=EH.mk ACh AGo AGp
theorem HB:EH AG 259 171 1 8:=EH.mk ADj AGo AGp
theorem OI:EH AG 22 73 10 104:=EH.mk ABH AGo AGp
theorem Mt:EH AG 24 50 11 104:=EH.mk AB4 AGo AGp
theorem QQ:EH AG 25 52 8 80:=EH.mk ACa AGo AGp
theorem RM:EH AG 26 125 2 16:=EH.mk ACi AGo AGp
theorem S1:EH AG 69 83 4 32:=EH.mk AB5 AGo AGp
theorem lQ:H5 AG 259 171 1:=⟨ADj,AGo⟩
theorem SM:E3 AG 50 [.int .i64 0,.int .i64 0,.int .i64 0,.int .i64 0,.int .i64 0,.int .i64 0,.string ByteArray.empty,.string ByteArray.empty,.int .i64 0,.int .i64 0,.int .i64 0]:=E3.mk AGo
theorem SN:E3 AG 54 [.int .i64 0,.int .i64 0,.bool false,.int .i64 0,.int .i64 0,.int .i64 0,.int .i64 0]:=E3.mk AGo
theorem SO:E3 AG 52 [.int .i64 0,.int .i64 0,.string ByteArray.empty,.string ByteArray.empty,.int .i64 0,.int .i64 0,.int .i64 0,.int .i64 0]:=E3.mk AGo
theorem de:E3 AG 125 [.int .i64 0,.int .i64 0]:=E3.mk AGo
theorem Um:E3 AG 83 [.int .i64 0,.int .i64 0,.int .i64 0,.int .i64 0]:=E3.mk AGo
theorem df:E3 AG 3 [.int .i64 0]:=E3.mk AGo
theorem dg:E3 AG 29 [.slice none 0 0]:=E3.mk AGo
theorem LQ:E3 AG 31 [.int .i64 0,.int .i64 0,.bool false,.string ByteArray.empty,.string ByteArray.empty,.int .i64 0,.slice none 0 0,.slice none 0 0,.slice none 0 0,.slice none 0 0,.slice none 0 0,.int .i64 0,.int .i64 0,.int .i64 0,.string ByteArray.empty,.string ByteArray.empty,.int .i64 0,.int .i64 0,.int .i64 0,.int .i64 0,.int .i64 0,.string ByteArray.empty,.string ByteArray.empty,.int .i64 0,.int .i64 0,.slice none 0 0,.int .i64 0,.int .i64 0,.int .i64 0]:=E3.mk AGo
theorem Hd:E3 AG 73 [.string ByteArray.empty,.int .i64 0,.int .i64 0,.int .i64 0,.int .i64 0,.slice none 0 0,.int .i64 0,.int .i64 0,.int .i64 0,.int .i64 0]:=E3.mk AGo
end Go.Proofs.YtalfaopffbkdnaaGreat.Ref
namespace Go.Apw
@[reducible] def AuD(p:Nat)(bv:Value)(s:Bb):C4:=AO p 192 [bv,.int .i64 (s.pos:Int),.int .i64 (s.fault:Int)]
def Ay8(pos:Nat)(x:Nat×Nat×Nat):Value:=.tuple #[.int .u64 (x.1:Int),.int .i64 ((if x.2.2=0 then pos+x.2.1 else 0:Nat):Int),.int .i64 (x.2.2:Int)]
theorem Ay5{i v:Nat}{c:UInt8}{r:List UInt8}(h:(i=9/\1<c.toNat)\/(0<i/\c.toNat=0)):HH i v (c::r)=(0,0,21):=by
 simp only[HH];split
 · rfl
 ·
  split
  ·
   omega
  ·
   split
   · rfl
   ·
    omega
theorem Ay7{i v:Nat}{c:UInt8}{r:List UInt8}(h:¬((i=9/\1<c.toNat)\/(0<i/\c.toNat=0)))(h2:128<=c.toNat):HH i v (c::r)=HH (i+1) (v+c.toNat % 128*2^(7*i)) r:=by
 simp only[HH];rw[AA9 AGn,AA_ h2]
theorem Ay6{i v:Nat}{c:UInt8}{r:List UInt8}(h:¬((i=9/\1<c.toNat)\/(0<i/\c.toNat=0)))(h2:¬128<=c.toNat):HH i v (c::r)=(v+c.toNat % 128*2^(7*i),i+1,0):=by
 simp only[HH];rw[AA9 AGn,AA9 h2,AA9 AGn]
theorem Axb{i v:Nat}{c:UInt8}(Ag:i<=9)(BC:v<2^(7*i))(h:¬((i=9/\1<c.toNat)\/(0<i/\c.toNat=0))):v+c.toNat % 128*2^(7*i)<2^64:=by
 by_cases EO:i=9
 ·
  subst EO;have Af:c.toNat % 128<=1:=AGn;have h2:c.toNat % 128*2^(7*9)<=1*2^(7*9):=ACw _ Af;simp only[Nat.reduceMul,Nat.reducePow]at BC h2 ⊢;omega
 ·
  have h:=gd (c:=c.toNat) BC;have:=AhB (i:=i+1) AGn;omega
theorem AAe(c:UInt8):IntKind.u64.wrap ((c.toNat:Int).tmod 128)=((c.toNat % 128:Nat):Int):=by
 rw[show((128:Int))=((128:Nat):Int)from rfl,<-Int.ofNat_tmod,mB AGn]
theorem AAc{a b:Nat}(h:a+b<2^64):IntKind.u64.wrap ((a:Int)+(b:Int))=((a+b:Nat):Int):=by
 rw[<-Int.natCast_add,mB AGn]
theorem Axq(n:Nat)(h:n<2^64):IntKind.u64.wrap ((n:Int).tdiv 2)=((n / 2:Nat):Int):=by
 rw[show((2:Int))=((2:Nat):Int)from rfl,<-Int.ofNat_tdiv,mB AGn]
theorem AAd(n:Nat):(n:Int).tmod 2=((n % 2:Nat):Int):=by
 rw[show((2:Int))=((2:Nat):Int)from rfl,<-Int.ofNat_tmod]
theorem Au4{s:Bb}{n e:Nat}(BI:s.fault=0)(he:e≠0):s.step n e=⟨s.pos,e⟩:=by
 unfold Bb.step;rw[AA9 AGn,AA_ he]
theorem Avs{s:Bb}{n e:Nat}(BI:s.fault=0)(he:e=0):s.step n e=⟨s.pos+n,0⟩:=by
 unfold Bb.step;rw[AA9 AGn,AA9 AGn,BI]
theorem Au0{α:Type}{s:Bb}{d x:α}{e:Nat}(he:e≠0):s.val d x e=d:=by
 unfold Bb.val;rw[AA_ he];split<;>rfl
theorem Avh{α:Type}{s:Bb}{d x:α}{e:Nat}(BI:s.fault=0)(he:e=0):s.val d x e=x:=by
 unfold Bb.val;rw[AA9 AGn,AA9 AGn]
theorem AwB{J:List UInt8}{s:Bb}(h:s.fault≠0):rdNum J s=(0,s):=by
 simp only[rdNum,Lj,Bb.val,Bb.step,AA_ h]
theorem AwA{J:List UInt8}{s:Bb}(h:s.fault≠0):k5 J s=(0,s):=by
 simp only[k5,Lj,Bb.val,Bb.step,AA_ h]
end Go.Apw
namespace Go.Proofs.YtalfaopffbkdnaaGreat.Ref
theorem Avy(p:Nat)(bv:Value)(J:List UInt8)(s:Bb)(e:Nat)(BI:s.fault=0):Aw AG 270 [.pointer (some ⟨p,0,none⟩),.int .i64 (e:Int)] [AuD p bv s] [⟨bv,J⟩] (fun(_:Unit) _=>True) (fun _ _=>[AuD p bv ⟨s.pos,e⟩]) (fun _ _=>[]):=by
 refine Aw.proof Tryz.func270 G 13 G G fun X w=>I5 5 [0] G G<|B9 G (fun D2=>?_) (fun D2=>?_)
 · exact rg<|U 4 G<|Fi 0 G G G (A2 G) G (Da G)<|nl<|Dz () G trivial G Aa
 · exact absurd (show(s.fault:Int)=0 by rw[BI];rfl) D2 --#done
theorem Aw_(Bk:Value)(J:List UInt8)(hlen:J.length<=140737488355328):Aw AG 104 [Bk] [] [⟨Bk,J⟩] (fun(y:Nat×Value) v=>v=.pointer (some ⟨y.1,0,none⟩)) (fun y _=>[AuD y.1 y.2 ⟨0,0⟩]) (fun y _=>[⟨y.2,J⟩]):=by
 refine Aw.proof Tryz.func104 G 8 G G fun X w=>AF 1 G<|Ae<|NB QP G fun DQ=>Nm (α:=UInt8) [] [] G G (fun _ _ _=>trivial) G<|An G G<|ap 0 0 G G G G QP (by simpa using hlen) (by simpa using hlen) G fun Mp=>JO<|w9 0 G ?_;rintro⟨A,Dc,rfl⟩;exact Db (ps:=[(0,.tmp 5)]) (cs:=[.slice A ([]++J).length Dc,.int .i64 0,.int .i64 0]) AGq AGo G<|CV G G G fun Jo=>U 1 G<|Ac<|rt<|Bq (Jo,_) G G G G (Ad 0 G Aa)
theorem rL(p:Nat)(bv:Value)(J:List UInt8)(s:Bb)(AH:s.pos<=J.length):Aw AG 301 [.pointer (some ⟨p,0,none⟩)] [AuD p bv s] [⟨bv,J⟩] (fun(_:Unit) v=>v=Ay8 s.pos (HH 0 0 (J.drop s.pos))) (fun _ _=>[AuD p bv s]) (fun _ _=>[]):=by
 refine Aw.proof Tryz.func301 G 66 G G fun X w=>HP (q:=J.length<=9223372036854775807) (fun S w h=>L1 (h _ (AA' (i:=0) G))) fun hlen=>AF 3 G<|AF 1 G<|AF 1 G<|B5<|Ji (σ:=Nat×Nat) [(0,_)] _ (fun i C=>(5,.int .u64 (i.2:Int))::(6,.int .i64 (i.1:Int))::C) (fun i=>i.1<=9/\s.pos+i.1<=J.length/\i.2<2^(7*i.1)/\HH 0 0 (J.drop s.pos)=HH i.1 i.2 (J.drop (s.pos+i.1))) (fun i=>J.length-i.1) (0,0) ⟨G,trivial⟩ (Ad 0 G Aa) ⟨AGp,AH,AGp,G⟩ (Bs G) ?_;rintro⟨i,v⟩ ⟨Ag,hs,BC,he⟩;simp only at Ag hs BC he;refine Am<|B5<|Am<|Am<|Gx mixed AGo<|AX 5 [0] G G<|C5 G G BV G<|U 3 G<|AX 1 [0] G G<|C2 0 G G ABT G fun U_=>U 1 G<|Gj<|A5<|B9 G (fun E1=>?_) (fun E1=>?_)
 ·
  have AJ:J.drop (s.pos+i)=[]:=ACc AGn;rw[AJ]at he;have he:HH 0 0 (J.drop s.pos)=(0,0,20):=he;rw[he];exact AF 3 G<|BA<|C9<|Cd<|Cd<|C9<|IB () G G G G G G Aa
 ·
  obtain⟨c,Bm⟩:∃c,J[s.pos+i]? =some c:=⟨_,Aav AGn⟩;have AJ:=yD Bm;have E5:=c.toNat_lt;refine AZ<|Am<|Gx mixed AGo<|AX 9 [0,0] G G<|C5 G G BV G<|Qh 0 G G G TZ AGn Bm G fun OC=>CQ 0 G G (A2 G) G fun AA7=>U 1 G<|Gj<|A5<|Am<|Ae<|U 3 G<|Fu 36 3 [] [0,5,6,7] G G G<|An G G ?_;refine DE 40 7 [0,5,6,7] G G (fun K7 AvY=>by
   exact U 3 G<|Fu 43 3 [] [0,5,6,7,40] G G G<|U 1 G<|AvY G Br) ?_
  refine Ac<|BN G (fun Wg=>?_) (fun Wg=>?_)
  ·
   have Au2:=Wg;simp at Au2;have Au2:(i=9/\1<c.toNat)\/(0<i/\c.toNat=0):=AGn;rw[AJ,Ay5 Au2]at he;rw[he];exact AF 3 G<|BA<|C9<|Cd<|Cd<|C9<|IB () G G G G G G Aa
  ·
   have Au2:=Wg;simp at Au2;have Au2:¬((i=9/\1<c.toNat)\/(0<i/\c.toNat=0)):=AGn;refine AZ<|Ae<|U 2 G<|Aik G G AGp G<|F0 AC' ABJ G (AAe c) G<|An G G<|rD G G BV G<|gb G G AGn (lN _ (7*i) (Nat.lt_of_le_of_lt (Nat.le_add_left _ _) (Axb Ag BC Au2)) AGn) G<|Ax0 G G (AAc (Axb Ag BC Au2)) G<|U 1 G<|Ac<|AF 2 G<|B9 G (fun ev=>?_) (fun ev=>?_)
   ·
    rw[AJ,Ay6 Au2 AGn]at he;rw[he];exact Am<|Gx mixed AGo<|AX 6 [0] G G<|C5 G G BV G<|C5 G G BV G<|U 3 G<|Gj<|A5<|rt<|C9<|Cd<|Cd<|C9<|IB () G G G G (ABE (fun x:Int=>Value.tuple #[.int .u64 ((v+c.toNat % 128*2^(7*i):Nat):Int),.int .i64 x,.int .i64 0]) (by show(s.pos:Int)+(i:Int)+1=((s.pos+(i+1):Nat):Int);omega)) G Aa
   ·
    refine EG<|CU<|A5<|rg<|An G G<|C5 G G BV G<|U 1 G<|nl ?_;exact Dy ((i+1,v+c.toNat % 128*2^(7*i)):Nat×Nat) ⟨by show i+1<=9;omega,by show s.pos+(i+1)<=J.length;omega,gd BC,by show HH 0 0 _=_;rw[he,AJ,Ay7 Au2 AGn];rfl⟩ (by show J.length-(i+1)<J.length-i;omega) (Bs G) G (Ad 1 G Aa)
theorem Axa(p:Nat)(bv:Value)(J:List UInt8)(s:Bb)(AH:s.pos<=J.length):Aw AG 272 [.pointer (some ⟨p,0,none⟩)] [AuD p bv s] [⟨bv,J⟩] (fun(_:Unit) v=>v=.int .u64 ((rdNum J s).1:Int)) (fun _ _=>[AuD p bv (rdNum J s).2]) (fun _ _=>[]):=by
 refine Aw.proof Tryz.func272 G 27 G G fun X w=>?_;have Aq:=YV (J.drop s.pos) 0 0 AGp AGp;rcases Fx:HH 0 0 (J.drop s.pos)with⟨x,n,e⟩;rw[Fx]at Aq;simp only at Aq;have Bh:rdNum J s=(s.val 0 x e,s.step n e):=by simp only[rdNum,Lj,Fx]
 refine AF 1 G<|Am<|I5 5 [0] G G<|Fa G (fun Dq=>?_) (fun Dq=>?_)
 ·
  have BI:s.fault≠0:=AGn;rw[AwB BI];exact AF 1 G<|BA<|Bq () G G G G Aa
 ·
  have BI:s.fault=0:=AGn;rw[Bh];refine AZ<|Ae<|An G G<|Ch 0 (rL p bv J s AH) (Ar G) G G (Ad 0 G Aa) G fun _ RA Dp=>?_;rw[Fx]at Dp;have Dp:RA=.tuple #[.int .u64 (x:Int),.int .i64 ((if e=0 then s.pos+n else 0:Nat):Int),.int .i64 (e:Int)]:=Dp;subst Dp;refine U 7 G<|Ac<|Am<|AF 2 G<|Fa G (fun ER=>?_) (fun ER=>?_)
  ·
   have he:e≠0:=AGn;rw[Au0 he,Au4 BI he];refine Ae<|U 2 G<|Ch 0 (Avy p bv J s e (by first|exact BI|rfl)) (Ar G) G G (Ad 0 G Aa) G fun _ SB _=>?_
   exact Ac<|AF 1 G<|BA<|Bq () G G G G Aa
  ·
   have he:e=0:=AGn;rw[Avh BI he,Avs BI he];subst he;exact AZ<|Ae<|U 4 G<|Fi 0 G G G (A2 G) G (Da G)<|Ac<|Ae<|An G G<|U 1 G<|Ac<|rt<|Bq () G G G (by simp only[BI];rfl) Aa
end Go.Proofs.YtalfaopffbkdnaaGreat.Ref
namespace Go.Apw
theorem AAz{v:Nat}(h:v % 2=1):Ul v= -((v / 2:Nat):Int)-1:=AA_ h
theorem AAy{v:Nat}(h:¬v % 2=1):Ul v=((v / 2:Nat):Int):=AA9 h
theorem Aw6{v:Nat}(h:v<2^64):IntKind.i64.wrap ((v / 2:Nat):Int)=((v / 2:Nat):Int):=bq AGn
theorem Ax8{J:List UInt8}{i:Nat}{c:UInt8}(h:J[i]? =some c):xO (J.drop i)=(c,1,0):=by
 rw[yD h];rfl
theorem Ax7{J:List UInt8}{i:Nat}(h:J.length<=i):xO (J.drop i)=(0,0,20):=by
 rw[ACc h];rfl
theorem Awz{J:List UInt8}{s:Bb}{c:UInt8}(BI:s.fault=0)(h:J[s.pos]? =some c):k5 J s=(c,⟨s.pos+1,0⟩):=by
 simp only[k5,Lj,Ax8 h,Avh BI rfl,Avs BI rfl]
theorem Awy{J:List UInt8}{s:Bb}(BI:s.fault=0)(h:J.length<=s.pos):k5 J s=(0,⟨s.pos,20⟩):=by
 simp only[k5,Lj,Ax7 h,Au0 (show(20:Nat)≠0 by decide),Au4 BI (show(20:Nat)≠0 by decide)]
theorem Axm{J:List UInt8}{s:Bb}:Kw J s=if 1<(k5 J s).1.toNat then(false,⟨s.pos,21⟩)else(decide ((k5 J s).1=1),(k5 J s).2):=by
 by_cases BI:s.fault=0
 ·
  by_cases AN:s.pos<J.length
  ·
   obtain⟨c,Bm⟩:∃c,J[s.pos]? =some c:=⟨_,Aav AN⟩;rw[Awz BI Bm];simp only[Kw,Lj,yD Bm,NG];split
   ·
    simp only[Au0 (show(21:Nat)≠0 by decide),Au4 BI (show(21:Nat)≠0 by decide)]
   ·
    simp only[Avh BI rfl,Avs BI rfl]
  ·
   rw[Awy BI AGn];simp only[Kw,Lj,ACc (show J.length<=s.pos by omega),NG,Au0 (show(20:Nat)≠0 by decide),Au4 BI (show(20:Nat)≠0 by decide)];rfl
 ·
  rw[AwA BI];simp only[Kw,Lj,Bb.val,Bb.step];rw[AA_ BI,AA_ BI];rfl
theorem AzL{J:List UInt8}{s:Bb}(h:1<(k5 J s).1.toNat):s.fault=0/\(k5 J s).2.fault=0:=by
 by_cases BI:s.fault=0
 ·
  refine⟨BI,?_⟩;by_cases AN:s.pos<J.length
  ·
   obtain⟨c,Bm⟩:∃c,J[s.pos]? =some c:=⟨_,Aav AN⟩;rw[Awz BI Bm]
  ·
   rw[Awy BI AGn]at h;exact absurd (show 1<(0:UInt8).toNat from h) AGp
 ·
  rw[AwA BI]at h;exact absurd (show 1<(0:UInt8).toNat from h) AGp
theorem Axl{J:List UInt8}{m:Int}{s:Bb}:DT J m s=if max m 0<((rdNum J s).1:Int)then(0,⟨s.pos,22⟩)else rdNum J s:=by
 by_cases BI:s.fault=0
 ·
  rcases Fx:HH 0 0 (J.drop s.pos)with⟨x,n,e⟩;have eB:=S7 (most:=m) Fx;have Ao:rdNum J s=(s.val 0 x e,s.step n e):=(by simp only[rdNum,Lj,Fx]);by_cases he:e=0
  ·
   subst he;by_cases hm:max m 0<(x:Int)
   ·
    rw[AA_ ⟨rfl,hm⟩]at eB;have Bm:DT J m s=(s.val 0 0 22,s.step 0 22):=(by simp only[DT,Lj,eB]);rw[Bm,Ao,Au0 (show(22:Nat)≠0 by decide),Au4 BI (show(22:Nat)≠0 by decide),Avh BI rfl,AA_ hm]
   ·
    rw[AA9 (fun h=>hm h.2),AA9 (fun h=>h rfl)]at eB;have Bm:DT J m s=(s.val 0 x 0,s.step n 0):=(by simp only[DT,Lj,eB]);rw[Bm,Ao,Avh BI rfl,AA9 hm]
  ·
   rw[AA9 (fun h=>he h.1),AA_ he]at eB;have Bm:DT J m s=(s.val 0 0 e,s.step 0 e):=(by simp only[DT,Lj,eB]);rw[Bm,Ao,Au0 he,Au0 he,AA9 (by show ¬max m 0<((0:Nat):Int);omega),Au4 BI he,Au4 BI he]
 ·
  rw[Ah3 BI,AwB BI,AA9 (by show ¬max m 0<((0:Nat):Int);omega)]
theorem AzN{J:List UInt8}{s:Bb}(h:0<(rdNum J s).1):s.fault=0/\(rdNum J s).2.fault=0:=by
 by_cases BI:s.fault=0
 ·
  refine⟨BI,?_⟩;rcases Fx:HH 0 0 (J.drop s.pos)with⟨x,n,e⟩;simp only[rdNum,Lj,Fx]at h ⊢;by_cases he:e=0
  ·
   rw[Avs BI he]
  ·
   rw[Au0 he]at h;omega
 ·
  rw[AwB BI]at h;exact absurd h (Nat.lt_irrefl 0)
theorem AzM{J:List UInt8}{m:Int}{s:Bb}:((DT J m s).1:Int)<=max m 0:=by
 simp only[DT,Lj,Bb.val];split
 ·
  show((0:Nat):Int)<=_;omega
 ·
  split
  ·
   show((0:Nat):Int)<=_;omega
  · exact(aa _ _).1
theorem AAb{J:List UInt8}{p k:Nat}:(J.drop p).take k=[]++(J.take (((p:Int)+(k:Int)).toNat)).drop (((p:Int)+(k:Int)-(k:Int)).toNat):=by
 rw[show((p:Int)+(k:Int)).toNat=p+k by omega,show((p:Int)+(k:Int)-(k:Int)).toNat=p by omega,ABK,List.drop_take,Nat.add_sub_cancel_left]
theorem AzO{J:List UInt8}{m:Int}{s:Bb}:Gm J m s=if(DT J m s).2.fault≠0 then([],(DT J m s).2)else if J.length-(DT J m s).2.pos<(DT J m s).1 then([],⟨s.pos,20⟩)
  else((J.drop (DT J m s).2.pos).take (DT J m s).1,⟨(DT J m s).2.pos+(DT J m s).1,0⟩):=by
 by_cases BI:s.fault=0
 ·
  rcases Fx:L9 (J.drop s.pos) m with⟨x,n,e⟩;have Aq:=(aa (J.drop s.pos) m).2.1;rw[Fx]at Aq;simp only[ACt]at Aq;have LY:=l7 Fx;have Bm:DT J m s=(s.val 0 x e,s.step n e):=(by simp only[DT,Lj,Fx]);by_cases he:e=0
  ·
   subst he;rw[AA9 (fun h=>h rfl),ACt]at LY;rw[Bm,Avh BI rfl,Avs BI rfl];show _=if(0:Nat)≠0 then _ else if J.length-(s.pos+n)<x then([],(⟨s.pos,20⟩:Bb))else((J.drop (s.pos+n)).take x,⟨s.pos+n+x,0⟩);rw[AA9 AGp];by_cases AN:J.length-s.pos<n+x
   ·
    rw[AA_ AN]at LY;have Av:Gm J m s=(s.val [] [] 20,s.step 0 20):=(by simp only[Gm,Lj,LY]);rw[Av,Au0 (show(20:Nat)≠0 by decide),Au4 BI (show(20:Nat)≠0 by decide),AA_ AGn]
   ·
    rw[AA9 AN]at LY;have Av:Gm J m s=(s.val [] (((J.drop s.pos).drop n).take x) 0,s.step (n+x) 0):=(by simp only[Gm,Lj,LY]);rw[Av,Avh BI rfl,Avs BI rfl,AA9 AGn,List.drop_drop,ADs]
  ·
   rw[AA_ he]at LY;have Av:Gm J m s=(s.val [] [] e,s.step 0 e):=(by simp only[Gm,Lj,LY]);rw[Bm,Av,Au0 he,Au0 he,Au4 BI he,Au4 BI he,AA_ he]
 ·
  rw[Ah3 BI,show Gm J m s=([],s)from Prod.ext (Aig BI) (Aif BI),AA_ BI]
end Go.Apw
namespace Go.Proofs.YtalfaopffbkdnaaGreat.Ref
section
variable(p:Nat) (bv:Value) (J:List UInt8) (s:Bb) (m:Int)
theorem AyT(AH:s.pos<=J.length):Aw AG 201 [.pointer (some ⟨p,0,none⟩)] [AuD p bv s] [⟨bv,J⟩] (fun(_:Unit) v=>v=.int .i64 (D6 J s).1) (fun _ _=>[AuD p bv (D6 J s).2]) (fun _ _=>[]):=by
 refine Aw.proof Tryz.func201 G 17 G G fun X w=>?_;have AN:=sM J s;refine AF 1 G<|Ae<|An G G<|Ch 0 (Axa p bv J s AH) (Ar G) G G (Ad 0 G Aa) G fun _ Mp C'=>?_;have C':Mp=.int .u64 ((rdNum J s).1:Int):=C';subst C';refine U 1 G<|Ac<|Am<|Ae<|An G G<|AzP G G AGp (AAd _) G<|U 1 G<|Ac<|B9 G (fun D2=>?_) (fun D2=>?_)
 · exact Ae<|An G G<|Axj G G AGp (Axq _ AN) G<|F0 ABJ ABc G (Aw6 AN) G<|fl G BV G<|TU G G BV G<|U 1 G<|Ac<|BA<|Bq () G G (by show _=Value.int .i64 (Ul (rdNum J s).1);rw[AAz AGn]) G Aa
 · exact AZ<|Ae<|An G G<|Axj G G AGp (Axq _ AN) G<|F0 ABJ ABc G (Aw6 AN) G<|U 1 G<|Ac<|rt<|Bq () G G (by show _=Value.int .i64 (Ul (rdNum J s).1);rw[AAy AGn]) G Aa
theorem Ax9(AH:s.pos<=J.length):Aw AG 269 [.pointer (some ⟨p,0,none⟩)] [AuD p bv s] [⟨bv,J⟩] (fun(_:Unit) v=>v=.int .u8 ((k5 J s).1.toNat:Int)) (fun _ _=>[AuD p bv (k5 J s).2]) (fun _ _=>[]):=by
 refine Aw.proof Tryz.func269 G 38 G G fun X w=>HP (q:=J.length<=9223372036854775807) (fun S w h=>L1 (h _ (AA' (i:=0) G))) fun hlen=>AF 1 G<|Am<|Ae<|AX 4 [0] G G<|U 1 G<|Ac<|Fa G (fun GY=>?_) (fun GY=>?_)
 ·
  have BI:s.fault≠0:=AGn;rw[AwA BI];exact AF 1 G<|BA<|Bq () G G G G Aa
 ·
  have BI:s.fault=0:=AGn;refine AZ<|Am<|Am<|Gx mixed AGo<|AX 8 [0,0] G G<|C2 0 G G ABT G fun AAM=>U 1 G<|Gj<|A5<|B9 G (fun DA=>?_) (fun DA=>?_)
  ·
   rw[Awy BI AGn];refine Ae<|An G G<|Ch 0 (Avy p bv J s 20 (by first|exact BI|rfl)) (Ar G) G G (Ad 0 G Aa) G fun _ KC _=>?_
   exact Ac<|AF 1 G<|BA<|Bq () G G G G Aa
  ·
   obtain⟨c,Bm⟩:∃c,J[s.pos]? =some c:=⟨_,Aav AGn⟩;rw[Awz BI Bm];exact AZ<|Ae<|AX 4 [0] G G<|C5 G G BV G<|U 2 G<|Fi 0 G G G (A2 G) G (Da G)<|Ac<|Am<|Gx mixed AGo<|AX 8 [0,0] G G<|TU G G BV G<|Qh 0 G G G TZ AGn (show J[((s.pos:Int)+1-1).toNat]? =some c from by rw[show((s.pos:Int)+1-1).toNat=s.pos by omega];exact Bm) G fun SC=>CQ 0 G G (A2 G) G fun AkU=>U 1 G<|Gj<|A5<|rt<|Bq () G G G (by simp only[BI];rfl) Aa
theorem Ayv(AH:s.pos<=J.length):Aw AG 199 [.pointer (some ⟨p,0,none⟩)] [AuD p bv s] [⟨bv,J⟩] (fun(_:Unit) v=>v=.bool (Kw J s).1) (fun _ _=>[AuD p bv (Kw J s).2]) (fun _ _=>[]):=by
 refine Aw.proof Tryz.func199 G 21 G G fun X w=>AF 1 G<|I5 5 [0] G G<|Ae<|An G G<|Ch 0 (Ax9 p bv J s AH) (Ar G) G G (Ad 0 G Aa) G fun _ v10 Dq=>?_;have Dq:v10=.int .u8 ((k5 J s).1.toNat:Int):=Dq;subst Dq;refine U 1 G<|Ac<|Am<|AF 2 G<|B9 G (fun EM=>?_) (fun EM=>?_)
 ·
  have Aq:1<(k5 J s).1.toNat:=AGn;have Awp:=AzL Aq;have Bh:Kw J s=(false,⟨s.pos,21⟩):=(by rw[Axm,AA_ Aq]);rw[Bh];refine Ae<|U 4 G<|Fi 0 G G G (A2 G) G (Da G)<|Ac<|Ae<|An G G<|Ch 0 (Avy p bv J ⟨s.pos,(k5 J s).2.fault⟩ 21 Awp.2) (Ar G) G G (Ad 0 G Aa) G fun _ Zq _=>?_;exact Ac<|AF 1 G<|BA<|Bq () G G G G Aa
 ·
  have Aq:¬1<(k5 J s).1.toNat:=AGn;have Bh:Kw J s=(decide ((k5 J s).1=1),(k5 J s).2):=(by rw[Axm,AA9 Aq]);rw[Bh];exact AZ<|AF 3 G<|rt<|Bq () G G (ABE Value.bool (by rw[ACy];simp only[ABa];rw[<-UInt8.toNat_inj];show _↔_=1;omega)) G Aa
theorem Aw0(hm:A' m)(AH:s.pos<=J.length):Aw AG 273 [.pointer (some ⟨p,0,none⟩),.int .i64 m] [AuD p bv s] [⟨bv,J⟩] (fun(_:Unit) v=>v=.int .i64 ((DT J m s).1:Int)) (fun _ _=>[AuD p bv (DT J m s).2]) (fun _ _=>[]):=by
 refine Aw.proof Tryz.func273 G 26 G G fun X w=>?_;obtain⟨Sd,Anz⟩:=id hm;have Yt:=rr hm;obtain⟨Sd,Anz⟩:=id hm;refine AF 1 G<|I5 5 [0] G G<|Ae<|An G G<|Ch 0 (Axa p bv J s AH) (Ar G) G G (Ad 0 G Aa) G fun _ gz EM=>?_;have EM:gz=.int .u64 ((rdNum J s).1:Int):=EM;subst EM;refine U 1 G<|Ac<|Am<|Ae<|U 2 G<|ka G G G G<|F0 ABc ABJ G (SI AGn AGn) G<|U 1 G<|Ac<|B9 G (fun DA=>?_) (fun DA=>?_)
 ·
  have Aq:max m 0<((rdNum J s).1:Int):=AGn;have Awp:=AzN (show 0<(rdNum J s).1 by omega);rw[Axl,AA_ Aq];refine Ae<|U 4 G<|Fi 0 G G G (A2 G) G (Da G)<|Ac<|Ae<|An G G<|Ch 0 (Avy p bv J ⟨s.pos,(rdNum J s).2.fault⟩ 22 Awp.2) (Ar G) G G (Ad 0 G Aa) G fun _ Pe _=>?_;exact Ac<|AF 1 G<|BA<|Bq () G G G G Aa
 ·
  rw[Axl,AA9 AGn];exact AZ<|Ae<|An G G<|F0 ABJ ABc G (bq AGn) G<|U 1 G<|Ac<|rt<|Bq () G G G G Aa
theorem AAa(hm:A' m)(pS:m<=1000000)(AH:s.pos<=J.length):Aw AG 209 [.pointer (some ⟨p,0,none⟩),.int .i64 m] [AuD p bv s] [⟨bv,J⟩] (fun(_:Unit) _=>True) (fun _ _=>[AuD p bv (Gm J m s).2]) (fun _ v=>[⟨v,(Gm J m s).1⟩]):=by
 refine Aw.proof Tryz.func209 G 63 G G fun X w=>?_;obtain⟨Sd,Anz⟩:=id hm;have Yt:=rr hm;obtain⟨Sd,Anz⟩:=id hm;refine HP (q:=J.length<=9223372036854775807) (fun S w h=>L1 (h _ (AA' (i:=0) G))) fun hlen=>AF 1 G<|I5 5 [0] G G<|Ae<|U 2 G<|Ch 0 (Aw0 p bv J s m hm AH) (Ar G) G G (Ad 0 G Aa) G fun _ RA Dp=>?_;have Dp:RA=.int .i64 ((DT J m s).1:Int):=Dp;subst Dp;have LY:=@AzO J m s;have AAI:=W_ (most:=m) AH;have Wp:=@AzM J m s;generalize (DT J m s).1=k at*;generalize (DT J m s).2=s2 at*;refine U 1 G<|Ac<|Am<|I5 5 [0] G G<|Fa G (fun ER=>?_) (fun ER=>?_)
 ·
  rw[AA_ (show s2.fault≠0 by omega)]at LY;rw[LY];exact DJ (α:=UInt8)<|AF 1 G<|BA<|Bq () G G trivial G (Ad 0 G Aa)
 ·
  have Aw3:s2.fault=0:=AGn;rw[AA9 (show ¬s2.fault≠0 by omega)]at LY;refine AZ<|Am<|Am<|Gx mixed AGo<|AX 5 [0] G G<|C2 0 G G ABT G fun AnR=>U 3 G<|AX 1 [0] G G<|TU G G BV G<|U 1 G<|Gj<|A5<|B9 G (fun OS=>?_) (fun OS=>?_)
  ·
   rw[AA_ AGn]at LY;rw[LY];refine DJ (α:=UInt8)<|Ae<|U 4 G<|Fi 0 G G G (A2 G) G (Da G)<|Ac<|Ae<|An G G<|Ch 0 (Avy p bv J ⟨s.pos,s2.fault⟩ 20 Aw3) (Ar G) G G (Ad 1 G Aa) G fun _ SC _=>?_;exact Ac<|AF 1 G<|BA<|Bq () G G trivial G (Ad 0 G Aa)
  ·
   rw[AA9 AGn]at LY;rw[LY];refine AZ<|Ae<|AX 6 [0] G G<|C5 G G BV G<|U 2 G<|Fi 0 G G G (A2 G) G (Da G)<|Ac<|Am<|AAq [(0,_),(6,_)] _ (Bs G) Br<|Vh (L:=[AO p 192 [bv,.int .i64 ((s2.pos:Int)+(k:Int)),.int .i64 (s2.fault:Int)],CL X w]) [] [(0,⟨none,fun _=>[],true⟩),(4,⟨some (bv),fun _=>[],false⟩),(8,⟨some (.int .i64 (((s2.pos:Int)+(k:Int)))),fun _=>[],false⟩),(10,⟨some (.int .i64 ((((s2.pos:Int)+(k:Int))-(k:Int)))),fun _=>[],false⟩),(14,⟨some (.int .i64 (((s2.pos:Int)+(k:Int)))),fun _=>[],false⟩),(15,⟨none,fun u=>[⟨u,(J.take (((s2.pos:Int)+(k:Int)).toNat)).drop (((s2.pos:Int)+(k:Int)-(k:Int)).toNat)⟩],false⟩),(16,⟨none,fun _=>[],true⟩),(17,⟨none,fun _=>[],true⟩)] [] [] [(0,fun L Gz=>(row 5 (Gz 0) ([]:List UInt8))::L),(16,fun L Gz=>NZ 2 (row 5 (Gz 16) ([]++(J.take (((s2.pos:Int)+(k:Int)).toNat)).drop (((s2.pos:Int)+(k:Int)-(k:Int)).toNat))) L),(17,fun L Gz=>NZ 2 (row 5 (Gz 17) ([]++(J.take (((s2.pos:Int)+(k:Int)).toNat)).drop (((s2.pos:Int)+(k:Int)-(k:Int)).toNat))) L)] (fun _=>G) (fun _=>AGo) ⟨fun V Az _=>GK (NB QP G fun AAB=>Nm (α:=UInt8) [] [] G G (fun _ _ _=>trivial) G<|nl (Ig G G G trivial Aa Br)),fun V Az _=>du (ME 0 G G (A2 G) G G<|GH G G G G) (ME 1 G G (A2 G) G G<|GH G G G G) (ME 1 G G (A2 G) G G<|GH G G G G),fun V Az _=>du (ME 0 G G (A2 G) G G<|GH G G G G) (ME 1 G G (A2 G) G G<|GH G G G G) (ME 1 G G (A2 G) G G<|GH G G G G),fun V Az _=>(by(repeat (refine dt ?_ ?_;exact TU G G BV G<|GH G G G G));trivial),fun V Az _=>du (ME 0 G G (A2 G) G G<|GH G G G G) (ME 1 G G (A2 G) G G<|GH G G G G) (ME 1 G G (A2 G) G G<|GH G G G G),fun V Az _=>(by(repeat (refine dt ?_ ?_;exact Az4 0 G G TZ G G AGn AGn AGn G fun ui=>nl (Ig G G G trivial (Ad 0 G Aa) (Bg.tail Br))));trivial),fun V Az _=>GK (ap 0 0 G G G G QP (by simp only[ABo,ACt,ABz];omega) (by simp only[ABo,ACt,ABz];omega) G fun AA5=>nl (Ig G G G trivial Aa (Bg.tail Br))),fun V Az _=>GK (VQ G G<|nl (Ig G G G trivial Aa Br)),trivial⟩ fun V _=>Vu [1] G<|?_
   generalize V 17=v2;exact A5<|rt<|K5<|Bq () G G trivial (by simp only[Aw3];rfl) (by rw[AAb];exact(Bg.cons 0 rfl Bg.nil))
theorem Ayl:Aw AG 33 [.pointer (some ⟨p,0,none⟩)] [AuD p bv s] [⟨bv,J⟩] (fun(_:Unit) v=>v=.int .i64 (Q0 J s)) (fun _ _=>[AuD p bv s]) (fun _ _=>[]):=by
 refine Aw.proof Tryz.func33 G 24 G G fun X w=>AF 1 G<|Am<|Am<|Gx mixed AGo<|AX 5 [0] G G<|An G G ?_;refine D4 8 11 [0] G G (fun D2 ZH=>by
  have kL:=ABA D2;exact AX 7 [0] G G<|AX 1 [0] G G<|Bl G G G<|C2 0 G G ABT G fun Adg=>U 2 G<|ZH G Br) ?_
 refine Gj<|A5<|BN G (fun Fe=>?_) (fun Fe=>?_)
 ·
  have Qs:=Fe;simp at Qs;exact AF 1 G<|BA<|Bq () G G (by unfold Q0;rw[if_pos Qs]) G Aa
 ·
  have Qs:=Fe;simp at Qs;exact AZ<|I5 5 [0] G G<|rt<|Bq () G G (by unfold Q0;rw[if_neg AGn]) G Aa
end
end Go.Proofs.YtalfaopffbkdnaaGreat.Ref
namespace Go.Apw
structure AuH where
 r:Nat
@[reducible] def AuH.Ayq(x:AuH):JD:=⟨.pointer (some ⟨x.r,0,none⟩)⟩
@[reducible] def AzV:Shape AuH where
 H:=Unit
 size:=3
 cells x _:=[.slice none 0 0,.pointer (some ⟨x.r,0,none⟩),.bool false]
 sub _ _:=[]
 wf _:=True
 len _ _:=rfl
 one:=by
  intro S w x h Av u hu;simp only[ABf,ABh,ABi]at hu;rcases hu with rfl|rfl|rfl<;>rfl
@[reducible] instance AzK:Be AuH:=Be.D5 AzV
theorem AuM{x:AuH}:AuF AzK Qx 1 1 x x.Ayq:=by
 rintro S w cs ⟨h,rfl,hs,hw⟩;exact⟨G,G⟩
def AuJ(J:List UInt8)(o:Nat)(p:List Value×Bb):List Value×Bb:=CO J [o,o+1] p
def AuL(J:List UInt8)(o:Nat)(p:List Value×Bb):List Value×Bb:=CO J [o,o+1,o+2,o+3] p
def AuK(J:List UInt8)(o:Nat)(p:List Value×Bb):List Value×Bb:=CO J [o+1,o+2,o+3] (CO J [o] p)
theorem AwE{J:List UInt8}{o:Nat}{p:List Value×Bb}(h:p.2.pos<=J.length):(AuJ J o p).2.pos<=J.length:=Hw h
end Go.Apw
namespace Go.Proofs.YtalfaopffbkdnaaGreat.Ref
section
variable(By bv:Value) (p:Nat) (J:List UInt8) (s:Bb) (b T:Nat) (cells:List Value) (o:Nat)
theorem Aws(AH:s.pos<=J.length)(Cu:cells[o]? =some (.int .i64 0)):Aw AG 108 [By,.pointer (some ⟨b,o,none⟩)] [AO b T cells,AuD p bv s] [⟨By,(⟨⟨p⟩⟩:Cq AuH)⟩,⟨bv,J⟩] (fun(_:Unit) _=>True) (fun _ _=>[AO b T (CO J [o] (cells,s)).1,AuD p bv (CO J [o] (cells,s)).2]) (fun _ _=>[]):=by
 refine Aw.proof Tryz.func108 G 28 G G fun X w=>?_;have A7:=Rj Cu;refine Am<|Ae<|An G G<|Co 0 G G G<|CJ 0 AuM G G (BR G) G fun v6=>CQ 0 G G (A2 G) G fun OD=>M3 ACf G G G<|Ac<|LW G<|AZ<|rg<|U 2 G<|Co 1 G G G<|CJ 1 AuM G G (BR G) G fun Xl=>CQ 0 G G (A2 G) G fun Vs=>Ch 1 (AyT p bv J s AH) (Ar G) G G (Ad 3 G Aa) G fun _ Pf JR=>?_;have JR:Pf=.int .i64 (D6 J s).1:=JR;subst JR;exact Va G G<|Fi 0 G G G (A2 G) G A7<|nl<|Dz () G trivial G Aa
theorem qs(Bk:Value)(p:Nat)(J:List UInt8)(B3:Bb)(b T:Nat)(cells:List Value)(offs:List Nat)(AH:B3.pos<=J.length)(Cu:gQ cells offs)(Ao:offs.Nodup):Aw AG 105 [By,Bk] [AO b T cells,AuD p bv B3] [⟨By,(⟨⟨p⟩⟩:Cq AuH)⟩,⟨bv,J⟩,⟨Bk,NW b offs⟩] (fun(_:Unit) _=>True) (fun _ _=>[AO b T (CO J offs (cells,B3)).1,AuD p bv (CO J offs (cells,B3)).2]) (fun _ _=>[]):=by
 refine Aw.proof Tryz.func105 G 17 G G fun X w=>AF 1 G<|B5<|Hx (σ:=Nat×List Value×Bb) [(0,_),(1,_)] _ (fun i C=>(4,.int .i64 (i.1:Int))::C) (fun i=>[AO b T i.2.1,AuD p bv i.2.2,CL X w]) (fun _ Dw=>Dw) (fun i=>i.1<=offs.length/\i.2.2.pos<=J.length/\gQ i.2.1 (offs.drop i.1)/\(offs.drop i.1).Nodup/\CO J (offs.drop i.1) i.2=CO J offs (cells,B3)) (fun i=>offs.length-i.1) (0,cells,B3) (Bs G) (Ad 0 G (Ad 1 G (Ad 2 G Aa))) ⟨ABg _,AH,Cu,Ao,G⟩ (Bs G) G (Ad 0 G (Ad 1 G (Ad 2 G Aa))) ?_;rintro⟨i,c,s⟩ ⟨Ag,hs,Bm,AJ,he⟩;simp only at Ag hs Bm AJ he;refine Am<|Ae<|U 2 G<|C2 2 G G ADj G fun MD=>U 1 G<|Ac<|B9 G (fun D2=>?_) (fun D2=>?_)
 ·
  have Jf:i<offs.length:=(by rw[Y4]at D2;omega);rw[drop_cons Jf]at Bm AJ he;refine AZ<|Am<|B5<|rg<|U 3 G<|Qh 2 G G G lQ AGn (sr Jf) G fun PS=>CQ 0 G G (A2 G) G fun N6=>Hs 2 (Aws By bv p J s b T c (offs.getD i 0) hs (Bm _ (ABx ..))) (Ar G) G G (BE [1,2] G) G fun _ _ _=>?_;refine nl<|CU<|A5<|rg<|An G G<|C5 G G BV G<|U 1 G<|nl ?_;exact Dy ((i+1,c.set (offs.getD i 0) (.int .i64 (D6 J s).1),(D6 J s).2):Nat×List Value×Bb) ⟨AGn,Hb hs,vu (α:=Nat) AJ (fun x Ab=>Bm x (ABR _ Ab)),(List.nodup_cons.1 AJ).2,he⟩ (by show _-_<_-_;omega) (Bs G) G (BE [1,2,3] G)
 ·
  have Jf:i=offs.length:=(by rw[Y4]at D2;omega);subst Jf;rw[List.drop_length]at he;have he:(c,s)=CO J offs (cells,B3):=he;rw[<-he];exact ex<|Ck<|Ck<|D7<|Dz () G trivial G Aa
theorem zR(AH:s.pos<=J.length)(Cu:cells[o]? =some (.bool false)):Aw AG 106 [By,.pointer (some ⟨b,o,none⟩)] [AO b T cells,AuD p bv s] [⟨By,(⟨⟨p⟩⟩:Cq AuH)⟩,⟨bv,J⟩] (fun(_:Unit) _=>True) (fun _ _=>[AO b T (E9 J o (cells,s)).1,AuD p bv (E9 J o (cells,s)).2]) (fun _ _=>[]):=by
 refine Aw.proof Tryz.func106 G 30 G G fun X w=>?_;have A7:=Rj Cu;refine Am<|Ae<|An G G<|Co 0 G G G<|CJ 0 AuM G G (BR G) G fun EZ=>CQ 0 G G (A2 G) G fun gE=>rG ACf G G G<|Ac<|Mv G<|Ae<|U 2 G<|Co 1 G G G<|CJ 1 AuM G G (BR G) G fun RA=>CQ 0 G G (A2 G) G fun SE=>Ch 1 (Ayv p bv J s AH) (Ar G) G G (Ad 3 G Aa) G fun _ Xk Ft=>?_;have Ft:Xk=.bool (Kw J s).1:=Ft;subst Ft;exact Va G G<|Fi 0 G G G (A2 G) G A7<|Ac<|BA<|Dz () G trivial G Aa
theorem nM(u:Value)(AH:s.pos<=J.length)(Cu:cells[o]? =some u):Aw AG 115 [By,.pointer (some ⟨b,o,none⟩)] [AO b T cells,AuD p bv s] [⟨By,(⟨⟨p⟩⟩:Cq AuH)⟩,⟨bv,J⟩,⟨u,([]:List UInt8)⟩] (fun(_:Value) _=>True) (fun y _=>[AO b T (C7 o y (Gm J 65535) (cells,s)).1,AuD p bv (C7 o y (Gm J 65535) (cells,s)).2]) (fun y _=>[⟨y,(Gm J 65535 s).1⟩]):=by
 refine Aw.proof Tryz.func115 G 47 G G fun X w=>?_;have A7:=Rj Cu;refine Am<|Ae<|An G G<|Co 0 G G G<|CJ 0 AuM G G (BR G) G fun v6=>CQ 0 G G (A2 G) G fun OD=>rG ACf G G G<|Ac<|Mv G<|Ae<|U 2 G<|Co 1 G G G<|CJ 1 AuM G G (BR G) G fun gz=>CQ 0 G G (A2 G) G fun AkQ=>Ch 1 (AAa p bv J s 65535 BV AGn AH) (Ar G) G G (Ad 3 G Aa) G fun _ PS _=>?_;exact Va G G<|J2 0 0 G G G G (A2 G) A7<|Ac<|BA<|Ej PS G trivial G (Ad 0 G Aa)
theorem Az'(AH:s.pos<=J.length)(Cu:cells[o]? =some (.string ByteArray.empty)):Aw AG 107 [By,.pointer (some ⟨b,o,none⟩)] [AO b T cells,AuD p bv s] [⟨By,(⟨⟨p⟩⟩:Cq AuH)⟩,⟨bv,J⟩] (fun(_:Unit) _=>True) (fun _ _=>[AO b T (Ea J [o] (cells,s)).1,AuD p bv (Ea J [o] (cells,s)).2]) (fun _ _=>[]):=by
 refine Aw.proof Tryz.func107 G 38 G G fun X w=>?_;have A7:=Rj Cu;exact Ae<|CT dg G fun En=>Fi 0 G G G (A2 G) G (Da G)<|Ac<|Am<|Ae<|An G G<|Co 0 G G G<|CJ 0 AuM G G (BR G) G fun EZ=>CQ 0 G G (A2 G) G fun gE=>M3 ACf G G G<|Ac<|LW G<|AZ<|Ae<|An G G<|oA (α:=UInt8)<|D9 2 G<|D9 1 G<|Hs 2 (nM By bv p J s En 29 [.slice none 0 0] 0 AI AH G) (Ar G) G G (BE [2,3,0] G) G fun y ue L'=>Ac<|rg<|An G G<|ME 0 G G (A2 G) (show _=some y from G) G<|xU 0 ABT AC' ABO G G G<|Va G G<|Fi 2 G G G (A2 G) G A7<|nl<|AQ<|Au 1 G<|Dz () G trivial G Aa
theorem Avl(n:Int)(AH:s.pos<=J.length):Aw AG 202 [By,.int .i64 n] [AuD p bv s] [⟨By,(⟨⟨p⟩⟩:Cq AuH)⟩,⟨bv,J⟩] (fun(_:Unit) v=>v=.int .i64 ((DT J 1024 s).1:Int)) (fun _ _=>[AuD p bv (DT J 1024 s).2]) (fun _ _=>[]):=by
 refine Aw.proof Tryz.func202 G 38 G G fun X w=>AF 1 G<|Am<|Ae<|An G G<|Co 0 G G G<|CJ 0 AuM G G (BR G) G fun EZ=>CQ 0 G G (A2 G) G fun gE=>rG ACf G G G<|Ac<|Mv G<|Ae<|An G G<|Co 1 G G G<|CJ 1 AuM G G (BR G) G fun gz=>CQ 0 G G (A2 G) G fun AkQ=>Ch 0 (Aw0 p bv J s 1024 BV AH) (Ar G) G G (Ad 3 G Aa) G fun _ PS Fm=>?_;have Fm:PS=.int .i64 ((DT J 1024 s).1:Int):=Fm;subst Fm;exact U 1 G<|Ac<|BA<|Bq () G G G G Aa
theorem rA:Aw AG 203 [By] [AuD p bv s] [⟨By,(⟨⟨p⟩⟩:Cq AuH)⟩] (fun(_:Unit) v=>v=.bool (decide ((s.fault:Int)=0))) (fun _ _=>[AuD p bv s]) (fun _ _=>[]):=by
 exact Aw.proof Tryz.func203 G 29 G G fun X w=>AF 1 G<|Am<|Ae<|An G G<|Co 0 G G G<|CJ 0 AuM G G (BR G) G fun Mp=>CQ 0 G G (A2 G) G fun Xt=>rG ACf G G G<|Ac<|Mv G<|Ae<|An G G<|Co 1 G G G<|CJ 1 AuM G G (BR G) G fun v10=>CQ 0 G G (A2 G) G fun SD=>AX 5 [0] G G<|Ac<|BA<|Bq () G G G G Aa
end
section
variable(By bv:Value) (p:Nat) (J:List UInt8) (s:Bb) (b T:Nat) (cells:List Value) (q:List Value×Bb) (o:Nat)
theorem NO(Bk:Value)(p:Nat)(J:List UInt8)(b T:Nat)(q:List Value×Bb)(offs:List Nat)(AH:q.2.pos<=J.length)(Cu:gQ q.1 offs)(Ao:offs.Nodup):Aw AG 105 [By,Bk] [AO b T q.1,AuD p bv q.2] [⟨By,(⟨⟨p⟩⟩:Cq AuH)⟩,⟨bv,J⟩,⟨Bk,NW b offs⟩] (fun(_:Unit) _=>True) (fun _ _=>[AO b T (CO J offs q).1,AuD p bv (CO J offs q).2]) (fun _ _=>[]):=
 qs By bv Bk p J q.2 b T q.1 offs AH Cu Ao
theorem Aw'(AH:q.2.pos<=J.length)(Cu:q.1[o]? =some (.int .i64 0)):Aw AG 108 [By,.pointer (some ⟨b,o,none⟩)] [AO b T q.1,AuD p bv q.2] [⟨By,(⟨⟨p⟩⟩:Cq AuH)⟩,⟨bv,J⟩] (fun(_:Unit) _=>True) (fun _ _=>[AO b T (CO J [o] q).1,AuD p bv (CO J [o] q).2]) (fun _ _=>[]):=
 Aws By bv p J q.2 b T q.1 o AH Cu
theorem Au7(AH:q.2.pos<=J.length)(Cu:q.1[o]? =some (.string ByteArray.empty)):Aw AG 107 [By,.pointer (some ⟨b,o,none⟩)] [AO b T q.1,AuD p bv q.2] [⟨By,(⟨⟨p⟩⟩:Cq AuH)⟩,⟨bv,J⟩] (fun(_:Unit) _=>True) (fun _ _=>[AO b T (Ea J [o] q).1,AuD p bv (Ea J [o] q).2]) (fun _ _=>[]):=
 Az' By bv p J q.2 b T q.1 o AH Cu
theorem o0(AH:q.2.pos<=J.length)(Cu:q.1[o]? =some (.bool false)):Aw AG 106 [By,.pointer (some ⟨b,o,none⟩)] [AO b T q.1,AuD p bv q.2] [⟨By,(⟨⟨p⟩⟩:Cq AuH)⟩,⟨bv,J⟩] (fun(_:Unit) _=>True) (fun _ _=>[AO b T (E9 J o q).1,AuD p bv (E9 J o q).2]) (fun _ _=>[]):=
 zR By bv p J q.2 b T q.1 o AH Cu
theorem xP(u:Value)(AH:q.2.pos<=J.length)(Cu:q.1[o]? =some u):Aw AG 115 [By,.pointer (some ⟨b,o,none⟩)] [AO b T q.1,AuD p bv q.2] [⟨By,(⟨⟨p⟩⟩:Cq AuH)⟩,⟨bv,J⟩,⟨u,([]:List UInt8)⟩] (fun(_:Value) _=>True) (fun y _=>[AO b T (C7 o y (Gm J 65535) q).1,AuD p bv (C7 o y (Gm J 65535) q).2]) (fun y _=>[⟨y,(Gm J 65535 q.2).1⟩]):=
 nM By bv p J q.2 b T q.1 o u AH Cu
theorem Afy(AH:s.pos<=J.length)(bl:cells[o]? =some (.int .i64 0))(Tw:cells[o+1]? =some (.string ByteArray.empty))(PE:cells[o+2]? =some (.string ByteArray.empty))(WH:cells[o+3]? =some (.int .i64 0))(bm:cells[o+4]? =some (.int .i64 0))(bn:cells[o+5]? =some (.int .i64 0)):Aw AG 278 [By,.pointer (some ⟨b,o,none⟩)] [AO b T cells,AuD p bv s] [⟨By,(⟨⟨p⟩⟩:Cq AuH)⟩,⟨bv,J⟩] (fun(_:Unit) _=>True) (fun _ _=>[AO b T (Hy J o (cells,s)).1,AuD p bv (Hy J o (cells,s)).2]) (fun _ _=>[]):=by
 exact Aw.proof Tryz.func278 G 31 G G fun X w=>Ae<|U 4 G<|Hs 2 (Aw' By bv p J b T (cells,s) o AH (by first|assumption|(repeat first|rw[WJ (by simp only[ABf,ABh,ABi];omega)]|rw[Xi (by simp only[ABf,ABh,ABi];omega)]);assumption)) (Ar G) G G (BE [0,1] G) G fun _ _ _=>Ac<|Ae<|U 4 G<|Hs 2 (Au7 By bv p J b T (CO J [o] (cells,s)) (o+1) (Hw AH) (by first|assumption|(repeat first|rw[WJ (by simp only[ABf,ABh,ABi];omega)]|rw[Xi (by simp only[ABf,ABh,ABi];omega)]);assumption)) (Ar G) G G (BE [0,1] G) G fun _ _ _=>Ac<|Ae<|U 4 G<|Hs 2 (Au7 By bv p J b T (Ea J [(o+1)] (CO J [o] (cells,s))) (o+2) (MP (Hw AH)) (by first|assumption|(repeat first|rw[WJ (by simp only[ABf,ABh,ABi];omega)]|rw[Xi (by simp only[ABf,ABh,ABi];omega)]);assumption)) (Ar G) G G (BE [0,1] G) G fun _ _ _=>Ac<|MM b [(o+3),(o+4),(o+5)] [1,2,0] (fun u=>NO By bv u p J b T (Ea J [(o+2)] (Ea J [(o+1)] (CO J [o] (cells,s)))) [(o+3),(o+4),(o+5)] (MP (MP (Hw AH))) (by intro x Ab;simp only[ABf,ABh,ABi]at Ab;rcases Ab with rfl|rfl|rfl<;>first|assumption|(repeat first|rw[WJ (by simp only[ABf,ABh,ABi];omega)]|rw[Xi (by simp only[ABf,ABh,ABi];omega)]);assumption) (by simp)) (Ar G) HB G G AGo (fun _=>G)<|Dz () G trivial G Aa
theorem Afz(AH:q.2.pos<=J.length)(bl:q.1[o]? =some (.int .i64 0))(Tw:q.1[o+1]? =some (.string ByteArray.empty))(PE:q.1[o+2]? =some (.string ByteArray.empty))(WH:q.1[o+3]? =some (.int .i64 0))(bm:q.1[o+4]? =some (.int .i64 0))(bn:q.1[o+5]? =some (.int .i64 0)):Aw AG 278 [By,.pointer (some ⟨b,o,none⟩)] [AO b T q.1,AuD p bv q.2] [⟨By,(⟨⟨p⟩⟩:Cq AuH)⟩,⟨bv,J⟩] (fun(_:Unit) _=>True) (fun _ _=>[AO b T (Hy J o q).1,AuD p bv (Hy J o q).2]) (fun _ _=>[]):=
 Afy By bv p J q.2 b T q.1 o AH bl Tw PE WH bm bn
theorem Ahy(AH:s.pos<=J.length)(bl:cells[o]? =some (.int .i64 0))(Tw:cells[o+1]? =some (.int .i64 0))(PE:cells[o+2]? =some (.int .i64 0))(WH:cells[o+3]? =some (.string ByteArray.empty))(bm:cells[o+4]? =some (.string ByteArray.empty))(bn:cells[o+5]? =some (.int .i64 0))(qg:cells[o+6]? =some (.int .i64 0)):Aw AG 114 [By,.pointer (some ⟨b,o,none⟩)] [AO b T cells,AuD p bv s] [⟨By,(⟨⟨p⟩⟩:Cq AuH)⟩,⟨bv,J⟩] (fun(_:Unit) _=>True) (fun _ _=>[AO b T (Ga J o (cells,s)).1,AuD p bv (Ga J o (cells,s)).2]) (fun _ _=>[]):=by
 exact Aw.proof Tryz.func114 G 35 G G fun X w=>Am<|MM b [o,(o+1),(o+2)] [1,2,0] (fun u=>NO By bv u p J b T (cells,s) [o,(o+1),(o+2)] AH (by intro x Ab;simp only[ABf,ABh,ABi]at Ab;rcases Ab with rfl|rfl|rfl<;>first|assumption|(repeat first|rw[WJ (by simp only[ABf,ABh,ABi];omega)]|rw[Xi (by simp only[ABf,ABh,ABi];omega)]);assumption) (by simp)) (Ar G) HB G G AGo (fun _=>G)<|A5<|Ae<|U 4 G<|Hs 2 (Au7 By bv p J b T (CO J [o,(o+1),(o+2)] (cells,s)) (o+3) (Hw AH) (by first|assumption|(repeat first|rw[WJ (by simp only[ABf,ABh,ABi];omega)]|rw[Xi (by simp only[ABf,ABh,ABi];omega)]);assumption)) (Ar G) G G (BE [0,1] G) G fun _ _ _=>Ac<|Ae<|U 4 G<|Hs 2 (Au7 By bv p J b T (Ea J [(o+3)] (CO J [o,(o+1),(o+2)] (cells,s))) (o+4) (MP (Hw AH)) (by first|assumption|(repeat first|rw[WJ (by simp only[ABf,ABh,ABi];omega)]|rw[Xi (by simp only[ABf,ABh,ABi];omega)]);assumption)) (Ar G) G G (BE [0,1] G) G fun _ _ _=>Ac<|MM b [(o+5),(o+6)] [1,2,0] (fun u=>NO By bv u p J b T (Ea J [(o+4)] (Ea J [(o+3)] (CO J [o,(o+1),(o+2)] (cells,s)))) [(o+5),(o+6)] (MP (MP (Hw AH))) (by intro x Ab;simp only[ABf,ABh,ABi]at Ab;rcases Ab with rfl|rfl<;>first|assumption|(repeat first|rw[WJ (by simp only[ABf,ABh,ABi];omega)]|rw[Xi (by simp only[ABf,ABh,ABi];omega)]);assumption) (by simp)) (Ar G) HB G G AGo (fun _=>G)<|Dz () G trivial G Aa
theorem sk(AH:q.2.pos<=J.length)(bl:q.1[o]? =some (.int .i64 0))(Tw:q.1[o+1]? =some (.int .i64 0))(PE:q.1[o+2]? =some (.int .i64 0))(WH:q.1[o+3]? =some (.string ByteArray.empty))(bm:q.1[o+4]? =some (.string ByteArray.empty))(bn:q.1[o+5]? =some (.int .i64 0))(qg:q.1[o+6]? =some (.int .i64 0)):Aw AG 114 [By,.pointer (some ⟨b,o,none⟩)] [AO b T q.1,AuD p bv q.2] [⟨By,(⟨⟨p⟩⟩:Cq AuH)⟩,⟨bv,J⟩] (fun(_:Unit) _=>True) (fun _ _=>[AO b T (Ga J o q).1,AuD p bv (Ga J o q).2]) (fun _ _=>[]):=
 Ahy By bv p J q.2 b T q.1 o AH bl Tw PE WH bm bn qg
theorem Az5(AH:s.pos<=J.length)(bl:cells[o]? =some (.int .i64 0))(Tw:cells[o+1]? =some (.int .i64 0)):Aw AG 274 [By,.pointer (some ⟨b,o,none⟩)] [AO b T cells,AuD p bv s] [⟨By,(⟨⟨p⟩⟩:Cq AuH)⟩,⟨bv,J⟩] (fun(_:Unit) _=>True) (fun _ _=>[AO b T (AuJ J o (cells,s)).1,AuD p bv (AuJ J o (cells,s)).2]) (fun _ _=>[]):=by
 exact Aw.proof Tryz.func274 G 13 G G fun X w=>MM b [o,(o+1)] [1,2,0] (fun u=>NO By bv u p J b T (cells,s) [o,(o+1)] AH (by intro x Ab;simp only[ABf,ABh,ABi]at Ab;rcases Ab with rfl|rfl<;>first|assumption|(repeat first|rw[WJ (by simp only[ABf,ABh,ABi];omega)]|rw[Xi (by simp only[ABf,ABh,ABi];omega)]);assumption) (by simp)) (Ar G) HB G G AGo (fun _=>G)<|Dz () G trivial G Aa
theorem Az6(AH:q.2.pos<=J.length)(bl:q.1[o]? =some (.int .i64 0))(Tw:q.1[o+1]? =some (.int .i64 0)):Aw AG 274 [By,.pointer (some ⟨b,o,none⟩)] [AO b T q.1,AuD p bv q.2] [⟨By,(⟨⟨p⟩⟩:Cq AuH)⟩,⟨bv,J⟩] (fun(_:Unit) _=>True) (fun _ _=>[AO b T (AuJ J o q).1,AuD p bv (AuJ J o q).2]) (fun _ _=>[]):=
 Az5 By bv p J q.2 b T q.1 o AH bl Tw
theorem AyY(AH:s.pos<=J.length)(bl:cells[o]? =some (.int .i64 0))(Tw:cells[o+1]? =some (.int .i64 0))(PE:cells[o+2]? =some (.int .i64 0))(WH:cells[o+3]? =some (.int .i64 0)):Aw AG 276 [By,.pointer (some ⟨b,o,none⟩)] [AO b T cells,AuD p bv s] [⟨By,(⟨⟨p⟩⟩:Cq AuH)⟩,⟨bv,J⟩] (fun(_:Unit) _=>True) (fun _ _=>[AO b T (AuL J o (cells,s)).1,AuD p bv (AuL J o (cells,s)).2]) (fun _ _=>[]):=by
 exact Aw.proof Tryz.func276 G 19 G G fun X w=>MM b [o,(o+1),(o+2),(o+3)] [1,2,0] (fun u=>NO By bv u p J b T (cells,s) [o,(o+1),(o+2),(o+3)] AH (by intro x Ab;simp only[ABf,ABh,ABi]at Ab;rcases Ab with rfl|rfl|rfl|rfl<;>first|assumption|(repeat first|rw[WJ (by simp only[ABf,ABh,ABi];omega)]|rw[Xi (by simp only[ABf,ABh,ABi];omega)]);assumption) (by simp)) (Ar G) HB G G AGo (fun _=>G)<|Dz () G trivial G Aa
theorem AyZ(AH:q.2.pos<=J.length)(bl:q.1[o]? =some (.int .i64 0))(Tw:q.1[o+1]? =some (.int .i64 0))(PE:q.1[o+2]? =some (.int .i64 0))(WH:q.1[o+3]? =some (.int .i64 0)):Aw AG 276 [By,.pointer (some ⟨b,o,none⟩)] [AO b T q.1,AuD p bv q.2] [⟨By,(⟨⟨p⟩⟩:Cq AuH)⟩,⟨bv,J⟩] (fun(_:Unit) _=>True) (fun _ _=>[AO b T (AuL J o q).1,AuD p bv (AuL J o q).2]) (fun _ _=>[]):=
 AyY By bv p J q.2 b T q.1 o AH bl Tw PE WH
theorem Ax3(AH:s.pos<=J.length)(bl:cells[o]? =some (.int .i64 0))(Tw:cells[o+1]? =some (.int .i64 0))(PE:cells[o+2]? =some (.int .i64 0))(WH:cells[o+3]? =some (.int .i64 0)):Aw AG 277 [By,.pointer (some ⟨b,o,none⟩)] [AO b T cells,AuD p bv s] [⟨By,(⟨⟨p⟩⟩:Cq AuH)⟩,⟨bv,J⟩] (fun(_:Unit) _=>True) (fun _ _=>[AO b T (AuK J o (cells,s)).1,AuD p bv (AuK J o (cells,s)).2]) (fun _ _=>[]):=by
 refine Aw.proof Tryz.func277 G 27 G G fun X w=>?_;have A7:=Rj bl;exact Ae<|U 3 G<|ME 0 G G (A2 G) bl G<|CT df G fun En=>Fi 0 G G G (A2 G) G AGp<|Ac<|Ae<|An G G<|D9 2 G<|D9 1 G<|Hs 2 (Aws By bv p J s En 3 [.int .i64 0] 0 AH G) (Ar G) G G (BE [0,1] G) G fun _ _ _=>Ac<|Ae<|An G G<|ME 0 G G (A2 G) (show _=some (.int .i64 (D6 J s).1)from G) G<|U 2 G<|Fi 2 G G G (A2 G) G A7<|Ayh<|D9 1 G<|Ac<|MM b [(o+1),(o+2),(o+3)] [1,2,0] (fun u=>NO By bv u p J b T (CO J [o] (cells,s)) [(o+1),(o+2),(o+3)] (Hw AH) (by intro x Ab;simp only[ABf,ABh,ABi]at Ab;rcases Ab with rfl|rfl|rfl<;>first|assumption|(repeat first|rw[WJ (by simp only[ABf,ABh,ABi];omega)]|rw[Xi (by simp only[ABf,ABh,ABi];omega)]);assumption) (by simp)) (Ar G) HB G G AGo (fun _=>G)<|Dz () G trivial G Aa
theorem Ax4(AH:q.2.pos<=J.length)(bl:q.1[o]? =some (.int .i64 0))(Tw:q.1[o+1]? =some (.int .i64 0))(PE:q.1[o+2]? =some (.int .i64 0))(WH:q.1[o+3]? =some (.int .i64 0)):Aw AG 277 [By,.pointer (some ⟨b,o,none⟩)] [AO b T q.1,AuD p bv q.2] [⟨By,(⟨⟨p⟩⟩:Cq AuH)⟩,⟨bv,J⟩] (fun(_:Unit) _=>True) (fun _ _=>[AO b T (AuK J o q).1,AuD p bv (AuK J o q).2]) (fun _ _=>[]):=
 Ax3 By bv p J q.2 b T q.1 o AH bl Tw PE WH
end
end Go.Proofs.YtalfaopffbkdnaaGreat.Ref
namespace Go.Apw
section
variable(J:List UInt8) (s:Bb) (Pm db AuN Uk AuP ArN AuT:Value)
theorem AyB:(CO J [0,1,2,3] (vx,s))=(JH (Iu J s).1,(Iu J s).2):=by
 simp only[CO,Iu,Di,ABt,ABu]
theorem AyA:(CO J [0,1] (vy,s))=(QT (HF J s).1,(HF J s).2):=by
 simp only[CO,HF,Di,ABt,ABu]
theorem Ayz:(CO J [4,5,6,7] (Ea J [3] (Ea J [2] (CO J [0,1] (XH,s)))))=(H8 (Hk J s).1,(Hk J s).2):=by
 simp only[CO,Ea,Hk,Di,ABt,ABu]
theorem AyC:(AuK J 3 (E9 J 2 (CO J [0,1] (dh,s))))=(H9 (GG J s).1,(GG J s).2):=by
 simp only[CO,E9,AuK,GG,UL,Di,ABt,ABu,Nat.reduceAdd]
theorem AyK:(Hy J 5 (CO J [0,1,2,3,4] (gU,s)))=(Hh (GX J s).1,(GX J s).2):=by
 simp only[CO,Ea,Hy,GX,Wc,Di,ABt,ABu,Nat.reduceAdd]
theorem Ayx:(AuL J 6 (C7 5 Pm (CS J (Iu J)) (CO J [3,4] (AuJ J 1 (Ea J [0] (N9,s))))))=(A3 (F2 J s).1 Pm,(F2 J s).2):=by
 simp only[CO,Ea,C7,AuJ,AuL,F2,UO,UM,Di,ABt,ABu,Nat.reduceAdd]
theorem Ayy(J:List UInt8)(s:Bb)(_:Value):(CS J (Iu J) (CO J [3,4] (AuJ J 1 (Ea J [0] (N9,s)))).2).1=(F2 J s).1.A0:=by
 simp only[CO,Ea,C7,AuJ,AuL,F2,UO,UM,Di,ABt,ABu,Nat.reduceAdd]
theorem AyD:(CO J [26,27,28] (C7 25 AuT (Gm J 65535) (Ga J 18 (Ga J 11 (C7 10 ArN (CS J (HF J)) (C7 9 AuP (CS J (Hk J)) (C7 8 Uk (CS J (GX J)) (C7 7 AuN (CS J (GG J)) (C7 6 db (CS J (F2 J)) (CO J [5] (Ea J [4] (Ea J [3] (E9 J 2 (CO J [0,1] (IQ,s)))))))))))))))=(BY (FC J s).1 db AuN Uk AuP ArN AuT,(FC J s).2):=by
 simp only[CO,Ea,E9,C7,Ga,FC,L_,L_,Di,ABt,ABu,Nat.reduceAdd]
theorem AyE(J:List UInt8)(s:Bb)(_ _ _ _ _ _:Value):(CS J (F2 J) (CO J [5] (Ea J [4] (Ea J [3] (E9 J 2 (CO J [0,1] (IQ,s)))))).2).1=(FC J s).1.Aj:=by
 simp only[CO,Ea,E9,C7,Ga,FC,L_,L_,Di,ABt,ABu,Nat.reduceAdd]
theorem AyF(J:List UInt8)(s:Bb)(db _ _ _ _ _:Value):(CS J (GG J) (C7 6 db (CS J (F2 J)) (CO J [5] (Ea J [4] (Ea J [3] (E9 J 2 (CO J [0,1] (IQ,s))))))).2).1=(FC J s).1.Bz:=by
 simp only[CO,Ea,E9,C7,Ga,FC,L_,L_,Di,ABt,ABu,Nat.reduceAdd]
theorem AyG(J:List UInt8)(s:Bb)(db AuN _ _ _ _:Value):(CS J (GX J) (C7 7 AuN (CS J (GG J)) (C7 6 db (CS J (F2 J)) (CO J [5] (Ea J [4] (Ea J [3] (E9 J 2 (CO J [0,1] (IQ,s)))))))).2).1=(FC J s).1.AA:=by
 simp only[CO,Ea,E9,C7,Ga,FC,L_,L_,Di,ABt,ABu,Nat.reduceAdd]
theorem AyH(J:List UInt8)(s:Bb)(db AuN Uk _ _ _:Value):(CS J (Hk J) (C7 8 Uk (CS J (GX J)) (C7 7 AuN (CS J (GG J)) (C7 6 db (CS J (F2 J)) (CO J [5] (Ea J [4] (Ea J [3] (E9 J 2 (CO J [0,1] (IQ,s))))))))).2).1=(FC J s).1.Bj:=by
 simp only[CO,Ea,E9,C7,Ga,FC,L_,L_,Di,ABt,ABu,Nat.reduceAdd]
theorem AyI(J:List UInt8)(s:Bb)(db AuN Uk AuP _ _:Value):(CS J (HF J) (C7 9 AuP (CS J (Hk J)) (C7 8 Uk (CS J (GX J)) (C7 7 AuN (CS J (GG J)) (C7 6 db (CS J (F2 J)) (CO J [5] (Ea J [4] (Ea J [3] (E9 J 2 (CO J [0,1] (IQ,s)))))))))).2).1=(FC J s).1.CX:=by
 simp only[CO,Ea,E9,C7,Ga,FC,L_,L_,Di,ABt,ABu,Nat.reduceAdd]
theorem AyJ(J:List UInt8)(s:Bb)(db AuN Uk AuP ArN _:Value):(Gm J 65535 (Ga J 18 (Ga J 11 (C7 10 ArN (CS J (HF J)) (C7 9 AuP (CS J (Hk J)) (C7 8 Uk (CS J (GX J)) (C7 7 AuN (CS J (GG J)) (C7 6 db (CS J (F2 J)) (CO J [5] (Ea J [4] (Ea J [3] (E9 J 2 (CO J [0,1] (IQ,s))))))))))))).2).1=(FC J s).1.Cf:=by
 simp only[CO,Ea,E9,C7,Ga,FC,L_,L_,Di,ABt,ABu,Nat.reduceAdd]
end
end Go.Apw
namespace Go.Proofs.YtalfaopffbkdnaaGreat.Ref
section
variable(By bv:Value) (p:Nat) (J:List UInt8) (s:Bb) (b:Nat)
theorem Ab4(AH:s.pos<=J.length):Aw AG 302 [By,.pointer (some ⟨b,0,none⟩)] [AO b 83 vx,AuD p bv s] [⟨By,(⟨⟨p⟩⟩:Cq AuH)⟩,⟨bv,J⟩] (fun(_:Unit) _=>True) (fun _ _=>[AO b 83 (JH (Iu J s).1),AuD p bv (Iu J s).2]) (fun _ _=>[]):=by
 exact Aw.proof Tryz.func302 G 19 G G fun X w=>MM b [0,1,2,3] [1,2,0] (fun u=>NO By bv u p J b 83 (vx,s) [0,1,2,3] AH (SL G) AGp) (Ar G) HB G G AGo (fun _=>G)<|Dz () G trivial (by simp only[AyB,ABU,ABK]<;>rfl) Aa
theorem y0(AH:s.pos<=J.length):Aw AG 208 [By,.pointer (some ⟨b,0,none⟩)] [AO b 125 vy,AuD p bv s] [⟨By,(⟨⟨p⟩⟩:Cq AuH)⟩,⟨bv,J⟩] (fun(_:Unit) _=>True) (fun _ _=>[AO b 125 (QT (HF J s).1),AuD p bv (HF J s).2]) (fun _ _=>[]):=by
 exact Aw.proof Tryz.func208 G 13 G G fun X w=>MM b [0,1] [1,2,0] (fun u=>NO By bv u p J b 125 (vy,s) [0,1] AH (SL G) AGp) (Ar G) HB G G AGo (fun _=>G)<|Dz () G trivial (by simp only[AyA,ABU,ABK]<;>rfl) Aa
theorem yv(AH:s.pos<=J.length):Aw AG 207 [By,.pointer (some ⟨b,0,none⟩)] [AO b 52 XH,AuD p bv s] [⟨By,(⟨⟨p⟩⟩:Cq AuH)⟩,⟨bv,J⟩] (fun(_:Unit) _=>True) (fun _ _=>[AO b 52 (H8 (Hk J s).1),AuD p bv (Hk J s).2]) (fun _ _=>[]):=by
 exact Aw.proof Tryz.func207 G 38 G G fun X w=>Am<|MM b [0,1] [1,2,0] (fun u=>NO By bv u p J b 52 (XH,s) [0,1] AH (SL G) AGp) (Ar G) HB G G AGo (fun _=>G)<|A5<|Ae<|U 4 G<|Hs 2 (Au7 By bv p J b 52 (CO J [0,1] (XH,s)) 2 (Hw AH) G) (Ar G) G G (BE [0,1] G) G fun _ _ _=>Ac<|Ae<|U 4 G<|Hs 2 (Au7 By bv p J b 52 (Ea J [2] (CO J [0,1] (XH,s))) 3 (MP (Hw AH)) G) (Ar G) G G (BE [0,1] G) G fun _ _ _=>Ac<|MM b [4,5,6,7] [1,2,0] (fun u=>NO By bv u p J b 52 (Ea J [3] (Ea J [2] (CO J [0,1] (XH,s)))) [4,5,6,7] (MP (MP (Hw AH))) (SL G) AGp) (Ar G) HB G G AGo (fun _=>G)<|Dz () G trivial (by simp only[Ayz,ABU,ABK]<;>rfl) Aa
theorem Aeb(AH:s.pos<=J.length):Aw AG 205 [By,.pointer (some ⟨b,0,none⟩)] [AO b 54 dh,AuD p bv s] [⟨By,(⟨⟨p⟩⟩:Cq AuH)⟩,⟨bv,J⟩] (fun(_:Unit) _=>True) (fun _ _=>[AO b 54 (H9 (GG J s).1),AuD p bv (GG J s).2]) (fun _ _=>[]):=by
 exact Aw.proof Tryz.func205 G 23 G G fun X w=>Am<|MM b [0,1] [1,2,0] (fun u=>NO By bv u p J b 54 (dh,s) [0,1] AH (SL G) AGp) (Ar G) HB G G AGo (fun _=>G)<|A5<|Ae<|U 4 G<|Hs 2 (o0 By bv p J b 54 (CO J [0,1] (dh,s)) 2 (Hw AH) G) (Ar G) G G (BE [0,1] G) G fun _ _ _=>Ac<|rg<|U 4 G<|Hs 2 (Ax4 By bv p J b 54 (E9 J 2 (CO J [0,1] (dh,s))) 3 (Pw (Hw AH)) G G G G) (Ar G) G G (BE [0,1] G) G fun _ _ _=>nl<|Dz () G trivial (by simp only[AyC,ABU,ABK]<;>rfl) Aa
theorem Ak5(AH:s.pos<=J.length):Aw AG 206 [By,.pointer (some ⟨b,0,none⟩)] [AO b 50 gU,AuD p bv s] [⟨By,(⟨⟨p⟩⟩:Cq AuH)⟩,⟨bv,J⟩] (fun(_:Unit) _=>True) (fun _ _=>[AO b 50 (Hh (GX J s).1),AuD p bv (GX J s).2]) (fun _ _=>[]):=by
 exact Aw.proof Tryz.func206 G 27 G G fun X w=>Am<|MM b [0,1,2,3,4] [1,2,0] (fun u=>NO By bv u p J b 50 (gU,s) [0,1,2,3,4] AH (SL G) AGp) (Ar G) HB G G AGo (fun _=>G)<|A5<|rg<|U 4 G<|Hs 2 (Afz By bv p J b 50 (CO J [0,1,2,3,4] (gU,s)) 5 (Hw AH) G G G G G G) (Ar G) G G (BE [0,1] G) G fun _ _ _=>nl<|Dz () G trivial (by simp only[AyK,ABU,ABK]<;>rfl) Aa
end
end Go.Proofs.YtalfaopffbkdnaaGreat.Ref
