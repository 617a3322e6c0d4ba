/- Part 11 of shardOnce_holds. -/
import Derived.Test.YtalfaopffbkdnaaGreatSdm10

set_option maxRecDepth 20000
set_option maxHeartbeats 1000000
namespace Go.Proofs.YtalfaopffbkdnaaGreat.XM
open Go.A_ Go.Apw
section
theorem AjP(By bv:Value)(p:Nat)(J:List UInt8)(s:Bb)(b:Nat)(AH:s.pos<=J.length):Aw AG 144 [By,.pointer (some ⟨b,0,none⟩)] [AO b 31 IQ,CG p bv s] [⟨By,(⟨⟨p⟩⟩:Cq Gb)⟩,⟨bv,J⟩] (fun(_:Value×Value×Value×Value×Value×Value) _=>True) (fun y _=>[AO b 31 (BY (FC J s).1 y.1 y.2.1 y.2.2.1 y.2.2.2.1 y.2.2.2.2.1 y.2.2.2.2.2),CG p bv (FC J s).2]) (fun y _=>[⟨y.1,(FC J s).1.Aj⟩,⟨y.2.1,(FC J s).1.Bz⟩,⟨y.2.2.1,(FC J s).1.AA⟩,⟨y.2.2.2.1,(FC J s).1.Bj⟩,⟨y.2.2.2.2.1,(FC J s).1.CX⟩,⟨y.2.2.2.2.2,(FC J s).1.Cf⟩]):=by
 refine Aw.proof Tryz.func144 G 95 G G fun X w=>Am<|MM b [0,1] [1,2,0] (fun u=>NO By bv u p J b 31 (IQ,s) [0,1] AH (SL G) (by decide)) (Ar G) HB G G (by kernel_rfl) (fun _=>G)<|A5<|Ae<|U 4 G<|Hs 2 (o0 By bv p J b 31 (CO J [0,1] (IQ,s)) 2 (Hw AH) G) (Ar G) G G (BE [0,1] G) G fun _ _ _=>Ac<|Am<|MM b [3,4] [1,2,0] (fun u=>cK By bv u p J b 31 (E9 J 2 (CO J [0,1] (IQ,s))) [3,4] (Pw (Hw AH)) (vr G) (by decide)) (Ar G) QO G G (by kernel_rfl) (fun _=>G)<|A5<|Ae<|U 4 G<|BH (xs:=[.tmp 30]) (us:=[.pointer (some ⟨b,5,none⟩)]) (E:=171) (bytes:=8) (n:=1) G (by exact HB) G G G G G G fun xl=>Q5 (NW b [5]) ([5].map fun o=>[.pointer (some ⟨b,o,none⟩)]) G (fun S w h=>Y5 S w _) (Nat.le_of_ble_eq_true G)<|Hs 2 (NO By bv _ p J b 31 (Ea J [3,4] (E9 J 2 (CO J [0,1] (IQ,s)))) [5] (MP (Pw (Hw AH))) (by intro x Ab;simp only[List.mem_cons,List.not_mem_nil,or_false]at Ab;rcases Ab with rfl<;>rfl) (by decide)) (Ar G) G G (BE [1,2,0] G) G fun _ _ _=>Ac<|Ae<|U 5 G<|Ql (ys:=[.tmp 37]) (xs:=[]) G G G<|Hs 2 (Adx By bv p J b 31 (CO J [5] (Ea J [3,4] (E9 J 2 (CO J [0,1] (IQ,s))))) 6 (Hw (MP (Pw (Hw AH)))) G) (Ar G) G G (BE [1,2] G) G fun I' _ _=>Ac<|Ae<|U 5 G<|Ql (ys:=[.tmp 44]) (xs:=[]) G G G<|Hs 2 (AdK By bv p J b 31 (C7 6 I' (CS J (F2 J)) (CO J [5] (Ea J [3,4] (E9 J 2 (CO J [0,1] (IQ,s)))))) 7 (Ik (Ij (fun _ hh=>Td hh) (Hw (MP (Pw (Hw AH)))))) G) (Ar G) G G (BE [2,3] G) G fun Ja _ _=>Ac<|Ae<|U 5 G<|Ql (ys:=[.tmp 51]) (xs:=[]) G G G<|Hs 2 (AdP By bv p J b 31 (C7 7 Ja (CS J (GG J)) (C7 6 I' (CS J (F2 J)) (CO J [5] (Ea J [3,4] (E9 J 2 (CO J [0,1] (IQ,s))))))) 8 (Ik (Ij (fun _ hh=>UN hh) (Ik (Ij (fun _ hh=>Td hh) (Hw (MP (Pw (Hw AH)))))))) G) (Ar G) G G (BE [3,4] G) G fun Kf _ _=>Ac<|Ae<|U 5 G<|Ql (ys:=[.tmp 58]) (xs:=[]) G G G<|Hs 2 (AdA By bv p J b 31 (C7 8 Kf (CS J (GX J)) (C7 7 Ja (CS J (GG J)) (C7 6 I' (CS J (F2 J)) (CO J [5] (Ea J [3,4] (E9 J 2 (CO J [0,1] (IQ,s)))))))) 9 (Ik (Ij (fun _ hh=>Wd hh) (Ik (Ij (fun _ hh=>UN hh) (Ik (Ij (fun _ hh=>Td hh) (Hw (MP (Pw (Hw AH)))))))))) G) (Ar G) G G (BE [4,5] G) G fun HS _ _=>Ac<|Ae<|U 5 G<|Ql (ys:=[.tmp 65]) (xs:=[]) G G G<|Hs 2 (AdD By bv p J b 31 (C7 9 HS (CS J (Hk J)) (C7 8 Kf (CS J (GX J)) (C7 7 Ja (CS J (GG J)) (C7 6 I' (CS J (F2 J)) (CO J [5] (Ea J [3,4] (E9 J 2 (CO J [0,1] (IQ,s))))))))) 10 (Ik (Ij (fun _ hh=>Ye hh) (Ik (Ij (fun _ hh=>Wd hh) (Ik (Ij (fun _ hh=>UN hh) (Ik (Ij (fun _ hh=>Td hh) (Hw (MP (Pw (Hw AH)))))))))))) (by simp only[CO,Ea,E9,C7,List.set_cons_zero,List.set_cons_succ,List.getElem?_cons_succ,List.getElem?_cons_zero])) (Ar G) G G (BE [5,6] G) G fun KF _ _=>?_
 refine Ac<|Ae<|U 4 G<|Hs 2 (sk By bv p J b 31 (C7 10 KF (CS J (HF J)) (C7 9 HS (CS J (Hk J)) (C7 8 Kf (CS J (GX J)) (C7 7 Ja (CS J (GG J)) (C7 6 I' (CS J (F2 J)) (CO J [5] (Ea J [3,4] (E9 J 2 (CO J [0,1] (IQ,s)))))))))) 11 (Ik (Ij (fun _ hh=>aF hh) (Ik (Ij (fun _ hh=>Ye hh) (Ik (Ij (fun _ hh=>Wd hh) (Ik (Ij (fun _ hh=>UN hh) (Ik (Ij (fun _ hh=>Td hh) (Hw (MP (Pw (Hw AH)))))))))))))) (by simp only[CO,Ea,E9,C7,List.set_cons_zero,List.set_cons_succ,List.getElem?_cons_succ,List.getElem?_cons_zero]) (by simp only[CO,Ea,E9,C7,List.set_cons_zero,List.set_cons_succ,Nat.reduceAdd,List.getElem?_cons_succ,List.getElem?_cons_zero]) (by simp only[CO,Ea,E9,C7,List.set_cons_zero,List.set_cons_succ,Nat.reduceAdd,List.getElem?_cons_succ,List.getElem?_cons_zero]) (by simp only[CO,Ea,E9,C7,List.set_cons_zero,List.set_cons_succ,Nat.reduceAdd,List.getElem?_cons_succ,List.getElem?_cons_zero]) (by simp only[CO,Ea,E9,C7,List.set_cons_zero,List.set_cons_succ,Nat.reduceAdd,List.getElem?_cons_succ,List.getElem?_cons_zero]) (by simp only[CO,Ea,E9,C7,List.set_cons_zero,List.set_cons_succ,Nat.reduceAdd,List.getElem?_cons_succ,List.getElem?_cons_zero]) (by simp only[CO,Ea,E9,C7,List.set_cons_zero,List.set_cons_succ,Nat.reduceAdd,List.getElem?_cons_succ,List.getElem?_cons_zero])) (Ar G) G G (BE [6,7] G) G fun _ _ _=>?_
 refine Ac<|Ae<|U 4 G<|Hs 2 (sk By bv p J b 31 (Ga J 11 (C7 10 KF (CS J (HF J)) (C7 9 HS (CS J (Hk J)) (C7 8 Kf (CS J (GX J)) (C7 7 Ja (CS J (GG J)) (C7 6 I' (CS J (F2 J)) (CO J [5] (Ea J [3,4] (E9 J 2 (CO J [0,1] (IQ,s))))))))))) 18 (b_ (Ik (Ij (fun _ hh=>aF hh) (Ik (Ij (fun _ hh=>Ye hh) (Ik (Ij (fun _ hh=>Wd hh) (Ik (Ij (fun _ hh=>UN hh) (Ik (Ij (fun _ hh=>Td hh) (Hw (MP (Pw (Hw AH))))))))))))))) (by simp only[CO,Ea,E9,C7,Ga,List.set_cons_zero,List.set_cons_succ,Nat.reduceAdd,List.getElem?_cons_succ,List.getElem?_cons_zero]) (by simp only[CO,Ea,E9,C7,Ga,List.set_cons_zero,List.set_cons_succ,Nat.reduceAdd,List.getElem?_cons_succ,List.getElem?_cons_zero]) (by simp only[CO,Ea,E9,C7,Ga,List.set_cons_zero,List.set_cons_succ,Nat.reduceAdd,List.getElem?_cons_succ,List.getElem?_cons_zero]) (by simp only[CO,Ea,E9,C7,Ga,List.set_cons_zero,List.set_cons_succ,Nat.reduceAdd,List.getElem?_cons_succ,List.getElem?_cons_zero]) (by simp only[CO,Ea,E9,C7,Ga,List.set_cons_zero,List.set_cons_succ,Nat.reduceAdd,List.getElem?_cons_succ,List.getElem?_cons_zero]) (by simp only[CO,Ea,E9,C7,Ga,List.set_cons_zero,List.set_cons_succ,Nat.reduceAdd,List.getElem?_cons_succ,List.getElem?_cons_zero]) (by simp only[CO,Ea,E9,C7,Ga,List.set_cons_zero,List.set_cons_succ,Nat.reduceAdd,List.getElem?_cons_succ,List.getElem?_cons_zero])) (Ar G) G G (BE [6,7] G) G fun _ _ _=>?_
 refine Ac<|Ae<|U 4 G<|oA (α:=UInt8)<|Hs 2 (xP By bv p J b 31 (Ga J 18 (Ga J 11 (C7 10 KF (CS J (HF J)) (C7 9 HS (CS J (Hk J)) (C7 8 Kf (CS J (GX J)) (C7 7 Ja (CS J (GG J)) (C7 6 I' (CS J (F2 J)) (CO J [5] (Ea J [3,4] (E9 J 2 (CO J [0,1] (IQ,s)))))))))))) 25 AI (b_ (b_ (Ik (Ij (fun _ hh=>aF hh) (Ik (Ij (fun _ hh=>Ye hh) (Ik (Ij (fun _ hh=>Wd hh) (Ik (Ij (fun _ hh=>UN hh) (Ik (Ij (fun _ hh=>Td hh) (Hw (MP (Pw (Hw AH)))))))))))))))) (by simp only[CO,Ea,E9,C7,Ga,List.set_cons_zero,List.set_cons_succ,Nat.reduceAdd,List.getElem?_cons_succ,List.getElem?_cons_zero])) (Ar G) G G (BE [7,8,0] G) G fun Ns _ _=>?_
 exact Ac<|MM b [26,27,28] [9,10,0] (fun u=>NO By bv u p J b 31 (C7 25 Ns (Gm J 65535) (Ga J 18 (Ga J 11 (C7 10 KF (CS J (HF J)) (C7 9 HS (CS J (Hk J)) (C7 8 Kf (CS J (GX J)) (C7 7 Ja (CS J (GG J)) (C7 6 I' (CS J (F2 J)) (CO J [5] (Ea J [3,4] (E9 J 2 (CO J [0,1] (IQ,s))))))))))))) [26,27,28] (Ik (Vf (b_ (b_ (Ik (Ij (fun _ hh=>aF hh) (Ik (Ij (fun _ hh=>Ye hh) (Ik (Ij (fun _ hh=>Wd hh) (Ik (Ij (fun _ hh=>UN hh) (Ik (Ij (fun _ hh=>Td hh) (Hw (MP (Pw (Hw AH)))))))))))))))))) (by intro x Ab;simp only[List.mem_cons,List.not_mem_nil,or_false]at Ab;rcases Ab with rfl|rfl|rfl<;>simp only[CO,Ea,E9,C7,Ga,List.set_cons_zero,List.set_cons_succ,Nat.reduceAdd,List.getElem?_cons_succ,List.getElem?_cons_zero]) (by decide)) (Ar G) HB G G (by kernel_rfl) (fun _=>G)<|Dz ⟨I',Ja,Kf,HS,KF,Ns⟩ G trivial (by simp only[Aai,List.cons_append,List.nil_append]<;>rfl) (by rw[<-Aaj J s I' Ja Kf HS KF Ns,<-Aak J s I' Ja Kf HS KF Ns,<-Aal J s I' Ja Kf HS KF Ns,<-Aam J s I' Ja Kf HS KF Ns,<-Aan J s I' Ja Kf HS KF Ns,<-Aao J s I' Ja Kf HS KF Ns];exact(Bg.cons 6 rfl (Bg.cons 5 rfl (Bg.cons 4 rfl (Bg.cons 3 rfl (Bg.cons 2 rfl (Bg.cons 0 rfl Bg.nil)))))))
attribute [local irreducible] FC D6 Gm Kw DT Q0 NF Lm
theorem Aim(By bv:Value)(p:Nat)(J:List UInt8)(s:Bb)(b:Nat)(AH:s.pos<=J.length):Aw AG 143 [By,.pointer (some ⟨b,0,none⟩)] [AO b 31 IQ,CG p bv s] [⟨By,(⟨⟨p⟩⟩:Cq Gb)⟩,⟨bv,J⟩] (fun(_:Value×Value×Value×Value×Value×Value) _=>True) (fun y _=>[AO b 31 (BY (FC J s).1 y.1 y.2.1 y.2.2.1 y.2.2.2.1 y.2.2.2.2.1 y.2.2.2.2.2),CG p bv (FC J s).2]) (fun y _=>[⟨y.1,(FC J s).1.Aj⟩,⟨y.2.1,(FC J s).1.Bz⟩,⟨y.2.2.1,(FC J s).1.AA⟩,⟨y.2.2.2.1,(FC J s).1.Bj⟩,⟨y.2.2.2.2.1,(FC J s).1.CX⟩,⟨y.2.2.2.2.2,(FC J s).1.Cf⟩]):=by
 exact Aw.proof Tryz.func143 G 5 G G fun X w=>rg<|An G G<|Hs 2 (AjP By bv p J s b AH) (Ar G) G G (BE [0,1] G) G fun y _ _=>nl<|Dz y G trivial G (Ad 0 G (Ad 1 G (Ad 2 G (Ad 3 G (Ad 4 G (Ad 5 G Aa))))))
theorem Aio(Bk:Value)(J:List UInt8)(b:Nat):Aw AG 142 [Bk,.func (.func 143) #[] #[.pointer (some ⟨b,0,none⟩)]] [AO b 31 IQ] [⟨Bk,J⟩] (fun(_:Value×Value×Value×Value×Value×Value) v=>v=.int .i64 (NF J)) (fun y _=>[AO b 31 (BY (Lm J) y.1 y.2.1 y.2.2.1 y.2.2.2.1 y.2.2.2.2.1 y.2.2.2.2.2)]) (fun y _=>[⟨y.1,(Lm J).Aj⟩,⟨y.2.1,(Lm J).Bz⟩,⟨y.2.2.1,(Lm J).AA⟩,⟨y.2.2.2.1,(Lm J).Bj⟩,⟨y.2.2.2.2.1,(Lm J).CX⟩,⟨y.2.2.2.2.2,(Lm J).Cf⟩]):=by
 refine Aw.proof Tryz.func142 G 30 G G fun X w=>AF 1 G<|Am<|Ae<|An G G<|C2 0 G G Tryz.underlying29 G fun MD=>U 1 G<|Ac<|B9 G (fun D2=>?_) (fun D2=>?_)
 ·
  have AN:65536<J.length:=by omega
  rw[lY AN,zn AN]
  exact DJ (α:=AD)<|DJ (α:=BL)<|DJ (α:=BX)<|DJ (α:=Bx)<|DJ (α:=Df)<|DJ (α:=UInt8)<|AF 1 G<|BA<|Bq (AI,AI,AI,AI,AI,AI) G G G G (Ad 5 G (Ad 4 G (Ad 3 G (Ad 2 G (Ad 1 G (Ad 0 G Aa))))))
 ·
  have AN:¬65536<J.length:=by omega
  rw[gn AN,oM AN]
  refine AZ<|Ae<|An G G<|Dm (MW.Aes Bk J (by omega)) (Ar G) G (Ad 0 G Aa) G fun AlD v10 Dq=>?_
  obtain⟨p,bv⟩:=AlD
  have Dq:v10=.pointer (some ⟨p,0,none⟩):=Dq
  subst Dq
  refine Db (ps:=[(0,.tmp 10)]) (cs:=[.pointer (some ⟨p,0,none⟩),.slice none 0 0,.bool false,.int .i64 0]) (by rfl) (by kernel_rfl) G<|CV G G G fun ns=>U 1 G<|Ac<|Ae<|M4 (α:=Gb) ⟨p⟩ (fun S w h=>⟨(),G,by simp,trivial⟩)<|U 2 G<|D9 1 G<|VX 2 (Aim (.pointer (some ⟨ns,0,none⟩)) bv p J ⟨0,0⟩ b (Nat.zero_le _)) (Ar G) G G G G (BE [0,1] G) G fun y _ _=>Ac<|Am<|Ae<|An G G<|Co 6 G G G<|CJ 6 sn G G (BR G) G fun Zq=>CQ 0 G G (A2 G) G fun AkR=>U 1 G<|Ac<|Fa G (fun HQ=>?_) (fun HQ=>?_)
  · exact absurd G HQ --#done
  ·
   refine AZ<|Ae<|An G G<|Co 7 G G G<|CJ 7 Ku G G (BR G) G fun N4=>CQ 0 G G (A2 G) G fun Uc=>Ch 1 (MW.y3 p bv J (FC J ⟨0,0⟩).2) (Ar G) G G (Ad 9 G Aa) G fun _ MR G5=>?_
   have G5:MR=.int .i64 (Q0 J (FC J ⟨0,0⟩).2):=G5
   subst G5
   exact U 1 G<|Ac<|rt<|Au 1 G<|AQ<|Bq y G G G G (Ad 2 G (Ad 3 G (Ad 4 G (Ad 5 G (Ad 6 G (Ad 7 G Aa))))))
end
section
attribute [local irreducible] FC D6 Gm Kw DT Q0 NF Lm
theorem Ain(Bk:Value)(J:List UInt8):Aw AG 71 [Bk] [] [⟨Bk,J⟩] (fun(y:Value×Value×Value×Value×Value×Value) r=>r=.tuple #[.agg (BY (Er J).1 y.1 y.2.1 y.2.2.1 y.2.2.2.1 y.2.2.2.2.1 y.2.2.2.2.2).toArray,.int .i64 (Er J).2]) (fun _ _=>[]) (fun y _=>[⟨y.1,(Er J).1.Aj⟩,⟨y.2.1,(Er J).1.Bz⟩,⟨y.2.2.1,(Er J).1.AA⟩,⟨y.2.2.2.1,(Er J).1.Bj⟩,⟨y.2.2.2.2.1,(Er J).1.CX⟩,⟨y.2.2.2.2.2,(Er J).1.Cf⟩]):=by
 refine Aw.proof Tryz.func71 G 14 G G fun X w=>Ae<|CT LQ G fun Dh=>U 1 G<|Ac<|Ae<|CT LQ G fun En=>Ac<|Am<|Ae<|An G G<|Nd (xs:=[.tmp 4]) G G<|Hs 1 (Aio Bk J En) (Ar G) G G (Ad 0 G Aa) G fun y T9 D2=>?_
 have D2:T9=.int .i64 (NF J):=D2
 subst D2
 obtain⟨KX,J5,Kd,Ke,IN,Ls⟩:=y
 refine U 1 G<|Ac<|AF 2 G<|Fa G (fun Dq=>?_) (fun Dq=>?_)
 ·
  rw[k8 Dq]
  exact DJ (α:=AD)<|DJ (α:=BL)<|DJ (α:=BX)<|DJ (α:=Bx)<|DJ (α:=Df)<|DJ (α:=UInt8)<|Ae<|Db (ps:=[]) (cs:=(BY Np AI AI AI AI AI AI)) (by rfl) (by kernel_rfl) G<|An G G<|BZ 1 (us:=(BY Np AI AI AI AI AI AI)) G G G (At G) G G<|U 1 G<|Ac<|BA<|D8 (AI,AI,AI,AI,AI,AI) [_,_] (Fp 1 G G G G (At G)) (by rfl) G (Ad 5 G (Ad 4 G (Ad 3 G (Ad 2 G (Ad 1 G (Ad 0 G Aa))))))
 ·
  rw[fN Dq]
  refine AZ<|Ae<|BJ 0 (BY ((Lm J)) KX J5 Kd Ke IN Ls) G G (At G) G G<|Cp 0 G fun bM=>?_
  refine Cp 1 G fun WW=>?_
  refine Cp 2 G fun bP=>?_
  refine Cp 3 G fun bQ=>?_
  refine Cp 4 G fun TH=>?_
  refine Cp 5 G fun bS=>?_
  exact BZ 1 (us:=(BY ((Lm J)) KX J5 Kd Ke IN Ls)) G G G (At G) (by simp only[List.all_cons,List.all_nil,Bool.and_true,bM,WW,bP,bQ,TH,bS];rfl) G<|U 1 G<|Ac<|rt<|D8 (KX,J5,Kd,Ke,IN,Ls) [_,_] (Fp 1 G G G G (At G)) (by rfl) G (Ad 0 G (Ad 1 G (Ad 2 G (Ad 3 G (Ad 4 G (Ad 5 G Aa))))))
end
end Go.Proofs.YtalfaopffbkdnaaGreat.XM
namespace Go.Proofs.YtalfaopffbkdnaaGreat.Ref
open Go.A_
end Go.Proofs.YtalfaopffbkdnaaGreat.Ref
namespace Go.Apw
open Go.A_
end Go.Apw
namespace Go.Proofs.YtalfaopffbkdnaaGreat.Ref
open Go.A_ Go.Apw
end Go.Proofs.YtalfaopffbkdnaaGreat.Ref
namespace Go.Apw
open Go.A_
end Go.Apw
namespace Go.Proofs.YtalfaopffbkdnaaGreat.Ref
open Go.A_ Go.Apw
end Go.Proofs.YtalfaopffbkdnaaGreat.Ref
namespace Go.Apw
open Go.A_
end Go.Apw
namespace Go.Proofs.YtalfaopffbkdnaaGreat.Ref
open Go.A_ Go.Apw
end Go.Proofs.YtalfaopffbkdnaaGreat.Ref
namespace Go.Apw
open Go.A_
end Go.Apw
namespace Go.Proofs.YtalfaopffbkdnaaGreat.Ref
open Go.A_ Go.Apw
section
attribute [local irreducible] UO UM Iu UL Wc L_ HF GG Hk GX F2 FC D6 Gm Kw DT
end
section
attribute [local irreducible] FC D6 Gm Kw DT
end
section
attribute [local irreducible] FC D6 Gm Kw DT Q0 NF Lm
end
end Go.Proofs.YtalfaopffbkdnaaGreat.Ref
namespace Go.Proofs.YtalfaopffbkdnaaGreat
open Go.A_ Go.Apw
theorem ln(PU:Value)(b:List UInt8):Aw AG 71 [PU] [] [⟨PU,b⟩] (fun(y:Value×Value×Value×Value×Value×Value) r=>r=.tuple #[.agg (BY (Er b).1 y.1 y.2.1 y.2.2.1 y.2.2.2.1 y.2.2.2.2.1 y.2.2.2.2.2).toArray,.int .i64 (Er b).2]) (fun _ _=>[]) (fun y _=>[⟨y.1,(Er b).1.Aj⟩,⟨y.2.1,(Er b).1.Bz⟩,⟨y.2.2.1,(Er b).1.AA⟩,⟨y.2.2.2.1,(Er b).1.Bj⟩,⟨y.2.2.2.2.1,(Er b).1.CX⟩,⟨y.2.2.2.2.2,(Er b).1.Cf⟩]):=XM.Ain PU b
end Go.Proofs.YtalfaopffbkdnaaGreat
namespace Go.Proofs.YtalfaopffbkdnaaGreat
open Go.A_
theorem N0:H5 AG 24 50 11:=⟨Tryz.underlying24,by kernel_rfl⟩
theorem SM:E3 AG 50 [.int .i64 0,.int .i64 0,.int .i64 0,.int .i64 0,.int .i64 0,.int .i64 0,.string ByteArray.empty,.string ByteArray.empty,.int .i64 0,.int .i64 0,.int .i64 0]:=E3.mk (by kernel_rfl)
theorem LQ:E3 AG 31 [.int .i64 0,.int .i64 0,.bool false,.string ByteArray.empty,.string ByteArray.empty,.int .i64 0,.slice none 0 0,.slice none 0 0,.slice none 0 0,.slice none 0 0,.slice none 0 0,.int .i64 0,.int .i64 0,.int .i64 0,.string ByteArray.empty,.string ByteArray.empty,.int .i64 0,.int .i64 0,.int .i64 0,.int .i64 0,.int .i64 0,.string ByteArray.empty,.string ByteArray.empty,.int .i64 0,.int .i64 0,.slice none 0 0,.int .i64 0,.int .i64 0,.int .i64 0]:=E3.mk (by kernel_rfl)
end Go.Proofs.YtalfaopffbkdnaaGreat
namespace Go.Proofs.YtalfaopffbkdnaaGreat
open Go.A_ Go.Apw
theorem tx(s:Bv)(El EV D_ EA Em Eh:Value)(J8:s.wf):Cv AG 25 [.agg (BY s El EV D_ EA Em Eh).toArray] [⟨El,s.Aj⟩,⟨EV,s.Bz⟩,⟨D_,s.AA⟩,⟨EA,s.Bj⟩,⟨Em,s.CX⟩,⟨Eh,s.Cf⟩] (.bool (LN s)):=by
 refine Aw.proof Tryz.func25 G 133 G G fun X w=>Ae<|CV G G G fun CY=>U 1 G<|Ac<|Am<|Ae<|AX 2 [0] G G<|B0 (Zh _ J8.1) (Ar G) G Aa G<|U 2 G ?_
 refine DE 11 14 [1] G G (fun Ct ZI=>by
  exact AX 7 [0,0,0] G G<|AX 3 [0,0] G G<|Bl G G G<|BH (xs:=[.tmp 13,.tmp 15,.tmp 17,.tmp 19,.tmp 21]) (us:=[.int .i64 s.DX,.int .i64 s.Dn,.int .i64 s.Jc,.int .i64 s.JL,.int .i64 s.GW]) (E:=3) (bytes:=8) (n:=5) G (by exact RL) G G G G G G fun Amb=>Q5 (α:=Int) [s.DX,s.Dn,s.Jc,s.JL,s.GW] [[.int .i64 s.DX],[.int .i64 s.Dn],[.int .i64 s.Jc],[.int .i64 s.JL],[.int .i64 s.GW]] G (fun S w h=>⟨⟨G,J8.2.1⟩,⟨G,J8.2.2.2.2.2.1⟩,⟨G,J8.2.2.2.2.2.2.2.2.2.2.2.2.2.2.1⟩,⟨G,J8.2.2.2.2.2.2.2.2.2.2.2.2.2.2.2.1⟩,⟨G,J8.2.2.2.2.2.2.2.2.2.2.2.2.2.2.2.2⟩,trivial⟩) (Nat.le_of_ble_eq_true G)<|Bl G G G<|B0 (yn _ _) (Ar G) G (Ad 0 G Aa) G<|U 2 G<|ZI G (Bg.tail Br)) ?_
 refine An G G<|DE 26 4 [1] G G (fun JR VE=>Bl G G G<|BJ 0 (BY s El EV D_ EA Em Eh) G G (At G) G G<|Bl G G G<|B0 (AfW _ _ _ _ _ _ _ J8) (Ar G) G (BE [0,1,2,3,4,5] G) G<|U 2 G<|VE G Br)<|An G G<|DE 31 4 [1] G G (fun ES g1=>Bl G G G<|BJ 0 (BY s El EV D_ EA Em Eh) G G (At G) G G<|Bl G G G<|B0 (Ai6 _ _ _ _ _ _ _ J8) (Ar G) G (BE [0,1,2,3,4,5] G) G<|U 2 G<|g1 G Br)<|Ac<|BN G (fun Lz=>?_) (fun Lz=>?_)
 ·
  have S8:(Zj s)=true:=Lz
  exact AF 1 G<|BA<|AQ<|Bq () G G (by rw[LN,if_pos S8]) G Aa
 ·
  have S8:(Zj s)=false:=Lz
  refine AZ<|Am<|Ae<|AX 2 [0] G G<|B0 (Xd _ _) (Ar G) G (Ad 1 G Aa) G<|U 2 G ?_
  refine DE 40 5 [1] G G (fun K7 ZN=>by
   have Af7:=K7
   simp only[Bool.not_eq_false',decide_eq_true_eq]at Af7
   exact AX 2 [0] G G<|Bl G G G<|B0 (dS _ _) (Ar G) G (Ad 3 G Aa) G<|U 2 G<|ZN G Br) ?_
  refine An G G<|DE 46 5 [1] G G (fun US ZO=>AX 2 [0] G G<|Bl G G G<|B0 (X2 _ _) (Ar G) G (Ad 4 G Aa) G<|U 2 G<|ZO G Br)<|An G G<|DE 52 5 [1] G G (fun iK g5=>AX 2 [0] G G<|Bl G G G<|C2 2 G G Tryz.underlying24 G fun AnW=>U 2 G<|g5 G Br)<|Ac<|BN G (fun ev=>?_) (fun ev=>?_)
  ·
   have X6:(Zk s)=true:=ev
   exact AF 1 G<|BA<|AQ<|Bq () G G (by rw[LN,if_neg (by rw[S8];decide),if_pos X6]) G Aa
  ·
   have X6:(Zk s)=false:=ev
   refine AZ<|Am<|Ae<|AX 2 [0] G G<|C2 2 G G Tryz.underlying24 G fun Adk=>An G G<|Ac<|B5<|Ji (σ:=Nat) [(1,_),(59,_),(60,_)] _ (fun i C=>(61,.int .i64 (i:Int))::C) (fun i=>i<=s.AA.length/\(∀j,j<i->Mr s (s.AA.getD j default)=true)) (fun i=>s.AA.length-i) 0 (Bs G) (Ad 0 G (Ad 1 G (Ad 2 G (Ad 3 G (Ad 4 G (Ad 5 G Aa)))))) ⟨Nat.zero_le _,fun j Ay=>absurd Ay (Nat.not_lt_zero j)⟩ (Bs G) ?_
   rintro i ⟨Ag,C0⟩
   refine AF 1 G<|Am<|B9 G (fun Th=>?_) (fun Th=>?_)
   ·
    refine AZ<|Am<|B5<|Ae<|Fo 2 G G G N0 G fun AoO=>Gi 0 G G (At G) G fun Aor uz=>CT SM G fun En=>BZ 0 (us:=(Hh ((s.AA.getD i default)))) G G G (At G) G G<|Ac<|Ae<|BJ 1 (BY s El EV D_ EA Em Eh) G G (At G) G G<|BJ 0 (Hh ((s.AA.getD i default))) G G (At G) G G<|B0 (Ak8 _ _ _ _ _ _ _ _ J8 uz) (Ar G) G (BE [2,3,4,5,6,7] G) G<|IH G G<|Ac<|BN G (fun R5=>?_) (fun R5=>?_)
    · exact AF 1 G<|rt<|C9<|Cd<|Cd<|C9<|Cd<|AQ<|AQ<|Bq () G G (by rw[LN,if_neg (by rw[S8];decide),if_neg (by rw[X6];decide),if_neg (by rw[gm,Ur i (by omega) (by simpa using R5)];decide)]) G Aa
    ·
     refine EG<|CU<|A5<|rg<|C5 G G BV G<|An G G<|nl<|AQ ?_
     exact Dy (i+1) ⟨(by omega),(Ki C0 (by simpa using R5))⟩ (by omega) (Bs G) G (BE [2,3,4,5,6,7] G)
   ·
    have h0:gm s=true:=Us (fun j Ay=>C0 j (by omega))
    refine ex<|Ck<|Ck<|D7<|A5<|Am<|Ae<|U 1 G<|BJ 0 (ED s.Bt) G G (At G) G G<|Db (ps:=[]) (cs:=(ED (Gs))) (by rfl) (by kernel_rfl) G<|Qo RV (s.Bt) (Gs) G G G<|An G G ?_
    refine D4 74 29 [1] G G (fun ew vI=>by
     have Aga:=ew
     simp only[Bool.not_eq_true',decide_eq_false_iff_not]at Aga
     refine U 1 G<|Bl G G G<|BJ 0 (ED s.Bt) G G (At G) G G<|Bl G G G<|B0 (fC _ J8.2.2.2.2.2.2.2.2.2.2.2.1) (Ar G) G Aa G<|U 2 G ?_
     refine DE 79 7 [1,74] G G (fun AmX g_=>by
      exact AX 7 [0,0] G G<|g_ G Br) ?_
     refine U 1 G ?_
     refine DE 87 7 [1,74] G G (fun AmY g'=>by
      exact AX 7 [0,0] G G<|g' G Br) ?_
     refine U 1 G ?_
     refine DE 95 7 [1,74] G G (fun Yg vH=>by
      exact Bl G G G<|BJ 0 (BY s El EV D_ EA Em Eh) G G (At G) G G<|AX 3 [0] G G<|Bl G G G<|B0 (kJ _ _ _ _ _ _ _ _ J8) (Ar G) G (BE [0,1,2,3,4,5] G) G<|U 2 G<|vH G Br) ?_
     exact U 1 G<|vI G Br) ?_
    refine Ac<|BN G (fun iA=>?_) (fun iA=>?_)
    ·
     have dY:(Xe s)=true:=iA
     exact AF 1 G<|BA<|AQ<|Bq () G G (by rw[LN,if_neg (by rw[S8];decide),if_neg (by rw[X6];decide),if_pos h0,dY];first|(rw[dZ];try rfl)|(try rfl)) G Aa
    ·
     have dY:(Xe s)=false:=iA
     refine AZ<|Am<|Ae<|U 1 G<|BJ 0 (ED s.CW) G G (At G) G G<|Db (ps:=[]) (cs:=(ED (Gs))) (by rfl) (by kernel_rfl) G<|RU RV (s.CW) (Gs) G G G<|Ac<|B9 G (fun iC=>?_) (fun iC=>?_)
     ·
      have dZ:(decide (s.CW=⟨0,0,0,ByteArray.empty,ByteArray.empty,0,0⟩))=true:=(decide_eq_true iC)
      exact Ae<|AX 2 [0] G G<|C2 5 G G Tryz.underlying29 G fun Adf=>U 2 G<|Ac<|BA<|AQ<|Bq () G G (by rw[LN,if_neg (by rw[S8];decide),if_neg (by rw[X6];decide),if_pos h0,dY];first|(rw[dZ];try rfl)|(try rfl)) G Aa
     ·
      have dZ:(decide (s.CW=⟨0,0,0,ByteArray.empty,ByteArray.empty,0,0⟩))=false:=(decide_eq_false iC)
      refine AZ<|Ae<|AX 2 [0] G G<|Dm (ln _ _) (Ar G) G (Ad 5 G Aa) G fun AlF AkB Wf=>?_
      obtain⟨uZ,u0,u1,u2,u3,u4⟩:=AlF
      replace Wf:AkB=.tuple #[.agg (BY (Er _).1 uZ u0 u1 u2 u3 u4).toArray,.int .i64 (Er _).2]:=Wf
      subst Wf
      refine U 3 G<|CT LQ G fun E'=>Cp 0 G fun Ae5=>?_
      refine Cp 1 G fun Ae6=>?_
      refine Cp 2 G fun Ae7=>?_
      refine Cp 3 G fun Ae8=>?_
      refine Cp 4 G fun Ae9=>?_
      refine Cp 5 G fun Ae_=>?_
      exact BZ 0 (us:=(BY ((Er s.Cf).1) uZ u0 u1 u2 u3 u4)) G G G (At G) (by simp only[List.all_cons,List.all_nil,Bool.and_true,Ae5,Ae6,Ae7,Ae8,Ae9,Ae_];rfl) G<|U 1 G<|Ac<|Ae<|U 1 G<|BJ 1 (ED s.CW) G G (At G) G G<|B0 (fC _ J8.2.2.2.2.2.2.2.2.2.2.2.2.1) (Ar G) G Aa G<|An G G<|Fu 121 7 [1,1] [6] G G G<|An G G<|Fu 129 3 [] [] G G G<|U 1 G<|Ac<|rt<|AQ<|AQ<|Bq () G G (by rw[LN,if_neg (by rw[S8];decide),if_neg (by rw[X6];decide),if_pos h0,dY];first|(rw[dZ];try rfl)|(try rfl)) G Aa
theorem AjA(s:Bv)(El EV D_ EA Em Eh:Value)(J8:s.wf):Cv AG 10 [.agg (BY s El EV D_ EA Em Eh).toArray] [⟨El,s.Aj⟩,⟨EV,s.Bz⟩,⟨D_,s.AA⟩,⟨EA,s.Bj⟩,⟨Em,s.CX⟩,⟨Eh,s.Cf⟩] (.int .i64 (IA (LN s))):=by
 refine Aw.proof Tryz.func10 G 6 G G fun X w=>Ae<|CV G G G fun CY=>U 1 G<|Ac<|Am<|Ae<|BJ 0 (BY s El EV D_ EA Em Eh) G G (At G) G G<|B0 (tx _ _ _ _ _ _ _ J8) (Ar G) G (BE [0,1,2,3,4,5] G) G<|IH G G<|Ac<|BN G (fun C'=>?_) (fun C'=>?_)
 · exact AF 1 G<|BA<|AQ<|Bq () G G (by rw[IA,if_neg (by have q:=C';rw[Bool.not_eq_true']at q;rw[q];decide)]) G Aa
 · exact AZ<|AF 1 G<|rt<|AQ<|Bq () G G (by rw[IA,if_pos (by have q:=C';rw[Bool.not_eq_false']at q;exact q)]) G Aa
end Go.Proofs.YtalfaopffbkdnaaGreat
namespace Go.Proofs.YtalfaopffbkdnaaGreat
open Go.A_
end Go.Proofs.YtalfaopffbkdnaaGreat
namespace Go.Proofs.YtalfaopffbkdnaaGreat
open Go.A_ Go.Apw
end Go.Proofs.YtalfaopffbkdnaaGreat
namespace Go.Proofs.YtalfaopffbkdnaaGreat
open Go.A_
theorem TZ:H5 AG 29 5 1:=⟨Tryz.underlying29,by kernel_rfl⟩
end Go.Proofs.YtalfaopffbkdnaaGreat
namespace Go.Proofs.YtalfaopffbkdnaaGreat
open Go.A_ Go.Apw
theorem zj:Po AG 83 JH:=by
 refine⟨by kernel_rfl,fun a b w=>?_⟩
 rw[run_equalIn_struct w 9999 83 _ _ (by simp only[Program.fieldsOf,Tryz.underlying83]) (by kernel_rfl)]
 simp only[Program.fieldsOf,Tryz.underlying83]
 refine Eq.trans (EI G Tryz.underlying3 G G G (Fk Tryz.underlying3 _ _) (fun w=>EI G Tryz.underlying3 G G G (Fk Tryz.underlying3 _ _) (fun w=>EI G Tryz.underlying3 G G G (Fk Tryz.underlying3 _ _) (fun w=>EI G Tryz.underlying3 G G G (Fk Tryz.underlying3 _ _) (fun w=>OO w))))) ?_
 congr 1
 obtain⟨He,DP,EK,FR⟩:=a
 obtain⟨Pt,CY,Dh,DQ⟩:=b
 simp[BD.mk.injEq]
theorem Ahv(I8:Value)(x:List BD)(I9:Value)(y:List BD):Cv AG 216 [I8,I9] [⟨I8,x⟩,⟨I9,y⟩] (.bool (decide (x=y))):=by
 refine Aw.proof Tryz.func216 G 26 G G fun X w=>HP (q:=x.length<=9223372036854775807) (fun S w h=>L1 (h _ (List.mem_of_getElem? (i:=0) G))) fun Wv=>HP (q:=y.length<=9223372036854775807) (fun S w h=>L1 (h _ (List.mem_of_getElem? (i:=1) G))) fun Ww=>AF 1 G<|Am<|Ae<|An G G<|C2 0 G G Tryz.underlying69 G fun MD=>An G G<|C2 1 G G Tryz.underlying69 G fun Sm=>U 1 G<|Ac<|Fa G (fun Dq=>?_) (fun Dq=>?_)
 · exact AF 1 G<|BA<|Bq () G G (by rw[W2 (by omega)]) G Aa
 ·
  have AN:x.length=y.length:=by omega
  refine AZ<|Am<|AF 1 G<|B5<|Ji (σ:=Nat) [(0,_),(1,_)] _ (fun i C=>(5,.int .i64 (i:Int))::C) (fun i=>i<=x.length/\(∀j,j<i->x.getD j default=y.getD j default)) (fun i=>x.length-i) 0 (Bs G) (Ad 0 G (Ad 1 G Aa)) ⟨Nat.zero_le _,fun j Ay=>absurd Ay (Nat.not_lt_zero j)⟩ (Bs G) ?_
  rintro i ⟨Ag,C0⟩
  refine Am<|Ae<|U 2 G<|C2 0 G G Tryz.underlying69 G fun TC=>U 1 G<|Ac<|B9 G (fun Fm=>?_) (fun Fm=>?_)
  ·
   refine AZ<|Am<|B5<|Am<|Gx mixed (by kernel_rfl)<|U 2 G<|Fo 0 G G G I6 G fun KC=>Gi 0 G G (At G) G fun Qt Vr=>U 2 G<|Fo 3 G G G I6 G fun Pe=>Gi 0 G G (At G) G fun MJ PW=>Qo zj ((x.getD i default)) ((y.getD i default)) G G G<|Gj<|A5<|Fa G (fun Gr=>?_) (fun Gr=>?_)
   · exact AF 1 G<|rt<|C9<|Cd<|Cd<|C9<|Cd<|Bq () G G (by rw[W1 i (by simpa using Gr)]) G Aa
   ·
    refine EG<|CU<|A5<|rg<|An G G<|C5 G G BV G<|U 1 G<|nl ?_
    exact Dy (i+1) ⟨(by omega),(Ki C0 (by simpa using Gr))⟩ (by omega) (Bs G) G (BE [4,5] G)
  · exact ex<|Ck<|Ck<|D7<|A5<|AF 1 G<|rt<|Bq () G G (by rw[W0 AN (fun j Ay=>C0 j (by omega))]) G Aa
theorem Ahr(I8:Value)(x:List UInt8)(I9:Value)(y:List UInt8):Cv AG 127 [I8,I9] [⟨I8,x⟩,⟨I9,y⟩] (.bool (decide (x=y))):=by
 refine Aw.proof Tryz.func127 G 26 G G fun X w=>HP (q:=x.length<=9223372036854775807) (fun S w h=>L1 (h _ (List.mem_of_getElem? (i:=0) G))) fun Wv=>HP (q:=y.length<=9223372036854775807) (fun S w h=>L1 (h _ (List.mem_of_getElem? (i:=1) G))) fun Ww=>AF 1 G<|Am<|Ae<|An G G<|C2 0 G G Tryz.underlying29 G fun MD=>An G G<|C2 1 G G Tryz.underlying29 G fun Sm=>U 1 G<|Ac<|Fa G (fun Dq=>?_) (fun Dq=>?_)
 · exact AF 1 G<|BA<|Bq () G G (by rw[W2 (by omega)]) G Aa
 ·
  have AN:x.length=y.length:=by omega
  refine AZ<|Am<|AF 1 G<|B5<|Ji (σ:=Nat) [(0,_),(1,_)] _ (fun i C=>(5,.int .i64 (i:Int))::C) (fun i=>i<=x.length/\(∀j,j<i->x.getD j default=y.getD j default)) (fun i=>x.length-i) 0 (Bs G) (Ad 0 G (Ad 1 G Aa)) ⟨Nat.zero_le _,fun j Ay=>absurd Ay (Nat.not_lt_zero j)⟩ (Bs G) ?_
  rintro i ⟨Ag,C0⟩
  refine Am<|Ae<|U 2 G<|C2 0 G G Tryz.underlying29 G fun TC=>U 1 G<|Ac<|B9 G (fun Fm=>?_) (fun Fm=>?_)
  ·
   refine AZ<|Am<|B5<|Am<|Gx mixed (by kernel_rfl)<|U 2 G<|Fo 0 G G G TZ G fun KC=>CQ 0 G G (A2 G) G fun Vr=>U 2 G<|Fo 2 G G G TZ G fun Pe=>CQ 0 G G (A2 G) G fun PW=>U 1 G<|Gj<|A5<|Fa G (fun Gr=>?_) (fun Gr=>?_)
   · exact AF 1 G<|rt<|C9<|Cd<|Cd<|C9<|Cd<|Bq () G G (by rw[W1 i (fun e=>Gr (by simp only[Int.toNat_natCast,e]))]) G Aa
   ·
    refine EG<|CU<|A5<|rg<|An G G<|C5 G G BV G<|U 1 G<|nl ?_
    exact Dy (i+1) ⟨(by omega),(Ki C0 (UInt8.toNat_inj.1 (by have q:=Gr;simp only[Int.toNat_natCast]at q;omega)))⟩ (by omega) (Bs G) G (BE [2,3] G)
  · exact ex<|Ck<|Ck<|D7<|A5<|AF 1 G<|rt<|Bq () G G (by rw[W0 AN (fun j Ay=>C0 j (by omega))]) G Aa
theorem Ai_(I8:Value)(x:List UInt8)(I9:Value)(y:List UInt8):Cv AG 50 [I8,I9] [⟨I8,x⟩,⟨I9,y⟩] (.bool (decide (x=y))):=by
 exact Aw.proof Tryz.func50 G 8 G G fun X w=>AF 1 G<|Ae<|U 2 G<|B0 (Ahr _ _ _ _) (Ar G) G (BE [0,1] G) G<|U 1 G<|Ac<|rt<|Bq () G G (by rfl) G Aa
theorem Ai7(x:AD)(KW:Value)(y:AD)(dc:Value)(_:x.wf)(_:y.wf):Cv AG 126 [.agg (A3 x KW).toArray,.agg (A3 y dc).toArray] [⟨KW,x.A0⟩,⟨dc,y.A0⟩] (.bool (Xc x y)):=by
 refine Aw.proof Tryz.func126 G 45 G G fun X w=>Ae<|CV G G G fun Dh=>CV G G G fun DQ=>U 1 G<|Ac<|Ae<|AX 4 [1,0] G G<|U 2 G ?_
 refine D4 10 6 [2,3] G G (fun Dq ZG=>by
  have AfX:=of_decide_eq_true Dq
  exact U 1 G<|Bl G G G<|BJ 1 (Od x.Cs) G G (At G) G G<|U 1 G<|Bl G G G<|BJ 0 (Od y.Cs) G G (At G) G G<|Bl G G G<|RU oL (x.Cs) (y.Cs) G G G<|U 1 G<|ZG G Br) ?_
 exact An G G<|Fu 17 6 [1,0] [2,3] G G G<|An G G<|Fu 24 6 [1,0] [2,3] G G G<|An G G<|D4 31 6 [2,3] G G (fun ES vS=>AX 4 [1,0] G G<|Bl G G G<|B0 (Ahv _ _ _ _) (Ar G) G (BE [0,1] G) G<|U 1 G<|vS G Br)<|An G G<|D4 38 6 [] G G (fun NK ZM=>U 1 G<|Bl G G G<|BJ 1 (Lx x.BG) G G (At G) G G<|U 1 G<|Bl G G G<|BJ 0 (Lx y.BG) G G (At G) G G<|Bl G G G<|RU oK (x.BG) (y.BG) G G G<|U 1 G<|ZM G Br)<|U 1 G<|Ac<|rt<|AQ<|AQ<|Bq () G G (by rfl) G Aa
theorem AjF(n:Int)(MB:A' n):Cv AG 24 [.int .i64 n] [] (.tuple #[.agg (BY (F8 n) AI AI AI AI AI AI).toArray,.int .i64 (if Ih n=true then 0 else 1)]):=by
 refine Aw.proof Tryz.func24 G 16 G G fun X w=>?_
 obtain⟨Yk,Yl⟩:=id MB
 refine Ae<|CT LQ G fun Dh=>U 1 G<|Ac<|Am<|Ae<|An G G<|B0 (Zh _ MB) (Ar G) G Aa G<|IH G G<|Ac<|BN G (fun GY=>?_) (fun GY=>?_)
 ·
  have q:Ih n=false:=(by simpa using GY)
  exact Ae<|Db (ps:=[]) (cs:=(BY Np AI AI AI AI AI AI)) (by rfl) (by kernel_rfl) G<|BZ 0 (us:=(BY Np AI AI AI AI AI AI)) G G G (At G) G G<|U 1 G<|Ac<|BA<|D8 () [_] (Fp 0 G G G G (At G)) (by rw[F8,q];rfl) G Aa
 ·
  have q:Ih n=true:=(by simpa using GY)
  refine AZ<|Ae<|An G G<|Db (ps:=[(0,.tmp 9)]) (cs:=(BY ((⟨n,0,false,ByteArray.empty,ByteArray.empty,0,[],[],[],[],[],Gs,Gs,[],0,0,0⟩:Bv)) AI AI AI AI AI AI)) (by rfl) (by kernel_rfl) G<|CT LQ G fun En=>BZ 0 (us:=(BY ((⟨n,0,false,ByteArray.empty,ByteArray.empty,0,[],[],[],[],[],Gs,Gs,[],0,0,0⟩:Bv)) AI AI AI AI AI AI)) G G G (At G) G G<|Ac<|Am<|Ae<|An G G<|U 1 G<|Ac<|B9 G (fun EM=>?_) (fun EM=>?_)
  · exact Ae<|U 1 G<|Fi 0 G G G (A2 G) G (Da G)<|Ac<|rg<|U 1 G<|Fi 0 G G G (A2 G) G (Da G)<|Ac<|Ae<|BJ 0 (BY ((⟨n,0,true,ByteArray.empty,ByteArray.empty,1,([]),([]),([]),([]),([]),Gs,Gs,([]),0,0,0⟩:Bv)) AI AI AI AI AI AI) G G (At G) G G<|BZ 1 (us:=(BY ((⟨n,0,true,ByteArray.empty,ByteArray.empty,1,([]),([]),([]),([]),([]),Gs,Gs,([]),0,0,0⟩:Bv)) AI AI AI AI AI AI)) G G G (At G) G G<|U 1 G<|Ac<|rt<|D8 () [_,_] (Fp 1 G G G G (At G)) (by rw[F8,q,if_pos rfl,if_pos rfl,if_pos rfl];simp[EM]) G Aa
  · exact AZ<|Ae<|BJ 0 (BY ((⟨n,0,false,ByteArray.empty,ByteArray.empty,0,[],[],[],[],[],Gs,Gs,[],0,0,0⟩:Bv)) AI AI AI AI AI AI) G G (At G) G G<|BZ 1 (us:=(BY ((⟨n,0,false,ByteArray.empty,ByteArray.empty,0,[],[],[],[],[],Gs,Gs,[],0,0,0⟩:Bv)) AI AI AI AI AI AI)) G G G (At G) G G<|U 1 G<|Ac<|rt<|D8 () [_,_] (Fp 1 G G G G (At G)) (by rw[F8,q];simp[EM]) G Aa
end Go.Proofs.YtalfaopffbkdnaaGreat
namespace Go.Proofs.YtalfaopffbkdnaaGreat
open Go.A_
end Go.Proofs.YtalfaopffbkdnaaGreat
namespace Go.Proofs.YtalfaopffbkdnaaGreat
open Go.A_ Go.Apw
end Go.Proofs.YtalfaopffbkdnaaGreat
namespace Go.Proofs.YtalfaopffbkdnaaGreat
open Go.A_
theorem QN:EH AG 23 54 7 56:=EH.mk Tryz.underlying23 (by kernel_rfl) (by decide)
theorem OI:EH AG 22 73 10 104:=EH.mk Tryz.underlying22 (by kernel_rfl) (by decide)
theorem Mt:EH AG 24 50 11 104:=EH.mk Tryz.underlying24 (by kernel_rfl) (by decide)
theorem QQ:EH AG 25 52 8 80:=EH.mk Tryz.underlying25 (by kernel_rfl) (by decide)
theorem RM:EH AG 26 125 2 16:=EH.mk Tryz.underlying26 (by kernel_rfl) (by decide)
theorem S1:EH AG 69 83 4 32:=EH.mk Tryz.underlying69 (by kernel_rfl) (by decide)
end Go.Proofs.YtalfaopffbkdnaaGreat
namespace Go.Proofs.YtalfaopffbkdnaaGreat
open Go.A_ Go.Apw
theorem ei(CP:Value)(l:List Bx)(c q:Int)(BK:A' c)(Ed:A' q):Cv AG 179 [CP,.int .i64 c,.int .i64 q] [⟨CP,l⟩] (.tuple #[.agg (H8 (findD l c q)).toArray,.bool (Tz l c q)]):=by
 refine Aw.proof Tryz.func179 G 25 G G fun X w=>?_
 obtain⟨K9,K_⟩:=id BK
 obtain⟨LD,LF⟩:=id Ed
 refine Ae<|CT SO G fun Hg=>U 1 G<|Ac<|Ae<|U 3 G<|B0 (fA _ _ _ _ BK Ed) (Ar G) G (Ad 0 G Aa) G<|U 1 G<|Ac<|Am<|Ae<|U 3 G ?_
 refine DE 15 4 [0,6,8] G G (fun Ft ZH=>by
  have An_:=of_decide_eq_false Ft
  exact U 1 G<|Bl G G G<|B0 (dS _ _) (Ar G) G (Ad 0 G Aa) G<|U 2 G<|ZH G Br) ?_
 refine Ac<|BN G (fun Fe=>?_) (fun Fe=>?_)
 · exact Ae<|Db (ps:=[]) (cs:=(H8 ((⟨0,0,ByteArray.empty,ByteArray.empty,0,0,0,0⟩:Bx)))) (by rfl) (by kernel_rfl) G<|BZ 0 (us:=(H8 ((⟨0,0,ByteArray.empty,ByteArray.empty,0,0,0,0⟩:Bx)))) G G G (At G) G G<|U 1 G<|Ac<|BA<|D8 () [_] (Fp 0 G G G G (At G)) (by rw[findD,Tz,if_pos Fe,if_pos Fe];rfl) G Aa
 ·
  obtain⟨k,AE,Lb⟩:=Ahq Fe
  exact AZ<|Ae<|An G G<|An (v:=.int .i64 ((k:Nat):Int)) (congrArg (fun x=>some (Value.int .i64 x)) (by rw[AE];rfl)) G<|Fo 0 G G G Ox G fun Pe=>Gi 0 G G (At G) G fun MJ PW=>BZ 0 (us:=(H8 ((l.getD k default)))) G G G (At G) G G<|U 1 G<|Ac<|rt<|D8 () [_] (Fp 0 G G G G (At G)) (by rw[findD,Tz,if_neg (by rw[Fe];decide),if_neg (by rw[Fe];decide),AE];try rfl) G Aa
end Go.Proofs.YtalfaopffbkdnaaGreat
namespace Go.Proofs.YtalfaopffbkdnaaGreat
open Go.A_
theorem QP:EH AG 29 5 1 1:=EH.mk Tryz.underlying29 (by kernel_rfl) (by decide)
theorem Asn:EH AG 56 35 25 256:=EH.mk Tryz.underlying56 (by kernel_rfl) (by decide)
theorem AjE:H5 AG 56 35 25:=⟨Tryz.underlying56,by kernel_rfl⟩
end Go.Proofs.YtalfaopffbkdnaaGreat
namespace Go.A_
open Go.RowKit
def wu(m:Nat)(Q:Exit->Act->World->Prop)(c:Cj)(ops:Array Oper)(l:List Oper)(env:Env)(L:Own)(D:List Atom):Prop:=
 ∀a w,Fr c.n a env->CI c.BW c.M w L->BP D w L->wpListIn Fence.wide m c.P ops Q l a w
instance AnG (m:Nat) (Q:Exit->Act->World->Prop):Ip (wu m Q) where
 read:=by
  intro c ops env L D rest o dst σ CK AJ env' Dd Ek k a w f st AR
  obtain⟨s,u,Bh,Jq,KI⟩:=Ek a w f st AR
  refine AdI CK ⟨fun _ _=>trivial,?_⟩
  have hs:Oper.semAt Fence.wide.round a.eval o=execOp a.eval o:=rfl
  rw[hs,Bh w (C8.refl _ _)]
  simp only[Oper.uponIn,AJ]
  exact k s _ _ Jq st KI
 gI:=by
  intro c ops env L D rest dst op t p af g hw k a w f st AR
  have:=k a w f st AR
  unfold wpListIn at this ⊢
  rw[if_pos (hw a w f st AR)]
  rw[if_pos (show Region.wanted ⟨dst,op,t,p,af,none⟩ (yielded ops a.tmps)=true from rfl)]at this
  exact this
 c4:=by
  intro c ops env env' L D rest o hw k a w f st AR
  obtain⟨Af,h2⟩:=hw a w f st AR
  unfold wpListIn
  rw[Af]
  simp only[Bool.false_eq_true,if_false]
  exact⟨fun _ _=>trivial,k _ _ h2 st AR⟩
 mono:=by
  intro c ops env env' L D Dd l h k a w f st AR
  obtain⟨Af,h2⟩:=h a w f st AR
  exact k a w Af st h2
 fact:=by
  intro c ops env L D l q h k a w f st AR
  exact k (h a w f st AR) a w f st AR
section
section
variable{c:Cj} {ops:Array Oper} {AP:Cj->Array Oper->List Oper->Env->Own->List Atom->Prop} [Dr:Ip AP] {env:Env} {L:Own} {D:List Atom} {rest:List Oper} {d:Nat} {t:TypeId} {p:String} {af:Array Edge} {T:TypeId}
include Dr
theorem Aek{x y:Operand}{Ec FK:TypeId}{b KZ:Bool}(hu:c.P.underlying Ec=some .bool)(Ab:AL env x=some (.bool b))(Bf:AL env y=some (.bool KZ))(Ao:Nat.blt d c.n=true)(k:AP c ops rest ((d,.bool (!decide (b=KZ)))::env) L D):
 AP c ops (⟨some d,.binOp .neq Ec x y FK,t,p,af,none⟩::rest) env L D:=
 pu rfl rfl Ao (fun a w f=>by
  have h:=run_eql_bool (P:=c.P) w _ b KZ hu
  simp[binOp]at h
  simp[execOp,f.AL Ab,f.AL Bf,eqGuard,binOp]
  generalize Sem.run c.P (Op.equal Ec (.bool b) (.bool KZ)) w=r at h ⊢
  cases r with
  |ok v AT=>
   simp[Result.andThen]at h ⊢
   obtain⟨rfl,rfl⟩:=h
   cases b<;>cases KZ<;>simp
  |halt v AT=>simp[Result.andThen]at h) k
theorem dC{ps:List (Nat×Operand)}{us:List Value}{cs:List Value}(Ab:Gq env (ps.map (·.2))=some us)(Aq:c.P.built T ((ps.map (·.1)).zip us)=some cs.toArray)(Ao:Nat.blt d c.n=true)(k:AP c ops rest ((d,.agg cs.toArray)::env) L D):
 AP c ops (⟨some d,.build T ps.toArray,t,p,af,none⟩::rest) env L D:=
 pu rfl rfl Ao (fun a w f=>by
  have e:=f.Gq Ab
  subst e
  have h2:(ps.toArray.map fun(i,x)=>(i,a.eval x)).toList=(ps.map (·.1)).zip ((ps.map (·.2)).map a.eval):=by
   simp only[List.map_toArray]
   clear Ab Aq
   induction ps with
   |nil=>rfl
   |cons q r Cg=>simp only[List.map_cons,List.zip_cons_cons,Cg]
  have:=run_build (P:=c.P) w T (ps.toArray.map fun(i,x)=>(i,a.eval x)) cs.toArray (by rw[h2];exact Aq)
  simp only[execOp,Sem.run_bind,this,Result.andThen_ok,Sem.run_pure]) k
end
theorem zb{P:Program}{d:Nat}{T:TypeId}(hu:P.underlying T=some .bool)(a b:Bool)(w:World):(Op.equalIn (d+1) T (.bool a) (.bool b)).run P w=.ok (decide (a=b)) w:=by
 rw[run_equalIn_bool w d T a b hu]
 cases a<;>cases b<;>rfl
end
end Go.A_
namespace Go.Proofs.YtalfaopffbkdnaaGreat
open Go.A_ Go.Apw
theorem zk:Po AG 54 H9:=by
 refine⟨by kernel_rfl,fun a b w=>?_⟩
 rw[run_equalIn_struct w 9999 54 _ _ (by simp only[Program.fieldsOf,Tryz.underlying54]) (by kernel_rfl)]
 simp only[Program.fieldsOf,Tryz.underlying54]
 refine Eq.trans (EI G Tryz.underlying3 G G G (Fk Tryz.underlying3 _ _) (fun w=>EI G Tryz.underlying3 G G G (Fk Tryz.underlying3 _ _) (fun w=>EI G Tryz.underlying4 G G G (zb Tryz.underlying4 _ _) (fun w=>h7 (m:=4) (zs1:= #[.int .i64 a.Cm.Jd,.int .i64 a.Cm.JM,.int .i64 a.Cm.JJ,.int .i64 a.Cm.JK]) (zs2:= #[.int .i64 b.Cm.Jd,.int .i64 b.Cm.JM,.int .i64 b.Cm.JJ,.int .i64 b.Cm.JK]) (r:=(decide (a.Cm.Jd=b.Cm.Jd)&&(decide (a.Cm.JM=b.Cm.JM)&&(decide (a.Cm.JJ=b.Cm.JJ)&&(decide (a.Cm.JK=b.Cm.JK)&&true))))) G Tryz.underlying44 G (by kernel_rfl) (by simp) (by simp) (fun w=>?_) (fun w=>OO w))))) ?_
 ·
  rw[run_equalIn_struct w 9998 44 _ _ (by simp only[Program.fieldsOf,Tryz.underlying44]) (by kernel_rfl)]
  simp only[Program.fieldsOf,Tryz.underlying44]
  exact EI G Tryz.underlying37 G G G (Fk Tryz.underlying37 _ _) (fun w=>EI G Tryz.underlying3 G G G (Fk Tryz.underlying3 _ _) (fun w=>EI G Tryz.underlying3 G G G (Fk Tryz.underlying3 _ _) (fun w=>EI G Tryz.underlying3 G G G (Fk Tryz.underlying3 _ _) (fun w=>OO w))))
 congr 1
 obtain⟨He,DP,EK,⟨wD,wE,wF,wG⟩⟩:=a
 obtain⟨Pt,CY,Dh,⟨xn,xo,xp,xq⟩⟩:=b
 simp[BL.mk.injEq,De.mk.injEq]
theorem zm:Po AG 50 Hh:=by
 refine⟨by kernel_rfl,fun a b w=>?_⟩
 rw[run_equalIn_struct w 9999 50 _ _ (by simp only[Program.fieldsOf,Tryz.underlying50]) (by kernel_rfl)]
 simp only[Program.fieldsOf,Tryz.underlying50]
 refine Eq.trans (EI G Tryz.underlying3 G G G (Fk Tryz.underlying3 _ _) (fun w=>EI G Tryz.underlying3 G G G (Fk Tryz.underlying3 _ _) (fun w=>EI G Tryz.underlying3 G G G (Fk Tryz.underlying3 _ _) (fun w=>EI G Tryz.underlying3 G G G (Fk Tryz.underlying3 _ _) (fun w=>EI G Tryz.underlying3 G G G (Fk Tryz.underlying3 _ _) (fun w=>h7 (m:=6) (zs1:= #[.int .i64 a.AM.Ca,.string a.AM.Al,.string a.AM.EL,.int .i64 a.AM.B2,.int .i64 a.AM.A6,.int .i64 a.AM.Bc]) (zs2:= #[.int .i64 b.AM.Ca,.string b.AM.Al,.string b.AM.EL,.int .i64 b.AM.B2,.int .i64 b.AM.A6,.int .i64 b.AM.Bc]) (r:=(decide (a.AM.Ca=b.AM.Ca)&&(decide (a.AM.Al=b.AM.Al)&&(decide (a.AM.EL=b.AM.EL)&&(decide (a.AM.B2=b.AM.B2)&&(decide (a.AM.A6=b.AM.A6)&&(decide (a.AM.Bc=b.AM.Bc)&&true))))))) G Tryz.underlying33 G (by kernel_rfl) (by simp) (by simp) (fun w=>?_) (fun w=>OO w))))))) ?_
 ·
  rw[run_equalIn_struct w 9998 33 _ _ (by simp only[Program.fieldsOf,Tryz.underlying33]) (by kernel_rfl)]
  simp only[Program.fieldsOf,Tryz.underlying33]
  exact EI G Tryz.underlying3 G G G (Fk Tryz.underlying3 _ _) (fun w=>EI G Tryz.underlying9 G G G (UF Tryz.underlying9 _ _) (fun w=>EI G Tryz.underlying9 G G G (UF Tryz.underlying9 _ _) (fun w=>EI G Tryz.underlying3 G G G (Fk Tryz.underlying3 _ _) (fun w=>EI G Tryz.underlying3 G G G (Fk Tryz.underlying3 _ _) (fun w=>EI G Tryz.underlying3 G G G (Fk Tryz.underlying3 _ _) (fun w=>OO w))))))
 congr 1
 obtain⟨He,DP,EK,FR,Iz,⟨Al0,Al1,Al2,Al3,Al4,Al5⟩⟩:=a
 obtain⟨Pt,CY,Dh,DQ,En,⟨Amm,Amn,Amo,Amp,Amq,Amr⟩⟩:=b
 simp[BX.mk.injEq,FL.mk.injEq]
theorem zg:Po AG 52 H8:=by
 refine⟨by kernel_rfl,fun a b w=>?_⟩
 rw[run_equalIn_struct w 9999 52 _ _ (by simp only[Program.fieldsOf,Tryz.underlying52]) (by kernel_rfl)]
 simp only[Program.fieldsOf,Tryz.underlying52]
 refine Eq.trans (EI G Tryz.underlying3 G G G (Fk Tryz.underlying3 _ _) (fun w=>EI G Tryz.underlying3 G G G (Fk Tryz.underlying3 _ _) (fun w=>EI G Tryz.underlying9 G G G (UF Tryz.underlying9 _ _) (fun w=>EI G Tryz.underlying9 G G G (UF Tryz.underlying9 _ _) (fun w=>EI G Tryz.underlying3 G G G (Fk Tryz.underlying3 _ _) (fun w=>EI G Tryz.underlying3 G G G (Fk Tryz.underlying3 _ _) (fun w=>EI G Tryz.underlying3 G G G (Fk Tryz.underlying3 _ _) (fun w=>EI G Tryz.underlying3 G G G (Fk Tryz.underlying3 _ _) (fun w=>OO w))))))))) ?_
 congr 1
 obtain⟨He,DP,EK,FR,Iz,Lv,KY,OH⟩:=a
 obtain⟨Pt,CY,Dh,DQ,En,E',Hg,Jo⟩:=b
 simp[Bx.mk.injEq]
theorem zi:Po AG 125 QT:=by
 refine⟨by kernel_rfl,fun a b w=>?_⟩
 rw[run_equalIn_struct w 9999 125 _ _ (by simp only[Program.fieldsOf,Tryz.underlying125]) (by kernel_rfl)]
 simp only[Program.fieldsOf,Tryz.underlying125]
 refine Eq.trans (EI G Tryz.underlying3 G G G (Fk Tryz.underlying3 _ _) (fun w=>EI G Tryz.underlying3 G G G (Fk Tryz.underlying3 _ _) (fun w=>OO w))) ?_
 congr 1
 obtain⟨He,DP⟩:=a
 obtain⟨Pt,CY⟩:=b
 simp[Df.mk.injEq]
theorem Ahw(I8:Value)(x:List BL)(I9:Value)(y:List BL):Cv AG 46 [I8,I9] [⟨I8,x⟩,⟨I9,y⟩] (.bool (decide (x=y))):=by
 refine Aw.proof Tryz.func46 G 26 G G fun X w=>HP (q:=x.length<=9223372036854775807) (fun S w h=>L1 (h _ (List.mem_of_getElem? (i:=0) G))) fun Wv=>HP (q:=y.length<=9223372036854775807) (fun S w h=>L1 (h _ (List.mem_of_getElem? (i:=1) G))) fun Ww=>AF 1 G<|Am<|Ae<|An G G<|C2 0 G G Tryz.underlying23 G fun MD=>An G G<|C2 1 G G Tryz.underlying23 G fun Sm=>U 1 G<|Ac<|Fa G (fun Dq=>?_) (fun Dq=>?_)
 · exact AF 1 G<|BA<|Bq () G G (by rw[W2 (by omega)]) G Aa
 ·
  have AN:x.length=y.length:=by omega
  refine AZ<|Am<|AF 1 G<|B5<|Ji (σ:=Nat) [(0,_),(1,_)] _ (fun i C=>(5,.int .i64 (i:Int))::C) (fun i=>i<=x.length/\(∀j,j<i->x.getD j default=y.getD j default)) (fun i=>x.length-i) 0 (Bs G) (Ad 0 G (Ad 1 G Aa)) ⟨Nat.zero_le _,fun j Ay=>absurd Ay (Nat.not_lt_zero j)⟩ (Bs G) ?_
  rintro i ⟨Ag,C0⟩
  refine Am<|Ae<|U 2 G<|C2 0 G G Tryz.underlying23 G fun TC=>U 1 G<|Ac<|B9 G (fun Fm=>?_) (fun Fm=>?_)
  ·
   refine AZ<|Am<|B5<|Am<|Gx mixed (by kernel_rfl)<|U 2 G<|Fo 0 G G G J1 G fun KC=>Gi 0 G G (At G) G fun Qt Vr=>U 2 G<|Fo 3 G G G J1 G fun Pe=>Gi 0 G G (At G) G fun MJ PW=>Qo zk ((x.getD i default)) ((y.getD i default)) G G G<|Gj<|A5<|Fa G (fun Gr=>?_) (fun Gr=>?_)
   · exact AF 1 G<|rt<|C9<|Cd<|Cd<|C9<|Cd<|Bq () G G (by rw[W1 i (by simpa using Gr)]) G Aa
   ·
    refine EG<|CU<|A5<|rg<|An G G<|C5 G G BV G<|U 1 G<|nl ?_
    exact Dy (i+1) ⟨(by omega),(Ki C0 (by simpa using Gr))⟩ (by omega) (Bs G) G (BE [4,5] G)
  · exact ex<|Ck<|Ck<|D7<|A5<|AF 1 G<|rt<|Bq () G G (by rw[W0 AN (fun j Ay=>C0 j (by omega))]) G Aa
theorem Ahx(I8:Value)(x:List BX)(I9:Value)(y:List BX):Cv AG 47 [I8,I9] [⟨I8,x⟩,⟨I9,y⟩] (.bool (decide (x=y))):=by
 refine Aw.proof Tryz.func47 G 26 G G fun X w=>HP (q:=x.length<=9223372036854775807) (fun S w h=>L1 (h _ (List.mem_of_getElem? (i:=0) G))) fun Wv=>HP (q:=y.length<=9223372036854775807) (fun S w h=>L1 (h _ (List.mem_of_getElem? (i:=1) G))) fun Ww=>AF 1 G<|Am<|Ae<|An G G<|C2 0 G G Tryz.underlying24 G fun MD=>An G G<|C2 1 G G Tryz.underlying24 G fun Sm=>U 1 G<|Ac<|Fa G (fun Dq=>?_) (fun Dq=>?_)
 · exact AF 1 G<|BA<|Bq () G G (by rw[W2 (by omega)]) G Aa
 ·
  have AN:x.length=y.length:=by omega
  refine AZ<|Am<|AF 1 G<|B5<|Ji (σ:=Nat) [(0,_),(1,_)] _ (fun i C=>(5,.int .i64 (i:Int))::C) (fun i=>i<=x.length/\(∀j,j<i->x.getD j default=y.getD j default)) (fun i=>x.length-i) 0 (Bs G) (Ad 0 G (Ad 1 G Aa)) ⟨Nat.zero_le _,fun j Ay=>absurd Ay (Nat.not_lt_zero j)⟩ (Bs G) ?_
  rintro i ⟨Ag,C0⟩
  refine Am<|Ae<|U 2 G<|C2 0 G G Tryz.underlying24 G fun TC=>U 1 G<|Ac<|B9 G (fun Fm=>?_) (fun Fm=>?_)
  ·
   refine AZ<|Am<|B5<|Am<|Gx mixed (by kernel_rfl)<|U 2 G<|Fo 0 G G G N0 G fun KC=>Gi 0 G G (At G) G fun Qt Vr=>U 2 G<|Fo 3 G G G N0 G fun Pe=>Gi 0 G G (At G) G fun MJ PW=>Qo zm ((x.getD i default)) ((y.getD i default)) G G G<|Gj<|A5<|Fa G (fun Gr=>?_) (fun Gr=>?_)
   · exact AF 1 G<|rt<|C9<|Cd<|Cd<|C9<|Cd<|Bq () G G (by rw[W1 i (by simpa using Gr)]) G Aa
   ·
    refine EG<|CU<|A5<|rg<|An G G<|C5 G G BV G<|U 1 G<|nl ?_
    exact Dy (i+1) ⟨(by omega),(Ki C0 (by simpa using Gr))⟩ (by omega) (Bs G) G (BE [4,5] G)
  · exact ex<|Ck<|Ck<|D7<|A5<|AF 1 G<|rt<|Bq () G G (by rw[W0 AN (fun j Ay=>C0 j (by omega))]) G Aa
theorem Ahs(I8:Value)(x:List Bx)(I9:Value)(y:List Bx):Cv AG 48 [I8,I9] [⟨I8,x⟩,⟨I9,y⟩] (.bool (decide (x=y))):=by
 refine Aw.proof Tryz.func48 G 26 G G fun X w=>HP (q:=x.length<=9223372036854775807) (fun S w h=>L1 (h _ (List.mem_of_getElem? (i:=0) G))) fun Wv=>HP (q:=y.length<=9223372036854775807) (fun S w h=>L1 (h _ (List.mem_of_getElem? (i:=1) G))) fun Ww=>AF 1 G<|Am<|Ae<|An G G<|C2 0 G G Tryz.underlying25 G fun MD=>An G G<|C2 1 G G Tryz.underlying25 G fun Sm=>U 1 G<|Ac<|Fa G (fun Dq=>?_) (fun Dq=>?_)
 · exact AF 1 G<|BA<|Bq () G G (by rw[W2 (by omega)]) G Aa
 ·
  have AN:x.length=y.length:=by omega
  refine AZ<|Am<|AF 1 G<|B5<|Ji (σ:=Nat) [(0,_),(1,_)] _ (fun i C=>(5,.int .i64 (i:Int))::C) (fun i=>i<=x.length/\(∀j,j<i->x.getD j default=y.getD j default)) (fun i=>x.length-i) 0 (Bs G) (Ad 0 G (Ad 1 G Aa)) ⟨Nat.zero_le _,fun j Ay=>absurd Ay (Nat.not_lt_zero j)⟩ (Bs G) ?_
  rintro i ⟨Ag,C0⟩
  refine Am<|Ae<|U 2 G<|C2 0 G G Tryz.underlying25 G fun TC=>U 1 G<|Ac<|B9 G (fun Fm=>?_) (fun Fm=>?_)
  ·
   refine AZ<|Am<|B5<|Am<|Gx mixed (by kernel_rfl)<|U 2 G<|Fo 0 G G G Ox G fun KC=>Gi 0 G G (At G) G fun Qt Vr=>U 2 G<|Fo 3 G G G Ox G fun Pe=>Gi 0 G G (At G) G fun MJ PW=>Qo zg ((x.getD i default)) ((y.getD i default)) G G G<|Gj<|A5<|Fa G (fun Gr=>?_) (fun Gr=>?_)
   · exact AF 1 G<|rt<|C9<|Cd<|Cd<|C9<|Cd<|Bq () G G (by rw[W1 i (by simpa using Gr)]) G Aa
   ·
    refine EG<|CU<|A5<|rg<|An G G<|C5 G G BV G<|U 1 G<|nl ?_
    exact Dy (i+1) ⟨(by omega),(Ki C0 (by simpa using Gr))⟩ (by omega) (Bs G) G (BE [4,5] G)
  · exact ex<|Ck<|Ck<|D7<|A5<|AF 1 G<|rt<|Bq () G G (by rw[W0 AN (fun j Ay=>C0 j (by omega))]) G Aa
theorem Ahu(I8:Value)(x:List Df)(I9:Value)(y:List Df):Cv AG 49 [I8,I9] [⟨I8,x⟩,⟨I9,y⟩] (.bool (decide (x=y))):=by
 refine Aw.proof Tryz.func49 G 26 G G fun X w=>HP (q:=x.length<=9223372036854775807) (fun S w h=>L1 (h _ (List.mem_of_getElem? (i:=0) G))) fun Wv=>HP (q:=y.length<=9223372036854775807) (fun S w h=>L1 (h _ (List.mem_of_getElem? (i:=1) G))) fun Ww=>AF 1 G<|Am<|Ae<|An G G<|C2 0 G G Tryz.underlying26 G fun MD=>An G G<|C2 1 G G Tryz.underlying26 G fun Sm=>U 1 G<|Ac<|Fa G (fun Dq=>?_) (fun Dq=>?_)
 · exact AF 1 G<|BA<|Bq () G G (by rw[W2 (by omega)]) G Aa
 ·
  have AN:x.length=y.length:=by omega
  refine AZ<|Am<|AF 1 G<|B5<|Ji (σ:=Nat) [(0,_),(1,_)] _ (fun i C=>(5,.int .i64 (i:Int))::C) (fun i=>i<=x.length/\(∀j,j<i->x.getD j default=y.getD j default)) (fun i=>x.length-i) 0 (Bs G) (Ad 0 G (Ad 1 G Aa)) ⟨Nat.zero_le _,fun j Ay=>absurd Ay (Nat.not_lt_zero j)⟩ (Bs G) ?_
  rintro i ⟨Ag,C0⟩
  refine Am<|Ae<|U 2 G<|C2 0 G G Tryz.underlying26 G fun TC=>U 1 G<|Ac<|B9 G (fun Fm=>?_) (fun Fm=>?_)
  ·
   refine AZ<|Am<|B5<|Am<|Gx mixed (by kernel_rfl)<|U 2 G<|Fo 0 G G G Ky G fun KC=>Gi 0 G G (At G) G fun Qt Vr=>U 2 G<|Fo 3 G G G Ky G fun Pe=>Gi 0 G G (At G) G fun MJ PW=>Qo zi ((x.getD i default)) ((y.getD i default)) G G G<|Gj<|A5<|Fa G (fun Gr=>?_) (fun Gr=>?_)
   · exact AF 1 G<|rt<|C9<|Cd<|Cd<|C9<|Cd<|Bq () G G (by rw[W1 i (by simpa using Gr)]) G Aa
   ·
    refine EG<|CU<|A5<|rg<|An G G<|C5 G G BV G<|U 1 G<|nl ?_
    exact Dy (i+1) ⟨(by omega),(Ki C0 (by simpa using Gr))⟩ (by omega) (Bs G) G (BE [4,5] G)
  · exact ex<|Ck<|Ck<|D7<|A5<|AF 1 G<|rt<|Bq () G G (by rw[W0 AN (fun j Ay=>C0 j (by omega))]) G Aa
theorem Ai9(I8:Value)(x:List AD)(I9:Value)(y:List AD):Cv AG 125 [I8,I9,.func (.func 126) #[] #[]] [⟨I8,x⟩,⟨I9,y⟩] (.bool (RK Xc x y)):=by
 refine Aw.proof Tryz.func125 G 30 G G fun X w=>HP (q:=x.length<=9223372036854775807) (fun S w h=>L1 (h _ (List.mem_of_getElem? (i:=0) G))) fun Wv=>HP (q:=y.length<=9223372036854775807) (fun S w h=>L1 (h _ (List.mem_of_getElem? (i:=1) G))) fun Ww=>AF 1 G<|Am<|Ae<|An G G<|C2 0 G G Tryz.underlying22 G fun Sm=>An G G<|C2 1 G G Tryz.underlying22 G fun e'=>U 1 G<|Ac<|Fa G (fun EM=>?_) (fun EM=>?_)
 · exact AF 1 G<|BA<|Bq () G G (by rw[wX (by omega)]) G Aa
 ·
  have AN:x.length=y.length:=by omega
  refine AZ<|Am<|AF 1 G<|B5<|Ji (σ:=Nat) [(0,_),(1,_),(2,_)] _ (fun i C=>(7,.int .i64 (i:Int))::C) (fun i=>i<=x.length/\(∀j,j<i->Xc (x.getD j default) (y.getD j default)=true)) (fun i=>x.length-i) 0 (Bs G) (Ad 0 G (Ad 1 G Aa)) ⟨Nat.zero_le _,fun j Ay=>absurd Ay (Nat.not_lt_zero j)⟩ (Bs G) ?_
  rintro i ⟨Ag,C0⟩
  refine Am<|Ae<|U 2 G<|C2 0 G G Tryz.underlying22 G fun qT=>U 1 G<|Ac<|B9 G (fun CR=>?_) (fun CR=>?_)
  ·
   refine AZ<|Am<|B5<|Am<|Ow 9 mixed (by kernel_rfl)<|U 3 G<|Fo 0 G G G Gt G fun RB=>Gi 0 G G (At G) G fun AhM cY=>U 2 G<|Fo 4 G G G Gt G fun Pf=>Gi 0 G G (At G) G fun NX PX=>Oq<|QV (Ai7 _ _ _ _ cY PX) (Ar G) G G G (BE [4,1] G) G fun Apm Pg R2=>?_
   subst R2
   refine IH G G<|Ac<|BN G (fun G5=>?_) (fun G5=>?_)
   · exact AF 1 G<|rt<|C9<|Cd<|Cd<|C9<|Cd<|Bq () G G (by rw[wY i (by omega) (not_true G5)]) G Aa
   ·
    refine EG<|CU<|A5<|rg<|An G G<|C5 G G BV G<|U 1 G<|nl ?_
    exact Dy (i+1) ⟨(by omega),(Ki C0 (Aey G5))⟩ (by omega) (Bs G) G (BE [6,7] G)
  · exact ex<|Ck<|Ck<|D7<|A5<|AF 1 G<|rt<|Bq () G G (by rw[nc AN (fun j Ay=>C0 j (by omega))]) G Aa
theorem wP(I8:Value)(x:List AD)(I9:Value)(y:List AD):Cv AG 45 [I8,I9] [⟨I8,x⟩,⟨I9,y⟩] (.bool (RK Xc x y)):=by
 exact Aw.proof Tryz.func45 G 8 G G fun X w=>AF 1 G<|Ae<|U 2 G<|B0 (Ai9 _ _ _ _) (Ar G) G (BE [0,1] G) G<|U 1 G<|Ac<|rt<|Bq () G G (by rfl) G Aa
theorem Ai'(x:Bv)(KW uT uU uV uW uX:Value)(y:Bv)(dc vl vm vn vo vp:Value)(_:x.wf)(_:y.wf):Cv AG 15 [.agg (BY x KW uT uU uV uW uX).toArray,.agg (BY y dc vl vm vn vo vp).toArray] [⟨KW,x.Aj⟩,⟨uT,x.Bz⟩,⟨uU,x.AA⟩,⟨uV,x.Bj⟩,⟨uW,x.CX⟩,⟨uX,x.Cf⟩,⟨dc,y.Aj⟩,⟨vl,y.Bz⟩,⟨vm,y.AA⟩,⟨vn,y.Bj⟩,⟨vo,y.CX⟩,⟨vp,y.Cf⟩] (.bool (cA x y)):=by
 refine Aw.proof Tryz.func15 G 123 G G fun X w=>Ae<|CV G G G fun Dh=>CV G G G fun DQ=>U 1 G<|Ac<|Am<|Ae<|AX 3 [1] G G<|AX 3 [0] G G<|ET 10 6 [1,0] [2,3] G G G<|An G G<|DE 17 6 [2,3] G G (fun DA SU=>AX 4 [1,0] G G<|Bl G G G<|Aek Tryz.underlying4 G G G<|U 1 G<|SU G Br)<|An G G<|ET 24 6 [1,0] [2,3] G G G<|An G G<|ET 31 6 [1,0] [2,3] G G G<|An G G<|ET 38 6 [1,0] [2,3] G G G<|An G G<|DE 45 7 [2,3] G G (fun EN g3=>AX 4 [1,0] G G<|Bl G G G<|B0 (wP _ _ _ _) (Ar G) G (BE [0,6] G) G<|U 2 G<|g3 G Br)<|An G G ?_
 refine DE 53 7 [2,3] G G (fun AmW vY=>AX 4 [1,0] G G<|Bl G G G<|B0 (Ahw _ _ _ _) (Ar G) G (BE [1,7] G) G<|U 2 G<|vY G Br)<|An G G<|DE 61 7 [2,3] G G (fun Yf v5=>AX 4 [1,0] G G<|Bl G G G<|B0 (Ahx _ _ _ _) (Ar G) G (BE [2,8] G) G<|U 2 G<|v5 G Br)<|Ac<|BN G (fun R5=>?_) (fun R5=>?_)
 ·
  have hY:(cB x y)=true:=R5
  exact AF 1 G<|BA<|AQ<|AQ<|Bq () G G (by rw[cA,hY];try rfl) G Aa
 ·
  have hY:(cB x y)=false:=R5
  refine AZ<|Ae<|AX 4 [1,0] G G<|B0 (Ahs _ _ _ _) (Ar G) G (BE [3,9] G) G<|An G G<|D4 74 6 [2,3] G G (fun ew g8=>AX 4 [1,0] G G<|Bl G G G<|B0 (Ahu _ _ _ _) (Ar G) G (BE [4,10] G) G<|U 1 G<|g8 G Br)<|An G G<|D4 81 6 [2,3] G G (fun ez wa=>U 1 G<|Bl G G G<|BJ 1 (ED x.Bt) G G (At G) G G<|U 1 G<|Bl G G G<|BJ 0 (ED y.Bt) G G (At G) G G<|Bl G G G<|RU RV (x.Bt) (y.Bt) G G G<|U 1 G<|wa G Br)<|An G G<|D4 88 6 [2,3] G G (fun pe g'=>U 1 G<|Bl G G G<|BJ 1 (ED x.CW) G G (At G) G G<|U 1 G<|Bl G G G<|BJ 0 (ED y.CW) G G (At G) G G<|Bl G G G<|RU RV (x.CW) (y.CW) G G G<|U 1 G<|g' G Br)<|An G G<|D4 95 6 [2,3] G G (fun Yg ZD=>AX 4 [1,0] G G<|Bl G G G<|B0 (Ai_ _ _ _ _) (Ar G) G (BE [5,11] G) G<|U 1 G<|ZD G Br)<|An G G<|Fu 102 6 [1,0] [2,3] G G G<|An G G<|Fu 109 6 [1,0] [2,3] G G G<|An G G<|Fu 116 6 [1,0] [] G G G ?_
  exact U 1 G<|Ac<|rt<|AQ<|AQ<|Bq () G G (by rw[cA,hY];try rfl) G Aa
theorem Aqx(a:AD)(Cw:Value)(_:a.wf)(Aq:a.A0.length<=1048576):Aw AG 103 [.agg (A3 a Cw).toArray] [] [⟨Cw,a.A0⟩] (fun(y:Value) u=>u=.agg (A3 a y).toArray) (fun _ _=>[]) (fun y _=>[⟨y,a.A0⟩]):=by
 refine Aw.proof Tryz.func103 G 8 G G fun X w=>Ae<|CV G G G fun CY=>CT Hd G fun Dh=>Ac<|Ae<|AX 2 [1] G G<|ApK BD 83<|ap 0 0 G G G G S1 (by simp only[List.length_nil];omega) (by simp only[List.length_nil];omega) G fun Mp=>JO<|U 1 G<|J2 1 0 G G G G (A2 G) (Da G)<|Ac<|Ae<|BJ 1 (A3 ((⟨a.Al,(⟨a.Cs.A6,a.Cs.Bc⟩:GC),a.BT,a.Cn,a.A0,(⟨a.BG.Ap,a.BG.As,a.BG.DH,a.BG.B2⟩:F_)⟩:AD)) Mp) G G (At G) G G<|Cp 0 G fun WV=>?_
 exact BZ 0 (us:=(A3 ((⟨a.Al,(⟨a.Cs.A6,a.Cs.Bc⟩:GC),a.BT,a.Cn,a.A0,(⟨a.BG.Ap,a.BG.As,a.BG.DH,a.BG.B2⟩:F_)⟩:AD)) Mp)) G G G (At G) (by simp only[List.all_cons,List.all_nil,Bool.and_true,WV];rfl) G<|Ac<|rt<|D8 Mp [_,_] (Qv 0 G G G (At G)) (by rfl) G (Ad 0 G Aa)
theorem Aqy(CP:Value)(l:List AD)(AN:l.length<=1048576)(Aq:∀j,(l.getD j default).A0.length<=1048576):Aw AG 30 [CP] [] [⟨CP,l⟩] (fun(_:Unit) _=>True) (fun _ _=>[]) (fun _ v=>[⟨v,l⟩]):=by
 refine Aw.proof Tryz.func30 G 20 G G fun X w=>AF 1 G<|AF 1 G<|Am<|AF 1 G<|B5<|Lk AD 73<|Hx (σ:=Nat×Value) [(0,_)] _ (fun s C=>(4,.int .i64 (s.1:Int))::(3,s.2)::C) (fun s=>[row 73 s.2 (l.take s.1),CL X w]) (fun _ Dw=>Dw) (fun s=>s.1<=l.length) (fun s=>l.length-s.1) (0,_) ⟨G,trivial⟩ (Ad 0 G Aa) (Nat.zero_le _) (Bs G) G (Ad 0 G Aa) ?_
 rintro⟨i,Fv⟩ Ag
 simp only at Ag
 show CF _ _ _ [(4,.int .i64 ((i:Int))),(3,_),(0,_)] [row 73 Fv (l.take i),CL X w] _
 refine Am<|Ae<|U 2 G<|C2 0 G G Tryz.underlying22 G fun MD=>U 1 G<|Ac<|B9 G (fun D2=>?_) (fun D2=>?_)
 ·
  refine AZ<|Am<|B5<|rg<|U 3 G<|Fo 0 G G G Gt G fun PS=>Gi 0 G G (At G) G fun KR N6=>Dm (Aqx _ _ N6 (Aq i)) (Ar G) G (Ad 1 G Aa) G fun Ui Mn CR=>?_
  subst CR
  refine Lw G OI G G G G fun nu=>?_
  refine KJ (α:=AD) (l.getD i default) (fun S w h=>⟨Ui,G,fun t Av=>by
    simp only[List.mem_cons,List.not_mem_nil,or_false]at Av
    subst Av
    · exact h _ (List.mem_of_getElem? (i:=0) G),N6⟩) ?_
  refine ap 0 0 G G G G OI (by have:=List.length_take_le i l;simp only[List.length_cons,List.length_nil];omega) (by have:=List.length_take_le i l;simp only[List.length_cons,List.length_nil];omega) G fun Zq=>U 1 G<|nl<|CU<|A5<|rg<|An G G<|C5 G G BV G<|U 1 G<|nl ?_
  rw[ArE (by omega)]
  exact Dy ((i+1,Zq):Nat×Value) (by show i+1<=l.length;omega) (by show l.length-(i+1)<l.length-i;omega) (Bs G) G (Ad 5 G Aa)
 ·
  obtain rfl:i=l.length:=by omega
  rw[List.take_length]
  exact ex<|Ck<|Ck<|D7<|A5<|AF 2 G<|rt<|K5<|Bq () G G trivial G (Ad 0 G Aa)
theorem ApC{n k:Nat}(h:n<=1048576)(AE:k<=1000000):(0+n)*k<=140737488355328:=by
 have:=Nat.mul_le_mul h AE
 rw[Nat.zero_add]
 omega
theorem ApD{n:Nat}(h:n<=1048576):0+n<=140737488355328:=by omega
theorem Aqz(S:Bv)(El EV D_ EA Em Eh:Value)(_:S.wf)(Aq:Ap2 S):Aw AG 12 [.agg (BY S El EV D_ EA Em Eh).toArray] [] [⟨El,S.Aj⟩,⟨EV,S.Bz⟩,⟨D_,S.AA⟩,⟨EA,S.Bj⟩,⟨Em,S.CX⟩,⟨Eh,S.Cf⟩] (fun(y:DL.H) u=>u=.agg (BY S (y.1) (y.2.1) (y.2.2.1) (y.2.2.2.1) (y.2.2.2.2.1) (y.2.2.2.2.2)).toArray) (fun _ _=>[]) (fun y _=>[⟨y.1,S.Aj⟩,⟨y.2.1,S.Bz⟩,⟨y.2.2.1,S.AA⟩,⟨y.2.2.2.1,S.Bj⟩,⟨y.2.2.2.2.1,S.CX⟩,⟨y.2.2.2.2.2,S.Cf⟩]):=by
 refine Aw.proof Tryz.func12 G 28 G G fun X w=>?_
 obtain⟨je,R9,ApP,ApQ,aQ,ApR,ApS⟩:=Aq
 refine Ae<|CV G G G fun CY=>CT LQ G fun Dh=>Ac<|Ae<|AX 2 [1] G G<|Dm (Aqy _ _ je R9) (Ar G) G (Ad 0 G Aa) G fun _ Mp _=>U 1 G<|J2 1 0 G G G G (A2 G) (Da G)<|Ac<|Ae<|AX 2 [1] G G<|ApK BL 54<|ap 0 2 G G G G QN (by first|exact ApC ApP (by decide)|exact ApD ApP) (by first|exact ApC ApP (by decide)|exact ApD ApP) G fun Nr=>JO<|U 1 G<|J2 1 0 G G G G (A2 G) (Da G)<|Ac<|Ae<|AX 2 [1] G G<|ApK BX 50<|ap 0 4 G G G G Mt (by first|exact ApC ApQ (by decide)|exact ApD ApQ) (by first|exact ApC ApQ (by decide)|exact ApD ApQ) G fun RA=>JO<|U 1 G<|J2 1 0 G G G G (A2 G) (Da G)<|Ac<|Ae<|AX 2 [1] G G<|ApK Bx 52<|ap 0 6 G G G G QQ (by first|exact ApC aQ (by decide)|exact ApD aQ) (by first|exact ApC aQ (by decide)|exact ApD aQ) G fun T6=>JO<|U 1 G<|J2 1 0 G G G G (A2 G) (Da G)<|Ac<|Ae<|AX 2 [1] G G<|ApK Df 125<|ap 0 8 G G G G RM (by first|exact ApC ApR (by decide)|exact ApD ApR) (by first|exact ApC ApR (by decide)|exact ApD ApR) G fun SB=>JO<|U 1 G<|J2 1 0 G G G G (A2 G) (Da G)<|Ac<|Ae<|AX 2 [1] G G<|ApK UInt8 5<|ap 0 10 G G G G QP (by first|exact ApC ApS (by decide)|exact ApD ApS) (by first|exact ApC ApS (by decide)|exact ApD ApS) G fun T7=>JO<|U 1 G<|J2 1 0 G G G G (A2 G) (Da G)<|Ac<|Ae ?_
 have Anj:=je
 refine BJ 1 (BY ((⟨S.CZ,S.DX,S.Du,S.A6,S.Bc,S.Dn,S.Aj,S.Bz,S.AA,S.Bj,S.CX,(⟨S.Bt.Ev,S.Bt.Hi,S.Bt.IX,S.Bt.A6,S.Bt.Bc,S.Bt.Ap,S.Bt.As⟩:Fs),(⟨S.CW.Ev,S.CW.Hi,S.CW.IX,S.CW.A6,S.CW.Bc,S.CW.Ap,S.CW.As⟩:Fs),S.Cf,S.Jc,S.JL,S.GW⟩:Bv)) Mp Nr RA T6 SB T7) G G (At G) G G<|Cp 5 G fun WV=>?_
 refine Cp 4 G fun Aq'=>?_
 refine Cp 3 G fun Aq7=>?_
 refine Cp 2 G fun Aq8=>?_
 refine Cp 1 G fun Aq9=>?_
 refine Cp 0 G fun Aq_=>?_
 exact BZ 0 (us:=(BY ((⟨S.CZ,S.DX,S.Du,S.A6,S.Bc,S.Dn,S.Aj,S.Bz,S.AA,S.Bj,S.CX,(⟨S.Bt.Ev,S.Bt.Hi,S.Bt.IX,S.Bt.A6,S.Bt.Bc,S.Bt.Ap,S.Bt.As⟩:Fs),(⟨S.CW.Ev,S.CW.Hi,S.CW.IX,S.CW.A6,S.CW.Bc,S.CW.Ap,S.CW.As⟩:Fs),S.Cf,S.Jc,S.JL,S.GW⟩:Bv)) Mp Nr RA T6 SB T7)) G G G (At G) (by simp only[List.all_cons,List.all_nil,Bool.and_true,WV,Aq',Aq7,Aq8,Aq9,Aq_];rfl) G<|Ac<|rt<|D8 ⟨Mp,Nr,RA,T6,SB,T7⟩ [_,_] (Qv 0 G G G (At G)) (by rfl) G (Ad 5 G (Ad 4 G (Ad 3 G (Ad 2 G (Ad 1 G (Ad 0 G Aa))))))
end Go.Proofs.YtalfaopffbkdnaaGreat
namespace Go.A_
open Go.RowKit
end Go.A_
namespace Go.Apw
open Go.A_
theorem jS(k:ByteArray):isNil k=decide ((k.size:Int)<1):=by
 unfold isNil
 refine decide_eq_decide.2 ⟨fun h=>by rw[h];decide,fun h=>?_⟩
 have Bw:k.size=0:=by omega
 rcases k with⟨a⟩
 have:a.size=0:=Bw
 rw[Array.size_eq_zero_iff]at this
 rw[this]
 rfl
theorem l2:∀{l:List Int},(∀x∈l,0<=x)->0<=l.sum
 |[],_=>by simp
 |x::r,h=>by
  have Cg:=l2 (l:=r) fun y Bf=>h y (List.mem_cons_of_mem _ Bf)
  have:=h x (List.mem_cons_self ..)
  simp only[List.sum_cons]
  omega
theorem pY{l:List BD}(hh:LI l=true){x:BD}(Ab:x∈l):0<=x.DV/\0<=x.Fc:=by
 obtain⟨i,Ag,rfl⟩:=List.getElem_of_mem Ab
 have:=Wy hh Ag
 rw[G3 Ag]at this
 exact⟨this.2.2.2.1,this.2.2.2.2⟩
theorem cR{a:AD}(hh:LI a.A0=true):a.BT<=I7 a:=by
 unfold I7
 have:=l2 (l:=a.A0.map (·.DV)) fun x Ab=>by
  obtain⟨y,Bf,rfl⟩:=List.mem_map.1 Ab
  exact(pY hh Bf).1
 omega
theorem ag{a:AD}(hh:LI a.A0=true):IU a<=a.BT:=by
 unfold IU
 have:=l2 (l:=a.A0.map (·.Fc)) fun x Ab=>by
  obtain⟨y,Bf,rfl⟩:=List.mem_map.1 Ab
  exact(pY hh Bf).2
 omega
theorem Vn{x:Int}(h:J3 x=true):Lo x=x/\No x=0:=by unfold Lo No;rw[if_pos h,if_pos h];exact⟨rfl,rfl⟩
theorem tL{x:Int}(h:J3 x=false):Lo x=0/\No x=10:=by unfold Lo No;rw[h];exact⟨rfl,rfl⟩
theorem rP(k:ByteArray):Ix k= !(isNil k||decide ((k.size:Int)>16)):=by
 rw[jS]
 unfold Ix
 rw[Bool.eq_iff_iff]
 simp only[Bool.and_eq_true,decide_eq_true_eq,Bool.not_eq_true',Bool.or_eq_false_iff,decide_eq_false_iff_not]
 omega
end Go.Apw
namespace Go.Proofs.YtalfaopffbkdnaaGreat
open Go.A_ Go.Apw
theorem n0(Bk:Value)(l:List BL)(hlen:l.length<=100000):Aw AG 73 [Bk] [] [⟨Bk,l⟩] (fun(_:Unit) _=>True) (fun _ v=>[]) (fun _ v=>[⟨v,l⟩]):=by
 refine Aw.proof Tryz.func73 G 8 G G fun X w=>AF 1 G<|Am<|Ae<|An G G<|RT 0 Tryz.underlying23 G G G G fun PM J'=>Ac<|BN G (fun BB=>?_) (fun BB=>?_)
 ·
  have Ab:l=[]:=J' BB
  subst Ab
  exact DJ (α:=BL)<|AF 1 G<|BA<|Bq () G G trivial G (Ad 0 G Aa)
 · exact AZ<|Ae<|NB QN G fun E'=>Nm (α:=BL) [] [] G G (fun _ _ _=>trivial) G<|An G G<|ap 0 0 G G G G QN (by simp only[List.length_nil];omega) (by simp only[List.length_nil];omega) G fun EZ=>U 1 G<|Ac<|rt<|K5<|Bq () G G trivial G (Ad 0 G Aa)
theorem hI(Bk:Value)(l:List Bx)(hlen:l.length<=100000):Aw AG 75 [Bk] [] [⟨Bk,l⟩] (fun(_:Unit) _=>True) (fun _ v=>[]) (fun _ v=>[⟨v,l⟩]):=by
 refine Aw.proof Tryz.func75 G 8 G G fun X w=>AF 1 G<|Am<|Ae<|An G G<|RT 0 Tryz.underlying25 G G G G fun PM J'=>Ac<|BN G (fun BB=>?_) (fun BB=>?_)
 ·
  have Ab:l=[]:=J' BB
  subst Ab
  exact DJ (α:=Bx)<|AF 1 G<|BA<|Bq () G G trivial G (Ad 0 G Aa)
 · exact AZ<|Ae<|NB QQ G fun E'=>Nm (α:=Bx) [] [] G G (fun _ _ _=>trivial) G<|An G G<|ap 0 0 G G G G QQ (by simp only[List.length_nil];omega) (by simp only[List.length_nil];omega) G fun EZ=>U 1 G<|Ac<|rt<|K5<|Bq () G G trivial G (Ad 0 G Aa)
theorem hJ(Bk:Value)(l:List Df)(hlen:l.length<=100000):Aw AG 76 [Bk] [] [⟨Bk,l⟩] (fun(_:Unit) _=>True) (fun _ v=>[]) (fun _ v=>[⟨v,l⟩]):=by
 refine Aw.proof Tryz.func76 G 8 G G fun X w=>AF 1 G<|Am<|Ae<|An G G<|RT 0 Tryz.underlying26 G G G G fun PM J'=>Ac<|BN G (fun BB=>?_) (fun BB=>?_)
 ·
  have Ab:l=[]:=J' BB
  subst Ab
  exact DJ (α:=Df)<|AF 1 G<|BA<|Bq () G G trivial G (Ad 0 G Aa)
 · exact AZ<|Ae<|NB RM G fun E'=>Nm (α:=Df) [] [] G G (fun _ _ _=>trivial) G<|An G G<|ap 0 0 G G G G RM (by simp only[List.length_nil];omega) (by simp only[List.length_nil];omega) G fun EZ=>U 1 G<|Ac<|rt<|K5<|Bq () G G trivial G (Ad 0 G Aa)
end Go.Proofs.YtalfaopffbkdnaaGreat
