/- Part 12 of shardFull_holds. -/
import Derived.Test.YtalfaopffbkdnaaGreatSgm11

set_option maxRecDepth 20000
set_option maxHeartbeats 1000000
open Go.A_ Go.Apw
namespace Go.Apw
theorem AAz{v:Nat}(h:v % 2=1):Ul v= -((v / 2:Nat):Int)-1:=if_pos h
theorem AAy{v:Nat}(h:¬v % 2=1):Ul v=((v / 2:Nat):Int):=if_neg h
theorem Aw6{v:Nat}(h:v<2^64):IntKind.i64.wrap ((v / 2:Nat):Int)=((v / 2:Nat):Int):=bq (by omega)
theorem Ax8{J:List UInt8}{i:Nat}{c:UInt8}(h:J[i]? =some c):xO (J.drop i)=(c,1,0):=by
 rw[yD h];rfl
theorem Ax7{J:List UInt8}{i:Nat}(h:J.length<=i):xO (J.drop i)=(0,0,20):=by
 rw[List.drop_eq_nil_of_le h];rfl
theorem Awz{J:List UInt8}{s:Bb}{c:UInt8}(BI:s.fault=0)(h:J[s.pos]? =some c):k5 J s=(c,⟨s.pos+1,0⟩):=by
 simp only[k5,Lj,Ax8 h,Avh BI rfl,Avs BI rfl]
theorem Awy{J:List UInt8}{s:Bb}(BI:s.fault=0)(h:J.length<=s.pos):k5 J s=(0,⟨s.pos,20⟩):=by
 simp only[k5,Lj,Ax7 h,Au0 (show(20:Nat)≠0 by decide),Au4 BI (show(20:Nat)≠0 by decide)]
theorem Axm{J:List UInt8}{s:Bb}:Kw J s=if 1<(k5 J s).1.toNat then(false,⟨s.pos,21⟩)else(decide ((k5 J s).1=1),(k5 J s).2):=by
 by_cases BI:s.fault=0
 ·
  by_cases AN:s.pos<J.length
  ·
   obtain⟨c,Bm⟩:∃c,J[s.pos]? =some c:=⟨_,Aav AN⟩;rw[Awz BI Bm];simp only[Kw,Lj,yD Bm,NG];split
   ·
    simp only[Au0 (show(21:Nat)≠0 by decide),Au4 BI (show(21:Nat)≠0 by decide)]
   ·
    simp only[Avh BI rfl,Avs BI rfl]
  ·
   rw[Awy BI (by omega)];simp only[Kw,Lj,List.drop_eq_nil_of_le (show J.length<=s.pos by omega),NG,Au0 (show(20:Nat)≠0 by decide),Au4 BI (show(20:Nat)≠0 by decide)];rfl
 ·
  rw[AwA BI];simp only[Kw,Lj,Bb.val,Bb.step];rw[if_pos BI,if_pos BI];rfl
theorem AzL{J:List UInt8}{s:Bb}(h:1<(k5 J s).1.toNat):s.fault=0/\(k5 J s).2.fault=0:=by
 by_cases BI:s.fault=0
 ·
  refine⟨BI,?_⟩;by_cases AN:s.pos<J.length
  ·
   obtain⟨c,Bm⟩:∃c,J[s.pos]? =some c:=⟨_,Aav AN⟩;rw[Awz BI Bm]
  ·
   rw[Awy BI (by omega)]at h;exact absurd (show 1<(0:UInt8).toNat from h) (by decide)
 ·
  rw[AwA BI]at h;exact absurd (show 1<(0:UInt8).toNat from h) (by decide)
theorem Axl{J:List UInt8}{m:Int}{s:Bb}:DT J m s=if max m 0<((rdNum J s).1:Int)then(0,⟨s.pos,22⟩)else rdNum J s:=by
 by_cases BI:s.fault=0
 ·
  rcases Fx:HH 0 0 (J.drop s.pos)with⟨x,n,e⟩;have eB:=S7 (most:=m) Fx;have Ao:rdNum J s=(s.val 0 x e,s.step n e):=(by simp only[rdNum,Lj,Fx]);by_cases he:e=0
  ·
   subst he;by_cases hm:max m 0<(x:Int)
   ·
    rw[if_pos ⟨rfl,hm⟩]at eB;have Bm:DT J m s=(s.val 0 0 22,s.step 0 22):=(by simp only[DT,Lj,eB]);rw[Bm,Ao,Au0 (show(22:Nat)≠0 by decide),Au4 BI (show(22:Nat)≠0 by decide),Avh BI rfl,if_pos hm]
   ·
    rw[if_neg (fun h=>hm h.2),if_neg (fun h=>h rfl)]at eB;have Bm:DT J m s=(s.val 0 x 0,s.step n 0):=(by simp only[DT,Lj,eB]);rw[Bm,Ao,Avh BI rfl,if_neg hm]
  ·
   rw[if_neg (fun h=>he h.1),if_pos he]at eB;have Bm:DT J m s=(s.val 0 0 e,s.step 0 e):=(by simp only[DT,Lj,eB]);rw[Bm,Ao,Au0 he,Au0 he,if_neg (by show ¬max m 0<((0:Nat):Int);omega),Au4 BI he,Au4 BI he]
 ·
  rw[Ah3 BI,AwB BI,if_neg (by show ¬max m 0<((0:Nat):Int);omega)]
theorem AzN{J:List UInt8}{s:Bb}(h:0<(rdNum J s).1):s.fault=0/\(rdNum J s).2.fault=0:=by
 by_cases BI:s.fault=0
 ·
  refine⟨BI,?_⟩;rcases Fx:HH 0 0 (J.drop s.pos)with⟨x,n,e⟩;simp only[rdNum,Lj,Fx]at h ⊢;by_cases he:e=0
  ·
   rw[Avs BI he]
  ·
   rw[Au0 he]at h;omega
 ·
  rw[AwB BI]at h;exact absurd h (Nat.lt_irrefl 0)
theorem AzM{J:List UInt8}{m:Int}{s:Bb}:((DT J m s).1:Int)<=max m 0:=by
 simp only[DT,Lj,Bb.val];split
 ·
  show((0:Nat):Int)<=_;omega
 ·
  split
  ·
   show((0:Nat):Int)<=_;omega
  · exact(aa _ _).1
theorem AAb{J:List UInt8}{p k:Nat}:(J.drop p).take k=[]++(J.take (((p:Int)+(k:Int)).toNat)).drop (((p:Int)+(k:Int)-(k:Int)).toNat):=by
 rw[show((p:Int)+(k:Int)).toNat=p+k by omega,show((p:Int)+(k:Int)-(k:Int)).toNat=p by omega,List.nil_append,List.drop_take,Nat.add_sub_cancel_left]
theorem AzO{J:List UInt8}{m:Int}{s:Bb}:Gm J m s=if(DT J m s).2.fault≠0 then([],(DT J m s).2)else if J.length-(DT J m s).2.pos<(DT J m s).1 then([],⟨s.pos,20⟩)
  else((J.drop (DT J m s).2.pos).take (DT J m s).1,⟨(DT J m s).2.pos+(DT J m s).1,0⟩):=by
 by_cases BI:s.fault=0
 ·
  rcases Fx:L9 (J.drop s.pos) m with⟨x,n,e⟩;have Aq:=(aa (J.drop s.pos) m).2.1;rw[Fx]at Aq;simp only[List.length_drop]at Aq;have LY:=l7 Fx;have Bm:DT J m s=(s.val 0 x e,s.step n e):=(by simp only[DT,Lj,Fx]);by_cases he:e=0
  ·
   subst he;rw[if_neg (fun h=>h rfl),List.length_drop]at LY;rw[Bm,Avh BI rfl,Avs BI rfl];show _=if(0:Nat)≠0 then _ else if J.length-(s.pos+n)<x then([],(⟨s.pos,20⟩:Bb))else((J.drop (s.pos+n)).take x,⟨s.pos+n+x,0⟩);rw[if_neg (by decide)];by_cases AN:J.length-s.pos<n+x
   ·
    rw[if_pos AN]at LY;have Av:Gm J m s=(s.val [] [] 20,s.step 0 20):=(by simp only[Gm,Lj,LY]);rw[Av,Au0 (show(20:Nat)≠0 by decide),Au4 BI (show(20:Nat)≠0 by decide),if_pos (by omega)]
   ·
    rw[if_neg AN]at LY;have Av:Gm J m s=(s.val [] (((J.drop s.pos).drop n).take x) 0,s.step (n+x) 0):=(by simp only[Gm,Lj,LY]);rw[Av,Avh BI rfl,Avs BI rfl,if_neg (by omega),List.drop_drop,Nat.add_assoc]
  ·
   rw[if_pos he]at LY;have Av:Gm J m s=(s.val [] [] e,s.step 0 e):=(by simp only[Gm,Lj,LY]);rw[Bm,Av,Au0 he,Au0 he,Au4 BI he,Au4 BI he,if_pos he]
 ·
  rw[Ah3 BI,show Gm J m s=([],s)from Prod.ext (Aig BI) (Aif BI),if_pos BI]
end Go.Apw
namespace Go.Proofs.YtalfaopffbkdnaaGreat.Ref
section
variable(p:Nat) (bv:Value) (J:List UInt8) (s:Bb) (m:Int)
theorem AyT(AH:s.pos<=J.length):Aw AG 201 [.pointer (some ⟨p,0,none⟩)] [AuD p bv s] [⟨bv,J⟩] (fun(_:Unit) v=>v=.int .i64 (D6 J s).1) (fun _ _=>[AuD p bv (D6 J s).2]) (fun _ _=>[]):=by
 refine Aw.proof Tryz.func201 G 17 G G fun X w=>?_;have AN:=sM J s;refine AF 1 G<|Ae<|An G G<|Ch 0 (Axa p bv J s AH) (Ar G) G G (Ad 0 G Aa) G fun _ Mp C'=>?_;have C':Mp=.int .u64 ((rdNum J s).1:Int):=C';subst C';refine U 1 G<|Ac<|Am<|Ae<|An G G<|AzP G G (by decide) (AAd _) G<|U 1 G<|Ac<|B9 G (fun D2=>?_) (fun D2=>?_)
 · exact Ae<|An G G<|Axj G G (by decide) (Axq _ AN) G<|F0 Tryz.underlying136 Tryz.underlying3 G (Aw6 AN) G<|fl G BV G<|TU G G BV G<|U 1 G<|Ac<|BA<|Bq () G G (by show _=Value.int .i64 (Ul (rdNum J s).1);rw[AAz (by omega)]) G Aa
 · exact AZ<|Ae<|An G G<|Axj G G (by decide) (Axq _ AN) G<|F0 Tryz.underlying136 Tryz.underlying3 G (Aw6 AN) G<|U 1 G<|Ac<|rt<|Bq () G G (by show _=Value.int .i64 (Ul (rdNum J s).1);rw[AAy (by omega)]) G Aa
theorem Ax9(AH:s.pos<=J.length):Aw AG 269 [.pointer (some ⟨p,0,none⟩)] [AuD p bv s] [⟨bv,J⟩] (fun(_:Unit) v=>v=.int .u8 ((k5 J s).1.toNat:Int)) (fun _ _=>[AuD p bv (k5 J s).2]) (fun _ _=>[]):=by
 refine Aw.proof Tryz.func269 G 38 G G fun X w=>HP (q:=J.length<=9223372036854775807) (fun S w h=>L1 (h _ (List.mem_of_getElem? (i:=0) G))) fun hlen=>AF 1 G<|Am<|Ae<|AX 4 [0] G G<|U 1 G<|Ac<|Fa G (fun GY=>?_) (fun GY=>?_)
 ·
  have BI:s.fault≠0:=(by omega);rw[AwA BI];exact AF 1 G<|BA<|Bq () G G G G Aa
 ·
  have BI:s.fault=0:=(by omega);refine AZ<|Am<|Am<|Gx mixed (by kernel_rfl)<|AX 8 [0,0] G G<|C2 0 G G Tryz.underlying29 G fun AAM=>U 1 G<|Gj<|A5<|B9 G (fun DA=>?_) (fun DA=>?_)
  ·
   rw[Awy BI (by omega)];refine Ae<|An G G<|Ch 0 (Avy p bv J s 20 (by first|exact BI|rfl)) (Ar G) G G (Ad 0 G Aa) G fun _ KC _=>?_
   exact Ac<|AF 1 G<|BA<|Bq () G G G G Aa
  ·
   obtain⟨c,Bm⟩:∃c,J[s.pos]? =some c:=⟨_,Aav (by omega)⟩;rw[Awz BI Bm];exact AZ<|Ae<|AX 4 [0] G G<|C5 G G BV G<|U 2 G<|Fi 0 G G G (A2 G) G (Da G)<|Ac<|Am<|Gx mixed (by kernel_rfl)<|AX 8 [0,0] G G<|TU G G BV G<|Qh 0 G G G TZ (by omega) (show J[((s.pos:Int)+1-1).toNat]? =some c from by rw[show((s.pos:Int)+1-1).toNat=s.pos by omega];exact Bm) G fun SC=>CQ 0 G G (A2 G) G fun AkU=>U 1 G<|Gj<|A5<|rt<|Bq () G G G (by simp only[BI];rfl) Aa
theorem Ayv(AH:s.pos<=J.length):Aw AG 199 [.pointer (some ⟨p,0,none⟩)] [AuD p bv s] [⟨bv,J⟩] (fun(_:Unit) v=>v=.bool (Kw J s).1) (fun _ _=>[AuD p bv (Kw J s).2]) (fun _ _=>[]):=by
 refine Aw.proof Tryz.func199 G 21 G G fun X w=>AF 1 G<|I5 5 [0] G G<|Ae<|An G G<|Ch 0 (Ax9 p bv J s AH) (Ar G) G G (Ad 0 G Aa) G fun _ v10 Dq=>?_;have Dq:v10=.int .u8 ((k5 J s).1.toNat:Int):=Dq;subst Dq;refine U 1 G<|Ac<|Am<|AF 2 G<|B9 G (fun EM=>?_) (fun EM=>?_)
 ·
  have Aq:1<(k5 J s).1.toNat:=(by omega);have Awp:=AzL Aq;have Bh:Kw J s=(false,⟨s.pos,21⟩):=(by rw[Axm,if_pos Aq]);rw[Bh];refine Ae<|U 4 G<|Fi 0 G G G (A2 G) G (Da G)<|Ac<|Ae<|An G G<|Ch 0 (Avy p bv J ⟨s.pos,(k5 J s).2.fault⟩ 21 Awp.2) (Ar G) G G (Ad 0 G Aa) G fun _ Zq _=>?_;exact Ac<|AF 1 G<|BA<|Bq () G G G G Aa
 ·
  have Aq:¬1<(k5 J s).1.toNat:=(by omega);have Bh:Kw J s=(decide ((k5 J s).1=1),(k5 J s).2):=(by rw[Axm,if_neg Aq]);rw[Bh];exact AZ<|AF 3 G<|rt<|Bq () G G (congrArg Value.bool (by rw[Bool.eq_iff_iff];simp only[decide_eq_true_eq];rw[<-UInt8.toNat_inj];show _↔_=1;omega)) G Aa
theorem Aw0(hm:A' m)(AH:s.pos<=J.length):Aw AG 273 [.pointer (some ⟨p,0,none⟩),.int .i64 m] [AuD p bv s] [⟨bv,J⟩] (fun(_:Unit) v=>v=.int .i64 ((DT J m s).1:Int)) (fun _ _=>[AuD p bv (DT J m s).2]) (fun _ _=>[]):=by
 refine Aw.proof Tryz.func273 G 26 G G fun X w=>?_;obtain⟨Sd,Anz⟩:=id hm;have Yt:=rr hm;obtain⟨Sd,Anz⟩:=id hm;refine AF 1 G<|I5 5 [0] G G<|Ae<|An G G<|Ch 0 (Axa p bv J s AH) (Ar G) G G (Ad 0 G Aa) G fun _ gz EM=>?_;have EM:gz=.int .u64 ((rdNum J s).1:Int):=EM;subst EM;refine U 1 G<|Ac<|Am<|Ae<|U 2 G<|ka G G G G<|F0 Tryz.underlying3 Tryz.underlying136 G (SI (by omega) (by omega)) G<|U 1 G<|Ac<|B9 G (fun DA=>?_) (fun DA=>?_)
 ·
  have Aq:max m 0<((rdNum J s).1:Int):=(by omega);have Awp:=AzN (show 0<(rdNum J s).1 by omega);rw[Axl,if_pos Aq];refine Ae<|U 4 G<|Fi 0 G G G (A2 G) G (Da G)<|Ac<|Ae<|An G G<|Ch 0 (Avy p bv J ⟨s.pos,(rdNum J s).2.fault⟩ 22 Awp.2) (Ar G) G G (Ad 0 G Aa) G fun _ Pe _=>?_;exact Ac<|AF 1 G<|BA<|Bq () G G G G Aa
 ·
  rw[Axl,if_neg (by omega)];exact AZ<|Ae<|An G G<|F0 Tryz.underlying136 Tryz.underlying3 G (bq (by omega)) G<|U 1 G<|Ac<|rt<|Bq () G G G G Aa
theorem AAa(hm:A' m)(pS:m<=1000000)(AH:s.pos<=J.length):Aw AG 209 [.pointer (some ⟨p,0,none⟩),.int .i64 m] [AuD p bv s] [⟨bv,J⟩] (fun(_:Unit) _=>True) (fun _ _=>[AuD p bv (Gm J m s).2]) (fun _ v=>[⟨v,(Gm J m s).1⟩]):=by
 refine Aw.proof Tryz.func209 G 63 G G fun X w=>?_;obtain⟨Sd,Anz⟩:=id hm;have Yt:=rr hm;obtain⟨Sd,Anz⟩:=id hm;refine HP (q:=J.length<=9223372036854775807) (fun S w h=>L1 (h _ (List.mem_of_getElem? (i:=0) G))) fun hlen=>AF 1 G<|I5 5 [0] G G<|Ae<|U 2 G<|Ch 0 (Aw0 p bv J s m hm AH) (Ar G) G G (Ad 0 G Aa) G fun _ RA Dp=>?_;have Dp:RA=.int .i64 ((DT J m s).1:Int):=Dp;subst Dp;have LY:=@AzO J m s;have AAI:=W_ (most:=m) AH;have Wp:=@AzM J m s;generalize (DT J m s).1=k at*;generalize (DT J m s).2=s2 at*;refine U 1 G<|Ac<|Am<|I5 5 [0] G G<|Fa G (fun ER=>?_) (fun ER=>?_)
 ·
  rw[if_pos (show s2.fault≠0 by omega)]at LY;rw[LY];exact DJ (α:=UInt8)<|AF 1 G<|BA<|Bq () G G trivial G (Ad 0 G Aa)
 ·
  have Aw3:s2.fault=0:=(by omega);rw[if_neg (show ¬s2.fault≠0 by omega)]at LY;refine AZ<|Am<|Am<|Gx mixed (by kernel_rfl)<|AX 5 [0] G G<|C2 0 G G Tryz.underlying29 G fun AnR=>U 3 G<|AX 1 [0] G G<|TU G G BV G<|U 1 G<|Gj<|A5<|B9 G (fun OS=>?_) (fun OS=>?_)
  ·
   rw[if_pos (by omega)]at LY;rw[LY];refine DJ (α:=UInt8)<|Ae<|U 4 G<|Fi 0 G G G (A2 G) G (Da G)<|Ac<|Ae<|An G G<|Ch 0 (Avy p bv J ⟨s.pos,s2.fault⟩ 20 Aw3) (Ar G) G G (Ad 1 G Aa) G fun _ SC _=>?_;exact Ac<|AF 1 G<|BA<|Bq () G G trivial G (Ad 0 G Aa)
  ·
   rw[if_neg (by omega)]at LY;rw[LY];refine AZ<|Ae<|AX 6 [0] G G<|C5 G G BV G<|U 2 G<|Fi 0 G G G (A2 G) G (Da G)<|Ac<|Am<|AAq [(0,_),(6,_)] _ (Bs G) Br<|Vh (L:=[AO p 192 [bv,.int .i64 ((s2.pos:Int)+(k:Int)),.int .i64 (s2.fault:Int)],CL X w]) [] [(0,⟨none,fun _=>[],true⟩),(4,⟨some (bv),fun _=>[],false⟩),(8,⟨some (.int .i64 (((s2.pos:Int)+(k:Int)))),fun _=>[],false⟩),(10,⟨some (.int .i64 ((((s2.pos:Int)+(k:Int))-(k:Int)))),fun _=>[],false⟩),(14,⟨some (.int .i64 (((s2.pos:Int)+(k:Int)))),fun _=>[],false⟩),(15,⟨none,fun u=>[⟨u,(J.take (((s2.pos:Int)+(k:Int)).toNat)).drop (((s2.pos:Int)+(k:Int)-(k:Int)).toNat)⟩],false⟩),(16,⟨none,fun _=>[],true⟩),(17,⟨none,fun _=>[],true⟩)] [] [] [(0,fun L Gz=>(row 5 (Gz 0) ([]:List UInt8))::L),(16,fun L Gz=>NZ 2 (row 5 (Gz 16) ([]++(J.take (((s2.pos:Int)+(k:Int)).toNat)).drop (((s2.pos:Int)+(k:Int)-(k:Int)).toNat))) L),(17,fun L Gz=>NZ 2 (row 5 (Gz 17) ([]++(J.take (((s2.pos:Int)+(k:Int)).toNat)).drop (((s2.pos:Int)+(k:Int)-(k:Int)).toNat))) L)] (fun _=>G) (fun _=>by kernel_rfl) ⟨fun V Az _=>GK (NB QP G fun AAB=>Nm (α:=UInt8) [] [] G G (fun _ _ _=>trivial) G<|nl (Ig G G G trivial Aa Br)),fun V Az _=>du (ME 0 G G (A2 G) G G<|GH G G G G) (ME 1 G G (A2 G) G G<|GH G G G G) (ME 1 G G (A2 G) G G<|GH G G G G),fun V Az _=>du (ME 0 G G (A2 G) G G<|GH G G G G) (ME 1 G G (A2 G) G G<|GH G G G G) (ME 1 G G (A2 G) G G<|GH G G G G),fun V Az _=>(by(repeat (refine dt ?_ ?_;exact TU G G BV G<|GH G G G G));trivial),fun V Az _=>du (ME 0 G G (A2 G) G G<|GH G G G G) (ME 1 G G (A2 G) G G<|GH G G G G) (ME 1 G G (A2 G) G G<|GH G G G G),fun V Az _=>(by(repeat (refine dt ?_ ?_;exact Az4 0 G G TZ G G (by omega) (by omega) (by omega) G fun ui=>nl (Ig G G G trivial (Ad 0 G Aa) (Bg.tail Br))));trivial),fun V Az _=>GK (ap 0 0 G G G G QP (by simp only[List.length_nil,List.length_drop,List.length_take];omega) (by simp only[List.length_nil,List.length_drop,List.length_take];omega) G fun AA5=>nl (Ig G G G trivial Aa (Bg.tail Br))),fun V Az _=>GK (VQ G G<|nl (Ig G G G trivial Aa Br)),trivial⟩ fun V _=>Vu [1] G<|?_
   generalize V 17=v2;exact A5<|rt<|K5<|Bq () G G trivial (by simp only[Aw3];rfl) (by rw[AAb];exact(Bg.cons 0 rfl Bg.nil))
theorem Ayl:Aw AG 33 [.pointer (some ⟨p,0,none⟩)] [AuD p bv s] [⟨bv,J⟩] (fun(_:Unit) v=>v=.int .i64 (Q0 J s)) (fun _ _=>[AuD p bv s]) (fun _ _=>[]):=by
 refine Aw.proof Tryz.func33 G 24 G G fun X w=>AF 1 G<|Am<|Am<|Gx mixed (by kernel_rfl)<|AX 5 [0] G G<|An G G ?_;refine D4 8 11 [0] G G (fun D2 ZH=>by
  have kL:=of_decide_eq_true D2;exact AX 7 [0] G G<|AX 1 [0] G G<|Bl G G G<|C2 0 G G Tryz.underlying29 G fun Adg=>U 2 G<|ZH G Br) ?_
 refine Gj<|A5<|BN G (fun Fe=>?_) (fun Fe=>?_)
 ·
  have Qs:=Fe;simp at Qs;exact AF 1 G<|BA<|Bq () G G (by unfold Q0;rw[if_pos Qs]) G Aa
 ·
  have Qs:=Fe;simp at Qs;exact AZ<|I5 5 [0] G G<|rt<|Bq () G G (by unfold Q0;rw[if_neg (by omega)]) G Aa
end
end Go.Proofs.YtalfaopffbkdnaaGreat.Ref
namespace Go.Apw
structure AuH where
 r:Nat
@[reducible] def AuH.Ayq(x:AuH):JD:=⟨.pointer (some ⟨x.r,0,none⟩)⟩
@[reducible] def AzV:Shape AuH where
 H:=Unit
 size:=3
 cells x _:=[.slice none 0 0,.pointer (some ⟨x.r,0,none⟩),.bool false]
 sub _ _:=[]
 wf _:=True
 len _ _:=rfl
 one:=by
  intro S w x h Av u hu;simp only[List.mem_cons,List.not_mem_nil,or_false]at hu;rcases hu with rfl|rfl|rfl<;>rfl
@[reducible] instance AzK:Be AuH:=Be.D5 AzV
theorem AuM{x:AuH}:AuF AzK Qx 1 1 x x.Ayq:=by
 rintro S w cs ⟨h,rfl,hs,hw⟩;exact⟨G,G⟩
def AuJ(J:List UInt8)(o:Nat)(p:List Value×Bb):List Value×Bb:=CO J [o,o+1] p
def AuL(J:List UInt8)(o:Nat)(p:List Value×Bb):List Value×Bb:=CO J [o,o+1,o+2,o+3] p
def AuK(J:List UInt8)(o:Nat)(p:List Value×Bb):List Value×Bb:=CO J [o+1,o+2,o+3] (CO J [o] p)
theorem AwE{J:List UInt8}{o:Nat}{p:List Value×Bb}(h:p.2.pos<=J.length):(AuJ J o p).2.pos<=J.length:=Hw h
end Go.Apw
namespace Go.Proofs.YtalfaopffbkdnaaGreat.Ref
section
variable(By bv:Value) (p:Nat) (J:List UInt8) (s:Bb) (b T:Nat) (cells:List Value) (o:Nat)
theorem Aws(AH:s.pos<=J.length)(Cu:cells[o]? =some (.int .i64 0)):Aw AG 108 [By,.pointer (some ⟨b,o,none⟩)] [AO b T cells,AuD p bv s] [⟨By,(⟨⟨p⟩⟩:Cq AuH)⟩,⟨bv,J⟩] (fun(_:Unit) _=>True) (fun _ _=>[AO b T (CO J [o] (cells,s)).1,AuD p bv (CO J [o] (cells,s)).2]) (fun _ _=>[]):=by
 refine Aw.proof Tryz.func108 G 28 G G fun X w=>?_;have A7:=Rj Cu;refine Am<|Ae<|An G G<|Co 0 G G G<|CJ 0 AuM G G (BR G) G fun v6=>CQ 0 G G (A2 G) G fun OD=>M3 Tryz.underlying105 G G G<|Ac<|LW G<|AZ<|rg<|U 2 G<|Co 1 G G G<|CJ 1 AuM G G (BR G) G fun Xl=>CQ 0 G G (A2 G) G fun Vs=>Ch 1 (AyT p bv J s AH) (Ar G) G G (Ad 3 G Aa) G fun _ Pf JR=>?_;have JR:Pf=.int .i64 (D6 J s).1:=JR;subst JR;exact Va G G<|Fi 0 G G G (A2 G) G A7<|nl<|Dz () G trivial G Aa
theorem qs(Bk:Value)(p:Nat)(J:List UInt8)(B3:Bb)(b T:Nat)(cells:List Value)(offs:List Nat)(AH:B3.pos<=J.length)(Cu:gQ cells offs)(Ao:offs.Nodup):Aw AG 105 [By,Bk] [AO b T cells,AuD p bv B3] [⟨By,(⟨⟨p⟩⟩:Cq AuH)⟩,⟨bv,J⟩,⟨Bk,NW b offs⟩] (fun(_:Unit) _=>True) (fun _ _=>[AO b T (CO J offs (cells,B3)).1,AuD p bv (CO J offs (cells,B3)).2]) (fun _ _=>[]):=by
 refine Aw.proof Tryz.func105 G 17 G G fun X w=>AF 1 G<|B5<|Hx (σ:=Nat×List Value×Bb) [(0,_),(1,_)] _ (fun i C=>(4,.int .i64 (i.1:Int))::C) (fun i=>[AO b T i.2.1,AuD p bv i.2.2,CL X w]) (fun _ Dw=>Dw) (fun i=>i.1<=offs.length/\i.2.2.pos<=J.length/\gQ i.2.1 (offs.drop i.1)/\(offs.drop i.1).Nodup/\CO J (offs.drop i.1) i.2=CO J offs (cells,B3)) (fun i=>offs.length-i.1) (0,cells,B3) (Bs G) (Ad 0 G (Ad 1 G (Ad 2 G Aa))) ⟨Nat.zero_le _,AH,Cu,Ao,G⟩ (Bs G) G (Ad 0 G (Ad 1 G (Ad 2 G Aa))) ?_;rintro⟨i,c,s⟩ ⟨Ag,hs,Bm,AJ,he⟩;simp only at Ag hs Bm AJ he;refine Am<|Ae<|U 2 G<|C2 2 G G Tryz.underlying259 G fun MD=>U 1 G<|Ac<|B9 G (fun D2=>?_) (fun D2=>?_)
 ·
  have Jf:i<offs.length:=(by rw[Y4]at D2;omega);rw[drop_cons Jf]at Bm AJ he;refine AZ<|Am<|B5<|rg<|U 3 G<|Qh 2 G G G lQ (by omega) (sr Jf) G fun PS=>CQ 0 G G (A2 G) G fun N6=>Hs 2 (Aws By bv p J s b T c (offs.getD i 0) hs (Bm _ (List.mem_cons_self ..))) (Ar G) G G (BE [1,2] G) G fun _ _ _=>?_;refine nl<|CU<|A5<|rg<|An G G<|C5 G G BV G<|U 1 G<|nl ?_;exact Dy ((i+1,c.set (offs.getD i 0) (.int .i64 (D6 J s).1),(D6 J s).2):Nat×List Value×Bb) ⟨by omega,Hb hs,vu (α:=Nat) AJ (fun x Ab=>Bm x (List.mem_cons_of_mem _ Ab)),(List.nodup_cons.1 AJ).2,he⟩ (by show _-_<_-_;omega) (Bs G) G (BE [1,2,3] G)
 ·
  have Jf:i=offs.length:=(by rw[Y4]at D2;omega);subst Jf;rw[List.drop_length]at he;have he:(c,s)=CO J offs (cells,B3):=he;rw[<-he];exact ex<|Ck<|Ck<|D7<|Dz () G trivial G Aa
theorem zR(AH:s.pos<=J.length)(Cu:cells[o]? =some (.bool false)):Aw AG 106 [By,.pointer (some ⟨b,o,none⟩)] [AO b T cells,AuD p bv s] [⟨By,(⟨⟨p⟩⟩:Cq AuH)⟩,⟨bv,J⟩] (fun(_:Unit) _=>True) (fun _ _=>[AO b T (E9 J o (cells,s)).1,AuD p bv (E9 J o (cells,s)).2]) (fun _ _=>[]):=by
 refine Aw.proof Tryz.func106 G 30 G G fun X w=>?_;have A7:=Rj Cu;refine Am<|Ae<|An G G<|Co 0 G G G<|CJ 0 AuM G G (BR G) G fun EZ=>CQ 0 G G (A2 G) G fun gE=>rG Tryz.underlying105 G G G<|Ac<|Mv G<|Ae<|U 2 G<|Co 1 G G G<|CJ 1 AuM G G (BR G) G fun RA=>CQ 0 G G (A2 G) G fun SE=>Ch 1 (Ayv p bv J s AH) (Ar G) G G (Ad 3 G Aa) G fun _ Xk Ft=>?_;have Ft:Xk=.bool (Kw J s).1:=Ft;subst Ft;exact Va G G<|Fi 0 G G G (A2 G) G A7<|Ac<|BA<|Dz () G trivial G Aa
theorem nM(u:Value)(AH:s.pos<=J.length)(Cu:cells[o]? =some u):Aw AG 115 [By,.pointer (some ⟨b,o,none⟩)] [AO b T cells,AuD p bv s] [⟨By,(⟨⟨p⟩⟩:Cq AuH)⟩,⟨bv,J⟩,⟨u,([]:List UInt8)⟩] (fun(_:Value) _=>True) (fun y _=>[AO b T (C7 o y (Gm J 65535) (cells,s)).1,AuD p bv (C7 o y (Gm J 65535) (cells,s)).2]) (fun y _=>[⟨y,(Gm J 65535 s).1⟩]):=by
 refine Aw.proof Tryz.func115 G 47 G G fun X w=>?_;have A7:=Rj Cu;refine Am<|Ae<|An G G<|Co 0 G G G<|CJ 0 AuM G G (BR G) G fun v6=>CQ 0 G G (A2 G) G fun OD=>rG Tryz.underlying105 G G G<|Ac<|Mv G<|Ae<|U 2 G<|Co 1 G G G<|CJ 1 AuM G G (BR G) G fun gz=>CQ 0 G G (A2 G) G fun AkQ=>Ch 1 (AAa p bv J s 65535 BV (by omega) AH) (Ar G) G G (Ad 3 G Aa) G fun _ PS _=>?_;exact Va G G<|J2 0 0 G G G G (A2 G) A7<|Ac<|BA<|Ej PS G trivial G (Ad 0 G Aa)
theorem Az'(AH:s.pos<=J.length)(Cu:cells[o]? =some (.string ByteArray.empty)):Aw AG 107 [By,.pointer (some ⟨b,o,none⟩)] [AO b T cells,AuD p bv s] [⟨By,(⟨⟨p⟩⟩:Cq AuH)⟩,⟨bv,J⟩] (fun(_:Unit) _=>True) (fun _ _=>[AO b T (Ea J [o] (cells,s)).1,AuD p bv (Ea J [o] (cells,s)).2]) (fun _ _=>[]):=by
 refine Aw.proof Tryz.func107 G 38 G G fun X w=>?_;have A7:=Rj Cu;exact Ae<|CT dg G fun En=>Fi 0 G G G (A2 G) G (Da G)<|Ac<|Am<|Ae<|An G G<|Co 0 G G G<|CJ 0 AuM G G (BR G) G fun EZ=>CQ 0 G G (A2 G) G fun gE=>M3 Tryz.underlying105 G G G<|Ac<|LW G<|AZ<|Ae<|An G G<|oA (α:=UInt8)<|D9 2 G<|D9 1 G<|Hs 2 (nM By bv p J s En 29 [.slice none 0 0] 0 AI AH G) (Ar G) G G (BE [2,3,0] G) G fun y ue L'=>Ac<|rg<|An G G<|ME 0 G G (A2 G) (show _=some y from G) G<|xU 0 Tryz.underlying29 Tryz.underlying5 Tryz.underlying9 G G G<|Va G G<|Fi 2 G G G (A2 G) G A7<|nl<|AQ<|Au 1 G<|Dz () G trivial G Aa
theorem Avl(n:Int)(AH:s.pos<=J.length):Aw AG 202 [By,.int .i64 n] [AuD p bv s] [⟨By,(⟨⟨p⟩⟩:Cq AuH)⟩,⟨bv,J⟩] (fun(_:Unit) v=>v=.int .i64 ((DT J 1024 s).1:Int)) (fun _ _=>[AuD p bv (DT J 1024 s).2]) (fun _ _=>[]):=by
 refine Aw.proof Tryz.func202 G 38 G G fun X w=>AF 1 G<|Am<|Ae<|An G G<|Co 0 G G G<|CJ 0 AuM G G (BR G) G fun EZ=>CQ 0 G G (A2 G) G fun gE=>rG Tryz.underlying105 G G G<|Ac<|Mv G<|Ae<|An G G<|Co 1 G G G<|CJ 1 AuM G G (BR G) G fun gz=>CQ 0 G G (A2 G) G fun AkQ=>Ch 0 (Aw0 p bv J s 1024 BV AH) (Ar G) G G (Ad 3 G Aa) G fun _ PS Fm=>?_;have Fm:PS=.int .i64 ((DT J 1024 s).1:Int):=Fm;subst Fm;exact U 1 G<|Ac<|BA<|Bq () G G G G Aa
theorem rA:Aw AG 203 [By] [AuD p bv s] [⟨By,(⟨⟨p⟩⟩:Cq AuH)⟩] (fun(_:Unit) v=>v=.bool (decide ((s.fault:Int)=0))) (fun _ _=>[AuD p bv s]) (fun _ _=>[]):=by
 exact Aw.proof Tryz.func203 G 29 G G fun X w=>AF 1 G<|Am<|Ae<|An G G<|Co 0 G G G<|CJ 0 AuM G G (BR G) G fun Mp=>CQ 0 G G (A2 G) G fun Xt=>rG Tryz.underlying105 G G G<|Ac<|Mv G<|Ae<|An G G<|Co 1 G G G<|CJ 1 AuM G G (BR G) G fun v10=>CQ 0 G G (A2 G) G fun SD=>AX 5 [0] G G<|Ac<|BA<|Bq () G G G G Aa
end
section
variable(By bv:Value) (p:Nat) (J:List UInt8) (s:Bb) (b T:Nat) (cells:List Value) (q:List Value×Bb) (o:Nat)
theorem NO(Bk:Value)(p:Nat)(J:List UInt8)(b T:Nat)(q:List Value×Bb)(offs:List Nat)(AH:q.2.pos<=J.length)(Cu:gQ q.1 offs)(Ao:offs.Nodup):Aw AG 105 [By,Bk] [AO b T q.1,AuD p bv q.2] [⟨By,(⟨⟨p⟩⟩:Cq AuH)⟩,⟨bv,J⟩,⟨Bk,NW b offs⟩] (fun(_:Unit) _=>True) (fun _ _=>[AO b T (CO J offs q).1,AuD p bv (CO J offs q).2]) (fun _ _=>[]):=
 qs By bv Bk p J q.2 b T q.1 offs AH Cu Ao
theorem Aw'(AH:q.2.pos<=J.length)(Cu:q.1[o]? =some (.int .i64 0)):Aw AG 108 [By,.pointer (some ⟨b,o,none⟩)] [AO b T q.1,AuD p bv q.2] [⟨By,(⟨⟨p⟩⟩:Cq AuH)⟩,⟨bv,J⟩] (fun(_:Unit) _=>True) (fun _ _=>[AO b T (CO J [o] q).1,AuD p bv (CO J [o] q).2]) (fun _ _=>[]):=
 Aws By bv p J q.2 b T q.1 o AH Cu
theorem Au7(AH:q.2.pos<=J.length)(Cu:q.1[o]? =some (.string ByteArray.empty)):Aw AG 107 [By,.pointer (some ⟨b,o,none⟩)] [AO b T q.1,AuD p bv q.2] [⟨By,(⟨⟨p⟩⟩:Cq AuH)⟩,⟨bv,J⟩] (fun(_:Unit) _=>True) (fun _ _=>[AO b T (Ea J [o] q).1,AuD p bv (Ea J [o] q).2]) (fun _ _=>[]):=
 Az' By bv p J q.2 b T q.1 o AH Cu
theorem o0(AH:q.2.pos<=J.length)(Cu:q.1[o]? =some (.bool false)):Aw AG 106 [By,.pointer (some ⟨b,o,none⟩)] [AO b T q.1,AuD p bv q.2] [⟨By,(⟨⟨p⟩⟩:Cq AuH)⟩,⟨bv,J⟩] (fun(_:Unit) _=>True) (fun _ _=>[AO b T (E9 J o q).1,AuD p bv (E9 J o q).2]) (fun _ _=>[]):=
 zR By bv p J q.2 b T q.1 o AH Cu
theorem xP(u:Value)(AH:q.2.pos<=J.length)(Cu:q.1[o]? =some u):Aw AG 115 [By,.pointer (some ⟨b,o,none⟩)] [AO b T q.1,AuD p bv q.2] [⟨By,(⟨⟨p⟩⟩:Cq AuH)⟩,⟨bv,J⟩,⟨u,([]:List UInt8)⟩] (fun(_:Value) _=>True) (fun y _=>[AO b T (C7 o y (Gm J 65535) q).1,AuD p bv (C7 o y (Gm J 65535) q).2]) (fun y _=>[⟨y,(Gm J 65535 q.2).1⟩]):=
 nM By bv p J q.2 b T q.1 o u AH Cu
theorem Afy(AH:s.pos<=J.length)(bl:cells[o]? =some (.int .i64 0))(Tw:cells[o+1]? =some (.string ByteArray.empty))(PE:cells[o+2]? =some (.string ByteArray.empty))(WH:cells[o+3]? =some (.int .i64 0))(bm:cells[o+4]? =some (.int .i64 0))(bn:cells[o+5]? =some (.int .i64 0)):Aw AG 278 [By,.pointer (some ⟨b,o,none⟩)] [AO b T cells,AuD p bv s] [⟨By,(⟨⟨p⟩⟩:Cq AuH)⟩,⟨bv,J⟩] (fun(_:Unit) _=>True) (fun _ _=>[AO b T (Hy J o (cells,s)).1,AuD p bv (Hy J o (cells,s)).2]) (fun _ _=>[]):=by
 exact Aw.proof Tryz.func278 G 31 G G fun X w=>Ae<|U 4 G<|Hs 2 (Aw' By bv p J b T (cells,s) o AH (by first|assumption|(repeat first|rw[WJ (by simp only[List.mem_cons,List.not_mem_nil,or_false];omega)]|rw[Xi (by simp only[List.mem_cons,List.not_mem_nil,or_false];omega)]);assumption)) (Ar G) G G (BE [0,1] G) G fun _ _ _=>Ac<|Ae<|U 4 G<|Hs 2 (Au7 By bv p J b T (CO J [o] (cells,s)) (o+1) (Hw AH) (by first|assumption|(repeat first|rw[WJ (by simp only[List.mem_cons,List.not_mem_nil,or_false];omega)]|rw[Xi (by simp only[List.mem_cons,List.not_mem_nil,or_false];omega)]);assumption)) (Ar G) G G (BE [0,1] G) G fun _ _ _=>Ac<|Ae<|U 4 G<|Hs 2 (Au7 By bv p J b T (Ea J [(o+1)] (CO J [o] (cells,s))) (o+2) (MP (Hw AH)) (by first|assumption|(repeat first|rw[WJ (by simp only[List.mem_cons,List.not_mem_nil,or_false];omega)]|rw[Xi (by simp only[List.mem_cons,List.not_mem_nil,or_false];omega)]);assumption)) (Ar G) G G (BE [0,1] G) G fun _ _ _=>Ac<|MM b [(o+3),(o+4),(o+5)] [1,2,0] (fun u=>NO By bv u p J b T (Ea J [(o+2)] (Ea J [(o+1)] (CO J [o] (cells,s)))) [(o+3),(o+4),(o+5)] (MP (MP (Hw AH))) (by intro x Ab;simp only[List.mem_cons,List.not_mem_nil,or_false]at Ab;rcases Ab with rfl|rfl|rfl<;>first|assumption|(repeat first|rw[WJ (by simp only[List.mem_cons,List.not_mem_nil,or_false];omega)]|rw[Xi (by simp only[List.mem_cons,List.not_mem_nil,or_false];omega)]);assumption) (by simp)) (Ar G) HB G G (by kernel_rfl) (fun _=>G)<|Dz () G trivial G Aa
theorem Afz(AH:q.2.pos<=J.length)(bl:q.1[o]? =some (.int .i64 0))(Tw:q.1[o+1]? =some (.string ByteArray.empty))(PE:q.1[o+2]? =some (.string ByteArray.empty))(WH:q.1[o+3]? =some (.int .i64 0))(bm:q.1[o+4]? =some (.int .i64 0))(bn:q.1[o+5]? =some (.int .i64 0)):Aw AG 278 [By,.pointer (some ⟨b,o,none⟩)] [AO b T q.1,AuD p bv q.2] [⟨By,(⟨⟨p⟩⟩:Cq AuH)⟩,⟨bv,J⟩] (fun(_:Unit) _=>True) (fun _ _=>[AO b T (Hy J o q).1,AuD p bv (Hy J o q).2]) (fun _ _=>[]):=
 Afy By bv p J q.2 b T q.1 o AH bl Tw PE WH bm bn
theorem Ahy(AH:s.pos<=J.length)(bl:cells[o]? =some (.int .i64 0))(Tw:cells[o+1]? =some (.int .i64 0))(PE:cells[o+2]? =some (.int .i64 0))(WH:cells[o+3]? =some (.string ByteArray.empty))(bm:cells[o+4]? =some (.string ByteArray.empty))(bn:cells[o+5]? =some (.int .i64 0))(qg:cells[o+6]? =some (.int .i64 0)):Aw AG 114 [By,.pointer (some ⟨b,o,none⟩)] [AO b T cells,AuD p bv s] [⟨By,(⟨⟨p⟩⟩:Cq AuH)⟩,⟨bv,J⟩] (fun(_:Unit) _=>True) (fun _ _=>[AO b T (Ga J o (cells,s)).1,AuD p bv (Ga J o (cells,s)).2]) (fun _ _=>[]):=by
 exact Aw.proof Tryz.func114 G 35 G G fun X w=>Am<|MM b [o,(o+1),(o+2)] [1,2,0] (fun u=>NO By bv u p J b T (cells,s) [o,(o+1),(o+2)] AH (by intro x Ab;simp only[List.mem_cons,List.not_mem_nil,or_false]at Ab;rcases Ab with rfl|rfl|rfl<;>first|assumption|(repeat first|rw[WJ (by simp only[List.mem_cons,List.not_mem_nil,or_false];omega)]|rw[Xi (by simp only[List.mem_cons,List.not_mem_nil,or_false];omega)]);assumption) (by simp)) (Ar G) HB G G (by kernel_rfl) (fun _=>G)<|A5<|Ae<|U 4 G<|Hs 2 (Au7 By bv p J b T (CO J [o,(o+1),(o+2)] (cells,s)) (o+3) (Hw AH) (by first|assumption|(repeat first|rw[WJ (by simp only[List.mem_cons,List.not_mem_nil,or_false];omega)]|rw[Xi (by simp only[List.mem_cons,List.not_mem_nil,or_false];omega)]);assumption)) (Ar G) G G (BE [0,1] G) G fun _ _ _=>Ac<|Ae<|U 4 G<|Hs 2 (Au7 By bv p J b T (Ea J [(o+3)] (CO J [o,(o+1),(o+2)] (cells,s))) (o+4) (MP (Hw AH)) (by first|assumption|(repeat first|rw[WJ (by simp only[List.mem_cons,List.not_mem_nil,or_false];omega)]|rw[Xi (by simp only[List.mem_cons,List.not_mem_nil,or_false];omega)]);assumption)) (Ar G) G G (BE [0,1] G) G fun _ _ _=>Ac<|MM b [(o+5),(o+6)] [1,2,0] (fun u=>NO By bv u p J b T (Ea J [(o+4)] (Ea J [(o+3)] (CO J [o,(o+1),(o+2)] (cells,s)))) [(o+5),(o+6)] (MP (MP (Hw AH))) (by intro x Ab;simp only[List.mem_cons,List.not_mem_nil,or_false]at Ab;rcases Ab with rfl|rfl<;>first|assumption|(repeat first|rw[WJ (by simp only[List.mem_cons,List.not_mem_nil,or_false];omega)]|rw[Xi (by simp only[List.mem_cons,List.not_mem_nil,or_false];omega)]);assumption) (by simp)) (Ar G) HB G G (by kernel_rfl) (fun _=>G)<|Dz () G trivial G Aa
theorem sk(AH:q.2.pos<=J.length)(bl:q.1[o]? =some (.int .i64 0))(Tw:q.1[o+1]? =some (.int .i64 0))(PE:q.1[o+2]? =some (.int .i64 0))(WH:q.1[o+3]? =some (.string ByteArray.empty))(bm:q.1[o+4]? =some (.string ByteArray.empty))(bn:q.1[o+5]? =some (.int .i64 0))(qg:q.1[o+6]? =some (.int .i64 0)):Aw AG 114 [By,.pointer (some ⟨b,o,none⟩)] [AO b T q.1,AuD p bv q.2] [⟨By,(⟨⟨p⟩⟩:Cq AuH)⟩,⟨bv,J⟩] (fun(_:Unit) _=>True) (fun _ _=>[AO b T (Ga J o q).1,AuD p bv (Ga J o q).2]) (fun _ _=>[]):=
 Ahy By bv p J q.2 b T q.1 o AH bl Tw PE WH bm bn qg
theorem Az5(AH:s.pos<=J.length)(bl:cells[o]? =some (.int .i64 0))(Tw:cells[o+1]? =some (.int .i64 0)):Aw AG 274 [By,.pointer (some ⟨b,o,none⟩)] [AO b T cells,AuD p bv s] [⟨By,(⟨⟨p⟩⟩:Cq AuH)⟩,⟨bv,J⟩] (fun(_:Unit) _=>True) (fun _ _=>[AO b T (AuJ J o (cells,s)).1,AuD p bv (AuJ J o (cells,s)).2]) (fun _ _=>[]):=by
 exact Aw.proof Tryz.func274 G 13 G G fun X w=>MM b [o,(o+1)] [1,2,0] (fun u=>NO By bv u p J b T (cells,s) [o,(o+1)] AH (by intro x Ab;simp only[List.mem_cons,List.not_mem_nil,or_false]at Ab;rcases Ab with rfl|rfl<;>first|assumption|(repeat first|rw[WJ (by simp only[List.mem_cons,List.not_mem_nil,or_false];omega)]|rw[Xi (by simp only[List.mem_cons,List.not_mem_nil,or_false];omega)]);assumption) (by simp)) (Ar G) HB G G (by kernel_rfl) (fun _=>G)<|Dz () G trivial G Aa
theorem Az6(AH:q.2.pos<=J.length)(bl:q.1[o]? =some (.int .i64 0))(Tw:q.1[o+1]? =some (.int .i64 0)):Aw AG 274 [By,.pointer (some ⟨b,o,none⟩)] [AO b T q.1,AuD p bv q.2] [⟨By,(⟨⟨p⟩⟩:Cq AuH)⟩,⟨bv,J⟩] (fun(_:Unit) _=>True) (fun _ _=>[AO b T (AuJ J o q).1,AuD p bv (AuJ J o q).2]) (fun _ _=>[]):=
 Az5 By bv p J q.2 b T q.1 o AH bl Tw
theorem AyY(AH:s.pos<=J.length)(bl:cells[o]? =some (.int .i64 0))(Tw:cells[o+1]? =some (.int .i64 0))(PE:cells[o+2]? =some (.int .i64 0))(WH:cells[o+3]? =some (.int .i64 0)):Aw AG 276 [By,.pointer (some ⟨b,o,none⟩)] [AO b T cells,AuD p bv s] [⟨By,(⟨⟨p⟩⟩:Cq AuH)⟩,⟨bv,J⟩] (fun(_:Unit) _=>True) (fun _ _=>[AO b T (AuL J o (cells,s)).1,AuD p bv (AuL J o (cells,s)).2]) (fun _ _=>[]):=by
 exact Aw.proof Tryz.func276 G 19 G G fun X w=>MM b [o,(o+1),(o+2),(o+3)] [1,2,0] (fun u=>NO By bv u p J b T (cells,s) [o,(o+1),(o+2),(o+3)] AH (by intro x Ab;simp only[List.mem_cons,List.not_mem_nil,or_false]at Ab;rcases Ab with rfl|rfl|rfl|rfl<;>first|assumption|(repeat first|rw[WJ (by simp only[List.mem_cons,List.not_mem_nil,or_false];omega)]|rw[Xi (by simp only[List.mem_cons,List.not_mem_nil,or_false];omega)]);assumption) (by simp)) (Ar G) HB G G (by kernel_rfl) (fun _=>G)<|Dz () G trivial G Aa
theorem AyZ(AH:q.2.pos<=J.length)(bl:q.1[o]? =some (.int .i64 0))(Tw:q.1[o+1]? =some (.int .i64 0))(PE:q.1[o+2]? =some (.int .i64 0))(WH:q.1[o+3]? =some (.int .i64 0)):Aw AG 276 [By,.pointer (some ⟨b,o,none⟩)] [AO b T q.1,AuD p bv q.2] [⟨By,(⟨⟨p⟩⟩:Cq AuH)⟩,⟨bv,J⟩] (fun(_:Unit) _=>True) (fun _ _=>[AO b T (AuL J o q).1,AuD p bv (AuL J o q).2]) (fun _ _=>[]):=
 AyY By bv p J q.2 b T q.1 o AH bl Tw PE WH
theorem Ax3(AH:s.pos<=J.length)(bl:cells[o]? =some (.int .i64 0))(Tw:cells[o+1]? =some (.int .i64 0))(PE:cells[o+2]? =some (.int .i64 0))(WH:cells[o+3]? =some (.int .i64 0)):Aw AG 277 [By,.pointer (some ⟨b,o,none⟩)] [AO b T cells,AuD p bv s] [⟨By,(⟨⟨p⟩⟩:Cq AuH)⟩,⟨bv,J⟩] (fun(_:Unit) _=>True) (fun _ _=>[AO b T (AuK J o (cells,s)).1,AuD p bv (AuK J o (cells,s)).2]) (fun _ _=>[]):=by
 refine Aw.proof Tryz.func277 G 27 G G fun X w=>?_;have A7:=Rj bl;exact Ae<|U 3 G<|ME 0 G G (A2 G) bl G<|CT df G fun En=>Fi 0 G G G (A2 G) G (by decide)<|Ac<|Ae<|An G G<|D9 2 G<|D9 1 G<|Hs 2 (Aws By bv p J s En 3 [.int .i64 0] 0 AH G) (Ar G) G G (BE [0,1] G) G fun _ _ _=>Ac<|Ae<|An G G<|ME 0 G G (A2 G) (show _=some (.int .i64 (D6 J s).1)from G) G<|U 2 G<|Fi 2 G G G (A2 G) G A7<|Ayh<|D9 1 G<|Ac<|MM b [(o+1),(o+2),(o+3)] [1,2,0] (fun u=>NO By bv u p J b T (CO J [o] (cells,s)) [(o+1),(o+2),(o+3)] (Hw AH) (by intro x Ab;simp only[List.mem_cons,List.not_mem_nil,or_false]at Ab;rcases Ab with rfl|rfl|rfl<;>first|assumption|(repeat first|rw[WJ (by simp only[List.mem_cons,List.not_mem_nil,or_false];omega)]|rw[Xi (by simp only[List.mem_cons,List.not_mem_nil,or_false];omega)]);assumption) (by simp)) (Ar G) HB G G (by kernel_rfl) (fun _=>G)<|Dz () G trivial G Aa
theorem Ax4(AH:q.2.pos<=J.length)(bl:q.1[o]? =some (.int .i64 0))(Tw:q.1[o+1]? =some (.int .i64 0))(PE:q.1[o+2]? =some (.int .i64 0))(WH:q.1[o+3]? =some (.int .i64 0)):Aw AG 277 [By,.pointer (some ⟨b,o,none⟩)] [AO b T q.1,AuD p bv q.2] [⟨By,(⟨⟨p⟩⟩:Cq AuH)⟩,⟨bv,J⟩] (fun(_:Unit) _=>True) (fun _ _=>[AO b T (AuK J o q).1,AuD p bv (AuK J o q).2]) (fun _ _=>[]):=
 Ax3 By bv p J q.2 b T q.1 o AH bl Tw PE WH
end
end Go.Proofs.YtalfaopffbkdnaaGreat.Ref
namespace Go.Apw
section
variable(J:List UInt8) (s:Bb) (Pm db AuN Uk AuP ArN AuT:Value)
theorem AyB:(CO J [0,1,2,3] (vx,s))=(JH (Iu J s).1,(Iu J s).2):=by
 simp only[CO,Iu,Di,List.set_cons_zero,List.set_cons_succ]
theorem AyA:(CO J [0,1] (vy,s))=(QT (HF J s).1,(HF J s).2):=by
 simp only[CO,HF,Di,List.set_cons_zero,List.set_cons_succ]
theorem Ayz:(CO J [4,5,6,7] (Ea J [3] (Ea J [2] (CO J [0,1] (XH,s)))))=(H8 (Hk J s).1,(Hk J s).2):=by
 simp only[CO,Ea,Hk,Di,List.set_cons_zero,List.set_cons_succ]
theorem AyC:(AuK J 3 (E9 J 2 (CO J [0,1] (dh,s))))=(H9 (GG J s).1,(GG J s).2):=by
 simp only[CO,E9,AuK,GG,UL,Di,List.set_cons_zero,List.set_cons_succ,Nat.reduceAdd]
theorem AyK:(Hy J 5 (CO J [0,1,2,3,4] (gU,s)))=(Hh (GX J s).1,(GX J s).2):=by
 simp only[CO,Ea,Hy,GX,Wc,Di,List.set_cons_zero,List.set_cons_succ,Nat.reduceAdd]
theorem Ayx:(AuL J 6 (C7 5 Pm (CS J (Iu J)) (CO J [3,4] (AuJ J 1 (Ea J [0] (N9,s))))))=(A3 (F2 J s).1 Pm,(F2 J s).2):=by
 simp only[CO,Ea,C7,AuJ,AuL,F2,UO,UM,Di,List.set_cons_zero,List.set_cons_succ,Nat.reduceAdd]
theorem Ayy(J:List UInt8)(s:Bb)(_:Value):(CS J (Iu J) (CO J [3,4] (AuJ J 1 (Ea J [0] (N9,s)))).2).1=(F2 J s).1.A0:=by
 simp only[CO,Ea,C7,AuJ,AuL,F2,UO,UM,Di,List.set_cons_zero,List.set_cons_succ,Nat.reduceAdd]
theorem AyD:(CO J [26,27,28] (C7 25 AuT (Gm J 65535) (Ga J 18 (Ga J 11 (C7 10 ArN (CS J (HF J)) (C7 9 AuP (CS J (Hk J)) (C7 8 Uk (CS J (GX J)) (C7 7 AuN (CS J (GG J)) (C7 6 db (CS J (F2 J)) (CO J [5] (Ea J [4] (Ea J [3] (E9 J 2 (CO J [0,1] (IQ,s)))))))))))))))=(BY (FC J s).1 db AuN Uk AuP ArN AuT,(FC J s).2):=by
 simp only[CO,Ea,E9,C7,Ga,FC,L_,L_,Di,List.set_cons_zero,List.set_cons_succ,Nat.reduceAdd]
theorem AyE(J:List UInt8)(s:Bb)(_ _ _ _ _ _:Value):(CS J (F2 J) (CO J [5] (Ea J [4] (Ea J [3] (E9 J 2 (CO J [0,1] (IQ,s)))))).2).1=(FC J s).1.Aj:=by
 simp only[CO,Ea,E9,C7,Ga,FC,L_,L_,Di,List.set_cons_zero,List.set_cons_succ,Nat.reduceAdd]
theorem AyF(J:List UInt8)(s:Bb)(db _ _ _ _ _:Value):(CS J (GG J) (C7 6 db (CS J (F2 J)) (CO J [5] (Ea J [4] (Ea J [3] (E9 J 2 (CO J [0,1] (IQ,s))))))).2).1=(FC J s).1.Bz:=by
 simp only[CO,Ea,E9,C7,Ga,FC,L_,L_,Di,List.set_cons_zero,List.set_cons_succ,Nat.reduceAdd]
theorem AyG(J:List UInt8)(s:Bb)(db AuN _ _ _ _:Value):(CS J (GX J) (C7 7 AuN (CS J (GG J)) (C7 6 db (CS J (F2 J)) (CO J [5] (Ea J [4] (Ea J [3] (E9 J 2 (CO J [0,1] (IQ,s)))))))).2).1=(FC J s).1.AA:=by
 simp only[CO,Ea,E9,C7,Ga,FC,L_,L_,Di,List.set_cons_zero,List.set_cons_succ,Nat.reduceAdd]
theorem AyH(J:List UInt8)(s:Bb)(db AuN Uk _ _ _:Value):(CS J (Hk J) (C7 8 Uk (CS J (GX J)) (C7 7 AuN (CS J (GG J)) (C7 6 db (CS J (F2 J)) (CO J [5] (Ea J [4] (Ea J [3] (E9 J 2 (CO J [0,1] (IQ,s))))))))).2).1=(FC J s).1.Bj:=by
 simp only[CO,Ea,E9,C7,Ga,FC,L_,L_,Di,List.set_cons_zero,List.set_cons_succ,Nat.reduceAdd]
theorem AyI(J:List UInt8)(s:Bb)(db AuN Uk AuP _ _:Value):(CS J (HF J) (C7 9 AuP (CS J (Hk J)) (C7 8 Uk (CS J (GX J)) (C7 7 AuN (CS J (GG J)) (C7 6 db (CS J (F2 J)) (CO J [5] (Ea J [4] (Ea J [3] (E9 J 2 (CO J [0,1] (IQ,s)))))))))).2).1=(FC J s).1.CX:=by
 simp only[CO,Ea,E9,C7,Ga,FC,L_,L_,Di,List.set_cons_zero,List.set_cons_succ,Nat.reduceAdd]
theorem AyJ(J:List UInt8)(s:Bb)(db AuN Uk AuP ArN _:Value):(Gm J 65535 (Ga J 18 (Ga J 11 (C7 10 ArN (CS J (HF J)) (C7 9 AuP (CS J (Hk J)) (C7 8 Uk (CS J (GX J)) (C7 7 AuN (CS J (GG J)) (C7 6 db (CS J (F2 J)) (CO J [5] (Ea J [4] (Ea J [3] (E9 J 2 (CO J [0,1] (IQ,s))))))))))))).2).1=(FC J s).1.Cf:=by
 simp only[CO,Ea,E9,C7,Ga,FC,L_,L_,Di,List.set_cons_zero,List.set_cons_succ,Nat.reduceAdd]
end
end Go.Apw
namespace Go.Proofs.YtalfaopffbkdnaaGreat.Ref
section
variable(By bv:Value) (p:Nat) (J:List UInt8) (s:Bb) (b:Nat)
theorem Ab4(AH:s.pos<=J.length):Aw AG 302 [By,.pointer (some ⟨b,0,none⟩)] [AO b 83 vx,AuD p bv s] [⟨By,(⟨⟨p⟩⟩:Cq AuH)⟩,⟨bv,J⟩] (fun(_:Unit) _=>True) (fun _ _=>[AO b 83 (JH (Iu J s).1),AuD p bv (Iu J s).2]) (fun _ _=>[]):=by
 exact Aw.proof Tryz.func302 G 19 G G fun X w=>MM b [0,1,2,3] [1,2,0] (fun u=>NO By bv u p J b 83 (vx,s) [0,1,2,3] AH (SL G) (by decide)) (Ar G) HB G G (by kernel_rfl) (fun _=>G)<|Dz () G trivial (by simp only[AyB,List.cons_append,List.nil_append]<;>rfl) Aa
theorem y0(AH:s.pos<=J.length):Aw AG 208 [By,.pointer (some ⟨b,0,none⟩)] [AO b 125 vy,AuD p bv s] [⟨By,(⟨⟨p⟩⟩:Cq AuH)⟩,⟨bv,J⟩] (fun(_:Unit) _=>True) (fun _ _=>[AO b 125 (QT (HF J s).1),AuD p bv (HF J s).2]) (fun _ _=>[]):=by
 exact Aw.proof Tryz.func208 G 13 G G fun X w=>MM b [0,1] [1,2,0] (fun u=>NO By bv u p J b 125 (vy,s) [0,1] AH (SL G) (by decide)) (Ar G) HB G G (by kernel_rfl) (fun _=>G)<|Dz () G trivial (by simp only[AyA,List.cons_append,List.nil_append]<;>rfl) Aa
theorem yv(AH:s.pos<=J.length):Aw AG 207 [By,.pointer (some ⟨b,0,none⟩)] [AO b 52 XH,AuD p bv s] [⟨By,(⟨⟨p⟩⟩:Cq AuH)⟩,⟨bv,J⟩] (fun(_:Unit) _=>True) (fun _ _=>[AO b 52 (H8 (Hk J s).1),AuD p bv (Hk J s).2]) (fun _ _=>[]):=by
 exact Aw.proof Tryz.func207 G 38 G G fun X w=>Am<|MM b [0,1] [1,2,0] (fun u=>NO By bv u p J b 52 (XH,s) [0,1] AH (SL G) (by decide)) (Ar G) HB G G (by kernel_rfl) (fun _=>G)<|A5<|Ae<|U 4 G<|Hs 2 (Au7 By bv p J b 52 (CO J [0,1] (XH,s)) 2 (Hw AH) G) (Ar G) G G (BE [0,1] G) G fun _ _ _=>Ac<|Ae<|U 4 G<|Hs 2 (Au7 By bv p J b 52 (Ea J [2] (CO J [0,1] (XH,s))) 3 (MP (Hw AH)) G) (Ar G) G G (BE [0,1] G) G fun _ _ _=>Ac<|MM b [4,5,6,7] [1,2,0] (fun u=>NO By bv u p J b 52 (Ea J [3] (Ea J [2] (CO J [0,1] (XH,s)))) [4,5,6,7] (MP (MP (Hw AH))) (SL G) (by decide)) (Ar G) HB G G (by kernel_rfl) (fun _=>G)<|Dz () G trivial (by simp only[Ayz,List.cons_append,List.nil_append]<;>rfl) Aa
theorem Aeb(AH:s.pos<=J.length):Aw AG 205 [By,.pointer (some ⟨b,0,none⟩)] [AO b 54 dh,AuD p bv s] [⟨By,(⟨⟨p⟩⟩:Cq AuH)⟩,⟨bv,J⟩] (fun(_:Unit) _=>True) (fun _ _=>[AO b 54 (H9 (GG J s).1),AuD p bv (GG J s).2]) (fun _ _=>[]):=by
 exact Aw.proof Tryz.func205 G 23 G G fun X w=>Am<|MM b [0,1] [1,2,0] (fun u=>NO By bv u p J b 54 (dh,s) [0,1] AH (SL G) (by decide)) (Ar G) HB G G (by kernel_rfl) (fun _=>G)<|A5<|Ae<|U 4 G<|Hs 2 (o0 By bv p J b 54 (CO J [0,1] (dh,s)) 2 (Hw AH) G) (Ar G) G G (BE [0,1] G) G fun _ _ _=>Ac<|rg<|U 4 G<|Hs 2 (Ax4 By bv p J b 54 (E9 J 2 (CO J [0,1] (dh,s))) 3 (Pw (Hw AH)) G G G G) (Ar G) G G (BE [0,1] G) G fun _ _ _=>nl<|Dz () G trivial (by simp only[AyC,List.cons_append,List.nil_append]<;>rfl) Aa
theorem Ak5(AH:s.pos<=J.length):Aw AG 206 [By,.pointer (some ⟨b,0,none⟩)] [AO b 50 gU,AuD p bv s] [⟨By,(⟨⟨p⟩⟩:Cq AuH)⟩,⟨bv,J⟩] (fun(_:Unit) _=>True) (fun _ _=>[AO b 50 (Hh (GX J s).1),AuD p bv (GX J s).2]) (fun _ _=>[]):=by
 exact Aw.proof Tryz.func206 G 27 G G fun X w=>Am<|MM b [0,1,2,3,4] [1,2,0] (fun u=>NO By bv u p J b 50 (gU,s) [0,1,2,3,4] AH (SL G) (by decide)) (Ar G) HB G G (by kernel_rfl) (fun _=>G)<|A5<|rg<|U 4 G<|Hs 2 (Afz By bv p J b 50 (CO J [0,1,2,3,4] (gU,s)) 5 (Hw AH) G G G G G G) (Ar G) G G (BE [0,1] G) G fun _ _ _=>nl<|Dz () G trivial (by simp only[AyK,List.cons_append,List.nil_append]<;>rfl) Aa
end
end Go.Proofs.YtalfaopffbkdnaaGreat.Ref
