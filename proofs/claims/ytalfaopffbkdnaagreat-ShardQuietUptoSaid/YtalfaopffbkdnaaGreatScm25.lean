/- The law ShardQuiet holds of every input of bulk at most 1048576: a stale epoch, a key that is another one's, a report of another lease or round, an unknown kind: nothing changes but the index. Condition: the bulk bound, which the given statement names. -/
import Derived.JoinedCond
import Derived.Test.YtalfaopffbkdnaaGreatScm24

set_option maxRecDepth 20000
set_option maxHeartbeats 1000000
set_option maxRecDepth 20000
namespace Go.Proofs.YtalfaopffbkdnaaGreat
open Go.A_ Go.Apw
theorem ApO{c:Dg}{e:Int}(h:c.wf)(he:A' e):({c with Dn:=e}:Dg).wf:=⟨h.1,h.2.1,h.2.2.1,he,h.2.2.2.2.1,h.2.2.2.2.2.1,h.2.2.2.2.2.2.1,h.2.2.2.2.2.2.2.1,h.2.2.2.2.2.2.2.2.1,h.2.2.2.2.2.2.2.2.2.1,h.2.2.2.2.2.2.2.2.2.2.1,h.2.2.2.2.2.2.2.2.2.2.2.1,h.2.2.2.2.2.2.2.2.2.2.2.2.1,h.2.2.2.2.2.2.2.2.2.2.2.2.2⟩
theorem ApU{c:Dg}{e:Int}(h:c.wf)(he:A' e):({c with G0:=e}:Dg).wf:=⟨h.1,h.2.1,h.2.2.1,h.2.2.2.1,h.2.2.2.2.1,h.2.2.2.2.2.1,h.2.2.2.2.2.2.1,he,h.2.2.2.2.2.2.2.2.1,h.2.2.2.2.2.2.2.2.2.1,h.2.2.2.2.2.2.2.2.2.2.1,h.2.2.2.2.2.2.2.2.2.2.2.1,h.2.2.2.2.2.2.2.2.2.2.2.2.1,h.2.2.2.2.2.2.2.2.2.2.2.2.2⟩
theorem Aqw{c:Dg}{e:Int}(h:c.wf)(he:A' e):({c with Ca:=e}:Dg).wf:=⟨he,h.2.1,h.2.2.1,h.2.2.2.1,h.2.2.2.2.1,h.2.2.2.2.2.1,h.2.2.2.2.2.2.1,h.2.2.2.2.2.2.2.1,h.2.2.2.2.2.2.2.2.1,h.2.2.2.2.2.2.2.2.2.1,h.2.2.2.2.2.2.2.2.2.2.1,h.2.2.2.2.2.2.2.2.2.2.2.1,h.2.2.2.2.2.2.2.2.2.2.2.2.1,h.2.2.2.2.2.2.2.2.2.2.2.2.2⟩
theorem Ark(cU:Value)(cs:List Dg)(c:Dg)(EE:Value)(ON:Int)(BK:c.wf)(Ap_:A' ON)(hlen:cs.length<=1048576)(hw:∀c∈cs,c.wf):Cv AG 6 [cU,.agg (IT c EE).toArray,.int .i64 ON] [⟨cU,cs⟩,⟨EE,c.Cf⟩] (.bool true):=by
 refine Aw.proof Tryz.func6 G 146 G G fun X w=>?_
 obtain⟨ArQ,ArR⟩:=id Ap_
 refine Ae<|CV G G G fun En=>U 1 G<|Ac<|Ae<|An G G ?_
 obtain⟨AGl,AqS,AqB,Ap9⟩:∃a b e,Go.Apw.runN (F8 1) 3 cs cs.length=(a,b,e):=⟨_,_,_,rfl⟩
 obtain⟨PN,B'⟩:=Arm Ap9 hw hlen
 simp only at PN B'
 obtain⟨Pl,SJ⟩:=AqO PN.ints PN.right
 have ArP:EW=4611686018427387904:=rfl
 have ArX:=PN.ix
 refine Dm (sW 1 _ cs 3 (AGl,AqS,AqB) Ap9 G ⟨by decide,by decide⟩ (by decide) (by decide) ⟨by decide,by decide⟩ hlen hw) (Ar G) G (Ad 0 G Aa) G fun ArM Pe Km=>?_
 obtain⟨RF,N8,OF,P1,P2,SK,vq⟩:=ArM
 obtain⟨AqA,cY⟩:=Km
 subst AqA
 obtain⟨f0,f1⟩:A' AGl.Dn/\AGl.Dn<=EW:=by
  obtain⟨a,b⟩:=(((Zc PN.ints.ac PN.ints.PZ PN.ints.O8).1 PN.right).1).ON
  exact⟨⟨by omega,by omega⟩,b⟩
 refine U 4 G<|CT LQ G fun Jo=>Cp 0 G fun bT=>?_
 refine Cp 1 G fun bU=>?_
 refine Cp 2 G fun bV=>?_
 refine Cp 3 G fun bW=>?_
 refine Cp 4 G fun bX=>?_
 refine Cp 5 G fun bY=>?_
 refine BZ 0 (us:=(BY AGl RF N8 OF P1 P2 SK)) G G G (At G) (by simp only[List.all_cons,List.all_nil,Bool.and_true,bT,bU,bV,bW,bX,bY];rfl) G<|U 2 G<|Ac<|Am<|Ae<|B0 (xe) (Ar G) G Aa G<|U 3 G<|Bl G G G<|U 2 G<|Ac<|LW G<|AZ<|Ae<|AX 2 [0] G G<|C5 G G BV G<|U 1 G<|Ac<|Am<|I5 4 [0] G G<|qA (σ:=Int) [(4,_),(7,_),(10,_)] _ (fun s C=>(2,.int .i64 s)::C) (fun s=>[AO Jo 31 (BY AGl RF N8 OF P1 P2 SK),AO En 35 (IT c EE),CL X w]) (fun s=>A' s/\¬s=AGl.Dn) (Bs G) (Ad 0 G (Ad 1 G (Ad 2 G (Ad 3 G (Ad 4 G (Ad 5 G (Ad 7 G (Ad 8 G Aa)))))))) ?_ ?_
 ·
  refine B9 G (fun P7=>?_) (fun P7=>?_)
  · exact rg<|An G G<|C5 G G BV G<|U 1 G<|nl<|e9 (ON+1) ⟨⟨by omega,by omega⟩,by omega⟩ (Bs G) G (Ad 0 G (Ad 1 G (Ad 2 G (Ad 3 G (Ad 4 G (Ad 5 G (Ad 7 G (Ad 8 G Aa))))))))
  · exact EG<|e9 ON ⟨Ap_,P7⟩ (Bs G) G (Ad 0 G (Ad 1 G (Ad 2 G (Ad 3 G (Ad 4 G (Ad 5 G (Ad 7 G (Ad 8 G Aa))))))))
 ·
  intro DC ApJ
  obtain⟨ApJ,AqJ⟩:=ApJ
  show Eg _ _ _ [(2,.int .i64 DC),(4,_),(7,_),(10,_)] [AO Jo 31 (BY AGl RF N8 OF P1 P2 SK),AO En 35 (IT c EE),CL X w] _
  refine A5<|Ae<|U 2 G<|Fi 1 G G G (A2 G) G (Da G)<|Ac<|Am<|I5 2 [1] G G<|B5<|Am<|AF 2 G<|qA (σ:=Bool) [(4,_),(7,_),(10,_),(45,_)] _ (fun s C=>(47,.bool s)::C) (fun s=>[AO Jo 31 (BY AGl RF N8 OF P1 P2 SK),AO En 35 [.int .i64 c.Ca,.int .i64 c.Ap,.int .i64 c.As,.int .i64 DC,.int .i64 c.Bn,.int .i64 c.DH,.string c.Al,.int .i64 c.G0,.int .i64 c.Cn,.int .i64 c.It,.bool (c.Jr),.int .i64 c.AM.Ca,.string c.AM.Al,.string c.AM.EL,.int .i64 c.AM.B2,.int .i64 c.AM.A6,.int .i64 c.AM.Bc,.int .i64 c.Dj.Ev,.int .i64 c.Dj.Hi,.int .i64 c.Dj.IX,.string c.Dj.A6,.string c.Dj.Bc,.int .i64 c.Dj.Ap,.int .i64 c.Dj.As,EE],CL X w]) (fun s=>(s=true↔c.Ca=1\/c.Ca=4\/c.Ca=8)) (Bs G) (Ad 0 G (Ad 1 G (Ad 2 G (Ad 3 G (Ad 4 G (Ad 5 G (Ad 6 G (Ad 7 G Aa)))))))) ?_ ?_
  ·
   refine B9 G (fun Wg=>?_) (fun Wg=>?_)
   · exact EG<|e9 (decide (c.Ca=1)) ⟨fun _=>.inl Wg,fun _=>decide_eq_true Wg⟩ (Bs G) G (Ad 0 G (Ad 1 G (Ad 2 G (Ad 3 G (Ad 4 G (Ad 5 G (Ad 6 G (Ad 7 G Aa))))))))
   ·
    refine AF 2 G<|B9 G (fun Wg=>?_) (fun Wg=>?_)
    · exact EG<|e9 (decide (c.Ca=4)) ⟨fun _=>.inr (.inl Wg),fun _=>decide_eq_true Wg⟩ (Bs G) G (Ad 0 G (Ad 1 G (Ad 2 G (Ad 3 G (Ad 4 G (Ad 5 G (Ad 6 G (Ad 7 G Aa))))))))
    · exact FA 2 G<|e9 (decide (c.Ca=8)) ⟨fun q=>.inr (.inr (of_decide_eq_true q)),fun q=>decide_eq_true (by omega)⟩ (Bs G) G (Ad 0 G (Ad 1 G (Ad 2 G (Ad 3 G (Ad 4 G (Ad 5 G (Ad 6 G (Ad 7 G Aa))))))))
  ·
   intro ArS AqK
   show Eg _ _ _ [(47,_),(4,_),(7,_),(10,_),(45,_)] [AO Jo 31 (BY AGl RF N8 OF P1 P2 SK),AO En 35 [.int .i64 c.Ca,.int .i64 c.Ap,.int .i64 c.As,.int .i64 DC,.int .i64 c.Bn,.int .i64 c.DH,.string c.Al,.int .i64 c.G0,.int .i64 c.Cn,.int .i64 c.It,.bool (c.Jr),.int .i64 c.AM.Ca,.string c.AM.Al,.string c.AM.EL,.int .i64 c.AM.B2,.int .i64 c.AM.A6,.int .i64 c.AM.Bc,.int .i64 c.Dj.Ev,.int .i64 c.Dj.Hi,.int .i64 c.Dj.IX,.string c.Dj.A6,.string c.Dj.Bc,.int .i64 c.Dj.Ap,.int .i64 c.Dj.As,EE],CL X w] _
   refine A5<|qA (σ:=Dg) [(4,_),(7,_),(10,_)] _ (fun s C=>C) (fun s=>[AO Jo 31 (BY AGl RF N8 OF P1 P2 SK),AO En 35 (IT s EE),CL X w]) (fun s=>s.wf/\s.Cf=c.Cf/\Ap4 AGl s) (Bs G) (Ad 0 G (Ad 1 G (Ad 2 G (Ad 3 G (Ad 4 G (Ad 5 G (Ad 6 G (Ad 7 G Aa)))))))) ?_ ?_
   ·
    refine BN G (fun Wg=>?_) (fun Wg=>?_)
    · exact EG<|e9 ({c with Dn:=DC}:Dg) ⟨ApO BK ApJ,G,.inl ⟨AqK.1 Wg,AqJ⟩⟩ (Bs G) G (Ad 0 G (Ad 1 G (Ad 2 G (Ad 3 G (Ad 4 G (Ad 5 G (Ad 6 G (Ad 7 G Aa))))))))
    ·
     refine AF 2 G<|B9 G (fun LA=>?_) (fun LA=>?_)
     ·
      refine Ae<|BJ 0 (BY AGl RF N8 OF P1 P2 SK) G G (At G) G G<|AX 2 [1] G G<|Dm (AqC AGl _ _ _ _ _ _ c.Al (ApH AGl c.Al) G cY (AqL PN.ints PN.right)) (Ar G) G (BE [0,1,2,3,4,5] G) G fun ArN T8 ev=>?_
      obtain⟨X6,ArW⟩:=ev
      subst X6
      refine U 3 G<|CT Hd G fun XT=>Cp 0 G fun Ara=>?_
      refine BZ 0 (us:=(A3 ((ApH AGl c.Al)) ArN)) G G G (At G) (by simp only[List.all_cons,List.all_nil,Bool.and_true,Ara];rfl) G<|U 1 G<|Ac<|Ae<|U 2 G<|Fu 61 6 [0,2] [4,7,10] G G G<|An G G<|Fu 68 4 [2] [4,7,10] G G G<|Ac<|BN G (fun iM=>?_) (fun iM=>?_)
      · exact rg<|U 1 G<|Fi 2 G G G (A2 G) G (Da G)<|nl<|AQ<|e9 ({c with Dn:=DC,G0:=4611686018427387904}:Dg) ⟨ApU (ApO BK ApJ) ⟨by decide,by decide⟩,G,.inr (.inl ⟨LA,fun _ _ _=>G⟩)⟩ (Bs G) G (Ad 1 G (Ad 2 G (Ad 3 G (Ad 4 G (Ad 5 G (Ad 6 G (Ad 7 G (Ad 8 G Aa))))))))
      ·
       have Arj:(BF AGl.Aj c.Al).2=true->(BF AGl.Aj c.Al).1.Cn=c.Cn->¬c.Cn=0->c.G0=EW:=by
        obtain⟨DP,EK⟩:=Aqk (S:=AGl) c.Al
        intro Ey Ez AhN
        rw[DP]at Ey
        rw[EK Ey]at Ez
        exfalso
        simp[Ey,Ez,AhN]at iM
       exact EG<|AQ<|e9 ({c with Dn:=DC}:Dg) ⟨ApO BK ApJ,G,.inr (.inl ⟨LA,Arj⟩)⟩ (Bs G) G (Ad 1 G (Ad 2 G (Ad 3 G (Ad 4 G (Ad 5 G (Ad 6 G (Ad 7 G (Ad 8 G Aa))))))))
     · exact rg<|U 1 G<|Fi 1 G G G (A2 G) G (Da G)<|nl<|e9 ({c with Dn:=DC,Ca:=99}:Dg) ⟨Aqw (ApO BK ApJ) ⟨by decide,by decide⟩,G,.inr (.inr G)⟩ (Bs G) G (Ad 0 G (Ad 1 G (Ad 2 G (Ad 3 G (Ad 4 G (Ad 5 G (Ad 6 G (Ad 7 G Aa))))))))
   ·
    intro Apy ApZ
    obtain⟨my,i9,ApZ⟩:=ApZ
    rw[<-i9]
    show Eg _ _ _ [(4,_),(7,_),(10,_)] [AO Jo 31 (BY AGl RF N8 OF P1 P2 SK),AO En 35 (IT Apy EE),CL X w] _
    refine CU<|A5<|Ae<|BJ 0 (BY AGl RF N8 OF P1 P2 SK) G G (At G) G G<|BJ 1 (IT Apy EE) G G (At G) G G<|An G G ?_
    obtain⟨l,AN,Av⟩:=B' Apy ApZ
    refine Dm (w4 AGl _ _ _ _ _ _ Apy _ (AGl.DX+1) 3 (({AGl with DX:=AGl.DX+1}:Bv),l,0) AN PN.ints cY my ⟨by omega,by omega⟩ ⟨by decide,by decide⟩) (Ar G) G (BE [0,1,2,3,4,5,7] G) G fun mN Zr AaN=>?_
    obtain⟨gx,Zp,mg,Aqc,Aqd,AoB,ArV⟩:=mN
    obtain⟨yO,Apf⟩:=AaN
    subst yO
    refine U 4 G<|CT LQ G fun xj=>Cp 0 G fun Aq1=>?_
    refine Cp 1 G fun Aq2=>?_
    refine Cp 2 G fun Aq3=>?_
    refine Cp 3 G fun Aq4=>?_
    refine Cp 4 G fun Aq5=>?_
    refine Cp 5 G fun Aq6=>?_
    refine BZ 0 (us:=(BY (({AGl with DX:=AGl.DX+1}:Bv)) gx Zp mg Aqc Aqd AoB)) G G G (At G) (by simp only[List.all_cons,List.all_nil,Bool.and_true,Aq1,Aq2,Aq3,Aq4,Aq5,Aq6];rfl) G<|U 2 G<|Ac<|Ae<|BJ 1 (BY AGl RF N8 OF P1 P2 SK) G G (At G) G G<|Dm (Aqz _ _ _ _ _ _ _ cY (Aqh PN.ints PN.right)) (Ar G) G (BE [7,8,9,10,11,12] G) G fun⟨GD,dG,hB,xR,xS,xT⟩ AoS AqI=>?_
    subst AqI
    refine CT LQ G fun nt=>Cp 0 G fun AqV=>?_
    refine Cp 1 G fun AqW=>?_
    refine Cp 2 G fun AqX=>?_
    refine Cp 3 G fun AqY=>?_
    refine Cp 4 G fun AqZ=>?_
    refine Cp 5 G fun Aq0=>?_
    refine BZ 0 (us:=(BY AGl GD dG hB xR xS xT)) G G G (At G) (by simp only[List.all_cons,List.all_nil,Bool.and_true,AqV,AqW,AqX,AqY,AqZ,Aq0];rfl) G<|Ac<|Ae<|U 2 G<|Fi 0 G G G (A2 G) G (Da G)<|Ac<|Am<|Ae<|An G G<|U 2 G ?_
    refine DE 88 5 [4,7,14] G G (fun pe Aqi=>by
     have Are:=pe
     simp only[Bool.not_eq_true',Bool.not_eq_false',decide_eq_true_eq,decide_eq_false_iff_not]at Are
     exact Bl G G G<|BJ 1 (BY (({AGl with DX:=AGl.DX+1}:Bv)) gx Zp mg Aqc Aqd AoB) G G (At G) G G<|Bl G G G<|BJ 0 (BY (({AGl with DX:=AGl.DX+1}:Bv)) GD dG hB xR xS xT) G G (At G) G G<|Bl G G G<|B0 (Ai' (({AGl with DX:=AGl.DX+1}:Bv)) _ _ _ _ _ _ (({AGl with DX:=AGl.DX+1}:Bv)) _ _ _ _ _ _ Apf Apf) (Ar G) G (BE [6,7,8,9,10,11,0,1,2,3,4,5] G) G<|U 2 G<|Aqi G Br) ?_
    refine Ac<|BN G (fun Ap7=>?_) (fun Ap7=>?_)
    ·
     exfalso
     simp[Aja]at Ap7 --#done
    ·
     refine AZ<|Am<|Ae<|An G G<|C2 12 G G Tryz.underlying39 G fun ArT=>U 1 G<|Ac<|B9 G (fun Ap8=>?_) (fun Ap8=>?_)
     · exact AF 1 G<|BA<|AQ<|AQ<|AQ<|AQ<|Bq () G G (by rfl) G Aa
     ·
      refine AZ<|Ae<|AX 4 [2,3] G G<|B0 (ej _ _ Apy.Ap (FU AGl.Bz Apy.Ap) G) (Ar G) G (Ad 14 G Aa) G<|U 3 G<|CT SN G fun nu=>BZ 0 (us:=(H9 ((FU AGl.Bz Apy.Ap).1))) G G G (At G) G G<|U 1 G<|Ac<|Ae<|AX 4 [4,4] G G<|Db (ps:=[(0,.const (.int .i64 2)),(1,.tmp 106),(2,.tmp 108)]) (cs:=(VW ((⟨2,Apy.Ap,Apy.As,(⟨0,0,0,0⟩:De)⟩:FE)))) (by rfl) (by kernel_rfl) G<|CT Aqg G fun ArO=>BZ 0 (us:=(VW ((⟨2,Apy.Ap,Apy.As,(⟨0,0,0,0⟩:De)⟩:FE)))) G G G (At G) G G<|Ac<|Ae<|AX 5 [5,5] G G<|BJ 1 (GM ((FU AGl.Bz Apy.Ap).1.Cm)) G G (At G) G G<|Db (ps:=[(0,.const (.int .i64 1)),(1,.tmp 111),(2,.tmp 113),(3,.tmp 115)]) (cs:=(VW ((⟨1,Apy.Ap,Apy.As,(FU AGl.Bz Apy.Ap).1.Cm⟩:FE)))) (by rfl) (by kernel_rfl) G<|CT Aqg G fun hp=>BZ 0 (us:=(VW ((⟨1,Apy.Ap,Apy.As,(FU AGl.Bz Apy.Ap).1.Cm⟩:FE)))) G G G (At G) G G<|Ac<|Am ?_
      rcases Av with Av|⟨AE,Av|⟨hm,AqM,Av⟩⟩
      · exact absurd (by rw[Av];rfl) Ap8
      ·
       subst Av
       refine FJ [] [] [(1,DF [] (.int .i64 (([(⟨2,Apy.Ap,Apy.As,GS⟩:FE)].length:Int)))),(2,DF [] (.bool true)),(6,DF [] (.bool true)),(10,Ff [] (fun A4=>some (A4 0)) fun A4=>[⟨(A4 0),(⟨([(⟨2,Apy.Ap,Apy.As,GS⟩:FE)].getD 0 default)⟩:Cq FE)⟩]),(11,⟨[],fun _=>some (.agg (VW (([(⟨2,Apy.Ap,Apy.As,GS⟩:FE)].getD 0 default))).toArray),fun _=>[],[([(⟨2,Apy.Ap,Apy.As,GS⟩:FE)].getD 0 default).wf]⟩),(13,DF [] (.bool true))] [(5,6),(12,1)] [6] (fun _=>G) (fun _=>G) ⟨fun Ai AV Az _=>?_,fun Ai AV Az _=>?_,fun Ai AV Az _=>?_,fun Ai AV Az _=>?_,fun Ai AV Az _=>?_,fun Ai AV Az QJ=>?_,trivial⟩ fun Ai QJ=>?_
       · exact C2 12 G G Tryz.underlying39 G fun AqP=>BU [] [] 0 G G
       · exact U 1 G<|ApG (congrArg Value.bool (decide_eq_true G))<|BU [] [] 0 G G
       · exact U 1 G<|ApG (congrArg Value.bool (decide_eq_true AE))<|BU [] [] 0 G G
       · exact Bl G G G<|Fo 12 G G G tn G fun ArH=>BU [_] [0] 1 G G
       · exact Bl G G G<|Gi 0 G G (At G) G fun Ari ApN=>WT [] [] 2 G G ⟨ApN,trivial⟩
       · exact Bl G G G<|RU zh (([(⟨2,Apy.Ap,Apy.As,GS⟩:FE)].getD 0 default)) ((⟨2,Apy.Ap,Apy.As,(⟨0,0,0,0⟩:De)⟩:FE)) G G G<|ApG (congrArg Value.bool (decide_eq_true G))<|BU [] [] 1 G G
       ·
        obtain⟨ApN,_⟩:=QJ
        generalize Ai 10 0=Vo
        exact A5<|rt<|AQ<|AQ<|AQ<|AQ<|AQ<|AQ<|AQ<|Bq () G G (by rfl) G Aa
      ·
       subst Av
       refine FJ [] [] [(1,DF [] (.int .i64 (([(⟨1,Apy.Ap,Apy.As,(FU AGl.Bz Apy.Ap).1.Cm⟩:FE)].length:Int)))),(2,DF [] (.bool true)),(6,DF [] (.bool true)),(10,Ff [] (fun A4=>some (A4 0)) fun A4=>[⟨(A4 0),(⟨([(⟨1,Apy.Ap,Apy.As,(FU AGl.Bz Apy.Ap).1.Cm⟩:FE)].getD 0 default)⟩:Cq FE)⟩]),(11,⟨[],fun _=>some (.agg (VW (([(⟨1,Apy.Ap,Apy.As,(FU AGl.Bz Apy.Ap).1.Cm⟩:FE)].getD 0 default))).toArray),fun _=>[],[([(⟨1,Apy.Ap,Apy.As,(FU AGl.Bz Apy.Ap).1.Cm⟩:FE)].getD 0 default).wf]⟩),(13,DF [] (.bool false)),(16,Ff [] (fun A4=>some (A4 0)) fun A4=>[⟨(A4 0),(⟨([(⟨1,Apy.Ap,Apy.As,(FU AGl.Bz Apy.Ap).1.Cm⟩:FE)].getD 0 default)⟩:Cq FE)⟩]),(17,⟨[],fun _=>some (.agg (VW (([(⟨1,Apy.Ap,Apy.As,(FU AGl.Bz Apy.Ap).1.Cm⟩:FE)].getD 0 default))).toArray),fun _=>[],[([(⟨1,Apy.Ap,Apy.As,(FU AGl.Bz Apy.Ap).1.Cm⟩:FE)].getD 0 default).wf]⟩),(19,DF [] (.bool true)),(25,DF [] (.bool true))] [(5,6),(12,1),(18,0),(22,2),(24,6)] [6] (fun _=>G) (fun _=>G) ⟨fun Ai AV Az _=>?_,fun Ai AV Az _=>?_,fun Ai AV Az _=>?_,fun Ai AV Az _=>?_,fun Ai AV Az _=>?_,fun Ai AV Az QJ=>?_,fun Ai AV Az QJ=>?_,fun Ai AV Az QJ=>?_,fun Ai AV Az QJ=>?_,fun Ai AV Az QJ=>?_,trivial⟩ fun Ai QJ=>?_
       · exact C2 12 G G Tryz.underlying39 G fun AqP=>BU [] [] 0 G G
       · exact U 1 G<|ApG (congrArg Value.bool (decide_eq_true G))<|BU [] [] 0 G G
       · exact U 1 G<|ApG (congrArg Value.bool (decide_eq_true AE))<|BU [] [] 0 G G
       · exact Bl G G G<|Fo 12 G G G tn G fun ArH=>BU [_] [0] 1 G G
       · exact Bl G G G<|Gi 0 G G (At G) G fun Ari ApN=>WT [] [] 2 G G ⟨ApN,trivial⟩
       · exact Bl G G G<|RU zh (([(⟨1,Apy.Ap,Apy.As,(FU AGl.Bz Apy.Ap).1.Cm⟩:FE)].getD 0 default)) ((⟨2,Apy.Ap,Apy.As,(⟨0,0,0,0⟩:De)⟩:FE)) G G G<|ApG (congrArg Value.bool (decide_eq_false (by intro q;cases q)))<|BU [] [] 1 G G
       · exact Bl G G G<|Fo 13 G G G tn G fun AoG=>BU [_] [0] 2 G G
       · exact Bl G G G<|Gi 1 G G (At G) G fun ArU Aqe=>WT [] [] 3 G G ⟨Aqe,trivial⟩
       · exact Bl G G G<|RU zh (([(⟨1,Apy.Ap,Apy.As,(FU AGl.Bz Apy.Ap).1.Cm⟩:FE)].getD 0 default)) ((⟨1,Apy.Ap,Apy.As,(FU AGl.Bz Apy.Ap).1.Cm⟩:FE)) G G G<|ApG (congrArg Value.bool (decide_eq_true G))<|BU [] [] 2 G G
       · exact U 1 G<|ApG (congrArg Value.bool (decide_eq_true AqM))<|BU [] [] 2 G G
       ·
        obtain⟨ApN,Aqe,_⟩:=QJ
        generalize Ai 10 0=Vo,Ai 16 0=ua
        exact A5<|rt<|AQ<|AQ<|AQ<|AQ<|AQ<|AQ<|AQ<|Bq () G G (by rfl) G Aa
end Go.Proofs.YtalfaopffbkdnaaGreat
namespace Go.Proofs.YtalfaopffbkdnaaGreat
open Go.A_ Go.Apw Go.ChangeShapes Go.WideShapes Go.ChangeAt Go.RowKit
section
theorem Tryz.own:ownKnob Tryz.prog.godebug=none:=by kernel_rfl
theorem Tryz.laidOut:laidOutB Tryz.prog=true:=by kernel_rfl
set_option maxRecDepth 100000 in
theorem Arw(H:Type)(enc:TypeId×Value->H)(W:World)(base:Nat)(args:Array Value)(Cx gs:List (DataW H))(before:List MemPlace)(AE:Rows.uptoSmall H (Cx++gs)=true)
    (PD:∀(j:Nat) t v,Tryz.f6.params[j]? =some t->args[j]? =some v->Value.okWide Tryz.prog W .any base t v)
    (F5:DataW.Whole enc Tryz.prog Tryz.f6.params.toList Rows.shardQuietSpec.vars false W args.toList Cx gs before):
    Calls Tryz.prog 6 args W fun e SY=>∃v,e=.returned v/\Rows.shardQuietSpec.post enc Tryz.prog Tryz.f6 false true false false W args v SY:=by
  have iV:=F5
  obtain⟨p,q,AaS,LC,rfl,AbI,OZ⟩:=F5
  have Cl:DataW.TrodAll enc Tryz.prog W 0 (fun _=>true) true Tryz.f6.params.toList args.toList Cx p:=AaS
  rw[Tryz.params6]at Cl PD
  obtain⟨v0,cg,d0,Fb,An9,L3,AK,rfl,rfl,Bw,Cl⟩:=trodAll_cons Cl
  obtain⟨v1,NY,d1,B4,Rn,Ey,rfl,rfl,rfl,Af,Cl⟩:=trodAll_cons Cl
  obtain⟨v2,MK,d2,DC,WY,Ez,rfl,rfl,rfl,h2,Cl⟩:=trodAll_cons Cl
  obtain⟨rfl,rfl,rfl⟩:=trodAll_nil Cl
  obtain⟨rfl,rfl⟩:=trodVars_none LC
  have eI:args= #[v0,v1,v2]:=Array.toList_inj.1 AK
  subst eI
  obtain⟨cs,k1⟩:=w8 Tryz.underlying56 AfJ (PD 0 56 v0 rfl rfl) Bw
  have Amu:=AdS Tryz.underlying56 Bw k1
  obtain⟨yo,c,rfl,AqN⟩:=Aqn Tryz.underlying35 AfH (PD 1 35 v1 rfl rfl) Af
  obtain⟨EE,rfl,Ars,ArJ⟩:=AqN
  obtain⟨ON,rfl,rfl,rfl,ArK⟩:=open_int Tryz.underlying3 (PD 2 3 v2 rfl rfl) h2
  simp[Lit.wf,IntKind.min,IntKind.max,IntKind.signed,IntKind.bits]at ArK
  have AE:Rows.uptoBulk d0+(Rows.uptoBulk d1+(Rows.uptoBulk (H:=H) (.lit (.int .i64 ON))+0))<=1048576:=by simpa[Rows.uptoSmall,Rows.uptoBulkAll]using AE
  have JU:=Ark v0 cs c EE ON ArJ ⟨by omega,by omega⟩ (by omega) (O7 (s:=s7) k1)
  refine JU.post Tryz.laidOut (by kernel_rfl) rfl (by kernel_rfl) Tryz.underlying4 rfl iV ?_
  intro t Av
  rcases List.mem_cons.1 Av with rfl|h
  · exact k1
  · exact Ars t h
set_option maxRecDepth 100000 in
theorem Ary(os:Os)(started:os.Started)(H:Type)(enc:TypeId×Value->H)(F:Stop.Interp):
    ReturnsInHanded {} Tryz.checked os 6 .any ((Rows.OpenSpec.upto Rows.shardQuietSpec).pre6 enc Tryz.prog Tryz.f6 Rows.shardQuietUptoRow.domain false) (((Rows.OpenSpec.upto Rows.shardQuietSpec).at F).post enc Tryz.prog Tryz.f6 false true false false):=by
  refine returnsInHanded_of_cond (C:=Tryz.checked) (s:=Rows.OpenSpec.upto Rows.shardQuietSpec) (k:=Rows.uptoSmall) rfl Tryz.own started (by kernel_rfl) Tryz.func6
    (OpenSpec.witness (enc:=enc) (C:=Tryz.checked) (s:=Rows.OpenSpec.upto Rows.shardQuietSpec) (k:=Rows.uptoSmall) rfl false ⟨#[],#[.slice none 0 0,.agg (IT (⟨0,0,0,0,0,0,ByteArray.empty,0,0,0,false,⟨0,ByteArray.empty,ByteArray.empty,0,0,0⟩,⟨0,0,0,ByteArray.empty,ByteArray.empty,0,0⟩,[]⟩:Dg) AI).toArray,.int .i64 0],[]⟩ 8 (by kernel_rfl) (by kernel_rfl) (by kernel_rfl)
      (x:=([.nil,.agg [.lit (.int .i64 0),.lit (.int .i64 0),.lit (.int .i64 0),.lit (.int .i64 0),.lit (.int .i64 0),.lit (.int .i64 0),.lit (.string []),.lit (.int .i64 0),.lit (.int .i64 0),.lit (.int .i64 0),.lit (.bool false),.agg [.lit (.int .i64 0),.lit (.string []),.lit (.string []),.lit (.int .i64 0),.lit (.int .i64 0),.lit (.int .i64 0)],.agg [.lit (.int .i64 0),.lit (.int .i64 0),.lit (.int .i64 0),.lit (.string []),.lit (.string []),.lit (.int .i64 0),.lit (.int .i64 0)],.nil],.lit (.int .i64 0)],[],[])) (by kernel_rfl) rfl (by kernel_rfl)) ?_
  intro W base args Cx gs before PD F5 _ AE _
  exact Arw H enc W base args Cx gs before AE PD F5
theorem w2{a b:Bool}(AK:a=true)(Aq:b=true):(a&&b)=true:=by rw[AK,Aq];rfl
set_option maxHeartbeats 40000000 in
theorem Arv:joinedFacts Tryz.prog 6 Tryz.f6 (Rows.OpenSpec.upto Rows.shardQuietSpec).bare Rows.shardQuietUptoRow=true:=by
  unfold joinedFacts
  repeat' (with_reducible apply w2)
  all_goals (as_aux_lemma=>kernel_rfl)
theorem Arz:Tryz.prog.funcNamed Rows.shardQuietUptoRow.func=some 6:=by kernel_rfl
theorem Arx:Tryz.f6.isInstance Tryz.prog Rows.shardQuietUptoRow.origin Rows.shardQuietUptoRow.targs:=of_decide_eq_true (by kernel_rfl)
theorem ArB:Tryz.f6.isWrapper Tryz.prog Rows.shardQuietUptoRow.wrapper Rows.shardQuietUptoRow.mainSum:=by
  unfold Func.isWrapper
  rw[if_neg (by decide+kernel)]
  exact⟨rfl,rfl⟩
theorem ArA:Rows.shardQuietUptoRow.holds Tryz.pinned (Rows.OpenSpec.upto Rows.shardQuietSpec):=
  OpenClaim.holds_of_cond 6 Tryz.f6 rfl rfl rfl rfl rfl rfl rfl ⟨rfl,rfl,rfl,rfl,rfl⟩ rfl rfl rfl rfl rfl Arz Tryz.func6 Arv Arx ArB
    (fun os started H enc _ F=>Ary os started H enc F)
theorem shardQuiet_holds:Rows.ShardQuietUptoSaid:=ArA
#print axioms shardQuiet_holds
end
end Go.Proofs.YtalfaopffbkdnaaGreat
