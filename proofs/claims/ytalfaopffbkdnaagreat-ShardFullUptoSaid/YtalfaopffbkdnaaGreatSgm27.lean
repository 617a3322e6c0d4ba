/- Part 27 of shardFull_holds. -/
import Derived.JoinedCond
import Derived.Test.YtalfaopffbkdnaaGreatSgm26

set_option maxRecDepth 20000
set_option maxHeartbeats 1000000
open Go.A_ Go.Proofs Go.Proofs.YtalfaopffbkdnaaGreat
namespace Go.Apw
theorem AFc(S:Bv)(El EV D_ EA Em Eh:Value)(c:Dg)(EE:Value)(Ag:VB S)(JV:S.wf)(BK:c.wf):Cv AG 3 [.agg (BY S El EV D_ EA Em Eh).toArray,.agg (IT c EE).toArray] [⟨El,S.Aj⟩,⟨EV,S.Bz⟩,⟨D_,S.AA⟩,⟨EA,S.Bj⟩,⟨Em,S.CX⟩,⟨Eh,S.Cf⟩,⟨EE,c.Cf⟩] (.bool true):=by
 refine Aw.proof Tryz.func3 G 226 G G fun X w=>Ae<|CV G G G fun Dh=>CV G G G fun DQ=>U 1 G<|Ac<|Am<|Ae<|B0 (xe) (Ar G) G Aa G<|U 2 G<|Bl G G G<|BJ 1 (BY S El EV D_ EA Em Eh) G G (At G) G G<|Bl G G G<|B0 (AjA _ _ _ _ _ _ _ JV) (Ar G) G (BE [0,1,2,3,4,5] G) G<|U 3 G<|ET 27 4 [0] [2,3] G G G<|An G G<|ET 32 4 [1] [2,3] G G G<|Ac<|BN G (fun K6=>?_) (fun K6=>?_)
 · exact Ae<|B0 (xe) (Ar G) G Aa G<|U 1 G<|Ac<|BA<|AQ<|AQ<|Bq () G G (by rfl) G Aa
 ·
  simp only[Bool.or_eq_false_iff,Bool.not_eq_false',decide_eq_true_eq,decide_eq_false_iff_not]at K6;obtain⟨⟨AER,AFn⟩,AFO⟩:=K6;have Bh:LN S=true:=by
   cases B':LN S with
   |true=>rfl
   |false=>rw[B']at AER;simp[IA]at AER
  obtain⟨Pl,SJ⟩:=AqO Ag Bh;have ArP:EW=4611686018427387904:=rfl;obtain⟨AEr,AEu,AFJ,AEP⟩:∃a b e,Gc S c (S.DX+1) 5=(a,b,e):=⟨_,_,_,rfl⟩;obtain⟨aE,Hj,G1,Jt,NI⟩:=AFd Ag Bh BK AFn (by omega);rw[AEP]at aE Hj G1 Jt NI;simp only at aE Hj G1 Jt NI;subst aE;obtain⟨AF1,AF2,AF3,AF4,AF5,AF6⟩:=uS (((Zc Ag.ac Ag.PZ Ag.O8).1 Bh).1);have AFK:=Aic (b:=S.Cf);refine AZ<|Am<|AuG [[(11,.f1 11 fun BM=>[AO (FH (BM 0)) 31 IQ]),(12,.f2 11 6 fun BM GL=>[AO (FH (BM 0)) 31 (BY AEr (GL 0) (GL 1) (GL 2) (GL 3) (GL 4) (GL 5))])]] [] [(1,Ff [] (fun A4=>some (.agg (BY S (A4 0) (A4 1) (A4 2) (A4 3) (A4 4) (A4 5)).toArray)) fun A4=>[⟨(A4 0),S.Aj⟩,⟨(A4 1),S.Bz⟩,⟨(A4 2),S.AA⟩,⟨(A4 3),S.Bj⟩,⟨(A4 4),S.CX⟩,⟨(A4 5),S.Cf⟩]),(5,DF [] (.int .i64 ((S.DX+1)))),(6,⟨[],fun A4=>some (.tuple #[.agg (BY AEr (A4 0) (A4 1) (A4 2) (A4 3) (A4 4) (A4 5)).toArray,(A4 6),.int .i64 ((0:Int))]),fun A4=>[⟨(A4 0),AEr.Aj⟩,⟨(A4 1),AEr.Bz⟩,⟨(A4 2),AEr.AA⟩,⟨(A4 3),AEr.Bj⟩,⟨(A4 4),AEr.CX⟩,⟨(A4 5),AEr.Cf⟩,⟨(A4 6),AEu⟩],[AEr.wf]⟩),(11,O6 [0]),(12,DF [0] undef)] [(0,2),(2,1),(4,2)] [2,3,5,6,7] (fun _=>G) (fun _=>G) (fun Ai AV Az=>⟨fun _=>?_,fun _=>?_,fun _=>?_,fun _=>?_,fun QJ=>?_,trivial⟩) fun Ai QJ=>?_
  ·
   refine Dm (Aqz _ _ _ _ _ _ _ JV (Aqh Ag Bh)) (Ar G) G (BE [0,1,2,3,4,5] G) G fun⟨GD,dG,hB,xR,xS,xT⟩ AoL K7=>?_;subst K7;exact BU [GD,dG,hB,xR,xS,xT] [0,1,2,3,4,5] 6 G G
  · exact C5 G G BV G<|BU [] [] 0 G G
  ·
   refine Dm (w4 S _ _ _ _ _ _ c _ (S.DX+1) 5 (AEr,AEu,0) AEP Ag JV BK ⟨by omega,by omega⟩ ⟨by decide,by decide⟩) (Ar G) G (BE [0,1,2,3,4,5,12] G) G fun vd mm EN=>?_;obtain⟨RF,N8,OF,P1,P2,SK,vq⟩:=vd;obtain⟨AE7,AvH⟩:=EN;subst AE7;exact WT [RF,N8,OF,P1,P2,SK,vq] [0,1,2,3,4,5,6] 13 G G ⟨AvH,trivial⟩
  · exact CT LQ G fun E'=>BU [.pointer (some ⟨E',0,none⟩)] [] 0 G G
  ·
   refine Cp 6 G fun Ka=>?_;refine Cp 7 G fun kh=>?_;refine Cp 8 G fun ki=>?_;refine Cp 9 G fun kj=>?_;refine Cp 10 G fun kk=>?_;refine Cp 11 G fun kl=>?_;exact BZ 0 (us:=(BY AEr (Ai 6 0) (Ai 6 1) (Ai 6 2) (Ai 6 3) (Ai 6 4) (Ai 6 5))) G G G (At G) (by simp only[List.all_cons,List.all_nil,Bool.and_true,Ka,kh,ki,kj,kk,kl];rfl) G<|BU [] [] 13 G G
  ·
   obtain⟨AvH,_⟩:=QJ;generalize FH (Ai 11 0)=E',Ai 1 0=GD,Ai 1 1=dG,Ai 1 2=hB,Ai 1 3=xR,Ai 1 4=xS,Ai 1 5=xT,Ai 6 0=RF,Ai 6 1=N8,Ai 6 2=OF,Ai 6 3=P1,Ai 6 4=P2,Ai 6 5=SK,Ai 6 6=vq;refine A5<|Am<|AF 2 G<|Fa G (fun Ra=>?_) (fun Ra=>?_)
   ·
    exfalso;exact Ra G --#done
   ·
    refine AZ<|Am<|AF 1 G<|B5<|Ji (σ:=Nat) [(2,_),(3,_),(5,_),(6,_)] _ (fun a C=>(8,.int .i64 (a:Int))::C) (fun a=>a<=AEu.length) (fun a=>AEu.length-a) 0 (Bs G) (Ad 6 G (Ad 7 G (Ad 8 G (Ad 9 G (Ad 10 G (Ad 11 G (Ad 12 G (Ad 13 G (Ad 14 G (Ad 15 G (Ad 16 G (Ad 17 G (Ad 18 G (Ad 19 G Aa)))))))))))))) (Nat.zero_le _) (Bs G) ?_;intro a At2;refine Am<|Ae<|U 2 G<|C2 6 G G Tryz.underlying39 G fun AnV=>U 1 G<|Ac<|B9 G (fun AaL=>?_) (fun AaL=>?_)
    ·
     refine AZ<|Am<|B5<|Am<|Am<|Gx mixed (by kernel_rfl)<|U 2 G<|Fo 6 G G G tn G fun QB=>CJ 0 AsJ G G (BR G) G fun uh=>CQ 0 G G (A2 G) G fun AGh=>U 2 G ?_;refine DE 63 8 [2,3,5,6,8] G G (fun Of v8=>by
      have b7:=Of;simp only[Bool.not_eq_false',decide_eq_true_eq]at b7;exact U 2 G<|Bl G G G<|Fo 8 G G G tn G fun AGc=>Bl G G G<|CJ 0 AsM G G (BR G) G fun AoP=>Bl G G G<|CJ 0 Agf G G (BR G) G fun mn=>Bl G G G<|CQ 0 G G (A2 G) G fun AuB=>U 2 G<|v8 G (Bg.tail (Bg.tail (Bg.tail Br)))) ?_
     refine An G G ?_;refine DE 72 9 [2,3,5,6,8] G G (fun iM g9=>by
      have AFy:=iM;try simp only[Bool.or_eq_false_iff,decide_eq_true_eq,Bool.not_eq_false']at AFy
      exact U 2 G<|Bl G G G<|Fo 8 G G G tn G fun AoR=>Bl G G G<|CJ 0 AsK G G (BR G) G fun AkL=>Bl G G G<|CQ 0 G G (A2 G) G fun Ape=>AX 4 [1] G G<|g9 G (Bg.tail (Bg.tail Br))) ?_
     refine An G G ?_;refine DE 82 9 [2,3,5,6,8] G G (fun AyQ wc=>by
      have AAZ:=AyQ;try simp only[Bool.or_eq_false_iff,decide_eq_true_eq,Bool.not_eq_false']at AAZ
      exact U 2 G<|Bl G G G<|Fo 8 G G G tn G fun AoU=>Bl G G G<|CJ 0 AsL G G (BR G) G fun AoV=>Bl G G G<|CQ 0 G G (A2 G) G fun Api=>AX 4 [1] G G<|wc G (Bg.tail (Bg.tail Br))) ?_
     refine Gj<|A5<|BN G (fun AEK=>?_) (fun AEK=>?_)
     ·
      refine ex<|Ck<|D7<|A5<|rg<|An G G<|C5 G G BV G<|U 1 G<|nl ?_;exact Dy (a+1) (by omega) (by omega) (Bs G) G (BE [2,3,4,5,6,7,8,9,10,11,12,13,14,15] G)
     ·
      have AFm:AEt S c:=by
       simp only[Bool.or_eq_false_iff,Bool.not_eq_false',decide_eq_true_eq]at AEK;obtain⟨⟨⟨d1,d2⟩,d3⟩,d4⟩:=AEK;rcases Hj _ (Hl (l:=AEu) (i:=a) (by omega))with q|q
       ·
        rcases q with q|q
        · exact absurd d1 q
        · exact absurd d2 q
       · exact q
      have AEQ:=AFz AFm;refine AZ<|Ae<|AX 2 [2] G G<|Dm (Ref.Ain _ _) (Ar G) G (Ad 14 G Aa) G fun AFI AFH Yg=>?_;obtain⟨AEB,AEC,AED,AEE,AEF,AEG⟩:=AFI;replace Yg:AFH=.tuple #[.agg (BY (Er _).1 AEB AEC AED AEE AEF AEG).toArray,.int .i64 (Er _).2]:=Yg;subst Yg;refine U 3 G<|CT LQ G fun H7=>Cp 0 G fun AFp=>?_;refine Cp 1 G fun AFq=>?_;refine Cp 2 G fun AFr=>?_;refine Cp 3 G fun AFs=>?_;refine Cp 4 G fun AFt=>?_;refine Cp 5 G fun AFu=>?_;refine BZ 0 (us:=(BY ((Er S.Cf).1) AEB AEC AED AEE AEF AEG)) G G G (At G) (by simp only[List.all_cons,List.all_nil,Bool.and_true,AFp,AFq,AFr,AFs,AFt,AFu];rfl) G<|U 1 G<|Ac<|Ae<|AX 2 [3] G G<|C2 15 G G Tryz.underlying22 G fun AFP=>AX 2 [0] G G<|C2 0 G G Tryz.underlying22 G fun AnL=>C5 G G BV G<|U 1 G<|Ac<|Am<|AF 1 G<|B5<|Hx (σ:=Nat×Int) [(2,_),(3,_),(5,_),(6,_),(8,_)] _ (fun s C=>(12,.int .i64 (s.1:Int))::(11,.int .i64 s.2)::C) (fun s=>[AO H7 31 (BY ((Er S.Cf).1) AEB AEC AED AEE AEF AEG),AO E' 31 (BY AEr RF N8 OF P1 P2 SK),AO DQ 35 (IT c EE),AO Dh 31 (BY S El EV D_ EA Em Eh),CL X w]) (fun _ Dw=>Dw) (fun s=>s.1<=S.AA.length/\s.2=((S.Aj.length:Int)+((Er S.Cf).1.Aj.length:Int))+(AEp (S.AA.take s.1):Int)) (fun s=>S.AA.length-s.1) (0,((S.Aj.length:Int)+((Er S.Cf).1.Aj.length:Int))) (Bs G) (Ad 0 G (Ad 1 G (Ad 2 G (Ad 3 G (Ad 4 G (Ad 5 G (Ad 8 G (Ad 9 G (Ad 10 G (Ad 11 G (Ad 12 G (Ad 13 G (Ad 14 G (Ad 15 G (Ad 16 G (Ad 17 G (Ad 18 G (Ad 19 G (Ad 20 G (Ad 21 G Aa)))))))))))))))))))) ⟨Nat.zero_le _,by show _=_+((0:Nat):Int);omega⟩ (Bs G) G (Ad 0 G (Ad 1 G (Ad 2 G (Ad 3 G (Ad 4 G (Ad 5 G (Ad 8 G (Ad 9 G (Ad 10 G (Ad 11 G (Ad 12 G (Ad 13 G (Ad 14 G (Ad 15 G (Ad 16 G (Ad 17 G (Ad 18 G (Ad 19 G (Ad 20 G (Ad 21 G Aa)))))))))))))))))))) ?_;rintro⟨k,m⟩ ⟨AE,hm⟩;simp only at AE hm;have An5:AEp (S.AA.take k)<=k:=by
       have:=List.countP_le_length (p:=fun x:BX=>decide (x.AM.Ca=5)) (l:=S.AA.take k);rw[List.length_take]at this;unfold AEp;omega
      show CF _ _ _ [(12,.int .i64 ((k:Int))),(11,.int .i64 m),(2,_),(3,_),(5,_),(6,_),(8,_)] [AO H7 31 (BY ((Er S.Cf).1) AEB AEC AED AEE AEF AEG),AO E' 31 (BY AEr RF N8 OF P1 P2 SK),AO DQ 35 (IT c EE),AO Dh 31 (BY S El EV D_ EA Em Eh),CL X w] _;refine Am<|Ae<|AX 3 [3] G G<|C2 15 G G Tryz.underlying24 G fun AFQ=>U 1 G<|Ac<|B9 G (fun As4=>?_) (fun As4=>?_)
      ·
       refine AZ<|Am<|B5<|Ae<|AX 3 [3] G G<|Fo 15 G G G N0 G fun AkB=>CJ 0 Ahg G G (BR G) G fun ud=>CJ 0 AgE G G (BR G) G fun Aud=>CQ 0 G G (A2 G) G fun AGd=>U 1 G<|Ac<|B9 G (fun AEI=>?_) (fun AEI=>?_)
       ·
        refine rg<|An G G<|C5 G G BV G<|U 1 G<|nl<|CU<|A5<|rg<|An G G<|C5 G G BV G<|U 1 G<|nl ?_;exact Dy ((k+1,m+1):Nat×Int) ⟨by show k+1<=_;omega,by show m+1=_+(AEp (S.AA.take (k+1)):Int);rw[AEU (by omega),if_pos (show(S.AA.getD k default).AM.Ca=5 from AEI)];omega⟩ (by show S.AA.length-(k+1)<S.AA.length-k;omega) (Bs G) G (BE [3,4,5,6,7,8,9,10,11,12,13,14,15,16,17,18,19,20,21,22] G)
       ·
        refine EG<|CU<|A5<|rg<|An G G<|C5 G G BV G<|U 1 G<|nl ?_;exact Dy ((k+1,m):Nat×Int) ⟨by show k+1<=_;omega,by show m=_+(AEp (S.AA.take (k+1)):Int);rw[AEU (by omega),if_neg (show ¬(S.AA.getD k default).AM.Ca=5 from AEI)];omega⟩ (by show S.AA.length-(k+1)<S.AA.length-k;omega) (Bs G) G (BE [3,4,5,6,7,8,9,10,11,12,13,14,15,16,17,18,19,20,21,22] G)
      ·
       refine ex<|Ck<|Ck<|D7<|A5<|Am ?_;obtain rfl:k=S.AA.length:=(by omega);rw[List.take_length]at hm;refine FA 3 G<|A5<|Ae<|AX 2 [3] G G<|C2 15 G G Tryz.underlying24 G fun AFR=>U 2 G<|Ac<|Ae<|AX 2 [3] G G<|C2 16 G G Tryz.underlying25 G fun AFS=>U 2 G<|Ac<|AF 1 G<|Am<|AF 1 G<|B5<|Ji (σ:=Nat) [(2,_),(3,_),(5,_),(6,_),(8,_),(13,_),(14,_),(15,_)] _ (fun d C=>(17,.int .i64 (d:Int))::(16,.bool (AEw S.Bj c d))::C) (fun d=>d<=S.Bj.length) (fun d=>S.Bj.length-d) 0 (Bs G) (Ad 0 G (Ad 1 G (Ad 2 G (Ad 3 G (Ad 4 G (Ad 5 G (Ad 6 G (Ad 7 G (Ad 8 G (Ad 9 G (Ad 10 G (Ad 11 G (Ad 12 G (Ad 13 G (Ad 14 G (Ad 15 G (Ad 16 G (Ad 17 G (Ad 18 G (Ad 19 G Aa)))))))))))))))))))) (Nat.zero_le _) (Bs G) ?_;intro d AFM;refine Am<|Ae<|AX 3 [3] G G<|C2 16 G G Tryz.underlying25 G fun AFT=>U 1 G<|Ac<|B9 G (fun AFe=>?_) (fun AFe=>?_)
       ·
        refine AZ<|Am<|B5<|Gx mixed (by kernel_rfl)<|U 2 G ?_;refine DE 140 21 [2,3,5,6,8,13,14,15,17] G G (fun AFf AEY=>by
         have AFw:=AFf;try simp only[Bool.or_eq_false_iff,Bool.and_eq_true,decide_eq_true_eq,decide_eq_false_iff_not,Bool.not_eq_true',Bool.not_eq_false']at AFw
         refine AX 3 [3] G G<|Bl G G G<|Fo 16 G G G Ox G fun AkE=>Bl G G G<|CJ 0 Agl G G (BR G) G fun AF7=>Bl G G G<|CQ 0 G G (A2 G) G fun AGe=>AX 4 [2] G G ?_;refine D4 150 10 [2,3,5,6,8,13,14,15,17,140] G G (fun AFg AEX=>by
          have AFY:=of_decide_eq_true AFg;exact AX 3 [3] G G<|Bl G G G<|Fo 18 G G G Ox G fun AF8=>Bl G G G<|CJ 0 Agm G G (BR G) G fun AF9=>Bl G G G<|CQ 0 G G (A2 G) G fun Ao2=>AX 4 [2] G G<|AEX G (Bg.tail (Bg.tail Br))) ?_
         exact U 1 G<|AEY G (Bg.tail (Bg.tail Br))) ?_
        refine U 1 G<|Gj<|CU<|A5<|rg<|An G G<|C5 G G BV G<|U 1 G<|nl ?_;exact Dy (d+1) (by omega) (by omega) (Bs G) G (BE [0,1,2,3,4,5,6,7,8,9,10,11,12,13,14,15,16,17,18,19] G)
       ·
        obtain rfl:d=S.Bj.length:=(by omega);refine ex<|Ck<|Ck<|D7<|A5<|AF 1 G<|Am<|AF 1 G<|B5<|Ji (σ:=Nat) [(2,_),(3,_),(5,_),(6,_),(8,_),(13,_),(14,_),(15,_),(16,_)] _ (fun e C=>(19,.int .i64 (e:Int))::(18,.bool (AEv S.Bz c e))::C) (fun e=>e<=S.Bz.length) (fun e=>S.Bz.length-e) 0 (Bs G) (Ad 0 G (Ad 1 G (Ad 2 G (Ad 3 G (Ad 4 G (Ad 5 G (Ad 6 G (Ad 7 G (Ad 8 G (Ad 9 G (Ad 10 G (Ad 11 G (Ad 12 G (Ad 13 G (Ad 14 G (Ad 15 G (Ad 16 G (Ad 17 G (Ad 18 G (Ad 19 G Aa)))))))))))))))))))) (Nat.zero_le _) (Bs G) ?_;intro e AFN;refine Am<|Ae<|AX 3 [3] G G<|C2 14 G G Tryz.underlying23 G fun AFU=>U 1 G<|Ac<|B9 G (fun AFh=>?_) (fun AFh=>?_)
        ·
         refine AZ<|Am<|B5<|Gx mixed (by kernel_rfl)<|U 2 G ?_;refine DE 170 21 [2,3,5,6,8,13,14,15,16,19] G G (fun AFi AE0=>by
          have AFx:=AFi;try simp only[Bool.or_eq_false_iff,Bool.and_eq_true,decide_eq_true_eq,decide_eq_false_iff_not,Bool.not_eq_true',Bool.not_eq_false']at AFx
          refine AX 3 [3] G G<|Bl G G G<|Fo 14 G G G J1 G fun AF_=>Bl G G G<|CJ 0 AgB G G (BR G) G fun AF'=>Bl G G G<|CQ 0 G G (A2 G) G fun AGf=>AX 4 [2] G G ?_;refine D4 180 10 [2,3,5,6,8,13,14,15,16,19,170] G G (fun AFj AEZ=>by
           have AFZ:=of_decide_eq_true AFj;exact AX 3 [3] G G<|Bl G G G<|Fo 16 G G G J1 G fun AGa=>Bl G G G<|CJ 0 AgC G G (BR G) G fun AGb=>Bl G G G<|CQ 0 G G (A2 G) G fun AGg=>AX 4 [2] G G<|AEZ G (Bg.tail (Bg.tail Br))) ?_
          exact U 1 G<|AE0 G (Bg.tail (Bg.tail Br))) ?_
         refine U 1 G<|Gj<|CU<|A5<|rg<|An G G<|C5 G G BV G<|U 1 G<|nl ?_;exact Dy (e+1) (by omega) (by omega) (Bs G) G (BE [0,1,2,3,4,5,6,7,8,9,10,11,12,13,14,15,16,17,18,19] G)
        ·
         obtain rfl:e=S.Bz.length:=(by omega);refine ex<|Ck<|Ck<|D7<|A5<|Ae<|U 3 G<|Fu 194 3 [] [2,3,5,6,8,15,16,18] G G G<|An G G<|Fu 198 3 [] [2,3,5,6,8,16,18] G G G<|An G G<|Fu 202 3 [] [2,3,5,6,8,18] G G G<|An G G<|Fu 206 3 [] [2,3,5,6,8] G G G<|Ac<|BN G (fun AEJ=>?_) (fun AEJ=>?_)
         ·
          exfalso;simp only[Bool.and_eq_true,Bool.not_eq_true',decide_eq_false_iff_not,Bool.or_eq_true,decide_eq_true_eq]at AEJ AEQ;obtain⟨⟨⟨⟨B4,DC⟩,Kk⟩,QX⟩,QY⟩:=AEJ;rcases AEQ with(((r|r)|r)|r)|r
          ·
           omega
          ·
           omega
          ·
           omega
          ·
           rw[QX]at r;cases r
          ·
           rw[QY]at r;cases r --#done
         ·
          refine EG<|CU<|A5<|rg<|An G G<|C5 G G BV G<|U 1 G<|nl<|AQ ?_;exact Dy (a+1) (by omega) (by omega) (Bs G) G (BE [6,7,8,9,10,11,12,13,14,15,16,17,18,19] G)
    ·
     refine ex<|Ck<|Ck<|D7<|A5<|Ae<|AX 2 [0] G G<|C2 0 G G Tryz.underlying22 G fun AFV=>U 2 G ?_;refine D4 214 5 [5] G G (fun AFk AE1=>by
      have AF0:=of_decide_eq_true AFk;exact AX 2 [0] G G<|Bl G G G<|C2 2 G G Tryz.underlying24 G fun AFW=>U 2 G<|AE1 G Br) ?_
     exact An G G<|D4 220 5 [] G G (fun AFL AE2=>AX 2 [0] G G<|Bl G G G<|C2 3 G G Tryz.underlying25 G fun AFX=>U 2 G<|AE2 G Br)<|U 1 G<|Ac<|rt<|AQ<|AQ<|AQ<|Bq () G G (by exact congrArg Value.bool (by simp only[Bool.and_eq_true,decide_eq_true_eq];omega)) G Aa
end Go.Apw
namespace Go.Proofs.YtalfaopffbkdnaaGreat
open Go.A_ Go.Apw Go.ChangeShapes Go.WideShapes Go.ChangeAt Go.RowKit
section
theorem Tryz.own:ownKnob Tryz.prog.godebug=none:=by kernel_rfl
theorem Tryz.laidOut:laidOutB Tryz.prog=true:=by kernel_rfl
set_option maxRecDepth 100000 in
theorem AFB(H:Type)(enc:TypeId×Value->H)(W:World)(base:Nat)(args:Array Value)(Cx gs:List (DataW H))(before:List MemPlace)(AE:Rows.uptoSmall H (Cx++gs)=true)
    (PD:∀(j:Nat) t v,Tryz.f3.params[j]? =some t->args[j]? =some v->Value.okWide Tryz.prog W .any base t v)
    (F5:DataW.Whole enc Tryz.prog Tryz.f3.params.toList Rows.shardFullSpec.vars false W args.toList Cx gs before):
    Calls Tryz.prog 3 args W fun e SY=>∃v,e=.returned v/\Rows.shardFullSpec.post enc Tryz.prog Tryz.f3 false true false false W args v SY:=by
  have iV:=F5;obtain⟨p,q,AaS,LC,rfl,AbI,OZ⟩:=F5;have Cl:DataW.TrodAll enc Tryz.prog W 0 (fun _=>true) true Tryz.f3.params.toList args.toList Cx p:=AaS;rw[Tryz.params3]at Cl PD;obtain⟨v0,cg,d0,Fb,An9,L3,AK,rfl,rfl,Bw,Cl⟩:=trodAll_cons Cl;obtain⟨v1,NY,d1,B4,Rn,Ey,rfl,rfl,rfl,Af,Cl⟩:=trodAll_cons Cl;obtain⟨rfl,rfl,rfl⟩:=trodAll_nil Cl;obtain⟨rfl,rfl⟩:=trodVars_none LC;have eI:args= #[v0,v1]:=Array.toList_inj.1 AK;subst eI;obtain⟨Ayc,S,rfl,Ab'⟩:=Aqn Tryz.underlying31 Azr (PD 0 31 v0 rfl rfl) Bw;have Ax6:Rows.uptoBulk d0<=1048576->Ap2 S:=fun k=>by
    obtain⟨fuel,BI⟩:=Bw;exact Az7 (x:=(d0,An9)) (cs:=Ayc) BI Ab' k
  obtain⟨⟨Av0,Av1,Av2,AwI,AwJ,AwK⟩,rfl,AvW,AAh⟩:=Ab';obtain⟨yo,c,rfl,AqN⟩:=Aqn Tryz.underlying35 AfH (PD 1 35 v1 rfl rfl) Af;obtain⟨EE,rfl,Ars,ArJ⟩:=AqN;have AE:Rows.uptoBulk d0+(Rows.uptoBulk d1+0)<=1048576:=(by simpa[Rows.uptoSmall,Rows.uptoBulkAll]using AE);have JU:=AFc S Av0 Av1 Av2 AwI AwJ AwK c EE (AyU (AvW ⟨Av0,S.Aj⟩ (by simp)) (AvW ⟨Av1,S.Bz⟩ (by simp)) (AvW ⟨Av2,S.AA⟩ (by simp))) AAh ArJ;refine JU.post Tryz.laidOut (by kernel_rfl) rfl (by kernel_rfl) Tryz.underlying4 rfl iV ?_;intro t Av;rcases List.mem_append.1 (show t∈([⟨Av0,S.Aj⟩,⟨Av1,S.Bz⟩,⟨Av2,S.AA⟩,⟨AwI,S.Bj⟩,⟨AwJ,S.CX⟩,⟨AwK,S.Cf⟩]:List Atom)++[⟨EE,c.Cf⟩]from Av)with h|h
  · exact AvW t h
  · exact Ars t h
set_option maxRecDepth 100000 in
theorem AFD(os:Os)(started:os.Started)(H:Type)(enc:TypeId×Value->H)(F:Stop.Interp):
    ReturnsInHanded {} Tryz.checked os 3 .any ((Rows.OpenSpec.upto Rows.shardFullSpec).pre6 enc Tryz.prog Tryz.f3 Rows.shardFullUptoRow.domain false) (((Rows.OpenSpec.upto Rows.shardFullSpec).at F).post enc Tryz.prog Tryz.f3 false true false false):=by
  refine returnsInHanded_of_cond (C:=Tryz.checked) (s:=Rows.OpenSpec.upto Rows.shardFullSpec) (k:=Rows.uptoSmall) rfl Tryz.own started (by kernel_rfl) Tryz.func3
    (OpenSpec.witness (enc:=enc) (C:=Tryz.checked) (s:=Rows.OpenSpec.upto Rows.shardFullSpec) (k:=Rows.uptoSmall) rfl false ⟨#[],#[.agg (BY (⟨0,0,false,ByteArray.empty,ByteArray.empty,0,[],[],[],[],[],⟨0,0,0,ByteArray.empty,ByteArray.empty,0,0⟩,⟨0,0,0,ByteArray.empty,ByteArray.empty,0,0⟩,[],0,0,0⟩:Bv) AI AI AI AI AI AI).toArray,.agg (IT (⟨0,0,0,0,0,0,ByteArray.empty,0,0,0,false,⟨0,ByteArray.empty,ByteArray.empty,0,0,0⟩,⟨0,0,0,ByteArray.empty,ByteArray.empty,0,0⟩,[]⟩:Dg) AI).toArray],[]⟩ 8 (by kernel_rfl) (by kernel_rfl) (by kernel_rfl)
      (x:=([.agg [.lit (.int .i64 0),.lit (.int .i64 0),.lit (.bool false),.lit (.string []),.lit (.string []),.lit (.int .i64 0),.nil,.nil,.nil,.nil,.nil,.agg [.lit (.int .i64 0),.lit (.int .i64 0),.lit (.int .i64 0),.lit (.string []),.lit (.string []),.lit (.int .i64 0),.lit (.int .i64 0)],.agg [.lit (.int .i64 0),.lit (.int .i64 0),.lit (.int .i64 0),.lit (.string []),.lit (.string []),.lit (.int .i64 0),.lit (.int .i64 0)],.nil,.lit (.int .i64 0),.lit (.int .i64 0),.lit (.int .i64 0)],.agg [.lit (.int .i64 0),.lit (.int .i64 0),.lit (.int .i64 0),.lit (.int .i64 0),.lit (.int .i64 0),.lit (.int .i64 0),.lit (.string []),.lit (.int .i64 0),.lit (.int .i64 0),.lit (.int .i64 0),.lit (.bool false),.agg [.lit (.int .i64 0),.lit (.string []),.lit (.string []),.lit (.int .i64 0),.lit (.int .i64 0),.lit (.int .i64 0)],.agg [.lit (.int .i64 0),.lit (.int .i64 0),.lit (.int .i64 0),.lit (.string []),.lit (.string []),.lit (.int .i64 0),.lit (.int .i64 0)],.nil]],[],[])) (by kernel_rfl) rfl (by kernel_rfl)) ?_
  intro W base args Cx gs before PD F5 _ AE _;exact AFB H enc W base args Cx gs before AE PD F5
theorem w2{a b:Bool}(AK:a=true)(Aq:b=true):(a&&b)=true:=by rw[AK,Aq];rfl
set_option maxHeartbeats 40000000 in
theorem AFA:joinedFacts Tryz.prog 3 Tryz.f3 (Rows.OpenSpec.upto Rows.shardFullSpec).bare Rows.shardFullUptoRow=true:=by
  unfold joinedFacts;repeat' (with_reducible apply w2)
  all_goals (as_aux_lemma=>kernel_rfl)
theorem AFE:Tryz.prog.funcNamed Rows.shardFullUptoRow.func=some 3:=by kernel_rfl
theorem AFC:Tryz.f3.isInstance Tryz.prog Rows.shardFullUptoRow.origin Rows.shardFullUptoRow.targs:=of_decide_eq_true (by kernel_rfl)
theorem AFG:Tryz.f3.isWrapper Tryz.prog Rows.shardFullUptoRow.wrapper Rows.shardFullUptoRow.mainSum:=by
  unfold Func.isWrapper;rw[if_neg (by decide+kernel)];exact⟨rfl,rfl⟩
theorem AFF:Rows.shardFullUptoRow.holds Tryz.pinned (Rows.OpenSpec.upto Rows.shardFullSpec):=
  OpenClaim.holds_of_cond 3 Tryz.f3 rfl rfl rfl rfl rfl rfl rfl ⟨rfl,rfl,rfl,rfl,rfl⟩ rfl rfl rfl rfl rfl AFE Tryz.func3 AFA AFC AFG
    (fun os started H enc _ F=>AFD os started H enc F)
theorem shardFull_holds:Rows.ShardFullUptoSaid:=AFF
#print axioms shardFull_holds
end
end Go.Proofs.YtalfaopffbkdnaaGreat
