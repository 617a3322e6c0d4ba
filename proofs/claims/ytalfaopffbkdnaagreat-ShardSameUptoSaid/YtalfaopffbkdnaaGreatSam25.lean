/- The law ShardSame holds of every input of bulk at most 1048576: two members that apply the same commands have the same state, and told the same effects. Condition: the bulk bound, which the given statement names. -/
import Derived.JoinedCond
import Derived.Test.YtalfaopffbkdnaaGreatSam24

set_option maxRecDepth 20000
set_option maxHeartbeats 1000000
set_option maxRecDepth 20000
namespace Go.Proofs.YtalfaopffbkdnaaGreat
open Go.A_ Go.Apw
def xd:Bool:=decide ((0:Int)=0)&&(F8 1).Du&&decide ((F8 1).Dn=1)&&decide (IA (LN IP)=21)
theorem xf:xd=true:=by decide
def KP(n k:Int):Int:=(IntKind.u64.wrap n).tmod k
theorem j_(n:Int){k:Int}(h:0<k):0<=KP n k/\KP n k<k:=by
 have Bw:0<=IntKind.u64.wrap n:=by rw[IntKind.wrap_u64];omega
 exact⟨Int.tmod_nonneg _ Bw,Int.tmod_lt_of_pos _ h⟩
theorem zh:Po AG 46 VW:=by
 refine⟨by kernel_rfl,fun a b w=>?_⟩
 rw[run_equalIn_struct w 9999 46 _ _ (by simp only[Program.fieldsOf,Tryz.underlying46]) (by kernel_rfl)]
 simp only[Program.fieldsOf,Tryz.underlying46]
 refine Eq.trans (EI G Tryz.underlying3 G G G (Fk Tryz.underlying3 _ _) (fun w=>EI G Tryz.underlying3 G G G (Fk Tryz.underlying3 _ _) (fun w=>EI G Tryz.underlying3 G G G (Fk Tryz.underlying3 _ _) (fun w=>h7 (m:=4) (zs1:= #[.int .i64 a.Cm.Jd,.int .i64 a.Cm.JM,.int .i64 a.Cm.JJ,.int .i64 a.Cm.JK]) (zs2:= #[.int .i64 b.Cm.Jd,.int .i64 b.Cm.JM,.int .i64 b.Cm.JJ,.int .i64 b.Cm.JK]) (r:=(decide (a.Cm.Jd=b.Cm.Jd)&&(decide (a.Cm.JM=b.Cm.JM)&&(decide (a.Cm.JJ=b.Cm.JJ)&&(decide (a.Cm.JK=b.Cm.JK)&&true))))) G Tryz.underlying44 G (by kernel_rfl) (by simp) (by simp) (fun w=>?_) (fun w=>OO w))))) ?_
 ·
  rw[run_equalIn_struct w 9998 44 _ _ (by simp only[Program.fieldsOf,Tryz.underlying44]) (by kernel_rfl)]
  simp only[Program.fieldsOf,Tryz.underlying44]
  exact EI G Tryz.underlying37 G G G (Fk Tryz.underlying37 _ _) (fun w=>EI G Tryz.underlying3 G G G (Fk Tryz.underlying3 _ _) (fun w=>EI G Tryz.underlying3 G G G (Fk Tryz.underlying3 _ _) (fun w=>EI G Tryz.underlying3 G G G (Fk Tryz.underlying3 _ _) (fun w=>OO w))))
 congr 1
 obtain⟨He,DP,EK,⟨wD,wE,wF,wG⟩⟩:=a
 obtain⟨Pt,CY,Dh,⟨xn,xo,xp,xq⟩⟩:=b
 simp[FE.mk.injEq,De.mk.injEq,Bool.and_assoc]
theorem Aht(I8:Value)(x:List FE)(I9:Value)(y:List FE):Cv AG 19 [I8,I9] [⟨I8,x⟩,⟨I9,y⟩] (.bool (decide (x=y))):=by
 refine Aw.proof Tryz.func19 G 26 G G fun X w=>HP (q:=x.length<=9223372036854775807) (fun S w h=>L1 (h _ (List.mem_of_getElem? (i:=0) G))) fun Wv=>HP (q:=y.length<=9223372036854775807) (fun S w h=>L1 (h _ (List.mem_of_getElem? (i:=1) G))) fun Ww=>AF 1 G<|Am<|Ae<|An G G<|C2 0 G G Tryz.underlying39 G fun MD=>An G G<|C2 1 G G Tryz.underlying39 G fun Sm=>U 1 G<|Ac<|Fa G (fun Dq=>?_) (fun Dq=>?_)
 · exact AF 1 G<|BA<|Bq () G G (by rw[W2 (by omega)]) G Aa
 ·
  have AN:x.length=y.length:=by omega
  refine AZ<|Am<|AF 1 G<|B5<|Ji (σ:=Nat) [(0,_),(1,_)] _ (fun i C=>(5,.int .i64 (i:Int))::C) (fun i=>i<=x.length/\(∀j,j<i->x.getD j default=y.getD j default)) (fun i=>x.length-i) 0 (Bs G) (Ad 0 G (Ad 1 G Aa)) ⟨Nat.zero_le _,fun j Ay=>absurd Ay (Nat.not_lt_zero j)⟩ (Bs G) ?_
  rintro i ⟨Ag,C0⟩
  refine Am<|Ae<|U 2 G<|C2 0 G G Tryz.underlying39 G fun TC=>U 1 G<|Ac<|B9 G (fun Fm=>?_) (fun Fm=>?_)
  ·
   refine AZ<|Am<|B5<|Am<|Gx mixed (by kernel_rfl)<|U 2 G<|Fo 0 G G G tn G fun KC=>Gi 0 G G (At G) G fun Qt Vr=>U 2 G<|Fo 3 G G G tn G fun Pe=>Gi 0 G G (At G) G fun MJ PW=>Qo zh ((x.getD i default)) ((y.getD i default)) G G G<|Gj<|A5<|Fa G (fun Gr=>?_) (fun Gr=>?_)
   · exact AF 1 G<|rt<|C9<|Cd<|Cd<|C9<|Cd<|Bq () G G (by rw[W1 i (by simpa using Gr)]) G Aa
   ·
    refine EG<|CU<|A5<|rg<|An G G<|C5 G G BV G<|U 1 G<|nl ?_
    exact Dy (i+1) ⟨(by omega),(Ki C0 (by simpa using Gr))⟩ (by omega) (Bs G) G (BE [4,5] G)
  · exact ex<|Ck<|Ck<|D7<|A5<|AF 1 G<|rt<|Bq () G G (by rw[W0 AN (fun j Ay=>C0 j (by omega))]) G Aa
theorem xe:Cv AG 9 [] [] (.bool true):=by
 refine Aw.proof Tryz.func9 G 23 G G fun X w=>DJ (α:=AD) ?_
 refine DJ (α:=BL) ?_
 refine DJ (α:=BX) ?_
 refine DJ (α:=Bx) ?_
 refine DJ (α:=Df) ?_
 refine DJ (α:=UInt8) ?_
 exact AF 1 G<|Ae<|B0 (rH 1 ⟨by decide,by decide⟩ G) (Ar G) G Aa G<|U 3 G<|CT LQ G fun CY=>BZ 0 (us:=(BY ((F8 1)) AI AI AI AI AI AI)) G G G (At G) G G<|U 1 G<|Ac<|Ae<|U 3 G<|Fu 9 3 [0] [1] G G G<|An G G<|Fu 13 4 [0] [] G G G<|An G G<|D4 18 4 [] G G (fun ER VD=>Bl G G G<|Db (ps:=[]) (cs:=(BY Np AI AI AI AI AI AI)) (by rfl) (by kernel_rfl) G<|Bl G G G<|B0 (AjA IP AI AI AI AI AI AI dd) (Ar G) G (BE [5,4,3,2,1,0] G) G<|U 2 G<|VD G Br)<|U 1 G<|Ac<|rt<|AQ<|Bq () G G (by exact congrArg Value.bool xf.symm) G Aa
theorem Aef(n:Int):Ih (1+KP n 7)=true:=by
 obtain⟨a,b⟩:=j_ n (k:=7) (by decide)
 simp only[Ih,Bool.and_eq_true,decide_eq_true_eq]
 omega
theorem Ajb(KK:Int)(cU:Value)(cs:List Dg)(no:Int)(hlen:cs.length<=1048576)(hw:∀c∈cs,c.wf):Cv AG 7 [.int .i64 KK,cU,.int .i64 no] [⟨cU,cs⟩] (.bool true):=by
 refine Aw.proof Tryz.func7 G 63 G G fun X w=>AF 1 G<|Ae<|An G G<|F0 Tryz.underlying3 Tryz.underlying61 G (r:=IntKind.u64.wrap no) G G<|k' G G (by decide) (r:=KP no 5) G G ?_
 obtain⟨An6,An7⟩:=j_ no (k:=5) (by decide)
 refine F0 Tryz.underlying61 Tryz.underlying3 G (Uf ⟨by omega,by omega⟩) G<|C5 G G BV G<|U 1 G<|Ac<|Ae<|An G G<|F0 Tryz.underlying3 Tryz.underlying61 G (r:=IntKind.u64.wrap KK) G G<|k' G G (by decide) (r:=KP KK 7) G G ?_
 obtain⟨AmU,AmV⟩:=j_ KK (k:=7) (by decide)
 refine F0 Tryz.underlying61 Tryz.underlying3 G (Uf ⟨by omega,by omega⟩) G<|C5 G G BV G<|U 1 G<|Ac<|Am ?_
 have CK:=Aef KK
 refine rg<|U 3 G<|Dm (sW (1+KP KK 7) _ cs (1+KP no 5) (Go.Apw.runN (F8 (1+KP KK 7)) (1+KP no 5) cs cs.length) G CK ⟨by omega,by omega⟩ (by omega) (by omega) ⟨by omega,by omega⟩ hlen hw) (Ar G) G (Ad 0 G Aa) G fun Pm N4 G4=>?_
 obtain⟨He,DP,EK,FR,Iz,Lv,KY⟩:=Pm
 obtain⟨hT,PX⟩:=G4
 subst hT
 refine U 4 G<|CT LQ G fun Jo=>Cp 0 G fun AeE=>?_
 refine Cp 1 G fun AeF=>?_
 refine Cp 2 G fun AeG=>?_
 refine Cp 3 G fun AeH=>?_
 refine Cp 4 G fun AeI=>?_
 refine Cp 5 G fun AeJ=>?_
 refine BZ 0 (us:=(BY ((Go.Apw.runN (F8 (1+KP KK 7)) (1+KP no 5) cs cs.length).1) He DP EK FR Iz Lv)) G G G (At G) (by simp only[List.all_cons,List.all_nil,Bool.and_true,AeE,AeF,AeG,AeH,AeI,AeJ];rfl) G<|U 2 G<|Ac<|Ae<|U 3 G<|Dm (sW (1+KP KK 7) _ cs (1+KP no 5) (Go.Apw.runN (F8 (1+KP KK 7)) (1+KP no 5) cs cs.length) G CK ⟨by omega,by omega⟩ (by omega) (by omega) ⟨by omega,by omega⟩ hlen hw) (Ar G) G (Ad 7 G Aa) G fun AlH Mo Lz=>?_
 obtain⟨Pt,CY,Dh,DQ,En,E',Hg⟩:=AlH
 obtain⟨S8,AkT⟩:=Lz
 subst S8
 refine U 4 G<|CT LQ G fun ho=>Cp 0 G fun AeK=>?_
 refine Cp 1 G fun AeL=>?_
 refine Cp 2 G fun AeM=>?_
 refine Cp 3 G fun AeN=>?_
 refine Cp 4 G fun AeO=>?_
 refine Cp 5 G fun AeP=>?_
 exact BZ 0 (us:=(BY ((Go.Apw.runN (F8 (1+KP KK 7)) (1+KP no 5) cs cs.length).1) Pt CY Dh DQ En E')) G G G (At G) (by simp only[List.all_cons,List.all_nil,Bool.and_true,AeK,AeL,AeM,AeN,AeO,AeP];rfl) G<|U 2 G<|Ac<|Ae<|B0 (xe) (Ar G) G Aa G<|U 4 G<|Bl G G G<|U 3 G<|Bl G G G<|BJ 1 (BY ((Go.Apw.runN (F8 (1+KP KK 7)) (1+KP no 5) cs cs.length).1) He DP EK FR Iz Lv) G G (At G) G G<|Bl G G G<|BJ 0 (BY ((Go.Apw.runN (F8 (1+KP KK 7)) (1+KP no 5) cs cs.length).1) Pt CY Dh DQ En E') G G (At G) G G<|Bl G G G<|B0 (Ai' _ _ _ _ _ _ _ _ _ _ _ _ _ _ PX AkT) (Ar G) G (BE [7,8,9,10,11,12,0,1,2,3,4,5] G) G<|U 2 G<|D4 51 4 [1,7] G G (fun LA vX=>U 2 G<|Bl G G G<|B0 (Aht _ _ _ _) (Ar G) G (BE [13,6] G) G<|U 1 G<|vX G Br)<|An G G<|D4 56 6 [] G G (fun eu g6=>AX 3 [1] G G<|Bl G G G<|C2 14 G G Tryz.underlying56 G fun Adk=>U 2 G<|g6 G Br)<|U 1 G<|Ac<|rt<|AQ<|AQ<|Bq () G G (by exact congrArg Value.bool (by have h:=Ajc (g:=1+KP KK 7) (nd:=1+KP no 5) (cs:=cs) CK hw (by omega) (by omega) (by unfold EW;omega);simp[h.2,Aja])) G Aa
end Go.Proofs.YtalfaopffbkdnaaGreat
namespace Go.Proofs.YtalfaopffbkdnaaGreat
open Go.A_ Go.Apw Go.ChangeShapes Go.WideShapes Go.ChangeAt Go.RowKit
section
theorem Tryz.own:ownKnob Tryz.prog.godebug=none:=by kernel_rfl
theorem Tryz.laidOut:laidOutB Tryz.prog=true:=by kernel_rfl
set_option maxRecDepth 100000 in
theorem Ajt(H:Type)(enc:TypeId×Value->H)(W:World)(base:Nat)(args:Array Value)(Cx gs:List (DataW H))(before:List MemPlace)(AE:Rows.uptoSmall H (Cx++gs)=true)
    (PD:∀(j:Nat) t v,Tryz.f7.params[j]? =some t->args[j]? =some v->Value.okWide Tryz.prog W .any base t v)
    (F5:DataW.Whole enc Tryz.prog Tryz.f7.params.toList Rows.shardSameSpec.vars false W args.toList Cx gs before):
    Calls Tryz.prog 7 args W fun e SY=>∃v,e=.returned v/\Rows.shardSameSpec.post enc Tryz.prog Tryz.f7 false true false false W args v SY:=by
  have iV:=F5
  obtain⟨p,q,AaS,LC,rfl,AbI,OZ⟩:=F5
  have Cl:DataW.TrodAll enc Tryz.prog W 0 (fun _=>true) true Tryz.f7.params.toList args.toList Cx p:=AaS
  rw[Tryz.params7]at Cl PD
  obtain⟨v0,cg,d0,Fb,An9,L3,AK,rfl,rfl,Bw,Cl⟩:=trodAll_cons Cl
  obtain⟨v1,NY,d1,B4,Rn,Ey,rfl,rfl,rfl,Af,Cl⟩:=trodAll_cons Cl
  obtain⟨v2,MK,d2,DC,WY,Ez,rfl,rfl,rfl,h2,Cl⟩:=trodAll_cons Cl
  obtain⟨rfl,rfl,rfl⟩:=trodAll_nil Cl
  obtain⟨rfl,rfl⟩:=trodVars_none LC
  have eI:args= #[v0,v1,v2]:=Array.toList_inj.1 AK
  subst eI
  obtain⟨KK,rfl,rfl,rfl,Ak0⟩:=open_int Tryz.underlying3 (PD 0 3 v0 rfl rfl) Bw
  simp[Lit.wf,IntKind.min,IntKind.max,IntKind.signed,IntKind.bits]at Ak0
  obtain⟨cs,k1⟩:=w8 Tryz.underlying56 AfJ (PD 1 56 v1 rfl rfl) Af
  have Amu:=AdS Tryz.underlying56 Af k1
  obtain⟨no,rfl,rfl,rfl,Ak1⟩:=open_int Tryz.underlying3 (PD 2 3 v2 rfl rfl) h2
  simp[Lit.wf,IntKind.min,IntKind.max,IntKind.signed,IntKind.bits]at Ak1
  have AE:Rows.uptoBulk (H:=H) (.lit (.int .i64 KK))+(Rows.uptoBulk d1+(Rows.uptoBulk (H:=H) (.lit (.int .i64 no))+0))<=1048576:=by simpa[Rows.uptoSmall,Rows.uptoBulkAll]using AE
  have JU:=Ajb KK v1 cs no (by omega) (O7 (s:=s7) k1)
  refine JU.post Tryz.laidOut (by kernel_rfl) rfl (by kernel_rfl) Tryz.underlying4 rfl iV ?_
  intro t Av
  obtain rfl:=List.mem_singleton.1 Av
  exact k1
set_option maxRecDepth 100000 in
theorem Ajv(os:Os)(started:os.Started)(H:Type)(enc:TypeId×Value->H)(F:Stop.Interp):
    ReturnsInHanded {} Tryz.checked os 7 .any ((Rows.OpenSpec.upto Rows.shardSameSpec).pre6 enc Tryz.prog Tryz.f7 Rows.shardSameUptoRow.domain false) (((Rows.OpenSpec.upto Rows.shardSameSpec).at F).post enc Tryz.prog Tryz.f7 false true false false):=by
  refine returnsInHanded_of_cond (C:=Tryz.checked) (s:=Rows.OpenSpec.upto Rows.shardSameSpec) (k:=Rows.uptoSmall) rfl Tryz.own started (by kernel_rfl) Tryz.func7
    (OpenSpec.witness (enc:=enc) (C:=Tryz.checked) (s:=Rows.OpenSpec.upto Rows.shardSameSpec) (k:=Rows.uptoSmall) rfl false ⟨#[],#[.int .i64 0,.slice none 0 0,.int .i64 0],[]⟩ 8 (by kernel_rfl) (by kernel_rfl) (by kernel_rfl)
      (x:=([.lit (.int .i64 0),.nil,.lit (.int .i64 0)],[],[])) (by kernel_rfl) rfl (by kernel_rfl)) ?_
  intro W base args Cx gs before PD F5 _ AE _
  exact Ajt H enc W base args Cx gs before AE PD F5
theorem w2{a b:Bool}(AK:a=true)(Aq:b=true):(a&&b)=true:=by rw[AK,Aq];rfl
set_option maxHeartbeats 40000000 in
theorem Ajs:joinedFacts Tryz.prog 7 Tryz.f7 (Rows.OpenSpec.upto Rows.shardSameSpec).bare Rows.shardSameUptoRow=true:=by
  unfold joinedFacts
  repeat' (with_reducible apply w2)
  all_goals (as_aux_lemma=>kernel_rfl)
theorem Ajw:Tryz.prog.funcNamed Rows.shardSameUptoRow.func=some 7:=by kernel_rfl
theorem Aju:Tryz.f7.isInstance Tryz.prog Rows.shardSameUptoRow.origin Rows.shardSameUptoRow.targs:=of_decide_eq_true (by kernel_rfl)
theorem Ajy:Tryz.f7.isWrapper Tryz.prog Rows.shardSameUptoRow.wrapper Rows.shardSameUptoRow.mainSum:=by
  unfold Func.isWrapper
  rw[if_neg (by decide+kernel)]
  exact⟨rfl,rfl⟩
theorem Ajx:Rows.shardSameUptoRow.holds Tryz.pinned (Rows.OpenSpec.upto Rows.shardSameSpec):=
  OpenClaim.holds_of_cond 7 Tryz.f7 rfl rfl rfl rfl rfl rfl rfl ⟨rfl,rfl,rfl,rfl,rfl⟩ rfl rfl rfl rfl rfl Ajw Tryz.func7 Ajs Aju Ajy
    (fun os started H enc _ F=>Ajv os started H enc F)
theorem shardSame_holds:Rows.ShardSameUptoSaid:=Ajx
#print axioms shardSame_holds
end
end Go.Proofs.YtalfaopffbkdnaaGreat
