/- The law ShardStays holds of every input of bulk at most 1048576: applied to a right state each command leaves a right one, of the same group, with that index. Condition: the bulk bound, which the given statement names. -/
import Derived.JoinedCond
import Derived.Test.YtalfaopffbkdnaaGreatSen27

set_option maxRecDepth 20000
set_option maxHeartbeats 1000000
namespace Go.Proofs.YtalfaopffbkdnaaGreat
open Go.A_ Go.Apw Go.ChangeShapes Go.WideShapes Go.ChangeAt Go.RowKit
section
theorem Tryz.own:ownKnob Tryz.prog.godebug=none:=AGo
theorem Tryz.laidOut:laidOutB Tryz.prog=true:=AGo
set_option maxRecDepth 100000 in
theorem AzY(H:Type)(enc:TypeId×Value->H)(W:World)(base:Nat)(args:Array Value)(Cx gs:List (DataW H))(before:List MemPlace)(AE:Rows.uptoSmall H (Cx++gs)=true)
    (PD:∀(j:Nat) t v,Tryz.f4.params[j]? =some t->args[j]? =some v->Value.okWide Tryz.prog W .any base t v)
    (F5:DataW.Whole enc Tryz.prog Tryz.f4.params.toList Rows.shardStaysSpec.vars false W args.toList Cx gs before):
    Calls Tryz.prog 4 args W fun e SY=>∃v,e=.returned v/\Rows.shardStaysSpec.post enc Tryz.prog Tryz.f4 false true false false W args v SY:=by
  have iV:=F5;obtain⟨p,q,AaS,LC,rfl,AbI,OZ⟩:=F5;have Cl:DataW.TrodAll enc Tryz.prog W 0 (fun _=>true) true Tryz.f4.params.toList args.toList Cx p:=AaS;rw[Tryz.params4]at Cl PD;obtain⟨v0,cg,d0,Fb,An9,L3,AK,rfl,rfl,Bw,Cl⟩:=trodAll_cons Cl;obtain⟨v1,NY,d1,B4,Rn,Ey,rfl,rfl,rfl,Af,Cl⟩:=trodAll_cons Cl;obtain⟨v2,MK,d2,DC,WY,Ez,rfl,rfl,rfl,h2,Cl⟩:=trodAll_cons Cl;obtain⟨rfl,rfl,rfl⟩:=trodAll_nil Cl;obtain⟨rfl,rfl⟩:=trodVars_none LC;have eI:args= #[v0,v1,v2]:=Array.toList_inj.1 AK;subst eI;obtain⟨Ayc,S,rfl,Ab'⟩:=Aqn Tryz.underlying31 Azr (PD 0 31 v0 rfl rfl) Bw;have Ax6:Rows.uptoBulk d0<=1048576->Ap2 S:=fun k=>by
    obtain⟨fuel,BI⟩:=Bw;exact Az7 (x:=(d0,An9)) (cs:=Ayc) BI Ab' k
  obtain⟨⟨Av0,Av1,Av2,AwI,AwJ,AwK⟩,rfl,AvW,AAh⟩:=Ab';obtain⟨cs,k1⟩:=w8 Tryz.underlying56 AfJ (PD 1 56 v1 rfl rfl) Af;have Amu:=AdS Tryz.underlying56 Af k1;obtain⟨nd,rfl,rfl,rfl,AAi⟩:=open_int ABc (PD 2 3 v2 rfl rfl) h2;simp[Lit.wf,IntKind.min,IntKind.max,IntKind.signed,IntKind.bits]at AAi;have AE:Rows.uptoBulk d0+(Rows.uptoBulk d1+(Rows.uptoBulk (H:=H) (.lit (.int .i64 nd))+0))<=1048576:=(by simpa[Rows.uptoSmall,Rows.uptoBulkAll]using AE);have JU:=Az8 S Av0 Av1 Av2 AwI AwJ AwK v1 cs nd (AyU (AvW ⟨Av0,S.Aj⟩ (by simp)) (AvW ⟨Av1,S.Bz⟩ (by simp)) (AvW ⟨Av2,S.AA⟩ (by simp))) (Ax6 AGn) AAh ⟨AGn,AGn⟩ AGn (O7 (s:=s7) k1);refine JU.post Tryz.laidOut AGo rfl AGo Tryz.underlying4 rfl iV ?_;intro t Av;rcases ABm.1 (show t∈([⟨Av0,S.Aj⟩,⟨Av1,S.Bz⟩,⟨Av2,S.AA⟩,⟨AwI,S.Bj⟩,⟨AwJ,S.CX⟩,⟨AwK,S.Cf⟩]:List Atom)++[⟨v1,cs⟩]from Av)with h|h
  · exact AvW t h
  · obtain rfl:=ADe.1 h;exact k1
set_option maxRecDepth 100000 in
theorem Az0(os:Os)(started:os.Started)(H:Type)(enc:TypeId×Value->H)(F:Stop.Interp):
    ReturnsInHanded {} Tryz.checked os 4 .any ((Rows.OpenSpec.upto Rows.shardStaysSpec).pre6 enc Tryz.prog Tryz.f4 Rows.shardStaysUptoRow.domain false) (((Rows.OpenSpec.upto Rows.shardStaysSpec).at F).post enc Tryz.prog Tryz.f4 false true false false):=by
  refine returnsInHanded_of_cond (C:=Tryz.checked) (s:=Rows.OpenSpec.upto Rows.shardStaysSpec) (k:=Rows.uptoSmall) rfl Tryz.own started AGo Tryz.func4
    (OpenSpec.witness (enc:=enc) (C:=Tryz.checked) (s:=Rows.OpenSpec.upto Rows.shardStaysSpec) (k:=Rows.uptoSmall) rfl false ⟨#[],#[.agg (BY (⟨0,0,false,ByteArray.empty,ByteArray.empty,0,[],[],[],[],[],⟨0,0,0,ByteArray.empty,ByteArray.empty,0,0⟩,⟨0,0,0,ByteArray.empty,ByteArray.empty,0,0⟩,[],0,0,0⟩:Bv) AI AI AI AI AI AI).toArray,.slice none 0 0,.int .i64 0],[]⟩ 8 AGo AGo AGo
      (x:=([.agg [.lit (.int .i64 0),.lit (.int .i64 0),.lit (.bool false),.lit (.string []),.lit (.string []),.lit (.int .i64 0),.nil,.nil,.nil,.nil,.nil,.agg [.lit (.int .i64 0),.lit (.int .i64 0),.lit (.int .i64 0),.lit (.string []),.lit (.string []),.lit (.int .i64 0),.lit (.int .i64 0)],.agg [.lit (.int .i64 0),.lit (.int .i64 0),.lit (.int .i64 0),.lit (.string []),.lit (.string []),.lit (.int .i64 0),.lit (.int .i64 0)],.nil,.lit (.int .i64 0),.lit (.int .i64 0),.lit (.int .i64 0)],.nil,.lit (.int .i64 0)],[],[])) AGo rfl AGo) ?_
  intro W base args Cx gs before PD F5 _ AE _;exact AzY H enc W base args Cx gs before AE PD F5
theorem w2{a b:Bool}(AK:a=true)(Aq:b=true):(a&&b)=true:=by rw[AK,Aq];rfl
set_option maxHeartbeats 40000000 in
theorem AzX:joinedFacts Tryz.prog 4 Tryz.f4 (Rows.OpenSpec.upto Rows.shardStaysSpec).bare Rows.shardStaysUptoRow=true:=by
  unfold joinedFacts;repeat' (with_reducible apply w2)
  all_goals (as_aux_lemma=>kernel_rfl)
theorem Az1:Tryz.prog.funcNamed Rows.shardStaysUptoRow.func=some 4:=AGo
theorem AzZ:Tryz.f4.isInstance Tryz.prog Rows.shardStaysUptoRow.origin Rows.shardStaysUptoRow.targs:=ABA AGo
theorem Az3:Tryz.f4.isWrapper Tryz.prog Rows.shardStaysUptoRow.wrapper Rows.shardStaysUptoRow.mainSum:=by
  unfold Func.isWrapper;rw[AA9 (by decide+kernel)];exact⟨rfl,rfl⟩
theorem Az2:Rows.shardStaysUptoRow.holds Tryz.pinned (Rows.OpenSpec.upto Rows.shardStaysSpec):=
  OpenClaim.holds_of_cond 4 Tryz.f4 rfl rfl rfl rfl rfl rfl rfl ⟨rfl,rfl,rfl,rfl,rfl⟩ rfl rfl rfl rfl rfl Az1 Tryz.func4 AzX AzZ Az3
    (fun os started H enc _ F=>Az0 os started H enc F)
theorem shardStays_holds:Rows.ShardStaysUptoSaid:=Az2
#print axioms shardStays_holds
end
end Go.Proofs.YtalfaopffbkdnaaGreat
