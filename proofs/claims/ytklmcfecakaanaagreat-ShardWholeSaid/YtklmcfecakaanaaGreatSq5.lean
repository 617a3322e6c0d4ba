/- Part 5 of shardWhole_holds. -/
import Derived.OrdersIn
import Derived.RangeFuncNested
import Derived.RangeFuncLeaves
import Derived.Lib.AppendZeros
import Derived.Test.YtklmcfecakaanaaGreatSq4

set_option maxRecDepth 20000
set_option maxHeartbeats 1000000
namespace Go
theorem ABD:∀{x y:Bool},(x||y)=false↔x=false∧y=false:=@Bool.or_eq_false_iff
theorem ACn:∀{α:Type _} {l:List α} {i:Nat} {a:α},List.getD l i a=Option.getD l[i]? a:=@List.getD_eq_getElem?_getD
theorem ACd:∀{α:Type _} {l:List α} {i:Nat},List.length l≤i→l[i]? =none:=@List.getElem?_eq_none
theorem ADd:∀{α:Type _} {l:List α},List.length l=0↔l=[]:=@List.length_eq_zero_iff
theorem AB6:∀{α:Type _} {β:Type _} {b:β} {f:α→β} {l:List α},b∈List.map f l↔∃a,a∈l∧f a=b:=@List.mem_map
theorem ACB:∀{α:Type _} {l:List α},List.take (List.length l) l=l:=@List.take_length
end Go
open Go renaming cell_of_row→AB9
open List renaming getElem?_set_ne→ACT,getElem?_toArray→ACA,getElem_of_mem→AC8,getElem_set→ADQ,length_cons→ABv,length_drop→ACt,length_set→ABj,mem_iff_getElem→AR5,pairwise_iff_getElem→ACW,sum_cons→ADr
open Nat renaming lt_or_gt_of_ne→ASe
open Option renaming map_eq_some_iff→ACr
open Option.some renaming injEq→ABX
open Go.A_
namespace Go.Apw
def Di{α β:Type}(x:α×Bb)(f:α->Bb->β×Bb):β×Bb:=f x.1 x.2
theorem FY{α β:Type}{x:α×Bb}{f:α->Bb->β×Bb}{n:Nat}(h:x.2.pos<=n)(k:∀a s,s.pos<=n->(f a s).2.pos<=n):(Di x f).2.pos<=n:=k _ _ h
theorem FZ{α β:Type}{x:α×Bb}{f:α->Bb->β×Bb}{q:α->Prop}{p:β->Prop}(h:q x.1)(k:∀a s,q a->p (f a s).1):p (Di x f).1:=k _ _ h
theorem cq(nd:List UInt8)(s:Bb):(⟨(Gm nd 65535 s).1.toArray⟩:ByteArray).size<=9223372036854775807:=by
 show(Gm nd 65535 s).1.toArray.size<=_;rw[List.size_toArray];have:=(l6 (nd.drop s.pos) 65535).2.2;simp only[Gm,Lj,Bb.val];split
 · exact ABg _
 split
 · exact ABg _
 omega
theorem W9(nd:List UInt8)(s:Bb):(DT nd 1024 s).1<=1024:=by
 have:=(aa (nd.drop s.pos) 1024).1;simp only[DT,Lj,Bb.val];split
 · omega
 split
 · omega
 omega
theorem sL{α:Type}{nd:List UInt8}{rd:Bb->α×Bb}(h:∀s,s.pos<=nd.length->(rd s).2.pos<=nd.length):∀{n:Nat} {s:Bb},s.pos<=nd.length->(GI rd n s).2.pos<=nd.length
 |0,_,hs=>hs
 |n+1,s,hs=>by
  unfold GI;split
  · exact sL h (h _ hs)
  exact hs
theorem Ij{α:Type}{nd:List UInt8}{rd:Bb->α×Bb}{s:Bb}(h:∀s,s.pos<=nd.length->(rd s).2.pos<=nd.length)(hs:s.pos<=nd.length):(CS nd rd s).2.pos<=nd.length:=sL h (W_ hs)
theorem Ah3{nd:List UInt8}{m:Int}{s:Bb}(h:s.fault≠0):DT nd m s=(0,s):=by
 have h2:(DT nd m s).2=s:=fM (d:=0) (f:=fun l=>L9 l m) h;have Af:(DT nd m s).1=0:=by
  simp only[DT,Lj,Bb.val];rw[AA_ h]
 exact Prod.ext Af h2
theorem Qw{α:Type}{nd:List UInt8}{rd:Bb->α×Bb}{s:Bb}(h:s.fault≠0):CS nd rd s=([],s):=by
 unfold CS;rw[Ah3 h];rfl
theorem Za{α:Type}{rd:Bb->α×Bb}{s:Bb}(h:s.fault≠0)(n:Nat):GI rd n s=([],s):=by
 cases n with
 |zero=>rfl
 |succ n=>unfold GI;rw[if_neg h]
theorem sJ{α:Type}{rd:Bb->α×Bb}{s:Bb}(h:s.fault=0)(n:Nat):GI rd (n+1) s=((rd s).1::(GI rd n (rd s).2).1,(GI rd n (rd s).2).2):=by
 rw[GI,AA_ h]
theorem Y'{α:Type}{rd:Bb->α×Bb}{s:Bb}{N i:Nat}{acc:List α}{R:List α×Bb}(Ag:i<N)(BI:s.fault=0)(he:R=(acc++(GI rd (N-i) s).1,(GI rd (N-i) s).2)):R=((acc++[(rd s).1])++(GI rd (N-(i+1)) (rd s).2).1,(GI rd (N-(i+1)) (rd s).2).2):=by
 rw[he,show N-i=(N-(i+1))+1 by omega,sJ BI];simp
theorem Zg{c:List Value}{o:Nat}{v:Value}(h:o<c.length):(c.set o v)[o]? =some v:=by simp[h]
theorem WJ{nd:List UInt8}{x:Nat}:∀{offs:List Nat} {p:List Value×Bb},x∉offs->(CO nd offs p).1[x]? =p.1[x]?
 |[],_,_=>rfl
 |o::r,p,h=>by
  rw[CO,WJ (fun Ab=>h (ABR _ Ab))];exact ACT (fun e=>h (by subst e;exact ABx ..))
theorem Xi{nd:List UInt8}{x:Nat}:∀{offs:List Nat} {p:List Value×Bb},x∉offs->(Ea nd offs p).1[x]? =p.1[x]?
 |[],_,_=>rfl
 |o::r,p,h=>by
  rw[Ea,Xi (fun Ab=>h (ABR _ Ab))];exact ACT (fun e=>h (by subst e;exact ABx ..))
def E9(nd:List UInt8)(o:Nat)(p:List Value×Bb):List Value×Bb:=(p.1.set o (.bool (Kw nd p.2).1),(Kw nd p.2).2)
def C7{α:Type}(o:Nat)(y:Value)(rd:Bb->α×Bb)(p:List Value×Bb):List Value×Bb:=(p.1.set o y,(rd p.2).2)
def Hy(nd:List UInt8)(o:Nat)(p:List Value×Bb):List Value×Bb:=CO nd [o+3,o+4,o+5] (Ea nd [o+1,o+2] (CO nd [o] p))
def Ga(nd:List UInt8)(o:Nat)(p:List Value×Bb):List Value×Bb:=CO nd [o+5,o+6] (Ea nd [o+3,o+4] (CO nd [o,o+1,o+2] p))
theorem Ik{α:Type}{o:Nat}{y:Value}{rd:Bb->α×Bb}{p:List Value×Bb}{n:Nat}(h:(rd p.2).2.pos<=n):(C7 o y rd p).2.pos<=n:=h
theorem Pw{nd:List UInt8}{o:Nat}{p:List Value×Bb}(h:p.2.pos<=nd.length):(E9 nd o p).2.pos<=nd.length:=sI h
theorem b_{nd:List UInt8}{o:Nat}{p:List Value×Bb}(h:p.2.pos<=nd.length):(Ga nd o p).2.pos<=nd.length:=Hw (MP (Hw h))
def UO(nd:List UInt8)(s:Bb):GC×Bb:=
 Di (D6 nd s) fun He s1=>
 Di (D6 nd s1) fun DP s2=>
 ({A6:=He,Bc:=DP},s2)
theorem Aae{nd:List UInt8}{s:Bb}(h:s.pos<=nd.length):(UO nd s).2.pos<=nd.length:=by
 exact FY (Hb h) fun _ _ h=>FY (Hb h) fun _ _ h=>h
theorem Aaf(nd:List UInt8)(s:Bb):(UO nd s).1.wf:=by
 exact FZ (q:=A') (HL _ _) fun _ _ Bw=>FZ (q:=A') (HL _ _) fun _ _ Af=>⟨Bw,Af⟩
def UM(nd:List UInt8)(s:Bb):F_×Bb:=
 Di (D6 nd s) fun He s1=>
 Di (D6 nd s1) fun DP s2=>
 Di (D6 nd s2) fun EK IK=>
 Di (D6 nd IK) fun FR Jy=>
 ({Ap:=He,As:=DP,DH:=EK,B2:=FR},Jy)
theorem z'{nd:List UInt8}{s:Bb}(h:s.pos<=nd.length):(UM nd s).2.pos<=nd.length:=by
 exact FY (Hb h) fun _ _ h=>FY (Hb h) fun _ _ h=>FY (Hb h) fun _ _ h=>FY (Hb h) fun _ _ h=>h
theorem Aaa(nd:List UInt8)(s:Bb):(UM nd s).1.wf:=by
 exact FZ (q:=A') (HL _ _) fun _ _ Bw=>FZ (q:=A') (HL _ _) fun _ _ Af=>FZ (q:=A') (HL _ _) fun _ _ h2=>FZ (q:=A') (HL _ _) fun _ _ Bo=>⟨Bw,Af,h2,Bo⟩
def Iu(nd:List UInt8)(s:Bb):BD×Bb:=
 Di (D6 nd s) fun He s1=>
 Di (D6 nd s1) fun DP s2=>
 Di (D6 nd s2) fun EK IK=>
 Di (D6 nd IK) fun FR Jy=>
 ({Bn:=He,G0:=DP,DV:=EK,Fc:=FR},Jy)
theorem ik{nd:List UInt8}{s:Bb}(h:s.pos<=nd.length):(Iu nd s).2.pos<=nd.length:=by
 exact FY (Hb h) fun _ _ h=>FY (Hb h) fun _ _ h=>FY (Hb h) fun _ _ h=>FY (Hb h) fun _ _ h=>h
theorem z_(nd:List UInt8)(s:Bb):(Iu nd s).1.wf:=by
 exact FZ (q:=A') (HL _ _) fun _ _ Bw=>FZ (q:=A') (HL _ _) fun _ _ Af=>FZ (q:=A') (HL _ _) fun _ _ h2=>FZ (q:=A') (HL _ _) fun _ _ Bo=>⟨Bw,Af,h2,Bo⟩
def UL(nd:List UInt8)(s:Bb):De×Bb:=
 Di (D6 nd s) fun He s1=>
 Di (D6 nd s1) fun DP s2=>
 Di (D6 nd s2) fun EK IK=>
 Di (D6 nd IK) fun FR Jy=>
 ({Jd:=He,JM:=DP,JJ:=EK,JK:=FR},Jy)
theorem z3{nd:List UInt8}{s:Bb}(h:s.pos<=nd.length):(UL nd s).2.pos<=nd.length:=by
 exact FY (Hb h) fun _ _ h=>FY (Hb h) fun _ _ h=>FY (Hb h) fun _ _ h=>FY (Hb h) fun _ _ h=>h
theorem z4(nd:List UInt8)(s:Bb):(UL nd s).1.wf:=by
 exact FZ (q:=A') (HL _ _) fun _ _ Bw=>FZ (q:=A') (HL _ _) fun _ _ Af=>FZ (q:=A') (HL _ _) fun _ _ h2=>FZ (q:=A') (HL _ _) fun _ _ Bo=>⟨Bw,Af,h2,Bo⟩
def Wc(nd:List UInt8)(s:Bb):FL×Bb:=
 Di (D6 nd s) fun He s1=>
 Di (Gm nd 65535 s1) fun DP s2=>
 Di (Gm nd 65535 s2) fun EK IK=>
 Di (D6 nd IK) fun FR Jy=>
 Di (D6 nd Jy) fun Iz Rw=>
 Di (D6 nd Rw) fun Lv Rx=>
 ({Ca:=He,Al:=⟨DP.toArray⟩,EL:=⟨EK.toArray⟩,B2:=FR,A6:=Iz,Bc:=Lv},Rx)
theorem Aac{nd:List UInt8}{s:Bb}(h:s.pos<=nd.length):(Wc nd s).2.pos<=nd.length:=by
 exact FY (Hb h) fun _ _ h=>FY (Vf h) fun _ _ h=>FY (Vf h) fun _ _ h=>FY (Hb h) fun _ _ h=>FY (Hb h) fun _ _ h=>FY (Hb h) fun _ _ h=>h
theorem Aad(nd:List UInt8)(s:Bb):(Wc nd s).1.wf:=by
 exact FZ (q:=A') (HL _ _) fun _ _ Bw=>FZ (q:=(fun l:List UInt8=>(⟨l.toArray⟩:ByteArray).size<=9223372036854775807)) (cq _ _) fun _ _ Af=>FZ (q:=(fun l:List UInt8=>(⟨l.toArray⟩:ByteArray).size<=9223372036854775807)) (cq _ _) fun _ _ h2=>FZ (q:=A') (HL _ _) fun _ _ Bo=>FZ (q:=A') (HL _ _) fun _ _ BB=>FZ (q:=A') (HL _ _) fun _ _ C'=>⟨Bw,Af,h2,Bo,BB,C'⟩
def L_(nd:List UInt8)(s:Bb):Fs×Bb:=
 Di (D6 nd s) fun He s1=>
 Di (D6 nd s1) fun DP s2=>
 Di (D6 nd s2) fun EK IK=>
 Di (Gm nd 65535 IK) fun FR Jy=>
 Di (Gm nd 65535 Jy) fun Iz Rw=>
 Di (D6 nd Rw) fun Lv Rx=>
 Di (D6 nd Rx) fun KY cv=>
 ({Ev:=He,Hi:=DP,IX:=EK,A6:=⟨FR.toArray⟩,Bc:=⟨Iz.toArray⟩,Ap:=Lv,As:=KY},cv)
def HF(nd:List UInt8)(s:Bb):Df×Bb:=
 Di (D6 nd s) fun He s1=>
 Di (D6 nd s1) fun DP s2=>
 ({Ap:=He,As:=DP},s2)
theorem aF{nd:List UInt8}{s:Bb}(h:s.pos<=nd.length):(HF nd s).2.pos<=nd.length:=by
 exact FY (Hb h) fun _ _ h=>FY (Hb h) fun _ _ h=>h
theorem z8(nd:List UInt8)(s:Bb):(HF nd s).1.wf:=by
 exact FZ (q:=A') (HL _ _) fun _ _ Bw=>FZ (q:=A') (HL _ _) fun _ _ Af=>⟨Bw,Af⟩
def GG(nd:List UInt8)(s:Bb):BL×Bb:=
 Di (D6 nd s) fun He s1=>
 Di (D6 nd s1) fun DP s2=>
 Di (Kw nd s2) fun EK IK=>
 Di (UL nd IK) fun FR Jy=>
 ({Ap:=He,As:=DP,HV:=EK,Cm:=FR},Jy)
theorem UN{nd:List UInt8}{s:Bb}(h:s.pos<=nd.length):(GG nd s).2.pos<=nd.length:=by
 exact FY (Hb h) fun _ _ h=>FY (Hb h) fun _ _ h=>FY (sI h) fun _ _ h=>FY (z3 h) fun _ _ h=>h
theorem o_(nd:List UInt8)(s:Bb):(GG nd s).1.wf:=by
 exact FZ (q:=A') (HL _ _) fun _ _ Bw=>FZ (q:=A') (HL _ _) fun _ _ Af=>FZ (q:=(fun _=>True)) (trivial) fun _ _ h2=>FZ (q:=De.wf) (z4 _ _) fun _ _ Bo=>⟨Bw,Af,h2,Bo⟩
def Hk(nd:List UInt8)(s:Bb):Bx×Bb:=
 Di (D6 nd s) fun He s1=>
 Di (D6 nd s1) fun DP s2=>
 Di (Gm nd 65535 s2) fun EK IK=>
 Di (Gm nd 65535 IK) fun FR Jy=>
 Di (D6 nd Jy) fun Iz Rw=>
 Di (D6 nd Rw) fun Lv Rx=>
 Di (D6 nd Rx) fun KY cv=>
 Di (D6 nd cv) fun OH lu=>
 ({Ap:=He,As:=DP,Al:=⟨EK.toArray⟩,EL:=⟨FR.toArray⟩,B2:=Iz,DN:=Lv,DO:=KY,C3:=OH},lu)
theorem Ye{nd:List UInt8}{s:Bb}(h:s.pos<=nd.length):(Hk nd s).2.pos<=nd.length:=by
 exact FY (Hb h) fun _ _ h=>FY (Hb h) fun _ _ h=>FY (Vf h) fun _ _ h=>FY (Vf h) fun _ _ h=>FY (Hb h) fun _ _ h=>FY (Hb h) fun _ _ h=>FY (Hb h) fun _ _ h=>FY (Hb h) fun _ _ h=>h
theorem z6(nd:List UInt8)(s:Bb):(Hk nd s).1.wf:=by
 exact FZ (q:=A') (HL _ _) fun _ _ Bw=>FZ (q:=A') (HL _ _) fun _ _ Af=>FZ (q:=(fun l:List UInt8=>(⟨l.toArray⟩:ByteArray).size<=9223372036854775807)) (cq _ _) fun _ _ h2=>FZ (q:=(fun l:List UInt8=>(⟨l.toArray⟩:ByteArray).size<=9223372036854775807)) (cq _ _) fun _ _ Bo=>FZ (q:=A') (HL _ _) fun _ _ BB=>FZ (q:=A') (HL _ _) fun _ _ C'=>FZ (q:=A') (HL _ _) fun _ _ F4=>FZ (q:=A') (HL _ _) fun _ _ GY=>⟨Bw,Af,h2,Bo,BB,C',F4,GY⟩
def GX(nd:List UInt8)(s:Bb):BX×Bb:=
 Di (D6 nd s) fun He s1=>
 Di (D6 nd s1) fun DP s2=>
 Di (D6 nd s2) fun EK IK=>
 Di (D6 nd IK) fun FR Jy=>
 Di (D6 nd Jy) fun Iz Rw=>
 Di (Wc nd Rw) fun Lv Rx=>
 ({Ca:=He,Ap:=DP,As:=EK,Bn:=FR,DH:=Iz,AM:=Lv},Rx)
theorem Wd{nd:List UInt8}{s:Bb}(h:s.pos<=nd.length):(GX nd s).2.pos<=nd.length:=by
 exact FY (Hb h) fun _ _ h=>FY (Hb h) fun _ _ h=>FY (Hb h) fun _ _ h=>FY (Hb h) fun _ _ h=>FY (Hb h) fun _ _ h=>FY (Aac h) fun _ _ h=>h
theorem Aar(nd:List UInt8)(s:Bb):(GX nd s).1.wf:=by
 exact FZ (q:=A') (HL _ _) fun _ _ Bw=>FZ (q:=A') (HL _ _) fun _ _ Af=>FZ (q:=A') (HL _ _) fun _ _ h2=>FZ (q:=A') (HL _ _) fun _ _ Bo=>FZ (q:=A') (HL _ _) fun _ _ BB=>FZ (q:=FL.wf) (Aad _ _) fun _ _ C'=>⟨Bw,Af,h2,Bo,BB,C'⟩
def F2(nd:List UInt8)(s:Bb):AD×Bb:=
 Di (Gm nd 65535 s) fun He s1=>
 Di (UO nd s1) fun DP s2=>
 Di (D6 nd s2) fun EK IK=>
 Di (D6 nd IK) fun FR Jy=>
 Di (CS nd (Iu nd) Jy) fun Iz Rw=>
 Di (UM nd Rw) fun Lv Rx=>
 ({Al:=⟨He.toArray⟩,Cs:=DP,BT:=EK,Cn:=FR,A0:=Iz,BG:=Lv},Rx)
theorem Td{nd:List UInt8}{s:Bb}(h:s.pos<=nd.length):(F2 nd s).2.pos<=nd.length:=by
 exact FY (Vf h) fun _ _ h=>FY (Aae h) fun _ _ h=>FY (Hb h) fun _ _ h=>FY (Hb h) fun _ _ h=>FY (Ij (fun _ hh=>ik hh) h) fun _ _ h=>FY (z' h) fun _ _ h=>h
theorem o9(nd:List UInt8)(s:Bb):(F2 nd s).1.wf:=by
 exact FZ (q:=(fun l:List UInt8=>(⟨l.toArray⟩:ByteArray).size<=9223372036854775807)) (cq _ _) fun _ _ Bw=>FZ (q:=GC.wf) (Aaf _ _) fun _ _ Af=>FZ (q:=A') (HL _ _) fun _ _ h2=>FZ (q:=A') (HL _ _) fun _ _ Bo=>FZ (q:=(fun _=>True)) (trivial) fun _ _ BB=>FZ (q:=F_.wf) (Aaa _ _) fun _ _ C'=>⟨Bw,Af,h2,Bo,BB,C'⟩
def FC(nd:List UInt8)(s:Bb):Bv×Bb:=
 Di (D6 nd s) fun He s1=>
 Di (D6 nd s1) fun DP s2=>
 Di (Kw nd s2) fun EK IK=>
 Di (Gm nd 65535 IK) fun FR Jy=>
 Di (Gm nd 65535 Jy) fun Iz Rw=>
 Di (D6 nd Rw) fun Lv Rx=>
 Di (CS nd (F2 nd) Rx) fun KY cv=>
 Di (CS nd (GG nd) cv) fun OH lu=>
 Di (CS nd (GX nd) lu) fun VN AiW=>
 Di (CS nd (Hk nd) AiW) fun wH AiQ=>
 Di (CS nd (HF nd) AiQ) fun wx s4=>
 Di (L_ nd s4) fun wy s5=>
 Di (L_ nd s5) fun wz AiR=>
 Di (Gm nd 65535 AiR) fun hd AiS=>
 Di (D6 nd AiS) fun wA AiT=>
 Di (D6 nd AiT) fun wB AiU=>
 Di (D6 nd AiU) fun wC AiV=>
 ({CZ:=He,DX:=DP,Du:=EK,A6:=⟨FR.toArray⟩,Bc:=⟨Iz.toArray⟩,Dn:=Lv,Aj:=KY,Bz:=OH,AA:=VN,Bj:=wH,CX:=wx,Bt:=wy,CW:=wz,Cf:=hd,Jc:=wA,JL:=wB,GW:=wC},AiV)
def IP:Bv:=({CZ:=0,DX:=0,Du:=false,A6:=ByteArray.empty,Bc:=ByteArray.empty,Dn:=0,Aj:=[],Bz:=[],AA:=[],Bj:=[],CX:=[],Bt:=({Ev:=0,Hi:=0,IX:=0,A6:=ByteArray.empty,Bc:=ByteArray.empty,Ap:=0,As:=0}:Fs),CW:=({Ev:=0,Hi:=0,IX:=0,A6:=ByteArray.empty,Bc:=ByteArray.empty,Ap:=0,As:=0}:Fs),Cf:=[],Jc:=0,JL:=0,GW:=0}:Bv)
theorem dd:IP.wf:=⟨⟨ARp,ARp⟩,⟨ARp,ARp⟩,trivial,ARp,ARp,⟨ARp,ARp⟩,trivial,trivial,trivial,trivial,trivial,⟨⟨ARp,ARp⟩,⟨ARp,ARp⟩,⟨ARp,ARp⟩,ARp,ARp,⟨ARp,ARp⟩,⟨ARp,ARp⟩⟩,⟨⟨ARp,ARp⟩,⟨ARp,ARp⟩,⟨ARp,ARp⟩,ARp,ARp,⟨ARp,ARp⟩,⟨ARp,ARp⟩⟩,trivial,⟨ARp,ARp⟩,⟨ARp,ARp⟩,⟨ARp,ARp⟩⟩
def Lm(b:List UInt8):Bv:=if 65536<b.length then IP else(FC b ⟨0,0⟩).1
def NF(b:List UInt8):Int:=if 65536<b.length then 22 else Q0 b (FC b ⟨0,0⟩).2
def Er(b:List UInt8):Bv×Int:=if NF b≠0 then(IP,NF b)else(Lm b,0)
theorem lY{b:List UInt8}(h:65536<b.length):Lm b=IP:=AA_ h
theorem gn{b:List UInt8}(h:¬65536<b.length):Lm b=(FC b ⟨0,0⟩).1:=AA9 h
theorem zn{b:List UInt8}(h:65536<b.length):NF b=22:=AA_ h
theorem oM{b:List UInt8}(h:¬65536<b.length):NF b=Q0 b (FC b ⟨0,0⟩).2:=AA9 h
theorem k8{b:List UInt8}(h:NF b≠0):Er b=(IP,NF b):=AA_ h
theorem fN{b:List UInt8}(h:NF b=0):Er b=(Lm b,0):=AA9 (not_not_intro h)
def Zj(s:Bv):Bool:= !Ih s.CZ|| !X1 [s.DX,s.Dn,s.Jc,s.JL,s.GW]|| !YZ s|| !VP s
def Zk(s:Bv):Bool:= !decide (IA (Fg s.Bz)=0)|| !decide (IA (Is s.Bj)=0)|| !decide (IA (HE s.CX)=0)||decide ((s.AA.length:Int)>8)
def Xe(s:Bv):Bool:=(!decide (s.Bt=⟨0,0,0,ByteArray.empty,ByteArray.empty,0,0⟩))&&(!LK s.Bt|| !decide (s.Bt.Hi=s.CZ)|| !decide (s.Bt.Bc=s.Bc)|| !F' s s.Bt.A6)
def lW(s:Bv):Bool:=LK s.CW&&decide (s.CW.Hi=s.CZ)&&decide ((Er s.Cf).2=0)
def gm(s:Bv):Bool:=allI s.AA.length (fun j=>Mr s (s.AA.getD j default))
def LN(s:Bv):Bool:=if Zj s=true then false else if Zk s=true then false else if gm s=true then(if Xe s=true then false else if decide (s.CW=⟨0,0,0,ByteArray.empty,ByteArray.empty,0,0⟩)=true then decide ((s.Cf.length:Int)=0)else lW s)else false
structure wm where
 Bc:Int
 A6:Int
 deriving DecidableEq,Inhabited
@[reducible] def AuI(x:wm):List Value:=[.int .i64 x.Bc,.int .u64 x.A6]
@[reducible] def wide(S:Int):wm:=⟨S / 18446744073709551616,S % 18446744073709551616⟩
def mW(S:Int):Prop:= -1329227995784915872903807060280344576<=S/\S<=1329227995784915872903807060280344576
def gV(S:Int):Prop:= -1298074214633706907132624082305024<=S/\S<=1298074214633706907132624082305024
theorem gV.w{S:Int}(h:gV S):mW S:=by unfold gV at h;unfold mW;omega
theorem AAn{S n:Int}(h:n<0)(Ao:A' n):(⟨S / 18446744073709551616+(S % 18446744073709551616+n % 18446744073709551616+0) / 18446744073709551616-1,(S % 18446744073709551616+n % 18446744073709551616+0) % 18446744073709551616⟩:wm)=wide (S+n):=by
 obtain⟨Af,h2⟩:=Ao;simp only[wide,wm.mk.injEq];omega
theorem AAo{S n:Int}(h:¬n<0)(Ao:A' n):(⟨S / 18446744073709551616+(S % 18446744073709551616+n % 18446744073709551616+0) / 18446744073709551616,(S % 18446744073709551616+n % 18446744073709551616+0) % 18446744073709551616⟩:wm)=wide (S+n):=by
 obtain⟨Af,h2⟩:=Ao;simp only[wide,wm.mk.injEq];omega
theorem AwG{x y:wm}(h:x=y):Value.agg (AuI x).toArray=Value.agg (AuI y).toArray:=by rw[h]
theorem M9{S:Int}(_:mW S):((decide (S / 18446744073709551616=0)&&decide (S % 18446744073709551616<9223372036854775808))||(decide (S / 18446744073709551616= -1)&&decide (S % 18446744073709551616>=9223372036854775808)))=J3 S:=by
 rw[ACy];simp only[J3,ABk,ABb,ABa];omega
theorem Az_{l:List Int}(h:nb l)(_:l.length<=1000):∀i,i<=l.length-> -((i:Int)*9223372036854775808)<=(l.take i).sum/\(l.take i).sum<=(i:Int)*9223372036854775808:=by
 intro i;induction i with
 |zero=>simp
 |succ i Cg=>
  intro Ag;have hs:=AjZ (l:=l) (i:=i) AMT;obtain⟨DP,EK⟩:=Cg AMT;obtain⟨SJ,Ug⟩:=Aau h (i:=i) AMT;rw[hs];omega
def So(f:BD->Int)(b:Int)(l:List BD):Nat->List Int
 |0=>[b]
 |i+1=>So f b l i++[f (l.getD i default)]
theorem bC(f:BD->Int)(b:Int)(l:List BD):∀i,(So f b l i).length=i+1
 |0=>rfl
 |i+1=>by simp[So,bC f b l i]
theorem G3{α:Type}[Inhabited α]{l:List α}{i:Nat}(h:i<l.length):l.getD i default=l[i]:=by simp[List.getD,ABs h]
theorem j3(f:BD->Int)(b:Int)(l:List BD):∀i,i<=l.length->(So f b l i).sum=b+((l.take i).map f).sum
 |0,_=>by simp[So]
 |i+1,h=>by
  have Cg:=j3 f b l i AMT;rw[So,List.sum_append_int,Cg,List.take_add_one,ABs AMT,G3 AMT,List.map_append,List.sum_append_int];simp only[Option.toList_some,AB8,List.map_nil,ADr,List.sum_nil];omega
theorem sum_neg(f:BD->Int):∀l:List BD,(l.map fun h=> -f h).sum= -(l.map f).sum
 |[]=>rfl
 |h::r=>by
  simp only[AB8,ADr,sum_neg f r];omega
theorem AdN(a:AD):(So (fun h=>h.DV) a.BT a.A0 a.A0.length).sum=I7 a:=by
 rw[j3 _ _ _ _ (ABW _),ACB];rfl
theorem AdM(a:AD):(So (fun h=> -h.Fc) a.BT a.A0 a.A0.length).sum=IU a:=by
 rw[j3 _ _ _ _ (ABW _),ACB,sum_neg];show a.BT+ -(a.A0.map fun h=>h.Fc).sum=a.BT-(a.A0.map fun h=>h.Fc).sum;omega
theorem Wy{l:List BD}(hh:LI l=true){i:Nat}(Ag:i<l.length):Nh (fun k=>(l.getD k default).Bn) i<(l.getD i default).Bn/\(l.getD i default).Bn<=5/\1<=(l.getD i default).G0/\0<=(l.getD i default).DV/\0<=(l.getD i default).Fc:=by
 have h:=Nz.1 hh i Ag;simp only[eU,ABe,ABD,ABl]at h;omega
theorem jx{l:List BD}(hh:LI l=true):∀i,i<l.length->(i:Int)+1<=(l.getD i default).Bn
 |0,Ag=>by
  have:=(Wy hh Ag).1;simp only[Nh]at this;omega
 |i+1,Ag=>by
  have:=(Wy hh Ag).1;have Cg:=jx hh i AMT;simp only[Nh]at this;omega
theorem PC{l:List BD}(hh:LI l=true):l.length<=5:=by
 rcases Nat.eq_zero_or_pos l.length with h|h
 · omega
 have Af:=jx hh (l.length-1) AMT;have h2:=(Wy hh (i:=l.length-1) AMT).2.1;omega
theorem LU:A' 0:=⟨ARp,ARp⟩
def Fj:AD:=⟨ByteArray.empty,⟨0,0⟩,0,0,[],⟨0,0,0,0⟩⟩
def Sq(k:ByteArray):AD:=⟨if Ix k=true then k else ByteArray.empty,⟨0,0⟩,0,0,[],⟨0,0,0,0⟩⟩
theorem rI(k:ByteArray):(Sq k).wf:=by
 refine⟨?_,⟨LU,LU⟩,LU,LU,trivial,LU,LU,LU,LU⟩;show(if Ix k=true then k else ByteArray.empty).size<=_;split
 · rename_i h;simp only[Ix,ABb,ABa]at h;omega
 decide
def kd(k:ByteArray):Int:=if Ix k=true then 0 else 1
def mV:FL:=⟨0,ByteArray.empty,ByteArray.empty,0,0,0⟩
theorem vF:A' 1:=⟨ARp,ARp⟩
theorem vw:Fs.wf ⟨0,0,0,ByteArray.empty,ByteArray.empty,0,0⟩:=⟨LU,LU,LU,ARp,ARp,LU,LU⟩
def F8(n:Int):Bv:=⟨if Ih n=true then n else 0,0,Ih n&&decide (n=1),ByteArray.empty,ByteArray.empty,if Ih n=true then(if n=1 then 1 else 0)else 0,[],[],[],[],[],⟨0,0,0,ByteArray.empty,ByteArray.empty,0,0⟩,⟨0,0,0,ByteArray.empty,ByteArray.empty,0,0⟩,[],0,0,0⟩
theorem Aeq{n:Int}(h:A' n):(F8 n).wf:=by
 refine⟨?_,LU,trivial,(by show ByteArray.empty.size<=_;decide),(by show ByteArray.empty.size<=_;decide),?_,trivial,trivial,trivial,trivial,trivial,vw,vw,trivial,LU,LU,LU⟩
 · show A' (if Ih n=true then n else 0);split
   · exact h
   exact LU
 show A' (if Ih n=true then(if n=1 then 1 else 0)else 0);split
 · split
   · exact vF
   exact LU
 exact LU
end Go.Apw
namespace Go.A_
open Go.RowKit
structure mZ (NT b:Nat) (A B:World):Prop where
 size:A.heap.size<=B.heap.size
 block:∀k,k<NT->k≠b->B.heap[k]? =A.heap[k]?
theorem Below.I3{NT b:Nat}{A B:World}(h:Below NT A B):mZ NT b A B:=⟨h.size,fun k AE _=>h.block k AE⟩
theorem C8.I3{NT b:Nat}{M:List Nat}{A B:World}(h:C8 M A B)(Ao:NT<=A.heap.size)(UU:∀k,k<NT->k∈M->k=b):mZ NT b A B:=
 ⟨h.size,fun k AE Aq=>h.block k (ACp AE Ao) (fun hm=>Aq (UU k AE hm))⟩
def mk(k:Nat):Deferred:={target:=.collected k,args:= #[]}
section
def JI:Value->Nat->Value
 | .slice (some a) _ _,o=>.pointer (some (a.add o))
 |_,_=>undef
theorem T0:∀(us cs:List Value) (o j:Nat),o+us.length<=cs.length->(MO cs o us)[j]? =if o<=j/\j<o+us.length then us[j-o]? else cs[j]?
 |[],cs,o,j,_=>by
  rw[MO,AA9 (by simp)]
 |u::us,cs,o,j,h=>by
  simp only[ABv]at h;rw[MO,T0 us (cs.set o u) (o+1) j (by simp;omega)];by_cases Af:o+1<=j/\j<o+1+us.length
  · rw[AA_ Af,AA_ (by simp only[ABv];omega),show j-o=(j-(o+1))+1 by omega];rfl
  rw[AA9 Af];by_cases h2:j=o
  · subst h2;rw[AA_ (by simp),ACP AMT];simp
  rw[AA9 (by simp only[ABv];omega),ACT (Ne.symm h2)]
theorem cE:∀(us cs:List Value) (o:Nat),(MO cs o us).length=cs.length
 |[],_,_=>rfl
 |_::us,cs,o=>by rw[MO,cE us];simp
theorem Vj{α:Type}[r:Be α]{S:Nat->Prop}{w:World}{e:TypeId}{v:Value}{xs:List α}(h:(row e v xs).holds S w)(Ab:xs≠[]):
 ∃(g cap:Nat) (cs:List Value) (Cy:List (List Value)),v=.slice (some ⟨g,0,none⟩) xs.length cap/\w.heap[g]? =some (.cells cs.toArray e (0,0))/\xs.length<=cap/\cap<=maxLen/\cs.length=cap*Be.size α/\cs.take (xs.length*Be.size α)=Cy.flatten/\HM S w Cy xs/\xs.length<=140737488355328:=by
 obtain⟨Cy,G8,Ep,AN⟩:=h;rcases G8.2 with⟨_,Ao⟩|⟨g,cap,cur,BC,_,CK,Bm,hm,hs,Av⟩
 · exact absurd (ADd.1 Ao) Ab
 exact⟨g,cap,cur.toList,Cy,BC,by simpa using CK,Bm,hm,by simpa using hs,Av,Ep,AN⟩
theorem ct{w:World}{g:Nat}{e:TypeId}{cs RX:List Value}{k:Nat}(CK:w.heap[g]? =some (.cells cs.toArray e (0,0)))(Av:cs.take k=RX):Lt w g 0 RX:=fun j u Ay=>by
 subst Av;rw[ACl]at Ay;split at Ay
 · rw[AB9 w g _ _ e (0,0) CK];simpa using Ay
 cases Ay
section
variable{c:Cj} {ops:Array Oper} {J:Cj->Array Oper->List Oper->Env->Own->List Atom->Prop} [Dr:Ip J] {env:Env} {L:Own} {D:List Atom} {rest:List Oper} {d:Nat} {v:Value} {t:TypeId} {p:String} {af:Array Edge} {x y z:Operand} {T:TypeId}
include Dr
theorem AcX{α:Type}{r:Be α}(i:Nat){xs:List α}{m:Int}{E e:TypeId}(Ab:AL env x=some v)(Ag:L[i]? =some (@row α r e v xs))(Bf:AL env y=some (.int .i64 m))(Av:H5 c.P T E r.size)(Bw:0<=m)(Af:m<(xs.length:Int))(Ao:Nat.blt d c.n=true)
 (k:J c ops rest ((d,JI v (m.toNat*r.size))::env) L D):J c ops (⟨some d,.indexAddr T x y,t,p,af,none⟩::rest) env L D:=
 Dr.read (σ:=Unit) rfl rfl (fun _=>(d,JI v (m.toNat*r.size))::env) (fun _=>D) (fun a w f st AR=>by
  obtain⟨g,cap,cs,Cy,rfl,_⟩:=@Vj α r _ _ _ _ _ (st.own _ (AA' Ag)) (by intro e;rw[e]at Af;simp at Af;omega);obtain⟨j,Ay,hs⟩:=ACr.1 Av.2;refine⟨(),_,fun AT HW=>?_,f.put _ (EU Ao),AR⟩;simp[execOp,f.AL Ab,f.AL Bf,Instr.indexAt,asIntOf,ABQ Av.1,Bw,Af,sizeOf,typeInfo,Ay,hs,JI]) (fun _=>k)
theorem Qk{α:Type}{s:Shape α}(i m:Nat){xs:List α}{ov:α}{e:TypeId}(Ab:AL env x=some (JI v (m*s.size)))(Ag:L[i]? =some (@row α (Be.D5 s) e v xs))(hm:xs[m]? =some ov){E:TypeId}(Av:Oc c.P E s.size)(Ao:Nat.blt d c.n=true)
 (k:∀h,s.wf ov->J c ops rest ((d,.agg (s.cells ov h).toArray)::env) L ((@Atom.mk α (Be.D5 s) (.agg (s.cells ov h).toArray) ov)::(s.sub ov h++D))):
 J c ops (⟨some d,.load E x,t,p,af,none⟩::rest) env L D:=
 Dr.read (σ:={h // s.wf ov}) rfl rfl (fun h=>(d,.agg (s.cells ov h.1).toArray)::env) (fun h=>(@Atom.mk α (Be.D5 s) (.agg (s.cells ov h.1).toArray) ov)::(s.sub ov h.1++D)) (fun a w f st AR=>by
  have Hv:=AA' Ag;obtain⟨g,cap,cs,Cy,rfl,CK,_,_,_,Md,Ep,_⟩:=@Vj α (Be.D5 s) _ _ _ _ _ (st.own _ Hv) (by intro e;rw[e]at hm;simp at hm);obtain⟨Cx,⟨h,rfl,Lc,Oi⟩,AN⟩:=@PH α (Be.D5 s) _ _ _ Cy xs 0 Ep (ct CK Md) m ov hm;have P':g∈L.nd:=FW.2 ⟨_,Hv,by simp[Value.ownBlock]⟩;refine⟨⟨h,Oi⟩,.agg (s.cells ov h).toArray,fun AT hs=>?_,f.put _ (EU Ao),BP.cons ⟨rfl,⟨h,by simp[Value.cells],Lc,Oi⟩⟩ (BP.app (fun t Av=>Lc t Av) AR)⟩;have Sc:Lt AT g (0+m*s.size) (s.cells ov h):=AN.DY (hs.block g (TD CK) (by simp));have Ek:=fU (P:=c.P) (T:=E) (b:=g) (o:=0+m*s.size) (cs:=s.cells ov h) (by rw[s.len];exact Av) Sc;have HX:=f.AL Ab;simp only[JI,ACm,AB0]at HX Ek;simp[execOp,HX,Ek]) (fun h=>k h.1 h.2)
end
section
variable{c:Cj} {ops:Array Oper} {Q:AuE} {env:Env} {L:Own} {D:List Atom} {rest:List Oper} {v:Value} {t:TypeId} {p:String} {af:Array Edge} {x y z:Operand}
theorem Qz{α:Type}{s:Shape α}(i m:Nat){xs:List α}{ov:α}{e:TypeId}(h:s.H)(Ab:AL env x=some (JI v (m*s.size)))(Bf:AL env y=some (.agg (s.cells ov h).toArray))(Ag:L[i]? =some (@row α (Be.D5 s) e v xs))(hm:m<xs.length){E:TypeId}(Av:Oc c.P E s.size)(Cl:Bg (s.sub ov h) D)(hw:s.wf ov)
 (k:Cb Q c ops rest env (L.set i (@row α (Be.D5 s) e v (xs.set m ov))) D):Cb Q c ops (⟨none,.store E x y,t,p,af,none⟩::rest) env L D:=by
 refine c6 (env':=env) rfl rfl (fun a w f st AR=>?_) k;have Hv:=AA' Ag;obtain⟨g,cap,cs,Cy,rfl,CK,Bm,Yt,EY,Md,Ep,hlen⟩:=@Vj α (Be.D5 s) _ _ _ _ _ (st.own _ Hv) (by intro e;rw[e]at hm;simp at hm);have Fy:@Be.size α (Be.D5 s)=s.size:=rfl;rw[Fy]at EY Md;obtain⟨us,I1⟩:∃us,us=s.cells ov h:=⟨_,rfl⟩;have e0:us.length=s.size:=by rw[I1];exact s.len ov h
 have P':g∈L.nd:=FW.2 ⟨_,Hv,by simp[Value.ownBlock]⟩;have Sd:(m+1)*s.size<=cap*s.size:=ACw _ AMT;rw[ACX]at Sd;have Lc:∀t∈s.sub ov h,t.holds (Et L.nd w) w:=fun t Av=>AR t (Cl t Av);have Ab7:us.toArray.all (·.oneCell')=true:=by
  rw[I1];simpa using s.one ov h Lc
 have hs:C8 [g] w (w.setCells g (m*s.size) us):=cG g us _ w;have Mc:=aU us cs (m*s.size) w CK;have EX:C8 (@row α (Be.D5 s) e (.slice (some ⟨g,0,none⟩) xs.length cap) xs).nd w (w.setCells g (m*s.size) us):=hs.mono fun b Aq=>by simpa[Value.ownBlock]using Aq
 have UW:∀b,Et L.nd w b->Et (Own.nd (L.set i (@row α (Be.D5 s) e (.slice (some ⟨g,0,none⟩) xs.length cap) (xs.set m ov)))) (w.setCells g (m*s.size) us) b:=fun b Aq=>⟨ACp Aq.1 hs.size,fun Ab=>by
  rcases OK Ag b Ab with Af|Af
  · have:b=g:=(by simpa[Value.ownBlock]using Af);exact Aq.2 (this▸P')
  exact Aq.2 Af⟩
 have UT:∀b,Et L.nd w b->(w.setCells g (m*s.size) us).heap[b]? =w.heap[b]? :=fun b Aq=>hs.block b Aq.1 (fun Ab=>by
  have:b=g:=(by simpa using Ab);exact Aq.2 (this▸P'))
 have Gg:=st.KB (p':=@row α (Be.D5 s) e (.slice (some ⟨g,0,none⟩) xs.length cap) (xs.set m ov)) i Ag EX ?_ (by simp[Value.ownBlock]) (fun b Aq=>.inl Aq)
 · have R_:=AR.KB (p':=@row α (Be.D5 s) e (.slice (some ⟨g,0,none⟩) xs.length cap) (xs.set m ov)) i Ag EX (fun b Aq=>.inl Aq);refine⟨w.setCells g (m*s.size) us,?_,f.Su _,Gg,R_⟩;have Ek:=run_storeAt_mid (P:=c.P) w g (m*s.size) E us.toArray (fun j Ay=>by
    have J9:m*s.size+j<cs.length:=(by simp at Ay;omega);exact⟨by rw[AB9 w g _ _ e (0,0) CK];simp[ABs J9],frozen_of_row w g _ _ e CK⟩) (by rw[show us.toArray.size=s.size by simpa using e0];exact Av.2) Ab7
   have HX:=f.AL Ab;simp only[JI,ACm,AB0]at HX;have U6:=f.AL Bf;rw[<-I1]at U6;simp[execOp,HX,U6,Ek]
 -- the row as it is now
 have a7:∀FV MT,(xs.set m ov)[FV]? =some MT->∃Cx,@Be.rd α (Be.D5 s) (Et (Own.nd (L.set i (@row α (Be.D5 s) e (.slice (some ⟨g,0,none⟩) xs.length cap) (xs.set m ov)))) (w.setCells g (m*s.size) us)) (w.setCells g (m*s.size) us) Cx MT/\Lt (w.setCells g (m*s.size) us) g (0+(0+FV)*s.size) Cx:=by
  intro FV MT HX;by_cases Sb:FV=m
  · subst Sb;rw[ACP hm]at HX;have:MT=ov:=(by simpa using HX.symm);subst this;refine⟨us,⟨h,I1,fun t Av=>Atom.DY (Lc t Av) UW UT,hw⟩,fun j u Ay=>?_⟩;have J9:j<us.length:=(ABF.1 Ay).1;simp only[AB0];rw[AB9 _ g _ _ e (0,0) Mc,ACA,T0 us cs _ _ AMT,AA_ AMT,show FV*s.size+j-FV*s.size=j by omega];exact Ay
  rw[ACT (Ne.symm Sb)]at HX;obtain⟨Cx,K',OT⟩:=@PH α (Be.D5 s) _ _ _ Cy xs 0 Ep (ct CK Md) FV MT HX;have LH:Cx.length=s.size:=@Be.len α (Be.D5 s) _ _ _ _ K';refine⟨Cx,@Be.DY α (Be.D5 s) _ _ _ _ _ _ K' UW UT,fun j u Ay=>?_⟩;have J9:j<Cx.length:=(ABF.1 Ay).1;have hold:=OT j u Ay;simp only[AB0]at hold ⊢;rw[AB9 w g _ _ e (0,0) CK,ACA]at hold;rw[AB9 _ g _ _ e (0,0) Mc,ACA,T0 us cs _ _ AMT,AA9 ?_]
  · exact hold
  rcases ASe Sb with C_|C_
  · have:=ACw s.size (show FV+1<=m by omega);rw[ACX]at this;omega
  have:=ACw s.size (show m+1<=FV by omega);rw[ACX]at this;omega
 obtain⟨RP,NL,Sc⟩:=@cn α (Be.D5 s) _ _ g 0 (xs.set m ov) 0 a7;have FF:=@HM.len α (Be.D5 s) _ _ RP _ NL;rw[Fy,ABj]at FF;refine⟨RP,⟨by rw[ABj];exact FF,.inr ⟨g,cap,(MO cs (m*s.size) us).toArray,by rw[ABj],ABg _,Mc,by rw[ABj];exact Bm,Yt,(show(MO cs (m*s.size) us).toArray.size=cap*s.size by simpa[cE]using EY),?_⟩⟩,NL,by rw[ABj];exact hlen⟩;rw[ABj];show List.take (xs.length*s.size) _=RP.flatten;refine List.ext_getElem? fun j=>?_;by_cases Ay:j<xs.length*s.size
 · rw[ACl,AA_ Ay];have U2:j<RP.flatten.length:=(by rw[FF];exact Ay);have:=Sc j _ (ABs U2);rw[AB9 _ g _ _ e (0,0) Mc,ACA]at this;rw[ABs U2,<-this];simp
 rw[ACd (by simp;omega),ACd AMT]
end
end
section
section
variable{α:Type} [Inhabited α]
variable(lt:α->α->Bool)
def search(f:Nat->Bool):Nat->Nat->Nat->Nat
 |0,i,_=>i
 |n+1,i,j=>if i<j then(if f ((i+j) / 2)=true then search f n ((i+j) / 2+1) j else search f n i ((i+j) / 2))else i
theorem lI(f:Nat->Bool):∀(n i j:Nat),i<=j->i<=search f n i j/\search f n i j<=j
 |0,i,j,h=>⟨ABW _,h⟩
 |n+1,i,j,h=>by
  rw[search];split
  · rename_i Ag;split
    · have:=lI f n ((i+j) / 2+1) j AMT;omega
    have:=lI f n i ((i+j) / 2) AMT;omega
  omega
theorem lG(f:Nat->Bool)(n i j:Nat)(h:j<=i):search f n i j=i:=by
 cases n
 · rfl
 rw[search,AA9 AMT]
end
end
open Go.RowKit
section
theorem AiH{α:Type}{s:Shape α}{c:Cj}{w AT:World}{L:Own}{D:List Atom}(i m:Nat){xs:List α}{ov:α}{e:TypeId}{g cap:Nat}{cs:List Value}(h:s.H)(Ag:L[i]? =some (@row α (Be.D5 s) e (.slice (some ⟨g,0,none⟩) xs.length cap) xs))(hm:m<xs.length)(Cl:Bg (s.sub ov h) D)(hw:s.wf ov)
 (st:CI c.BW c.M w L)(AR:BP D w L)(CK:w.heap[g]? =some (.cells cs.toArray e (0,0)))(hs:C8 [g] w AT)(Mc:AT.heap[g]? =some (.cells (MO cs (m*s.size) (s.cells ov h)).toArray e (0,0))):
 CI c.BW c.M AT (L.set i (@row α (Be.D5 s) e (.slice (some ⟨g,0,none⟩) xs.length cap) (xs.set m ov)))/\BP D AT (L.set i (@row α (Be.D5 s) e (.slice (some ⟨g,0,none⟩) xs.length cap) (xs.set m ov))):=by
 have Hv:=AA' Ag;obtain⟨Hj,AmJ,yo,Cy,Rh,pF,Bm,Yt,EY,Md,Ep,hlen⟩:=@Vj α (Be.D5 s) _ _ _ _ _ (st.own _ Hv) (by intro e;rw[e]at hm;simp at hm);simp only[Value.slice.injEq,ABX,Addr.mk.injEq,and_true,true_and]at Rh;obtain⟨rfl,rfl⟩:=Rh;rw[CK]at pF;have I0:cs=yo:=by simpa using pF
 subst I0;have Fy:@Be.size α (Be.D5 s)=s.size:=rfl;rw[Fy]at EY Md;obtain⟨us,I1⟩:∃us,us=s.cells ov h:=⟨_,rfl⟩;have e0:us.length=s.size:=by rw[I1];exact s.len ov h
 rw[<-I1]at Mc;have P':g∈L.nd:=FW.2 ⟨_,Hv,by simp[Value.ownBlock]⟩;have Sd:(m+1)*s.size<=cap*s.size:=ACw _ AMT;rw[ACX]at Sd;have Lc:∀t∈s.sub ov h,t.holds (Et L.nd w) w:=fun t Av=>AR t (Cl t Av);have EX:C8 (@row α (Be.D5 s) e (.slice (some ⟨g,0,none⟩) xs.length cap) xs).nd w AT:=hs.mono fun b Aq=>by simpa[Value.ownBlock]using Aq
 have UW:∀b,Et L.nd w b->Et (Own.nd (L.set i (@row α (Be.D5 s) e (.slice (some ⟨g,0,none⟩) xs.length cap) (xs.set m ov)))) AT b:=fun b Aq=>⟨ACp Aq.1 hs.size,fun Ab=>by
  rcases OK Ag b Ab with Af|Af
  · have:b=g:=(by simpa[Value.ownBlock]using Af);exact Aq.2 (this▸P')
  exact Aq.2 Af⟩
 have UT:∀b,Et L.nd w b->AT.heap[b]? =w.heap[b]? :=fun b Aq=>hs.block b Aq.1 (fun Ab=>by
  have:b=g:=(by simpa using Ab);exact Aq.2 (this▸P'))
 refine⟨st.KB (p':=@row α (Be.D5 s) e (.slice (some ⟨g,0,none⟩) xs.length cap) (xs.set m ov)) i Ag EX ?_ (by simp[Value.ownBlock]) (fun b Aq=>.inl Aq),AR.KB (p':=@row α (Be.D5 s) e (.slice (some ⟨g,0,none⟩) xs.length cap) (xs.set m ov)) i Ag EX (fun b Aq=>.inl Aq)⟩;have a7:∀FV MT,(xs.set m ov)[FV]? =some MT->∃Cx,@Be.rd α (Be.D5 s) (Et (Own.nd (L.set i (@row α (Be.D5 s) e (.slice (some ⟨g,0,none⟩) xs.length cap) (xs.set m ov)))) AT) AT Cx MT/\Lt AT g (0+(0+FV)*s.size) Cx:=by
  intro FV MT HX;by_cases Sb:FV=m
  · subst Sb;rw[ACP hm]at HX;have:MT=ov:=(by simpa using HX.symm);subst this;refine⟨us,⟨h,I1,fun t Av=>Atom.DY (Lc t Av) UW UT,hw⟩,fun j u Ay=>?_⟩;have J9:j<us.length:=(ABF.1 Ay).1;simp only[AB0];rw[AB9 _ g _ _ e (0,0) Mc,ACA,T0 us cs _ _ AMT,AA_ AMT,show FV*s.size+j-FV*s.size=j by omega];exact Ay
  rw[ACT (Ne.symm Sb)]at HX;obtain⟨Cx,K',OT⟩:=@PH α (Be.D5 s) _ _ _ Cy xs 0 Ep (ct CK Md) FV MT HX;have LH:Cx.length=s.size:=@Be.len α (Be.D5 s) _ _ _ _ K';refine⟨Cx,@Be.DY α (Be.D5 s) _ _ _ _ _ _ K' UW UT,fun j u Ay=>?_⟩;have J9:j<Cx.length:=(ABF.1 Ay).1;have hold:=OT j u Ay;simp only[AB0]at hold ⊢;rw[AB9 w g _ _ e (0,0) CK,ACA]at hold;rw[AB9 _ g _ _ e (0,0) Mc,ACA,T0 us cs _ _ AMT,AA9 ?_]
  · exact hold
  rcases ASe Sb with C_|C_
  · have:=ACw s.size (show FV+1<=m by omega);rw[ACX]at this;omega
  have:=ACw s.size (show m+1<=FV by omega);rw[ACX]at this;omega
 obtain⟨RP,NL,Sc⟩:=@cn α (Be.D5 s) _ _ g 0 (xs.set m ov) 0 a7;have FF:=@HM.len α (Be.D5 s) _ _ RP _ NL;rw[Fy,ABj]at FF;refine⟨RP,⟨by rw[ABj];exact FF,.inr ⟨g,cap,(MO cs (m*s.size) us).toArray,by rw[ABj],ABg _,Mc,by rw[ABj];exact Bm,Yt,(show(MO cs (m*s.size) us).toArray.size=cap*s.size by simpa[cE]using EY),?_⟩⟩,NL,by rw[ABj];exact hlen⟩;rw[ABj];show List.take (xs.length*s.size) _=RP.flatten;refine List.ext_getElem? fun j=>?_;by_cases Ay:j<xs.length*s.size
 · rw[ACl,AA_ Ay];have U2:j<RP.flatten.length:=(by rw[FF];exact Ay);have:=Sc j _ (ABs U2);rw[AB9 _ g _ _ e (0,0) Mc,ACA]at this;rw[ABs U2,<-this];simp
 rw[ACd (by simp;omega),ACd AMT]
section
variable{c:Cj} {ops:Array Oper} {J:Cj->Array Oper->List Oper->Env->Own->List Atom->Prop} [Dr:Ip J] {env:Env} {L:Own} {D:List Atom} {rest:List Oper} {d:Nat} {v:Value} {t:TypeId} {p:String} {af:Array Edge} {x y z:Operand} {T:TypeId}
include Dr
theorem IF{α:Type}{r:Be α}(i n:Nat){xs:List α}{m:Int}{E e:TypeId}(Ab:AL env x=some v)(Ag:L[i]? =some (@row α r e v xs))(Bf:AL env y=some (.int .i64 m))(Av:H5 c.P T E r.size)(hm:m=(n:Int))(Af:n<xs.length)(Ao:Nat.blt d c.n=true)
 (k:J c ops rest ((d,JI v (n*r.size))::env) L D):J c ops (⟨some d,.indexAddr T x y,t,p,af,none⟩::rest) env L D:=
 AcX i Ab Ag Bf Av AMT AMT Ao (by rw[hm];exact k)
omit Dr in
theorem oz{S:Nat->Prop}{w:World}{α:Type}[r:Be α]{e:TypeId}{v:Value}{xs:List α}(h:(row e v xs).holds S w)(Ab:xs≠[]):∃g cap,v=.slice (some ⟨g,0,none⟩) xs.length cap:=by
 obtain⟨g,cap,cs,Cy,BC,_⟩:=Vj h Ab;exact⟨g,cap,BC⟩
theorem K3{α:Type}{r:Be α}(i:Nat){xs:List α}{e:TypeId}{o off j:Nat}(Ab:AL env x=some (JI v o))(Ag:L[i]? =some (@row α r e v xs))(FG:0<xs.length)(JU:QD c.P T j off)(Ao:Nat.blt d c.n=true)
 (k:J c ops rest ((d,JI v (o+off))::env) L D):J c ops (⟨some d,.fieldAddr T x j,t,p,af,none⟩::rest) env L D:=
 Dr.fact (q:=∃g cap,v=.slice (some ⟨g,0,none⟩) xs.length cap) (fun a w f st AR=>@oz _ _ α r _ _ _ (st.own _ (AA' Ag)) (by intro e;rw[e]at FG;simp at FG)) fun⟨g,cap,BC⟩=>by
  subst BC;simp only[JI,ACm]at Ab k;exact UG Ab JU Ao (by rw[ADs];exact k)
theorem NR{α:Type}{s:Shape α}(i m o:Nat){xs:List α}{ov:α}{e:TypeId}(u:s.H->Value)(Ab:AL env x=some (JI v (m*s.size+o)))(Ag:L[i]? =some (@row α (Be.D5 s) e v xs))(hm:xs[m]? =some ov)(hu:∀h,(s.cells ov h)[o]? =some (u h)){E:TypeId}(Av:Nv c.P E)(Ao:Nat.blt d c.n=true)
 (k:∀h,s.wf ov->J c ops rest ((d,u h)::env) L (s.sub ov h++D)):
 J c ops (⟨some d,.load E x,t,p,af,none⟩::rest) env L D:=
 Dr.read (σ:={h // s.wf ov}) rfl rfl (fun h=>(d,u h.1)::env) (fun h=>s.sub ov h.1++D) (fun a w f st AR=>by
  have Hv:=AA' Ag;obtain⟨g,cap,cs,Cy,rfl,CK,_,_,_,Md,Ep,_⟩:=@Vj α (Be.D5 s) _ _ _ _ _ (st.own _ Hv) (by intro e;rw[e]at hm;simp at hm);obtain⟨Cx,⟨h,rfl,Lc,Oi⟩,AN⟩:=@PH α (Be.D5 s) _ _ _ Cy xs 0 Ep (ct CK Md) m ov hm;have P':g∈L.nd:=FW.2 ⟨_,Hv,by simp[Value.ownBlock]⟩;refine⟨⟨h,Oi⟩,u h,fun AT hs=>?_,f.put _ (EU Ao),BP.app (fun t Av=>Lc t Av) AR⟩;have Sc:Lt AT g (0+m*s.size) (s.cells ov h):=AN.DY (hs.block g (TD CK) (by simp));have Bm:=Sc o _ (hu h);have Ek:=fT (P:=c.P) Av (a:=⟨g,m*s.size+o,none⟩) (v:=u h) (w:=AT) (by simpa using Bm);have HX:=f.AL Ab;simp only[JI,ACm,AB0]at HX;simp[execOp,HX,Ek]) (fun h=>k h.1 h.2)
end
end
section
section
variable{c:Cj} {Q:AuE} {env:Env} {L:Own} {D:List Atom}
theorem AOn{KE:Code}{α:Type}{r:Be α}(i:Nat){xs:List α}{v:Value}{e:TypeId}(Ag:L[i]? =some (@row α r e v xs))(k:xs.length<=140737488355328->CF c KE Q env L D):CF c KE Q env L D:=by
 intro a w f st AR;obtain⟨Cy,_,_,AN⟩:=st.own _ (AA' Ag);exact k AN a w f st AR
end
section
variable{c:Cj} {ops:Array Oper} {J:Cj->Array Oper->List Oper->Env->Own->List Atom->Prop} [Dr:Ip J] {env:Env} {L:Own} {D:List Atom} {rest:List Oper} {d:Nat} {t:TypeId} {p:String} {af:Array Edge} {x y:Operand} {Ec FK:TypeId}
include Dr
theorem fZ{m n r:Int}(Ab:AL env x=some (.int .i64 m))(Bf:AL env y=some (.int .i64 n))(Bh:m-n=r)(Ag:A' r)(Ao:Nat.blt d c.n=true)(k:J c ops rest ((d,.int .i64 r)::env) L D):
 J c ops (⟨some d,.binOp .sub Ec x y FK,t,p,af,none⟩::rest) env L D:=by
 subst Bh;exact TU Ab Bf Ag Ao k
theorem Hf{m n r:Int}(Ab:AL env x=some (.int .i64 m))(Bf:AL env y=some (.int .i64 n))(Bh:m+n=r)(Ag:A' r)(Ao:Nat.blt d c.n=true)(k:J c ops rest ((d,.int .i64 r)::env) L D):
 J c ops (⟨some d,.binOp .add Ec x y FK,t,p,af,none⟩::rest) env L D:=by
 subst Bh;exact C5 Ab Bf Ag Ao k
end
section
variable{c:Cj} {Q:AuE} {env:Env} {L:Own} {D:List Atom} {x:Code}
theorem qA{σ:Type}(C:Env)(Dw:List Atom)(V:σ->Env->Env)(LL:σ->Own)(I:σ->Prop)(_hC:Go.A_.Sub C env)(_hc:Bg Dw D)(Af:CF c x (Exit.then (gX c (fun s=>V s C) LL (fun _=>Dw) I) Q) env L D)(h2:∀s,I s->Eg c Q .normal (V s C) (LL s) Dw):CF c x Q env L D:=
 AcY (fun s=>V s C) LL (fun _=>Dw) I Af h2
end
theorem mh{n:Nat}(h:n<9223372036854775808):IntKind.u64.wrap (n:Int)=(n:Int):=by
 simp[IntKind.wrap,IntKind.signed,IntKind.bits];omega
theorem jO{n:Nat}(h:n<9223372036854775808):IntKind.i64.wrap (n:Int)=(n:Int):=Uf ⟨AMT,AMT⟩
theorem lO(u:Nat):((u:Int)).fdiv (2^min (1:Int).toNat IntKind.u64.bits)=((u / 2:Nat):Int):=by
 rw[show((2:Int)^min (1:Int).toNat IntKind.u64.bits)=2 by decide];rw[Int.fdiv_eq_ediv_of_nonneg _ ARp];omega
section
variable{α:Type} [Inhabited α]
theorem s'(f:Nat->Bool){n i j:Nat}(h:i<j)(Ao:0<n):search f n i j=if f ((i+j) / 2)=true then search f (n-1) ((i+j) / 2+1) j else search f (n-1) i ((i+j) / 2):=by
 obtain⟨n,rfl⟩:∃k,n=k+1:=⟨n-1,AMT⟩;rw[search,AA_ h];rfl
theorem lK(f:Nat->Bool){n i j:Nat}(h:i<j)(Ao:j-i<=n)(BI:f ((i+j) / 2)=true):search f n i j=search f (n-1) ((i+j) / 2+1) j:=by rw[s' f h AMT,AA_ BI]
theorem lH(f:Nat->Bool){n i j:Nat}(h:i<j)(Ao:j-i<=n)(BI:¬f ((i+j) / 2)=true):search f n i j=search f (n-1) i ((i+j) / 2):=by rw[s' f h AMT,AA9 BI]
end
end
section
section
variable{c:Cj} {ops:Array Oper} {J:Cj->Array Oper->List Oper->Env->Own->List Atom->Prop} [Dr:Ip J] {env:Env} {L:Own} {D:List Atom} {rest:List Oper} {d:Nat} {t:TypeId} {p:String} {af:Array Edge} {x y:Operand} {T:TypeId}
include Dr
theorem dR{A:Option Addr}{m Dc:Nat}{E:TypeId}(Ab:AL env x=some (.slice A m Dc))(Av:c.P.underlying T=some (.slice E))(Ao:Nat.blt d c.n=true)
 (k:J c ops rest ((d,.int .i64 (Dc:Int))::env) L D):
 J c ops (⟨some d,.call {callee:=.builtin .cap,args:= #[x],argTypes:= #[T]},t,p,af,none⟩::rest) env L D:=
 pu rfl rfl Ao (fun a w f=>by simp[execOp,resolve,invoke,builtin,f.AL Ab,Builtin.cap_,ABQ Av,goInt]) k
theorem PO{A:Option Addr}{m Dc h:Nat}{E:TypeId}{B7:Nat}{Ag:Operand}(Ab:AL env x=some (.slice A m Dc))(Av:H5 c.P T E B7)(DC:AL env Ag=some (.int .i64 (h:Int)))(Bo:h<=Dc)(Ao:Nat.blt d c.n=true)
 (k:J c ops rest ((d,.slice A h Dc)::env) L D):
 J c ops (⟨some d,.slice T x none (some Ag) none,t,p,af,none⟩::rest) env L D:=
 pu rfl rfl Ao (fun a w f=>by
  obtain⟨j,Ay,hs⟩:=ACr.1 Av.2;have Dh:(0:Int)<=h/\(h:Int)<=(Dc:Int):=AMT;have Fb:(if Dc=0 then A else A.map (·.add 0))=A:=by
   split
   · rfl
   cases A
   · rfl
   simp[Addr.add]
  simp[execOp,f.AL Ab,f.AL DC,Instr.sliceAt,ABQ Av.1,Instr.slice,Instr.sliceBounds,Instr.sliceBound,asIntOf,Dh,sizeOf,typeInfo,Ay];rw[AA_ Bo,Fb]) k
end
end
open Go.RowKit
section
structure ZQ where
instance ld:Be ZQ where
 size:=1
 agg:=false
 rd _ _ cs _:=∃u:Value,cs=[u]/\u.oneCell'=true
 len:=by rintro S w cs x ⟨u,rfl,_⟩;rfl
 one:=by
  rintro S w cs x ⟨u,rfl,h⟩ Pc hu;have:Pc=u:=(by simpa using hu);rw[this];exact h
 DY:=by
  rintro S Fq w AT cs x h _ _;exact h
theorem Aft{S:Nat->Prop}{w:World}{u:Value}(h:u.oneCell'=true):Atom.holds (@Atom.mk ZQ ld u ⟨⟩) S w:=by
 have AK:YA u=false:=by cases u<;>first|rfl|simp[Value.oneCell']at h
 exact⟨AK,u,by rw[show(Atom.mk u (⟨⟩:ZQ)).v=u from rfl,NC AK],h⟩
theorem TJ{S:Nat->Prop}{w:World}{u:Value}(h:Atom.holds (@Atom.mk ZQ ld u ⟨⟩) S w):u.oneCell'=true:=by
 obtain⟨AK,Pc,Af,h2⟩:=h;have AK:YA u=false:=AK;have Af:u.cells.toList=[Pc]:=Af;rw[NC AK]at Af;have:u=Pc:=by simpa using Af
 rw[this];exact h2
@[reducible] def rQ(cs:List Value):List Atom:=cs.map fun u=>@Atom.mk ZQ ld u ⟨⟩
theorem rR{S:Nat->Prop}{w:World}{cs:List Value}(h:∀u∈cs,u.oneCell'=true):∀t∈rQ cs,t.holds S w:=fun t Av=>by
 obtain⟨u,hu,rfl⟩:=AB6.1 Av;exact Aft (h u hu)
@[reducible] def Shape.raw{α:Type}(s:Shape α):Shape (α×s.H) where
 H:=Unit
 size:=s.size
 cells x _:=s.cells x.1 x.2
 sub x _:=rQ (s.cells x.1 x.2)
 wf x:=s.wf x.1
 len x _:=s.len x.1 x.2
 one:=by
  intro S w x h Av u hu;exact TJ (Av _ (AB6.2 ⟨u,hu,rfl⟩))
@[reducible] def Iy{α:Type}(s:Shape α):Be (α×s.H):=Be.D5 s.raw
structure wi (NT b:Nat) (E:TypeId) (A B:World):Prop where
 size:A.heap.size<=B.heap.size
 block:∀k,k<NT->k≠b->B.heap[k]? =A.heap[k]?
 typed:∀k cs T RX,k≠b->T≠E->A.heap[k]? =some (.cells cs T RX)->B.heap[k]? =some (.cells cs T RX)
theorem C8.bu{NT b:Nat}{E:TypeId}{M:List Nat}{A B:World}(h:C8 M A B)(Ao:NT<=A.heap.size)(UU:∀k,k∈M->k<A.heap.size->k=b\/(NT<=k/\∃cs RX,A.heap[k]? =some (.cells cs E RX))):wi NT b E A B:=
 ⟨h.size,fun k AE Aq=>h.block k (ACp AE Ao) (fun hm=>by
  rcases UU k hm (ACp AE Ao)with Af|⟨Af,_⟩
  · exact Aq Af
  · omega),fun k cs T RX Aq LY AE=>(h.block k (TD AE) (fun hm=>by
  rcases UU k hm (TD AE)with Af|⟨_,KH,AmR,Af⟩
  · exact Aq Af
  rw[AE]at Af;cases Af;exact LY rfl)).trans AE⟩
def Bb{α:Type}[Be α](NT DQ:Nat)(E:TypeId)(nd:List Nat)(v:Value)(ys:List α)(w:World):Prop:=
 ∃S:Nat->Prop,Atom.holds ⟨v,ys⟩ S w/\∀b,S b->b<w.heap.size/\b∉nd/\b≠DQ/\(b<NT\/∃cs T RX,w.heap[b]? =some (.cells cs T RX)/\T≠E)
theorem AdI{F:Fence}{n:Nat}{P:Program}{ops:Array Oper}{Q:AuE}{rest:List Oper}{o:Oper}{a:Act}{w:World}(CK:o.guard=none)(h:o.wpIn F n P a w (fun Dx AT=>wpListIn F n P ops Q rest Dx AT) Q):wpListIn F n P ops Q (o::rest) a w:=by
 unfold wpListIn;rw[AA_ (by unfold Region.wanted;rw[CK])];exact h
section
variable{c:Cj} {ops:Array Oper} {J:Cj->Array Oper->List Oper->Env->Own->List Atom->Prop} [Dr:Ip J] {env:Env} {L:Own} {D:List Atom} {rest:List Oper} {d:Nat} {t:TypeId} {p:String} {af:Array Edge} {x:Operand}
include Dr
theorem j1{α:Type}{s:Shape α}(i:Nat){ov:α}{hh:s.H}{By:Value}(Ab:AL env x=some By)(Cl:D[i]? =some (@Atom.mk (Cq (α×s.H)) (@F9 _ (Iy s)) By ⟨(ov,hh)⟩)){E:TypeId}(Av:Oc c.P E s.size)(Ao:Nat.blt d c.n=true)
 (k:s.wf ov->J c ops rest ((d,.agg (s.cells ov hh).toArray)::env) L D):J c ops (⟨some d,.load E x,t,p,af,none⟩::rest) env L D:=
 Gi (s:=s.raw) i Ab Cl Av Ao fun _ hw=>Dr.mono (fun _ _ f _ AR=>⟨f,fun u hu=>AR u (ABR _ (List.mem_append_right _ hu))⟩) (k hw)
end
end
end Go.A_
namespace Go.Apw
def tB(Im:List Bv)(KK:Int):Bv:=(Gd Im.length (fun j=>decide ((Im.getD j default).CZ=KK))).elim IP (fun j=>Im.getD j default)
def AcU(Im:List Bv)(KK:Int):Bool:=(Gd Im.length (fun j=>decide ((Im.getD j default).CZ=KK))).isSome
def Aeo(l:List QM)(KK:Int)(key:ByteArray)(n:Int):Int:=
 if ¬IA (Adq l)=0 then 0 else match Gd l.length (fun j=>decide (l.getD j default=({CZ:=KK,Al:=key,G0:=n,It:=(l.getD j default).It}:QM)))with
  |some j=>(l.getD j default).It
  |none=>0
def AlT:Bx:=({Ap:=0,As:=0,Al:=ByteArray.empty,EL:=ByteArray.empty,B2:=0,DN:=0,DO:=0,C3:=0}:Bx)
def findD(l:List Bx)(c q:Int):Bx:=if(decide (HI (Kt l c q)<0)|| !decide (IA (Is l)=0))=true then AlT else l.getD ((Kt l c q).getD 0) default
def Tz(l:List Bx)(c q:Int):Bool:=if(decide (HI (Kt l c q)<0)|| !decide (IA (Is l)=0))=true then false else true
theorem Ahq{l:List Bx}{c q:Int}(h:(decide (HI (Kt l c q)<0)|| !decide (IA (Is l)=0))=false):∃k,Kt l c q=some k/\k<l.length:=by
 cases e:Kt l c q with
 |none=>
  rw[e]at h;simp[HI]at h
 |some k=>exact⟨k,rfl,Q4 e⟩
def Ab8(PN:List (List QM))(c:ZS)(h:BD):List Int:=
 if(decide (h.Bn>=1)&&decide (h.Bn<=(PN.length:Int)))=true then[Aeo (PN.getD (h.Bn-1).toNat default) c.CZ c.Yb.Al h.G0]else[]
def sc(PN:List (List QM))(c:ZS):Nat->List Int
 |0=>[c.Yb.BT]
 |i+1=>sc PN c i++Ab8 PN c (c.Yb.A0.getD i default)
def AdW(Im:List Bv)(a:AD):List Int:=
 if(AcU Im a.BG.DH&& !decide (a.BG.Ap=0))=true then(if(Tz (tB Im a.BG.DH).Bj a.BG.Ap a.BG.As&&decide ((findD (tB Im a.BG.DH).Bj a.BG.Ap a.BG.As).C3=1))=true then[a.BG.B2]else[])else[]
def kO(Im:List Bv)(PN:List (List QM))(c:ZS):List Int:=sc PN c c.Yb.A0.length++AdW Im c.Yb
def Abt(Im:List Bv)(PN:List (List QM))(c:ZS):Int×Bool:=(Lo (kO Im PN c).sum,decide (No (kO Im PN c).sum=0)&&Rb c.Yb.Cs (Lo (kO Im PN c).sum))
end Go.Apw
namespace Go.A_
section
section
variable{α:Type} [Inhabited α]
theorem lJ{f:Nat->Bool}:∀(n i j:Nat),i<=j->j-i<=n->(∀u v,i<=u->u<=v->v<j->f v=true->f u=true)->
 (∀u,i<=u->u<search f n i j->f u=true)/\(∀u,search f n i j<=u->u<j->f u=false)
 |0,i,j,GQ,Ao,_=>⟨fun u Af h2=>by rw[search]at h2;omega,fun u Af h2=>by rw[search]at Af;omega⟩
 |n+1,i,j,GQ,Ao,hm=>by
  rw[search];split
  · split
    · rename_i C_ BI;obtain⟨Af,h2⟩:=lJ (f:=f) n ((i+j) / 2+1) j AMT AMT (fun u v a b c d=>hm u v AMT b c d);refine⟨fun u AK Aq=>?_,h2⟩;by_cases Bm:u<=(i+j) / 2
      · exact hm u _ AK Bm AMT BI
      exact Af u AMT Aq
    rename_i C_ BI;obtain⟨Af,h2⟩:=lJ (f:=f) n i ((i+j) / 2) AMT AMT (fun u v a b c d=>hm u v a b AMT d);refine⟨Af,fun u AK Aq=>?_⟩;by_cases Bm:u<(i+j) / 2
    · exact h2 u AK Bm
    rw[<-ACH];exact fun he=>BI (hm _ u AMT AMT Aq he)
  exact⟨fun u Af h2=>AMT,fun u Af h2=>AMT⟩
structure m2 (lt:α->α->Bool):Prop where
 w':∀x y,lt x y=true->lt y x=false
 mb:∀x y z,lt y x=false->lt z y=false->lt z x=false
omit [Inhabited α]in
theorem m2.Si{lt:α->α->Bool}(h:m2 lt)(x:α):lt x x=false:=by
 cases e:lt x x with
 |false=>rfl
 |true=>exact(h.w' x x e).symm▸e▸rfl
variable{lt:α->α->Bool}
end
end
section
structure QL {GA:Type} (lt:GA->GA->Bool):Prop where
 Si:∀a,lt a a=false
 mb:∀a b c,lt a b=true->lt b c=true->lt a c=true
 tZ:∀a b,lt a b=false->a≠b->lt b a=true
section
variable{β GA:Type} [Inhabited β] [DecidableEq GA] (key:β->GA) (lt:GA->GA->Bool)
def Cz(t:GA)(l:List β):Nat:=search (fun h=>lt (key (l.getD h default)) t) l.length 0 l.length
def G9(t:GA)(l:List β):Bool:=decide (Cz key lt t l<l.length)&&decide (key (l.getD (Cz key lt t l) default)=t)
def FO(i:Nat)(x:β)(l:List β):List β:=l.take i++x::l.drop i
def FQ(x:β)(l:List β):List β:=if G9 key lt (key x) l=true then l.set (Cz key lt (key x) l) x else FO (Cz key lt (key x) l) x l
def H6(l:List β):Prop:=l.Pairwise (fun a b=>lt (key a) (key b)=true)
variable{key lt}
omit [DecidableEq GA]in
theorem St(t:GA)(l:List β):Cz key lt t l<=l.length:=(lI _ _ _ _ (ABg _)).2
theorem G3{l:List β}{j:Nat}(h:j<l.length):l.getD j default=l[j]:=by rw[ACn,ABs h];rfl
omit [DecidableEq GA]in
theorem fD(o:QL lt){l:List β}(h:H6 key lt l)(t:GA):(∀j (Ay:j<l.length),j<Cz key lt t l->lt (key l[j]) t=true)/\(∀j (Ay:j<l.length),Cz key lt t l<=j->lt (key l[j]) t=false):=by
 obtain⟨Af,h2⟩:=lJ (f:=fun h=>lt (key (l.getD h default)) t) l.length 0 l.length (ABg _) AMT (fun u v _ AnD BC BI=>by
  by_cases e:u=v
  · subst e;exact BI
  have:=ACW.1 h u v AMT BC AMT;rw[G3 AMT]at BI ⊢;exact o.mb _ _ _ this BI)
 exact⟨fun j Ay AH=>by rw[<-G3 Ay];exact Af j (ABg _) AH,fun j Ay AH=>by rw[<-G3 Ay];exact h2 j AH Ay⟩
theorem br(o:QL lt){l:List β}(h:H6 key lt l)(t:GA):G9 key lt t l=true↔∃x∈l,key x=t:=by
 obtain⟨Af,h2⟩:=fD o h t;simp only[G9,ABb,ABa];constructor
 · rintro⟨a,b⟩;rw[G3 a]at b;exact⟨_,ACF a,b⟩
 rintro⟨x,Ab,rfl⟩;obtain⟨j,Ay,rfl⟩:=AC8 Ab;have AH:Cz key lt (key l[j]) l<=j:=by
  rcases ACq j (Cz key lt (key l[j]) l)with g|g
  · have:=Af j Ay g;rw[o.Si]at this;cases this
  exact g
 have C_:Cz key lt (key l[j]) l<l.length:=AMT;refine⟨C_,?_⟩;rw[G3 C_];by_cases e:Cz key lt (key l[j]) l=j
 · have:l[Cz key lt (key l[j]) l]=l[j]:=(by congr 1);rw[this]
 have a:=ACW.1 h (Cz key lt (key l[j]) l) j C_ Ay AMT;rw[h2 _ C_ (ABW _)]at a;cases a
theorem ZX(_:QL lt){l:List β}(_:H6 key lt l){t:GA}(Ag:G9 key lt t l=true):Cz key lt t l<l.length/\key (l.getD (Cz key lt t l) default)=t:=by
 simpa only[G9,ABb,ABa]using Ag
theorem Ahz(o:QL lt){l:List β}(h:H6 key lt l){t:GA}(Ag:G9 key lt t l=false){j:Nat}(Ay:j<l.length)(AH:Cz key lt t l<=j):lt t (key l[j])=true:=by
 refine o.tZ _ _ ((fD o h t).2 j Ay AH) fun e=>?_;rw[(br o h t).2 ⟨_,ACF Ay,e⟩]at Ag;cases Ag
omit [Inhabited β]in
theorem Sh(i:Nat)(x:β)(l:List β)(h:i<=l.length):(FO i x l).length=l.length+1:=by
 rw[FO,List.length_append,ABv,ABz,ACt];omega
theorem su{x:β}{l:List β}(h:G9 key lt (key x) l=true):(FQ key lt x l).length=l.length:=by rw[FQ,AA_ h,ABj]
theorem AhG{x:β}{l:List β}(h:G9 key lt (key x) l=false):(FQ key lt x l).length=l.length+1:=by rw[FQ,AA9 (by rw[h];decide),Sh _ _ _ (St _ _)]
theorem cb(x:β)(l:List β):(FQ key lt x l).length<=l.length+1:=by
 cases h:G9 key lt (key x) l with
 |true=>rw[su h];omega
 |false=>rw[AhG h];exact ABW _
omit [Inhabited β]in
theorem Aeg{i:Nat}{x y:β}{l:List β}:y∈FO i x l↔y=x\/y∈l:=by
 rw[FO,ABm,ABf];constructor
 · rintro(h|h|h)
   · exact .inr (List.mem_of_mem_take h)
   · exact .inl h
   exact .inr (List.mem_of_mem_drop h)
 rintro(h|h)
 · exact .inr (.inl h)
 rw[<-List.take_append_drop i l,ABm]at h;rcases h with h|h
 · exact .inl h
 exact .inr (.inr h)
theorem PJ(o:QL lt){x y:β}{l:List β}(h:H6 key lt l):y∈FQ key lt x l↔y=x\/(y∈l/\key y≠key x):=by
 cases Ag:G9 key lt (key x) l with
 |false=>
  rw[FQ,AA9 (by rw[Ag];decide),Aeg];have Ao:∀z∈l,key z≠key x:=fun z Cu e=>by
   rw[(br o h (key x)).2 ⟨z,Cu,e⟩]at Ag;cases Ag
  exact⟨fun a=>a.imp id fun b=>⟨b,Ao y b⟩,fun a=>a.imp id fun b=>b.1⟩
 |true=>
  obtain⟨a,b⟩:=ZX o h Ag;rw[FQ,AA_ Ag];rw[G3 a]at b;constructor
  · intro Bf;obtain⟨j,Ay,e⟩:=AC8 Bf;rw[ABj]at Ay;rw[ADQ]at e;split at e
    · exact .inl e.symm
    rename_i FG;subst e;refine .inr ⟨ACF Ay,fun e=>?_⟩;have e:=e.trans b.symm;rcases ASe FG with g|g
    · have:=ACW.1 h _ j a Ay g;rw[e,o.Si]at this;cases this
    have:=ACW.1 h j _ Ay a g;rw[e,o.Si]at this;cases this
  rintro(rfl|⟨Bf,FG⟩)
  · exact AR5.2 ⟨_,by rw[ABj];exact a,by rw[List.getElem_set_self]⟩
  obtain⟨j,Ay,rfl⟩:=AC8 Bf;refine AR5.2 ⟨j,by rw[ABj];exact Ay,?_⟩;rw[ADQ,AA9];intro e;subst e;exact FG b
theorem W4(o:QL lt){x:β}{l:List β}(h:H6 key lt l):H6 key lt (FQ key lt x l):=by
 cases Ag:G9 key lt (key x) l with
 |true=>
  obtain⟨a,b⟩:=ZX o h Ag;rw[G3 a]at b;rw[FQ,AA_ Ag];refine ACW.2 fun i j Af h2 GQ=>?_;rw[ABj]at Af h2;rw[ADQ,ADQ];have:=ACW.1 h i j Af h2 GQ;split
  · rename_i e;subst e;rw[AA9 AMT];exact(ABE (fun q=>lt q _) b).symm.trans this
  split
  · rename_i e;subst e;exact(ABE (lt _) b).symm.trans this
  exact this
 |false=>
  obtain⟨Rn,_⟩:=fD o h (key x);have hle:=St (key:=key) (lt:=lt) (key x) l;rw[FQ,AA9 (by rw[Ag];decide),FO];unfold H6 at*;have hs:=h;rw[<-List.take_append_drop (Cz key lt (key x) l) l,List.pairwise_append]at hs;obtain⟨s1,s2,IK⟩:=hs;have AJ:∀y∈l.drop (Cz key lt (key x) l),lt (key x) (key y)=true:=fun y Bf=>by
   obtain⟨j,Ay,rfl⟩:=AC8 Bf;rw[ACt]at Ay;rw[List.getElem_drop];exact Ahz o h Ag AMT AMT
  have Av:∀y∈l.take (Cz key lt (key x) l),lt (key y) (key x)=true:=fun y Bf=>by
   obtain⟨j,Ay,rfl⟩:=AC8 Bf;rw[ABz]at Ay;rw[List.getElem_take];exact Rn j AMT AMT
  rw[List.pairwise_append,List.pairwise_cons];refine⟨s1,⟨AJ,s2⟩,fun a AK b Aq=>?_⟩;rcases ABf.1 Aq with rfl|Aq
  · exact Av a AK
  exact IK a AK b Aq
end
end
end Go.A_
namespace Go.Apw
def gT:BL:={Ap:=0,As:=0,HV:=false,Cm:=⟨0,0,0,0⟩}
def XG:F_:=⟨0,0,0,0⟩
def AGn(a b:Int):Bool:=decide (a<b)
-- accounts
def O9(k:ByteArray):AD×Int:=if(decide ((k.size:Int)<1)||decide ((k.size:Int)>16))=true then(Fj,1)else({Fj with Al:=k},0)
def K4(a:AD):Int:=if(!E4 a||G_ a)=true then 0 else(Lo (IU a) % 18446744073709551616-a.Cs.A6 % 18446744073709551616) % 18446744073709551616
def Jx(a:AD):Int:=if(!E4 a||G_ a)=true then 0 else(a.Cs.Bc % 18446744073709551616-Lo (I7 a) % 18446744073709551616) % 18446744073709551616
def Io(a:AD):Int×Bool:=if(!E4 a||G_ a||decide ((a.A0.length:Int)>0))=true then(0,false)else(a.BT,true)
def IC(a:AD)(n:Int):BD×Bool:=if E4 a=false then(⟨0,0,0,0⟩,false)else match Gd a.A0.length (fun j=>decide ((a.A0.getD j default).Bn=n))with
 |some j=>(a.A0.getD j default,true)
 |none=>(⟨0,0,0,0⟩,false)
def dw(a:AD)(n:Int):Bool:=(decide (n>0)&&decide (n % 18446744073709551616>Jx a))||(decide (n<0)&&decide ((-n) % 18446744073709551616>K4 a))
def JF(a:AD)(n:Int):AD×Int:=
 if E4 a=false then(Fj,21)else if n=0 then(Fj,1)else if G_ a=true then(Fj,152)else if dw a n=true then(Fj,150)else({a with BT:=a.BT+n},0)
def Iw(v n:Int):Int:=v+min n (9223372036854775807-v)
def JA(n parts i:Int):Int:=if(decide (parts<1)||decide (i<0)||decide (i>=parts))=true then 0 else if i<n % parts then n / parts+1 else n / parts
def H'(n:Int):Int:=min n 9223372036854775807
def Sn(h:BD)(AiD zD nodes:Int):BD:={h with DV:=Iw h.DV (H' (JA AiD (nodes+1) nodes)),Fc:=Iw h.Fc (H' (JA zD (nodes+1) nodes))}
def JW(a:AD)(n WM:Int):BD:=if G9 (·.Bn) AGn n a.A0=true then a.A0.getD (Cz (·.Bn) AGn n a.A0) default else⟨n,WM,0,0⟩
def Kl(a:AD)(n WM nodes:Int):AD×Int:=
 if E4 a=false then(Fj,21)
 else if(decide (nodes<1)||decide (nodes>5)||decide (n<1)||decide (n>nodes)||decide (WM<1)||decide (WM>EW))=true then(Fj,1)
 else if(!decide (a.Cn=0)||G_ a)=true then(Fj,152)
 else({a with A0:=FQ (·.Bn) AGn (Sn (JW a n WM) (Jx a) (K4 a) nodes) a.A0},0)
def Mx(a:AD)(r:Int):AD×Int:=if E4 a=false then(Fj,21)else if(decide (r<1)||decide (r>EW))=true then(Fj,1)else if a.Cn=0 then({a with Cn:=r},0)else(a,0)
def OA(a:AD):AD×Int:=if E4 a=false then(Fj,21)else({a with Cn:=0},0)
def Mk(a:AD)(n WM round IG:Int):AD×Int:=
 if E4 a=false then(Fj,21)
 else if(!(IC a n).2|| !decide ((IC a n).1.G0=WM))=true then(Fj,151)
 else if(decide (a.Cn=0)|| !decide (a.Cn=round))=true then(Fj,152)
 else if(decide (IG>(IC a n).1.DV)||decide (IG< -(IC a n).1.Fc))=true then(Fj,150)
 else({a with BT:=a.BT+IG,A0:=a.A0.filter (fun h=> !decide (h.Bn=n))},0)
def LJ(a:AD):Int:=if E4 a=false then 21 else if(Io a).2=false then 152 else 0
def Pu(a:AD)(s:GC):AD×Int:=if ¬LJ a=0 then(Fj,LJ a)else if Rb s a.BT=false then(Fj,150)else({a with Cs:=s},0)
def KA(a:AD)(l:F_):AD×Int:=
 if E4 a=false then(Fj,21)else if Sk l=false then(Fj,1)else if ¬LJ a=0 then(Fj,LJ a)else if UJ a l=false then(Fj,150)else({a with BG:=l},0)
def D1(a:AD)(ye:Bool):AD×Int:=
 if E4 a=false then(Fj,21)else if G_ a=false then(Fj,60)else({a with BT:=if ye=true then a.BT+a.BG.B2 else a.BT,BG:=XG},0)
-- marks
def FU(l:List BL)(c:Int):BL×Bool:=if Fg l=false then(gT,false)else if G9 (·.Ap) AGn c l=false then(gT,false)else(l.getD (Cz (·.Ap) AGn c l) default,true)
def LP(l:List BL)(m:BL):List BL:=FQ (·.Ap) AGn m l
def IS(l:List BL)(c q:Int):List BL×Bool×Int:=
 if Fg l=false then([],false,21)
 else if(decide (c<1)||decide (c>8)||decide (q<1)||decide (q>EW))=true then([],false,1)
 else if((FU l c).2&&decide ((FU l c).1.As>q))=true then([],false,80)
 else if((FU l c).2&&decide ((FU l c).1.As=q))=true then(l,false,0)
 else(LP l {Ap:=c,As:=q,HV:=true,Cm:=⟨0,0,0,0⟩},true,0)
def KQ(l:List BL)(c q:Int):Int:=if Fg l=false then 21 else if(!(FU l c).2|| !decide ((FU l c).1.As=q)|| !(FU l c).1.HV)=true then 60 else 0
def Oe(l:List BL)(c q:Int)(a:De):List BL×Int:=if ¬KQ l c q=0 then([],KQ l c q)else(LP l {Ap:=c,As:=q,HV:=false,Cm:=a},0)
def G'(l:List BL)(c q:Int):List BL×Int:=if ¬KQ l c q=0 then([],KQ l c q)else(LP l {Ap:=c,As:=q-1,HV:=false,Cm:=⟨80,0,0,0⟩},0)
def Ld(out:List BL)(m:BL):List BL:=
 if(!(FU out m.Ap).2||decide (m.As>(FU out m.Ap).1.As)||(decide (m.As=(FU out m.Ap).1.As)&&(FU out m.Ap).1.HV&& !m.HV))=true then LP out m else out
def M_(a b:List BL):List BL×Int:=if(Fg a&&Fg b)=false then([],21)else(b.foldl Ld a,0)
-- deals
def Mf(l:List Bx)(d:Bx):List Bx×Int:=
 if Is l=false then([],21)
 else if(!M1 d|| !decide (d.DN=0)|| !decide (d.DO=0)|| !decide (d.C3=0))=true then([],1)
 else if decide (HI (Kt l d.Ap d.As)>=0)=true then([],171)
 else if(l.length:Int)>=4 then([],3)
 else(l++[d],0)
def F1(l:List Bx)(c q:Int):Int×Int:=if Is l=false then(0,21)else if HI (Kt l c q)<0 then(0,60)else(HI (Kt l c q),0)
def TT(d:Bx)(bH is:Bool):Bx×Bool:=
 if(!decide (d.C3=0)|| !decide ((if bH=true then d.DN else d.DO)=0))=true then(d,false)
 else
  let e:Bx:=if bH=true then{d with DN:=if is=true then 1 else 2}else{d with DO:=if is=true then 1 else 2}
  ({e with C3:=JN e.DN e.DO},!decide (JN e.DN e.DO=0))
def Jk(l:List Bx)(c q:Int)(bH is:Bool):List Bx×Bool×Int:=
 if ¬(F1 l c q).2=0 then([],false,(F1 l c q).2)
 else(l.set (F1 l c q).1.toNat (TT (l.getD (F1 l c q).1.toNat default) bH is).1,(TT (l.getD (F1 l c q).1.toNat default) bH is).2,0)
def NJ(l:List Bx)(c q:Int):List Bx×Bool×Int:=
 if ¬(F1 l c q).2=0 then([],false,(F1 l c q).2)
 else if(l.getD (F1 l c q).1.toNat default).C3=0 then(l.set (F1 l c q).1.toNat {l.getD (F1 l c q).1.toNat default with C3:=2},true,0)
 else(l,false,0)
def OP(l:List Bx)(c q:Int):List Bx×Int:=
 if ¬(F1 l c q).2=0 then([],(F1 l c q).2)
 else if(l.getD (F1 l c q).1.toNat default).C3=0 then([],60)
 else(l.eraseIdx (F1 l c q).1.toNat,0)
-- ends
def H_(l:List Df)(c:Int):Nat:=(Gd l.length (fun j=>decide ((l.getD j default).Ap>=c))).getD l.length
def Sj(l:List Df)(c:Int):Bool:=decide (H_ l c<l.length)&&decide ((l.getD (H_ l c) default).Ap=c)
def Kv(l:List Df)(c q:Int):List Df×Int:=
 if HE l=false then([],21)else if Jj c q=false then([],1)
 else if Sj l c=false then(FO (H_ l c) ⟨c,q⟩ l,0)
 else(l.set (H_ l c) {l.getD (H_ l c) default with As:=max (l.getD (H_ l c) default).As q},0)
def fx(l:List Df)(c q:Int):Bool:=Sj l c&&decide ((l.getD (H_ l c) default).As>=q)&&HE l
def Ok(a b:List Df):List Df×Int:=if(HE a&&HE b)=false then([],21)else(b.foldl (fun out x=>(Kv out x.Ap x.As).1) a,0)
end Go.Apw
