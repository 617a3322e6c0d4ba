/- Part 7 of shardLine_holds. -/
import Derived.OrdersIn
import Derived.RangeFuncNested
import Derived.RangeFuncLeaves
import Derived.Lib.AppendZeros
import Derived.Test.YtalfaopffbkdnaaGreatSjm6

set_option maxRecDepth 20000
set_option maxHeartbeats 1000000
open Go.A_
namespace Go.Apw
def Di{α β:Type}(x:α×Bb)(f:α->Bb->β×Bb):β×Bb:=f x.1 x.2
theorem FY{α β:Type}{x:α×Bb}{f:α->Bb->β×Bb}{n:Nat}(h:x.2.pos<=n)(k:∀a s,s.pos<=n->(f a s).2.pos<=n):(Di x f).2.pos<=n:=k _ _ h
theorem FZ{α β:Type}{x:α×Bb}{f:α->Bb->β×Bb}{q:α->Prop}{p:β->Prop}(h:q x.1)(k:∀a s,q a->p (f a s).1):p (Di x f).1:=k _ _ h
theorem cq(J:List UInt8)(s:Bb):(⟨(Gm J 65535 s).1.toArray⟩:ByteArray).size<=9223372036854775807:=by
 show(Gm J 65535 s).1.toArray.size<=_;rw[List.size_toArray];have:=(l6 (J.drop s.pos) 65535).2.2;simp only[Gm,Lj,Bb.val];split
 · exact Nat.zero_le _
 · split
   · exact Nat.zero_le _
   · omega
theorem W9(J:List UInt8)(s:Bb):(DT J 1024 s).1<=1024:=by
 have:=(aa (J.drop s.pos) 1024).1;simp only[DT,Lj,Bb.val];split
 · omega
 · split
   · omega
   · omega
theorem sL{α:Type}{J:List UInt8}{rd:Bb->α×Bb}(h:∀s,s.pos<=J.length->(rd s).2.pos<=J.length):∀{n:Nat} {s:Bb},s.pos<=J.length->(GI rd n s).2.pos<=J.length
 |0,_,hs=>hs
 |n+1,s,hs=>by
  unfold GI;split
  · exact sL h (h _ hs)
  · exact hs
theorem Ij{α:Type}{J:List UInt8}{rd:Bb->α×Bb}{s:Bb}(h:∀s,s.pos<=J.length->(rd s).2.pos<=J.length)(hs:s.pos<=J.length):(CS J rd s).2.pos<=J.length:=sL h (W_ hs)
theorem Ah3{J:List UInt8}{m:Int}{s:Bb}(h:s.fault≠0):DT J m s=(0,s):=by
 have h2:(DT J m s).2=s:=fM (d:=0) (f:=fun l=>L9 l m) h;have Af:(DT J m s).1=0:=by
  simp only[DT,Lj,Bb.val];rw[if_pos h]
 exact Prod.ext Af h2
theorem Qw{α:Type}{J:List UInt8}{rd:Bb->α×Bb}{s:Bb}(h:s.fault≠0):CS J rd s=([],s):=by
 unfold CS;rw[Ah3 h];rfl
theorem Za{α:Type}{rd:Bb->α×Bb}{s:Bb}(h:s.fault≠0)(n:Nat):GI rd n s=([],s):=by
 cases n with
 |zero=>rfl
 |succ n=>unfold GI;rw[if_neg h]
theorem sJ{α:Type}{rd:Bb->α×Bb}{s:Bb}(h:s.fault=0)(n:Nat):GI rd (n+1) s=((rd s).1::(GI rd n (rd s).2).1,(GI rd n (rd s).2).2):=by
 rw[GI,if_pos h]
theorem Y'{α:Type}{rd:Bb->α×Bb}{s:Bb}{N i:Nat}{acc:List α}{R:List α×Bb}(Ag:i<N)(BI:s.fault=0)(he:R=(acc++(GI rd (N-i) s).1,(GI rd (N-i) s).2)):R=((acc++[(rd s).1])++(GI rd (N-(i+1)) (rd s).2).1,(GI rd (N-(i+1)) (rd s).2).2):=by
 rw[he,show N-i=(N-(i+1))+1 by omega,sJ BI];simp
theorem Zg{c:List Value}{o:Nat}{v:Value}(h:o<c.length):(c.set o v)[o]? =some v:=by simp[h]
theorem WJ{J:List UInt8}{x:Nat}:∀{offs:List Nat} {p:List Value×Bb},x∉offs->(CO J offs p).1[x]? =p.1[x]?
 |[],_,_=>rfl
 |o::r,p,h=>by
  rw[CO,WJ (fun Ab=>h (List.mem_cons_of_mem _ Ab))];exact List.getElem?_set_ne (fun e=>h (by subst e;exact List.mem_cons_self ..))
theorem Xi{J:List UInt8}{x:Nat}:∀{offs:List Nat} {p:List Value×Bb},x∉offs->(Ea J offs p).1[x]? =p.1[x]?
 |[],_,_=>rfl
 |o::r,p,h=>by
  rw[Ea,Xi (fun Ab=>h (List.mem_cons_of_mem _ Ab))];exact List.getElem?_set_ne (fun e=>h (by subst e;exact List.mem_cons_self ..))
def E9(J:List UInt8)(o:Nat)(p:List Value×Bb):List Value×Bb:=(p.1.set o (.bool (Kw J p.2).1),(Kw J p.2).2)
def C7{α:Type}(o:Nat)(y:Value)(rd:Bb->α×Bb)(p:List Value×Bb):List Value×Bb:=(p.1.set o y,(rd p.2).2)
def Hy(J:List UInt8)(o:Nat)(p:List Value×Bb):List Value×Bb:=CO J [o+3,o+4,o+5] (Ea J [o+1,o+2] (CO J [o] p))
def Ga(J:List UInt8)(o:Nat)(p:List Value×Bb):List Value×Bb:=CO J [o+5,o+6] (Ea J [o+3,o+4] (CO J [o,o+1,o+2] p))
theorem Ik{α:Type}{o:Nat}{y:Value}{rd:Bb->α×Bb}{p:List Value×Bb}{n:Nat}(h:(rd p.2).2.pos<=n):(C7 o y rd p).2.pos<=n:=h
theorem Pw{J:List UInt8}{o:Nat}{p:List Value×Bb}(h:p.2.pos<=J.length):(E9 J o p).2.pos<=J.length:=sI h
theorem b_{J:List UInt8}{o:Nat}{p:List Value×Bb}(h:p.2.pos<=J.length):(Ga J o p).2.pos<=J.length:=Hw (MP (Hw h))
def UO(J:List UInt8)(s:Bb):GC×Bb:=
 Di (D6 J s) fun He s1=>
 Di (D6 J s1) fun DP s2=>
 ({A6:=He,Bc:=DP},s2)
theorem Aae{J:List UInt8}{s:Bb}(h:s.pos<=J.length):(UO J s).2.pos<=J.length:=by
 exact FY (Hb h) fun _ _ h=>FY (Hb h) fun _ _ h=>h
theorem Aaf(J:List UInt8)(s:Bb):(UO J s).1.wf:=by
 exact FZ (q:=A') (HL _ _) fun _ _ Bw=>FZ (q:=A') (HL _ _) fun _ _ Af=>⟨Bw,Af⟩
def UM(J:List UInt8)(s:Bb):F_×Bb:=
 Di (D6 J s) fun He s1=>
 Di (D6 J s1) fun DP s2=>
 Di (D6 J s2) fun EK IK=>
 Di (D6 J IK) fun FR Jy=>
 ({Ap:=He,As:=DP,DH:=EK,B2:=FR},Jy)
theorem z'{J:List UInt8}{s:Bb}(h:s.pos<=J.length):(UM J s).2.pos<=J.length:=by
 exact FY (Hb h) fun _ _ h=>FY (Hb h) fun _ _ h=>FY (Hb h) fun _ _ h=>FY (Hb h) fun _ _ h=>h
theorem Aaa(J:List UInt8)(s:Bb):(UM J s).1.wf:=by
 exact FZ (q:=A') (HL _ _) fun _ _ Bw=>FZ (q:=A') (HL _ _) fun _ _ Af=>FZ (q:=A') (HL _ _) fun _ _ h2=>FZ (q:=A') (HL _ _) fun _ _ Bo=>⟨Bw,Af,h2,Bo⟩
def Iu(J:List UInt8)(s:Bb):BD×Bb:=
 Di (D6 J s) fun He s1=>
 Di (D6 J s1) fun DP s2=>
 Di (D6 J s2) fun EK IK=>
 Di (D6 J IK) fun FR Jy=>
 ({Bn:=He,G0:=DP,DV:=EK,Fc:=FR},Jy)
theorem ik{J:List UInt8}{s:Bb}(h:s.pos<=J.length):(Iu J s).2.pos<=J.length:=by
 exact FY (Hb h) fun _ _ h=>FY (Hb h) fun _ _ h=>FY (Hb h) fun _ _ h=>FY (Hb h) fun _ _ h=>h
theorem z_(J:List UInt8)(s:Bb):(Iu J s).1.wf:=by
 exact FZ (q:=A') (HL _ _) fun _ _ Bw=>FZ (q:=A') (HL _ _) fun _ _ Af=>FZ (q:=A') (HL _ _) fun _ _ h2=>FZ (q:=A') (HL _ _) fun _ _ Bo=>⟨Bw,Af,h2,Bo⟩
def UL(J:List UInt8)(s:Bb):De×Bb:=
 Di (D6 J s) fun He s1=>
 Di (D6 J s1) fun DP s2=>
 Di (D6 J s2) fun EK IK=>
 Di (D6 J IK) fun FR Jy=>
 ({Jd:=He,JM:=DP,JJ:=EK,JK:=FR},Jy)
theorem z3{J:List UInt8}{s:Bb}(h:s.pos<=J.length):(UL J s).2.pos<=J.length:=by
 exact FY (Hb h) fun _ _ h=>FY (Hb h) fun _ _ h=>FY (Hb h) fun _ _ h=>FY (Hb h) fun _ _ h=>h
theorem z4(J:List UInt8)(s:Bb):(UL J s).1.wf:=by
 exact FZ (q:=A') (HL _ _) fun _ _ Bw=>FZ (q:=A') (HL _ _) fun _ _ Af=>FZ (q:=A') (HL _ _) fun _ _ h2=>FZ (q:=A') (HL _ _) fun _ _ Bo=>⟨Bw,Af,h2,Bo⟩
def Wc(J:List UInt8)(s:Bb):FL×Bb:=
 Di (D6 J s) fun He s1=>
 Di (Gm J 65535 s1) fun DP s2=>
 Di (Gm J 65535 s2) fun EK IK=>
 Di (D6 J IK) fun FR Jy=>
 Di (D6 J Jy) fun Iz Rw=>
 Di (D6 J Rw) fun Lv Rx=>
 ({Ca:=He,Al:=⟨DP.toArray⟩,EL:=⟨EK.toArray⟩,B2:=FR,A6:=Iz,Bc:=Lv},Rx)
theorem Aac{J:List UInt8}{s:Bb}(h:s.pos<=J.length):(Wc J s).2.pos<=J.length:=by
 exact FY (Hb h) fun _ _ h=>FY (Vf h) fun _ _ h=>FY (Vf h) fun _ _ h=>FY (Hb h) fun _ _ h=>FY (Hb h) fun _ _ h=>FY (Hb h) fun _ _ h=>h
theorem Aad(J:List UInt8)(s:Bb):(Wc J s).1.wf:=by
 exact FZ (q:=A') (HL _ _) fun _ _ Bw=>FZ (q:=(fun l:List UInt8=>(⟨l.toArray⟩:ByteArray).size<=9223372036854775807)) (cq _ _) fun _ _ Af=>FZ (q:=(fun l:List UInt8=>(⟨l.toArray⟩:ByteArray).size<=9223372036854775807)) (cq _ _) fun _ _ h2=>FZ (q:=A') (HL _ _) fun _ _ Bo=>FZ (q:=A') (HL _ _) fun _ _ BB=>FZ (q:=A') (HL _ _) fun _ _ C'=>⟨Bw,Af,h2,Bo,BB,C'⟩
def L_(J:List UInt8)(s:Bb):Fs×Bb:=
 Di (D6 J s) fun He s1=>
 Di (D6 J s1) fun DP s2=>
 Di (D6 J s2) fun EK IK=>
 Di (Gm J 65535 IK) fun FR Jy=>
 Di (Gm J 65535 Jy) fun Iz Rw=>
 Di (D6 J Rw) fun Lv Rx=>
 Di (D6 J Rx) fun KY cv=>
 ({Ev:=He,Hi:=DP,IX:=EK,A6:=⟨FR.toArray⟩,Bc:=⟨Iz.toArray⟩,Ap:=Lv,As:=KY},cv)
def HF(J:List UInt8)(s:Bb):Df×Bb:=
 Di (D6 J s) fun He s1=>
 Di (D6 J s1) fun DP s2=>
 ({Ap:=He,As:=DP},s2)
theorem aF{J:List UInt8}{s:Bb}(h:s.pos<=J.length):(HF J s).2.pos<=J.length:=by
 exact FY (Hb h) fun _ _ h=>FY (Hb h) fun _ _ h=>h
theorem z8(J:List UInt8)(s:Bb):(HF J s).1.wf:=by
 exact FZ (q:=A') (HL _ _) fun _ _ Bw=>FZ (q:=A') (HL _ _) fun _ _ Af=>⟨Bw,Af⟩
def GG(J:List UInt8)(s:Bb):BL×Bb:=
 Di (D6 J s) fun He s1=>
 Di (D6 J s1) fun DP s2=>
 Di (Kw J s2) fun EK IK=>
 Di (UL J IK) fun FR Jy=>
 ({Ap:=He,As:=DP,HV:=EK,Cm:=FR},Jy)
theorem UN{J:List UInt8}{s:Bb}(h:s.pos<=J.length):(GG J s).2.pos<=J.length:=by
 exact FY (Hb h) fun _ _ h=>FY (Hb h) fun _ _ h=>FY (sI h) fun _ _ h=>FY (z3 h) fun _ _ h=>h
theorem o_(J:List UInt8)(s:Bb):(GG J s).1.wf:=by
 exact FZ (q:=A') (HL _ _) fun _ _ Bw=>FZ (q:=A') (HL _ _) fun _ _ Af=>FZ (q:=(fun _=>True)) (trivial) fun _ _ h2=>FZ (q:=De.wf) (z4 _ _) fun _ _ Bo=>⟨Bw,Af,h2,Bo⟩
def Hk(J:List UInt8)(s:Bb):Bx×Bb:=
 Di (D6 J s) fun He s1=>
 Di (D6 J s1) fun DP s2=>
 Di (Gm J 65535 s2) fun EK IK=>
 Di (Gm J 65535 IK) fun FR Jy=>
 Di (D6 J Jy) fun Iz Rw=>
 Di (D6 J Rw) fun Lv Rx=>
 Di (D6 J Rx) fun KY cv=>
 Di (D6 J cv) fun OH lu=>
 ({Ap:=He,As:=DP,Al:=⟨EK.toArray⟩,EL:=⟨FR.toArray⟩,B2:=Iz,DN:=Lv,DO:=KY,C3:=OH},lu)
theorem Ye{J:List UInt8}{s:Bb}(h:s.pos<=J.length):(Hk J s).2.pos<=J.length:=by
 exact FY (Hb h) fun _ _ h=>FY (Hb h) fun _ _ h=>FY (Vf h) fun _ _ h=>FY (Vf h) fun _ _ h=>FY (Hb h) fun _ _ h=>FY (Hb h) fun _ _ h=>FY (Hb h) fun _ _ h=>FY (Hb h) fun _ _ h=>h
theorem z6(J:List UInt8)(s:Bb):(Hk J s).1.wf:=by
 exact FZ (q:=A') (HL _ _) fun _ _ Bw=>FZ (q:=A') (HL _ _) fun _ _ Af=>FZ (q:=(fun l:List UInt8=>(⟨l.toArray⟩:ByteArray).size<=9223372036854775807)) (cq _ _) fun _ _ h2=>FZ (q:=(fun l:List UInt8=>(⟨l.toArray⟩:ByteArray).size<=9223372036854775807)) (cq _ _) fun _ _ Bo=>FZ (q:=A') (HL _ _) fun _ _ BB=>FZ (q:=A') (HL _ _) fun _ _ C'=>FZ (q:=A') (HL _ _) fun _ _ F4=>FZ (q:=A') (HL _ _) fun _ _ GY=>⟨Bw,Af,h2,Bo,BB,C',F4,GY⟩
def GX(J:List UInt8)(s:Bb):BX×Bb:=
 Di (D6 J s) fun He s1=>
 Di (D6 J s1) fun DP s2=>
 Di (D6 J s2) fun EK IK=>
 Di (D6 J IK) fun FR Jy=>
 Di (D6 J Jy) fun Iz Rw=>
 Di (Wc J Rw) fun Lv Rx=>
 ({Ca:=He,Ap:=DP,As:=EK,Bn:=FR,DH:=Iz,AM:=Lv},Rx)
theorem Wd{J:List UInt8}{s:Bb}(h:s.pos<=J.length):(GX J s).2.pos<=J.length:=by
 exact FY (Hb h) fun _ _ h=>FY (Hb h) fun _ _ h=>FY (Hb h) fun _ _ h=>FY (Hb h) fun _ _ h=>FY (Hb h) fun _ _ h=>FY (Aac h) fun _ _ h=>h
theorem Aar(J:List UInt8)(s:Bb):(GX J s).1.wf:=by
 exact FZ (q:=A') (HL _ _) fun _ _ Bw=>FZ (q:=A') (HL _ _) fun _ _ Af=>FZ (q:=A') (HL _ _) fun _ _ h2=>FZ (q:=A') (HL _ _) fun _ _ Bo=>FZ (q:=A') (HL _ _) fun _ _ BB=>FZ (q:=FL.wf) (Aad _ _) fun _ _ C'=>⟨Bw,Af,h2,Bo,BB,C'⟩
def F2(J:List UInt8)(s:Bb):AD×Bb:=
 Di (Gm J 65535 s) fun He s1=>
 Di (UO J s1) fun DP s2=>
 Di (D6 J s2) fun EK IK=>
 Di (D6 J IK) fun FR Jy=>
 Di (CS J (Iu J) Jy) fun Iz Rw=>
 Di (UM J Rw) fun Lv Rx=>
 ({Al:=⟨He.toArray⟩,Cs:=DP,BT:=EK,Cn:=FR,A0:=Iz,BG:=Lv},Rx)
theorem Td{J:List UInt8}{s:Bb}(h:s.pos<=J.length):(F2 J s).2.pos<=J.length:=by
 exact FY (Vf h) fun _ _ h=>FY (Aae h) fun _ _ h=>FY (Hb h) fun _ _ h=>FY (Hb h) fun _ _ h=>FY (Ij (fun _ hh=>ik hh) h) fun _ _ h=>FY (z' h) fun _ _ h=>h
theorem o9(J:List UInt8)(s:Bb):(F2 J s).1.wf:=by
 exact FZ (q:=(fun l:List UInt8=>(⟨l.toArray⟩:ByteArray).size<=9223372036854775807)) (cq _ _) fun _ _ Bw=>FZ (q:=GC.wf) (Aaf _ _) fun _ _ Af=>FZ (q:=A') (HL _ _) fun _ _ h2=>FZ (q:=A') (HL _ _) fun _ _ Bo=>FZ (q:=(fun _=>True)) (trivial) fun _ _ BB=>FZ (q:=F_.wf) (Aaa _ _) fun _ _ C'=>⟨Bw,Af,h2,Bo,BB,C'⟩
def FC(J:List UInt8)(s:Bb):Bv×Bb:=
 Di (D6 J s) fun He s1=>
 Di (D6 J s1) fun DP s2=>
 Di (Kw J s2) fun EK IK=>
 Di (Gm J 65535 IK) fun FR Jy=>
 Di (Gm J 65535 Jy) fun Iz Rw=>
 Di (D6 J Rw) fun Lv Rx=>
 Di (CS J (F2 J) Rx) fun KY cv=>
 Di (CS J (GG J) cv) fun OH lu=>
 Di (CS J (GX J) lu) fun VN AiW=>
 Di (CS J (Hk J) AiW) fun wH AiQ=>
 Di (CS J (HF J) AiQ) fun wx s4=>
 Di (L_ J s4) fun wy s5=>
 Di (L_ J s5) fun wz AiR=>
 Di (Gm J 65535 AiR) fun hd AiS=>
 Di (D6 J AiS) fun wA AiT=>
 Di (D6 J AiT) fun wB AiU=>
 Di (D6 J AiU) fun wC AiV=>
 ({CZ:=He,DX:=DP,Du:=EK,A6:=⟨FR.toArray⟩,Bc:=⟨Iz.toArray⟩,Dn:=Lv,Aj:=KY,Bz:=OH,AA:=VN,Bj:=wH,CX:=wx,Bt:=wy,CW:=wz,Cf:=hd,Jc:=wA,JL:=wB,GW:=wC},AiV)
def IP:Bv:=({CZ:=0,DX:=0,Du:=false,A6:=ByteArray.empty,Bc:=ByteArray.empty,Dn:=0,Aj:=[],Bz:=[],AA:=[],Bj:=[],CX:=[],Bt:=({Ev:=0,Hi:=0,IX:=0,A6:=ByteArray.empty,Bc:=ByteArray.empty,Ap:=0,As:=0}:Fs),CW:=({Ev:=0,Hi:=0,IX:=0,A6:=ByteArray.empty,Bc:=ByteArray.empty,Ap:=0,As:=0}:Fs),Cf:=[],Jc:=0,JL:=0,GW:=0}:Bv)
theorem dd:IP.wf:=⟨⟨by decide,by decide⟩,⟨by decide,by decide⟩,trivial,(by decide),(by decide),⟨by decide,by decide⟩,trivial,trivial,trivial,trivial,trivial,⟨⟨by decide,by decide⟩,⟨by decide,by decide⟩,⟨by decide,by decide⟩,(by decide),(by decide),⟨by decide,by decide⟩,⟨by decide,by decide⟩⟩,⟨⟨by decide,by decide⟩,⟨by decide,by decide⟩,⟨by decide,by decide⟩,(by decide),(by decide),⟨by decide,by decide⟩,⟨by decide,by decide⟩⟩,trivial,⟨by decide,by decide⟩,⟨by decide,by decide⟩,⟨by decide,by decide⟩⟩
def Lm(b:List UInt8):Bv:=if 65536<b.length then IP else(FC b ⟨0,0⟩).1
def NF(b:List UInt8):Int:=if 65536<b.length then 22 else Q0 b (FC b ⟨0,0⟩).2
def Er(b:List UInt8):Bv×Int:=if NF b≠0 then(IP,NF b)else(Lm b,0)
theorem lY{b:List UInt8}(h:65536<b.length):Lm b=IP:=if_pos h
theorem gn{b:List UInt8}(h:¬65536<b.length):Lm b=(FC b ⟨0,0⟩).1:=if_neg h
theorem zn{b:List UInt8}(h:65536<b.length):NF b=22:=if_pos h
theorem oM{b:List UInt8}(h:¬65536<b.length):NF b=Q0 b (FC b ⟨0,0⟩).2:=if_neg h
theorem k8{b:List UInt8}(h:NF b≠0):Er b=(IP,NF b):=if_pos h
theorem fN{b:List UInt8}(h:NF b=0):Er b=(Lm b,0):=if_neg (not_not_intro h)
def Zj(s:Bv):Bool:= !Ih s.CZ|| !X1 [s.DX,s.Dn,s.Jc,s.JL,s.GW]|| !YZ s|| !VP s
def Zk(s:Bv):Bool:= !decide (IA (Fg s.Bz)=0)|| !decide (IA (Is s.Bj)=0)|| !decide (IA (HE s.CX)=0)||decide ((s.AA.length:Int)>8)
def Xe(s:Bv):Bool:=(!decide (s.Bt=⟨0,0,0,ByteArray.empty,ByteArray.empty,0,0⟩))&&(!LK s.Bt|| !decide (s.Bt.Hi=s.CZ)|| !decide (s.Bt.Bc=s.Bc)|| !F' s s.Bt.A6)
def lW(s:Bv):Bool:=LK s.CW&&decide (s.CW.Hi=s.CZ)&&decide ((Er s.Cf).2=0)
def gm(s:Bv):Bool:=allI s.AA.length (fun j=>Mr s (s.AA.getD j default))
def LN(s:Bv):Bool:=if Zj s=true then false else if Zk s=true then false else if gm s=true then(if Xe s=true then false else if decide (s.CW=⟨0,0,0,ByteArray.empty,ByteArray.empty,0,0⟩)=true then decide ((s.Cf.length:Int)=0)else lW s)else false
structure wm where
 Bc:Int
 A6:Int
 deriving DecidableEq,Inhabited
@[reducible] def AuI(x:wm):List Value:=[.int .i64 x.Bc,.int .u64 x.A6]
@[reducible] def wide(S:Int):wm:=⟨S / 18446744073709551616,S % 18446744073709551616⟩
def mW(S:Int):Prop:= -1329227995784915872903807060280344576<=S/\S<=1329227995784915872903807060280344576
def gV(S:Int):Prop:= -1298074214633706907132624082305024<=S/\S<=1298074214633706907132624082305024
theorem gV.w{S:Int}(h:gV S):mW S:=by unfold gV at h;unfold mW;omega
theorem AAn{S n:Int}(h:n<0)(Ao:A' n):(⟨S / 18446744073709551616+(S % 18446744073709551616+n % 18446744073709551616+0) / 18446744073709551616-1,(S % 18446744073709551616+n % 18446744073709551616+0) % 18446744073709551616⟩:wm)=wide (S+n):=by
 obtain⟨Af,h2⟩:=Ao;simp only[wide,wm.mk.injEq];omega
theorem AAo{S n:Int}(h:¬n<0)(Ao:A' n):(⟨S / 18446744073709551616+(S % 18446744073709551616+n % 18446744073709551616+0) / 18446744073709551616,(S % 18446744073709551616+n % 18446744073709551616+0) % 18446744073709551616⟩:wm)=wide (S+n):=by
 obtain⟨Af,h2⟩:=Ao;simp only[wide,wm.mk.injEq];omega
theorem AwG{x y:wm}(h:x=y):Value.agg (AuI x).toArray=Value.agg (AuI y).toArray:=by rw[h]
theorem Ayb{x:Int}(h:A' x):MY .xor .i64 (if IntKind.i64.signed then-1 else IntKind.i64.max) x= -x-1:=by
 obtain⟨Af,h2⟩:=h;have e:(BitVec.ofInt 64 (-1)^^^BitVec.ofInt 64 x)=BitVec.ofInt 64 (-x-1):=by
  have a:BitVec.ofInt 64 (-1)=BitVec.allOnes 64:=(by decide);rw[a,BitVec.allOnes_xor];have:BitVec.ofInt 64 (-x-1)= ~~~ BitVec.ofInt 64 x:=by
   apply BitVec.eq_of_toInt_eq;rw[BitVec.toInt_not,BitVec.toInt_ofInt];have t:(BitVec.ofInt 64 x).toNat=(x % 2^64).toNat:=(by simp[BitVec.toNat_ofInt]);rw[t];simp only[Int.bmod];omega
  rw[this]
 show IntKind.i64.wrap _=_;have:∀y:Int,A' y->IntKind.i64.wrap ((BitVec.ofInt 64 y).toNat:Int)=y:=by
  intro y Bf;obtain⟨Bo,BB⟩:=Bf;have t:(BitVec.ofInt 64 y).toNat=(y % 2^64).toNat:=(by simp[BitVec.toNat_ofInt]);rw[t,mC];omega
 rw[<-this (-x-1) ⟨by omega,by omega⟩,<-e];rfl
theorem M9{S:Int}(_:mW S):((decide (S / 18446744073709551616=0)&&decide (S % 18446744073709551616<9223372036854775808))||(decide (S / 18446744073709551616= -1)&&decide (S % 18446744073709551616>=9223372036854775808)))=J3 S:=by
 rw[Bool.eq_iff_iff];simp only[J3,Bool.or_eq_true,Bool.and_eq_true,decide_eq_true_eq];omega
theorem Az_{l:List Int}(h:nb l)(_:l.length<=1000):∀i,i<=l.length-> -((i:Int)*9223372036854775808)<=(l.take i).sum/\(l.take i).sum<=(i:Int)*9223372036854775808:=by
 intro i;induction i with
 |zero=>simp
 |succ i Cg=>
  intro Ag;have hs:=AjZ (l:=l) (i:=i) (by omega);obtain⟨DP,EK⟩:=Cg (by omega);obtain⟨SJ,Ug⟩:=Aau h (i:=i) (by omega);rw[hs];omega
def So(f:BD->Int)(b:Int)(l:List BD):Nat->List Int
 |0=>[b]
 |i+1=>So f b l i++[f (l.getD i default)]
theorem bC(f:BD->Int)(b:Int)(l:List BD):∀i,(So f b l i).length=i+1
 |0=>rfl
 |i+1=>by simp[So,bC f b l i]
theorem G3{α:Type}[Inhabited α]{l:List α}{i:Nat}(h:i<l.length):l.getD i default=l[i]:=by simp[List.getD,List.getElem?_eq_getElem h]
theorem j3(f:BD->Int)(b:Int)(l:List BD):∀i,i<=l.length->(So f b l i).sum=b+((l.take i).map f).sum
 |0,_=>by simp[So]
 |i+1,h=>by
  have Cg:=j3 f b l i (by omega);rw[So,List.sum_append_int,Cg,List.take_add_one,List.getElem?_eq_getElem (by omega),G3 (by omega),List.map_append,List.sum_append_int];simp only[Option.toList_some,List.map_cons,List.map_nil,List.sum_cons,List.sum_nil];omega
theorem sum_neg(f:BD->Int):∀l:List BD,(l.map fun h=> -f h).sum= -(l.map f).sum
 |[]=>rfl
 |h::r=>by
  simp only[List.map_cons,List.sum_cons,sum_neg f r];omega
theorem AdN(a:AD):(So (fun h=>h.DV) a.BT a.A0 a.A0.length).sum=I7 a:=by
 rw[j3 _ _ _ _ (Nat.le_refl _),List.take_length];rfl
theorem AdM(a:AD):(So (fun h=> -h.Fc) a.BT a.A0 a.A0.length).sum=IU a:=by
 rw[j3 _ _ _ _ (Nat.le_refl _),List.take_length,sum_neg];show a.BT+ -(a.A0.map fun h=>h.Fc).sum=a.BT-(a.A0.map fun h=>h.Fc).sum;omega
theorem Wy{l:List BD}(hh:LI l=true){i:Nat}(Ag:i<l.length):Nh (fun k=>(l.getD k default).Bn) i<(l.getD i default).Bn/\(l.getD i default).Bn<=5/\1<=(l.getD i default).G0/\0<=(l.getD i default).DV/\0<=(l.getD i default).Fc:=by
 have h:=Nz.1 hh i Ag;simp only[eU,Bool.not_eq_true',Bool.or_eq_false_iff,decide_eq_false_iff_not]at h;omega
theorem jx{l:List BD}(hh:LI l=true):∀i,i<l.length->(i:Int)+1<=(l.getD i default).Bn
 |0,Ag=>by
  have:=(Wy hh Ag).1;simp only[Nh]at this;omega
 |i+1,Ag=>by
  have:=(Wy hh Ag).1;have Cg:=jx hh i (by omega);simp only[Nh]at this;omega
theorem PC{l:List BD}(hh:LI l=true):l.length<=5:=by
 rcases Nat.eq_zero_or_pos l.length with h|h
 · omega
 · have Af:=jx hh (l.length-1) (by omega);have h2:=(Wy hh (i:=l.length-1) (by omega)).2.1;omega
theorem LU:A' 0:=⟨by decide,by decide⟩
def Fj:AD:=⟨ByteArray.empty,⟨0,0⟩,0,0,[],⟨0,0,0,0⟩⟩
def Sq(k:ByteArray):AD:=⟨if Ix k=true then k else ByteArray.empty,⟨0,0⟩,0,0,[],⟨0,0,0,0⟩⟩
theorem rI(k:ByteArray):(Sq k).wf:=by
 refine⟨?_,⟨LU,LU⟩,LU,LU,trivial,LU,LU,LU,LU⟩;show(if Ix k=true then k else ByteArray.empty).size<=_;split
 · rename_i h;simp only[Ix,Bool.and_eq_true,decide_eq_true_eq]at h;omega
 · decide
def kd(k:ByteArray):Int:=if Ix k=true then 0 else 1
def AHG(o:FL):Bool:=decide (o.Ca<1)||decide (o.Ca>6)|| !Ix o.Al
def AHH(o:FL):Bool:=(decide (o.Ca=1)||decide (o.Ca=2)||decide (o.Ca=6))&&decide (o.B2<1)
def AG6(o:FL):Bool:=if AHG o=true then false else if AHH o=true then false else(!decide (o.Ca=6))||(Ix o.EL&&(!decide (o.EL=o.Al)))
def AGH(o:FL):FL:=if o.Ca=1 then⟨o.Ca,o.Al,ByteArray.empty,o.B2,0,0⟩else if o.Ca=2 then⟨o.Ca,o.Al,ByteArray.empty,o.B2,0,0⟩else if o.Ca=5 then⟨o.Ca,o.Al,ByteArray.empty,0,o.A6,o.Bc⟩else if o.Ca=6 then⟨o.Ca,o.Al,o.EL,o.B2,0,0⟩else⟨o.Ca,o.Al,ByteArray.empty,0,0,0⟩
def AGJ(o:FL):FL:=if o.Ca=7 then{o with Ca:=4}else if o.Ca=8 then{o with Ca:=4}else o
def mV:FL:=⟨0,ByteArray.empty,ByteArray.empty,0,0,0⟩
theorem vF:A' 1:=⟨by decide,by decide⟩
theorem vw:Fs.wf ⟨0,0,0,ByteArray.empty,ByteArray.empty,0,0⟩:=⟨LU,LU,LU,by decide,by decide,LU,LU⟩
def F8(n:Int):Bv:=⟨if Ih n=true then n else 0,0,Ih n&&decide (n=1),ByteArray.empty,ByteArray.empty,if Ih n=true then(if n=1 then 1 else 0)else 0,[],[],[],[],[],⟨0,0,0,ByteArray.empty,ByteArray.empty,0,0⟩,⟨0,0,0,ByteArray.empty,ByteArray.empty,0,0⟩,[],0,0,0⟩
theorem Aeq{n:Int}(h:A' n):(F8 n).wf:=by
 refine⟨?_,LU,trivial,(by show ByteArray.empty.size<=_;decide),(by show ByteArray.empty.size<=_;decide),?_,trivial,trivial,trivial,trivial,trivial,vw,vw,trivial,LU,LU,LU⟩
 · show A' (if Ih n=true then n else 0);split
   · exact h
   · exact LU
 · show A' (if Ih n=true then(if n=1 then 1 else 0)else 0);split
   · split
     · exact vF
     · exact LU
   · exact LU
end Go.Apw
namespace Go.A_
section
theorem n6:∀(n:Nat) (f g:Nat->Bool) (i:Nat),i<n->f i=true->g i=false->(∀j,j≠i->g j=f j)->(List.range n).countP g+1=(List.range n).countP f
 |0,_,_,_,h,_,_,_=>by omega
 |n+1,f,g,i,Ag,BI,CK,he=>by
  rw[List.range_succ,List.countP_append,List.countP_append];by_cases h:i=n
  · subst h;have:(List.range i).countP g=(List.range i).countP f:=List.countP_congr fun j Ay=>by rw[he j (by have:=List.mem_range.1 Ay;omega)]
    rw[this];simp[BI,CK]
  · have Cg:=n6 n f g i (by omega) BI CK he;have e:[n].countP g=[n].countP f:=(by simp only[List.countP_cons,List.countP_nil,he n (Ne.symm h)]);rw[e];omega
section
variable{c:Cj} {l:List Oper} {s:Iq} {env:Env} {D:List Atom} {Q:AuE}
def R'(AJ n:Nat):Array Bool:=((List.range n).map fun i=>decide (i<AJ)).toArray
theorem OG.Aj8{r:List Oper}{AJ:Nat}(h:OG c l s env D (r.take AJ) 0){i:Nat}(Ag:i<AJ){o:Oper}(A7:r[i]? =some o)(V:Nat->Value)(Az:List Atom)(LC:E7 (fun k=>s.Eb k=none->s.ok k (V k)) (s.E8 i)):
 E7 (fun h=>Cb (Nf c l s (D++Az) i h (h.map V)) c l.toArray [o] (Eo l (EC s.Eb V) (s.E8 i)++env) (s.L h (h.map V)) (FM s.rs (EC s.Eb V) (s.E8 i)++(D++Az))) (Ro l s i):=by
 have:=h.at_ i o (by rw[List.getElem?_take,if_pos Ag];exact A7) V Az (by rw[Nat.zero_add];exact LC)
 rwa [Nat.zero_add]at this
theorem yS(C':ND l=true){k i:Nat}(h:Gp l k i=true):k<i:=by
 rcases Nat.lt_or_ge i l.length with Ee|Ee
 · have A7:l[i]? =some l[i]:=List.getElem?_eq_getElem Ee;obtain⟨e,he,Aq,rfl⟩:=(S9 A7).1 h;have M7:=List.all_eq_true.1 C' i (List.mem_range.2 Ee);rw[A7]at M7;have:=List.all_eq_true.1 M7 e (Array.mem_toList_iff.2 he);rw[Aq]at this;exact EU (by simpa using this)
 · rw[Gp,List.getElem?_eq_none Ee]at h;cases h
theorem AhY(AJ:Nat)(s:Iq)(Yq:s.hs=[[]])(BB:OL l s=true)(C':ND l=true):(s.Eu.all fun x=>Nat.blt x AJ)=true/\E7 (fun h=>∀V:Nat->Value,s.L h (h.map V)=s.L [] []) (Q6 s):=by
 have he:∀x,x∈s.Eu->False:=by
  intro x;induction x using Nat.strongRecOn with
  |_ x Cg=>
   intro Ab;simp only[OL,Bool.and_eq_true]at BB;have h:=BB.2;rw[Yq]at h;have h:=List.all_eq_true.1 (List.all_eq_true.1 h [] (List.mem_cons_self ..)) x Ab;simp only[List.contains_nil,Bool.or_false,Bool.false_or,Bool.or_eq_true,Bool.not_eq_true',List.nil_append]at h;rcases h with h|h
   · obtain⟨y,Bf,Acz⟩:=List.all_eq_false.1 h;exact Cg y (yS C' (by simpa using Acz)) Bf
   · simp at h
 refine⟨List.all_eq_true.2 fun x Ab=>(he x Ab).elim,?_⟩;rw[Q6,Yq];refine E7.intro fun h hh=>?_;have:=(List.mem_filter.1 hh).1;simp only[List.mem_cons,List.not_mem_nil,or_false]at this;subst this;exact fun _=>rfl
theorem AbC(AJ:Nat)(s:Iq)(XJ:(Nat->Value)->Own)(Af:S6 l s.E8=true)(h2:(List.range AJ).all (fun i=>dI l env i)=true)(C':ND l=true)(EY:LX l c.n=true)(BB:OL l s=true)
 (LY:∀A8:Array Bool,(∀i k,A8.getD i false=true->Gp l k i=true->A8.getD k false=true)->∀i,AJ<=i->i<l.length->(∀k,Gp l k i=true->A8.getD k false=true)->∀k,k<AJ->A8.getD k false=true)
 (AbE:(s.Eu.all fun x=>Nat.blt x AJ)=true)(aY:AJ<=l.length){L:Own}(Dv:s.L [] []=L)(Ge:E7 (fun h=>∀V:Nat->Value,s.L h (h.map V)=XJ V) (Q6 s))(Dk:OG c l s env D (l.take AJ) 0)(A:Nat->Array Bool->Act->World->Prop)
 (Cl:∀f A8 a w,Region.ready .any l.toArray A8≠[]->(∀i∈Region.ready .any l.toArray A8,∀Q',wpOp c.P l.toArray Q' i (A f (A8.setIfInBounds i true)) a w)->A (f+1) A8 a w)
 (k:∀V:Nat->Value,E7 (fun i=>(CN l i).isSome=true->s.Eb i=none->s.ok i (V i)) (List.range AJ)->∀a w,Fr c.n a (Eo l (EC s.Eb V) (List.range AJ)++env)->CI c.BW c.M w (XJ V)->BP (FM s.rs (EC s.Eb V) ((List.range AJ).filter fun i=>(CN l i).isSome)++D) w (XJ V)->A (l.length-AJ) (R' AJ l.length) a w)
 {a:Act}{w:World}(f:Fr c.n a env)(st:CI c.BW c.M w L)(AR:BP D w L):A l.length (Array.replicate l.length false) a w.drew:=by
 subst Dv;have hs:=C8.drew [] w;have NS:Nu c l s env D (Array.replicate l.length false) a w.drew []:=by
  refine⟨f,st.step hs,AR.step hs.nil,by simp,fun i k h _=>?_,fun i d h _=>?_,fun x _=>?_,fun x Ab=>(by cases Ab),?_⟩
  · rw[Px]at h;cases h
  · rw[Px]at h;cases h
  · rw[Px];simp
  · simp only[OL,Bool.and_eq_true]at BB;simpa using BB.1.1
 have key:∀(m:Nat) (A8:Array Bool) (a:Act) (w:World) (hh:List Nat),Nu c l s env D A8 a w hh->(∀i,AJ<=i->A8.getD i false=false)->(List.range AJ).countP (fun i=> !A8.getD i false)=m->
  A (m+(l.length-AJ)) A8 a w:=by
  intro m;induction m with
  |zero=>
   intro A8 a w hh Qn Av Bm;have C0:∀i,i<AJ->A8.getD i false=true:=fun i Ag=>by
    have:=List.countP_eq_zero.1 Bm i (List.mem_range.2 Ag);simpa using this
   have heq:A8=R' AJ l.length:=by
    apply Array.ext
    · simp[Qn.size,R']
    · intro i Hj G1;have e:A8[i]=A8.getD i false:=(by simp[Hj]);rw[e];simp only[R',List.getElem_toArray,List.getElem_map,List.getElem_range];by_cases Ag:i<AJ
      · rw[C0 i Ag];simp[Ag]
      · rw[Av i (by omega)];simp[Ag]
   have BI:hh∈Q6 s:=List.mem_filter.2 ⟨Qn.mem,List.all_eq_true.2 fun x Ab=>by simpa using(Qn.done x Ab).1 (C0 x (EU (List.all_eq_true.1 AbE x Ab)))⟩;have AH:=Ge.mem hh BI (valOf l a);have Gg:=Qn.st;have R_:=Qn.AR;have NM:=Qn.slot;rw[AH]at Gg R_ NM;subst heq;rw[Nat.zero_add];have Se:∀k,k<AJ->(CN l k).isSome=true->s.Rm k (valOf l a k):=fun k AE F6=>by
    obtain⟨d,F6⟩:=Option.isSome_iff_exists.1 F6;have:=(NM k d (C0 k AE) F6).1;simpa[valOf,Il,F6]using this
   have B4:Eo l (valOf l a) (List.range AJ)=Eo l (EC s.Eb (valOf l a)) (List.range AJ):=UC fun k AE F6=>bZ (Se k (List.mem_range.1 AE) F6);have DC:FM s.rs (valOf l a) ((List.range AJ).filter fun i=>(CN l i).isSome)=FM s.rs (EC s.Eb (valOf l a)) ((List.range AJ).filter fun i=>(CN l i).isSome):=ZY fun k AE=>bZ (Se k (List.mem_range.1 (List.mem_filter.1 AE).1) (by simpa using(List.mem_filter.1 AE).2));have AE:=k (valOf l a) (E7.intro fun i Ag F6 Ao=>ky (Se i (List.mem_range.1 Ag) F6) Ao);rw[<-B4,<-DC]at AE;refine AE _ _ (Qn.frame EY fun k AE=>Nat.lt_of_lt_of_le (List.mem_range.1 AE) aY) Gg (BP.app (fun t Av=>?_) R_);obtain⟨i,Ag,Av⟩:=WR Av;obtain⟨Tp,F6⟩:=List.mem_filter.1 Ag;obtain⟨d,F6⟩:=Option.isSome_iff_exists.1 F6;have:=(NM i d (C0 i (List.mem_range.1 Tp)) F6).2;simp only[valOf,Il,F6]at Av;exact this t Av
  |succ m Cg=>
   intro A8 a w hh Qn Av Bm;rw[show m+1+(l.length-AJ)=(m+(l.length-AJ))+1 by omega];have hex:∃i,i<AJ/\A8.getD i false=false:=by
    refine Classical.byContradiction fun Ao=>?_;have:(List.range AJ).countP (fun i=> !A8.getD i false)=0:=List.countP_eq_zero.2 fun i Ag=>by
     simp only[Bool.not_eq_true',Bool.not_eq_false];refine Classical.byContradiction fun h=>Ao ⟨i,List.mem_range.1 Ag,by simpa using h⟩
    omega
   refine Cl _ _ _ _ (fun Bh=>?_) (fun i Ag Q'=>?_)
   · exfalso;obtain⟨i0,OW,bh⟩:=hex;have C0:∀i,i<l.length->A8.getD i false=true:=by
      intro i;induction i using Nat.strongRecOn with
      |_ i AcC=>
       intro Ee;cases Tr:A8.getD i false with
       |true=>rfl
       |false=>
        exfalso;have:i∈Region.ready .any l.toArray A8:=by
         refine mem_ready.2 ⟨by rw[OQ (by rw[Qn.size];exact Ee)];exact Tr,l[i],by simp[List.getElem?_eq_getElem Ee],fun e he Aq=>?_⟩;have M7:=List.all_eq_true.1 C' i (List.mem_range.2 Ee);rw[List.getElem?_eq_getElem Ee]at M7;have:=List.all_eq_true.1 M7 e (Array.mem_toList_iff.2 he);rw[Aq]at this;have C_:=EU (by simpa using this);exact AcC e.on C_ (by omega)
        rw[Bh]at this;cases this
     rw[C0 i0 (by omega)]at bh;cases bh
   · obtain⟨Ib,o,Wx,WB⟩:=mem_ready.1 Ag;have A7:l[i]? =some o:=(by simpa using Wx);have Ee:i<l.length:=(List.getElem?_eq_some_iff.1 A7).1;have IE:i<A8.size:=(by rw[Qn.size];exact Ee);have Jg:A8.getD i false=false:=(by rw[<-OQ IE];exact Ib);have jo:i<AJ:=by
      rcases Nat.lt_or_ge i AJ with h|h
      · exact h
      · obtain⟨i0,OW,bh⟩:=hex;have:=LY A8 Qn.closed i h Ee (fun k AE=>by
         obtain⟨e,he,Aq,rfl⟩:=(S9 A7).1 AE;exact WB e he Aq) i0 OW
        rw[this]at bh;cases bh
     refine(Qn.tE (Q:=Q') Af (List.all_eq_true.1 h2 i (List.mem_range.2 jo)) BB EY Ag (fun Lg Qc V Az LC=>Dk.Aj8 jo Qc V Az LC) fun Dx AT DI WO=>?_);refine Cg _ Dx AT DI WO (fun j Ay=>?_) ?_
     · rw[Ia IE,Av j Ay];have:(i==j)=false:=(by simpa using(by omega:i≠j));rw[this];rfl
     · have C_:(List.range AJ).countP (fun k=> !(A8.setIfInBounds i true).getD k false)+1=(List.range AJ).countP (fun k=> !A8.getD k false):=by
        refine n6 AJ _ _ i jo (by rw[Jg];rfl) (by rw[Ia IE];simp) fun j Ay=>?_;rw[Ia IE];have:(i==j)=false:=(by simpa using Ne.symm Ay);rw[this];rfl
       omega
 have Ts:(List.range AJ).countP (fun i=> !(Array.replicate l.length false).getD i false)=AJ:=by
  rw[List.countP_eq_length_filter,List.filter_eq_self.2 fun i _=>by rw[Px];rfl,List.length_range]
 have:=key AJ _ a w.drew [] NS (fun i _=>Px _ _) Ts
 rwa [show AJ+(l.length-AJ)=l.length by omega]at this
end
end
open Go.RowKit
structure mZ (NT b:Nat) (A B:World):Prop where
 size:A.heap.size<=B.heap.size
 block:∀k,k<NT->k≠b->B.heap[k]? =A.heap[k]?
theorem Below.I3{NT b:Nat}{A B:World}(h:Below NT A B):mZ NT b A B:=⟨h.size,fun k AE _=>h.block k AE⟩
theorem C8.I3{NT b:Nat}{M:List Nat}{A B:World}(h:C8 M A B)(Ao:NT<=A.heap.size)(UU:∀k,k<NT->k∈M->k=b):mZ NT b A B:=
 ⟨h.size,fun k AE Aq=>h.block k (Nat.lt_of_lt_of_le AE Ao) (fun hm=>Aq (UU k AE hm))⟩
def mk(k:Nat):Deferred:={target:=.collected k,args:= #[]}
section
def JI:Value->Nat->Value
 | .slice (some a) _ _,o=>.pointer (some (a.add o))
 |_,_=>undef
theorem T0:∀(us cs:List Value) (o j:Nat),o+us.length<=cs.length->(MO cs o us)[j]? =if o<=j/\j<o+us.length then us[j-o]? else cs[j]?
 |[],cs,o,j,_=>by
  rw[MO,if_neg (by simp)]
 |u::us,cs,o,j,h=>by
  simp only[List.length_cons]at h;rw[MO,T0 us (cs.set o u) (o+1) j (by simp;omega)];by_cases Af:o+1<=j/\j<o+1+us.length
  · rw[if_pos Af,if_pos (by simp only[List.length_cons];omega),show j-o=(j-(o+1))+1 by omega];rfl
  · rw[if_neg Af];by_cases h2:j=o
    · subst h2;rw[if_pos (by simp),List.getElem?_set_self (by omega)];simp
    · rw[if_neg (by simp only[List.length_cons];omega),List.getElem?_set_ne (Ne.symm h2)]
theorem cE:∀(us cs:List Value) (o:Nat),(MO cs o us).length=cs.length
 |[],_,_=>rfl
 |_::us,cs,o=>by rw[MO,cE us];simp
theorem Vj{α:Type}[r:Be α]{S:Nat->Prop}{w:World}{e:TypeId}{v:Value}{xs:List α}(h:(row e v xs).holds S w)(Ab:xs≠[]):
 ∃(g cap:Nat) (cs:List Value) (Cy:List (List Value)),v=.slice (some ⟨g,0,none⟩) xs.length cap/\w.heap[g]? =some (.cells cs.toArray e (0,0))/\xs.length<=cap/\cap<=maxLen/\cs.length=cap*Be.size α/\cs.take (xs.length*Be.size α)=Cy.flatten/\HM S w Cy xs/\xs.length<=140737488355328:=by
 obtain⟨Cy,G8,Ep,AN⟩:=h;rcases G8.2 with⟨_,Ao⟩|⟨g,cap,cur,BC,_,CK,Bm,hm,hs,Av⟩
 · exact absurd (List.length_eq_zero_iff.1 Ao) Ab
 · exact⟨g,cap,cur.toList,Cy,BC,by simpa using CK,Bm,hm,by simpa using hs,Av,Ep,AN⟩
theorem ct{w:World}{g:Nat}{e:TypeId}{cs RX:List Value}{k:Nat}(CK:w.heap[g]? =some (.cells cs.toArray e (0,0)))(Av:cs.take k=RX):Lt w g 0 RX:=fun j u Ay=>by
 subst Av;rw[List.getElem?_take]at Ay;split at Ay
 · rw[cell_of_row w g _ _ e (0,0) CK];simpa using Ay
 · cases Ay
section
variable{c:Cj} {ops:Array Oper} {AP:Cj->Array Oper->List Oper->Env->Own->List Atom->Prop} [Dr:Ip AP] {env:Env} {L:Own} {D:List Atom} {rest:List Oper} {d:Nat} {v:Value} {t:TypeId} {p:String} {af:Array Edge} {x y z:Operand} {T:TypeId}
include Dr
theorem AcX{α:Type}{r:Be α}(i:Nat){xs:List α}{m:Int}{E e:TypeId}(Ab:AL env x=some v)(Ag:L[i]? =some (@row α r e v xs))(Bf:AL env y=some (.int .i64 m))(Av:H5 c.P T E r.size)(Bw:0<=m)(Af:m<(xs.length:Int))(Ao:Nat.blt d c.n=true)
 (k:AP c ops rest ((d,JI v (m.toNat*r.size))::env) L D):AP c ops (⟨some d,.indexAddr T x y,t,p,af,none⟩::rest) env L D:=
 Dr.read (σ:=Unit) rfl rfl (fun _=>(d,JI v (m.toNat*r.size))::env) (fun _=>D) (fun a w f st AR=>by
  obtain⟨g,cap,cs,Cy,rfl,_⟩:=@Vj α r _ _ _ _ _ (st.own _ (List.mem_of_getElem? Ag)) (by intro e;rw[e]at Af;simp at Af;omega);obtain⟨j,Ay,hs⟩:=Option.map_eq_some_iff.1 Av.2;refine⟨(),_,fun AT HW=>?_,f.put _ (EU Ao),AR⟩;simp[execOp,f.AL Ab,f.AL Bf,Instr.indexAt,asIntOf,run_underlying Av.1,Bw,Af,sizeOf,typeInfo,Ay,hs,JI]) (fun _=>k)
theorem Qk{α:Type}{s:Shape α}(i m:Nat){xs:List α}{ov:α}{e:TypeId}(Ab:AL env x=some (JI v (m*s.size)))(Ag:L[i]? =some (@row α (Be.D5 s) e v xs))(hm:xs[m]? =some ov){E:TypeId}(Av:Oc c.P E s.size)(Ao:Nat.blt d c.n=true)
 (k:∀h,s.wf ov->AP c ops rest ((d,.agg (s.cells ov h).toArray)::env) L ((@Atom.mk α (Be.D5 s) (.agg (s.cells ov h).toArray) ov)::(s.sub ov h++D))):
 AP c ops (⟨some d,.load E x,t,p,af,none⟩::rest) env L D:=
 Dr.read (σ:={h // s.wf ov}) rfl rfl (fun h=>(d,.agg (s.cells ov h.1).toArray)::env) (fun h=>(@Atom.mk α (Be.D5 s) (.agg (s.cells ov h.1).toArray) ov)::(s.sub ov h.1++D)) (fun a w f st AR=>by
  have Hv:=List.mem_of_getElem? Ag;obtain⟨g,cap,cs,Cy,rfl,CK,_,_,_,Md,Ep,_⟩:=@Vj α (Be.D5 s) _ _ _ _ _ (st.own _ Hv) (by intro e;rw[e]at hm;simp at hm);obtain⟨Cx,⟨h,rfl,Lc,Oi⟩,AN⟩:=@PH α (Be.D5 s) _ _ _ Cy xs 0 Ep (ct CK Md) m ov hm;have P':g∈L.J:=FW.2 ⟨_,Hv,by simp[Value.ownBlock]⟩;refine⟨⟨h,Oi⟩,.agg (s.cells ov h).toArray,fun AT hs=>?_,f.put _ (EU Ao),BP.cons ⟨rfl,⟨h,by simp[Value.cells],Lc,Oi⟩⟩ (BP.app (fun t Av=>Lc t Av) AR)⟩;have Sc:Lt AT g (0+m*s.size) (s.cells ov h):=AN.DY (hs.block g (TD CK) (by simp));have Ek:=fU (P:=c.P) (T:=E) (b:=g) (o:=0+m*s.size) (cs:=s.cells ov h) (by rw[s.len];exact Av) Sc;have HX:=f.AL Ab;simp only[JI,Addr.add_mid,Nat.zero_add]at HX Ek;simp[execOp,HX,Ek]) (fun h=>k h.1 h.2)
end
section
variable{c:Cj} {ops:Array Oper} {Q:AuE} {env:Env} {L:Own} {D:List Atom} {rest:List Oper} {v:Value} {t:TypeId} {p:String} {af:Array Edge} {x y z:Operand}
theorem Qz{α:Type}{s:Shape α}(i m:Nat){xs:List α}{ov:α}{e:TypeId}(h:s.H)(Ab:AL env x=some (JI v (m*s.size)))(Bf:AL env y=some (.agg (s.cells ov h).toArray))(Ag:L[i]? =some (@row α (Be.D5 s) e v xs))(hm:m<xs.length){E:TypeId}(Av:Oc c.P E s.size)(Cl:Bg (s.sub ov h) D)(hw:s.wf ov)
 (k:Cb Q c ops rest env (L.set i (@row α (Be.D5 s) e v (xs.set m ov))) D):Cb Q c ops (⟨none,.store E x y,t,p,af,none⟩::rest) env L D:=by
 refine c6 (env':=env) rfl rfl (fun a w f st AR=>?_) k;have Hv:=List.mem_of_getElem? Ag;obtain⟨g,cap,cs,Cy,rfl,CK,Bm,Yt,EY,Md,Ep,hlen⟩:=@Vj α (Be.D5 s) _ _ _ _ _ (st.own _ Hv) (by intro e;rw[e]at hm;simp at hm);have Fy:@Be.size α (Be.D5 s)=s.size:=rfl;rw[Fy]at EY Md;obtain⟨us,I1⟩:∃us,us=s.cells ov h:=⟨_,rfl⟩;have e0:us.length=s.size:=by rw[I1];exact s.len ov h
 have P':g∈L.J:=FW.2 ⟨_,Hv,by simp[Value.ownBlock]⟩;have Sd:(m+1)*s.size<=cap*s.size:=Nat.mul_le_mul_right _ (by omega);rw[Nat.succ_mul]at Sd;have Lc:∀t∈s.sub ov h,t.holds (Et L.J w) w:=fun t Av=>AR t (Cl t Av);have Ab7:us.toArray.all (·.oneCell')=true:=by
  rw[I1];simpa using s.one ov h Lc
 have hs:C8 [g] w (w.setCells g (m*s.size) us):=cG g us _ w;have Mc:=aU us cs (m*s.size) w CK;have EX:C8 (@row α (Be.D5 s) e (.slice (some ⟨g,0,none⟩) xs.length cap) xs).J w (w.setCells g (m*s.size) us):=hs.mono fun b Aq=>by simpa[Value.ownBlock]using Aq
 have UW:∀b,Et L.J w b->Et (Own.J (L.set i (@row α (Be.D5 s) e (.slice (some ⟨g,0,none⟩) xs.length cap) (xs.set m ov)))) (w.setCells g (m*s.size) us) b:=fun b Aq=>⟨Nat.lt_of_lt_of_le Aq.1 hs.size,fun Ab=>by
  rcases OK Ag b Ab with Af|Af
  · have:b=g:=(by simpa[Value.ownBlock]using Af);exact Aq.2 (this▸P')
  · exact Aq.2 Af⟩
 have UT:∀b,Et L.J w b->(w.setCells g (m*s.size) us).heap[b]? =w.heap[b]? :=fun b Aq=>hs.block b Aq.1 (fun Ab=>by
  have:b=g:=(by simpa using Ab);exact Aq.2 (this▸P'))
 have Gg:=st.KB (p':=@row α (Be.D5 s) e (.slice (some ⟨g,0,none⟩) xs.length cap) (xs.set m ov)) i Ag EX ?_ (by simp[Value.ownBlock]) (fun b Aq=>.inl Aq)
 · have R_:=AR.KB (p':=@row α (Be.D5 s) e (.slice (some ⟨g,0,none⟩) xs.length cap) (xs.set m ov)) i Ag EX (fun b Aq=>.inl Aq);refine⟨w.setCells g (m*s.size) us,?_,f.Su _,Gg,R_⟩;have Ek:=run_storeAt_mid (P:=c.P) w g (m*s.size) E us.toArray (fun j Ay=>by
    have J9:m*s.size+j<cs.length:=(by simp at Ay;omega);exact⟨by rw[cell_of_row w g _ _ e (0,0) CK];simp[List.getElem?_eq_getElem J9],frozen_of_row w g _ _ e CK⟩) (by rw[show us.toArray.size=s.size by simpa using e0];exact Av.2) Ab7
   have HX:=f.AL Ab;simp only[JI,Addr.add_mid,Nat.zero_add]at HX;have U6:=f.AL Bf;rw[<-I1]at U6;simp[execOp,HX,U6,Ek]
 · -- the row as it is now
   have a7:∀FV MT,(xs.set m ov)[FV]? =some MT->∃Cx,@Be.rd α (Be.D5 s) (Et (Own.J (L.set i (@row α (Be.D5 s) e (.slice (some ⟨g,0,none⟩) xs.length cap) (xs.set m ov)))) (w.setCells g (m*s.size) us)) (w.setCells g (m*s.size) us) Cx MT/\Lt (w.setCells g (m*s.size) us) g (0+(0+FV)*s.size) Cx:=by
    intro FV MT HX;by_cases Sb:FV=m
    · subst Sb;rw[List.getElem?_set_self hm]at HX;have:MT=ov:=(by simpa using HX.symm);subst this;refine⟨us,⟨h,I1,fun t Av=>Atom.DY (Lc t Av) UW UT,hw⟩,fun j u Ay=>?_⟩;have J9:j<us.length:=(List.getElem?_eq_some_iff.1 Ay).1;simp only[Nat.zero_add];rw[cell_of_row _ g _ _ e (0,0) Mc,List.getElem?_toArray,T0 us cs _ _ (by omega),if_pos (by omega),show FV*s.size+j-FV*s.size=j by omega];exact Ay
    · rw[List.getElem?_set_ne (Ne.symm Sb)]at HX;obtain⟨Cx,K',OT⟩:=@PH α (Be.D5 s) _ _ _ Cy xs 0 Ep (ct CK Md) FV MT HX;have LH:Cx.length=s.size:=@Be.len α (Be.D5 s) _ _ _ _ K';refine⟨Cx,@Be.DY α (Be.D5 s) _ _ _ _ _ _ K' UW UT,fun j u Ay=>?_⟩;have J9:j<Cx.length:=(List.getElem?_eq_some_iff.1 Ay).1;have hold:=OT j u Ay;simp only[Nat.zero_add]at hold ⊢;rw[cell_of_row w g _ _ e (0,0) CK,List.getElem?_toArray]at hold;rw[cell_of_row _ g _ _ e (0,0) Mc,List.getElem?_toArray,T0 us cs _ _ (by omega),if_neg ?_]
      · exact hold
      · rcases Nat.lt_or_gt_of_ne Sb with C_|C_
        · have:=Nat.mul_le_mul_right s.size (show FV+1<=m by omega);rw[Nat.succ_mul]at this;omega
        · have:=Nat.mul_le_mul_right s.size (show m+1<=FV by omega);rw[Nat.succ_mul]at this;omega
   obtain⟨RP,NL,Sc⟩:=@cn α (Be.D5 s) _ _ g 0 (xs.set m ov) 0 a7;have FF:=@HM.len α (Be.D5 s) _ _ RP _ NL;rw[Fy,List.length_set]at FF;refine⟨RP,⟨by rw[List.length_set];exact FF,.inr ⟨g,cap,(MO cs (m*s.size) us).toArray,by rw[List.length_set],Nat.zero_le _,Mc,by rw[List.length_set];exact Bm,Yt,(show(MO cs (m*s.size) us).toArray.size=cap*s.size by simpa[cE]using EY),?_⟩⟩,NL,by rw[List.length_set];exact hlen⟩;rw[List.length_set];show List.take (xs.length*s.size) _=RP.flatten;refine List.ext_getElem? fun j=>?_;by_cases Ay:j<xs.length*s.size
   · rw[List.getElem?_take,if_pos Ay];have U2:j<RP.flatten.length:=(by rw[FF];exact Ay);have:=Sc j _ (List.getElem?_eq_getElem U2);rw[cell_of_row _ g _ _ e (0,0) Mc,List.getElem?_toArray]at this;rw[List.getElem?_eq_getElem U2,<-this];simp
   · rw[List.getElem?_eq_none (by simp;omega),List.getElem?_eq_none (by omega)]
end
end
section
section
variable{α:Type} [Inhabited α]
variable(lt:α->α->Bool)
def search(f:Nat->Bool):Nat->Nat->Nat->Nat
 |0,i,_=>i
 |n+1,i,j=>if i<j then(if f ((i+j) / 2)=true then search f n ((i+j) / 2+1) j else search f n i ((i+j) / 2))else i
theorem lI(f:Nat->Bool):∀(n i j:Nat),i<=j->i<=search f n i j/\search f n i j<=j
 |0,i,j,h=>⟨Nat.le_refl _,h⟩
 |n+1,i,j,h=>by
  rw[search];split
  · rename_i Ag;split
    · have:=lI f n ((i+j) / 2+1) j (by omega);omega
    · have:=lI f n i ((i+j) / 2) (by omega);omega
  · omega
theorem lG(f:Nat->Bool)(n i j:Nat)(h:j<=i):search f n i j=i:=by
 cases n
 · rfl
 · rw[search,if_neg (by omega)]
end
end
open Go.RowKit
section
theorem AiH{α:Type}{s:Shape α}{c:Cj}{w AT:World}{L:Own}{D:List Atom}(i m:Nat){xs:List α}{ov:α}{e:TypeId}{g cap:Nat}{cs:List Value}(h:s.H)(Ag:L[i]? =some (@row α (Be.D5 s) e (.slice (some ⟨g,0,none⟩) xs.length cap) xs))(hm:m<xs.length)(Cl:Bg (s.sub ov h) D)(hw:s.wf ov)
 (st:CI c.BW c.M w L)(AR:BP D w L)(CK:w.heap[g]? =some (.cells cs.toArray e (0,0)))(hs:C8 [g] w AT)(Mc:AT.heap[g]? =some (.cells (MO cs (m*s.size) (s.cells ov h)).toArray e (0,0))):
 CI c.BW c.M AT (L.set i (@row α (Be.D5 s) e (.slice (some ⟨g,0,none⟩) xs.length cap) (xs.set m ov)))/\BP D AT (L.set i (@row α (Be.D5 s) e (.slice (some ⟨g,0,none⟩) xs.length cap) (xs.set m ov))):=by
 have Hv:=List.mem_of_getElem? Ag;obtain⟨Hj,AmJ,yo,Cy,Rh,pF,Bm,Yt,EY,Md,Ep,hlen⟩:=@Vj α (Be.D5 s) _ _ _ _ _ (st.own _ Hv) (by intro e;rw[e]at hm;simp at hm);simp only[Value.slice.injEq,Option.some.injEq,Addr.mk.injEq,and_true,true_and]at Rh;obtain⟨rfl,rfl⟩:=Rh;rw[CK]at pF;have I0:cs=yo:=by simpa using pF
 subst I0;have Fy:@Be.size α (Be.D5 s)=s.size:=rfl;rw[Fy]at EY Md;obtain⟨us,I1⟩:∃us,us=s.cells ov h:=⟨_,rfl⟩;have e0:us.length=s.size:=by rw[I1];exact s.len ov h
 rw[<-I1]at Mc;have P':g∈L.J:=FW.2 ⟨_,Hv,by simp[Value.ownBlock]⟩;have Sd:(m+1)*s.size<=cap*s.size:=Nat.mul_le_mul_right _ (by omega);rw[Nat.succ_mul]at Sd;have Lc:∀t∈s.sub ov h,t.holds (Et L.J w) w:=fun t Av=>AR t (Cl t Av);have EX:C8 (@row α (Be.D5 s) e (.slice (some ⟨g,0,none⟩) xs.length cap) xs).J w AT:=hs.mono fun b Aq=>by simpa[Value.ownBlock]using Aq
 have UW:∀b,Et L.J w b->Et (Own.J (L.set i (@row α (Be.D5 s) e (.slice (some ⟨g,0,none⟩) xs.length cap) (xs.set m ov)))) AT b:=fun b Aq=>⟨Nat.lt_of_lt_of_le Aq.1 hs.size,fun Ab=>by
  rcases OK Ag b Ab with Af|Af
  · have:b=g:=(by simpa[Value.ownBlock]using Af);exact Aq.2 (this▸P')
  · exact Aq.2 Af⟩
 have UT:∀b,Et L.J w b->AT.heap[b]? =w.heap[b]? :=fun b Aq=>hs.block b Aq.1 (fun Ab=>by
  have:b=g:=(by simpa using Ab);exact Aq.2 (this▸P'))
 refine⟨st.KB (p':=@row α (Be.D5 s) e (.slice (some ⟨g,0,none⟩) xs.length cap) (xs.set m ov)) i Ag EX ?_ (by simp[Value.ownBlock]) (fun b Aq=>.inl Aq),AR.KB (p':=@row α (Be.D5 s) e (.slice (some ⟨g,0,none⟩) xs.length cap) (xs.set m ov)) i Ag EX (fun b Aq=>.inl Aq)⟩;have a7:∀FV MT,(xs.set m ov)[FV]? =some MT->∃Cx,@Be.rd α (Be.D5 s) (Et (Own.J (L.set i (@row α (Be.D5 s) e (.slice (some ⟨g,0,none⟩) xs.length cap) (xs.set m ov)))) AT) AT Cx MT/\Lt AT g (0+(0+FV)*s.size) Cx:=by
  intro FV MT HX;by_cases Sb:FV=m
  · subst Sb;rw[List.getElem?_set_self hm]at HX;have:MT=ov:=(by simpa using HX.symm);subst this;refine⟨us,⟨h,I1,fun t Av=>Atom.DY (Lc t Av) UW UT,hw⟩,fun j u Ay=>?_⟩;have J9:j<us.length:=(List.getElem?_eq_some_iff.1 Ay).1;simp only[Nat.zero_add];rw[cell_of_row _ g _ _ e (0,0) Mc,List.getElem?_toArray,T0 us cs _ _ (by omega),if_pos (by omega),show FV*s.size+j-FV*s.size=j by omega];exact Ay
  · rw[List.getElem?_set_ne (Ne.symm Sb)]at HX;obtain⟨Cx,K',OT⟩:=@PH α (Be.D5 s) _ _ _ Cy xs 0 Ep (ct CK Md) FV MT HX;have LH:Cx.length=s.size:=@Be.len α (Be.D5 s) _ _ _ _ K';refine⟨Cx,@Be.DY α (Be.D5 s) _ _ _ _ _ _ K' UW UT,fun j u Ay=>?_⟩;have J9:j<Cx.length:=(List.getElem?_eq_some_iff.1 Ay).1;have hold:=OT j u Ay;simp only[Nat.zero_add]at hold ⊢;rw[cell_of_row w g _ _ e (0,0) CK,List.getElem?_toArray]at hold;rw[cell_of_row _ g _ _ e (0,0) Mc,List.getElem?_toArray,T0 us cs _ _ (by omega),if_neg ?_]
    · exact hold
    · rcases Nat.lt_or_gt_of_ne Sb with C_|C_
      · have:=Nat.mul_le_mul_right s.size (show FV+1<=m by omega);rw[Nat.succ_mul]at this;omega
      · have:=Nat.mul_le_mul_right s.size (show m+1<=FV by omega);rw[Nat.succ_mul]at this;omega
 obtain⟨RP,NL,Sc⟩:=@cn α (Be.D5 s) _ _ g 0 (xs.set m ov) 0 a7;have FF:=@HM.len α (Be.D5 s) _ _ RP _ NL;rw[Fy,List.length_set]at FF;refine⟨RP,⟨by rw[List.length_set];exact FF,.inr ⟨g,cap,(MO cs (m*s.size) us).toArray,by rw[List.length_set],Nat.zero_le _,Mc,by rw[List.length_set];exact Bm,Yt,(show(MO cs (m*s.size) us).toArray.size=cap*s.size by simpa[cE]using EY),?_⟩⟩,NL,by rw[List.length_set];exact hlen⟩;rw[List.length_set];show List.take (xs.length*s.size) _=RP.flatten;refine List.ext_getElem? fun j=>?_;by_cases Ay:j<xs.length*s.size
 · rw[List.getElem?_take,if_pos Ay];have U2:j<RP.flatten.length:=(by rw[FF];exact Ay);have:=Sc j _ (List.getElem?_eq_getElem U2);rw[cell_of_row _ g _ _ e (0,0) Mc,List.getElem?_toArray]at this;rw[List.getElem?_eq_getElem U2,<-this];simp
 · rw[List.getElem?_eq_none (by simp;omega),List.getElem?_eq_none (by omega)]
section
variable{c:Cj} {ops:Array Oper} {AP:Cj->Array Oper->List Oper->Env->Own->List Atom->Prop} [Dr:Ip AP] {env:Env} {L:Own} {D:List Atom} {rest:List Oper} {d:Nat} {v:Value} {t:TypeId} {p:String} {af:Array Edge} {x y z:Operand} {T:TypeId}
include Dr
theorem IF{α:Type}{r:Be α}(i n:Nat){xs:List α}{m:Int}{E e:TypeId}(Ab:AL env x=some v)(Ag:L[i]? =some (@row α r e v xs))(Bf:AL env y=some (.int .i64 m))(Av:H5 c.P T E r.size)(hm:m=(n:Int))(Af:n<xs.length)(Ao:Nat.blt d c.n=true)
 (k:AP c ops rest ((d,JI v (n*r.size))::env) L D):AP c ops (⟨some d,.indexAddr T x y,t,p,af,none⟩::rest) env L D:=
 AcX i Ab Ag Bf Av (by omega) (by omega) Ao (by rw[hm];exact k)
omit Dr in
theorem oz{S:Nat->Prop}{w:World}{α:Type}[r:Be α]{e:TypeId}{v:Value}{xs:List α}(h:(row e v xs).holds S w)(Ab:xs≠[]):∃g cap,v=.slice (some ⟨g,0,none⟩) xs.length cap:=by
 obtain⟨g,cap,cs,Cy,BC,_⟩:=Vj h Ab;exact⟨g,cap,BC⟩
theorem K3{α:Type}{r:Be α}(i:Nat){xs:List α}{e:TypeId}{o off j:Nat}(Ab:AL env x=some (JI v o))(Ag:L[i]? =some (@row α r e v xs))(FG:0<xs.length)(JU:QD c.P T j off)(Ao:Nat.blt d c.n=true)
 (k:AP c ops rest ((d,JI v (o+off))::env) L D):AP c ops (⟨some d,.fieldAddr T x j,t,p,af,none⟩::rest) env L D:=
 Dr.fact (q:=∃g cap,v=.slice (some ⟨g,0,none⟩) xs.length cap) (fun a w f st AR=>@oz _ _ α r _ _ _ (st.own _ (List.mem_of_getElem? Ag)) (by intro e;rw[e]at FG;simp at FG)) fun⟨g,cap,BC⟩=>by
  subst BC;simp only[JI,Addr.add_mid]at Ab k;exact UG Ab JU Ao (by rw[Nat.add_assoc];exact k)
theorem NR{α:Type}{s:Shape α}(i m o:Nat){xs:List α}{ov:α}{e:TypeId}(u:s.H->Value)(Ab:AL env x=some (JI v (m*s.size+o)))(Ag:L[i]? =some (@row α (Be.D5 s) e v xs))(hm:xs[m]? =some ov)(hu:∀h,(s.cells ov h)[o]? =some (u h)){E:TypeId}(Av:Nv c.P E)(Ao:Nat.blt d c.n=true)
 (k:∀h,s.wf ov->AP c ops rest ((d,u h)::env) L (s.sub ov h++D)):
 AP c ops (⟨some d,.load E x,t,p,af,none⟩::rest) env L D:=
 Dr.read (σ:={h // s.wf ov}) rfl rfl (fun h=>(d,u h.1)::env) (fun h=>s.sub ov h.1++D) (fun a w f st AR=>by
  have Hv:=List.mem_of_getElem? Ag;obtain⟨g,cap,cs,Cy,rfl,CK,_,_,_,Md,Ep,_⟩:=@Vj α (Be.D5 s) _ _ _ _ _ (st.own _ Hv) (by intro e;rw[e]at hm;simp at hm);obtain⟨Cx,⟨h,rfl,Lc,Oi⟩,AN⟩:=@PH α (Be.D5 s) _ _ _ Cy xs 0 Ep (ct CK Md) m ov hm;have P':g∈L.J:=FW.2 ⟨_,Hv,by simp[Value.ownBlock]⟩;refine⟨⟨h,Oi⟩,u h,fun AT hs=>?_,f.put _ (EU Ao),BP.app (fun t Av=>Lc t Av) AR⟩;have Sc:Lt AT g (0+m*s.size) (s.cells ov h):=AN.DY (hs.block g (TD CK) (by simp));have Bm:=Sc o _ (hu h);have Ek:=fT (P:=c.P) Av (a:=⟨g,m*s.size+o,none⟩) (v:=u h) (w:=AT) (by simpa using Bm);have HX:=f.AL Ab;simp only[JI,Addr.add_mid,Nat.zero_add]at HX;simp[execOp,HX,Ek]) (fun h=>k h.1 h.2)
end
end
section
section
variable{c:Cj} {ops:Array Oper} {AP:Cj->Array Oper->List Oper->Env->Own->List Atom->Prop} [Dr:Ip AP] {env:Env} {L:Own} {D:List Atom} {rest:List Oper} {d:Nat} {t:TypeId} {p:String} {af:Array Edge} {x y:Operand} {Ec FK:TypeId}
include Dr
theorem fZ{m n r:Int}(Ab:AL env x=some (.int .i64 m))(Bf:AL env y=some (.int .i64 n))(Bh:m-n=r)(Ag:A' r)(Ao:Nat.blt d c.n=true)(k:AP c ops rest ((d,.int .i64 r)::env) L D):
 AP c ops (⟨some d,.binOp .sub Ec x y FK,t,p,af,none⟩::rest) env L D:=by
 subst Bh;exact TU Ab Bf Ag Ao k
theorem Hf{m n r:Int}(Ab:AL env x=some (.int .i64 m))(Bf:AL env y=some (.int .i64 n))(Bh:m+n=r)(Ag:A' r)(Ao:Nat.blt d c.n=true)(k:AP c ops rest ((d,.int .i64 r)::env) L D):
 AP c ops (⟨some d,.binOp .add Ec x y FK,t,p,af,none⟩::rest) env L D:=by
 subst Bh;exact C5 Ab Bf Ag Ao k
end
section
variable{c:Cj} {Q:AuE} {env:Env} {L:Own} {D:List Atom} {x:Code}
theorem qA{σ:Type}(C:Env)(Dw:List Atom)(V:σ->Env->Env)(LL:σ->Own)(I:σ->Prop)(_hC:Go.A_.Sub C env)(_hc:Bg Dw D)(Af:CF c x (Exit.then (gX c (fun s=>V s C) LL (fun _=>Dw) I) Q) env L D)(h2:∀s,I s->Eg c Q .normal (V s C) (LL s) Dw):CF c x Q env L D:=
 AcY (fun s=>V s C) LL (fun _=>Dw) I Af h2
end
theorem mh{n:Nat}(h:n<9223372036854775808):IntKind.u64.wrap (n:Int)=(n:Int):=by
 simp[IntKind.wrap,IntKind.signed,IntKind.bits];omega
theorem jO{n:Nat}(h:n<9223372036854775808):IntKind.i64.wrap (n:Int)=(n:Int):=Uf ⟨by omega,by omega⟩
theorem lO(u:Nat):((u:Int)).fdiv (2^min (1:Int).toNat IntKind.u64.bits)=((u / 2:Nat):Int):=by
 rw[show((2:Int)^min (1:Int).toNat IntKind.u64.bits)=2 by decide];rw[Int.fdiv_eq_ediv_of_nonneg _ (by decide)];omega
section
variable{α:Type} [Inhabited α]
theorem s'(f:Nat->Bool){n i j:Nat}(h:i<j)(Ao:0<n):search f n i j=if f ((i+j) / 2)=true then search f (n-1) ((i+j) / 2+1) j else search f (n-1) i ((i+j) / 2):=by
 obtain⟨n,rfl⟩:∃k,n=k+1:=⟨n-1,by omega⟩;rw[search,if_pos h];rfl
theorem lK(f:Nat->Bool){n i j:Nat}(h:i<j)(Ao:j-i<=n)(BI:f ((i+j) / 2)=true):search f n i j=search f (n-1) ((i+j) / 2+1) j:=by rw[s' f h (by omega),if_pos BI]
theorem lH(f:Nat->Bool){n i j:Nat}(h:i<j)(Ao:j-i<=n)(BI:¬f ((i+j) / 2)=true):search f n i j=search f (n-1) i ((i+j) / 2):=by rw[s' f h (by omega),if_neg BI]
end
end
section
section
variable{c:Cj} {ops:Array Oper} {AP:Cj->Array Oper->List Oper->Env->Own->List Atom->Prop} [Dr:Ip AP] {env:Env} {L:Own} {D:List Atom} {rest:List Oper} {d:Nat} {t:TypeId} {p:String} {af:Array Edge} {x y:Operand} {T:TypeId}
include Dr
theorem dR{A:Option Addr}{m Dc:Nat}{E:TypeId}(Ab:AL env x=some (.slice A m Dc))(Av:c.P.underlying T=some (.slice E))(Ao:Nat.blt d c.n=true)
 (k:AP c ops rest ((d,.int .i64 (Dc:Int))::env) L D):
 AP c ops (⟨some d,.call {callee:=.builtin .cap,args:= #[x],argTypes:= #[T]},t,p,af,none⟩::rest) env L D:=
 pu rfl rfl Ao (fun a w f=>by simp[execOp,resolve,invoke,builtin,f.AL Ab,Builtin.cap_,run_underlying Av,goInt]) k
theorem PO{A:Option Addr}{m Dc h:Nat}{E:TypeId}{B7:Nat}{Ag:Operand}(Ab:AL env x=some (.slice A m Dc))(Av:H5 c.P T E B7)(DC:AL env Ag=some (.int .i64 (h:Int)))(Bo:h<=Dc)(Ao:Nat.blt d c.n=true)
 (k:AP c ops rest ((d,.slice A h Dc)::env) L D):
 AP c ops (⟨some d,.slice T x none (some Ag) none,t,p,af,none⟩::rest) env L D:=
 pu rfl rfl Ao (fun a w f=>by
  obtain⟨j,Ay,hs⟩:=Option.map_eq_some_iff.1 Av.2;have Dh:(0:Int)<=h/\(h:Int)<=(Dc:Int):=(by omega);have Fb:(if Dc=0 then A else A.map (·.add 0))=A:=by
   split
   · rfl
   · cases A
     · rfl
     · simp[Addr.add]
  simp[execOp,f.AL Ab,f.AL DC,Instr.sliceAt,run_underlying Av.1,Instr.slice,Instr.sliceBounds,Instr.sliceBound,asIntOf,Dh,sizeOf,typeInfo,Ay];rw[if_pos Bo,Fb]) k
end
end
section
section
variable{c:Cj} {l:List Oper} {s:Iq} {env:Env} {D:List Atom} {Q:AuE}
def fO(l:List Oper)(k:Nat):Nat->Nat->Bool
 |0,_=>false
 |f+1,i=>(List.range i).any fun j=>Gp l j i&&(j==k||fO l k f j)
theorem sO{l:List Oper}{A8:Array Bool}(E5:∀i k,A8.getD i false=true->Gp l k i=true->A8.getD k false=true){k:Nat}:∀(f i:Nat),(∀j,Gp l j i=true->A8.getD j false=true)->fO l k f i=true->A8.getD k false=true
 |0,_,_,h=>by cases h
 |f+1,i,Ag,h=>by
  rw[fO,List.any_eq_true]at h;obtain⟨j,_,Ay⟩:=h;simp only[Bool.and_eq_true,Bool.or_eq_true,beq_iff_eq]at Ay;have a0:=Ag j Ay.1;rcases Ay.2 with rfl|h2
  · exact a0
  · exact sO E5 f j (fun q B'=>E5 j q a0 B') h2
def l3(l:List Oper)(AJ:Nat):Bool:=((List.range AJ).all fun k=>fO l k AJ AJ)&&((List.range l.length).all fun i=>Nat.ble i AJ||Gp l (i-1) i)
theorem Aj4{l:List Oper}{AJ:Nat}(h:l3 l AJ=true)(A8:Array Bool)(E5:∀i k,A8.getD i false=true->Gp l k i=true->A8.getD k false=true):
 ∀i,AJ<=i->i<l.length->(∀k,Gp l k i=true->A8.getD k false=true)->∀k,k<AJ->A8.getD k false=true:=by
 simp only[l3,Bool.and_eq_true]at h;intro i;induction i with
 |zero=>
  intro Ag AN AH k AE;omega
 |succ i Cg=>
  intro Ag AN AH k AE;by_cases he:i+1=AJ
  · exact sO E5 AJ AJ (by rw[<-he];exact AH) (List.all_eq_true.1 h.1 k (List.mem_range.2 AE))
  · have Bm:=List.all_eq_true.1 h.2 (i+1) (List.mem_range.2 AN);simp only[Bool.or_eq_true,Nat.add_sub_cancel]at Bm;rcases Bm with Bm|Bm
    · have:=Nat.le_of_ble_eq_true Bm;omega
    · have Tp:=AH i Bm;exact Cg (by omega) (by omega) (fun q B'=>E5 i q Tp B') k AE
def fQ(AJ:Nat)(l:List Oper)(env:Env)(s:Iq)(n:Nat):Bool:=S6 l s.E8&&(List.range AJ).all (fun i=>dI l env i)&&ND l&&LX l n&&OL l s&&l3 l AJ&&Region.seqB .any l.toArray (l.drop AJ).length AJ (R' AJ l.length)
theorem Alj{AJ:Nat}{L:Own}(AE:Cb Q c l.toArray (l.drop AJ) env L D)(jG:Region.seqB .any l.toArray (l.drop AJ).length AJ (R' AJ l.length)=true){a:Act}{w:World}(f:Fr c.n a env)(st:CI c.BW c.M w L)(AR:BP D w L):
 wpAny c.P .any l.toArray Q (l.length-AJ) (R' AJ l.length) a w:=by
 have h:=wpAny_of_seq (md:=.any) (Q':=Q) (l.drop AJ) AJ (R' AJ l.length) a w (fun j=>by simp[List.getElem?_drop]) jG (AE a w f st AR)
 rwa [List.length_drop]at h
theorem AiB(AJ:Nat)(s:Iq)(Yq:s.hs=[[]])(CM:fQ AJ l env s c.n=true)(aY:AJ<=l.length){L:Own}(Dv:s.L [] []=L)(Dk:OG c l s env D (l.take AJ) 0)(A:Nat->Array Bool->Act->World->Prop)
 (Cl:∀f A8 a w,Region.ready .any l.toArray A8≠[]->(∀i∈Region.ready .any l.toArray A8,∀Q',wpOp c.P l.toArray Q' i (A f (A8.setIfInBounds i true)) a w)->A (f+1) A8 a w)
 (k:∀V:Nat->Value,E7 (fun i=>(CN l i).isSome=true->s.Eb i=none->s.ok i (V i)) (List.range AJ)->∀a w,Fr c.n a (Eo l (EC s.Eb V) (List.range AJ)++env)->CI c.BW c.M w L->BP (FM s.rs (EC s.Eb V) ((List.range AJ).filter fun i=>(CN l i).isSome)++D) w L->A (l.length-AJ) (R' AJ l.length) a w)
 {a:Act}{w:World}(f:Fr c.n a env)(st:CI c.BW c.M w L)(AR:BP D w L):A l.length (Array.replicate l.length false) a w.drew:=by
 simp only[fQ,Bool.and_eq_true]at CM;obtain⟨⟨⟨⟨⟨⟨Af,h2⟩,C'⟩,EY⟩,BB⟩,Aa1⟩,_⟩:=CM;subst Dv;obtain⟨Ey,Ez⟩:=AhY AJ s Yq BB C';exact AbC AJ s (fun _=>s.L [] []) Af h2 C' EY BB (Aj4 Aa1) Ey aY rfl Ez Dk A Cl k f st AR
theorem sP{id:Nat}(AJ:Nat)(s:Iq)(Yq:s.hs=[[]])(hm:c.P.follows .mixedOrders=true)(CM:fQ AJ l env s c.n=true)(aY:AJ<=l.length){L:Own}(Dv:s.L [] []=L)(Dk:OG c l s env D (l.take AJ) 0)
 (k:∀V:Nat->Value,E7 (fun i=>(CN l i).isSome=true->s.Eb i=none->s.ok i (V i)) (List.range AJ)->
  Cb Q c l.toArray (l.drop AJ) (Eo l (EC s.Eb V) (List.range AJ)++env) L (FM s.rs (EC s.Eb V) ((List.range AJ).filter fun i=>(CN l i).isSome)++D)):CF c (.region id l.toArray true) Q env L D:=fun a w f st AR=>by
 have jG:Region.seqB .any l.toArray (l.drop AJ).length AJ (R' AJ l.length)=true:=by
  simp only[fQ,Bool.and_eq_true]at CM;exact CM.2
 exact wp_region_any hm (AiB AJ s Yq CM aY Dv Dk (wpAny c.P .any l.toArray Q) (fun _ _ _ _ Bw h=>⟨fun Af=>absurd Af Bw,fun i Ag=>h i Ag Q⟩) (fun V LC a w f st AR=>Alj (k V LC) jG f st AR) f st AR)
end
theorem h7{P:Program}{d m:Nat}{f:Field}{B1:List Field}{xs ys zs1 zs2:Array Value}{r s:Bool}{w:World}(Ao:(f.name== "_")=false){Cx:TypeDesc}(hu:P.underlying f.type=some Cx)(Bh:Cx.isRow=true)(hm:(P.info? f.type).map (·.size)=some m)(AK:xs.extract f.offset (f.offset+m)=zs1)(Aq:ys.extract f.offset (f.offset+m)=zs2)
 (he:∀w,(Op.equalIn d f.type (.agg zs1) (.agg zs2)).run P w=.ok r w)(bd:∀w,(Op.eqFields d xs ys B1).run P w=.ok s w):(Op.eqFields d xs ys (f::B1)).run P w=.ok (r&&s) w:=by
 have eO:f.name≠ "_" :=by simpa using Ao
 obtain⟨j,Ay,hs⟩:=Option.map_eq_some_iff.1 hm;have AH:∀(zs z:Array Value),zs.extract f.offset (f.offset+m)=z->∀w,(part f.type zs f.offset).run P w=.ok (.agg z) w:=by
  intro zs z Cu w;unfold part;rw[Sem.run_bind,lq hu,Result.andThen_ok,Bh];simp[sizeOf,typeInfo,Ay,hs,Cu]
 unfold Op.eqFields;rw[if_pos eO];simp only[Sem.run_bind,AH xs zs1 AK,AH ys zs2 Aq,he,Result.andThen_ok];cases r with
 |false=>simp
 |true=>simpa using bd w
end
open Go.RowKit
section
structure ZQ where
instance ld:Be ZQ where
 size:=1
 agg:=false
 rd _ _ cs _:=∃u:Value,cs=[u]/\u.oneCell'=true
 len:=by rintro S w cs x ⟨u,rfl,_⟩;rfl
 one:=by
  rintro S w cs x ⟨u,rfl,h⟩ Pc hu;have:Pc=u:=(by simpa using hu);rw[this];exact h
 DY:=by
  rintro S Fq w AT cs x h _ _;exact h
theorem Aft{S:Nat->Prop}{w:World}{u:Value}(h:u.oneCell'=true):Atom.holds (@Atom.mk ZQ ld u ⟨⟩) S w:=by
 have AK:YA u=false:=by cases u<;>first|rfl|simp[Value.oneCell']at h
 exact⟨AK,u,by rw[show(Atom.mk u (⟨⟩:ZQ)).v=u from rfl,NC AK],h⟩
theorem TJ{S:Nat->Prop}{w:World}{u:Value}(h:Atom.holds (@Atom.mk ZQ ld u ⟨⟩) S w):u.oneCell'=true:=by
 obtain⟨AK,Pc,Af,h2⟩:=h;have AK:YA u=false:=AK;have Af:u.cells.toList=[Pc]:=Af;rw[NC AK]at Af;have:u=Pc:=by simpa using Af
 rw[this];exact h2
@[reducible] def rQ(cs:List Value):List Atom:=cs.map fun u=>@Atom.mk ZQ ld u ⟨⟩
theorem rR{S:Nat->Prop}{w:World}{cs:List Value}(h:∀u∈cs,u.oneCell'=true):∀t∈rQ cs,t.holds S w:=fun t Av=>by
 obtain⟨u,hu,rfl⟩:=List.mem_map.1 Av;exact Aft (h u hu)
@[reducible] def Shape.raw{α:Type}(s:Shape α):Shape (α×s.H) where
 H:=Unit
 size:=s.size
 cells x _:=s.cells x.1 x.2
 sub x _:=rQ (s.cells x.1 x.2)
 wf x:=s.wf x.1
 len x _:=s.len x.1 x.2
 one:=by
  intro S w x h Av u hu;exact TJ (Av _ (List.mem_map.2 ⟨u,hu,rfl⟩))
@[reducible] def Iy{α:Type}(s:Shape α):Be (α×s.H):=Be.D5 s.raw
structure wi (NT b:Nat) (E:TypeId) (A B:World):Prop where
 size:A.heap.size<=B.heap.size
 block:∀k,k<NT->k≠b->B.heap[k]? =A.heap[k]?
 typed:∀k cs T RX,k≠b->T≠E->A.heap[k]? =some (.cells cs T RX)->B.heap[k]? =some (.cells cs T RX)
theorem C8.bu{NT b:Nat}{E:TypeId}{M:List Nat}{A B:World}(h:C8 M A B)(Ao:NT<=A.heap.size)(UU:∀k,k∈M->k<A.heap.size->k=b\/(NT<=k/\∃cs RX,A.heap[k]? =some (.cells cs E RX))):wi NT b E A B:=
 ⟨h.size,fun k AE Aq=>h.block k (Nat.lt_of_lt_of_le AE Ao) (fun hm=>by
  rcases UU k hm (Nat.lt_of_lt_of_le AE Ao)with Af|⟨Af,_⟩
  · exact Aq Af
  · omega),fun k cs T RX Aq LY AE=>(h.block k (TD AE) (fun hm=>by
  rcases UU k hm (TD AE)with Af|⟨_,KH,AmR,Af⟩
  · exact Aq Af
  · rw[AE]at Af;cases Af;exact LY rfl)).trans AE⟩
def Bb{α:Type}[Be α](NT DQ:Nat)(E:TypeId)(J:List Nat)(v:Value)(ys:List α)(w:World):Prop:=
 ∃S:Nat->Prop,Atom.holds ⟨v,ys⟩ S w/\∀b,S b->b<w.heap.size/\b∉J/\b≠DQ/\(b<NT\/∃cs T RX,w.heap[b]? =some (.cells cs T RX)/\T≠E)
theorem AdI{F:Fence}{n:Nat}{P:Program}{ops:Array Oper}{Q:AuE}{rest:List Oper}{o:Oper}{a:Act}{w:World}(CK:o.guard=none)(h:o.wpIn F n P a w (fun Dx AT=>wpListIn F n P ops Q rest Dx AT) Q):wpListIn F n P ops Q (o::rest) a w:=by
 unfold wpListIn;rw[if_pos (by unfold Region.wanted;rw[CK])];exact h
section
variable{c:Cj} {ops:Array Oper} {AP:Cj->Array Oper->List Oper->Env->Own->List Atom->Prop} [Dr:Ip AP] {env:Env} {L:Own} {D:List Atom} {rest:List Oper} {d:Nat} {t:TypeId} {p:String} {af:Array Edge} {x:Operand}
include Dr
theorem j1{α:Type}{s:Shape α}(i:Nat){ov:α}{hh:s.H}{By:Value}(Ab:AL env x=some By)(Cl:D[i]? =some (@Atom.mk (Cq (α×s.H)) (@F9 _ (Iy s)) By ⟨(ov,hh)⟩)){E:TypeId}(Av:Oc c.P E s.size)(Ao:Nat.blt d c.n=true)
 (k:s.wf ov->AP c ops rest ((d,.agg (s.cells ov hh).toArray)::env) L D):AP c ops (⟨some d,.load E x,t,p,af,none⟩::rest) env L D:=
 Gi (s:=s.raw) i Ab Cl Av Ao fun _ hw=>Dr.mono (fun _ _ f _ AR=>⟨f,fun u hu=>AR u (List.mem_cons_of_mem _ (List.mem_append_right _ hu))⟩) (k hw)
end
end
end Go.A_
namespace Go.Apw
def tB(Im:List Bv)(KK:Int):Bv:=(Gd Im.length (fun j=>decide ((Im.getD j default).CZ=KK))).elim IP (fun j=>Im.getD j default)
def AcU(Im:List Bv)(KK:Int):Bool:=(Gd Im.length (fun j=>decide ((Im.getD j default).CZ=KK))).isSome
def Aeo(l:List QM)(KK:Int)(key:ByteArray)(n:Int):Int:=
 if ¬IA (Adq l)=0 then 0 else match Gd l.length (fun j=>decide (l.getD j default=({CZ:=KK,Al:=key,G0:=n,It:=(l.getD j default).It}:QM)))with
  |some j=>(l.getD j default).It
  |none=>0
def AlT:Bx:=({Ap:=0,As:=0,Al:=ByteArray.empty,EL:=ByteArray.empty,B2:=0,DN:=0,DO:=0,C3:=0}:Bx)
def findD(l:List Bx)(c q:Int):Bx:=if(decide (HI (Kt l c q)<0)|| !decide (IA (Is l)=0))=true then AlT else l.getD ((Kt l c q).getD 0) default
def Tz(l:List Bx)(c q:Int):Bool:=if(decide (HI (Kt l c q)<0)|| !decide (IA (Is l)=0))=true then false else true
theorem Ahq{l:List Bx}{c q:Int}(h:(decide (HI (Kt l c q)<0)|| !decide (IA (Is l)=0))=false):∃k,Kt l c q=some k/\k<l.length:=by
 cases e:Kt l c q with
 |none=>
  rw[e]at h;simp[HI]at h
 |some k=>exact⟨k,rfl,Q4 e⟩
def Ab8(PN:List (List QM))(c:ZS)(h:BD):List Int:=
 if(decide (h.Bn>=1)&&decide (h.Bn<=(PN.length:Int)))=true then[Aeo (PN.getD (h.Bn-1).toNat default) c.CZ c.Yb.Al h.G0]else[]
def sc(PN:List (List QM))(c:ZS):Nat->List Int
 |0=>[c.Yb.BT]
 |i+1=>sc PN c i++Ab8 PN c (c.Yb.A0.getD i default)
def AdW(Im:List Bv)(a:AD):List Int:=
 if(AcU Im a.BG.DH&& !decide (a.BG.Ap=0))=true then(if(Tz (tB Im a.BG.DH).Bj a.BG.Ap a.BG.As&&decide ((findD (tB Im a.BG.DH).Bj a.BG.Ap a.BG.As).C3=1))=true then[a.BG.B2]else[])else[]
def kO(Im:List Bv)(PN:List (List QM))(c:ZS):List Int:=sc PN c c.Yb.A0.length++AdW Im c.Yb
def Abt(Im:List Bv)(PN:List (List QM))(c:ZS):Int×Bool:=(Lo (kO Im PN c).sum,decide (No (kO Im PN c).sum=0)&&Rb c.Yb.Cs (Lo (kO Im PN c).sum))
end Go.Apw
namespace Go.A_
section
section
variable{α:Type} [Inhabited α]
theorem lJ{f:Nat->Bool}:∀(n i j:Nat),i<=j->j-i<=n->(∀u v,i<=u->u<=v->v<j->f v=true->f u=true)->
 (∀u,i<=u->u<search f n i j->f u=true)/\(∀u,search f n i j<=u->u<j->f u=false)
 |0,i,j,GQ,Ao,_=>⟨fun u Af h2=>by rw[search]at h2;omega,fun u Af h2=>by rw[search]at Af;omega⟩
 |n+1,i,j,GQ,Ao,hm=>by
  rw[search];split
  · split
    · rename_i C_ BI;obtain⟨Af,h2⟩:=lJ (f:=f) n ((i+j) / 2+1) j (by omega) (by omega) (fun u v a b c d=>hm u v (by omega) b c d);refine⟨fun u AK Aq=>?_,h2⟩;by_cases Bm:u<=(i+j) / 2
      · exact hm u _ AK Bm (by omega) BI
      · exact Af u (by omega) Aq
    · rename_i C_ BI;obtain⟨Af,h2⟩:=lJ (f:=f) n i ((i+j) / 2) (by omega) (by omega) (fun u v a b c d=>hm u v a b (by omega) d);refine⟨Af,fun u AK Aq=>?_⟩;by_cases Bm:u<(i+j) / 2
      · exact h2 u AK Bm
      · rw[<-Bool.not_eq_true];exact fun he=>BI (hm _ u (by omega) (by omega) Aq he)
  · exact⟨fun u Af h2=>by omega,fun u Af h2=>by omega⟩
structure m2 (lt:α->α->Bool):Prop where
 w':∀x y,lt x y=true->lt y x=false
 mb:∀x y z,lt y x=false->lt z y=false->lt z x=false
omit [Inhabited α]in
theorem m2.Si{lt:α->α->Bool}(h:m2 lt)(x:α):lt x x=false:=by
 cases e:lt x x with
 |false=>rfl
 |true=>exact(h.w' x x e).symm▸e▸rfl
variable{lt:α->α->Bool}
end
end
end Go.A_
