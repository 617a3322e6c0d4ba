/- Part 8 of shardOnce_holds. -/
import Derived.ArgAppend
import Derived.Laws.IdiomCopy
import Derived.Lib.Overlaps
import Derived.Lib.AppendZerosOnto
import Derived.Test.YtalfaopffbkdnaaGreatSdm7

set_option maxRecDepth 20000
set_option maxHeartbeats 1000000
namespace Go.Apw
open Go.A_
structure FE where
 Ca:Int
 Ap:Int
 As:Int
 Cm:De
 deriving DecidableEq,Inhabited
structure JE where
 Bn:Int
 Al:ByteArray
 deriving DecidableEq,Inhabited
structure Ah where
 S:Bv
 ix:Int
 nd:Int
 EF:List FE
 BQ:List JE
 deriving DecidableEq,Inhabited
def GS:De:=⟨0,0,0,0⟩
def HN(e:Int):De:=⟨e,0,0,0⟩
def FP:Fs:=⟨0,0,0,ByteArray.empty,ByteArray.empty,0,0⟩
def BF(l:List AD)(k:ByteArray):AD×Bool:=match Gd l.length (fun j=>decide ((l.getD j default).Al=k))with
 |some j=>(l.getD j default,true)
 |none=>((O9 k).1,false)
def Ah.put(w:Ah)(a:AD):Ah:={w with S:={w.S with Aj:=FQ (·.Al) Ds a w.S.Aj}}
def Ah.tell(w:Ah)(kind c q:Int)(a:De):Ah:={w with EF:=w.EF++[⟨kind,c,q,a⟩]}
def Ah.done(w:Ah)(c q:Int)(a:De):Ah:=
 let v:=w.tell 1 c q a
 if(Oe v.S.Bz c q a).2=0 then{v with S:={v.S with Bz:=(Oe v.S.Bz c q a).1}}else v
def Ah.served(w:Ah)(c q n:Int)(k:ByteArray)(a:De):Ah:=
 let v:=w.done c q a
 if a.Jd=0 then{v with BQ:=v.BQ++[⟨n,k⟩]}else v
def Hn(a:AD)(c q:Int):Bool:= !decide (a.BG.Ap=0)&&decide (a.BG.Ap=c)&&decide (a.BG.As=q)
def Ah.raise(w:Ah)(c q:Int):Ah:=if(Kv w.S.CX c q).2=0 then{w with S:={w.S with CX:=(Kv w.S.CX c q).1}}else w
def Ah.drop(w:Ah)(gone:BX->Bool):Ah:={w with S:={w.S with AA:=w.S.AA.filter (fun x=> !gone x)}}
def Ah.ends(w:Ah)(c q e:Int):Ah:=
 let d:=(findD w.S.Bj c q)
 let v:=w.done c q (HN e)
 let v:Ah:={v with S:={v.S with Aj:=v.S.Aj.map fun a=>if Hn a c q=true then(D1 a (decide (d.C3=1))).1 else a}}
 (v.drop fun x=>decide (x.Ca=2)&&decide (x.Ap=c)&&decide (x.As=q)&&decide (x.DH=v.S.CZ)).raise c q
def Ah.RR(w:Ah)(c q:Int):Ah:=w.ends c q (if(findD w.S.Bj c q).C3=1 then 0 else 150)
def SG(l:List BX)(k:ByteArray):Bool:=l.any fun x=>decide (x.AM.Al=k)
-- commands
def NA(c:Dg)(nodes:Int):Bool:=
 if(!Jj c.Ap c.As||decide (c.Bn<1)||decide (c.Bn>nodes)||decide (c.AM.Ca<1)||decide (c.AM.Ca>6)|| !Ix c.AM.Al)=true then false
 else if(decide (c.AM.Ca=1)||decide (c.AM.Ca=2))=true then decide (c.AM.B2>=1)
 else if c.AM.Ca=6 then decide (c.AM.B2>=1)&&Ix c.AM.EL&& !decide (c.AM.EL=c.AM.Al)
 else true
def signed(o:FL):Int:=if o.Ca=2 then-o.B2 else o.B2
def Mu(w:Ah)(c:Dg):Bool:= !(decide (c.AM.Ca>2)||SG w.S.AA c.AM.Al)&&(BF w.S.Aj c.AM.Al).2&&decide ((JF (BF w.S.Aj c.AM.Al).1 (signed c.AM)).2=0)
def Ah.VR(w:Ah)(c:Dg):Ah:=(w.put (JF (BF w.S.Aj c.AM.Al).1 (signed c.AM)).1).served c.Ap c.As c.Bn c.AM.Al GS
def Ah.wait(w:Ah)(x:BX):Ah:={w with S:={w.S with AA:=w.S.AA++[x]}}
def QW(c:Dg):Bx:={Ap:=c.Ap,As:=c.As,Al:=c.AM.Al,EL:=c.AM.EL,B2:=c.AM.B2,DN:=0,DO:=0,C3:=0}
def Li(c q home:Int)(k:ByteArray)(n:Int):BX:={Ca:=2,Ap:=c,As:=q,Bn:=0,DH:=home,AM:={mV with Al:=k,B2:=n}}
def Ah.T5(w:Ah)(c:Dg):Ah:=
 if(!decide ((Mf w.S.Bj (QW c)).2=0)||decide ((w.S.AA.length:Int)>6))=true then w.served c.Ap c.As c.Bn c.AM.Al (HN 3)
 else
  let v:Ah:={w with S:={w.S with Bj:=(Mf w.S.Bj (QW c)).1}}
  let v:=v.wait (Li c.Ap c.As v.S.CZ c.AM.Al (-c.AM.B2))
  if(F' v.S c.AM.EL&& !Ef v.S c.AM.EL)=true then v.wait (Li c.Ap c.As v.S.CZ c.AM.EL c.AM.B2)else v
def Ah.op(w:Ah)(c:Dg):Ah:=
 if NA c w.nd=false then w
 else
  let b:=IS w.S.Bz c.Ap c.As
  if ¬b.2.2=0 then w
  else if b.2.1=false then(if(!(FU b.1 c.Ap).1.HV&& !decide ((FU b.1 c.Ap).1.Cm.Jd=80))=true then w.tell 1 c.Ap c.As (FU b.1 c.Ap).1.Cm else w)
  else if(!F' w.S c.AM.Al||Ef w.S c.AM.Al|| !decide (c.Dn=w.S.Dn))=true then w.tell 2 c.Ap c.As GS
  else
   let v:Ah:={w with S:={w.S with Bz:=b.1}}
   if c.AM.Ca=6 then v.T5 c
   else if Mu v c=true then v.VR c
   else if(v.S.AA.length:Int)>=8 then v.served c.Ap c.As c.Bn c.AM.Al (HN 3)
   else v.wait {Ca:=1,Ap:=c.Ap,As:=c.As,Bn:=c.Bn,DH:=0,AM:=c.AM}
def Ah.report(w:Ah)(c:Dg):Ah:=
 if(BF w.S.Aj c.Al).2=false then w
 else if(Mk (BF w.S.Aj c.Al).1 c.Bn c.G0 c.Cn c.It).2=0 then w.put (Mk (BF w.S.Aj c.Al).1 c.Bn c.G0 c.Cn c.It).1 else w
def Ah.OR(w:Ah)(c q:Int):Ah:=
 let g:=NJ w.S.Bj c q
 if(decide (g.2.2=0)&&g.2.1)=true then({w with S:={w.S with Bj:=g.1}}:Ah).ends c q 190 else w
def Ah.UQ(w:Ah)(c:Dg):Ah:=
 let v:=match Gd w.S.AA.length (fun j=>decide ((w.S.AA.getD j default).Ca=1)&&decide ((w.S.AA.getD j default).Ap=c.Ap)&&decide ((w.S.AA.getD j default).As=c.As))with
  |some i=>({w with S:={w.S with AA:=w.S.AA.eraseIdx i}}:Ah).done c.Ap c.As (HN 190)
  |none=>w
 v.OR c.Ap c.As
def Ah.Vc(w:Ah)(c:Dg):Ah:=
 if(!Jj c.Ap c.As|| !Ih c.DH|| !Ix c.Al||decide (c.It=0)|| !F' w.S c.Al||Ef w.S c.Al|| !decide (c.Dn=w.S.Dn)||fx w.S.CX c.Ap c.As)=true then w
 else if(Hn (BF w.S.Aj c.Al).1 c.Ap c.As||w.S.AA.any (fun x=>decide (x.Ap=c.Ap)&&decide (x.As=c.As)&&decide (x.AM.Al=c.Al))||decide ((w.S.AA.length:Int)>=8))=true then w
 else w.wait (Li c.Ap c.As c.DH c.Al c.It)
def Ah.T'(w:Ah)(c:Dg):Ah:=
 let g:=Jk w.S.Bj c.Ap c.As false c.Jr
 if ¬g.2.2=0 then w
 else
  let v:Ah:={w with S:={w.S with Bj:=g.1}}
  if g.2.1=true then v.RR c.Ap c.As else v
def Ah.S5(w:Ah)(c:Dg):Ah:=
 if(!F' w.S c.Al|| !Jj c.Ap c.As)=true then w
 else
  let v:=if((BF w.S.Aj c.Al).2&&Hn (BF w.S.Aj c.Al).1 c.Ap c.As)=true then w.put (D1 (BF w.S.Aj c.Al).1 c.Jr).1 else w
  (v.drop fun x=>decide (x.Ca=2)&&decide (x.Ap=c.Ap)&&decide (x.As=c.As)&&decide (x.AM.Al=c.Al)).raise c.Ap c.As
def Ah.forget(w:Ah)(c:Dg):Ah:=if(OP w.S.Bj c.Ap c.As).2=0 then{w with S:={w.S with Bj:=(OP w.S.Bj c.Ap c.As).1}}else w
def Ah.Ic(w:Ah)(x:BX):Ah:=
 if(!decide (x.Ca=1)|| !Ef w.S x.AM.Al)=true then w
 else
  let v:=w.tell 2 x.Ap x.As GS
  if(G' v.S.Bz x.Ap x.As).2=0 then{v with S:={v.S with Bz:=(G' v.S.Bz x.Ap x.As).1}}else v
def Ah.seal(w:Ah)(c:Dg):Ah:=
 let p:=c.Dj
 if(!LK p|| !decide (p.Hi=w.S.CZ)|| !decide (w.S.Bt=FP)|| !decide (w.S.CW=FP)|| !w.S.Du|| !decide (c.Dn=w.S.Dn))=true then w
 else if(decide (p.Ev<=w.S.GW)|| !decide (p.Bc=w.S.Bc)|| !within w.S.A6 w.S.Bc p.A6)=true then w
 else
  let v:Ah:={w with S:={w.S with Bt:=p}}
  let v:=v.S.AA.foldl Ah.Ic v
  let v:=v.drop fun x=>Ef v.S x.AM.Al
  v.S.Bj.foldl (fun u d=>if Ef u.S d.Al=true then u.OR d.Ap d.As else u) v
def Ty(l:List AD)(p:Fs)(j:Nat):Bool:=
 (!decide (IA (E4 (l.getD j default))=0)||FT (l.getD j default)|| !decide ((l.getD j default).BG.Ap=0)||decide (((l.getD j default).A0.length:Int)>0)|| !decide ((l.getD j default).Cn=0))
 ||(!within p.A6 p.Bc (l.getD j default).Al||(decide ((j:Int)>0)&&fc (l.getD j default).Al (l.getD ((j:Int)-1).toNat default).Al))
def FD(b:List UInt8)(p:Fs):Bv×Bool:=
 if(!decide ((Er b).2=0)||decide (((Er b).1.Aj.length:Int)>12))=true then(IP,false)
 else if allI (Er b).1.Aj.length (fun j=> !Ty (Er b).1.Aj p j)=true then((Er b).1,true)else(IP,false)
def Ah.Ry(w:Ah)(l:List AD)(p:Fs):Ah:=
 let v:=l.foldl Ah.put w
 let v:Ah:=if v.S.Du=false then{v with S:={v.S with Du:=true,A6:=p.A6}}else v
 {v with S:={v.S with Bc:=p.Bc}}
def Ah.unseal(w:Ah)(c:Dg):Ah:=
 let n:=c.Dj.Ev
 if n=0 then w
 else if c.Jr=false then(if n=w.S.Bt.Ev then{w with S:={w.S with Bt:=FP,GW:=n}}else w)
 else
  let out:=w.S.CW
  if(!decide (n=out.Ev)|| !decide (w.S.Bt=FP)||(w.S.Du&&(isNil w.S.Bc|| !decide (w.S.Bc=out.A6))))=true then w
  else
   let i:=FD w.S.Cf out
   if(!i.2||decide ((i.1.Aj.length:Int)+w.S.Aj.length>12))=true then w
   else
    let v:Ah:={w with S:={w.S with CW:=FP,Cf:=[],GW:=n}}
    let v:=v.Ry i.1.Aj out
    if v.S.Dn=0 then{v with S:={v.S with Dn:=1}}else v
def Ah.RI(w:Ah)(c:Dg):Ah:=
 let p:=c.Dj
 if(!LK p|| !decide (p.IX=w.S.CZ)||decide (p.Ev<=w.S.Jc)||decide (c.Dn<1)||decide (c.Dn>EW))=true then w
 else
  let i:=FD c.Cf p
  if(!i.2|| !Fg i.1.Bz|| !HE i.1.CX)=true then w
  else
   let v:Ah:={w with S:={w.S with Jc:=p.Ev}}
   if((v.S.Du&&(isNil v.S.Bc|| !decide (v.S.Bc=p.A6)))|| !decide (v.S.Bt=FP)||decide ((i.1.Aj.length:Int)+v.S.Aj.length>12))=true then{v with S:={v.S with JL:=p.Ev}}
   else
    let v:=v.Ry i.1.Aj p
    {v with S:={v.S with Bz:=(M_ v.S.Bz i.1.Bz).1,CX:=(Ok v.S.CX i.1.CX).1,Dn:=c.Dn}}
def Ah.WS(w:Ah)(c:Dg):Ah:=
 if(decide (c.Dj.Ev=0)|| !decide (c.Dj.Ev=w.S.CW.Ev)||decide (c.Dn<1)||decide (c.Dn>EW))=true then w
 else{w with S:={w.S with CW:=FP,Cf:=[],GW:=c.Dj.Ev,Dn:=max w.S.Dn c.Dn}}
def Ah.cmd(w:Ah)(c:Dg):Ah:=
 if c.Ca=1 then w.op c else if c.Ca=2 then w.report c else if c.Ca=3 then w.UQ c else if c.Ca=4 then w.Vc c else if c.Ca=5 then w.T' c else if c.Ca=6 then w.S5 c
 else if c.Ca=7 then w.forget c else if c.Ca=8 then w.seal c else if c.Ca=9 then w.unseal c else if c.Ca=10 then w.RI c else if c.Ca=11 then w.WS c else w
-- what waits
def KS(S:Bv):Option Nat:=Gd S.AA.length fun i=>allI i (fun j=> !decide ((S.AA.getD j default).AM.Al=(S.AA.getD i default).AM.Al))&&(Io (BF S.Aj (S.AA.getD i default).AM.Al).1).2
def S2(S:Bv):Int:=if S.CW.Ev=0 then 0 else((Er S.Cf).1.Aj.length:Int)
def H3(w:Ah)(o:FL):Ah×De:=
 let f:=BF w.S.Aj o.Al
 let t:=(Io f.1).1
 if o.Ca=4 then(w,⟨0,t,0,0⟩)
 else if o.Ca=3 then(w,⟨0,0,t,t⟩)
 else if o.Ca=5 then
  if(!f.2&&decide ((w.S.Aj.length:Int)+S2 w.S>=12))=true then(w,HN 3)
  else
   let r:=Pu f.1 ⟨o.A6,o.Bc⟩
   (if r.2=0 then w.put r.1 else w,HN r.2)
 else
  let r:=JF f.1 (signed o)
  (if r.2=0 then w.put r.1 else w,HN r.2)
def Ah.Lf(w:Ah)(x:BX):Ah:=
 if fx w.S.CX x.Ap x.As=true then w
 else
  let r:=KA (BF w.S.Aj x.AM.Al).1 ⟨x.Ap,x.As,x.DH,x.AM.B2⟩
  let v:=if r.2=0 then w.put r.1 else w.tell 3 x.Ap x.As GS
  if ¬x.DH=v.S.CZ then(if ¬r.2=0 then v.raise x.Ap x.As else v)
  else if(!Tz v.S.Bj x.Ap x.As|| !decide ((findD v.S.Bj x.Ap x.As).C3=0))=true then(if(D1 r.1 false).2=0 then v.put (D1 r.1 false).1 else v)
  else
   let g:=Jk v.S.Bj x.Ap x.As (decide (x.AM.Al=(findD v.S.Bj x.Ap x.As).Al)) (decide (r.2=0))
   let u:Ah:={v with S:={v.S with Bj:=g.1}}
   if g.2.1=true then u.RR x.Ap x.As else u
def Ah.L6(w:Ah)(i:Nat):Ah:=
 let x:=w.S.AA.getD i default
 let v:Ah:={w with S:={w.S with AA:=w.S.AA.eraseIdx i}}
 if x.Ca=1 then(H3 v x.AM).1.served x.Ap x.As x.Bn x.AM.Al (H3 v x.AM).2 else v.Lf x
def Ah.waits:Nat->Ah->Ah
 |0,w=>w
 |n+1,w=>match KS w.S with
  |some i=>Ah.waits n (w.L6 i)
  |none=>w
-- what comes at the end
def Gl(S:Bv)(BQ Ag:ByteArray):Bv:=
 {IP with Aj:=(S.Aj.map fun a=>{a with Cn:=0}).filter (fun a=>within BQ Ag a.Al&& !FT a),CX:=S.CX,Bz:=S.Bz.foldl (fun l m=>if(G' l m.Ap m.As).2=0 then(G' l m.Ap m.As).1 else l) S.Bz}
def Py(S:Bv):Bool:= !(decide (S.Bt=FP)||S.Aj.any fun a=>Ef S a.Al&&(decide ((a.A0.length:Int)>0)|| !decide (a.BG.Ap=0)))
def LG(S:Bv):Bv:=
 if Py S=false then S
 else if ¬(IW (Gl S S.Bt.A6 S.Bt.Bc)).2=0 then S
 else
  let T:Bv:={S with CW:=S.Bt,Cf:=(IW (Gl S S.Bt.A6 S.Bt.Bc)).1,Aj:=S.Aj.filter (fun a=> !Ef S a.Al),Bc:=S.Bt.A6,Bt:=FP}
  if S.Bt.A6=S.A6 then{T with Du:=false,A6:=ByteArray.empty,Bc:=ByteArray.empty}else T
def Jv(S:Bv)(ix:Int)(a:AD):AD:=if(SG S.AA a.Al||Ef S a.Al)=true then(Mx a ix).1 else(OA a).1
def Ah.Iv(w:Ah)(x:JE):Ah:=
 if(BF w.S.Aj x.Al).2=false then w
 else if(Kl (BF w.S.Aj x.Al).1 x.Bn w.ix w.nd).2=0 then w.put (Kl (BF w.S.Aj x.Al).1 x.Bn w.ix w.nd).1 else w
def Ah.rest(w:Ah):Ah:=
 let v:Ah:={w with S:=LG w.S}
 let v:Ah:={v with S:={v.S with Aj:=v.S.Aj.map (Jv v.S v.ix)}}
 let v:=v.BQ.foldl Ah.Iv v
 {v with S:={v.S with Aj:=v.S.Aj.filter (fun a=> !FT a)}}
def Gc(S:Bv)(c:Dg)(ix nd:Int):Bv×List FE×Int:=
 if LN S=false then(IP,[],21)
 else if(decide (nd<1)||decide (nd>5))=true then(IP,[],1)
 else if(decide (ix<=S.DX)||decide (ix>EW))=true then(IP,[],80)
 else
  let w:=(({S:={S with DX:=ix},ix:=ix,nd:=nd,EF:=[],BQ:=[]}:Ah).cmd c)
  let w:=(Ah.waits w.S.AA.length w).rest
  (w.S,w.EF,0)
end Go.Apw
namespace Go.A_
end Go.A_
namespace Go.A_
open Go.RowKit
section
@[reducible] def RW{σ:Type}(J:List Nat)(LL:σ->Own)(DD:σ->List Atom)(I:σ->Prop):C4 where
 J:=J
 holds S w:=∃s,I s/\Dt (LL s)=J/\(∀p∈LL s,p.holds S w)/\(∀t∈DD s,t.holds S w)
 valid:=by
  rintro S w ⟨s,_,h,Af,_⟩ b Aq
  rw[<-h]at Aq
  obtain⟨p,AH,Sf⟩:=FW.1 Aq
  exact p.valid (Af p AH) b Sf
 DY:=by
  rintro S Fq w AT ⟨s,AU,h,Af,h2⟩ hs hw
  refine⟨s,AU,h,fun p AH=>p.DY (Af p AH) hs fun b Aq=>hw b (Aq.imp id fun Aq=>?_),fun t Av=>Atom.DY (h2 t Av) hs fun b Aq=>hw b (.inl Aq)⟩
  rw[<-h]
  exact FW.2 ⟨p,AH,Aq⟩
theorem CI.TO{BW w:World}{M:List Nat}{L DZ:Own}(st:CI BW M w L)(Aq:DZ.J=L.J)(A7:∀p∈DZ,p.holds (Et L.J w) w):CI BW M w DZ:=
 ⟨st.Ln,fun p AH=>by rw[Aq];exact A7 p AH,by rw[Aq];exact st.nd,by rw[Aq];exact st.new⟩
theorem BP.TO{w:World}{D:List Atom}{L DZ:Own}(AR:BP D w L)(Aq:DZ.J=L.J):BP D w DZ:=fun t Av=>by rw[Aq];exact AR t Av
theorem AjI{L:Own}{i:Nat}{q:C4}(Ag:L[i]? =some q):L=L.take i++q::L.drop (i+1):=by
 obtain⟨h,rfl⟩:=List.getElem?_eq_some_iff.1 Ag
 rw[<-List.drop_eq_getElem_cons h,List.take_append_drop]
theorem nJ(p:C4)(L:Own):Own.J (p::L)=p.J++Own.J L:=rfl
theorem XW(A B:Own):Own.J (A++B)=Own.J A++Own.J B:=OJ A B
theorem zt{σ:Type}{J:List Nat}{LL:σ->Own}{DD:σ->List Atom}{I:σ->Prop}{BW w:World}{M:List Nat}{L:Own}{D:List Atom}(i:Nat)(Ag:L[i]? =some (RW J LL DD I))(st:CI BW M w L)(AR:BP D w L):
 ∃s,I s/\CI BW M w (L.take i++(LL s++L.drop (i+1)))/\BP (DD s++D) w (L.take i++(LL s++L.drop (i+1))):=by
 obtain⟨s,AU,Aq,Af,h2⟩:=st.own _ (List.mem_of_getElem? Ag)
 have Dv:=AjI Ag
 have e:Own.J (L.take i++(LL s++L.drop (i+1)))=L.J:=by
  conv=>rhs;rw[Dv]
  rw[XW,XW,XW,nJ]
  rw[show Own.J (LL s)=J from Aq]
 refine⟨s,AU,st.TO e fun p AH=>?_,(BP.app (fun t Av=>h2 t Av) AR).TO e⟩
 rcases List.mem_append.1 AH with AH|AH
 · exact st.own p (List.mem_of_mem_take AH)
 · rcases List.mem_append.1 AH with AH|AH
   · exact Af p AH
   · exact st.own p (List.mem_of_mem_drop AH)
theorem h9{σ:Type}{LL:σ->Own}{DD:σ->List Atom}{I:σ->Prop}{BW w:World}{M:List Nat}{D:List Atom}(A C:Own)(s:σ)(AU:I s)(DK:Bg (DD s) D)(st:CI BW M w (A++(LL s++C)))(AR:BP D w (A++(LL s++C))):
 CI BW M w (A++RW (Dt (LL s)) LL DD I::C)/\BP D w (A++RW (Dt (LL s)) LL DD I::C):=by
 have e:Own.J (A++RW (Dt (LL s)) LL DD I::C)=Own.J (A++(LL s++C)):=by
  rw[XW,XW,XW,nJ]
 refine⟨st.TO e fun p AH=>?_,AR.TO e⟩
 rcases List.mem_append.1 AH with AH|AH
 · exact st.own p (List.mem_append_left _ AH)
 · rcases List.mem_cons.1 AH with rfl|AH
   · exact⟨s,AU,rfl,fun q B'=>st.own q (List.mem_append_right _ (List.mem_append_left _ B')),fun t Av=>AR t (DK t Av)⟩
   · exact st.own p (List.mem_append_right _ (List.mem_append_right _ AH))
section
variable{σ:Type} {J:List Nat} {LL:σ->Own} {DD:σ->List Atom} {I:σ->Prop} {c:Cj} {ops:Array Oper} {Q:Exit->Act->World->Prop} {env:Env} {L:Own} {D:List Atom}
theorem rN(i:Nat){x:Code}(Ag:L[i]? =some (RW J LL DD I))(k:∀s,I s->CF c x Q env (L.take i++(LL s++L.drop (i+1))) (DD s++D)):CF c x Q env L D:=fun a w f st AR=>by
 obtain⟨s,AU,Kz,KI⟩:=zt i Ag st AR
 exact k s AU a w f Kz KI
theorem xV(A C:Own)(s:σ){l:List Oper}(Dv:L=A++(LL s++C))(AU:I s)(DK:Bg (DD s) D)(k:Cb Q c ops l env (A++RW (Dt (LL s)) LL DD I::C) D):Cb Q c ops l env L D:=fun a w f st AR=>by
 subst Dv
 obtain⟨Kz,KI⟩:=h9 A C s AU DK st AR
 exact k a w f Kz KI
theorem nO(A C:Own)(s:σ){x:Code}(Dv:L=A++(LL s++C))(AU:I s)(DK:Bg (DD s) D)(k:CF c x Q env (A++RW (Dt (LL s)) LL DD I::C) D):CF c x Q env L D:=fun a w f st AR=>by
 subst Dv
 obtain⟨Kz,KI⟩:=h9 A C s AU DK st AR
 exact k a w f Kz KI
theorem nP(A C:Own)(s:σ){e:Exit}(Dv:L=A++(LL s++C))(AU:I s)(DK:Bg (DD s) D)(k:Eg c Q e env (A++RW (Dt (LL s)) LL DD I::C) D):Eg c Q e env L D:=fun a w f st AR=>by
 subst Dv
 obtain⟨Kz,KI⟩:=h9 A C s AU DK st AR
 exact k a w f Kz KI
end
def DU(L:Own)(GJ:List Atom):Prop:=∀w,(∀p∈L,p.holds (Et L.J w) w)->(∀b∈L.J,b<w.heap.size)->∀t∈GJ,t.holds (Et [] w) w
theorem DU.nil{L:Own}:DU L []:=fun _ _ _ _ Av=>nomatch Av
theorem DU.row{L:Own}{α:Type}{r:Be α}{e:TypeId}{v:Value}{xs:List α}{GJ:List Atom}(i:Nat)(Ag:L[i]? =some (@row α r e v xs))(h:DU L GJ):DU L ((@Atom.mk (List α) (@FI α r) v xs)::GJ):=fun w A7 Aq t Av=>by
 rcases List.mem_cons.1 Av with rfl|Av
 · have hm:=List.mem_of_getElem? Ag
   exact Xb (A7 _ hm) (fun b Aq=>⟨Aq.1,by simp⟩) fun b EP=>⟨Aq b (FW.2 ⟨_,hm,EP⟩),by simp⟩
 · exact h w A7 Aq t Av
theorem DU.AO{L:Own}{α:Type}{r:Be α}{b:Nat}{T:TypeId}{cs:List Value}{x:α}{GJ:List Atom}(i:Nat)(Ag:L[i]? =some (AO b T cs))(Ab:∀S w,r.rd S w cs x)(h:DU L GJ):DU L ((@Atom.mk (Cq α) (@F9 α r) (.pointer (some ⟨b,0,none⟩)) ⟨x⟩)::GJ):=fun w A7 Aq t Av=>by
 rcases List.mem_cons.1 Av with rfl|Av
 · have hm:=List.mem_of_getElem? Ag
   have hh:w.heap[b]? =some (.cells cs.toArray T (0,0)):=A7 _ hm
   refine⟨rfl,b,0,cs,rfl,⟨Aq b (FW.2 ⟨_,hm,by simp⟩),by simp⟩,Ab _ _,fun j u Ay=>?_⟩
   rw[cell_of_row w b _ _ T (0,0) hh]
   simpa using Ay
 · exact h w A7 Aq t Av
theorem ff{L:Own}{D GJ DB:List Atom}{w:World}(Ew:DU L GJ)(Cl:Bg DB (GJ++D))(A7:∀p∈L,p.holds (Et L.J w) w)(Aq:∀b∈L.J,b<w.heap.size)(AR:BP D w L):∀t∈DB,t.holds (Et [] w) w:=fun t Av=>by
 rcases List.mem_append.1 (Cl t Av)with h|h
 · exact Ew w A7 Aq t h
 · exact Atom.DY (AR t h) (fun b Aq=>⟨Aq.1,by simp⟩) fun _ _=>rfl
section
variable{c:Cj} {ops:Array Oper} {Q:Exit->Act->World->Prop} {env:Env} {L:Own} {D:List Atom} {rest:List Oper} {d:Nat} {v:Value} {t:TypeId} {p:String} {af:Array Edge}
theorem P6(GJ:List Atom){f:FuncId}{vs:List Value}{DB:List Atom}{v:Value}(h:Cv c.P f vs DB v)(CM:GU c.P f){xs:List Operand}{ats:Array TypeId}
 (Hm:Gq env xs=some vs)(Ew:DU L GJ)(Cl:Bg DB (GJ++D))(Ao:Nat.blt d c.n=true)(k:Cb Q c ops rest ((d,v)::env) L D):
 Cb Q c ops (⟨some d,.call {callee:=.value (.func f),args:=xs.toArray,argTypes:=ats},t,p,af,none⟩::rest) env L D:=by
 refine S4 (x:=.func f) (us:=vs) (first:= #[]) (cap:= #[]) (β:=Unit) (R:=fun _ u=>u=v) (out:=fun _ _=>D) rfl Hm (by simp) CM (fun _ _=>L) (fun w st AR=>?_) (fun _ u=>(d,u)::env) (fun _ u a Gw=>Gw.put u (EU Ao)) (fun _ u hu=>by subst hu;exact k)
 refine(h [] w (by simp[Own.J,Dt]) (by simp) (by simp) (fun t Av=>?_)).mono fun u AT ⟨hs,y,Fy,_⟩=>⟨(),Fy,?_,?_⟩
 · have:=ff Ew Cl st.own st.lt AR t Av
   simpa[Own.J,Dt]using this
 · exact st.step (by simpa[Own.J,Dt]using hs)
 · exact AR.step (C8.nil (by simpa[Own.J,Dt]using hs))
theorem dH(GJ:List Atom){f:FuncId}{vs:List Value}{DB:List Atom}{v:Value}(h:Cv c.P f vs DB v)(CM:GU c.P f){xs:List Operand}{ats:Array TypeId}
 (Hm:Gq env xs=some vs)(Ew:DU L GJ)(Cl:Bg DB (GJ++D))(Ao:Nat.blt d c.n=true)(k:SZ Q c ops rest ((d,v)::env) L D):
 SZ Q c ops (⟨some d,.call {callee:=.value (.func f),args:=xs.toArray,argTypes:=ats},t,p,af,none⟩::rest) env L D:=by
 intro a w Gw st AR
 unfold wpQuiet
 rw[if_pos (show Region.wanted ⟨some d,.call {callee:=.value (.func f),args:=xs.toArray,argTypes:=ats},t,p,af,none⟩ (yielded ops a.tmps)=true from rfl)]
 refine⟨v,fun AT NN=>?_,k _ w (Gw.put v (EU Ao)) st AR⟩
 have Ek:=lp (P:=c.P) (ρ:=a.eval) (o:=⟨some d,.call {callee:=.value (.func f),args:=xs.toArray,argTypes:=ats},t,p,af,none⟩) (x:=.func f) (xs:=xs) (ats:=ats) (f:=f) (first:= #[]) (cap:= #[]) (vs:=vs) rfl rfl (Gw.Gq Hm) CM AT
 simp only[List.nil_append,List.append_nil]at Ek
 unfold Oper.quietAt
 rw[Ek]
 refine⟨rfl,?_⟩
 have Kz:=st.step NN
 have KI:=AR.step NN.nil
 have Bm:=h [] AT (by simp[Own.J,Dt]) (by simp) (by simp) (fun t Av=>by
  have:=ff Ew Cl Kz.own Kz.lt KI t Av
  simpa[Own.J,Dt]using this)
 refine Calls.mono Bm fun e Xq ⟨u,he,AH⟩=>?_
 obtain⟨hs,y,Fy,_⟩:=AH
 have iT:u=v:=Fy
 subst iT
 have HW:C8 [] AT Xq:=by simpa[Own.J,Dt]using hs
 exact⟨he,NN.trans HW⟩
theorem Uw(GJ:List Atom){f:FuncId}{vs:List Value}{DB:List Atom}{β:Type}{R:β->Value->Prop}{DM:β->Value->Own}(h:Aw c.P f vs [] DB R DM (fun _ _=>[]))(AU:∀y v,∀p∈DM y v,∀S Fq w,p.holds S w->p.holds Fq w)(CM:GU c.P f){xs:List Operand}{ats:Array TypeId}
 (Hm:Gq env xs=some vs)(Ew:DU L GJ)(Cl:Bg DB (GJ++D))(Ao:Nat.blt d c.n=true)(k:∀y v,R y v->Cb Q c ops rest ((d,v)::env) (DM y v++L) D):
 Cb Q c ops (⟨some d,.call {callee:=.value (.func f),args:=xs.toArray,argTypes:=ats},t,p,af,none⟩::rest) env L D:=by
 refine S4 (x:=.func f) (us:=vs) (first:= #[]) (cap:= #[]) (β:=β) (R:=R) (out:=fun _ _=>D) rfl Hm (by simp) CM (fun y v=>DM y v++L) (fun w st AR=>?_) (fun _ u=>(d,u)::env) (fun _ u a Gw=>Gw.put u (EU Ao)) (fun y u hu=>k y u hu)
 refine(h [] w (by simp[Own.J,Dt]) (by simp) (by simp) (fun t Av=>?_)).mono fun u AT ⟨hs,y,Fy,Af,OZ,eQ,_⟩=>⟨y,Fy,?_,?_⟩
 · have:=ff Ew Cl st.own st.lt AR t Av
   simpa[Own.J,Dt]using this
 · have HW:C8 [] w AT:=by simpa[Own.J,Dt]using hs
   exact st.many HW (fun q B'=>AU y u q B' _ _ _ (Af q B')) OZ (fun b Aq=>(eQ b Aq).resolve_left (by simp[Own.J,Dt]))
 · have HW:C8 [] w AT:=by simpa[Own.J,Dt]using hs
   exact AR.many HW (fun b Aq=>(eQ b Aq).resolve_left (by simp[Own.J,Dt]))
end
theorem AiF{α:Type}{r:Be α}(Bh:∀{S Fq w cs x},r.rd S w cs x->r.rd Fq w cs x){e:TypeId}{v:Value}{xs:List α}{S Fq:Nat->Prop}{w:World}(h:(@row α r e v xs).holds S w):(@row α r e v xs).holds Fq w:=by
 obtain⟨Cy,Af,h2,Bo⟩:=h
 refine⟨Cy,Af,?_,Bo⟩
 have go:∀(Cy:List (List Value)) (xs:List α),@HM α r S w Cy xs->@HM α r Fq w Cy xs:=by
  intro Cy
  induction Cy with
  |nil=>intro xs h;cases xs<;>exact h
  |cons c Cy Cg=>intro xs h;cases xs with
   |nil=>exact h
   |cons x xs=>exact⟨Bh h.1,Cg xs h.2⟩
 exact go Cy xs h2
theorem Ajr{α:Type}{s:Shape α}(hs:∀x h,s.sub x h=[]){S Fq:Nat->Prop}{w:World}{cs:List Value}{x:α}(h:(Be.D5 s).rd S w cs x):(Be.D5 s).rd Fq w cs x:=by
 obtain⟨hh,e,_,hw⟩:=h
 exact⟨hh,e,(fun(t:Atom) Av=>by rw[hs]at Av;exact nomatch Av),hw⟩
end
section
theorem fS{α:Type}{r:Be α}{S:Nat->Prop}{w:World}{g cap:Nat}{E:TypeId}{cs:List Value}{ys:List α}(CK:w.heap[g]? =some (.cells cs.toArray E (0,0)))(Bm:cs.length=cap*r.size)(Ao:ys.length<=cap)(hm:cap<=maxLen)(AN:ys.length<=140737488355328)
 (h:∀i x,ys[i]? =some x->∃Cx,r.rd S w Cx x/\Lt w g (0+i*r.size) Cx):(@row α r E (.slice (some ⟨g,0,none⟩) ys.length cap) ys).holds S w:=by
 obtain⟨Cy,Bh,a7⟩:=@cn α r S w g 0 ys 0 (by simpa using h)
 have FF:=@HM.len α r S w Cy ys Bh
 refine⟨Cy,⟨FF,.inr ⟨g,cap,cs.toArray,rfl,Nat.zero_le _,CK,Ao,hm,by simpa using Bm,?_⟩⟩,Bh,AN⟩
 show List.take (ys.length*r.size) _=Cy.flatten
 refine List.ext_getElem? fun j=>?_
 by_cases Ay:j<ys.length*r.size
 · rw[List.getElem?_take,if_pos Ay]
   have U2:j<Cy.flatten.length:=by rw[FF];exact Ay
   have:=a7 j _ (List.getElem?_eq_getElem U2)
   rw[cell_of_row _ g _ _ E (0,0) CK,List.getElem?_toArray]at this
   rw[List.getElem?_eq_getElem U2,<-this]
   simp
 · rw[List.getElem?_eq_none (by simp;omega),List.getElem?_eq_none (by rw[FF];omega)]
theorem Xa{α:Type}{r:Be α}{S:Nat->Prop}{w:World}{E:TypeId}{g n cap:Nat}{xs:List α}(h:(@row α r E (.slice (some ⟨g,0,none⟩) n cap) xs).holds S w):
 n=xs.length/\xs.length<=cap/\cap<=maxLen/\xs.length<=140737488355328/\(∃cs:List Value,w.heap[g]? =some (.cells cs.toArray E (0,0))/\cs.length=cap*r.size)/\∃Cy,HM S w Cy xs/\Lt w g 0 Cy.flatten:=by
 obtain⟨Cy,G8,Ep,AN⟩:=h
 rcases G8.2 with⟨he,_⟩|⟨AmS,AmI,cur,he,_,CK,Ao,hm,Bm,Av⟩
 · cases he
 · injection he with B4 DC Kk
   injection B4 with B4
   injection B4 with B4
   subst B4 DC Kk
   refine⟨rfl,Ao,hm,AN,⟨cur.toList,by simpa using CK,by simpa using Bm⟩,Cy,Ep,fun j u Ay=>?_⟩
   rw[cell_of_row _ g _ _ E (0,0) CK]
   rw[<-Av,List.getElem?_take]at Ay
   split at Ay
   · simpa using Ay
   · cases Ay
theorem AiG{α:Type}{r:Be α}{S:Nat->Prop}{w:World}{E:TypeId}{v:Value}{xs:List α}(h:(@row α r E v xs).holds S w)(Ab:xs≠[]):∃g cap,v=.slice (some ⟨g,0,none⟩) xs.length cap/\xs.length<=cap/\cap<=maxLen:=by
 obtain⟨g,cap,cs,Cy,BC,_,Af,h2,_⟩:=@Vj α r _ _ _ _ _ h Ab
 exact⟨g,cap,BC,Af,h2⟩
theorem ll{α:Type}{r:Be α}{c:Cj}{w:World}{L:Own}{D:List Atom}(i k:Nat){xs zs:List α}{E:TypeId}{g n cap:Nat}{dss:List (List Value)}(Ag:L[i]? =some (@row α r E (.slice (some ⟨g,0,none⟩) n cap) xs))
 (st:CI c.BW c.M w L)(AR:BP D w L)(Cu:HM (Et L.J w) w dss zs)(AE:k<=xs.length)(pA:k+zs.length<=cap)(hlen:k+zs.length<=140737488355328){ys:List α}(Qg:xs.take k++zs++xs.drop (k+zs.length)=ys):
 (∀j,j<dss.flatten.length->(w.cell? ⟨g,k*r.size+j,none⟩).isSome=true/\w.frozen? ⟨g,k*r.size+j,none⟩=false)/\(∀u∈dss.flatten,u.oneCell'=true)/\
 CI c.BW c.M (w.setCells g (k*r.size) dss.flatten) (L.set i (@row α r E (.slice (some ⟨g,0,none⟩) ys.length cap) ys))/\BP D (w.setCells g (k*r.size) dss.flatten) (L.set i (@row α r E (.slice (some ⟨g,0,none⟩) ys.length cap) ys)):=by
 have Hv:=List.mem_of_getElem? Ag
 obtain⟨Ao,Tn,U4,Sg,⟨cs,CK,I0⟩,Cy,Ep,OX⟩:=Xa (st.own _ Hv)
 subst Ao
 have P':g∈L.J:=FW.2 ⟨_,Hv,by simp[Value.ownBlock]⟩
 have LH:dss.flatten.length=zs.length*r.size:=Cu.len
 have pB:k*r.size+dss.flatten.length<=cs.length:=by
  rw[LH,I0,<-Nat.add_mul]
  exact Nat.mul_le_mul_right _ pA
 have hs:C8 [g] w (w.setCells g (k*r.size) dss.flatten):=cG g _ _ w
 have Mc:=aU dss.flatten cs (k*r.size) w CK
 have EX:C8 (@row α r E (.slice (some ⟨g,0,none⟩) xs.length cap) xs).J w (w.setCells g (k*r.size) dss.flatten):=hs.mono fun b Aq=>by simpa[Value.ownBlock]using Aq
 have UW:∀b,Et L.J w b->Et (Own.J (L.set i (@row α r E (.slice (some ⟨g,0,none⟩) ys.length cap) ys))) (w.setCells g (k*r.size) dss.flatten) b:=fun b Aq=>⟨Nat.lt_of_lt_of_le Aq.1 hs.size,fun Ab=>by
  rcases OK Ag b Ab with Af|Af
  · have:b=g:=by simpa[Value.ownBlock]using Af
    exact Aq.2 (this▸P')
  · exact Aq.2 Af⟩
 have UT:∀b,Et L.J w b->(w.setCells g (k*r.size) dss.flatten).heap[b]? =w.heap[b]? :=fun b Aq=>hs.block b Aq.1 (fun Ab=>by
  have:b=g:=by simpa using Ab
  exact Aq.2 (this▸P'))
 have qe:ys.length<=cap/\ys.length<=140737488355328:=by
  rw[<-Qg]
  simp only[List.length_append,List.length_take,List.length_drop]
  omega
 refine⟨fun j Ay=>?_,Cu.one,?_,AR.KB (p':=@row α r E (.slice (some ⟨g,0,none⟩) ys.length cap) ys) i Ag EX (fun b Aq=>.inl Aq)⟩
 · have J9:k*r.size+j<cs.length:=by omega
   exact⟨by rw[cell_of_row w g _ _ E (0,0) CK];simp[List.getElem?_eq_getElem J9],frozen_of_row w g _ _ E CK⟩
 refine st.KB (p':=@row α r E (.slice (some ⟨g,0,none⟩) ys.length cap) ys) i Ag EX (fS Mc (by rw[cE];exact I0) qe.1 U4 qe.2 fun j x Ay=>?_) (by simp[Value.ownBlock]) (fun b Aq=>.inl Aq)
 subst Qg
 have hold:∀{MT:α},xs[j]? =some MT->(j<k\/k+zs.length<=j)->∃Cx,r.rd (Et (Own.J (L.set i (@row α r E (.slice (some ⟨g,0,none⟩) (xs.take k++zs++xs.drop (k+zs.length)).length cap) (xs.take k++zs++xs.drop (k+zs.length))))) (w.setCells g (k*r.size) dss.flatten)) (w.setCells g (k*r.size) dss.flatten) Cx MT/\Lt (w.setCells g (k*r.size) dss.flatten) g (0+j*r.size) Cx:=fun{MT} Ab Tq=>by
  obtain⟨Cx,K',OT⟩:=@PH α r _ _ _ Cy xs 0 Ep OX j MT Ab
  have AbA:Cx.length=r.size:=r.len K'
  refine⟨Cx,r.DY K' UW UT,fun t u Av=>?_⟩
  have Yy:t<Cx.length:=(List.getElem?_eq_some_iff.1 Av).1
  have Bw:=OT t u Av
  simp only[Nat.zero_add]at Bw ⊢
  rw[cell_of_row w g _ _ E (0,0) CK,List.getElem?_toArray]at Bw
  rw[cell_of_row _ g _ _ E (0,0) Mc,List.getElem?_toArray,T0 _ cs _ _ pB,if_neg ?_]
  · exact Bw
  · rcases Tq with h|h
    · have:=Nat.mul_le_mul_right r.size (show j+1<=k by omega)
      rw[Nat.succ_mul]at this
      omega
    · have:=Nat.mul_le_mul_right r.size h
      rw[Nat.add_mul]at this
      omega
 by_cases Af:j<k
 · rw[List.append_assoc,List.getElem?_append_left (by rw[List.length_take];omega),List.getElem?_take,if_pos Af]at Ay
   exact hold Ay (.inl Af)
 · by_cases h2:j<k+zs.length
   · rw[List.getElem?_append_left (by rw[List.length_append,List.length_take];omega),List.getElem?_append_right (by rw[List.length_take];omega),List.length_take,Nat.min_eq_left AE]at Ay
     obtain⟨Cx,K',OT⟩:=@PH α r (Et (Own.J (L.set i (@row α r E (.slice (some ⟨g,0,none⟩) (xs.take k++zs++xs.drop (k+zs.length)).length cap) (xs.take k++zs++xs.drop (k+zs.length))))) (w.setCells g (k*r.size) dss.flatten)) (w.setCells g (k*r.size) dss.flatten) g dss zs (k*r.size) (Cu.DY UW UT) (fun t u Av=>by
      have Yy:t<dss.flatten.length:=(List.getElem?_eq_some_iff.1 Av).1
      rw[cell_of_row _ g _ _ E (0,0) Mc,List.getElem?_toArray,T0 _ cs _ _ pB,if_pos (by omega),show k*r.size+t-k*r.size=t by omega]
      exact Av) (j-k) x Ay
     refine⟨Cx,K',?_⟩
     have e:k*r.size+(j-k)*r.size=0+j*r.size:=by
      rw[<-Nat.add_mul,Nat.zero_add]
      congr 1
      omega
     rw[<-e]
     exact OT
   · rw[List.getElem?_append_right (by rw[List.length_append,List.length_take];omega),List.length_append,List.length_take,Nat.min_eq_left AE,List.getElem?_drop,show k+zs.length+(j-(k+zs.length))=j by omega]at Ay
     exact hold Ay (.inr (by omega))
theorem AiI{α:Type}{r:Be α}{c:Cj}{w:World}{L:Own}{D:List Atom}(i o:Nat){xs:List α}{E:TypeId}{g n cap:Nat}{us:List Value}(Ag:L[i]? =some (@row α r E (.slice (some ⟨g,0,none⟩) n cap) xs))
 (st:CI c.BW c.M w L)(AR:BP D w L)(A7:xs.length*r.size<=o)(pA:o+us.length<=cap*r.size):
 (∀j,j<us.length->(w.cell? ⟨g,o+j,none⟩).isSome=true/\w.frozen? ⟨g,o+j,none⟩=false)/\CI c.BW c.M (w.setCells g o us) L/\BP D (w.setCells g o us) L:=by
 have Hv:=List.mem_of_getElem? Ag
 obtain⟨Ao,Tn,U4,Sg,⟨cs,CK,I0⟩,Cy,Ep,OX⟩:=Xa (st.own _ Hv)
 subst Ao
 have P':g∈L.J:=FW.2 ⟨_,Hv,by simp[Value.ownBlock]⟩
 have hs:C8 [g] w (w.setCells g o us):=cG g _ _ w
 have Mc:=aU us cs o w CK
 have EX:C8 (@row α r E (.slice (some ⟨g,0,none⟩) xs.length cap) xs).J w (w.setCells g o us):=hs.mono fun b Aq=>by simpa[Value.ownBlock]using Aq
 have O1:L.set i (@row α r E (.slice (some ⟨g,0,none⟩) xs.length cap) xs)=L:=by
  obtain⟨h,e⟩:=List.getElem?_eq_some_iff.1 Ag
  rw[<-e,List.set_getElem_self]
 have Af:=st.KB (p':=@row α r E (.slice (some ⟨g,0,none⟩) xs.length cap) xs) i Ag EX (fS Mc (by rw[cE];exact I0) Tn U4 Sg fun j x Ay=>?_) (by simp[Value.ownBlock]) (fun b Aq=>.inl Aq)
 · have h2:=AR.KB (p':=@row α r E (.slice (some ⟨g,0,none⟩) xs.length cap) xs) i Ag EX (fun b Aq=>.inl Aq)
   rw[O1]at Af h2
   refine⟨fun j Ay=>?_,Af,h2⟩
   have J9:o+j<cs.length:=by omega
   exact⟨by rw[cell_of_row w g _ _ E (0,0) CK];simp[List.getElem?_eq_getElem J9],frozen_of_row w g _ _ E CK⟩
 · rw[O1]
   obtain⟨Cx,K',OT⟩:=@PH α r _ _ _ Cy xs 0 Ep OX j x Ay
   have AbA:Cx.length=r.size:=r.len K'
   have a0:j<xs.length:=(List.getElem?_eq_some_iff.1 Ay).1
   refine⟨Cx,r.DY K' (fun b Aq=>⟨Nat.lt_of_lt_of_le Aq.1 hs.size,Aq.2⟩) (fun b Aq=>hs.block b Aq.1 (fun Ab=>by
    have:b=g:=by simpa using Ab
    exact Aq.2 (this▸P'))),fun t u Av=>?_⟩
   have Yy:t<Cx.length:=(List.getElem?_eq_some_iff.1 Av).1
   have Bw:=OT t u Av
   simp only[Nat.zero_add]at Bw ⊢
   rw[cell_of_row w g _ _ E (0,0) CK,List.getElem?_toArray]at Bw
   rw[cell_of_row _ g _ _ E (0,0) Mc,List.getElem?_toArray,T0 _ cs _ _ (by omega),if_neg ?_]
   · exact Bw
   · have:=Nat.mul_le_mul_right r.size (show j+1<=xs.length by omega)
     rw[Nat.succ_mul]at this
     omega
theorem sS{α:Type}{r:Be α}{S:Nat->Prop}{w:World}{E:TypeId}{g n cap:Nat}{xs:List α}(m:Nat)(hm:m<=xs.length)(h:(@row α r E (.slice (some ⟨g,0,none⟩) n cap) xs).holds S w):(@row α r E (.slice (some ⟨g,0,none⟩) m cap) (xs.take m)).holds S w:=by
 obtain⟨Ao,Tn,U4,Sg,⟨cs,CK,I0⟩,Cy,Ep,OX⟩:=Xa h
 have AN:(xs.take m).length=m:=by rw[List.length_take];omega
 have:=@fS α r S w g cap E cs (xs.take m) CK I0 (by omega) U4 (by omega) fun i x Ab=>by
  rw[List.getElem?_take]at Ab
  split at Ab
  · exact @PH α r _ _ _ Cy xs 0 Ep OX i x Ab
  · cases Ab
 rw[AN]at this
 exact this
@[reducible] def cut(g B7 l h Dc:Nat):Value:=.slice (if Dc=l then some ⟨g,0,none⟩else some ⟨g,l*B7,none⟩) (h-l) (Dc-l)
section
variable{c:Cj} {ops:Array Oper} {AP:Cj->Array Oper->List Oper->Env->Own->List Atom->Prop} [Dr:Ip AP] {env:Env} {L:Own} {D:List Atom} {rest:List Oper} {d:Nat} {t:TypeId} {p:String} {af:Array Edge} {x y BQ Ag bJ:Operand} {T:TypeId} {g n Dc:Nat} {l h m:Nat} {E:TypeId} {B7:Nat}
include Dr
theorem H2(Ab:AL env x=some (.slice (some ⟨g,0,none⟩) n Dc))(Av:H5 c.P T E B7)(B4:AL env BQ=some (.int .i64 (l:Int)))(Af:l<=n)(h2:n<=Dc)(Ao:Nat.blt d c.n=true)
 (k:AP c ops rest ((d,cut g B7 l n Dc)::env) L D):AP c ops (⟨some d,.slice T x (some BQ) none none,t,p,af,none⟩::rest) env L D:=
 pu rfl rfl Ao (fun a w f=>by
  obtain⟨j,Ay,hs⟩:=Option.map_eq_some_iff.1 Av.2
  have CY:(0:Int)<=l/\(l:Int)<=(n:Int):=by omega
  have Dh:(n:Int)<=(Dc:Int):=by omega
  simp[execOp,f.AL Ab,f.AL B4,Instr.sliceAt,run_underlying Av.1,Instr.slice,Instr.sliceBounds,Instr.sliceBound,asIntOf,CY,Af,sizeOf,typeInfo,Ay,hs,cut,Addr.add_mid]) k
theorem tk(Ab:AL env x=some (.slice (some ⟨g,0,none⟩) n Dc))(Av:H5 c.P T E B7)(B4:AL env BQ=some (.int .i64 (l:Int)))(DC:AL env Ag=some (.int .i64 (h:Int)))(Af:l<=h)(h2:h<=Dc)(Ao:Nat.blt d c.n=true)
 (k:AP c ops rest ((d,cut g B7 l h Dc)::env) L D):AP c ops (⟨some d,.slice T x (some BQ) (some Ag) none,t,p,af,none⟩::rest) env L D:=
 pu rfl rfl Ao (fun a w f=>by
  obtain⟨j,Ay,hs⟩:=Option.map_eq_some_iff.1 Av.2
  have CY:(0:Int)<=l/\(l:Int)<=(h:Int):=by omega
  have Dh:(0:Int)<=h/\(h:Int)<=(Dc:Int):=by omega
  simp[execOp,f.AL Ab,f.AL B4,f.AL DC,Instr.sliceAt,run_underlying Av.1,Instr.slice,Instr.sliceBounds,Instr.sliceBound,asIntOf,CY,Dh,Af,h2,sizeOf,typeInfo,Ay,hs,cut,Addr.add_mid]) k
theorem tl(Ab:AL env x=some (.slice (some ⟨g,0,none⟩) n Dc))(Av:H5 c.P T E B7)(B4:AL env BQ=some (.int .i64 (l:Int)))(DC:AL env Ag=some (.int .i64 (h:Int)))(Kk:AL env bJ=some (.int .i64 (m:Int)))(Af:l<=h)(h2:h<=m)(Bo:m<=Dc)(Ao:Nat.blt d c.n=true)
 (k:∀u,AP c ops rest ((d,u)::env) L D):AP c ops (⟨some d,.slice T x (some BQ) (some Ag) (some bJ),t,p,af,none⟩::rest) env L D:=
 pu rfl rfl Ao (fun a w f=>by
  obtain⟨j,Ay,hs⟩:=Option.map_eq_some_iff.1 Av.2
  have CY:(0:Int)<=l/\(l:Int)<=(h:Int):=by omega
  have Dh:(0:Int)<=h/\(h:Int)<=(m:Int):=by omega
  have DQ:(0:Int)<=m/\(m:Int)<=(Dc:Int):=by omega
  simp[execOp,f.AL Ab,f.AL B4,f.AL DC,f.AL Kk,Instr.sliceAt,run_underlying Av.1,Instr.slice,Instr.sliceBounds,Instr.sliceBound,asIntOf,CY,Dh,DQ,Af,h2,Bo,sizeOf,typeInfo,Ay,hs]
  rfl) (k _)
end
section
variable{c:Cj} {ops:Array Oper} {Q:Exit->Act->World->Prop} {env:Env} {L:Own} {D:List Atom} {rest:List Oper} {d:Nat} {t:TypeId} {p:String} {af:Array Edge} {x y:Operand} {T:TypeId}
theorem hK{α:Type}{r:Be α}(i m:Nat){l:List Oper}{E:TypeId}{g n cap:Nat}{xs:List α}(Ag:L[i]? =some (@row α r E (.slice (some ⟨g,0,none⟩) n cap) xs))(hm:m<=xs.length)(k:Cb Q c ops l env (L.set i (@row α r E (.slice (some ⟨g,0,none⟩) m cap) (xs.take m))) D):Cb Q c ops l env L D:=fun a w f st AR=>
 k a w f (st.swap Ag rfl (sS m hm (st.own _ (List.mem_of_getElem? Ag)))) (AR.swap Ag rfl)
theorem Sw{α:Type}{r:Be α}(i:Nat){KE:Code}{E:TypeId}{v:Value}{xs:List α}(Ag:L[i]? =some (@row α r E v xs))(Ab:0<xs.length)(k:∀g cap,v=.slice (some ⟨g,0,none⟩) xs.length cap->xs.length<=cap->cap<=maxLen->CF c KE Q env L D):CF c KE Q env L D:=fun a w f st AR=>by
 obtain⟨g,cap,Af,h2,Bo⟩:=AiG (st.own _ (List.mem_of_getElem? Ag)) (by intro e;rw[e]at Ab;simp at Ab)
 exact k g cap Af h2 Bo a w f st AR
theorem k6{α:Type}{r:Be α}{S:Nat->Prop}{w:World}:∀(j:Nat) (Cy:List (List Value)) (xs:List α),HM S w Cy xs->HM S w (Cy.drop j) (xs.drop j)/\(Cy.drop j).flatten=Cy.flatten.drop (j*r.size)
 |0,Cy,xs,h=>⟨h,by simp⟩
 |j+1,[],[],_=>⟨trivial,by simp⟩
 |j+1,c::Cy,x::xs,h=>by
  obtain⟨Af,h2⟩:=k6 j Cy xs h.2
  refine⟨Af,?_⟩
  have AN:=r.len h.1
  rw[List.drop_succ_cons,h2,List.flatten_cons,Nat.succ_mul,Nat.add_comm,<-AN,<-List.drop_drop,List.drop_left']
  rfl
 |j+1,[],_::_,h=>h.elim
 |j+1,_::_,[],h=>h.elim
theorem ni{α:Type}{r:Be α}(i:Nat){k j:Nat}{E:TypeId}{bytes g n cap:Nat}{xs:List α}(Ab:AL env x=some (.slice (some ⟨g,0,none⟩) k cap))(Bf:AL env y=some (cut g r.size j n cap))(Ag:L[i]? =some (@row α r E (.slice (some ⟨g,0,none⟩) n cap) xs))(Av:EH c.P T E r.size bytes)
 (Anq:k<=j)(a1:j<=xs.length)(Ao:Nat.blt d c.n=true)
 (K:Cb Q c ops rest ((d,.slice (some ⟨g,0,none⟩) (k+(n-j)) cap)::env) (L.set i (@row α r E (.slice (some ⟨g,0,none⟩) (k+(n-j)) cap) (xs.take k++xs.drop j))) D):
 Cb Q c ops (⟨some d,.call {callee:=.builtin .append,args:= #[x,y],argTypes:= #[T,T]},t,p,af,none⟩::rest) env L D:=by
 refine c7 (env':=(d,.slice (some ⟨g,0,none⟩) (k+(n-j)) cap)::env) rfl rfl (fun a w f st AR=>?_) K
 have Hv:=List.mem_of_getElem? Ag
 obtain⟨Qb,Tn,U4,Sg,⟨cs,CK,I0⟩,Cy,Ep,OX⟩:=Xa (st.own _ Hv)
 subst Qb
 obtain⟨Cu,FF⟩:=k6 j Cy xs Ep
 have bo:(xs.drop j).length=xs.length-j:=List.length_drop
 obtain⟨Af,h2,Bo,BB⟩:=ll (zs:=xs.drop j) (dss:=Cy.drop j) i k Ag st AR Cu (by omega) (by omega) (by omega) rfl
 obtain⟨hu,ii,Gz,Gf,bp,hs,P_,Oj,WA⟩:=Av
 have LH:(Cy.drop j).flatten.length=(xs.length-j)*r.size:=by rw[Cu.len,bo]
 have Ek:(Builtin.append_ #[T,T] t #[.slice (some ⟨g,0,none⟩) k cap,cut g r.size j xs.length cap]).run c.P w=.ok (.slice (some ⟨g,0,none⟩) (k+(xs.length-j)) cap) (w.setCells g (k*r.size) (Cy.drop j).flatten):=by
  have key:=fun(RJ:Addr) (Abi:∀t u,(Cy.drop j).flatten[t]? =some u->w.cell? (RJ.add t)=some u)=>run_append_room_cells (P:=c.P) (w:=w) (ty:=t) T E ii hu Gf g 0 k cap RJ (xs.length-j) (cap-j) (Cy.drop j).flatten (by rw[hs];exact LH) Abi h2 (by omega)
   (fun q B'=>by have:=(Af q B').1;rw[hs];simpa using this) (fun q B'=>by have:=(Af q B').2;rw[hs];simpa using this)
  rw[hs]at key
  simp only[Nat.zero_add]at key
  unfold cut
  split
  · refine key ⟨g,0,none⟩ fun t u Oh=>?_
    have:(Cy.drop j).flatten.length=0:=by rw[LH,show xs.length-j=0 by omega,Nat.zero_mul]
    rw[List.length_eq_zero_iff.1 this]at Oh
    cases Oh
  · refine key ⟨g,j*r.size,none⟩ fun t u Oh=>?_
    rw[FF,List.getElem?_drop]at Oh
    have:=OX _ _ Oh
    rw[Addr.add_lit]
    simpa using this
 have hlen:(xs.take k++xs.drop j++xs.drop (k+(xs.drop j).length)).length=max xs.length (k+(xs.length-j)):=by
  simp only[List.length_append,List.length_take,List.length_drop]
  omega
 refine⟨_,w.setCells g (k*r.size) (Cy.drop j).flatten,?_,f.put _ (EU Ao),?_⟩
 · simp only[execOp,resolve,invoke,builtin,Sem.run_bind,Sem.run_pure,Result.andThen_ok,List.map_toArray,List.map_cons,List.map_nil,f.AL Ab,f.AL Bf,Ek]
 · have C_:i<L.length:=(List.getElem?_eq_some_iff.1 Ag).1
   have Jf:(L.set i (@row α r E (.slice (some ⟨g,0,none⟩) (xs.take k++xs.drop j++xs.drop (k+(xs.drop j).length)).length cap) (xs.take k++xs.drop j++xs.drop (k+(xs.drop j).length))))[i]? =some (@row α r E (.slice (some ⟨g,0,none⟩) (xs.take k++xs.drop j++xs.drop (k+(xs.drop j).length)).length cap) (xs.take k++xs.drop j++xs.drop (k+(xs.drop j).length))):=List.getElem?_set_self C_
   have Bm:=sS (k+(xs.length-j)) (by rw[hlen];omega) (Bo.own _ (List.mem_of_getElem? Jf))
   have eY:(xs.take k++xs.drop j++xs.drop (k+(xs.drop j).length)).take (k+(xs.length-j))=xs.take k++xs.drop j:=List.take_left' (by rw[List.length_append,List.length_take,bo];omega)
   rw[eY]at Bm
   have C':=Bo.swap (q:=@row α r E (.slice (some ⟨g,0,none⟩) (k+(xs.length-j)) cap) (xs.take k++xs.drop j)) Jf rfl Bm
   have F4:=BB.swap (q:=@row α r E (.slice (some ⟨g,0,none⟩) (k+(xs.length-j)) cap) (xs.take k++xs.drop j)) Jf rfl
   rw[List.set_set]at C' F4
   exact⟨C',F4⟩
theorem Z'{α:Type}{r:Be α}(i:Nat){l h:Nat}{E:TypeId}{bytes g n cap:Nat}{xs:List α}{dst:Option Tmp}(Ab:AL env x=some (cut g r.size l h cap))(Ag:L[i]? =some (@row α r E (.slice (some ⟨g,0,none⟩) n cap) xs))(Av:EH c.P T E r.size bytes){zs:List Value}(Cu:E3 c.P E zs)(Tw:zs.all (·.oneCell')=true)
 (AN:xs.length<=l)(Anv:l<=h)(hh:h<=cap){env':Env}(he:∀a,Fr c.n a env->Fr c.n (a.put dst (.tuple #[])) env')(K:Cb Q c ops rest env' L D):
 Cb Q c ops (⟨dst,.call {callee:=.builtin .clear,args:= #[x],argTypes:= #[T]},t,p,af,none⟩::rest) env L D:=by
 refine c7 (env':=env') rfl rfl (fun a w f st AR=>?_) K
 obtain⟨hu,ii,Gz,Gf,bp,hs,P_,Oj,WA⟩:=Av
 obtain⟨i2,OF,Jf,PE,WH⟩:=Cu
 rw[Gf]at Jf
 injection Jf with Jf
 subst Jf
 rw[bp]at PE
 injection PE with PE
 subst PE
 by_cases C_:l=h
 · subst C_
   refine⟨.tuple #[],w,?_,he a f,st,AR⟩
   have Ek:(Builtin.clear_ #[T] t #[cut g r.size l l cap]).run c.P w=.ok (.tuple #[]) w:=by
    unfold cut
    split<;>simp[Builtin.clear_,run_underlying hu]
   simp only[execOp,resolve,invoke,builtin,Sem.run_bind,Sem.run_pure,Result.andThen_ok,List.map_toArray,List.map_cons,List.map_nil,f.AL Ab,Ek]
 · obtain⟨us,I1⟩:∃us,us=(Builtin.zeroCells Gz.cells (h-l)).toList:=⟨_,rfl⟩
   have e0:us.length=(h-l)*r.size:=by rw[I1,Array.length_toList,size_zeroCells,Oj]
   have Acl:∀u∈us,u.oneCell'=true:=by
    intro u Oh
    rw[I1,Array.mem_toList_iff]at Oh
    have Hv:u∈Gz.cells:=by
     unfold Builtin.zeroCells at Oh
     obtain⟨q,B',rfl⟩:=Array.mem_map.1 Oh
     have Bw:0<Gz.cells.size:=by rw[Oj];exact WA
     have:q % Gz.cells.size<Gz.cells.size:=Nat.mod_lt _ Bw
     rw[getElem!_pos Gz.cells (q % Gz.cells.size) this]
     exact Array.getElem_mem _
    rw[WH]at Hv
    have:=List.all_eq_true.1 Tw u (by simpa using Hv)
    simpa using this
   have Sd:=Nat.mul_le_mul_right r.size AN
   have Anz:=Nat.mul_le_mul_right r.size hh
   have AnA:l*r.size+(h-l)*r.size=h*r.size:=by rw[<-Nat.add_mul];congr 1;omega
   obtain⟨Af,Bo,BB⟩:=AiI (us:=us) i (l*r.size) Ag st AR Sd (by rw[e0];omega)
   refine⟨.tuple #[],w.setCells g (l*r.size) us,?_,he a f,Bo,BB⟩
   have Gg:=run_storeCells_cells (P:=c.P) g (l*r.size) us 0 w (fun q B'=>by simpa using(Af q B').1) (fun q B'=>by simpa using(Af q B').2) Acl
   simp only[Nat.add_zero]at Gg
   have Ek:(Builtin.clear_ #[T] t #[cut g r.size l h cap]).run c.P w=.ok (.tuple #[]) (w.setCells g (l*r.size) us):=by
    obtain⟨q,B'⟩:∃q,h-l=q+1:=⟨h-l-1,by omega⟩
    unfold cut
    rw[if_neg (by omega),B']
    rw[B']at I1
    simp[Builtin.clear_,run_underlying hu,zeroValue,typeInfo,Gf,bp,<-I1,Gg]
   simp only[execOp,resolve,invoke,builtin,Sem.run_bind,Sem.run_pure,Result.andThen_ok,List.map_toArray,List.map_cons,List.map_nil,f.AL Ab,Ek]
theorem sX{P:Program}(w:World){dT sT ty elem:TypeId}{B7:Nat}(b o oc yq:Nat)(a:Addr)(lv s6 m:Nat)(cs:List Value)
 (hu:P.underlying dT=some (.slice elem))(hs:(P.info? elem).map (·.size)=some B7)(hm:m=Nat.min lv oc)(Ao:cs.length=m*B7)
 (Ach:∀j v,cs[j]? =some v->w.cell? (a.add j)=some v)(Bm:∀j,j<cs.length->(w.cell? ⟨b,o+j,none⟩).isSome=true/\w.frozen? ⟨b,o+j,none⟩=false)(Af:∀v∈cs,v.oneCell'=true):
 (Builtin.copy_ #[dT,sT] ty #[.slice (some ⟨b,o,none⟩) oc yq,.slice (some a) lv s6]).run P w=.ok (.int .i64 (m:Int)) (w.setCells b o cs):=by
 have Gg:=run_storeCells_cells (P:=P) b o cs 0 w (by simpa using fun j Ay=>(Bm j Ay).1) (by simpa using fun j Ay=>(Bm j Ay).2) Af
 obtain⟨i,Ag,EY⟩:=Option.map_eq_some_iff.1 hs
 have BI:=run_firstCells_some (P:=P) w B7 m a lv s6 cs Ao Ach
 simp only[Nat.add_zero]at Gg
 simp[Builtin.copy_,run_underlying hu,Builtin.lenOf,sizeOf,typeInfo,Ag,EY,<-hm,BI,Gg,goInt]
theorem Uz{α:Type}{s:Shape α}(i j:Nat){k h:Nat}{E:TypeId}{g n cap Pj:Nat}{xs:List α}{ov:α}{hh:s.H}{dT:TypeId}(Ab:AL env x=some (cut g s.size k h cap))(Bf:AL env y=some (.slice (some ⟨Pj,0,none⟩) 1 1))(Ag:L[i]? =some (@row α (Be.D5 s) E (.slice (some ⟨g,0,none⟩) n cap) xs))(Ay:L[j]? =some (AO Pj E (s.cells ov hh)))
 (Av:H5 c.P T E s.size)(Cl:Bg (s.sub ov hh) D)(hw:s.wf ov)(AE:k<=xs.length)(AbQ:k<h)(AbK:h<=cap)(hlen:xs.length<140737488355328)(Ao:Nat.blt d c.n=true){ys:List α}(Qg:xs.take k++[ov]++xs.drop (k+1)=ys)
 (K:Cb Q c ops rest ((d,.int .i64 1)::env) (L.set i (@row α (Be.D5 s) E (.slice (some ⟨g,0,none⟩) ys.length cap) ys)) D):
 Cb Q c ops (⟨some d,.call {callee:=.builtin .copy,args:= #[x,y],argTypes:= #[T,dT]},t,p,af,none⟩::rest) env L D:=by
 refine c7 (env':=(d,.int .i64 1)::env) rfl rfl (fun a w f st AR=>?_) K
 have BC:w.heap[Pj]? =some (.cells (s.cells ov hh).toArray E (0,0)):=st.own _ (List.mem_of_getElem? Ay)
 have Cu:@HM α (Be.D5 s) (Et L.J w) w [s.cells ov hh] [ov]:=⟨⟨hh,rfl,fun t Av=>AR t (Cl t Av),hw⟩,trivial⟩
 obtain⟨Af,h2,Bo,BB⟩:=ll (r:=Be.D5 s) (zs:=[ov]) (dss:=[s.cells ov hh]) i k Ag st AR Cu AE (by simp;omega) (by simp;omega) Qg
 refine⟨_,_,?_,f.put _ (EU Ao),Bo,BB⟩
 have Ek:=sX (P:=c.P) w (dT:=T) (sT:=dT) (ty:=t) g (k*s.size) (h-k) (cap-k) ⟨Pj,0,none⟩ 1 1 1 [s.cells ov hh].flatten Av.1 Av.2 (by simp only[Nat.min_def];split<;>omega) (by simp[s.len]) (fun q u B'=>by
  rw[Addr.add_lit,cell_of_row w Pj _ _ E (0,0) BC]
  simpa using B') Af h2
 have HX:=f.AL Ab
 unfold cut at HX
 rw[if_neg (by omega)]at HX
 simp only[execOp,resolve,invoke,builtin,Sem.run_bind,Sem.run_pure,Result.andThen_ok,List.map_toArray,List.map_cons,List.map_nil,HX,f.AL Bf,Ek]
 rfl
theorem UA{α:Type}{r:Be α}(i j:Nat){k h l h2:Nat}{E:TypeId}{g n cap G1 MF hC:Nat}{xs us:List α}{dT:TypeId}(Ab:AL env x=some (cut g r.size k h cap))(Bf:AL env y=some (cut G1 r.size l h2 hC))(Ag:L[i]? =some (@row α r E (.slice (some ⟨g,0,none⟩) n cap) xs))(Ay:L[j]? =some (@row α r E (.slice (some ⟨G1,0,none⟩) MF hC) us))
 (Av:H5 c.P T E r.size)(AE:k<=xs.length)(AbQ:k<h)(AbK:h<=cap)(AN:l<us.length)(hm:us.length-l=Nat.min (h2-l) (h-k))(hlen:k+us.length<140737488355328)(Ao:Nat.blt d c.n=true){ys:List α}(Qg:xs.take k++us.drop l++xs.drop (k+(us.length-l))=ys)
 (K:∀m:Int,Cb Q c ops rest ((d,.int .i64 m)::env) (L.set i (@row α r E (.slice (some ⟨g,0,none⟩) ys.length cap) ys)) D):
 Cb Q c ops (⟨some d,.call {callee:=.builtin .copy,args:= #[x,y],argTypes:= #[T,dT]},t,p,af,none⟩::rest) env L D:=by
 refine c7 (env':=(d,.int .i64 ((us.length-l:Nat):Int))::env) rfl rfl (fun a w f st AR=>?_) (K _)
 obtain⟨Qb,Tn,U4,Sg,_,Cy,Ep,OX⟩:=Xa (st.own _ (List.mem_of_getElem? Ay))
 obtain⟨Cu,FF⟩:=k6 l Cy us Ep
 have bo:(us.drop l).length=us.length-l:=List.length_drop
 have pQ:us.length-l<=h-k:=by rw[hm];exact Nat.min_le_right _ _
 obtain⟨Af,iI,Bo,BB⟩:=ll (zs:=us.drop l) (dss:=Cy.drop l) (ys:=ys) i k Ag st AR Cu AE (by omega) (by omega) (by rw[bo];exact Qg)
 refine⟨_,_,?_,f.put _ (EU Ao),Bo,BB⟩
 have Ek:=sX (P:=c.P) w (dT:=T) (sT:=dT) (ty:=t) g (k*r.size) (h-k) (cap-k) ⟨G1,l*r.size,none⟩ (h2-l) (hC-l) (us.length-l) (Cy.drop l).flatten Av.1 Av.2 hm (by rw[Cu.len,bo]) (fun q u B'=>by
  rw[FF,List.getElem?_drop]at B'
  have:=OX _ _ B'
  rw[Addr.add_lit]
  simpa using this) Af iI
 have HX:=f.AL Ab
 have U6:=f.AL Bf
 unfold cut at HX U6
 rw[if_neg (by omega)]at HX U6
 simp only[execOp,resolve,invoke,builtin,Sem.run_bind,Sem.run_pure,Result.andThen_ok,List.map_toArray,List.map_cons,List.map_nil,HX,U6,Ek]
theorem dy{α:Type}{r:Be α}(i:Nat){k m:Nat}{E l9:TypeId}{bytes g n cap:Nat}{qP:IntKind}{xs:List α}(Ab:AL env x=some (.slice (some ⟨g,0,none⟩) k cap))(Bf:AL env y=some (.int .i64 (m:Int)))(Ag:L[i]? =some (@row α r E (.slice (some ⟨g,0,none⟩) n cap) xs))(Av:EH c.P T E r.size bytes)(Ack:c.P.underlying l9=some (.int qP))
 (AE:k<=xs.length)(hm:cap<k+m)(Aq:(k+m)*bytes<=140737488355328)(R9:k+m<=140737488355328)(Ao:Nat.blt d c.n=true)
 (K:∀b G,k+m<=G->G<=maxLen->Cb Q c ops rest ((d,.slice (some ⟨b,0,none⟩) (k+m) G)::env) (@row α r E (.slice (some ⟨b,0,none⟩) k G) (xs.take k)::L) D):
 Cb Q c ops (⟨some d,.call {callee:=.builtin .append,args:= #[x,y],argTypes:= #[T,l9]},t,p,af,none⟩::rest) env L D:=by
 obtain⟨hu,ii,Gz,Gf,bp,hs,P_,Oj,WA⟩:=Av
 refine Ue (σ:={q:Nat×Nat // k+m<=q.2/\q.2<=maxLen}) rfl rfl (fun q=>(d,.slice (some ⟨q.1.1,0,none⟩) (k+m) q.1.2)::env) (fun q=>@row α r E (.slice (some ⟨q.1.1,0,none⟩) k q.1.2) (xs.take k)::L) (fun _=>D) (fun a w f st AR=>?_) (fun q=>K _ _ q.2.1 q.2.2)
 obtain⟨Qb,Tn,U4,Sg,⟨cs,CK,I0⟩,Cy,Ep,OX⟩:=Xa (st.own _ (List.mem_of_getElem? Ag))
 have AJ:=C8.drew [] w
 obtain⟨TI,holds⟩:∃TI,TI=Cy.flatten.take (k*r.size):=⟨_,rfl⟩
 have pD:Cy.flatten.length=xs.length*r.size:=Ep.len
 have pX:TI.length=k*r.size:=by
  rw[holds,List.length_take,pD]
  exact Nat.min_eq_left (Nat.mul_le_mul_right _ AE)
 have hold:(Builtin.firstCells ii.size k (.slice (some ⟨g,0,none⟩) k cap)).run c.P w.drew=.ok TI.toArray w.drew:=by
  rw[hs]
  refine run_firstCells_some w.drew r.size k ⟨g,0,none⟩ k cap TI pX fun q u B'=>?_
  rw[Addr.add_lit]
  rw[holds,List.getElem?_take]at B'
  split at B'
  · have:=OX q u B'
    simpa using this
  · cases B'
 have Ek:=Lib.run_append_grow_zeros (P:=c.P) w T l9 t E ii Gz .i64 qP hu Ack Gf bp (some ⟨g,0,none⟩) k cap TI hold m (by omega) (by rw[hs];exact WA) hm (by omega) (by rw[P_];have:=Nat.mul_le_mul_right bytes (show m<=k+m by omega);omega) (by rw[P_];exact growslice_fits hm Aq)
 have K8:=grownCap_ge w (k+m) cap E
 have UU:=grownCap_le_maxLen w (k+m) cap E (by simp only[maxLen];omega)
 obtain⟨G,AaV⟩:∃G,G=grownCap w (k+m) cap E:=⟨_,rfl⟩
 rw[<-AaV]at Ek K8 UU
 obtain⟨A,Cl⟩:∃A,A=TI.toArray++Builtin.zeroCells Gz.cells m++Builtin.zeroCells Gz.cells (G-(k+m)):=⟨_,rfl⟩
 rw[<-Cl]at Ek
 have AaT:A.toList.length=G*r.size:=by
  rw[Cl]
  simp only[Array.length_toList,Array.size_append,size_zeroCells,Oj,List.size_toArray,pX,<-Nat.add_mul]
  congr 1
  omega
 have Gg:=st.step AJ
 have F5:(w.drew.alloc (.cells A E)).heap[w.heap.size]? =some (.cells A.toList.toArray E (0,0)):=by
  show(w.heap.push (.cells A E (0,0)))[w.heap.size]? =_
  simp
 have Md:(xs.take k).length=k:=by rw[List.length_take];omega
 have AH:(@row α r E (.slice (some ⟨w.heap.size,0,none⟩) k G) (xs.take k)).holds (Et (Own.J (@row α r E (.slice (some ⟨w.heap.size,0,none⟩) k G) (xs.take k)::L)) (w.drew.alloc (.cells A E))) (w.drew.alloc (.cells A E)):=by
  have:=@fS α r (Et (Own.J (@row α r E (.slice (some ⟨w.heap.size,0,none⟩) k G) (xs.take k)::L)) (w.drew.alloc (.cells A E))) (w.drew.alloc (.cells A E)) w.heap.size G E A.toList (xs.take k) F5 AaT (by omega) UU (by omega) fun q MT B'=>by
   rw[List.getElem?_take]at B'
   split at B'
   · rename_i AnB
     obtain⟨Cx,K',OT⟩:=@PH α r _ _ _ Cy xs 0 Ep OX q MT B'
     have LH:Cx.length=r.size:=r.len K'
     refine⟨Cx,r.DY K' (fun b Aq=>⟨Nat.lt_of_lt_of_le Aq.1 (by simp),fun Ab=>?_⟩) (fun b Aq=>heap_alloc_old w.drew _ Aq.1),fun z u qf=>?_⟩
     · simp only[Own.J,Dt,List.mem_append]at Ab
       rcases Ab with Ab|Ab
       · have:b=w.heap.size:=by simpa[Value.ownBlock]using Ab
         have:=Aq.1
         omega
       · exact Aq.2 Ab
     · have PE:z<Cx.length:=(List.getElem?_eq_some_iff.1 qf).1
       have Bw:=OT z u qf
       have C_:q*r.size+z<k*r.size:=by
        have:=Nat.mul_le_mul_right r.size (show q+1<=k by omega)
        rw[Nat.succ_mul]at this
        omega
       obtain⟨RP,NL,Sc⟩:∃Dc:List Value,Dc=Cy.flatten/\Lt w g 0 Dc:=⟨_,rfl,OX⟩
       have pM:q*r.size+z<Cy.flatten.length:=by
        rw[pD]
        have:=Nat.mul_le_mul_right r.size AE
        omega
       have C':=OX _ _ (List.getElem?_eq_getElem pM)
       simp only[Nat.zero_add]at Bw C'
       rw[Bw]at C'
       rw[cell_of_row _ _ _ _ E (0,0) F5,List.getElem?_toArray,Cl]
       simp only[Nat.zero_add,Array.toList_append,List.append_assoc]
       rw[List.getElem?_append_left (by show _<TI.length;omega)]
       show TI[_]? =_
       rw[holds]
       rw[List.getElem?_take,if_pos C_,List.getElem?_eq_getElem pM]
       exact C'.symm
   · cases B'
  rw[Md]at this
  exact this
 refine⟨⟨(w.heap.size,G),K8,UU⟩,_,_,?_,f.put _ (EU Ao),Gg.push (C8.alloc [] w.drew _) AH (by simp[Value.ownBlock]) (by simp[Value.ownBlock]),(AR.step AJ.nil).push (C8.alloc [] w.drew _) (by simp[Value.ownBlock])⟩
 have HX:=f.AL Ab
 have U6:=f.AL Bf
 simp only[execOp,resolve,invoke,builtin,Sem.run_bind,Sem.run_pure,Result.andThen_ok,List.map_toArray,List.map_cons,List.map_nil,HX,U6,Ek]
theorem ft{α:Type}{r:Be α}(i j:Nat){q h:Nat}{E:TypeId}{g n cap Pj:Nat}{xs:List α}{us:List Value}{f:FuncId}{ats:Array TypeId}{Pr Cd:TypeId}(BI:Ext c.P f (Extern.SlicesOverlaps.overlaps #[Pr,Pr] #[Cd]))(Ab:AL env x=some (.slice (some ⟨Pj,0,none⟩) 1 1))(Bf:AL env y=some (cut g r.size q h cap))(Ag:L[i]? =some (@row α r E (.slice (some ⟨g,0,none⟩) n cap) xs))(Ay:L[j]? =some (AO Pj E us))(GQ:i≠j)
 (Av:H5 c.P Pr E r.size)(Tn:0<cap)(EY:0<r.size)(Ao:Nat.blt d c.n=true)
 (K:Cb Q c ops rest ((d,.bool false)::env) L D):
 Cb Q c ops (⟨some d,.call {callee:=.value (.func f),args:= #[x,y],argTypes:=ats},t,p,af,none⟩::rest) env L D:=by
 refine c7 (env':=(d,.bool false)::env) rfl rfl (fun a w Gw st AR=>⟨.bool false,w,?_,Gw.put _ (EU Ao),st,AR⟩) K
 obtain⟨_,_,_,_,⟨cs,CK,I0⟩,_⟩:=Xa (st.own _ (List.mem_of_getElem? Ag))
 have BC:w.heap[Pj]? =some (.cells us.toArray E (0,0)):=st.own _ (List.mem_of_getElem? Ay)
 have FG:Pj≠g:=fun e=>by
  have:=CI.KB.XX Ag Ay GQ st.nd g (by simp[Value.ownBlock]) (by simp[e])
  exact this
 obtain⟨qz,AbO,hs⟩:=Option.map_eq_some_iff.1 Av.2
 have AE:cs.toArray.size≠0:=by
  rw[List.size_toArray,I0]
  have:=Nat.mul_pos Tn EY
  omega
 obtain⟨fn,B4,DC,Kk,QX,QY⟩:=BI.ok
 have Ek:(callFunc f #[.slice (some ⟨Pj,0,none⟩) 1 1,cut g r.size q h cap]).run c.P w=.ok (.value (.bool false)) w:=by
  rw[run_callFunc_extern B4 DC Kk QX QY]
  have key:=fun RJ (Af:RJ=(⟨g,0,none⟩:Addr)\/RJ=⟨g,q*r.size,none⟩)=>Lib.run_overlaps_apart (P:=c.P) w Pr Cd E Av.1 r.size (fun w=>by simp[sizeOf,typeInfo,AbO,hs]) ⟨Pj,0,none⟩ RJ 1 1 (h-q) (cap-q) (by rcases Af with rfl|rfl<;>exact FG) E E us.toArray.size cs.toArray.size (by simp[World.shape?,BC]) (by rcases Af with rfl|rfl<;>simp[World.shape?,CK])
   AE (frozen_of_row w Pj _ _ E BC) (frozen_of_row w Pj _ _ E BC)
  unfold cut
  split
  · rw[key _ (.inl rfl)];rfl
  · rw[key _ (.inr rfl)];rfl
 have JU:a.eval (.func f)=.func (.func f) #[] #[]:=rfl
 simp only[execOp,resolve,Deferred.ofValue,JU,invoke,List.map_toArray,List.map_cons,List.map_nil,Gw.AL Ab,Gw.AL Bf,Sem.run_bind,Sem.run_pure,Result.andThen_ok]
 simpa using Ek
end
end
end Go.A_
namespace Go.Apw
open Go.A_
@[reducible] def VW(x:FE):List Value:=[.int .i64 x.Ca,.int .i64 x.Ap,.int .i64 x.As,.int .i64 x.Cm.Jd,.int .i64 x.Cm.JM,.int .i64 x.Cm.JJ,.int .i64 x.Cm.JK]
def FE.wf(x:FE):Prop:=A' x.Ca/\A' x.Ap/\A' x.As/\x.Cm.wf
@[reducible] def AiZ:Shape FE where
 H:=Unit
 size:=7
 cells x h:=VW x
 sub x h:=[]
 wf:=FE.wf
 len _ _:=rfl
 one:=by
  intro S w x h Av u hu
  simp only[VW,List.mem_cons,List.not_mem_nil,or_false]at hu
  rcases hu with rfl|rfl|rfl|rfl|rfl|rfl|rfl<;>first|rfl
@[reducible] instance Nk:Be FE:=Be.D5 AiZ
theorem AsJ{x:FE}:∀(S:Nat->Prop) (w:World) (cs:List Value),Nk.rd S w cs x->E_.rd S w ((cs.drop 0).take 1) x.Ca:=by
 rintro S w cs ⟨h,rfl,hs,hw⟩
 exact⟨rfl,hw.1⟩
theorem AsK{x:FE}:∀(S:Nat->Prop) (w:World) (cs:List Value),Nk.rd S w cs x->E_.rd S w ((cs.drop 1).take 1) x.Ap:=by
 rintro S w cs ⟨h,rfl,hs,hw⟩
 exact⟨rfl,hw.2.1⟩
theorem AsL{x:FE}:∀(S:Nat->Prop) (w:World) (cs:List Value),Nk.rd S w cs x->E_.rd S w ((cs.drop 2).take 1) x.As:=by
 rintro S w cs ⟨h,rfl,hs,hw⟩
 exact⟨rfl,hw.2.2.1⟩
theorem AsM{x:FE}:∀(S:Nat->Prop) (w:World) (cs:List Value),Nk.rd S w cs x->ch.rd S w ((cs.drop 3).take 4) x.Cm:=by
 rintro S w cs ⟨h,rfl,hs,hw⟩
 exact⟨(),rfl,by simp,hw.2.2.2⟩
@[reducible] def dK(x:JE):List Value:=[.int .i64 x.Bn,.string x.Al]
def JE.wf(x:JE):Prop:=A' x.Bn/\x.Al.size<=9223372036854775807
@[reducible] def tm:Shape JE where
 H:=Unit
 size:=2
 cells x h:=dK x
 sub x h:=[]
 wf:=JE.wf
 len _ _:=rfl
 one:=by
  intro S w x h Av u hu
  simp only[dK,List.mem_cons,List.not_mem_nil,or_false]at hu
  rcases hu with rfl|rfl<;>first|rfl
@[reducible] instance TQ:Be JE:=Be.D5 tm
@[reducible] def FB(x:Ah)(AS A1 AY A9 Ba Bd Bp Bi:Value):List Value:=[.int .i64 x.S.CZ,.int .i64 x.S.DX,.bool x.S.Du,.string x.S.A6,.string x.S.Bc,.int .i64 x.S.Dn,AS,A1,AY,A9,Ba,.int .i64 x.S.Bt.Ev,.int .i64 x.S.Bt.Hi,.int .i64 x.S.Bt.IX,.string x.S.Bt.A6,.string x.S.Bt.Bc,.int .i64 x.S.Bt.Ap,.int .i64 x.S.Bt.As,.int .i64 x.S.CW.Ev,.int .i64 x.S.CW.Hi,.int .i64 x.S.CW.IX,.string x.S.CW.A6,.string x.S.CW.Bc,.int .i64 x.S.CW.Ap,.int .i64 x.S.CW.As,Bd,.int .i64 x.S.Jc,.int .i64 x.S.JL,.int .i64 x.S.GW,.int .i64 x.ix,.int .i64 x.nd,Bp,Bi]
def Ah.wf(x:Ah):Prop:=x.S.wf/\A' x.ix/\A' x.nd/\True/\True
@[reducible] def QA:Shape Ah where
 H:=Value×Value×Value×Value×Value×Value×Value×Value
 size:=33
 cells x h:=FB x h.1 h.2.1 h.2.2.1 h.2.2.2.1 h.2.2.2.2.1 h.2.2.2.2.2.1 h.2.2.2.2.2.2.1 h.2.2.2.2.2.2.2
 sub x h:=[⟨h.1,x.S.Aj⟩,⟨h.2.1,x.S.Bz⟩,⟨h.2.2.1,x.S.AA⟩,⟨h.2.2.2.1,x.S.Bj⟩,⟨h.2.2.2.2.1,x.S.CX⟩,⟨h.2.2.2.2.2.1,x.S.Cf⟩,⟨h.2.2.2.2.2.2.1,x.EF⟩,⟨h.2.2.2.2.2.2.2,x.BQ⟩]
 wf:=Ah.wf
 len _ _:=rfl
 one:=by
  intro S w x h Av u hu
  have JZ:=Fh (Av _ (List.mem_cons_self ..))
  have Ie:=Fh (Av _ (Qm 1 G))
  have II:=Fh (Av _ (Qm 2 G))
  have IJ:=Fh (Av _ (Qm 3 G))
  have J0:=Fh (Av _ (Qm 4 G))
  have Ks:=Fh (Av _ (Qm 5 G))
  have MG:=Fh (Av _ (Qm 6 G))
  have NU:=Fh (Av _ (Qm 7 G))
  simp only[FB,List.mem_cons,List.not_mem_nil,or_false]at hu
  rcases hu with rfl|rfl|rfl|rfl|rfl|rfl|rfl|rfl|rfl|rfl|rfl|rfl|rfl|rfl|rfl|rfl|rfl|rfl|rfl|rfl|rfl|rfl|rfl|rfl|rfl|rfl|rfl|rfl|rfl|rfl|rfl|rfl|rfl<;>first|rfl|exact JZ|exact Ie|exact II|exact IJ|exact J0|exact Ks|exact MG|exact NU
end Go.Apw
namespace Go.Proofs.YtalfaopffbkdnaaGreat
open Go.A_
theorem RL:EH AG 60 3 1 8:=EH.mk Tryz.underlying60 (by kernel_rfl) (by decide)
theorem zy:Ext Tryz.prog 315 Extern.BytealgCompare.compare:=⟨⟨_,Tryz.func315,by kernel_rfl,by kernel_rfl,by kernel_rfl,by kernel_rfl⟩⟩
theorem oN:Ext Tryz.prog 217 add64Entry:=⟨⟨_,Tryz.func217,by kernel_rfl,by kernel_rfl,by kernel_rfl,by kernel_rfl⟩⟩
theorem mixed:Tryz.prog.follows .mixedOrders=true:=by kernel_rfl
theorem tp:H5 AG 60 3 1:=⟨Tryz.underlying60,by kernel_rfl⟩
theorem J1:H5 AG 23 54 7:=⟨Tryz.underlying23,by kernel_rfl⟩
theorem Gt:H5 AG 22 73 10:=⟨Tryz.underlying22,by kernel_rfl⟩
theorem Ox:H5 AG 25 52 8:=⟨Tryz.underlying25,by kernel_rfl⟩
theorem Ky:H5 AG 26 125 2:=⟨Tryz.underlying26,by kernel_rfl⟩
theorem I6:H5 AG 69 83 4:=⟨Tryz.underlying69,by kernel_rfl⟩
theorem SN:E3 AG 54 [.int .i64 0,.int .i64 0,.bool false,.int .i64 0,.int .i64 0,.int .i64 0,.int .i64 0]:=E3.mk (by kernel_rfl)
theorem SO:E3 AG 52 [.int .i64 0,.int .i64 0,.string ByteArray.empty,.string ByteArray.empty,.int .i64 0,.int .i64 0,.int .i64 0,.int .i64 0]:=E3.mk (by kernel_rfl)
theorem de:E3 AG 125 [.int .i64 0,.int .i64 0]:=E3.mk (by kernel_rfl)
theorem Um:E3 AG 83 [.int .i64 0,.int .i64 0,.int .i64 0,.int .i64 0]:=E3.mk (by kernel_rfl)
theorem vt:E3 AG 33 [.int .i64 0,.string ByteArray.empty,.string ByteArray.empty,.int .i64 0,.int .i64 0,.int .i64 0]:=E3.mk (by kernel_rfl)
theorem Hd:E3 AG 73 [.string ByteArray.empty,.int .i64 0,.int .i64 0,.int .i64 0,.int .i64 0,.slice none 0 0,.int .i64 0,.int .i64 0,.int .i64 0,.int .i64 0]:=E3.mk (by kernel_rfl)
end Go.Proofs.YtalfaopffbkdnaaGreat
namespace Go.Proofs.YtalfaopffbkdnaaGreat.Uo
open Go.A_
end Go.Proofs.YtalfaopffbkdnaaGreat.Uo
namespace Go.Proofs.YtalfaopffbkdnaaGreat
open Go.A_ Go.Apw
theorem Zh(g:Int)(Wo:A' g):Cv AG 62 [.int .i64 g] [] (.bool (Ih g)):=by
 refine Aw.proof Tryz.func62 G 9 G G fun X w=>?_
 obtain⟨Aa5,Aa6⟩:=id Wo
 exact AF 1 G<|Ae<|U 3 G<|Fu 5 3 [] [] G G G<|U 1 G<|Ac<|rt<|Bq () G G (by rfl) G Aa
theorem gi(k:ByteArray):Cv AG 140 [.string k] [] (.bool (Ix k)):=by
 refine Aw.proof Tryz.func140 G 11 G G fun X w=>AF 1 G<|Ae<|An G G<|PI G Tryz.underlying9 G<|U 2 G ?_
 refine D4 6 4 [] G G (fun F4 ZC=>by
  have Aog:=of_decide_eq_true F4
  exact U 1 G<|Bl G G G<|PI G Tryz.underlying9 G<|U 2 G<|ZC G Br) ?_
 exact U 1 G<|Ac<|rt<|Bq () G G (by rfl) G Aa
theorem gr(c:Int)(q:Int)(BK:A' c)(Ed:A' q):Cv AG 139 [.int .i64 c,.int .i64 q] [] (.bool (Jj c q)):=by
 refine Aw.proof Tryz.func139 G 19 G G fun X w=>?_
 obtain⟨K9,K_⟩:=id BK
 obtain⟨LD,LF⟩:=id Ed
 exact AF 1 G<|Ae<|U 3 G<|Fu 7 3 [] [1] G G G<|An G G<|Fu 11 3 [] [1] G G G<|An G G<|Fu 15 3 [] [] G G G<|U 1 G<|Ac<|rt<|Bq () G G (by rfl) G Aa
theorem hS(c:Int)(q:Int)(BK:A' c)(Ed:A' q):Cv AG 138 [.int .i64 c,.int .i64 q] [] (.bool (Jj c q)):=by
 refine Aw.proof Tryz.func138 G 19 G G fun X w=>?_
 obtain⟨K9,K_⟩:=id BK
 obtain⟨LD,LF⟩:=id Ed
 exact AF 1 G<|Ae<|U 3 G<|Fu 7 3 [] [1] G G G<|An G G<|Fu 11 3 [] [1] G G G<|An G G<|Fu 15 3 [] [] G G G<|U 1 G<|Ac<|rt<|Bq () G G (by rfl) G Aa
theorem Xx(BQ:ByteArray)(Ag:ByteArray)(key:ByteArray):Cv AG 141 [.string BQ,.string Ag,.string key] [] (.bool (within BQ Ag key)):=by
 refine Aw.proof Tryz.func141 G 19 G G fun X w=>AF 1 G<|Ae<|U 2 G<|j2 G G G<|An G G ?_
 refine D4 10 8 [] G G (fun Dq N'=>by
  refine U 3 G ?_
  refine DE 13 4 [10] G G (fun Dp vO=>by
   have Af0:=of_decide_eq_false Dp
   exact U 2 G<|Bl G G G<|Ad7 G G G<|U 1 G<|vO G Br) ?_
  exact U 1 G<|N' G Br) ?_
 exact U 1 G<|Ac<|rt<|Bq () G G (by rfl) G Aa
theorem tu(BQ:ByteArray)(Ag:ByteArray):Cv AG 134 [.string BQ,.string Ag] [] (.bool (PQ BQ Ag)):=by
 refine Aw.proof Tryz.func134 G 22 G G fun X w=>AF 1 G<|Ae<|An G G<|PI G Tryz.underlying9 G<|U 2 G ?_
 refine D4 8 4 [0,1] G G (fun D2 vM=>by
  have kL:=of_decide_eq_true D2
  exact U 1 G<|Bl G G G<|PI G Tryz.underlying9 G<|U 2 G<|vM G Br) ?_
 refine An G G ?_
 refine D4 13 8 [] G G (fun Dp SS=>by
  refine U 3 G ?_
  refine DE 16 4 [13] G G (fun CR SR=>by
   have Af2:=of_decide_eq_false CR
   exact U 2 G<|Bl G G G<|AaE G G G<|U 1 G<|SR G Br) ?_
  exact U 1 G<|SS G Br) ?_
 exact U 1 G<|Ac<|rt<|Bq () G G (by first|rfl|(simp only[PQ,bA,Bool.not_not];rfl)|(simp only[PQ,bA,Bool.not_not])) G Aa
theorem jd(s:GC)(v:Int)(_:s.wf)(ja:A' v):Cv AG 255 [.agg (Od s).toArray,.int .i64 v] [] (.bool (Rb s v)):=by
 refine Aw.proof Tryz.func255 G 15 G G fun X w=>?_
 obtain⟨Abf,Abg⟩:=id ja
 exact Ae<|CV G G G fun Dh=>U 1 G<|Ac<|Ae<|AX 5 [0] G G<|Fu 9 5 [0] [] G G G<|U 1 G<|Ac<|rt<|AQ<|Bq () G G (by rfl) G Aa
theorem kJ(s:Bv)(El EV D_ EA Em Eh:Value)(key:ByteArray)(_:s.wf):Cv AG 70 [.agg (BY s El EV D_ EA Em Eh).toArray,.string key] [⟨El,s.Aj⟩,⟨EV,s.Bz⟩,⟨D_,s.AA⟩,⟨EA,s.Bj⟩,⟨Em,s.CX⟩,⟨Eh,s.Cf⟩] (.bool (F' s key)):=by
 exact Aw.proof Tryz.func70 G 15 G G fun X w=>Ae<|CV G G G fun Dh=>U 1 G<|Ac<|Ae<|AX 3 [0] G G<|D4 7 7 [] G G (fun GY VC=>AX 5 [0,0] G G<|Bl G G G<|B0 (Xx _ _ _) (Ar G) G Aa G<|U 1 G<|VC G Br)<|U 1 G<|Ac<|rt<|AQ<|Bq () G G (by rfl) G Aa
theorem Ajn(s:Bv)(El EV D_ EA Em Eh:Value)(key:ByteArray)(_:s.wf):Cv AG 96 [.agg (BY s El EV D_ EA Em Eh).toArray,.string key] [⟨El,s.Aj⟩,⟨EV,s.Bz⟩,⟨D_,s.AA⟩,⟨EA,s.Bj⟩,⟨Em,s.CX⟩,⟨Eh,s.Cf⟩] (.bool (Ef s key)):=by
 refine Aw.proof Tryz.func96 G 19 G G fun X w=>Ae<|CV G G G fun Dh=>U 1 G<|Ac<|Ae<|AX 5 [0] G G ?_
 refine D4 9 9 [] G G (fun EO N'=>by
  have Y0:=EO
  simp only[Bool.not_eq_true',decide_eq_false_iff_not]at Y0
  exact AX 7 [0,0] G G<|Bl G G G<|B0 (Xx _ _ _) (Ar G) G Aa G<|U 1 G<|N' G Br) ?_
 exact U 1 G<|Ac<|rt<|AQ<|Bq () G G (by rfl) G Aa
theorem fC(p:Fs)(Tm:p.wf):Cv AG 69 [.agg (ED p).toArray] [] (.bool (LK p)):=by
 exact Aw.proof Tryz.func69 G 35 G G fun X w=>Ae<|CV G G G fun CY=>U 1 G<|Ac<|Ae<|AX 4 [0] G G<|Fu 6 4 [0] [1] G G G<|An G G<|D4 11 4 [1] G G (fun Ct ZF=>AX 2 [0] G G<|Bl G G G<|B0 (Zh _ Tm.2.1) (Ar G) G Aa G<|U 1 G<|ZF G Br)<|An G G<|D4 16 4 [1] G G (fun CR SR=>AX 2 [0] G G<|Bl G G G<|B0 (Zh _ Tm.2.2.1) (Ar G) G Aa G<|U 1 G<|SR G Br)<|An G G<|Fu 21 6 [0,0] [1] G G G<|An G G<|D4 28 6 [] G G (fun R2 ZJ=>AX 4 [0,0] G G<|Bl G G G<|B0 (tu _ _) (Ar G) G Aa G<|U 1 G<|ZJ G Br)<|U 1 G<|Ac<|rt<|AQ<|Bq () G G (by rfl) G Aa
theorem qO(l:F_)(_:l.wf):Cv AG 256 [.agg (Lx l).toArray] [] (.bool (Sk l)):=by
 exact Aw.proof Tryz.func256 G 21 G G fun X w=>Ae<|CV G G G fun CY=>U 1 G<|Ac<|Ae<|AX 4 [0] G G<|Fu 6 4 [0] [1] G G G<|An G G<|Fu 11 4 [0] [1] G G G<|An G G<|Fu 16 4 [0] [] G G G<|U 1 G<|Ac<|rt<|AQ<|Bq () G G (by rfl) G Aa
theorem YP(a:AD)(Cw:Value)(_:a.wf):Cv AG 188 [.agg (A3 a Cw).toArray] [⟨Cw,a.A0⟩] (.bool (G_ a)):=by
 exact Aw.proof Tryz.func188 G 7 G G fun X w=>Ae<|CV G G G fun CY=>U 1 G<|Ac<|I5 5 [0] G G<|rt<|AQ<|Bq () G G (by rfl) G Aa
theorem h'(m:Int)(t:Int)(UX:A' m)(Abe:A' t):Cv AG 218 [.int .i64 m,.int .i64 t] [] (.int .i64 (JN m t)):=by
 refine Aw.proof Tryz.func218 G 19 G G fun X w=>?_
 obtain⟨Am7,Am8⟩:=id UX
 obtain⟨Anb,Anc⟩:=id Abe
 refine AF 1 G<|Am<|B5<|Ae<|U 3 G<|ET 8 3 [] [0,1] G G G<|U 1 G<|Ac<|BN G (fun C'=>?_) (fun C'=>?_)
 · exact AF 1 G<|rt<|C9<|Cd<|Bq () G G (by simp_all [JN]) G Aa
 ·
  refine Ae<|U 3 G<|Fu 15 3 [] [] G G G<|U 1 G<|Ac<|BN G (fun EM=>?_) (fun EM=>?_)
  · exact AF 1 G<|rt<|C9<|Cd<|Bq () G G (by simp_all [JN]) G Aa
  · exact EG<|CU<|A5<|AF 1 G<|rt<|Bq () G G (by simp_all [JN]) G Aa
end Go.Proofs.YtalfaopffbkdnaaGreat
namespace Go.Proofs.YtalfaopffbkdnaaGreat.Uo
open Go.A_ Go.Apw
end Go.Proofs.YtalfaopffbkdnaaGreat.Uo
namespace Go.Proofs.YtalfaopffbkdnaaGreat.Uo
open Go.A_ Go.Apw Go.RowKit
def item(l:List ZR)(j:Nat):ByteArray×ZR:=(yY l j,l.getD j default)
def upto(l:List ZR)(k:Nat):List (ByteArray×ZR):=(List.range k).map (item l)
end Go.Proofs.YtalfaopffbkdnaaGreat.Uo
