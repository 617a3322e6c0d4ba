/- Part 6 of shardWhole_holds. -/
import Derived.Test.YtklmcfecakaanaaGreatSq5

set_option maxRecDepth 20000
set_option maxHeartbeats 1000000
namespace Go
theorem ABp:∀(b:Bool),(b&&true)=b:=@Bool.and_true
theorem AB_:∀(b:Bool),(¬b=false)=(b=true):=@Bool.not_eq_false
theorem ABI:∀(b:Bool),((!b)=false)=(b=true):=@Bool.not_eq_false'
theorem ACD:∀{a:Prop},¬¬a↔a:=@Classical.not_not
theorem ADn:∀(a:Int),a≤a:=@Int.le_refl
theorem AD1:∀{α:Type _} (l:List α) (k:Nat),List.Sublist (List.eraseIdx l k) l:=@List.eraseIdx_sublist
theorem ADe:∀{α:Type _} {a b:α},a∈[b]↔a=b:=@List.mem_singleton
theorem ABM:∀{p:Prop} [Decidable p],¬p→decide p=false:=@decide_eq_false
theorem ABG:∀{p:Prop} [Decidable p],p→decide p=true:=@decide_eq_true
end Go
open Int renaming le_of_eq→ASb,le_trans→ASc
open List renaming foldl_cons→ACO,getElem_of_mem→AC8,getElem_set→ADQ,length_set→ABj,mem_filter→ABZ,pairwise_iff_getElem→ACW,sum_cons→ADr
open Option.some renaming injEq→ABX
open Go.A_
namespace Go.Apw
structure Cc where
 out:List UInt8
 E6:Bool
 deriving DecidableEq,Inhabited
def H4(b:List UInt8)(w:Cc):Cc:=if(w.E6||decide (b.length>65536-w.out.length))=true then{w with E6:=true}else{w with out:=w.out++b}
def E2(v:Int)(w:Cc):Cc:=if w.E6=true then w else H4 (QZ v) w
def KU(l:List Int)(w:Cc):Cc:=l.foldl (fun w v=>E2 v w) w
def Gy(b:Bool)(w:Cc):Cc:=if w.E6=true then w else H4 [if b=true then 1 else 0] w
def KT(b:List UInt8)(w:Cc):Cc:=if w.E6=true then w else if b.length>65535 then{w with E6:=true}else H4 (RS b) w
def KD:List ByteArray->Cc->Cc
 |[],w=>w
 |s::r,w=>if s.size>65535 then{w with E6:=true}else KD r (KT s.data.toList w)
def MS{α:Type}(one:α->Cc->Cc):List α->Cc->Cc
 |[],w=>w
 |x::r,w=>if w.E6=true then w else MS one r (one x w)
def CH{α:Type}(one:α->Cc->Cc)(l:List α)(w:Cc):Cc:=if w.E6=true then w else if l.length>1024 then{w with E6:=true}else MS one l (H4 (GN l.length) w)
def Zv(o:FL)(w:Cc):Cc:=KU [o.B2,o.A6,o.Bc] (KD [o.Al,o.EL] (KU [o.Ca] w))
def Lq(p:Fs)(w:Cc):Cc:=KU [p.Ap,p.As] (KD [p.A6,p.Bc] (KU [p.Ev,p.Hi,p.IX] w))
def PY(h:BD)(w:Cc):Cc:=KU [h.Bn,h.G0,h.DV,h.Fc] w
def I_(a:AD)(w:Cc):Cc:=KU [a.BG.Ap,a.BG.As,a.BG.DH,a.BG.B2] (CH PY a.A0 (KU [a.Cs.A6,a.Cs.Bc,a.BT,a.Cn] (KD [a.Al] w)))
def Kc(m:BL)(w:Cc):Cc:=KU [m.Cm.JM,m.Cm.JJ,m.Cm.JK] (KU [m.Cm.Jd] (Gy m.HV (KU [m.Ap,m.As] w)))
def KV(x:BX)(w:Cc):Cc:=Zv x.AM (KU [x.Ca,x.Ap,x.As,x.Bn,x.DH] w)
def LO(d:Bx)(w:Cc):Cc:=KU [d.B2,d.DN,d.DO,d.C3] (KD [d.Al,d.EL] (KU [d.Ap,d.As] w))
def Mq(e:Df)(w:Cc):Cc:=KU [e.Ap,e.As] w
def N7(s:Bv)(w:Cc):Cc:=
 KU [s.Jc,s.JL,s.GW] (KT s.Cf (Lq s.CW (Lq s.Bt (CH Mq s.CX (CH LO s.Bj (CH KV s.AA (CH Kc s.Bz (CH I_ s.Aj
  (KU [s.Dn] (KD [s.A6,s.Bc] (Gy s.Du (KU [s.CZ,s.DX] w))))))))))))
def IW(s:Bv):List UInt8×Int:=if(N7 s ⟨[],false⟩).E6=true then([],22)else((N7 s ⟨[],false⟩).out,0)
structure FE where
 Ca:Int
 Ap:Int
 As:Int
 Cm:De
 deriving DecidableEq,Inhabited
structure JE where
 Bn:Int
 Al:ByteArray
 deriving DecidableEq,Inhabited
structure Ah where
 S:Bv
 ix:Int
 AGm:Int
 EF:List FE
 BQ:List JE
 deriving DecidableEq,Inhabited
def GS:De:=⟨0,0,0,0⟩
def HN(e:Int):De:=⟨e,0,0,0⟩
def FP:Fs:=⟨0,0,0,ByteArray.empty,ByteArray.empty,0,0⟩
def BF(l:List AD)(k:ByteArray):AD×Bool:=match Gd l.length (fun j=>decide ((l.getD j default).Al=k))with
 |some j=>(l.getD j default,true)
 |none=>((O9 k).1,false)
def Ah.put(w:Ah)(a:AD):Ah:={w with S:={w.S with Aj:=FQ (·.Al) Ds a w.S.Aj}}
def Ah.tell(w:Ah)(kind c q:Int)(a:De):Ah:={w with EF:=w.EF++[⟨kind,c,q,a⟩]}
def Ah.done(w:Ah)(c q:Int)(a:De):Ah:=
 let v:=w.tell 1 c q a
 if(Oe v.S.Bz c q a).2=0 then{v with S:={v.S with Bz:=(Oe v.S.Bz c q a).1}}else v
def Ah.served(w:Ah)(c q n:Int)(k:ByteArray)(a:De):Ah:=
 let v:=w.done c q a
 if a.Jd=0 then{v with BQ:=v.BQ++[⟨n,k⟩]}else v
def Hn(a:AD)(c q:Int):Bool:= !decide (a.BG.Ap=0)&&decide (a.BG.Ap=c)&&decide (a.BG.As=q)
def Ah.raise(w:Ah)(c q:Int):Ah:=if(Kv w.S.CX c q).2=0 then{w with S:={w.S with CX:=(Kv w.S.CX c q).1}}else w
def Ah.drop(w:Ah)(gone:BX->Bool):Ah:={w with S:={w.S with AA:=w.S.AA.filter (fun x=> !gone x)}}
def Ah.ends(w:Ah)(c q e:Int):Ah:=
 let d:=(findD w.S.Bj c q)
 let v:=w.done c q (HN e)
 let v:Ah:={v with S:={v.S with Aj:=v.S.Aj.map fun a=>if Hn a c q=true then(D1 a (decide (d.C3=1))).1 else a}}
 (v.drop fun x=>decide (x.Ca=2)&&decide (x.Ap=c)&&decide (x.As=q)&&decide (x.DH=v.S.CZ)).raise c q
def Ah.RR(w:Ah)(c q:Int):Ah:=w.ends c q (if(findD w.S.Bj c q).C3=1 then 0 else 150)
def SG(l:List BX)(k:ByteArray):Bool:=l.any fun x=>decide (x.AM.Al=k)
-- commands
def NA(c:Dg)(nodes:Int):Bool:=
 if(!Jj c.Ap c.As||decide (c.Bn<1)||decide (c.Bn>nodes)||decide (c.AM.Ca<1)||decide (c.AM.Ca>6)|| !Ix c.AM.Al)=true then false
 else if(decide (c.AM.Ca=1)||decide (c.AM.Ca=2))=true then decide (c.AM.B2>=1)
 else if c.AM.Ca=6 then decide (c.AM.B2>=1)&&Ix c.AM.EL&& !decide (c.AM.EL=c.AM.Al)
 else true
def signed(o:FL):Int:=if o.Ca=2 then-o.B2 else o.B2
def Mu(w:Ah)(c:Dg):Bool:= !(decide (c.AM.Ca>2)||SG w.S.AA c.AM.Al)&&(BF w.S.Aj c.AM.Al).2&&decide ((JF (BF w.S.Aj c.AM.Al).1 (signed c.AM)).2=0)
def Ah.VR(w:Ah)(c:Dg):Ah:=(w.put (JF (BF w.S.Aj c.AM.Al).1 (signed c.AM)).1).served c.Ap c.As c.Bn c.AM.Al GS
def Ah.wait(w:Ah)(x:BX):Ah:={w with S:={w.S with AA:=w.S.AA++[x]}}
def QW(c:Dg):Bx:={Ap:=c.Ap,As:=c.As,Al:=c.AM.Al,EL:=c.AM.EL,B2:=c.AM.B2,DN:=0,DO:=0,C3:=0}
def Li(c q home:Int)(k:ByteArray)(n:Int):BX:={Ca:=2,Ap:=c,As:=q,Bn:=0,DH:=home,AM:={mV with Al:=k,B2:=n}}
def Ah.T5(w:Ah)(c:Dg):Ah:=
 if(!decide ((Mf w.S.Bj (QW c)).2=0)||decide ((w.S.AA.length:Int)>6))=true then w.served c.Ap c.As c.Bn c.AM.Al (HN 3)
 else
  let v:Ah:={w with S:={w.S with Bj:=(Mf w.S.Bj (QW c)).1}}
  let v:=v.wait (Li c.Ap c.As v.S.CZ c.AM.Al (-c.AM.B2))
  if(F' v.S c.AM.EL&& !Ef v.S c.AM.EL)=true then v.wait (Li c.Ap c.As v.S.CZ c.AM.EL c.AM.B2)else v
def Ah.op(w:Ah)(c:Dg):Ah:=
 if NA c w.AGm=false then w
 else
  let b:=IS w.S.Bz c.Ap c.As
  if ¬b.2.2=0 then w
  else if b.2.1=false then(if(!(FU b.1 c.Ap).1.HV&& !decide ((FU b.1 c.Ap).1.Cm.Jd=80))=true then w.tell 1 c.Ap c.As (FU b.1 c.Ap).1.Cm else w)
  else if(!F' w.S c.AM.Al||Ef w.S c.AM.Al|| !decide (c.Dn=w.S.Dn))=true then w.tell 2 c.Ap c.As GS
  else
   let v:Ah:={w with S:={w.S with Bz:=b.1}}
   if c.AM.Ca=6 then v.T5 c
   else if Mu v c=true then v.VR c
   else if(v.S.AA.length:Int)>=8 then v.served c.Ap c.As c.Bn c.AM.Al (HN 3)
   else v.wait {Ca:=1,Ap:=c.Ap,As:=c.As,Bn:=c.Bn,DH:=0,AM:=c.AM}
def Ah.report(w:Ah)(c:Dg):Ah:=
 if(BF w.S.Aj c.Al).2=false then w
 else if(Mk (BF w.S.Aj c.Al).1 c.Bn c.G0 c.Cn c.It).2=0 then w.put (Mk (BF w.S.Aj c.Al).1 c.Bn c.G0 c.Cn c.It).1 else w
def Ah.OR(w:Ah)(c q:Int):Ah:=
 let g:=NJ w.S.Bj c q
 if(decide (g.2.2=0)&&g.2.1)=true then({w with S:={w.S with Bj:=g.1}}:Ah).ends c q 190 else w
def Ah.UQ(w:Ah)(c:Dg):Ah:=
 let v:=match Gd w.S.AA.length (fun j=>decide ((w.S.AA.getD j default).Ca=1)&&decide ((w.S.AA.getD j default).Ap=c.Ap)&&decide ((w.S.AA.getD j default).As=c.As))with
  |some i=>({w with S:={w.S with AA:=w.S.AA.eraseIdx i}}:Ah).done c.Ap c.As (HN 190)
  |none=>w
 v.OR c.Ap c.As
def Ah.Vc(w:Ah)(c:Dg):Ah:=
 if(!Jj c.Ap c.As|| !Ih c.DH|| !Ix c.Al||decide (c.It=0)|| !F' w.S c.Al||Ef w.S c.Al|| !decide (c.Dn=w.S.Dn)||fx w.S.CX c.Ap c.As)=true then w
 else if(Hn (BF w.S.Aj c.Al).1 c.Ap c.As||w.S.AA.any (fun x=>decide (x.Ap=c.Ap)&&decide (x.As=c.As)&&decide (x.AM.Al=c.Al))||decide ((w.S.AA.length:Int)>=8))=true then w
 else w.wait (Li c.Ap c.As c.DH c.Al c.It)
def Ah.T'(w:Ah)(c:Dg):Ah:=
 let g:=Jk w.S.Bj c.Ap c.As false c.Jr
 if ¬g.2.2=0 then w
 else
  let v:Ah:={w with S:={w.S with Bj:=g.1}}
  if g.2.1=true then v.RR c.Ap c.As else v
def Ah.S5(w:Ah)(c:Dg):Ah:=
 if(!F' w.S c.Al|| !Jj c.Ap c.As)=true then w
 else
  let v:=if((BF w.S.Aj c.Al).2&&Hn (BF w.S.Aj c.Al).1 c.Ap c.As)=true then w.put (D1 (BF w.S.Aj c.Al).1 c.Jr).1 else w
  (v.drop fun x=>decide (x.Ca=2)&&decide (x.Ap=c.Ap)&&decide (x.As=c.As)&&decide (x.AM.Al=c.Al)).raise c.Ap c.As
def Ah.forget(w:Ah)(c:Dg):Ah:=if(OP w.S.Bj c.Ap c.As).2=0 then{w with S:={w.S with Bj:=(OP w.S.Bj c.Ap c.As).1}}else w
def Ah.Ic(w:Ah)(x:BX):Ah:=
 if(!decide (x.Ca=1)|| !Ef w.S x.AM.Al)=true then w
 else
  let v:=w.tell 2 x.Ap x.As GS
  if(G' v.S.Bz x.Ap x.As).2=0 then{v with S:={v.S with Bz:=(G' v.S.Bz x.Ap x.As).1}}else v
def Ah.seal(w:Ah)(c:Dg):Ah:=
 let p:=c.Dj
 if(!LK p|| !decide (p.Hi=w.S.CZ)|| !decide (w.S.Bt=FP)|| !decide (w.S.CW=FP)|| !w.S.Du|| !decide (c.Dn=w.S.Dn))=true then w
 else if(decide (p.Ev<=w.S.GW)|| !decide (p.Bc=w.S.Bc)|| !within w.S.A6 w.S.Bc p.A6)=true then w
 else
  let v:Ah:={w with S:={w.S with Bt:=p}}
  let v:=v.S.AA.foldl Ah.Ic v
  let v:=v.drop fun x=>Ef v.S x.AM.Al
  v.S.Bj.foldl (fun u d=>if Ef u.S d.Al=true then u.OR d.Ap d.As else u) v
def Ty(l:List AD)(p:Fs)(j:Nat):Bool:=
 (!decide (IA (E4 (l.getD j default))=0)||FT (l.getD j default)|| !decide ((l.getD j default).BG.Ap=0)||decide (((l.getD j default).A0.length:Int)>0)|| !decide ((l.getD j default).Cn=0))
 ||(!within p.A6 p.Bc (l.getD j default).Al||(decide ((j:Int)>0)&&fc (l.getD j default).Al (l.getD ((j:Int)-1).toNat default).Al))
def FD(b:List UInt8)(p:Fs):Bv×Bool:=
 if(!decide ((Er b).2=0)||decide (((Er b).1.Aj.length:Int)>12))=true then(IP,false)
 else if allI (Er b).1.Aj.length (fun j=> !Ty (Er b).1.Aj p j)=true then((Er b).1,true)else(IP,false)
def Ah.Ry(w:Ah)(l:List AD)(p:Fs):Ah:=
 let v:=l.foldl Ah.put w
 let v:Ah:=if v.S.Du=false then{v with S:={v.S with Du:=true,A6:=p.A6}}else v
 {v with S:={v.S with Bc:=p.Bc}}
def Ah.unseal(w:Ah)(c:Dg):Ah:=
 let n:=c.Dj.Ev
 if n=0 then w
 else if c.Jr=false then(if n=w.S.Bt.Ev then{w with S:={w.S with Bt:=FP,GW:=n}}else w)
 else
  let out:=w.S.CW
  if(!decide (n=out.Ev)|| !decide (w.S.Bt=FP)||(w.S.Du&&(isNil w.S.Bc|| !decide (w.S.Bc=out.A6))))=true then w
  else
   let i:=FD w.S.Cf out
   if(!i.2||decide ((i.1.Aj.length:Int)+w.S.Aj.length>12))=true then w
   else
    let v:Ah:={w with S:={w.S with CW:=FP,Cf:=[],GW:=n}}
    let v:=v.Ry i.1.Aj out
    if v.S.Dn=0 then{v with S:={v.S with Dn:=1}}else v
def Ah.RI(w:Ah)(c:Dg):Ah:=
 let p:=c.Dj
 if(!LK p|| !decide (p.IX=w.S.CZ)||decide (p.Ev<=w.S.Jc)||decide (c.Dn<1)||decide (c.Dn>EW))=true then w
 else
  let i:=FD c.Cf p
  if(!i.2|| !Fg i.1.Bz|| !HE i.1.CX)=true then w
  else
   let v:Ah:={w with S:={w.S with Jc:=p.Ev}}
   if((v.S.Du&&(isNil v.S.Bc|| !decide (v.S.Bc=p.A6)))|| !decide (v.S.Bt=FP)||decide ((i.1.Aj.length:Int)+v.S.Aj.length>12))=true then{v with S:={v.S with JL:=p.Ev}}
   else
    let v:=v.Ry i.1.Aj p
    {v with S:={v.S with Bz:=(M_ v.S.Bz i.1.Bz).1,CX:=(Ok v.S.CX i.1.CX).1,Dn:=c.Dn}}
def Ah.WS(w:Ah)(c:Dg):Ah:=
 if(decide (c.Dj.Ev=0)|| !decide (c.Dj.Ev=w.S.CW.Ev)||decide (c.Dn<1)||decide (c.Dn>EW))=true then w
 else{w with S:={w.S with CW:=FP,Cf:=[],GW:=c.Dj.Ev,Dn:=max w.S.Dn c.Dn}}
def Ah.cmd(w:Ah)(c:Dg):Ah:=
 if c.Ca=1 then w.op c else if c.Ca=2 then w.report c else if c.Ca=3 then w.UQ c else if c.Ca=4 then w.Vc c else if c.Ca=5 then w.T' c else if c.Ca=6 then w.S5 c
 else if c.Ca=7 then w.forget c else if c.Ca=8 then w.seal c else if c.Ca=9 then w.unseal c else if c.Ca=10 then w.RI c else if c.Ca=11 then w.WS c else w
-- what waits
def KS(S:Bv):Option Nat:=Gd S.AA.length fun i=>allI i (fun j=> !decide ((S.AA.getD j default).AM.Al=(S.AA.getD i default).AM.Al))&&(Io (BF S.Aj (S.AA.getD i default).AM.Al).1).2
def S2(S:Bv):Int:=if S.CW.Ev=0 then 0 else((Er S.Cf).1.Aj.length:Int)
def H3(w:Ah)(o:FL):Ah×De:=
 let f:=BF w.S.Aj o.Al
 let t:=(Io f.1).1
 if o.Ca=4 then(w,⟨0,t,0,0⟩)
 else if o.Ca=3 then(w,⟨0,0,t,t⟩)
 else if o.Ca=5 then
  if(!f.2&&decide ((w.S.Aj.length:Int)+S2 w.S>=12))=true then(w,HN 3)
  else
   let r:=Pu f.1 ⟨o.A6,o.Bc⟩
   (if r.2=0 then w.put r.1 else w,HN r.2)
 else
  let r:=JF f.1 (signed o)
  (if r.2=0 then w.put r.1 else w,HN r.2)
def Ah.Lf(w:Ah)(x:BX):Ah:=
 if fx w.S.CX x.Ap x.As=true then w
 else
  let r:=KA (BF w.S.Aj x.AM.Al).1 ⟨x.Ap,x.As,x.DH,x.AM.B2⟩
  let v:=if r.2=0 then w.put r.1 else w.tell 3 x.Ap x.As GS
  if ¬x.DH=v.S.CZ then(if ¬r.2=0 then v.raise x.Ap x.As else v)
  else if(!Tz v.S.Bj x.Ap x.As|| !decide ((findD v.S.Bj x.Ap x.As).C3=0))=true then(if(D1 r.1 false).2=0 then v.put (D1 r.1 false).1 else v)
  else
   let g:=Jk v.S.Bj x.Ap x.As (decide (x.AM.Al=(findD v.S.Bj x.Ap x.As).Al)) (decide (r.2=0))
   let u:Ah:={v with S:={v.S with Bj:=g.1}}
   if g.2.1=true then u.RR x.Ap x.As else u
def Ah.L6(w:Ah)(i:Nat):Ah:=
 let x:=w.S.AA.getD i default
 let v:Ah:={w with S:={w.S with AA:=w.S.AA.eraseIdx i}}
 if x.Ca=1 then(H3 v x.AM).1.served x.Ap x.As x.Bn x.AM.Al (H3 v x.AM).2 else v.Lf x
def Ah.waits:Nat->Ah->Ah
 |0,w=>w
 |n+1,w=>match KS w.S with
  |some i=>Ah.waits n (w.L6 i)
  |none=>w
-- what comes at the end
def Gl(S:Bv)(BQ Ag:ByteArray):Bv:=
 {IP with Aj:=(S.Aj.map fun a=>{a with Cn:=0}).filter (fun a=>within BQ Ag a.Al&& !FT a),CX:=S.CX,Bz:=S.Bz.foldl (fun l m=>if(G' l m.Ap m.As).2=0 then(G' l m.Ap m.As).1 else l) S.Bz}
def Py(S:Bv):Bool:= !(decide (S.Bt=FP)||S.Aj.any fun a=>Ef S a.Al&&(decide ((a.A0.length:Int)>0)|| !decide (a.BG.Ap=0)))
def LG(S:Bv):Bv:=
 if Py S=false then S
 else if ¬(IW (Gl S S.Bt.A6 S.Bt.Bc)).2=0 then S
 else
  let T:Bv:={S with CW:=S.Bt,Cf:=(IW (Gl S S.Bt.A6 S.Bt.Bc)).1,Aj:=S.Aj.filter (fun a=> !Ef S a.Al),Bc:=S.Bt.A6,Bt:=FP}
  if S.Bt.A6=S.A6 then{T with Du:=false,A6:=ByteArray.empty,Bc:=ByteArray.empty}else T
def Jv(S:Bv)(ix:Int)(a:AD):AD:=if(SG S.AA a.Al||Ef S a.Al)=true then(Mx a ix).1 else(OA a).1
def Ah.Iv(w:Ah)(x:JE):Ah:=
 if(BF w.S.Aj x.Al).2=false then w
 else if(Kl (BF w.S.Aj x.Al).1 x.Bn w.ix w.AGm).2=0 then w.put (Kl (BF w.S.Aj x.Al).1 x.Bn w.ix w.AGm).1 else w
def Ah.rest(w:Ah):Ah:=
 let v:Ah:={w with S:=LG w.S}
 let v:Ah:={v with S:={v.S with Aj:=v.S.Aj.map (Jv v.S v.ix)}}
 let v:=v.BQ.foldl Ah.Iv v
 {v with S:={v.S with Aj:=v.S.Aj.filter (fun a=> !FT a)}}
def Gc(S:Bv)(c:Dg)(ix AGm:Int):Bv×List FE×Int:=
 if LN S=false then(IP,[],21)
 else if(decide (AGm<1)||decide (AGm>5))=true then(IP,[],1)
 else if(decide (ix<=S.DX)||decide (ix>EW))=true then(IP,[],80)
 else
  let w:=(({S:={S with DX:=ix},ix:=ix,AGm:=AGm,EF:=[],BQ:=[]}:Ah).cmd c)
  let w:=(Ah.waits w.S.AA.length w).rest
  (w.S,w.EF,0)
theorem Ax2{n:Nat}{p q:Nat->Bool}(h:∀j,j<n->(∀k,k<j->q k=true)->p j=q j):allI n p=allI n q:=by
 rw[ACy,Nz,Nz];constructor
 · intro AH j;induction j using Nat.strongRecOn with
   |_ j Cg=>
    intro Ay;rw[<-h j Ay fun k AE=>Cg k AE AMT];exact AH j Ay
 intro B' j Ay;rw[h j Ay fun k AE=>B' k AMT];exact B' j Ay
theorem Axg{f:Nat->Int}:∀{j:Nat},(∀k,k<j->Nh f k<f k)->0<=Nh f j
 |0,_=>by simp[Nh]
 |j+1,h=>by
  have Cg:=Axg (f:=f) (j:=j) fun k AE=>h k AMT;have:=h j AMT;simp only[Nh];omega
theorem Ayo(l:List Df):HE l=Avx l:=Ax2 fun j Ay AE=>by
 have AH:0<=Nh (fun k=>(l.getD k default).Ap) j:=Axg fun k Anq=>by
  have:=AE k Anq;simp only[ABe,ABD,ABl]at this;omega
 rw[ACy];simp only[Jj,Au5,ABe,ABD,ABl,ABI,ABb,ABa];omega
theorem Ays(m t:Int):JN m t=Au' m t:=by
 unfold JN Au';by_cases Af:m=1<;>by_cases h2:t=1<;>by_cases Bo:m=2<;>by_cases BB:t=2<;>simp_all
theorem Ayf(d:Bx):M1 d=Ave d:=by
 unfold M1 Ave;rw[Ays];have key:(V2 d||ae d)=Avm d:=by
  rw[ACy];by_cases AE:d.Al=d.EL
  · simp[V2,Avm,AE]
  simp only[V2,ae,Avm,Ix,Jj,Avp,Au5,AE,decide_false,Bool.or_false,ABk,ABe,ACu,ABa,ABl];omega
 rw[<-key];cases V2 d<;>cases ae d<;>rfl
theorem Aye(l:List Bx):Is l=Avi l:=by
 unfold Is Avi AvL;by_cases h:(l.length:Int)>4
 · rw[AA_ (ABG h),ABM (show ¬(l.length:Int)<=4 by omega),Bool.and_false]
 rw[AA9 (by simpa using h),ABG (show(l.length:Int)<=4 by omega),ABp];exact AvK fun j _=>by unfold ab;rw[Ayf]
theorem jS(k:ByteArray):isNil k=decide ((k.size:Int)<1):=by
 unfold isNil;refine decide_eq_decide.2 ⟨fun h=>by rw[h];decide,fun h=>?_⟩;have Bw:k.size=0:=AMT;rcases k with⟨a⟩;have:a.size=0:=Bw;rw[Array.size_eq_zero_iff]at this;rw[this];rfl
end Go.Apw
namespace Go.A_
open Go.RowKit
end Go.A_
namespace Go.Apw
theorem DW:A' 0:=⟨ARp,ARp⟩
theorem ee{b:Bool}:IA b=0↔b=true:=by cases b<;>simp[IA]
theorem rising{n B:Nat}{f:Nat->Int}(h:∀j,j<n->f j>Nh f j/\f j<=(B:Int)):n<=B:=by
 have key:∀j,j<n->f j>=(j:Int)+1:=by
  intro j;induction j with
  |zero=>
   intro Ay;have:=(h 0 Ay).1;simp only[Nh]at this;omega
  |succ j Cg=>
   intro Ay;have Af:=(h (j+1) Ay).1;simp only[Nh]at Af;have:=Cg AMT;omega
 cases n with
 |zero=>omega
 |succ n=>
  have Af:=key n AMT;have h2:=(h n AMT).2;omega
theorem TE{l:List BL}(h:Fg l=true):l.length<=8:=by
 refine rising (f:=fun k=>(l.getD k default).Ap) fun j Ay=>?_;have:=(Nz.1 h) j Ay;simp only[fk,ABe,ABD,ABl]at this;omega
theorem ed{l:List Df}(h:HE l=true):l.length<=8:=by
 refine rising (f:=fun k=>(l.getD k default).Ap) fun j Ay=>?_;have:=(Nz.1 h) j Ay;simp only[Jj,ABe,ABD,ABI,ABb,ABl,ABa]at this;omega
theorem V0{l:List Bx}(h:Is l=true):l.length<=4:=by
 unfold Is at h;split at h
 · cases h
 rename_i Ao;simp only[ABa]at Ao;omega
theorem S0{a:AD}(h:E4 a=true):a.A0.length<=5:=by
 unfold E4 at h;split at h
 · cases h
 rename_i Ao;simp only[VO,ABk,ABN,ABe,AB_]at Ao;exact PC Ao.2
theorem Aii{b:List UInt8}(h:(Er b).2=0):b.length<=65536:=by
 by_cases he:65536<b.length
 · exfalso;unfold Er NF at h;rw[AA_ he]at h;simp at h
 omega
theorem UP{α:Type}[Inhabited α]{l:List α}{x:α}(h:x∈l):∃j,j<l.length/\l.getD j default=x:=by
 obtain⟨j,Ay,rfl⟩:=AC8 h;exact⟨j,Ay,by simp[List.getD,ABs Ay]⟩
theorem N1:QL AGn:=⟨fun a=>by simp[AGn],fun a b c Af h2=>by simp only[AGn,ABa]at*;omega,fun a b Af h2=>by simp only[AGn,ABa,ABl]at*;omega⟩
theorem Pa:QL Ds:=⟨fun a=>by cases h:Ds a a with|false=>rfl|true=>exact absurd rfl (Ad9 h),fun a b c Af h2=>lt_trans Af h2,fun a b Af h2=>(Ad_ Af).resolve_right h2⟩
theorem lj{α:Type}[Inhabited α]{f:α->Int}{P:α->Prop}{l:List α}:
 (∀j,j<l.length->¬f (l.getD j default)<=Nh (fun k=>f (l.getD k default)) j/\P (l.getD j default))↔(∀x∈l,0<f x/\P x)/\H6 f AGn l:=by
 constructor
 · intro h;have step:∀j,j+1<l.length->f (l.getD j default)<f (l.getD (j+1) default):=fun j Ay=>by
    have:=(h (j+1) Ay).1;simp only[Nh]at this;omega
   have up:∀d i,i+d+1<l.length->f (l.getD i default)<f (l.getD (i+d+1) default):=by
    intro d;induction d with
    |zero=>exact fun i Ag=>step i Ag
    |succ d Cg=>
     intro i Ag;have Af:=Cg i AMT;have h2:=step (i+d+1) AMT;rw[show i+(d+1)+1=i+d+1+1 by omega];omega
   have pos:∀j,j<l.length->0<f (l.getD j default):=by
    intro j Ay;have Bw:=(h 0 AMT).1;have Bw:¬f (l.getD 0 default)<=0:=Bw;rcases Nat.eq_zero_or_pos j with e|e
    · subst e;omega
    have:=up (j-1) 0 AMT;rw[show 0+(j-1)+1=j by omega]at this;omega
   refine⟨fun x Ab=>?_,ACW.2 fun i j Ag Ay GQ=>?_⟩
   · obtain⟨j,Ay,rfl⟩:=UP Ab;exact⟨pos j Ay,(h j Ay).2⟩
   have:=up (j-i-1) i AMT;rw[show i+(j-i-1)+1=j by omega,G3 Ag,G3 Ay]at this;exact ABG this
 rintro⟨Af,h2⟩ j Ay;obtain⟨p,q⟩:=Af _ (Hl Ay);refine⟨?_,q⟩;cases j with
 |zero=>
  show ¬f (l.getD 0 default)<=0;omega
 |succ j=>
  have:=ABA (ACW.1 h2 j (j+1) AMT Ay AMT);rw[<-G3 AMT,<-G3 Ay]at this;show ¬f (l.getD (j+1) default)<=f (l.getD j default);omega
-- marks
structure dq (m:BL):Prop where
 hH:m.Ap<=8
 L3:0<=m.As
 q1:m.As<=EW
 op:m.HV=true->¬m.As=0/\m.Cm=GS
theorem Rl{l:List BL}:Fg l=true↔(∀m∈l,0<m.Ap/\dq m)/\H6 (·.Ap) AGn l:=by
 rw[<-lj (f:=fun m:BL=>m.Ap) (P:=dq),Fg,Nz];refine forall_congr' fun j=>imp_congr_right fun Ay=>?_;simp only[fk,ABe,ABD,ACu,ABI,ABl,ABa];constructor
 · rintro⟨⟨⟨⟨a,b⟩,c⟩,d⟩,e⟩;refine⟨a,AMT,AMT,AMT,fun A7=>?_⟩;rcases e with e|e
   · rw[A7]at e;cases e
   exact e
 rintro⟨a,b,c,d,e⟩;refine⟨⟨⟨⟨a,AMT⟩,AMT⟩,AMT⟩,?_⟩;cases A7:(l.getD j default).HV with
 |false=>exact .inl rfl
 |true=>exact .inr (e A7)
theorem bG{l:List BL}{m:BL}(h:Fg l=true)(Bw:0<m.Ap)(hm:dq m):Fg (LP l m)=true:=by
 obtain⟨Af,h2⟩:=Rl.1 h;refine Rl.2 ⟨fun x Ab=>?_,W4 N1 h2⟩;rcases(PJ N1 h2).1 Ab with rfl|Ab
 · exact⟨Bw,hm⟩
 exact Af x Ab.1
theorem zM{l:List BL}{c:Int}(h:(FU l c).2=true):Fg l=true/\(FU l c).1∈l/\(FU l c).1.Ap=c:=by
 unfold FU at h ⊢;split at h
 · cases h
 rename_i hm;have hm:Fg l=true:=by simpa using hm
 split at h
 · cases h
 rename_i Ag;have Ag:G9 (·.Ap) AGn c l=true:=by simpa using Ag
 rw[AA9 (by rw[hm];decide),AA9 (by rw[Ag];decide)];obtain⟨a,b⟩:=ZX N1 (Rl.1 hm).2 Ag;exact⟨hm,Hl a,b⟩
theorem nw{l:List BL}{c q:Int}(h:(IS l c q).2.2=0):Fg (IS l c q).1=true:=by
 unfold IS at h ⊢;split at h
 · cases h
 rename_i hm;have hm:Fg l=true:=by simpa using hm
 rw[AA9 (by rw[hm];decide)];split at h
 · cases h
 rename_i AK;rw[AA9 AK];simp only[ABk,ABa,ABN]at AK;split at h
 · cases h
 rename_i Af;rw[AA9 Af];split
 · exact hm
 exact bG hm (by show 0<c;omega) ⟨by show c<=8;omega,by show 0<=q;omega,by show q<=EW;omega,fun _=>⟨by show ¬q=0;omega,rfl⟩⟩
theorem fs{l:List BL}{c q:Int}(h:KQ l c q=0):Fg l=true/\(FU l c).1∈l/\(FU l c).1.Ap=c/\(FU l c).1.As=q/\(FU l c).1.HV=true:=by
 unfold KQ at h;split at h
 · cases h
 split at h
 · cases h
 rename_i h2;simp only[ABk,ABN,ABe,AB_,ABa]at h2;obtain⟨⟨a,b⟩,d⟩:=h2;obtain⟨x,y,z⟩:=zM a;exact⟨x,y,z,b,d⟩
theorem y1{l:List BL}{c q:Int}{a:De}(h:(Oe l c q a).2=0):Fg (Oe l c q a).1=true:=by
 unfold Oe at h ⊢;split at h
 · rename_i Ao;exact absurd h Ao
 rename_i Ao;have A7:KQ l c q=0:=ACD.1 Ao;rw[AA9 Ao];obtain⟨x,y,z,b,d⟩:=fs A7;obtain⟨Bw,hm⟩:=(Rl.1 x).1 _ y;exact bG x (by show 0<c;omega) ⟨by show c<=8;have:=hm.hH;omega,by show 0<=q;have:=hm.L3;omega,by show q<=EW;have:=hm.q1;omega,fun e=>by cases e⟩
theorem rj{l:List BL}{c q:Int}(h:(G' l c q).2=0):Fg (G' l c q).1=true:=by
 unfold G' at h ⊢;split at h
 · rename_i Ao;exact absurd h Ao
 rename_i Ao;have A7:KQ l c q=0:=ACD.1 Ao;rw[AA9 Ao];obtain⟨x,y,z,b,d⟩:=fs A7;obtain⟨Bw,hm⟩:=(Rl.1 x).1 _ y;have:=hm.L3;have:=hm.q1;have:=(hm.op d).1;exact bG x (by show 0<c;omega) ⟨by show c<=8;have:=hm.hH;omega,by show 0<=q-1;omega,by show q-1<=EW;omega,fun e=>by cases e⟩
theorem Ac5{a b:List BL}(h:(M_ a b).2=0):Fg (M_ a b).1=true:=by
 unfold M_ at h ⊢;split at h
 · cases h
 rename_i Ao;rw[AA9 Ao];have Ao:(Fg a&&Fg b)=true:=by simpa using Ao
 rw[ABb]at Ao;obtain⟨AK,Aq⟩:=Ao;have Bm:=(Rl.1 Aq).1;clear Aq;show Fg (b.foldl Ld a)=true;clear h;clear Ao;induction b generalizing a with
 |nil=>exact AK
 |cons m r Cg=>
  rw[ACO];refine Cg ?_ fun x Ab=>Bm x (ABR _ Ab);unfold Ld;split
  · exact bG AK (Bm m (ABx ..)).1 (Bm m (ABx ..)).2
  exact AK
-- ends
theorem au{l:List Df}:HE l=true↔(∀e∈l,0<e.Ap/\Jj e.Ap e.As=true)/\H6 (·.Ap) AGn l:=by
 rw[<-lj (f:=fun m:Df=>m.Ap) (P:=fun e=>Jj e.Ap e.As=true),HE,Nz];refine forall_congr' fun j=>imp_congr_right fun Ay=>?_;simp only[ABe,ABD,ABI,ABl]
theorem h5(l:List Df)(c:Int):H_ l c<=l.length:=by
 unfold H_;cases h:Gd l.length (fun j=>decide ((l.getD j default).Ap>=c))with
 |none=>exact ABW _
 |some j=>exact Nat.le_of_lt (Q4 h)
theorem yW{l:List Df}(c:Int):(∀j,j<l.length->j<H_ l c->(l.getD j default).Ap<c)/\(H_ l c<l.length->c<=(l.getD (H_ l c) default).Ap):=by
 unfold H_;cases h:Gd l.length (fun j=>decide ((l.getD j default).Ap>=c))with
 |none=>
  refine⟨fun j Ay _=>?_,fun AN=>absurd AN (Nat.lt_irrefl _)⟩;have:=List.find?_eq_none.1 h j (ABw.2 Ay);simp only[ABa]at this;omega
 |some k=>
  have AE:=ADz.1 h;refine⟨fun j Ay Tq=>?_,fun _=>?_⟩
  · have:=AE.2.2 j Tq;simp only[ABe,ABl]at this;omega
  have:=AE.1;simp only[ABa]at this;exact this
theorem oF{l:List Df}(h:H6 (·.Ap) AGn l)(c:Int):H_ l c=Cz (·.Ap) AGn c l:=by
 obtain⟨a,b⟩:=yW (l:=l) c;obtain⟨p,q⟩:=fD N1 h c;have Om:=h5 l c;have Sl:=St (key:=fun e:Df=>e.Ap) (lt:=AGn) c l;rcases Nat.lt_trichotomy (H_ l c) (Cz (·.Ap) AGn c l)with g|g|g
 · have Af:=b AMT;have h2:=ABA (p _ AMT g);rw[<-G3 AMT]at h2;omega
 · exact g
 have Af:=a _ AMT g;have h2:=ACe (q _ AMT (ABW _));rw[<-G3 AMT]at h2;omega
theorem AcQ{l:List Df}(h:H6 (·.Ap) AGn l)(c:Int):Sj l c=G9 (·.Ap) AGn c l:=by
 rw[Sj,G9,oF h]
theorem sF{l:List Df}{c q:Int}(h:(Kv l c q).2=0):HE (Kv l c q).1=true:=by
 unfold Kv at h ⊢;split at h
 · cases h
 rename_i he;have he:HE l=true:=by simpa using he
 rw[AA9 (by rw[he];decide)];split at h
 · cases h
 rename_i hw;rw[AA9 hw];have hw:Jj c q=true:=by simpa using hw
 obtain⟨Af,h2⟩:=au.1 he;have Bm:0<c:=by
  simp only[Jj,ABb,ABa]at hw;omega
 rw[AcQ h2,oF h2];cases Ag:G9 (·.Ap) AGn c l with
 |false=>
  rw[AA_ rfl];have e:FO (Cz (·.Ap) AGn c l) ⟨c,q⟩ l=FQ (·.Ap) AGn ⟨c,q⟩ l:=(by rw[FQ,AA9 (by rw[Ag];decide)]);show HE (FO (Cz (·.Ap) AGn c l) ⟨c,q⟩ l)=true;rw[e];refine au.2 ⟨fun x Ab=>?_,W4 N1 h2⟩;rcases(PJ N1 h2).1 Ab with rfl|Ab
  · exact⟨Bm,hw⟩
  exact Af x Ab.1
 |true=>
  rw[AA9 ARp];obtain⟨a,b⟩:=ZX N1 h2 Ag;obtain⟨RF,N8⟩:=Af _ (Hl a);generalize Ab:({l.getD (Cz (·.Ap) AGn c l) default with As:=max (l.getD (Cz (·.Ap) AGn c l) default).As q}:Df)=x;have AlA:x.Ap=c:=(by rw[<-Ab];exact b);have mF:Jj x.Ap x.As=true:=by
   rw[<-Ab];simp only[Jj,ABb,ABa]at hw N8 ⊢;omega
  have e:l.set (Cz (·.Ap) AGn c l) x=FQ (·.Ap) AGn x l:=(by rw[FQ,AlA,AA_ Ag]);show HE (l.set (Cz (·.Ap) AGn c l) x)=true;rw[e];refine au.2 ⟨fun y Bf=>?_,W4 N1 h2⟩;rcases(PJ N1 h2).1 Bf with rfl|Bf
  · exact⟨AMT,mF⟩
  exact Af y Bf.1
theorem Ac1{a b:List Df}(h:(Ok a b).2=0):HE (Ok a b).1=true:=by
 unfold Ok at h ⊢;split at h
 · cases h
 rename_i Ao;rw[AA9 Ao];have Ao:(HE a&&HE b)=true:=by simpa using Ao
 rw[ABb]at Ao;obtain⟨AK,Aq⟩:=Ao;have Bm:=(au.1 Aq).1;clear Aq;show HE (b.foldl (fun out x=>(Kv out x.Ap x.As).1) a)=true;clear h;clear Ao;induction b generalizing a with
 |nil=>exact AK
 |cons m r Cg=>
  rw[ACO];have hm:=(Bm m (ABx ..)).2;refine Cg (sF ?_) fun x Ab=>Bm x (ABR _ Ab);unfold Kv;rw[AA9 (by rw[AK];decide),AA9 (by rw[hm];decide)];split<;>rfl
def fX(a b:Bx):Prop:=a.Ap=b.Ap/\a.As=b.As
def YB(c q:Int)(d:Bx):Prop:=d.Ap=c/\d.As=q
theorem kQ{l:List Bx}{c q:Int}{j:Nat}:Kt l c q=some j↔j<l.length/\YB c q (l.getD j default)/\∀k,k<j->¬YB c q (l.getD k default):=by
 unfold Kt Gd YB;rw[ADz];simp only[ABb,ABa,ABw,ABe,ACu,ABl];constructor
 · rintro⟨a,b,d⟩;exact⟨b,a,fun k AE=>by have:=d k AE;intro e;omega⟩
 rintro⟨b,a,d⟩;exact⟨a,b,fun k AE=>by have:=d k AE;omega⟩
theorem Ahp{l:List Bx}{c q:Int}:Kt l c q=none↔∀d∈l,¬YB c q d:=by
 unfold Kt Gd YB;rw[AEe];constructor
 · intro h d AJ;obtain⟨j,Ay,rfl⟩:=UP AJ;have:=h j Ay;simp only[ABe,ACu,ABl]at this;omega
 intro h j Ay;have:=h _ (Hl Ay);simp only[ABe,ACu,ABl];omega
theorem Aho{o:Option Nat}:HI o<0↔o=none:=by cases o<;>simp[HI]
theorem Ahn{o:Option Nat}{j:Nat}:HI o=(j:Int)↔o=some j:=by
 cases o with
 |none=>simp[HI]
 |some k=>
  simp only[HI,ABX];omega
theorem UB{l:List Bx}:Is l=true↔l.length<=4/\(∀d∈l,M1 d=true)/\l.Pairwise (fun a b=>¬fX a b):=by
 unfold Is;have key:allI l.length (fun j=> !ab l j)=true↔(∀d∈l,M1 d=true)/\l.Pairwise (fun a b=>¬fX a b):=by
  rw[Nz];have e:∀j,(!ab l j)=true↔M1 (l.getD j default)=true/\Kt l (l.getD j default).Ap (l.getD j default).As=some j:=fun j=>by
   simp only[ab,ABe,ABD,ABI,ABa,Ahn]
  simp only[e];constructor
  · intro h;refine⟨fun d AJ=>?_,ACW.2 fun i j Ag Ay GQ hs=>?_⟩
    · obtain⟨j,Ay,rfl⟩:=UP AJ;exact(h j Ay).1
    have:=(kQ.1 (h j Ay).2).2.2 i GQ;rw[G3 Ag,G3 Ay]at this;exact this hs
  rintro⟨Af,h2⟩ j Ay;refine⟨Af _ (Hl Ay),kQ.2 ⟨Ay,⟨rfl,rfl⟩,fun k AE hs=>?_⟩⟩;have:=ACW.1 h2 k j AMT Ay AE;rw[G3 (show k<l.length by omega),G3 Ay]at hs;exact this hs
 split
 · rename_i Ao;simp only[ABa]at Ao;exact⟨fun h=>(by cases h),fun h=>absurd h.1 AMT⟩
 rename_i Ao;simp only[ABa]at Ao;rw[key];exact⟨fun h=>⟨AMT,h⟩,fun h=>h.2⟩
theorem V'{l:List Bx}{c q:Int}(h:(F1 l c q).2=0):Is l=true/\(F1 l c q).1.toNat<l.length/\Kt l c q=some (F1 l c q).1.toNat/\YB c q (l.getD (F1 l c q).1.toNat default):=by
 unfold F1 at h ⊢;split at h
 · cases h
 rename_i AJ;rw[AA9 AJ];split at h
 · cases h
 rename_i AH;rw[AA9 AH];have AJ:Is l=true:=by simpa using AJ
 cases A7:Kt l c q with
 |none=>rw[A7]at AH;exact absurd (show HI none<0 by decide) AH
 |some j=>
  obtain⟨a,b,_⟩:=kQ.1 A7;exact⟨AJ,a,rfl,b⟩
theorem od{l:List Bx}{i:Nat}{d:Bx}(h:Is l=true)(Ag:i<l.length)(hm:M1 d=true)(hs:fX d (l.getD i default)):Is (l.set i d)=true:=by
 obtain⟨Af,h2,Bo⟩:=UB.1 h;refine UB.2 ⟨by rw[ABj];exact Af,fun x Ab=>?_,ACW.2 fun a b AK Aq Abh=>?_⟩
 · rcases List.mem_or_eq_of_mem_set Ab with Ab|rfl
   · exact h2 x Ab
   exact hm
 rw[ABj]at AK Aq;rw[G3 Ag]at hs;have:=ACW.1 Bo a b AK Aq Abh;rw[ADQ,ADQ];split
 · rename_i e;subst e;rw[AA9 AMT];exact fun q=>this ⟨hs.1.symm.trans q.1,hs.2.symm.trans q.2⟩
 split
 · rename_i e;subst e;exact fun q=>this ⟨q.1.trans hs.1,q.2.trans hs.2⟩
 exact this
theorem rU{l:List Bx}{d:Bx}(h:(Mf l d).2=0):Is (Mf l d).1=true/\(Mf l d).1=l++[d]/\Is l=true/\M1 d=true/\Kt l d.Ap d.As=none/\l.length<4:=by
 unfold Mf at h ⊢;split at h
 · cases h
 rename_i DP;rw[AA9 DP];split at h
 · cases h
 rename_i EK;rw[AA9 EK];split at h
 · cases h
 rename_i FR;rw[AA9 FR];split at h
 · cases h
 rename_i Iz;rw[AA9 Iz];have DP:Is l=true:=by simpa using DP
 simp only[ABk,ABN,ABe,AB_,ABa]at EK FR;obtain⟨Af,h2,Bo⟩:=UB.1 DP;have Ao:Kt l d.Ap d.As=none:=Aho.1 AMT;refine⟨UB.2 ⟨by show(l++[d]).length<=4;rw[List.length_append];simp only[List.length_cons,List.length_nil];omega,fun x Ab=>?_,List.pairwise_append.2 ⟨Bo,List.pairwise_singleton _ _,fun x Ab y Bf=>?_⟩⟩,rfl,DP,EK.1.1.1,Ao,AMT⟩
 · rcases ABm.1 Ab with Ab|Ab
   · exact h2 x Ab
   rw[ADe.1 Ab];exact EK.1.1.1
 rw[ADe.1 Bf];exact Ahp.1 Ao x Ab
theorem dV{d:Bx}:M1 d=true↔V2 d=false/\ae d=false/\(d.C3=JN d.DN d.DO\/JN d.DN d.DO=0/\d.C3=2):=by
 unfold M1;cases V2 d<;>cases ae d<;>simp
theorem Ajd{d:Bx}{m i:Bool}(h:M1 d=true):M1 (TT d m i).1=true/\fX (TT d m i).1 d:=by
 by_cases Bm:(!decide (d.C3=0)|| !decide ((if m=true then d.DN else d.DO)=0))=true
 · rw[TT,AA_ Bm];exact⟨h,rfl,rfl⟩
 rw[TT,AA9 Bm];obtain⟨a,b,_⟩:=dV.1 h;have AK:=a;simp only[V2,ABD,ABl,ABI]at AK;cases m<;>cases i<;>refine⟨dV.2 ⟨?_,b,.inl rfl⟩,rfl,rfl⟩<;>simp only[V2,ABD,ABl,ABI,if_true,if_false,ADJ]<;>exact⟨⟨⟨⟨⟨⟨AK.1.1.1.1.1.1,AK.1.1.1.1.1.2⟩,AK.1.1.1.1.2⟩,AMT⟩,AMT⟩,AMT⟩,AMT⟩
theorem cC{l:List Bx}{c q:Int}{m i:Bool}(h:(Jk l c q m i).2.2=0):Is (Jk l c q m i).1=true:=by
 unfold Jk at h ⊢;split at h
 · rename_i Ao;exact absurd h Ao
 rename_i Ao;rw[AA9 Ao];obtain⟨a,b,_,_⟩:=V' (ACD.1 Ao);obtain⟨x,y⟩:=Ajd (m:=m) (i:=i) ((UB.1 a).2.1 _ (Hl b));exact od a b x y
theorem pb{l:List Bx}{c q:Int}(h:(NJ l c q).2.2=0):Is (NJ l c q).1=true:=by
 unfold NJ at h ⊢;split at h
 · rename_i Ao;exact absurd h Ao
 rename_i Ao;rw[AA9 Ao];obtain⟨a,b,_,_⟩:=V' (ACD.1 Ao);split
 · rename_i Bw;obtain⟨x,y,z⟩:=dV.1 ((UB.1 a).2.1 _ (Hl b));refine od a b (dV.2 ⟨x,y,?_⟩) ⟨rfl,rfl⟩;rcases z with z|z
   · exact .inr ⟨z.symm.trans Bw,rfl⟩
   exact .inr ⟨z.1,rfl⟩
 exact a
theorem zV{l:List Bx}{c q:Int}(h:(OP l c q).2=0):Is (OP l c q).1=true:=by
 unfold OP at h ⊢;split at h
 · rename_i Ao;exact absurd h Ao
 rename_i Ao;rw[AA9 Ao];obtain⟨a,b,_,_⟩:=V' (ACD.1 Ao);split at h
 · cases h
 rename_i BI;rw[AA9 BI];obtain⟨Af,h2,Bo⟩:=UB.1 a;exact UB.2 ⟨ABB (List.length_eraseIdx_le ..) Af,fun x Ab=>h2 x (List.mem_of_mem_eraseIdx Ab),Bo.sublist (AD1 ..)⟩
theorem l2:∀{l:List Int},(∀x∈l,0<=x)->0<=l.sum
 |[],_=>by simp
 |x::r,h=>by
  have Cg:=l2 (l:=r) fun y Bf=>h y (ABR _ Bf);have:=h x (ABx ..);simp only[ADr];omega
theorem pY{l:List BD}(hh:LI l=true){x:BD}(Ab:x∈l):0<=x.DV/\0<=x.Fc:=by
 obtain⟨i,Ag,rfl⟩:=AC8 Ab;have:=Wy hh Ag;rw[G3 Ag]at this;exact⟨this.2.2.2.1,this.2.2.2.2⟩
theorem cR{a:AD}(hh:LI a.A0=true):a.BT<=I7 a:=by
 unfold I7;have:=l2 (l:=a.A0.map (·.DV)) fun x Ab=>by
  obtain⟨y,Bf,rfl⟩:=AB6.1 Ab;exact(pY hh Bf).1
 omega
theorem ag{a:AD}(hh:LI a.A0=true):IU a<=a.BT:=by
 unfold IU;have:=l2 (l:=a.A0.map (·.Fc)) fun x Ab=>by
  obtain⟨y,Bf,rfl⟩:=AB6.1 Ab;exact(pY hh Bf).2
 omega
theorem Vn{x:Int}(h:J3 x=true):Lo x=x/\No x=0:=by unfold Lo No;rw[if_pos h,if_pos h];exact⟨rfl,rfl⟩
theorem tL{x:Int}(h:J3 x=false):Lo x=0/\No x=10:=by unfold Lo No;rw[h];exact⟨rfl,rfl⟩
structure dp (h:BD):Prop where
 AGm:h.Bn<=5
 le:1<=h.G0
 up:0<=h.DV
 GV:0<=h.Fc
theorem ba{l:List BD}:LI l=true↔(∀h∈l,0<h.Bn/\dp h)/\H6 (·.Bn) AGn l:=by
 rw[<-lj (f:=fun m:BD=>m.Bn) (P:=dp),LI,Nz];refine forall_congr' fun j=>imp_congr_right fun Ay=>?_;simp only[eU,ABe,ABD,ABl];constructor
 · rintro⟨⟨⟨⟨a,b⟩,c⟩,d⟩,e⟩;exact⟨a,AMT,AMT,AMT,AMT⟩
 rintro⟨a,b,c,d,e⟩;exact⟨⟨⟨⟨a,AMT⟩,AMT⟩,AMT⟩,AMT⟩
structure Fw (a:AD):Prop where
 key:Ix a.Al=true
 BQ:a.Cs.A6<=a.BT
 Ag:a.BT<=a.Cs.Bc
 rd:0<=a.Cn
 hold:LI a.A0=true
 up:I7 a<=a.Cs.Bc
 GV:a.Cs.A6<=IU a
 YK:a.BG.Ap=0->a.BG=XG
 Om:¬a.BG.Ap=0->Sk a.BG=true/\a.A0=[]/\a.Cs.A6<=a.BT+a.BG.B2/\a.BT+a.BG.B2<=a.Cs.Bc
theorem YY{k:ByteArray}:Ix k=true↔¬(k.size:Int)<1/\¬(k.size:Int)>16:=by
 simp only[Ix,ABb,ABa];omega
theorem eJ{s:GC}{v:Int}:Rb s v=true↔s.A6<=v/\v<=s.Bc:=by simp only[Rb,ABb,ABa]
theorem ib{a:AD}{l:F_}(hs:a.Cs.wf):UJ a l=true↔a.Cs.A6<=a.BT+l.B2/\a.BT+l.B2<=a.Cs.Bc:=by
 obtain⟨⟨s1,s2⟩,IK,Jy⟩:=hs;unfold UJ;cases e:J3 (a.BT+l.B2)with
 |true=>
  rw[(Vn e).1,(Vn e).2,ABG rfl,Bool.true_and];exact eJ
 |false=>
  rw[(tL e).1,(tL e).2];simp only[J3,ACu,ABl]at e;exact⟨fun h=>(by cases h),fun h=>AMT⟩
theorem P3{a:AD}(hs:a.Cs.wf):E4 a=true↔Fw a:=by
 obtain⟨⟨s1,s2⟩,IK,Jy⟩:=id hs;constructor
 · intro h;unfold E4 at h;split at h
   · cases h
   rename_i Af;split at h
   · cases h
   rename_i h2;simp only[VO,ABk,ABa,ABN,ABe,AB_]at Af;obtain⟨⟨⟨⟨A1,AY⟩,Aq⟩,Bh⟩,hh⟩:=Af;simp only[XQ,ABk,ABa,ABN,ABe,AB_,ABb]at h2;obtain⟨⟨⟨gx,d0⟩,Zp⟩,d1⟩:=h2;have Vq:J3 (I7 a)=true:=by
    cases e:J3 (I7 a)with
    |true=>rfl
    |false=>rw[No,AA9 (by rw[e];decide)]at gx;cases gx
   have dW:J3 (IU a)=true:=by
    cases e:J3 (IU a)with
    |true=>rfl
    |false=>rw[No,AA9 (by rw[e];decide)]at d0;cases d0
   rw[Lo,AA_ Vq]at Zp;rw[Lo,AA_ dW]at d1;obtain⟨CY,Dh⟩:=eJ.1 Aq;refine⟨YY.2 ⟨A1,AY⟩,CY,Dh,AMT,hh,AMT,AMT,fun e=>?_,fun e=>?_⟩
   · rw[AA_ (ABG e)]at h;exact ABA h
   rw[AA9 (by rw[ABM e];decide)]at h;simp only[ABb,ABa]at h;obtain⟨⟨x,y⟩,z⟩:=h;exact⟨x,ADd.1 AMT,(ib hs).1 z⟩
 intro h;have Hj:=cR h.hold;have G1:=ag h.hold;have:=h.BQ;have:=h.Ag;have:=h.up;have:=h.GV;have Vq:J3 (I7 a)=true:=by simp only[J3,ABb,ABa];omega
 have dW:J3 (IU a)=true:=by simp only[J3,ABb,ABa];omega
 have B4:VO a=false:=by
  obtain⟨A1,AY⟩:=YY.1 h.key;have Aq:Rb a.Cs a.BT=true:=eJ.2 ⟨h.BQ,h.Ag⟩;have Bh:¬a.Cn<0:=(by have:=h.rd;omega);simp only[VO,ABM A1,ABM AY,ABM Bh,Aq,h.hold];rfl
 have DC:XQ a=false:=by
  have q1:¬I7 a>a.Cs.Bc:=AMT;have q2:¬IU a<a.Cs.A6:=AMT;rw[XQ,(Vn Vq).1,(Vn Vq).2,(Vn dW).1,(Vn dW).2,ABM q1,ABM q2];rfl
 rw[E4,B4,AA9 ARp,DC,AA9 ARp];by_cases e:a.BG.Ap=0
 · rw[AA_ (ABG e)];exact ABG (h.YK e)
 rw[AA9 (by rw[ABM e];decide)];obtain⟨x,y,z⟩:=h.Om e;rw[x,(ib hs).2 z,y];rfl
structure D3 (a:AD):Prop where
 wf:a.wf
 A7:∀h∈a.A0,h.wf
theorem D3.sp{a:AD}(h:D3 a):a.Cs.wf:=h.wf.2.1
theorem Fw.acc{a:AD}(h:Fw a)(w:D3 a):E4 a=true:=(P3 w.sp).2 h
theorem gy{a:AD}(h:G_ a=false):a.BG.Ap=0:=by simpa[G_]using h
theorem locked{a:AD}(h:G_ a=true):¬a.BG.Ap=0:=by simpa[G_]using h
theorem sQ{a:AD}(w:D3 a)(h:Fw a)(AN:G_ a=false):Jx a=a.Cs.Bc-I7 a:=by
 obtain⟨⟨s1,s2⟩,IK,Jy⟩:=w.sp;have Hj:=cR h.hold;have:=h.BQ;have:=h.up;have Vq:J3 (I7 a)=true:=by simp only[J3,ABb,ABa];omega
 rw[Jx,h.acc w,AN,AA9 ARp,(Vn Vq).1];omega
theorem oP{a:AD}(w:D3 a)(h:Fw a)(AN:G_ a=false):K4 a=IU a-a.Cs.A6:=by
 obtain⟨⟨s1,s2⟩,IK,Jy⟩:=w.sp;have Hj:=ag h.hold;have:=h.Ag;have:=h.GV;have Vq:J3 (IU a)=true:=by simp only[J3,ABb,ABa];omega
 rw[K4,h.acc w,AN,AA9 ARp,(Vn Vq).1];omega
theorem Akx(a:AD)(n:Int):I7 {a with BT:=n}=n-a.BT+I7 a:=by unfold I7;simp only;omega
theorem yC(a:AD)(n:Int):IU {a with BT:=n}=n-a.BT+IU a:=by unfold IU;simp only;omega
theorem ZU{a:AD}{n:Int}(w:D3 a)(Ao:A' n)(h:(JF a n).2=0):Fw a/\G_ a=false/\(JF a n).1={a with BT:=a.BT+n}/\Fw (JF a n).1/\D3 (JF a n).1:=by
 unfold JF at h ⊢;split at h
 · cases h
 rename_i Af;rw[AA9 Af];have AK:Fw a:=(P3 w.sp).1 (by simpa using Af);split at h
 · cases h
 rename_i h2;rw[AA9 h2];split at h
 · cases h
 rename_i Bo;rw[AA9 Bo];have AN:G_ a=false:=by simpa using Bo
 split at h
 · cases h
 rename_i BB;rw[AA9 BB];obtain⟨HG,MF⟩:=Ao;obtain⟨⟨s1,s2⟩,IK,Jy⟩:=w.sp;have Hj:=cR AK.hold;have G1:=ag AK.hold;have DP:=AK.BQ;have EK:=AK.Ag;have FR:=AK.up;have Iz:=AK.GV;simp only[dw,sQ w AK AN,oP w AK AN,ABk,ABb,ABa,ABN,not_and]at BB;have Aq:a.Cs.A6<=a.BT+n/\a.BT+n<=a.Cs.Bc/\I7 a+n<=a.Cs.Bc/\a.Cs.A6<=IU a+n:=by
  rcases Int.lt_trichotomy n 0 with q|q|q
  · have:=BB.2 q;omega
  · exact absurd q h2
  have:=BB.1 q;omega
 obtain⟨CY,Dh,DQ,En⟩:=Aq;refine⟨AK,AN,rfl,⟨AK.key,CY,Dh,AK.rd,AK.hold,?_,?_,AK.YK,fun e=>absurd (gy AN) e⟩,⟨w.wf.1,w.wf.2.1,⟨by show-9223372036854775808<=a.BT+n;omega,by show a.BT+n<=9223372036854775807;omega⟩,w.wf.2.2.2.1,trivial,w.wf.2.2.2.2.2⟩,w.A7⟩
 · rw[Akx];show a.BT+n-a.BT+I7 a<=a.Cs.Bc;omega
 rw[yC];show a.Cs.A6<=a.BT+n-a.BT+IU a;omega
theorem sN{a:AD}{r:Int}(h:Fw a)(Bh:0<=r):Fw {a with Cn:=r}:=⟨h.key,h.BQ,h.Ag,Bh,h.hold,h.up,h.GV,h.YK,h.Om⟩
theorem k_{a:AD}{r:Int}(h:D3 a)(Bh:A' r):D3 {a with Cn:=r}:=⟨⟨h.wf.1,h.wf.2.1,h.wf.2.2.1,Bh,trivial,h.wf.2.2.2.2.2⟩,h.A7⟩
theorem ig{a:AD}{r:Int}(w:D3 a)(h:Fw a)(Af:1<=r)(h2:r<=EW):(Mx a r).1={a with Cn:=if a.Cn=0 then r else a.Cn}/\Fw (Mx a r).1/\D3 (Mx a r).1:=by
 have e:Mx a r=(if a.Cn=0 then({a with Cn:=r},0)else(a,0)):=by
  rw[Mx,AA9 (by rw[h.acc w];decide),AA9 (by simp only[ABk,ABa];omega)]
 rw[e];split
 · exact⟨rfl,sN h AMT,k_ w ⟨AMT,by unfold EW at h2;omega⟩⟩
 exact⟨rfl,h,w⟩
theorem l8{a:AD}(w:D3 a)(h:Fw a):(OA a).1={a with Cn:=0}/\Fw (OA a).1/\D3 (OA a).1:=by
 rw[OA,AA9 (by rw[h.acc w];decide)];exact⟨rfl,sN h AMT,k_ w DW⟩
theorem nD{a:AD}{s:GC}(w:D3 a)(hs:s.wf)(h:(Pu a s).2=0):(Pu a s).1={a with Cs:=s}/\Fw a/\Fw (Pu a s).1/\D3 (Pu a s).1/\(Io a).2=true:=by
 unfold Pu at h ⊢;split at h
 · rename_i Ao;exact absurd h Ao
 rename_i Ao;rw[AA9 Ao];split at h
 · cases h
 rename_i h2;rw[AA9 h2];have AE:LJ a=0:=ACD.1 Ao;unfold LJ at AE;split at AE
 · cases AE
 rename_i A1;split at AE
 · cases AE
 rename_i AY;have AK:Fw a:=(P3 w.sp).1 (by simpa using A1);have Av:(Io a).2=true:=by simpa using AY
 obtain⟨CY,Dh⟩:=eJ.1 (by simpa using h2:Rb s a.BT=true);have pV:a.A0=[]/\G_ a=false:=by
  unfold Io at Av;split at Av
  · cases Av
  rename_i q;simp only[ABk,ABa,ABN,ABe,AB_,ACH]at q;exact⟨ADd.1 AMT,q.1.2⟩
 have u:I7 a=a.BT/\IU a=a.BT:=by
  unfold I7 IU;rw[pV.1];simp
 refine⟨rfl,AK,⟨AK.key,CY,Dh,AK.rd,AK.hold,?_,?_,AK.YK,fun e=>absurd (gy pV.2) e⟩,⟨⟨w.wf.1,hs,w.wf.2.2⟩,w.A7⟩,Av⟩
 · show I7 a<=s.Bc;omega
 show s.A6<=IU a;omega
theorem t_{a:AD}:(Io a).2=true↔E4 a=true/\G_ a=false/\a.A0=[]:=by
 unfold Io;split
 · rename_i q;simp only[ABk,ABa,ABe]at q;constructor
   · intro h;cases h
   rintro⟨Af,h2,Bo⟩;rw[Af,h2,Bo]at q;simp at q
 rename_i q;simp only[ABk,ABa,ABN,ABe,AB_,ACH]at q;exact⟨fun _=>⟨q.1.1,q.1.2,ADd.1 AMT⟩,fun _=>rfl⟩
theorem Adb{a:AD}:LJ a=0↔(Io a).2=true:=by
 unfold LJ;constructor
 · intro h;split at h
   · cases h
   split at h
   · cases h
   rename_i q;simpa using q
 intro h;rw[AA9 (by rw[(t_.1 h).1];decide),AA9 (by rw[h];decide)]
theorem gu{a:AD}{l:F_}(w:D3 a)(AN:l.wf)(h:(KA a l).2=0):(KA a l).1={a with BG:=l}/\Fw a/\(Io a).2=true/\Sk l=true/\a.Cs.A6<=a.BT+l.B2/\a.BT+l.B2<=a.Cs.Bc/\Fw (KA a l).1/\D3 (KA a l).1:=by
 unfold KA at h ⊢;split at h
 · cases h
 rename_i Af;rw[AA9 Af];split at h
 · cases h
 rename_i h2;rw[AA9 h2];split at h
 · rename_i Bo;exact absurd h Bo
 rename_i Bo;rw[AA9 Bo];split at h
 · cases h
 rename_i BB;rw[AA9 BB];have AK:Fw a:=(P3 w.sp).1 (by simpa using Af);have AE:Sk l=true:=by simpa using h2
 have Av:=Adb.1 (ACD.1 Bo);obtain⟨f1,f2⟩:=(ib w.sp).1 (by simpa using BB:UJ a l=true);obtain⟨_,_,t3⟩:=t_.1 Av;refine⟨rfl,AK,Av,AE,f1,f2,⟨AK.key,AK.BQ,AK.Ag,AK.rd,AK.hold,AK.up,AK.GV,fun e=>?_,fun _=>⟨AE,t3,f1,f2⟩⟩,⟨⟨w.wf.1,w.wf.2.1,w.wf.2.2.1,w.wf.2.2.2.1,trivial,AN⟩,w.A7⟩⟩;simp only[Sk,ABb,ABa]at AE;have e:l.Ap=0:=e;omega
theorem UK{a:AD}{c:Bool}(w:D3 a)(h:(D1 a c).2=0):Fw a/\G_ a=true/\(D1 a c).1={a with BT:=if c=true then a.BT+a.BG.B2 else a.BT,BG:=XG}/\Fw (D1 a c).1/\D3 (D1 a c).1:=by
 unfold D1 at h ⊢;split at h
 · cases h
 rename_i Af;rw[AA9 Af];split at h
 · cases h
 rename_i h2;rw[AA9 h2];have AK:Fw a:=(P3 w.sp).1 (by simpa using Af);have AN:G_ a=true:=by simpa using h2
 obtain⟨k,n,f1,f2⟩:=AK.Om (locked AN);obtain⟨⟨s1,s2⟩,IK,Jy⟩:=w.sp;have DP:=AK.BQ;have EK:=AK.Ag;have u:∀b:Int,I7 {a with BT:=b,BG:=XG}=b/\IU {a with BT:=b,BG:=XG}=b:=fun b=>by
  unfold I7 IU;simp only[n];simp
 refine⟨AK,AN,rfl,?_⟩;cases c with
 |true=>
  obtain⟨Zp,mg⟩:=u (a.BT+a.BG.B2);exact⟨⟨AK.key,f1,f2,AK.rd,AK.hold,ASc (ASb Zp) f2,ASc f1 (ASb mg.symm),fun _=>rfl,fun e=>absurd rfl e⟩,⟨⟨w.wf.1,w.wf.2.1,⟨by show-9223372036854775808<=a.BT+a.BG.B2;omega,by show a.BT+a.BG.B2<=9223372036854775807;omega⟩,w.wf.2.2.2.1,trivial,DW,DW,DW,DW⟩,w.A7⟩⟩
 |false=>
  obtain⟨Zp,mg⟩:=u a.BT;exact⟨⟨AK.key,DP,EK,AK.rd,AK.hold,ASc (ASb Zp) EK,ASc DP (ASb mg.symm),fun _=>rfl,fun e=>absurd rfl e⟩,⟨⟨w.wf.1,w.wf.2.1,w.wf.2.2.1,w.wf.2.2.2.1,trivial,DW,DW,DW,DW⟩,w.A7⟩⟩
theorem cH{β:Type}{key:β->Int}{f:β->Int}:∀{l:List β},l.Pairwise (fun a b=>AGn (key a) (key b)=true)->∀{x:β},x∈l->(l.map f).sum=f x+((l.filter (fun y=> !decide (key y=key x))).map f).sum
 |y::r,h,x,Ab=>by
  obtain⟨Af,h2⟩:=List.pairwise_cons.1 h;rcases ABf.1 Ab with rfl|Ab
  · have e:r.filter (fun y=> !decide (key y=key x))=r:=List.filter_eq_self.2 fun z Cu=>by
     have:=ABA (Af z Cu);rw[ABM AMT];rfl
    rw[List.filter_cons_of_neg (by simp),e];rfl
  have FG:¬key y=key x:=by
   have:=ABA (Af x Ab);omega
  rw[List.filter_cons_of_pos (by rw[ABM FG];rfl),AB8,AB8,ADr,ADr,cH h2 Ab];omega
theorem oU{a:AD}{n:Int}(h:(IC a n).2=true):E4 a=true/\(IC a n).1∈a.A0/\(IC a n).1.Bn=n:=by
 unfold IC at h ⊢;split at h
 · cases h
 rename_i Af;rw[AA9 Af];cases e:Gd a.A0.length (fun j=>decide ((a.A0.getD j default).Bn=n))with
 |none=>rw[e]at h;cases h
 |some j=>
  have Ay:=ADz.1 e;exact⟨by simpa using Af,Hl (Q4 e),ABA Ay.1⟩
theorem lf{a:AD}{n le r IG:Int}(w:D3 a)(h:(Mk a n le r IG).2=0):
 Fw a/\(IC a n).2=true/\(IC a n).1.G0=le/\¬a.Cn=0/\a.Cn=r/\IG<=(IC a n).1.DV/\ -(IC a n).1.Fc<=IG/\
 (Mk a n le r IG).1={a with BT:=a.BT+IG,A0:=a.A0.filter (fun h=> !decide (h.Bn=n))}/\Fw (Mk a n le r IG).1/\D3 (Mk a n le r IG).1:=by
 unfold Mk at h ⊢;split at h
 · cases h
 rename_i Af;rw[AA9 Af];split at h
 · cases h
 rename_i h2;rw[AA9 h2];split at h
 · cases h
 rename_i Bo;rw[AA9 Bo];split at h
 · cases h
 rename_i BB;rw[AA9 BB];have AK:Fw a:=(P3 w.sp).1 (by simpa using Af);simp only[ABk,ABN,ABe,AB_,ABa]at h2 Bo BB;obtain⟨f1,f2⟩:=h2;obtain⟨NY,MK⟩:=Bo;obtain⟨HG,MF⟩:=BB;obtain⟨_,hm,Ao⟩:=oU f1;obtain⟨q1,q2⟩:=ba.1 AK.hold;have B4:=cH (key:=fun h:BD=>h.Bn) (f:=fun h:BD=>h.DV) q2 hm;have DC:=cH (key:=fun h:BD=>h.Bn) (f:=fun h:BD=>h.Fc) q2 hm;simp only[Ao]at B4 DC;have CM:=(q1 _ hm).2;have hu:=CM.up;have AJ:=CM.GV;obtain⟨⟨s1,s2⟩,IK,Jy⟩:=w.sp;have FR:=AK.up;have Iz:=AK.GV;have Mz:LI (a.A0.filter (fun h=> !decide (h.Bn=n)))=true:=ba.2 ⟨fun x Ab=>q1 x (ABZ.1 Ab).1,q2.filter _⟩;have Ab:∀b:AD,b={a with BT:=a.BT+IG,A0:=a.A0.filter (fun h=> !decide (h.Bn=n))}->I7 b<=a.Cs.Bc/\a.Cs.A6<=IU b/\b.BT<=I7 b/\IU b<=b.BT:=fun b Aq=>by
  have C':LI b.A0=true:=(by rw[Aq];exact Mz);have Hj:=cR C';have G1:=ag C';refine⟨?_,?_,Hj,G1⟩
  · rw[Aq];unfold I7 at FR ⊢;simp only;omega
  rw[Aq];unfold IU at Iz ⊢;simp only;omega
 obtain⟨N8,OF,P1,P2⟩:=Ab _ rfl;have P1:a.BT+IG<=_:=P1;have P2:_<=a.BT+IG:=P2;have AN:a.BG.Ap=0:=by
  refine Classical.byContradiction fun e=>?_;rw[(AK.Om e).2.1]at hm;cases hm
 refine⟨AK,f1,f2,NY,MK,AMT,AMT,rfl,⟨AK.key,by show a.Cs.A6<=a.BT+IG;omega,by show a.BT+IG<=a.Cs.Bc;omega,AK.rd,Mz,N8,OF,AK.YK,fun e=>absurd AN e⟩,⟨⟨w.wf.1,w.wf.2.1,⟨by show-9223372036854775808<=a.BT+IG;omega,by show a.BT+IG<=9223372036854775807;omega⟩,w.wf.2.2.2.1,trivial,w.wf.2.2.2.2.2⟩,fun x Ab=>w.A7 x (ABZ.1 Ab).1⟩⟩
theorem AhI{β GA:Type}[Inhabited β][DecidableEq GA]{key:β->GA}{lt:GA->GA->Bool}(o:QL lt){x:β}{l:List β}(h:H6 key lt l):(FQ key lt x l).Perm (x::l.filter (fun y=> !decide (key y=key x))):=by
 have AGm:∀{m:List β},H6 key lt m->m.Nodup:=fun hm=>List.nodup_iff_pairwise_ne.2 (hm.imp fun q e=>by subst e;rw[o.Si]at q;cases q);refine(List.perm_ext_iff_of_nodup (AGm (W4 o h)) (List.nodup_cons.2 ⟨fun Ab=>?_,(AGm h).sublist List.filter_sublist⟩)).2 fun y=>?_
 · have:=(ABZ.1 Ab).2;simp at this
 rw[PJ o h,ABf,ABZ];simp
theorem se{β:Type}{f:β->Int}{l m:List β}(h:l.Perm m):(l.map f).sum=(m.map f).sum:=by
 induction h with
 |nil=>rfl
 |cons x _ Cg=>simp only[AB8,ADr,Cg]
 |swap x y l=>simp only[AB8,ADr];omega
 |trans _ _ a b=>exact a.trans b
theorem rB{v s:Int}(Bw:0<=v)(Af:v<=9223372036854775807)(hs:0<=s):v<=Iw v s/\Iw v s<=v+s/\Iw v s<=9223372036854775807:=by unfold Iw;omega
theorem tf{n k:Int}(AE:1<=k)(Ao:0<=n):0<=H' (JA n (k+1) k)/\H' (JA n (k+1) k)<=n:=by
 have e:JA n (k+1) k=n / (k+1):=by
  rw[JA,AA9 (by simp only[ABk,ABa];omega),AA9];have:=Int.emod_lt_of_pos n (show 0<k+1 by omega);omega
 have a:0<=n / (k+1):=Int.ediv_nonneg Ao AMT;have b:n / (k+1)<=n:=Int.ediv_le_self _ Ao;rw[e,H'];omega
theorem a_{a:AD}{n le:Int}(h:LI a.A0=true)(w:D3 a)(Ao:1<=n/\n<=5)(AN:1<=le/\le<=EW):
 (JW a n le).Bn=n/\dp (JW a n le)/\(JW a n le).wf/\((a.A0.map (·.DV)).sum=(JW a n le).DV+((a.A0.filter (fun y=> !decide (y.Bn=n))).map (·.DV)).sum)/\((a.A0.map (·.Fc)).sum=(JW a n le).Fc+((a.A0.filter (fun y=> !decide (y.Bn=n))).map (·.Fc)).sum):=by
 obtain⟨q1,q2⟩:=ba.1 h;unfold JW;cases Ag:G9 (·.Bn) AGn n a.A0 with
 |true=>
  rw[AA_ rfl];obtain⟨i1,i2⟩:=ZX N1 q2 Ag;have hm:=Hl (l:=a.A0) i1;have B4:=cH (key:=fun h:BD=>h.Bn) (f:=fun h:BD=>h.DV) q2 hm;have DC:=cH (key:=fun h:BD=>h.Bn) (f:=fun h:BD=>h.Fc) q2 hm;have i2:(a.A0.getD (Cz (·.Bn) AGn n a.A0) default).Bn=n:=i2;simp only[i2]at B4 DC;exact⟨i2,(q1 _ hm).2,w.A7 _ hm,B4,DC⟩
 |false=>
  rw[AA9 ARp];have e:a.A0.filter (fun y=> !decide (y.Bn=n))=a.A0:=List.filter_eq_self.2 fun z Cu=>by
   have:¬z.Bn=n:=fun e=>by rw[(br N1 q2 n).2 ⟨z,Cu,e⟩]at Ag;cases Ag
   rw[ABM this];rfl
  rw[e];unfold EW at AN;have i1:A' n:=⟨AMT,AMT⟩;have i2:A' le:=⟨AMT,AMT⟩;exact⟨rfl,⟨Ao.2,AN.1,ADn _,ADn _⟩,⟨i1,i2,DW,DW⟩,(Int.zero_add _).symm,(Int.zero_add _).symm⟩
theorem iv{a:AD}{n le k:Int}(w:D3 a)(h:(Kl a n le k).2=0):
 Fw a/\G_ a=false/\a.Cn=0/\1<=n/\n<=k/\k<=5/\1<=le/\le<=EW/\(Kl a n le k).1={a with A0:=FQ (·.Bn) AGn (Sn (JW a n le) (Jx a) (K4 a) k) a.A0}/\Fw (Kl a n le k).1/\D3 (Kl a n le k).1:=by
 unfold Kl at h ⊢;split at h
 · cases h
 rename_i Af;rw[AA9 Af];split at h
 · cases h
 rename_i h2;rw[AA9 h2];split at h
 · cases h
 rename_i Bo;rw[AA9 Bo];have AK:Fw a:=(P3 w.sp).1 (by simpa using Af);simp only[ABk,ABa,ABN]at h2;simp only[ABk,ABN,ABe,AB_,ABa,ACH]at Bo;obtain⟨cg,AN⟩:=Bo;obtain⟨⟨⟨⟨⟨A1,Bd⟩,HG⟩,An5⟩,Om⟩,An2⟩:=h2;obtain⟨q1,q2⟩:=ba.1 AK.hold;obtain⟨Fb,az,zr,B4,DC⟩:=a_ (le:=le) AK.hold w (n:=n) ⟨AMT,AMT⟩ ⟨AMT,AMT⟩;obtain⟨⟨s1,s2⟩,IK,Jy⟩:=w.sp;have DP:=AK.BQ;have EK:=AK.Ag;have FR:=AK.up;have Iz:=AK.GV;have Hj:=cR AK.hold;have G1:=ag AK.hold;have Bh:=sQ w AK AN;have BI:=oP w AK AN;obtain⟨gx,Zp⟩:=tf (n:=Jx a) (k:=k) AMT AMT;obtain⟨d0,d1⟩:=tf (n:=K4 a) (k:=k) AMT AMT;obtain⟨Ua,Ub,⟨Xs,RD⟩,Ud,Xt⟩:=zr;obtain⟨Kq,YQ,An3⟩:=rB az.up RD gx;obtain⟨o1,o2,IJ⟩:=rB az.GV Xt d0;generalize Ab:Sn (JW a n le) (Jx a) (K4 a) k=x;have AlB:x.Bn=n:=by rw[<-Ab];exact Fb
 have Apl:x.DV=Iw (JW a n le).DV (H' (JA (Jx a) (k+1) k)):=by rw[<-Ab];rfl
 have Apj:x.Fc=Iw (JW a n le).Fc (H' (JA (K4 a) (k+1) k)):=by rw[<-Ab];rfl
 have uY:x.G0=(JW a n le).G0:=by rw[<-Ab];rfl
 have AlC:dp x:=⟨AMT,by rw[uY];exact az.le,by have:=az.up;omega,by have:=az.GV;omega⟩;have mF:x.wf:=⟨⟨AMT,AMT⟩,by rw[uY];exact Ub,⟨AMT,AMT⟩,⟨AMT,AMT⟩⟩;have AH:=AhI N1 (x:=x) q2;have Rn:=se (f:=fun h:BD=>h.DV) AH;have WY:=se (f:=fun h:BD=>h.Fc) AH;simp only[AB8,ADr,AlB]at Rn WY;have Mz:LI (FQ (·.Bn) AGn x a.A0)=true:=ba.2 ⟨fun y Bf=>by
  rcases(PJ N1 q2).1 Bf with rfl|Bf
  · exact⟨AMT,AlC⟩
  exact q1 y Bf.1,W4 N1 q2⟩
 refine⟨AK,AN,cg,AMT,AMT,AMT,AMT,AMT,rfl,⟨AK.key,DP,EK,AK.rd,Mz,?_,?_,AK.YK,fun e=>absurd (gy AN) e⟩,⟨w.wf,fun y Bf=>?_⟩⟩
 · unfold I7 at FR Bh ⊢;simp only;omega
 · unfold IU at Iz BI ⊢;simp only;omega
 rcases(PJ N1 q2).1 Bf with rfl|Bf
 · exact mF
 exact w.A7 y Bf.1
end Go.Apw
