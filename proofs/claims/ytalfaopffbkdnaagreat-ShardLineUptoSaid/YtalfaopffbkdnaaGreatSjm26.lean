/- Part 26 of shardLine_holds. -/
import Derived.Test.YtalfaopffbkdnaaGreatSjm25

set_option maxRecDepth 20000
set_option maxHeartbeats 1000000
open Go.A_ Go.Proofs Go.Proofs.YtalfaopffbkdnaaGreat
namespace Go.Apw
theorem AIc:AGW.wf:=by
 have z:A' 0:=DW;have o:A' 1:=⟨by decide,by decide⟩;exact⟨o,o,o,o,o,z,by decide,z,z,z,trivial,⟨⟨by decide,by decide⟩,by decide,by decide,z,z,⟨by decide,by decide⟩⟩,⟨z,z,z,by decide,by decide,z,z⟩,trivial⟩
theorem AId{os:List FL}{i:Nat}(Ag:i<7)(h:(os.getD i default).wf):(AGD os i).wf:=by
 have z:A' 0:=DW;have o:A' 1:=⟨by decide,by decide⟩;exact⟨o,⟨by show _<=2+(i:Int);omega,by show 2+(i:Int)<=_;omega⟩,o,o,⟨by show _<=(2:Int);decide,by show(2:Int)<=_;decide⟩,z,by show ByteArray.empty.size<=_;decide,z,z,z,trivial,h,⟨z,z,z,by show ByteArray.empty.size<=_;decide,by show ByteArray.empty.size<=_;decide,z,z⟩,trivial⟩
theorem AHW:XO (F8 1) AGz 1:=by
 have:=(Ah0 (c:=AGW) (nd:=3) (i:=0) (fJ (g:=1) rfl) AIc (by decide) (by decide) (by decide)).2;have e:Gc (F8 1) AGW (((0:Nat):Int)+1) 3=(AGz,[⟨1,1,1,GS⟩],0):=AIA;rw[e]at this;exact this
theorem AHr{os:List FL}(h:∀i,i<os.length->AGT (os.getD i default)/\(os.getD i default).wf)(Bw:(os.getD 0 default).Ca=4)(AN:os.length<=7):∀k,k<=os.length->XO (F8 1) (AGr os k) (k+1)
 |0,_=>AHW
 |k+1,AE=>by
  have Fy:=AHr h Bw AN k (by omega);have hs:=AIB (by omega) (h k (by omega)).1 Bw (h 0 (by omega)).1.key Fy;have:=(Ah0 (c:=AGD os k) (nd:=3) Fy (AId (by omega) (h k (by omega)).2) (by decide) (by decide) (by have:EW=4611686018427387904:=rfl;omega)).2;rw[show(((k+1:Nat):Int)+1)=2+(k:Int)by omega,hs]at this;exact this
theorem AIR{os:List FL}{s:GC}{v:Int}{n:Nat}(h:∀i,i<n->AGT (os.getD i default)/\(os.getD i default).wf):∀(m j:Nat) {w:Ah},m+j=n->AG_ os s v n j w->AG_ os s v n n (Ah.waits m w)
 |0,j,w,e,hw=>by
  have:j=n:=(by omega);subst this;exact hw
 |m+1,j,w,e,hw=>by
  obtain⟨r,st⟩:=AJC hw (by omega) (h j (by omega)).1 (h j (by omega)).2.2.2.2.1;rw[Ah.waits,r];exact AIR h m (j+1) (by omega) st
def AG0(IG:Int):Dg:={AGW with Ca:=2,Ap:=0,As:=0,Dn:=0,Al:=AGp,G0:=1,Cn:=2,It:=IG,AM:=mV}
theorem AIM{IG:Int}(Bw:0<=IG)(C':IG<=5):Mk (AGs 2) 1 1 2 IG=({AGs 2 with BT:=IG,A0:=[]},0):=by
 have B4:E4 (AGs 2)=true:=by kernel_rfl
 have DC:IC (AGs 2) 1=(⟨1,1,5,0⟩,true):=by kernel_rfl
 unfold Mk;rw[if_neg (by rw[B4];decide),DC];rw[if_neg (by decide),if_neg (by decide),if_neg (by
  simp only[Bool.or_eq_true,decide_eq_true_eq];omega)]
 have:(AGs 2).BT+IG=IG:=by show 0+IG=IG;omega
 rw[this];rfl
theorem AJA{os:List FL}{IG:Int}(h:∀i,i<os.length->AGT (os.getD i default)/\(os.getD i default).wf)(Bw:(os.getD 0 default).Ca=4)(AN:os.length<=7)(AH:0<os.length)(Sp:0<=IG)(AHj:IG<=5):
 ∃w:Ah,AG_ os ⟨0,20⟩ IG os.length os.length w/\w.ix=2+(os.length:Int)/\w.nd=3/\Gc (AGr os os.length) (AG0 IG) (2+(os.length:Int)) 3=(w.rest.S,w.EF,0):=by
 have Fy:=AHr h Bw AN os.length (Nat.le_refl _);have AHh:=((Zc Fy.ints.ac Fy.ints.PZ Fy.ints.O8).1 Fy.right).1;have Anp:EW=4611686018427387904:=rfl;generalize Ao:os.length=n at*;have AK:AGy n=AGs 2:=by unfold AGy;rw[if_neg (by omega)]
 have AJn:Ce {AGr os n with DX:=2+(n:Int)}:={AHh with ix:=⟨by show 0<=2+(n:Int);omega,by show 2+(n:Int)<=EW;omega⟩,own:=⟨AHh.own.no,AHh.own.yes⟩,acc:=AHh.acc,wt:=AHh.wt,Hc:=AHh.Hc};have AIs:=Aiq (c:=AG0 IG) (w:={S:={AGr os n with DX:=2+(n:Int)},ix:=2+(n:Int),nd:=3,EF:=[],BQ:=[]}) AJn;have pz:BF [AGy n] AGp=(AGy n,true):=by
  rw[AK];kernel_rfl
 have AIt:({S:={AGr os n with DX:=2+(n:Int)},ix:=2+(n:Int),nd:=3,EF:=[],BQ:=[]}:Ah).report (AG0 IG)=({S:={AGr os n with DX:=2+(n:Int)},ix:=2+(n:Int),nd:=3,EF:=[],BQ:=[]}:Ah).put {AGs 2 with BT:=IG,A0:=[]}:=by
  unfold Ah.report;have Ey:BF (AGr os n).Aj (AG0 IG).Al=(AGy n,true):=pz;simp only[Ey];rw[if_neg (by decide),AK];show(if(Mk (AGs 2) 1 1 2 IG).2=0 then _ else _)=_;rw[AIM Sp AHj,if_pos rfl];show Ah.put _ (Mk (AGs 2) 1 1 2 IG).1=_;rw[AIM Sp AHj]
 have Ab:¬(decide (2+(n:Int)<=(AGr os n).DX)||decide (2+(n:Int)>EW))=true:=by
  simp only[Bool.or_eq_true,decide_eq_true_eq];have:(AGr os n).DX=1+(n:Int):=rfl;omega
 rw[AIt]at AIs;have po:=AII (w:={S:={AGr os n with DX:=2+(n:Int)},ix:=2+(n:Int),nd:=3,EF:=[],BQ:=[]}) (b:=AGy n) (b':={AGs 2 with BT:=IG,A0:=[]}) rfl (by rw[AK]);unfold Gc;rw[if_neg (by rw[Fy.right];decide),if_neg (by decide),if_neg Ab];simp only[Aqs (c:=AG0 IG) rfl,AIt];have Jh:(({S:={AGr os n with DX:=2+(n:Int)},ix:=2+(n:Int),nd:=3,EF:=[],BQ:=[]}:Ah).put {AGs 2 with BT:=IG,A0:=[]}).S.AA=AGF os n:=rfl;have Wu:(({S:={AGr os n with DX:=2+(n:Int)},ix:=2+(n:Int),nd:=3,EF:=[],BQ:=[]}:Ah).put {AGs 2 with BT:=IG,A0:=[]}).ix=2+(n:Int):=rfl;have OZ:(({S:={AGr os n with DX:=2+(n:Int)},ix:=2+(n:Int),nd:=3,EF:=[],BQ:=[]}:Ah).put {AGs 2 with BT:=IG,A0:=[]}).nd=3:=rfl;have AbE:(({S:={AGr os n with DX:=2+(n:Int)},ix:=2+(n:Int),nd:=3,EF:=[],BQ:=[]}:Ah).put {AGs 2 with BT:=IG,A0:=[]}).EF=[]:=rfl;have NM:(({S:={AGr os n with DX:=2+(n:Int)},ix:=2+(n:Int),nd:=3,EF:=[],BQ:=[]}:Ah).put {AGs 2 with BT:=IG,A0:=[]}).S.Bt=FP:=rfl;have AIu:=AIs.ws;generalize ({S:={AGr os n with DX:=2+(n:Int)},ix:=2+(n:Int),nd:=3,EF:=[],BQ:=[]}:Ah).put {AGs 2 with BT:=IG,A0:=[]}=u at*;have AJi:u.S.AA.length=n:=by rw[Jh];unfold AGF;rw[List.length_map,List.length_range]
 have Dv:AG_ os ⟨0,20⟩ IG n 0 u:=⟨AIu,⟨_,po,rfl,rfl,rfl,rfl,rfl⟩,by rw[Jh];rfl,by rw[AbE];rfl,NM⟩;rw[AJi];have LY:=gH n AIu;refine⟨Ah.waits n u,AIR h n 0 (by omega) Dv,LY.x.trans Wu,LY.n.trans OZ,?_⟩;rw[Ait]
theorem AHC:ApH AGz AGp=AGs 0/\ApE AGz AGp=true:=by
  constructor
  · kernel_rfl
  · kernel_rfl
theorem AIx:VB AGz:=AHW.ints
theorem AIy:LN AGz=true:=AHW.right
def AHx(a b:AD):Prop:=a.Al=b.Al/\a.BT=b.BT/\a.Cs=b.Cs/\a.Cn=b.Cn
theorem AJq{l:List AD}{w:Ah}{x:JE}(h:Ce w.S)(g:∀a∈w.S.Aj,∃b∈l,AHx a b):∀a∈(w.Iv x).S.Aj,∃b∈l,AHx a b:=by
 unfold Ah.Iv;split
 · exact g
 · rename_i Af;have BI:(BF w.S.Aj x.Al).2=true:=(by simpa using Af);split
   · rename_i h2;obtain⟨m,k⟩:=Q2 BI;obtain⟨_,y,_⟩:=h.acc _ m;obtain⟨_,_,_,_,_,_,_,_,p,_,_⟩:=iv y h2;intro a AK;rcases Ap0 AK with e|AK
     · obtain⟨b,Aq,Ey,Ez,AhN,PM⟩:=g _ m;refine⟨b,Aq,?_⟩;rw[e,p];exact⟨Ey,Ez,AhN,PM⟩
     · exact g a AK
   · exact g
theorem AIv{l:List AD}:∀(BQ:List JE) {w:Ah},Ce w.S->(∀a∈w.S.Aj,∃b∈l,AHx a b)->∀a∈(BQ.foldl Ah.Iv w).S.Aj,∃b∈l,AHx a b
 |[],_,_,g=>g
 |x::r,w,h,g=>AIv r (fe (x:=x) h).ws (AJq (x:=x) h g)
theorem AJy{os:List FL}{s:GC}{v:Int}{n:Nat}{w:Ah}(h:AG_ os s v n n w)(Af:1<=w.ix)(h2:w.ix<=EW):
 w.rest.S.AA=[]/\(BF w.rest.S.Aj AGp).1.BT=(AGt os s v n).2/\(BF w.rest.S.Aj AGp).1.Cs=(AGt os s v n).1/\(BF w.rest.S.Aj AGp).1.Cn=0:=by
 obtain⟨b,e,B5,AHm,AO,J,bv⟩:=h.acc;have hw:w.S.AA=[]:=by
  rw[h.wt];refine List.drop_eq_nil_of_le ?_;unfold AGF;rw[List.length_map,List.length_range];exact Nat.le_refl _
 have hh:LG w.S=w.S:=by
  unfold LG;rw[if_pos (by simp[Py,h.Hc])]
 have hf:=h.ws.acc b (by rw[e];exact List.mem_singleton.2 rfl);have Ag:w.S.Aj.map (Jv w.S w.ix)=[{b with Cn:=0}]:=by
  rw[e,List.map_singleton,qh Af h2 hf.1 hf.2.1,hw,Akv _ h.Hc];rfl
 have Vv:Ce {w.S with Aj:=w.S.Aj.map (Jv w.S w.ix)}:=h.ws.bE fun a AK=>jP Af h2 (h.ws.acc a AK).1 (h.ws.acc a AK).2.1;have Bh:w.rest={(w.BQ.foldl Ah.Iv {w with S:={w.S with Aj:=w.S.Aj.map (Jv w.S w.ix)}})with S:={(w.BQ.foldl Ah.Iv {w with S:={w.S with Aj:=w.S.Aj.map (Jv w.S w.ix)}}).S with Aj:=(w.BQ.foldl Ah.Iv {w with S:={w.S with Aj:=w.S.Aj.map (Jv w.S w.ix)}}).S.Aj.filter (fun a=> !FT a)}}:=by
  unfold Ah.rest;simp only[hh]
 have AH3:=AIv (l:=[{b with Cn:=0}]) w.BQ (w:={w with S:={w.S with Aj:=w.S.Aj.map (Jv w.S w.ix)}}) Vv (by
  show ∀a∈w.S.Aj.map (Jv w.S w.ix),_;rw[Ag];exact fun a AK=>⟨a,AK,rfl,rfl,rfl,rfl⟩)
 obtain⟨AIw,ac⟩:=q5 (l:=[{b with Cn:=0}]) w.BQ (w:={w with S:={w.S with Aj:=w.S.Aj.map (Jv w.S w.ix)}}) Vv (by
  show AGm _ (w.S.Aj.map (Jv w.S w.ix));rw[Ag];exact⟨fun a AK=>⟨a,AK,q7 a⟩,fun a AK=>⟨a,AK,q7 a⟩⟩)
 have AH_:=ac.s;rw[Bh];generalize w.BQ.foldl Ah.Iv {w with S:={w.S with Aj:=w.S.Aj.map (Jv w.S w.ix)}}=u at AH3 AIw AH_ ⊢;have AKi:u.S.AA=[]:=by rw[AH_];exact hw
 refine⟨AKi,?_⟩;show(BF (u.S.Aj.filter fun a=> !FT a) AGp).1.BT=_/\(BF (u.S.Aj.filter fun a=> !FT a) AGp).1.Cs=_/\(BF (u.S.Aj.filter fun a=> !FT a) AGp).1.Cn=0;cases q:(BF (u.S.Aj.filter fun a=> !FT a) AGp).2 with
 |true=>
  obtain⟨m,_⟩:=Q2 q;obtain⟨c,Bm,_,Ez,AhN,PM⟩:=AH3 _ (List.mem_filter.1 m).1;rw[List.mem_singleton]at Bm;subst Bm;exact⟨Ez.trans bv,AhN.trans J,PM⟩
 |false=>
  obtain⟨no,h4⟩:=UH q;obtain⟨a,O8,FA⟩:=AIw.of _ (List.mem_singleton.2 rfl);have AIW:a.Al=AGp:=FA.1.trans B5;have pl:FT a=true:=by
   cases z:FT a with
   |true=>rfl
   |false=>exact absurd AIW (no a (List.mem_filter.2 ⟨O8,by rw[z];rfl⟩))
  obtain⟨_,Rn,WY,_⟩:=fB.1 pl;obtain⟨c,Bm,_,Ez,AhN,_⟩:=AH3 a O8;rw[List.mem_singleton]at Bm;subst Bm;have Fb:(O9 AGp).1={Fj with Al:=AGp}:=rfl;rw[h4,Fb];refine⟨?_,?_,rfl⟩
  · show 0=_;rw[<-WY,Ez];exact bv
  · exact Rn.symm.trans (AhN.trans J)
def AHa(ops:List FL)(i:Nat):FL:=if i=0 then AGw else AGO (ops.getD i default)
def AGu(ops:List FL):Nat:=min ops.length 7
def AGo(ops:List FL):List FL:=(List.range (AGu ops)).map (AHa ops)
theorem AGX(ops:List FL):(AGo ops).length=AGu ops:=by rw[AGo,List.length_map,List.length_range]
theorem AHE{ops:List FL}{i:Nat}(h:i<AGu ops):(AGo ops).getD i default=AHa ops i:=by
  rw[Go.A_.G3 (by rw[AGX];exact h)];simp[AGo]
theorem AIH:AGT AGw/\AGw.wf:=⟨⟨rfl,by decide,by decide,fun h=>by rcases h with h|h<;>cases h⟩,⟨by decide,by decide⟩,by decide,by decide,LU,LU,LU⟩
theorem AJo(o:FL)(h:o.wf):AGT (AGO o)/\(AGO o).wf:=by
  obtain⟨HG,MF⟩:=AHi o.B2;obtain⟨Om,Sl⟩:=AHi o.A6;obtain⟨Af,h2⟩:=AHi o.Bc;have AHV:AGp.size<=9223372036854775807:=(by decide);have ar:ByteArray.empty.size<=9223372036854775807:=(by decide);unfold AGO;split
  · rename_i AE;exact⟨⟨rfl,by show 1<=o.Ca;omega,by show o.Ca<=5;omega,fun _=>by show 1<=1+KP o.B2 30;omega⟩,h.1,AHV,ar,(show A' (1+KP o.B2 30)from BV),LU,LU⟩
  · split
    · rename_i AE;exact⟨⟨rfl,by show 1<=o.Ca;omega,by show o.Ca<=5;omega,fun q=>by have q:o.Ca=1\/o.Ca=2:=q;omega⟩,h.1,AHV,ar,LU,(show A' (-KP o.A6 30)from BV),(show A' (KP o.Bc 30)from BV)⟩
    · split
      · rename_i AE;exact⟨⟨rfl,by show 1<=o.Ca;omega,by show o.Ca<=5;omega,fun q=>by have q:o.Ca=1\/o.Ca=2:=q;omega⟩,h.1,AHV,ar,LU,LU,LU⟩
      · exact AIH
theorem AJv{ops:List FL}(hw:∀o∈ops,o.wf){i:Nat}(h:i<ops.length):AGT (AHa ops i)/\(AHa ops i).wf:=by
  unfold AHa;split
  · exact AIH
  · exact AJo _ (hw _ (Hl h))
theorem AHb{ops:List FL}(hw:∀o∈ops,o.wf):∀i,i<(AGo ops).length->AGT ((AGo ops).getD i default)/\((AGo ops).getD i default).wf:=fun i Ag=>by
  rw[AGX]at Ag;rw[AHE Ag];exact AJv hw (by unfold AGu at Ag;omega)
def AGA(s:GC)(v:Int):List AGn:=if s=⟨0,0⟩/\v=0 then[]else[⟨AGp,s,v⟩]
theorem AIE(s:GC)(v:Int):AGq (AGA s v) AGp=⟨AGp,s,v⟩:=by
  by_cases h:s=⟨0,0⟩/\v=0
  · rw[AGA,if_pos h];obtain⟨rfl,rfl⟩:=h;rfl
  · rw[AGA,if_neg h,AGq,Tc (n:=[(⟨AGp,s,v⟩:AGn)].length) (j:=0) (Nat.succ_pos 0) (fun k AE=>absurd AE (Nat.not_lt_zero k)) (decide_eq_true rfl)];rfl
theorem AIT(s:GC)(v:Int)(DR:GC)(J4:Int):AHe (AGA s v) ⟨AGp,DR,J4⟩=AGA DR J4:=by
  have Fb:Ds AGp AGp=false:=(by kernel_rfl);have B4:AGC (AGA s v) AGp=[]:=by
    unfold AGA AGC;split
    · rfl
    · simp[Fb]
  have DC:AGG (AGA s v) AGp=[]:=by
    unfold AGA AGG;split
    · rfl
    · simp[Fb]
  rw[AHe];simp only[B4,DC,List.nil_append,List.append_nil,AGn.mk.injEq,true_and];rfl
theorem AI5{s:GC}{v:Int}{o:FL}(A7:AGT o)(hs:s.wf)(BC:A' v)(Ao:A' o.B2):AGZ (AGA s v) o=(AGA (AGN s v o).1 (AGN s v o).2.1,(AGN s v o).2.2):=by
  obtain⟨v1,v2⟩:=BC;obtain⟨HG,MF⟩:=Ao;obtain⟨⟨s1,s2⟩,IK,Jy⟩:=hs;have A1:=A7.A1;have Bd:=A7.Bd;unfold AGZ AGN;rw[A7.key,AIE];simp only;by_cases a:o.Ca=1\/o.Ca=2
  · have hs:AGU ⟨AGp,s,v⟩ o=v+signed o:=by
      unfold AGU signed;rcases a with a|a
      · rw[if_neg (by rw[a];decide),if_neg (by rw[a];decide)]
      · rw[if_pos a,if_pos a];rfl
    rw[if_pos a,if_neg (show ¬o.Ca=4 by omega),if_neg (show ¬o.Ca=3 by omega),if_neg (show ¬o.Ca=5 by omega),hs];have hm:AGP ⟨AGp,s,v⟩ (v+signed o)=if Rb s (v+signed o)=true then(⟨AGp,s,v+signed o⟩,true)else(⟨AGp,s,v⟩,false):=by
      unfold AGP;by_cases b:J3 (v+signed o)=true
      · have hw:IntKind.i64.wrap ((v+signed o) % 18446744073709551616)=v+signed o:=by
          simp only[J3,Bool.and_eq_true,decide_eq_true_eq]at b;rw[mC];omega
        simp only[hw,b];cases Rb s (v+signed o)<;>rfl
      · have BI:Rb s (v+signed o)=false:=by
          rw[Bool.eq_false_iff];intro q;simp only[Rb,Bool.and_eq_true,decide_eq_true_eq]at q;simp only[J3,Bool.and_eq_true,decide_eq_true_eq]at b;omega
        rw[Bool.not_eq_true]at b;rw[if_pos (by rw[b];rfl),if_neg (by rw[BI];decide)]
    rw[hm];by_cases c:Rb s (v+signed o)=true
    · rw[if_pos c,if_pos c];simp[AIT]
    · rw[if_neg c,if_neg c];simp
  · rw[if_neg a];by_cases b:o.Ca=4
    · rw[if_pos b,if_pos b]
    rw[if_neg b,if_neg b];by_cases c:o.Ca=3
    · rw[if_pos c,if_pos c]
    rw[if_neg c,if_neg c];have d:o.Ca=5:=(by omega);rw[if_pos d,if_pos d];by_cases e:Rb ⟨o.A6,o.Bc⟩ v=true
    · rw[if_pos e,if_pos e,AIT]
    · rw[if_neg e,if_neg e]
theorem AJt(os:List FL)(k:Nat):ApH (AGr os k) AGp=AGy k/\ApE (AGr os k) AGp=true:=by
  cases k with
  |zero=>exact⟨by kernel_rfl,by kernel_rfl⟩
  |succ k=>exact⟨by show ApH {AGr os 1 with AA:=AGF os (k+1)} AGp=AGy 1;kernel_rfl,by show ApE {AGr os 1 with AA:=AGF os (k+1)} AGp=true;kernel_rfl⟩
theorem AIz:AGz.wf:=by
  have h:=Aeq (n:=1) ⟨by decide,by decide⟩;obtain⟨a,_,b⟩:=h;exact⟨a,⟨by decide,by decide⟩,b⟩
theorem AHD(ops:List FL):AGu ops<=7/\AGu ops<=ops.length:=⟨Nat.min_le_right ..,Nat.min_le_left ..⟩
theorem AHX{ops:List FL}(h:0<AGu ops):((AGo ops).getD 0 default).Ca=4:=by rw[AHE h];rfl
theorem AJz{ops:List FL}(hw:∀o∈ops,o.wf){i:Nat}(h:i<AGu ops):Gc (AGr (AGo ops) i) (AGD (AGo ops) i) ((AGr (AGo ops) i).DX+1) 3=(AGr (AGo ops) (i+1),[],0)/\XO (F8 1) (AGr (AGo ops) i) (i+1)/\(AGD (AGo ops) i).wf:=by
  have AN:(AGo ops).length<=7:=(by rw[AGX];exact(AHD ops).1);have GY:=(AHD ops).1;have Bw:=AHX (ops:=ops) (by omega);have LY:=AHb hw;have Fy:=AHr LY Bw AN i (by rw[AGX];omega);have Ag:i<(AGo ops).length:=(by rw[AGX];exact h);have hs:=AIB (by omega) (LY i Ag).1 Bw (LY 0 (by omega)).1.key Fy;refine⟨?_,Fy,AId (by omega) (LY i Ag).2⟩;rw[show(2+(i:Int))=(AGr (AGo ops) i).DX+1 by show _=1+(i:Int)+1;omega]at hs;exact hs
theorem AI_(S:Bv):BF S.Aj AGp=(ApH S AGp,ApE S AGp):=by
  unfold BF ApE ApH ApM;split
  · rename_i j h;rw[h];rfl
  · rename_i h;rw[h];exact congrArg (·,false) (show(O9 AGp).1=Sq AGp from rfl)
theorem AHy{ops:List FL}(hw:∀o∈ops,o.wf){v:Int}(BC:Rb ⟨0,20⟩ v=true):∀i,i<=AGu ops->Rb (AGt (AGo ops) ⟨0,20⟩ v i).1 (AGt (AGo ops) ⟨0,20⟩ v i).2=true/\(AGt (AGo ops) ⟨0,20⟩ v i).1.wf
  |0,_=>⟨BC,show GC.wf ⟨0,20⟩from⟨⟨by decide,by decide⟩,⟨by decide,by decide⟩⟩⟩
  |i+1,h=>by
    obtain⟨a,b⟩:=AHy hw BC i (by omega);have LY:=(AHb hw i (by rw[AGX];omega)).2;rw[AGt];unfold AGN;split
    · exact⟨a,b⟩
    split
    · exact⟨a,b⟩
    split
    · split
      · rename_i q;exact⟨q,LY.2.2.2.2.1,LY.2.2.2.2.2⟩
      · exact⟨a,b⟩
    split
    · rename_i q;exact⟨q,b⟩
    · exact⟨a,b⟩
theorem AHT{s:GC}{v:Int}(h:Rb s v=true)(w:s.wf):A' v:=by
  obtain⟨⟨a,_⟩,_,b⟩:=w;simp only[Rb,Bool.and_eq_true,decide_eq_true_eq]at h;exact⟨by omega,by omega⟩
theorem AJT(s:GC)(v:Int):(AGA s v).length<=1000:=by
  unfold AGA;split
  · exact Nat.zero_le _
  · exact Nat.succ_le_of_lt (by decide)
theorem AJV{s:GC}{v:Int}(h:Rb s v=true)(w:s.wf):∀x∈AGA s v,x.wf:=fun x Ab=>by
  unfold AGA at Ab;split at Ab
  · cases Ab
  · rw[List.mem_singleton.1 Ab];exact⟨by show AGp.size<=_;decide,w,AHT h w⟩
theorem AJU{s:GC}{v:Int}(h:Rb s v=true):AHt (AGA s v)=true:=by
  unfold AGA;split
  · rfl
  · rename_i q;refine Nz.2 fun j Ay=>?_;obtain rfl:j=0:=(by have:j<1:=Ay;omega);have B4:Ix AGp=true:=(by decide);have DC:decide ((⟨AGp,s,v⟩:AGn)=⟨AGp,⟨0,0⟩,0⟩)=false:=decide_eq_false fun z=>q (by cases z;exact⟨rfl,rfl⟩);show(!AG5 [⟨AGp,s,v⟩] 0)=true;unfold AG5;show(!(((!Ix AGp|| !Rb s v)||decide ((⟨AGp,s,v⟩:AGn)=⟨AGp,⟨0,0⟩,0⟩))||_))=true;rw[B4,h,DC];rfl
theorem AJB{o:FL}(h:AGT o):AG6 (AGJ o)=true/\¬o.Ca=6:=by
  have A1:=h.A1;have Bd:=h.Bd;have e:AGJ o=o:=(by rw[AGJ,if_neg (by omega),if_neg (by omega)]);have B4:Ix o.Al=true:=(by rw[h.key];decide);refine⟨?_,by omega⟩;rw[e];unfold AG6 AHG AHH;rw[B4,if_neg (by simp only[Bool.or_eq_true,decide_eq_true_eq,Bool.not_true,Bool.false_eq_true,or_false];omega),if_neg (by
    simp only[Bool.or_eq_true,Bool.and_eq_true,decide_eq_true_eq];rintro⟨q,Ez⟩;have:=h.n (by omega);omega),decide_eq_false (show ¬o.Ca=6 by omega)]
  rfl
theorem AJx{ops:List FL}(hw:∀o∈ops,o.wf){v:Int}(BC:Rb ⟨0,20⟩ v=true){i:Nat}(h:i<AGu ops):
    AGZ (AGA (AGt (AGo ops) ⟨0,20⟩ v i).1 (AGt (AGo ops) ⟨0,20⟩ v i).2) ((AGo ops).getD i default)=(AGA (AGt (AGo ops) ⟨0,20⟩ v (i+1)).1 (AGt (AGo ops) ⟨0,20⟩ v (i+1)).2,AG3 (AGo ops) ⟨0,20⟩ v i):=by
  obtain⟨a,b⟩:=AHy hw BC i (by omega);have LY:=AHb hw i (by rw[AGX];omega);rw[AI5 LY.1 b (AHT a b) LY.2.2.2.2.1];rfl
theorem AIL{v:Int}(Sp:0<=v)(AHj:v<=5):(AG0 v).wf:=by
  have z:A' 0:=DW;have o:A' 1:=⟨by decide,by decide⟩;exact⟨⟨by show _<=(2:Int);decide,by show(2:Int)<=_;decide⟩,z,z,z,o,z,by show AGp.size<=_;decide,o,⟨by show _<=(2:Int);decide,by show(2:Int)<=_;decide⟩,⟨by show _<=v;omega,by show v<=_;omega⟩,trivial,⟨z,by show ByteArray.empty.size<=_;decide,by show ByteArray.empty.size<=_;decide,z,z,z⟩,⟨z,z,z,by show ByteArray.empty.size<=_;decide,by show ByteArray.empty.size<=_;decide,z,z⟩,trivial⟩
theorem AJD{ops:List FL}(hw:∀o∈ops,o.wf)(AH:0<AGu ops){v:Int}(Sp:0<=v)(AHj:v<=5):∃(S:Bv) (E:List FE),Gc (AGr (AGo ops) (AGu ops)) (AG0 v) ((AGr (AGo ops) (AGu ops)).DX+1) 3=(S,E,0)/\XO (F8 1) S (AGu ops+2)/\E.length=AGu ops/\(∀i,i<AGu ops->E.getD i default=⟨1,2+(i:Int),1,AG3 (AGo ops) ⟨0,20⟩ v i⟩)/\S.AA=[]/\
    (ApH S AGp).BT=(AGt (AGo ops) ⟨0,20⟩ v (AGu ops)).2/\(ApH S AGp).Cs=(AGt (AGo ops) ⟨0,20⟩ v (AGu ops)).1/\(ApH S AGp).Cn=0:=by
  have GY:=(AHD ops).1;have Ao:=AGX ops;have Bw:=AHX AH;have LY:=AHb hw;obtain⟨w,Dv,Ab,_,Cl⟩:=AJA LY Bw (by omega) (by omega) Sp AHj;have Fy:=AHr LY Bw (by omega) (AGu ops) (by omega);have Anp:EW=4611686018427387904:=rfl;have AJm:(AG0 v).wf:=AIL Sp AHj;rw[Ao]at Dv Ab Cl;have hs:=(Ah0 (c:=AG0 v) (nd:=3) Fy AJm (by decide) (by decide) (by omega)).2;rw[show(((AGu ops+1:Nat):Int)+1)=2+(AGu ops:Int)by omega,Cl]at hs;obtain⟨Ey,Ez,AhN,PM⟩:=AJy Dv (by omega) (by omega);rw[AI_]at Ez AhN PM;refine⟨w.rest.S,w.EF,?_,hs,?_,?_,Ey,Ez,AhN,PM⟩
  · rw[show(AGr (AGo ops) (AGu ops)).DX+1=2+(AGu ops:Int)by show 1+(AGu ops:Int)+1=_;omega];exact Cl
  · rw[Dv.EF,List.length_map,List.length_range]
  · intro i Ag;rw[Dv.EF,Go.A_.G3 (by rw[List.length_map,List.length_range];exact Ag)];simp
def AHM(i:Nat)(o:FL):Dg:={AGW with Ap:=2+(i:Int),Bn:=2,AM:=o}
theorem AI2(os:List FL)(i:Nat):AGD os i=AHM i (os.getD i default):=rfl
theorem ArE{α:Type}[Inhabited α]{l:List α}{i:Nat}(h:i<l.length):l.take i++[l.getD i default]=l.take (i+1):=by
  rw[List.take_succ_eq_append_getElem h,<-Go.A_.G3 h]
theorem AJu(os:List FL)(k:Nat):(AGr os k).AA.length=k:=by
  show(AGF os k).length=k;unfold AGF;rw[List.length_map,List.length_range]
theorem AID(CP:Value)(l:List AGn)(k:ByteArray):Cv AG 23 [CP,.string k] [⟨CP,l⟩] (.agg (AGv (AGq l k)).toArray):=by
  refine Aw.proof Tryz.func23 rfl 25 rfl rfl fun X w=>HP (q:=l.length<=9223372036854775807) (fun S w h=>L1 (h _ (List.mem_of_getElem? (i:=0) rfl))) fun AJh=>Am<|rg<|CT AHw rfl fun En=>Ac<|Am<|Am<|rg<|VQ rfl rfl<|Ac<|B5 ?_;refine Ji (σ:=Nat) [(0,_),(1,_),(4,_)] _ (fun i C=>(5,.int .i64 (i:Int))::C) (fun i=>i<=l.length/\(∀j,j<i->decide ((l.getD j default).Al=k)=false)) (fun i=>l.length-i) 0 ⟨rfl,rfl,rfl,trivial⟩ (Bg.cons 0 rfl Bg.nil) ⟨Nat.zero_le _,fun j Ay=>absurd Ay (Nat.not_lt_zero j)⟩ ⟨rfl,rfl,rfl,rfl,trivial⟩ ?_;rintro i ⟨Ag,C0⟩;refine Am<|Am<|rg<|An rfl rfl<|An rfl rfl<|C2 0 rfl rfl Tryz.underlying86 rfl fun Adl=>Ci rfl rfl rfl<|Ac<|B9 rfl (fun EO=>?_) (fun EO=>?_)
  ·
    refine AZ<|Am<|B5<|Am<|rg<|An rfl rfl<|An rfl rfl<|Qh 0 rfl rfl rfl AG9 (by omega) (Ly (d:=default) (by omega)) rfl fun PS=>IY (α:=AGn) (β:=ByteArray) 0 (fun x:AGn=>x.Al) rfl rfl AG1 AHI rfl fun Xk=>CQ 0 rfl rfl AGY rfl fun PV=>?_;refine An rfl rfl<|ze rfl rfl rfl<|Ac<|B9 rfl (fun ER=>?_) (fun ER=>?_)
    ·
      refine Am<|rg<|An rfl rfl<|An rfl rfl<|Qh 2 rfl rfl rfl AG9 (by omega) (Ly (d:=default) (by omega)) rfl fun SB=>Gi 0 rfl rfl AGB rfl fun LM mu=>?_;exact BZ 0 (us:=(AGv ((l.getD i default)))) rfl rfl rfl AGB rfl rfl<|Ac<|rt<|C9<|Cd<|Cd<|C9<|Cd<|D8 () [_] (Qv 0 rfl rfl rfl AGB) (by rw[AGq,Tc (by omega) C0 (by simpa using ER)]) rfl Bg.nil
    ·
      refine EG<|CU<|A5<|rg<|An rfl rfl<|C5 rfl rfl BV rfl<|VQ rfl rfl<|nl ?_;exact Dy (i+1) ⟨(by omega),(Ki C0 (by simpa using ER))⟩ (by omega) ⟨rfl,rfl,rfl,rfl,trivial⟩ rfl (Bg.cons 2 rfl Bg.nil)
  · exact ex<|Ck<|Ck<|D7<|A5<|Am<|rg<|An rfl rfl<|Db (ps:=[(0,.tmp 23)]) (cs:=(AGv (({Al:=k,Cs:=({A6:=0,Bc:=0}:GC),JM:=0}:AGn)))) (by rfl) (by kernel_rfl) rfl<|BZ 0 (us:=(AGv (({Al:=k,Cs:=({A6:=0,Bc:=0}:GC),JM:=0}:AGn)))) rfl rfl rfl AGB rfl rfl<|Ac<|rt<|D8 () [_] (Qv 0 rfl rfl rfl AGB) (by rw[AGq,Tb (fun j Ay=>C0 j (by omega))]) rfl Bg.nil
theorem AJ4(CP:Value)(l:List AGn):Cv AG 55 [CP] [⟨CP,l⟩] (.bool (AHt l)):=by
  refine Aw.proof Tryz.func55 rfl 49 rfl rfl fun X w=>HP (q:=l.length<=9223372036854775807) (fun S w h=>L1 (h _ (List.mem_of_getElem? (i:=0) rfl))) fun AJh=>Am<|rg<|VQ rfl rfl<|Ac<|Am<|Am<|rg<|VQ rfl rfl<|Ac<|B5 ?_;refine Ji (σ:=Nat) [(0,_)] _ (fun i C=>(3,.int .i64 (i:Int))::C) (fun i=>i<=l.length/\(∀j,j<i->AG5 l j=false)) (fun i=>l.length-i) 0 ⟨rfl,trivial⟩ (Bg.cons 0 rfl Bg.nil) ⟨Nat.zero_le _,fun j Ay=>absurd Ay (Nat.not_lt_zero j)⟩ ⟨rfl,rfl,trivial⟩ ?_;rintro i ⟨Ag,C0⟩;refine Am<|Am<|rg<|An rfl rfl<|An rfl rfl<|C2 0 rfl rfl Tryz.underlying86 rfl fun MD=>Ci rfl rfl rfl<|Ac<|B9 rfl (fun D2=>?_) (fun D2=>?_)
  ·
    refine AZ<|Am<|B5<|Am<|rg<|An rfl rfl<|An rfl rfl<|Qh 0 rfl rfl rfl AG9 (by omega) (Ly (d:=default) (by omega)) rfl fun RA=>Gi 0 rfl rfl AGB rfl fun MI SE=>?_;refine CT AHw rfl fun En=>BZ 0 (us:=(AGv ((l.getD i default)))) rfl rfl rfl AGB rfl rfl<|Ac<|Am<|Gx mixed (by kernel_rfl)<|UG rfl AG1 rfl<|ME 0 rfl rfl AGY rfl rfl<|HD (Avz _) (Ar G) rfl Bg.nil rfl<|IH rfl rfl<|An rfl rfl ?_;apply AnJ [(0,_),(3,_),(4,_)] ⟨rfl,rfl,rfl,trivial⟩
    ·
      intro gZ;refine tt (i:=19) rfl (fun Fe=>?_) (fun Fe=>?_)
      · exact Bl rfl rfl rfl<|UG rfl AHn rfl<|Bl rfl rfl rfl<|BJ 0 (Od ((l.getD i default).Cs)) rfl rfl AHk rfl rfl<|Bl rfl rfl rfl<|UG rfl AHo rfl<|Bl rfl rfl rfl<|ME 0 rfl rfl AGx rfl rfl<|Bl rfl rfl rfl<|HD (Aw2 _ _ SE.2.1 SE.2.2) (Ar G) rfl Bg.nil rfl<|Bl rfl rfl rfl<|IH rfl rfl<|Ahj rfl rfl rfl<|qx gZ Fe ⟨rfl,rfl,rfl,trivial⟩ Bg.refl
      · exact AGQ (g:=[_,_,_,_,_,_]) rfl<|Ahk rfl rfl rfl<|qy gZ Fe ⟨rfl,rfl,rfl,trivial⟩ Bg.refl
    refine An rfl rfl ?_;apply AnJ [(0,_),(3,_),(4,_)] ⟨rfl,rfl,rfl,trivial⟩
    ·
      intro g0;refine tt (i:=27) rfl (fun G4=>?_) (fun G4=>?_)
      · exact Bl rfl rfl rfl<|BJ 0 (AGv ((l.getD i default))) rfl rfl AGB rfl rfl<|Bl rfl rfl rfl<|UG rfl AG1 rfl<|Bl rfl rfl rfl<|ME 0 rfl rfl AGY rfl rfl<|Bl rfl rfl rfl<|dC (ps:=[(0,.tmp 30)]) (cs:=(AGv (({Al:=(l.getD i default).Al,Cs:=({A6:=0,Bc:=0}:GC),JM:=0}:AGn)))) (by rfl) (by kernel_rfl) rfl<|Bl rfl rfl rfl<|RU AIg ((l.getD i default)) (({Al:=(l.getD i default).Al,Cs:=({A6:=0,Bc:=0}:GC),JM:=0}:AGn)) rfl rfl rfl<|Ahj rfl rfl rfl<|qx g0 G4 ⟨rfl,rfl,rfl,trivial⟩ Bg.refl
      · exact AGQ (g:=[_,_,_,_,_]) rfl<|Ahk rfl rfl rfl<|qy g0 G4 ⟨rfl,rfl,rfl,trivial⟩ Bg.refl
    refine An rfl rfl ?_;apply AnJ [(0,_),(3,_)] ⟨rfl,rfl,trivial⟩
    ·
      intro VG;refine tt (i:=34) rfl (fun FN=>?_) (fun FN=>?_)
      ·
        have Aob:=FN;try simp only[Bool.or_eq_false_iff,Bool.and_eq_true,decide_eq_true_eq,decide_eq_false_iff_not,Bool.not_eq_true',Bool.not_eq_false']at Aob
        refine Bl rfl rfl rfl<|An rfl rfl<|Bl rfl rfl rfl<|AaD rfl rfl rfl<|Bl rfl rfl rfl<|An rfl rfl ?_;apply AnJ [(0,_),(3,_),(34,_)] ⟨rfl,rfl,rfl,trivial⟩
        ·
          intro AvY;refine ts (i:=37) rfl (fun M5=>?_) (fun M5=>?_)
          ·
            have r5:=of_decide_eq_true M5;refine Bl rfl rfl rfl<|UG rfl AG1 rfl<|Bl rfl rfl rfl<|ME 0 rfl rfl AGY rfl rfl<|Bl rfl rfl rfl<|An rfl rfl<|Bl rfl rfl rfl<|An rfl rfl<|Bl rfl rfl rfl<|TU rfl rfl BV rfl<|Bl rfl rfl rfl<|Qh 2 rfl rfl rfl AG9 (by omega) (Ly (d:=default) (by omega)) rfl fun cS=>Bl rfl rfl rfl<|IY (α:=AGn) (β:=ByteArray) 0 (fun x:AGn=>x.Al) rfl rfl AG1 AHI rfl fun AkG=>?_;refine Bl rfl rfl rfl<|CQ 0 rfl rfl AGY rfl fun AvH=>?_;exact Bl rfl rfl rfl<|j2 rfl rfl rfl<|Bl rfl rfl rfl<|Ahk rfl rfl rfl<|qv AvY M5 ⟨rfl,rfl,rfl,trivial⟩ (Bg.tail (Bg.tail Bg.refl))
          · exact AGQ (g:=[_,_,_,_,_,_,_,_,_]) rfl<|Bl rfl rfl rfl<|Ahj rfl rfl rfl<|qw AvY M5 ⟨rfl,rfl,rfl,trivial⟩ Bg.refl
        exact Ahj rfl rfl rfl<|qx VG FN ⟨rfl,rfl,trivial⟩ Bg.refl
      · exact AGQ (g:=[_,_,_,_,_,_,_,_,_,_,_,_,_]) rfl<|Ahk rfl rfl rfl<|qy VG FN ⟨rfl,rfl,trivial⟩ Bg.refl
    refine Gj<|A5<|BN rfl (fun aH=>?_) (fun aH=>?_)
    ·
      have AJ2:AHt l=false:=AIX (i:=i) (by omega) (by simpa[AG5,fc]using aH);refine Am<|rg<|VQ rfl rfl<|Ac<|rt<|C9<|Cd<|Cd<|C9<|Cd<|AQ ?_;exact Bq () rfl rfl (by exact congrArg Value.bool AJ2.symm) rfl Bg.nil
    ·
      refine EG<|CU<|A5<|rg<|An rfl rfl<|C5 rfl rfl BV rfl<|VQ rfl rfl<|nl<|AQ ?_;exact Dy (i+1) ⟨(by omega),(Ki C0 (by simpa[AG5,fc]using aH))⟩ (by omega) ⟨rfl,rfl,trivial⟩ rfl (Bg.cons 2 rfl Bg.nil)
  ·
    have HZ:AHt l=true:=Nz.2 fun j Ay=>by rw[C0 j (by omega)];rfl
    refine ex<|Ck<|Ck<|D7<|A5<|Am<|rg<|VQ rfl rfl<|Ac<|rt ?_;exact Bq () rfl rfl (by exact congrArg Value.bool HZ.symm) rfl Bg.nil
theorem AJE(t:AGn)(S:Int)(Abe:t.wf)(BO:mW S):Cv AG 59 [.agg (AGv t).toArray,.agg (AuI (wide S)).toArray] [] (.tuple #[.agg (AGv (AGP t S).1).toArray,.bool (AGP t S).2]):=by
  refine Aw.proof Tryz.func59 rfl 26 rfl rfl fun X w=>?_;obtain⟨ALe,ALf⟩:=Alo (S % 18446744073709551616);refine Am<|rg<|CV rfl rfl rfl fun Dh=>CV rfl rfl rfl fun DQ=>CT AHw rfl fun En=>VQ rfl rfl<|Ac<|Am<|rg<|BJ 1 (AuI ((wide S))) rfl rfl AHJ rfl rfl<|B0 (AAp S BO) (Ar G) rfl Bg.nil rfl<|An rfl rfl<|Ec rfl rfl rfl ?_;refine Ec rfl rfl rfl<|VQ rfl rfl<|VQ rfl rfl<|Ac<|Am<|Am<|rg<|An rfl rfl<|IH rfl rfl<|An rfl rfl ?_;apply AnJ [(2,_),(4,_),(6,_)] ⟨rfl,rfl,rfl,trivial⟩
  ·
    intro SS;refine tt (i:=15) rfl (fun Ft=>?_) (fun Ft=>?_)
    · exact Bl rfl rfl rfl<|UG rfl AHn rfl<|Bl rfl rfl rfl<|BJ 2 (Od t.Cs) rfl rfl AHk rfl rfl<|Bl rfl rfl rfl<|An rfl rfl<|Bl rfl rfl rfl<|B0 (Aw2 _ _ Abe.2.1 BV) (Ar G) rfl Bg.nil rfl<|Bl rfl rfl rfl<|IH rfl rfl<|Ahj rfl rfl rfl<|qx SS Ft ⟨rfl,rfl,rfl,trivial⟩ Bg.refl
    · exact AGQ (g:=[_,_,_,_,_]) rfl<|Ahk rfl rfl rfl<|qy SS Ft ⟨rfl,rfl,rfl,trivial⟩ Bg.refl
  refine Ac<|BN rfl (fun E1=>?_) (fun E1=>?_)
  ·
    have e:AGP t S=(t,false):=if_pos E1;exact Am<|rg<|BJ 2 (AGv t) rfl rfl AGB rfl rfl<|BZ 0 (us:=(AGv t)) rfl rfl rfl AGB rfl rfl<|VQ rfl rfl<|Ac<|BA<|D8 () [_,_,_] (Fp 0 rfl rfl rfl rfl AGB) (by rw[e]) rfl Bg.nil
  ·
    have e:AGP t S=({t with JM:=(IntKind.i64.wrap (S % 18446744073709551616))},true):=if_neg (by rw[E1];decide);refine AZ<|Am<|rg<|An rfl rfl<|UG rfl AHo rfl<|Fi 2 rfl rfl rfl AGx rfl (Nat.lt_of_lt_of_le (Nat.lt_succ_self _) (Nat.le_of_ble_eq_true rfl))<|Ac<|Am<|rg<|BJ 2 (AGv (({t with JM:=(IntKind.i64.wrap (S % 18446744073709551616))}:AGn))) rfl rfl AGB rfl rfl<|BZ 0 (us:=(AGv (({t with JM:=(IntKind.i64.wrap (S % 18446744073709551616))}:AGn)))) rfl rfl rfl AGB rfl rfl<|VQ rfl rfl ?_;exact Ac<|rt<|D8 () [_,_,_] (Fp 0 rfl rfl rfl rfl AGB) (by rw[e]) rfl Bg.nil
theorem AIS(CP:Value)(l:List AGn)(t:AGn)(Abe:t.wf)(AN:l.length<=1000):Aw AG 60 [CP,.agg (AGv t).toArray] [] [⟨CP,l⟩] (fun(_:Unit) _=>True) (fun _ _=>[]) (fun _ v=>[⟨v,AHe l t⟩]):=by
  refine Aw.proof Tryz.func60 rfl 56 rfl rfl fun X w=>Am<|rg<|CV rfl rfl rfl fun DQ=>VQ rfl rfl<|Ac<|Am<|rg<|VQ rfl rfl<|VQ rfl rfl<|Ac<|Am ?_;refine Am<|Lk AGn 85<|Lk AGn 85<|rg<|VQ rfl rfl<|Ac<|B5<|Hx (σ:=Nat×Value×Value) [(0,_),(3,_)] _ (fun s C=>(7,.int .i64 (s.1:Int))::(5,s.2.1)::(6,s.2.2)::C) (fun s=>[@row AGn AGE 85 s.2.1 (AGC (l.take s.1) t.Al),@row AGn AGE 85 s.2.2 (AGG (l.take s.1) t.Al),AO DQ 85 (AGv t),CL X w]) (fun _ Dw=>Dw) (fun s=>s.1<=l.length) (fun s=>l.length-s.1) (0,AI,AI) ⟨rfl,rfl,trivial⟩ (Bg.cons 0 rfl Bg.nil) (Nat.zero_le _) ⟨rfl,rfl,rfl,rfl,rfl,trivial⟩ rfl (Bg.cons 0 rfl Bg.nil) ?_;rintro⟨i,AHK,uj⟩ Ag;simp only at Ag;show CF _ _ _ [(7,.int .i64 ((i:Int))),(5,_),(6,_),(0,_),(3,_)] [@row AGn AGE 85 AHK (AGC (l.take i) t.Al),@row AGn AGE 85 uj (AGG (l.take i) t.Al),AO DQ 85 (AGv t),CL X w] _;refine Am<|Am<|rg<|An rfl rfl<|An rfl rfl<|C2 0 rfl rfl Tryz.underlying86 rfl fun Ade=>Ci rfl rfl rfl<|Ac<|B9 rfl (fun Ct=>?_) (fun Ct=>?_)
  ·
    have C_:i<l.length:=(by simpa using Ct);refine AZ<|Am<|B5<|Am<|Am<|Gx mixed (by kernel_rfl)<|An rfl rfl<|An rfl rfl<|Qh 0 rfl rfl rfl AG9 (by omega) (Ly (d:=default) (by omega)) rfl fun Mn=>IY (α:=AGn) (β:=ByteArray) 0 (fun x:AGn=>x.Al) rfl rfl AG1 AHI rfl fun T6=>CQ 0 rfl rfl AGY rfl fun cX=>?_;refine UG rfl AG1 rfl<|ME 2 rfl rfl AGY rfl rfl<|Ad7 rfl rfl rfl<|Gj<|A5<|qA (σ:=Value) [(0,_),(3,_),(6,_),(7,_)] _ (fun s C=>(5,s)::C) (fun s=>[@row AGn AGE 85 s (AGC (l.take (i+1)) t.Al),@row AGn AGE 85 uj (AGG (l.take i) t.Al),AO DQ 85 (AGv t),CL X w]) (fun s=>True) ⟨rfl,rfl,rfl,rfl,trivial⟩ (Bg.cons 2 rfl Bg.nil) ?_ ?_
    ·
      refine BN rfl (fun E1=>?_) (fun E1=>?_)
      ·
        refine rg<|An rfl rfl<|An rfl rfl<|An rfl rfl<|Qh 2 rfl rfl rfl AG9 (by omega) (Ly (d:=default) (by omega)) rfl fun T7=>Gi 0 rfl rfl AGB rfl fun Rq mv=>?_;refine Lw rfl AG4 rfl rfl rfl rfl fun Amd=>KJ (α:=AGn) (l.getD i default) (fun S w h=>⟨(),rfl,by simp,mv⟩)<|ap 0 0 rfl rfl rfl rfl AG4 (by have Rt:(AGC (l.take i) t.Al).length<=(l.take i).length:=List.length_filter_le ..;have:=List.length_take_le i l;simp only[List.length_cons,List.length_nil];omega) (by have Rt:(AGC (l.take i) t.Al).length<=(l.take i).length:=List.length_filter_le ..;have:=List.length_take_le i l;simp only[List.length_cons,List.length_nil];omega) rfl fun Pg=>VQ rfl rfl<|nl ?_;rw[show AGC (l.take i) t.Al++[l.getD i default]=AGC (l.take (i+1)) t.Al from AIi C_ E1];exact e9 Pg trivial ⟨rfl,rfl,rfl,rfl,rfl,trivial⟩ rfl (Bg.cons 5 rfl Bg.nil)
      ·
        refine EG ?_;rw[show AGC (l.take i) t.Al=AGC (l.take (i+1)) t.Al from AIh C_ E1];exact e9 AHK trivial ⟨rfl,rfl,rfl,rfl,rfl,trivial⟩ rfl (Bg.cons 2 rfl Bg.nil)
    ·
      intro AHL _;show Eg _ _ _ [(5,_),(0,_),(3,_),(6,_),(7,_)] [@row AGn AGE 85 AHL (AGC (l.take (i+1)) t.Al),@row AGn AGE 85 uj (AGG (l.take i) t.Al),AO DQ 85 (AGv t),CL X w] _;refine A5<|Am<|Gx mixed (by kernel_rfl)<|An rfl rfl<|An rfl rfl<|Qh 0 rfl rfl rfl AG9 (by omega) (Ly (d:=default) (by omega)) rfl fun L5=>IY (α:=AGn) (β:=ByteArray) 0 (fun x:AGn=>x.Al) rfl rfl AG1 AHI rfl fun OC=>CQ 0 rfl rfl AGY rfl fun AA7=>?_;refine UG rfl AG1 rfl<|ME 2 rfl rfl AGY rfl rfl<|AaE rfl rfl rfl<|Gj<|A5<|qA (σ:=Value) [(0,_),(3,_),(5,_),(7,_)] _ (fun s C=>(6,s)::C) (fun s=>[@row AGn AGE 85 AHL (AGC (l.take (i+1)) t.Al),@row AGn AGE 85 s (AGG (l.take (i+1)) t.Al),AO DQ 85 (AGv t),CL X w]) (fun s=>True) ⟨rfl,rfl,rfl,rfl,trivial⟩ (Bg.cons 2 rfl Bg.nil) ?_ ?_
      ·
        refine BN rfl (fun K6=>?_) (fun K6=>?_)
        ·
          refine rg<|An rfl rfl<|An rfl rfl<|An rfl rfl<|Qh 2 rfl rfl rfl AG9 (by omega) (Ly (d:=default) (by omega)) rfl fun AoL=>Gi 0 rfl rfl AGB rfl fun Aop Ao7=>?_;refine Lw rfl AG4 rfl rfl rfl rfl fun Amj=>KJ (α:=AGn) (l.getD i default) (fun S w h=>⟨(),rfl,by simp,Ao7⟩)<|ap 1 0 rfl rfl rfl rfl AG4 (by have Rt:(AGG (l.take i) t.Al).length<=(l.take i).length:=List.length_filter_le ..;have:=List.length_take_le i l;simp only[List.length_cons,List.length_nil];omega) (by have Rt:(AGG (l.take i) t.Al).length<=(l.take i).length:=List.length_filter_le ..;have:=List.length_take_le i l;simp only[List.length_cons,List.length_nil];omega) rfl fun cS=>VQ rfl rfl<|nl ?_;rw[show AGG (l.take i) t.Al++[l.getD i default]=AGG (l.take (i+1)) t.Al from AIi C_ K6];exact e9 cS trivial ⟨rfl,rfl,rfl,rfl,rfl,trivial⟩ rfl (Bg.cons 5 rfl Bg.nil)
        ·
          refine EG ?_;rw[show AGG (l.take i) t.Al=AGG (l.take (i+1)) t.Al from AIh C_ K6];exact e9 uj trivial ⟨rfl,rfl,rfl,rfl,rfl,trivial⟩ rfl (Bg.cons 2 rfl Bg.nil)
      ·
        intro AIQ _;show Eg _ _ _ [(6,_),(0,_),(3,_),(5,_),(7,_)] [@row AGn AGE 85 AHL (AGC (l.take (i+1)) t.Al),@row AGn AGE 85 AIQ (AGG (l.take (i+1)) t.Al),AO DQ 85 (AGv t),CL X w] _;refine CU<|A5<|rg<|An rfl rfl<|C5 rfl rfl BV rfl<|VQ rfl rfl<|nl ?_;exact Dy ((i+1,AHL,AIQ):Nat×Value×Value) (by show i+1<=_;omega) (by show l.length-(i+1)<l.length-i;omega) ⟨rfl,rfl,rfl,rfl,rfl,trivial⟩ rfl (Bg.cons 0 rfl Bg.nil)
  ·
    obtain rfl:i=l.length:=(by omega);rw[List.take_length];have Qa:(AGC l t.Al).length<=l.length:=List.length_filter_le ..;have PB:(AGG l t.Al).length<=l.length:=List.length_filter_le ..;refine ex<|Ck<|Ck<|D7<|A5<|Am<|Am<|rg<|BJ 2 (AGv t) rfl rfl AGB rfl rfl<|UG rfl AG1 rfl<|ME 2 rfl rfl AGY rfl rfl<|Db (ps:=[(0,.tmp 46)]) (cs:=(AGv (({Al:=t.Al,Cs:=({A6:=0,Bc:=0}:GC),JM:=0}:AGn)))) (by rfl) (by kernel_rfl) rfl<|Qo AIg (t) (({Al:=t.Al,Cs:=({A6:=0,Bc:=0}:GC),JM:=0}:AGn)) rfl rfl rfl<|nl ?_;refine A5<|qA (σ:=Value) [(6,_)] _ (fun s C=>(5,s)::C) (fun s=>[@row AGn AGE 85 s (AGC l t.Al++if t=⟨t.Al,⟨0,0⟩,0⟩then[]else[t]),@row AGn AGE 85 uj (AGG l t.Al),AO DQ 85 (AGv t),CL X w]) (fun s=>True) ⟨rfl,trivial⟩ (Bg.cons 0 rfl Bg.nil) ?_ ?_
    ·
      refine Fa rfl (fun aH=>?_) (fun aH=>?_)
      · exact rg<|An rfl rfl<|BJ 2 (AGv t) rfl rfl AGB rfl rfl<|Lw rfl AG4 rfl rfl rfl rfl fun Aml=>KJ (α:=AGn) t (fun S w h=>⟨(),rfl,by simp,Abe⟩)<|ap 0 0 rfl rfl rfl rfl AG4 (by simp only[List.length_cons,List.length_nil];omega) (by simp only[List.length_cons,List.length_nil];omega) rfl fun AIO=>VQ rfl rfl<|nl<|e9 AIO trivial ⟨rfl,rfl,trivial⟩ (congrArg (fun AH5:List AGn=>[@row AGn AGE 85 AIO AH5,@row AGn AGE 85 uj (AGG l t.Al),AO DQ 85 (AGv t),CL X w]) (show(AGC l t.Al++if t=⟨t.Al,⟨0,0⟩,0⟩then[]else[t])=AGC l t.Al++[t]by rw[if_neg (by simpa using aH)])) (Bg.cons 1 rfl Bg.nil)
      · exact EG<|e9 AHK trivial ⟨rfl,rfl,trivial⟩ (congrArg (fun AH5:List AGn=>[@row AGn AGE 85 AHK AH5,@row AGn AGE 85 uj (AGG l t.Al),AO DQ 85 (AGv t),CL X w]) (show(AGC l t.Al++if t=⟨t.Al,⟨0,0⟩,0⟩then[]else[t])=AGC l t.Al by rw[if_pos (by simpa using aH),List.append_nil])) (Bg.cons 0 rfl Bg.nil)
    ·
      intro AKm _;show Eg _ _ _ [(5,_),(6,_)] [@row AGn AGE 85 AKm (AGC l t.Al++if t=⟨t.Al,⟨0,0⟩,0⟩then[]else[t]),@row AGn AGE 85 uj (AGG l t.Al),AO DQ 85 (AGv t),CL X w] _;refine A5<|Am<|rg<|An rfl rfl<|An rfl rfl ?_;have a5:(AGC l t.Al++if t=⟨t.Al,⟨0,0⟩,0⟩then[]else[t]).length<=1001:=by
        rw[List.length_append];split
        · simp only[List.length_nil];omega
        · simp only[List.length_cons,List.length_nil];omega
      exact nk 0 1 rfl rfl rfl rfl AG4 (by omega) (by omega) rfl fun ug=>VQ rfl rfl<|Ac<|rt<|K5<|AQ<|AQ<|Bq () rfl rfl trivial rfl (Bg.cons 0 rfl Bg.nil)
theorem AJp(o:FL)(Tl:o.wf):Cv AG 21 [.agg (MZ o).toArray] [] (.agg (MZ (AGO o)).toArray):=by
  refine Aw.proof Tryz.func21 rfl 44 rfl rfl fun X w=>?_;obtain⟨AKW,AKX⟩:=AHi o.B2;obtain⟨AKS,AKT⟩:=AHi o.A6;obtain⟨Tp,Jf⟩:=AHi o.Bc;refine Am<|rg<|CV rfl rfl rfl fun CY=>CT vt rfl fun Dh=>Ac<|Am<|rg<|Db (ps:=[(0,.const (.int .i64 4)),(1,_)]) (cs:=MZ AGw) (by rfl) (by kernel_rfl) rfl<|CT vt rfl fun DQ=>BZ 0 (us:=(MZ AGw)) rfl rfl rfl AGS rfl rfl<|Ac<|Am ?_;refine Am<|rg<|UG rfl AHg rfl<|ME 2 rfl rfl AGx rfl rfl<|Ac<|B5<|Am<|Am<|rg<|zc rfl rfl rfl<|VQ rfl rfl<|Ac ?_;refine qA (σ:=Bool) [(1,_),(2,_),(3,_),(6,_)] _ (fun s C=>(7,.bool s)::C) (fun s=>[AO DQ 33 (MZ AGw),AO Dh 33 [.int .i64 0,.string ByteArray.empty,.string ByteArray.empty,.int .i64 0,.int .i64 0,.int .i64 0],AO CY 33 (MZ o),CL X w]) (fun s=>(s=true↔o.Ca=1\/o.Ca=2)) ⟨rfl,rfl,rfl,rfl,trivial⟩ Bg.nil ?_ ?_
  ·
    refine B9 rfl (fun GY=>?_) (fun GY=>?_)
    · exact EG<|e9 (decide (o.Ca=1)) ⟨fun _=>.inl GY,fun _=>decide_eq_true GY⟩ ⟨rfl,rfl,rfl,rfl,rfl,trivial⟩ rfl Bg.nil
    · exact rg<|zc rfl rfl rfl<|VQ rfl rfl<|nl<|e9 (decide (o.Ca=2)) ⟨fun q=>.inr (of_decide_eq_true q),fun q=>decide_eq_true (by omega)⟩ ⟨rfl,rfl,rfl,rfl,rfl,trivial⟩ rfl Bg.nil
  ·
    intro Bi AHB;show Eg _ _ _ [(7,_),(1,_),(2,_),(3,_),(6,_)] [AO DQ 33 (MZ AGw),AO Dh 33 [.int .i64 0,.string ByteArray.empty,.string ByteArray.empty,.int .i64 0,.int .i64 0,.int .i64 0],AO CY 33 (MZ o),CL X w] _;refine A5<|qA (σ:=FL) [(2,_),(3,_)] _ (fun s C=>C) (fun s=>[AO DQ 33 (MZ s),AO Dh 33 [.int .i64 0,.string ByteArray.empty,.string ByteArray.empty,.int .i64 0,.int .i64 0,.int .i64 0],AO CY 33 (MZ o),CL X w]) (fun s=>s=AGO o) ⟨rfl,rfl,trivial⟩ Bg.nil ?_ ?_
    ·
      refine BN rfl (fun GY=>?_) (fun GY=>?_)
      ·
        refine AuG [] [(0,[(9,.f0 (AO DQ 33 [.int .i64 o.Ca,.string AGw.Al,.string AGw.EL,.int .i64 AGw.B2,.int .i64 AGw.A6,.int .i64 AGw.Bc])),(11,.f0 (AO DQ 33 [.int .i64 o.Ca,.string AGw.Al,.string AGw.EL,.int .i64 ((1+(KP o.B2 30))),.int .i64 AGw.A6,.int .i64 AGw.Bc]))])] [(4,DF [] (.int .u64 (IntKind.u64.wrap o.B2))),(5,DF [] (.int .u64 (KP o.B2 30))),(6,DF [] (.int .i64 ((KP o.B2 30)))),(7,DF [] (.int .i64 ((1+(KP o.B2 30))))),(9,DF [0] undef),(11,DF [0] undef)] [(1,2),(3,2)] [2,3] (fun _=>rfl) (fun _=>rfl) (fun Ai AV Az=>⟨fun _=>?_,fun _=>?_,fun _=>?_,fun _=>?_,fun _=>?_,fun _=>?_,trivial⟩) fun Ai _=>?_
        · exact F0 Tryz.underlying3 Tryz.underlying61 rfl (r:=IntKind.u64.wrap o.B2) rfl rfl<|BU [] [] 0 rfl rfl
        · exact k' rfl rfl (by decide) (r:=KP o.B2 30) rfl rfl<|BU [] [] 0 rfl rfl
        · exact F0 Tryz.underlying61 Tryz.underlying3 rfl (Uf ⟨by omega,by omega⟩) rfl<|BU [] [] 0 rfl rfl
        · exact C5 rfl rfl BV rfl<|BU [] [] 0 rfl rfl
        · exact Fi 0 rfl rfl rfl AGx rfl (Nat.lt_of_lt_of_le (Nat.lt_succ_self _) (Nat.le_of_ble_eq_true rfl))<|BU [] [] 0 rfl rfl
        · exact Fi 0 rfl rfl rfl AGx rfl (Nat.lt_of_lt_of_le (Nat.lt_succ_self _) (Nat.le_of_ble_eq_true rfl))<|BU [] [] 0 rfl rfl
        · exact e9 ({AGw with Ca:=o.Ca,B2:=1+KP o.B2 30}:FL) (by rw[AGO,if_pos (AHB.1 GY)]) ⟨rfl,rfl,trivial⟩ rfl Bg.nil
      ·
        refine Am<|rg<|zc rfl rfl rfl<|VQ rfl rfl<|Ac<|B9 rfl (fun HQ=>?_) (fun HQ=>?_)
        ·
          refine AuG [] [(0,[(14,.f0 (AO DQ 33 [.int .i64 o.Ca,.string AGw.Al,.string AGw.EL,.int .i64 AGw.B2,.int .i64 AGw.A6,.int .i64 AGw.Bc])),(16,.f0 (AO DQ 33 [.int .i64 o.Ca,.string AGw.Al,.string AGw.EL,.int .i64 AGw.B2,.int .i64 ((-(KP o.A6 30))),.int .i64 AGw.Bc])),(18,.f0 (AO DQ 33 [.int .i64 o.Ca,.string AGw.Al,.string AGw.EL,.int .i64 AGw.B2,.int .i64 ((-(KP o.A6 30))),.int .i64 ((KP o.Bc 30))]))])] [(4,DF [] (.int .u64 (IntKind.u64.wrap o.A6))),(5,DF [] (.int .u64 (KP o.A6 30))),(6,DF [] (.int .i64 ((KP o.A6 30)))),(7,DF [] (.int .i64 ((-(KP o.A6 30))))),(10,DF [] (.int .u64 (IntKind.u64.wrap o.Bc))),(11,DF [] (.int .u64 (KP o.Bc 30))),(12,DF [] (.int .i64 ((KP o.Bc 30)))),(14,DF [0] undef),(16,DF [0] undef),(18,DF [0] undef)] [(1,2),(3,2),(9,2)] [2,3] (fun _=>rfl) (fun _=>rfl) (fun Ai AV Az=>⟨fun _=>?_,fun _=>?_,fun _=>?_,fun _=>?_,fun _=>?_,fun _=>?_,fun _=>?_,fun _=>?_,fun _=>?_,fun _=>?_,trivial⟩) fun Ai _=>?_
          · exact F0 Tryz.underlying3 Tryz.underlying61 rfl (r:=IntKind.u64.wrap o.A6) rfl rfl<|BU [] [] 0 rfl rfl
          · exact k' rfl rfl (by decide) (r:=KP o.A6 30) rfl rfl<|BU [] [] 0 rfl rfl
          · exact F0 Tryz.underlying61 Tryz.underlying3 rfl (Uf ⟨by omega,by omega⟩) rfl<|BU [] [] 0 rfl rfl
          · exact fl rfl BV rfl<|BU [] [] 0 rfl rfl
          · exact F0 Tryz.underlying3 Tryz.underlying61 rfl (r:=IntKind.u64.wrap o.Bc) rfl rfl<|BU [] [] 0 rfl rfl
          · exact k' rfl rfl (by decide) (r:=KP o.Bc 30) rfl rfl<|BU [] [] 0 rfl rfl
          · exact F0 Tryz.underlying61 Tryz.underlying3 rfl (Uf ⟨by omega,by omega⟩) rfl<|BU [] [] 0 rfl rfl
          · exact Fi 0 rfl rfl rfl AGx rfl (Nat.lt_of_lt_of_le (Nat.lt_succ_self _) (Nat.le_of_ble_eq_true rfl))<|BU [] [] 0 rfl rfl
          · exact Fi 0 rfl rfl rfl AGx rfl (Nat.lt_of_lt_of_le (Nat.lt_succ_self _) (Nat.le_of_ble_eq_true rfl))<|BU [] [] 0 rfl rfl
          · exact Fi 0 rfl rfl rfl AGx rfl (Nat.lt_of_lt_of_le (Nat.lt_succ_self _) (Nat.le_of_ble_eq_true rfl))<|BU [] [] 0 rfl rfl
          · exact e9 ({AGw with Ca:=o.Ca,A6:= -KP o.A6 30,Bc:=KP o.Bc 30}:FL) (by rw[AGO,if_neg (fun q=>Bool.false_ne_true (GY.symm.trans (AHB.2 q))),if_pos HQ]) ⟨rfl,rfl,trivial⟩ rfl Bg.nil
        ·
          refine Am<|rg<|zc rfl rfl rfl<|VQ rfl rfl<|Ac<|B9 rfl (fun NK=>?_) (fun NK=>?_)
          · exact rg<|UG rfl AHg rfl<|ME 2 rfl rfl AGx rfl rfl<|UG rfl AHg rfl<|Fi 0 rfl rfl rfl AGx rfl (Nat.lt_of_lt_of_le (Nat.lt_succ_self _) (Nat.le_of_ble_eq_true rfl))<|nl<|e9 ({AGw with Ca:=o.Ca}:FL) (by rw[AGO,if_neg (fun q=>Bool.false_ne_true (GY.symm.trans (AHB.2 q))),if_neg HQ,if_pos NK]) ⟨rfl,rfl,trivial⟩ rfl Bg.nil
          · exact EG<|e9 AGw (by rw[AGO,if_neg (fun q=>Bool.false_ne_true (GY.symm.trans (AHB.2 q))),if_neg HQ,if_neg NK]) ⟨rfl,rfl,trivial⟩ rfl Bg.nil
    ·
      intro AG7 AHq;subst AHq;show Eg _ _ _ [(2,_),(3,_)] [AO DQ 33 (MZ (AGO o)),AO Dh 33 [.int .i64 0,.string ByteArray.empty,.string ByteArray.empty,.int .i64 0,.int .i64 0,.int .i64 0],AO CY 33 (MZ o),CL X w] _;exact CU<|A5<|Am<|rg<|BJ 0 (MZ ((AGO o))) rfl rfl AGS rfl rfl<|BZ 1 (us:=(MZ ((AGO o)))) rfl rfl rfl AGS rfl rfl<|Ac<|rt<|D8 () [_,_,_] (Qv 1 rfl rfl rfl AGS) (by rfl) rfl Bg.nil
end Go.Apw
namespace Go.A_
open Go.RowKit
section
section
variable{env:Env} {L:Own} {fn:Func} {P:Program} {n:Nat} {BW:World} {M:List Nat}
theorem AHd{t u:Nat}{T Pr:TypeId}{b:Nat}{cs:List Value}{v1:Value}(i:Nat)(Bh:fn.results= #[.tmp t,.cell u T])(Af:C1 env t=some v1)(h2:C1 env u=some (.pointer (some ⟨b,0,none⟩)))
 (Ag:L[i]? =some (AO b Pr cs))(Av:Oc P T cs.length):dr P n BW M fn env L (.tuple #[v1,.agg cs.toArray]):=fun a w f st=>by
 simp[results,Bh,f.at_ t _ Af,f.at_ u _ h2,asAddr,Sem.run_bind,lr Av (kH i Ag st)]
end
end
end Go.A_
namespace Go.Apw
theorem AI4(CP:Value)(l:List AGn)(o:FL)(Tl:o.wf)(AN:l.length<=1000)(hw:∀x∈l,x.wf)(Bh:AHt l=true)(hm:AG6 (AGJ o)=true)(AE:¬o.Ca=6)(Z:List AGn×De)(AW:AGZ l o=Z):Aw AG 22 [CP,.agg (MZ o).toArray] [] [⟨CP,l⟩] (fun(y:Value) u=>u=.tuple #[y,.agg (GM Z.2).toArray]) (fun _ _=>[]) (fun y _=>[⟨y,Z.1⟩]):=by
  refine Aw.proof Tryz.func22 rfl 148 rfl rfl fun X w=>?_;have wt:=AJS (k:=o.Al) hw Tl.2.1;obtain⟨AK4,AK5⟩:=id wt.2.2;obtain⟨AKY,AKZ⟩:=id Tl.2.2.2.1;refine Am<|rg<|CV rfl rfl rfl fun DQ=>VQ rfl rfl<|CT AlV rfl fun E'=>Ac<|Am<|Am<|rg<|An rfl rfl<|B0 ((by have h:=AJ4 CP l;rw[Bh]at h;exact h)) (Ar G) rfl (Bg.cons 0 rfl Bg.nil) rfl<|IH rfl rfl<|nl ?_;refine A5<|LW rfl<|AZ<|Am<|rg<|BJ 1 (MZ o) rfl rfl AGS rfl rfl<|B0 ((by have h:=AJW o Tl;rw[hm]at h;exact h)) (Ar G) rfl Bg.nil rfl<|An rfl rfl<|Ec rfl rfl rfl<|Ec rfl rfl rfl<|CT vt rfl fun Hg=>BZ 0 (us:=(MZ ((AGH o)))) rfl rfl rfl AGS rfl rfl<|VQ rfl rfl ?_;refine Ac<|Am<|Am<|rg<|An rfl rfl<|IH rfl rfl<|Ac<|LW rfl<|AZ<|Am<|rg ?_;refine An rfl rfl<|UG rfl AIl rfl<|ME 2 rfl rfl AGY rfl rfl<|B0 (AID CP l o.Al) (Ar G) rfl (Bg.cons 0 rfl Bg.nil) rfl<|CT AHw rfl fun K0=>BZ 0 (us:=(AGv ((AGq l o.Al)))) rfl rfl rfl AGB rfl rfl<|Ac<|Am<|rg<|Db (ps:=[(0,.const (.int .i64 150))]) (cs:=(GM (({Jd:=150,JM:=0,JJ:=0,JK:=0}:De)))) (by rfl) (by kernel_rfl) rfl<|CT AlV rfl fun H7=>BZ 0 (us:=(GM (({Jd:=150,JM:=0,JJ:=0,JK:=0}:De)))) rfl rfl rfl AGL rfl rfl<|nl ?_;refine A5<|Am<|Am<|rg<|UG rfl AHg rfl<|ME 4 rfl rfl AGx rfl rfl<|Ac<|B5<|Am<|Am<|rg<|zc rfl rfl rfl<|VQ rfl rfl ?_;refine Ac<|qA (σ:=Bool) [(0,_),(3,_),(5,_),(8,_),(9,_),(35,_)] _ (fun s C=>(36,.bool s)::C) (fun s=>[AO H7 44 (GM (({Jd:=150,JM:=0,JJ:=0,JK:=0}:De))),AO K0 85 (AGv ((AGq l o.Al))),AO Hg 33 (MZ ((AGH o))),AO E' 44 [.int .i64 0,.int .i64 0,.int .i64 0,.int .i64 0],AO DQ 33 (MZ o),CL X w]) (fun s=>(s=true↔o.Ca=1\/o.Ca=2)) ⟨rfl,rfl,rfl,rfl,rfl,rfl,trivial⟩ (Bg.cons 0 rfl Bg.nil) ?_ ?_
  ·
    refine B9 rfl (fun K6=>?_) (fun K6=>?_)
    · exact EG<|e9 (decide (o.Ca=1)) ⟨fun _=>.inl K6,fun _=>decide_eq_true K6⟩ ⟨rfl,rfl,rfl,rfl,rfl,rfl,rfl,trivial⟩ rfl (Bg.cons 0 rfl Bg.nil)
    · exact rg<|zc rfl rfl rfl<|VQ rfl rfl<|nl<|e9 (decide (o.Ca=2)) ⟨fun q=>.inr (of_decide_eq_true q),fun q=>decide_eq_true (by omega)⟩ ⟨rfl,rfl,rfl,rfl,rfl,rfl,rfl,trivial⟩ rfl (Bg.cons 0 rfl Bg.nil)
  ·
    intro AKJ AG';show Eg _ _ _ [(36,_),(0,_),(3,_),(5,_),(8,_),(9,_),(35,_)] [AO H7 44 (GM (({Jd:=150,JM:=0,JJ:=0,JK:=0}:De))),AO K0 85 (AGv ((AGq l o.Al))),AO Hg 33 (MZ ((AGH o))),AO E' 44 [.int .i64 0,.int .i64 0,.int .i64 0,.int .i64 0],AO DQ 33 (MZ o),CL X w] _;refine A5<|BN rfl (fun K6=>?_) (fun K6=>?_)
    ·
      refine Am<|rg<|UG rfl AHo rfl<|ME 1 rfl rfl AGx rfl rfl<|UG rfl AIm rfl<|ME 4 rfl rfl AGx rfl rfl<|BH (xs:=[.tmp 40,.tmp 42]) (us:=[.int .i64 ((AGq l o.Al).JM),.int .i64 o.B2]) (E:=3) (bytes:=8) (n:=2) rfl (by exact RL) rfl rfl rfl rfl rfl rfl fun AKA=>Q5 (α:=Int) [(AGq l o.Al).JM,o.B2] [[.int .i64 ((AGq l o.Al).JM)],[.int .i64 (o.B2)]] rfl (fun S w h=>⟨⟨rfl,wt.2.2⟩,⟨rfl,Tl.2.2.2.1⟩,trivial⟩) (Nat.le_of_ble_eq_true rfl)<|B0 (AAr _ (AGq l o.Al).JM o.B2) (Ar G) rfl (Bg.cons 0 rfl Bg.nil) rfl<|CT AuZ rfl fun ho=>BZ 0 (us:=(AuI ((wide ((AGq l o.Al).JM+o.B2))))) rfl rfl rfl AHJ rfl rfl<|Ac<|Am ?_;refine Am<|rg<|UG rfl AHg rfl<|ME 5 rfl rfl AGx rfl rfl<|zc rfl rfl rfl<|Ac<|qA (σ:=Int) [(0,_),(5,_),(8,_),(9,_),(10,_)] _ (fun s C=>C) (fun s=>[AO ho 138 (AuI (wide s)),AO H7 44 (GM (({Jd:=150,JM:=0,JJ:=0,JK:=0}:De))),AO K0 85 (AGv ((AGq l o.Al))),AO Hg 33 (MZ ((AGH o))),AO E' 44 [.int .i64 0,.int .i64 0,.int .i64 0,.int .i64 0],AO DQ 33 (MZ o),CL X w]) (fun s=>s=(AGU (AGq l o.Al) o)/\mW s) ⟨rfl,rfl,rfl,rfl,rfl,trivial⟩ (Bg.cons 1 rfl Bg.nil) ?_ ?_
      ·
        refine B9 rfl (fun Wg=>?_) (fun Wg=>?_)
        ·
          refine AuG [] [(0,[(7,.f0 (AO ho 138 (AuI ((wide ((AGq l o.Al).JM-o.B2))))))])] [(2,Ff [] (fun A4=>some (A4 0)) fun A4=>[⟨(A4 0),[(AGq l o.Al).JM]⟩]),(3,DF [] (.agg (AuI ((wide ((AGq l o.Al).JM)))).toArray)),(6,DF [] (.agg (AuI ((wide ((AGq l o.Al).JM-o.B2)))).toArray)),(7,DF [0] undef)] [(1,2),(5,5)] [0,5,8,9,10] (fun _=>rfl) (fun _=>rfl) (fun Ai AV Az=>⟨fun _=>?_,fun _=>?_,fun _=>?_,fun _=>?_,trivial⟩) fun Ai _=>?_
          · exact BH (xs:=[.tmp 49]) (us:=[.int .i64 ((AGq l o.Al).JM)]) (E:=3) (bytes:=8) (n:=1) rfl (by exact RL) rfl rfl rfl rfl rfl rfl fun AKB=>Q5 (α:=Int) [(AGq l o.Al).JM] [[.int .i64 ((AGq l o.Al).JM)]] rfl (fun S w h=>⟨⟨rfl,wt.2.2⟩,trivial⟩) (Nat.le_of_ble_eq_true rfl)<|BU [_] [0] 1 rfl rfl
          · exact B0 (Axs _ (AGq l o.Al).JM) (Ar G) rfl (Bg.cons 0 rfl Bg.nil) rfl<|BU [] [] 1 rfl rfl
          · exact B0 (Awr (AGq l o.Al).JM o.B2 (by unfold gV;omega) Tl.2.2.2.1) (Ar G) rfl Bg.nil rfl<|BU [] [] 1 rfl rfl
          · exact BZ 0 (us:=(AuI ((wide ((AGq l o.Al).JM-o.B2))))) rfl rfl rfl AHJ rfl rfl<|BU [] [] 1 rfl rfl
          ·
            generalize Ai 2 0=Pd;exact e9 ((AGq l o.Al).JM-o.B2) ⟨(if_pos Wg).symm,by unfold mW;omega⟩ ⟨rfl,rfl,rfl,rfl,rfl,trivial⟩ rfl (Bg.cons 2 rfl Bg.nil)
        · exact EG<|e9 ((AGq l o.Al).JM+o.B2) ⟨(if_neg Wg).symm,by unfold mW;omega⟩ ⟨rfl,rfl,rfl,rfl,rfl,trivial⟩ rfl (Bg.cons 1 rfl Bg.nil)
      ·
        intro AKx AJe;obtain⟨rfl,AI1⟩:=AJe;show Eg _ _ _ [(0,_),(5,_),(8,_),(9,_),(10,_)] [AO ho 138 (AuI (wide (AGU (AGq l o.Al) o))),AO H7 44 (GM (({Jd:=150,JM:=0,JJ:=0,JK:=0}:De))),AO K0 85 (AGv ((AGq l o.Al))),AO Hg 33 (MZ ((AGH o))),AO E' 44 [.int .i64 0,.int .i64 0,.int .i64 0,.int .i64 0],AO DQ 33 (MZ o),CL X w] _;refine A5<|Am<|rg<|BJ 2 (AGv ((AGq l o.Al))) rfl rfl AGB rfl rfl<|BJ 0 (AuI ((wide (AGU (AGq l o.Al) o)))) rfl rfl AHJ rfl rfl<|B0 (AJE (AGq l o.Al) (AGU (AGq l o.Al) o) wt AI1) (Ar G) rfl Bg.nil rfl<|An rfl rfl<|Ec rfl rfl rfl<|Ec rfl rfl rfl<|BZ 2 (us:=(AGv ((AGP (AGq l o.Al) (AGU (AGq l o.Al) o)).1))) rfl rfl rfl AGB rfl rfl<|VQ rfl rfl<|Ac<|Am ?_;refine Am<|rg<|An rfl rfl<|IH rfl rfl<|Ac<|BN rfl (fun Th=>?_) (fun Th=>?_)
        ·
          have AJb:(AGP (AGq l o.Al) (AGU (AGq l o.Al) o)).2=false:=(by simpa using Th);have AB:((l,HN 150):List AGn×De)=Z:=by
            rw[<-AW,AGZ,if_pos (AG'.1 K6),if_neg (by rw[AJb];decide)]
          subst AB;refine Am<|AuG [] [(4,[(3,.f0 (AO E' 44 (GM (({Jd:=150,JM:=0,JJ:=0,JK:=0}:De)))))])] [(3,DF [4] undef)] [(1,1)] [5,4] (fun _=>rfl) (fun _=>rfl) (fun Ai AV Az=>⟨fun _=>?_,trivial⟩) fun Ai _=>?_
          · exact BZ 0 (us:=(GM (({Jd:=150,JM:=0,JJ:=0,JK:=0}:De)))) rfl rfl rfl AGL rfl rfl<|BU [] [] 0 rfl rfl
          · exact A5<|BA<|C9<|Cd<|D8 CP [_,_,_,_,_,_] (AHd 4 rfl rfl rfl rfl AGL) (by rfl) rfl (Bg.cons 0 rfl Bg.nil)
        ·
          have AB:((AHe l (AGP (AGq l o.Al) (AGU (AGq l o.Al) o)).1,GS):List AGn×De)=Z:=by
            rw[<-AW,AGZ,if_pos (AG'.1 K6),if_pos (by simpa using Th)]
          subst AB;refine AZ<|Am<|rg<|An rfl rfl<|BJ 2 (AGv ((AGP (AGq l o.Al) (AGU (AGq l o.Al) o)).1)) rfl rfl AGB rfl rfl<|Dm (AIS _ l (AGP (AGq l o.Al) (AGU (AGq l o.Al) o)).1 (AJF wt) AN) (Ar G) rfl (Bg.cons 0 rfl Bg.nil) rfl fun _ AoP _=>Db (ps:=[]) (cs:=(GM (({Jd:=0,JM:=0,JJ:=0,JK:=0}:De)))) (by rfl) (by kernel_rfl) rfl<|VQ rfl rfl<|BZ 4 (us:=(GM (({Jd:=0,JM:=0,JJ:=0,JK:=0}:De)))) rfl rfl rfl AGL rfl rfl<|Ac<|rt<|C9 ?_;exact Cd<|D8 AoP [_,_,_,_,_,_] (AHd 4 rfl rfl rfl rfl AGL) (by rfl) rfl (Bg.cons 0 rfl Bg.nil)
    ·
      refine Am<|rg<|zc rfl rfl rfl<|VQ rfl rfl<|Ac<|B9 rfl (fun Ma=>?_) (fun Ma=>?_)
      ·
        have AB:((l,⟨0,(AGq l o.Al).JM,0,0⟩):List AGn×De)=Z:=by
          rw[<-AW,AGZ,if_neg (fun q=>Bool.false_ne_true (K6.symm.trans (AG'.2 q))),if_pos Ma]
        subst AB;refine Am<|AuG [] [(3,[(5,.f0 (AO E' 44 (GM (({Jd:=0,JM:=(AGq l o.Al).JM,JJ:=0,JK:=0}:De)))))])] [(3,DF [] (.agg (GM (({Jd:=0,JM:=(AGq l o.Al).JM,JJ:=0,JK:=0}:De))).toArray)),(5,DF [3] undef)] [(2,1)] [5,4] (fun _=>rfl) (fun _=>rfl) (fun Ai AV Az=>⟨fun _=>?_,fun _=>?_,trivial⟩) fun Ai _=>?_
        · exact Db (ps:=[(1,.tmp 73)]) (cs:=(GM (({Jd:=0,JM:=(AGq l o.Al).JM,JJ:=0,JK:=0}:De)))) (by rfl) (by kernel_rfl) rfl<|BU [] [] 0 rfl rfl
        · exact BZ 0 (us:=(GM (({Jd:=0,JM:=(AGq l o.Al).JM,JJ:=0,JK:=0}:De)))) rfl rfl rfl AGL rfl rfl<|BU [] [] 0 rfl rfl
        · exact A5<|rt<|C9<|Cd<|D8 CP [_,_,_,_,_] (AHd 3 rfl rfl rfl rfl AGL) (by rfl) rfl (Bg.cons 0 rfl Bg.nil)
      ·
        refine Am<|rg<|zc rfl rfl rfl<|VQ rfl rfl<|Ac<|B9 rfl (fun AyP=>?_) (fun AyP=>?_)
        ·
          have AB:((l,⟨0,0,(AGq l o.Al).JM,(AGq l o.Al).JM⟩):List AGn×De)=Z:=by
            rw[<-AW,AGZ,if_neg (fun q=>Bool.false_ne_true (K6.symm.trans (AG'.2 q))),if_neg Ma,if_pos AyP]
          subst AB;refine Am<|AuG [] [(3,[(7,.f0 (AO E' 44 (GM (({Jd:=0,JM:=0,JJ:=(AGq l o.Al).JM,JK:=(AGq l o.Al).JM}:De)))))])] [(5,DF [] (.agg (GM (({Jd:=0,JM:=0,JJ:=(AGq l o.Al).JM,JK:=(AGq l o.Al).JM}:De))).toArray)),(7,DF [3] undef)] [(2,1),(4,1)] [5,4] (fun _=>rfl) (fun _=>rfl) (fun Ai AV Az=>⟨fun _=>?_,fun _=>?_,trivial⟩) fun Ai _=>?_
          · exact Db (ps:=[(2,.tmp 79),(3,.tmp 81)]) (cs:=(GM (({Jd:=0,JM:=0,JJ:=(AGq l o.Al).JM,JK:=(AGq l o.Al).JM}:De)))) (by rfl) (by kernel_rfl) rfl<|BU [] [] 0 rfl rfl
          · exact BZ 0 (us:=(GM (({Jd:=0,JM:=0,JJ:=(AGq l o.Al).JM,JK:=(AGq l o.Al).JM}:De)))) rfl rfl rfl AGL rfl rfl<|BU [] [] 0 rfl rfl
          · exact A5<|rt<|C9<|Cd<|D8 CP [_,_,_,_,_] (AHd 3 rfl rfl rfl rfl AGL) (by rfl) rfl (Bg.cons 0 rfl Bg.nil)
        ·
          refine Am<|rg<|zc rfl rfl rfl<|VQ rfl rfl<|Ac<|B9 rfl (fun AqI=>?_) (fun AqI=>?_)
          ·
            refine Am<|rg<|UG rfl AIn rfl<|ME 4 rfl rfl AGx rfl rfl<|UG rfl AIo rfl<|ME 4 rfl rfl AGx rfl rfl<|Db (ps:=[(0,.tmp 86),(1,.tmp 88)]) (cs:=(Od (({A6:=o.A6,Bc:=o.Bc}:GC)))) (by rfl) (by kernel_rfl) rfl<|UG rfl AHn rfl<|stM 1 (us:=(Od (({A6:=o.A6,Bc:=o.Bc}:GC)))) rfl rfl rfl AHk rfl (Nat.le_of_ble_eq_true rfl)<|Ac<|Am<|Am ?_;have AH4:({(AGq l o.Al)with Cs:=⟨o.A6,o.Bc⟩}:AGn).wf:=⟨wt.1,⟨Tl.2.2.2.2.1,Tl.2.2.2.2.2⟩,wt.2.2⟩;refine rg<|UG rfl AHn rfl<|BJ 1 (Od (({(AGq l o.Al)with Cs:=⟨o.A6,o.Bc⟩}:AGn).Cs)) rfl rfl AHk rfl rfl<|UG rfl AHo rfl<|ME 1 rfl rfl AGx rfl rfl<|B0 (Aw2 (({(AGq l o.Al)with Cs:=⟨o.A6,o.Bc⟩}:AGn).Cs) _ AH4.2.1 AH4.2.2) (Ar G) rfl Bg.nil rfl<|IH rfl rfl<|Ac<|BN rfl (fun Ap8=>?_) (fun Ap8=>?_)
            ·
              have AJc:Rb ⟨o.A6,o.Bc⟩ (AGq l o.Al).JM=false:=(by simpa using Ap8);have AB:((l,HN 150):List AGn×De)=Z:=by
                rw[<-AW,AGZ,if_neg (fun q=>Bool.false_ne_true (K6.symm.trans (AG'.2 q))),if_neg Ma,if_neg AyP,if_pos AqI,if_neg (by rw[AJc];decide)]
              subst AB;refine Am<|AuG [] [(3,[(3,.f0 (AO E' 44 (GM (({Jd:=150,JM:=0,JJ:=0,JK:=0}:De)))))])] [(3,DF [3] undef)] [(1,0)] [5,4] (fun _=>rfl) (fun _=>rfl) (fun Ai AV Az=>⟨fun _=>?_,trivial⟩) fun Ai _=>?_
              · exact BZ 0 (us:=(GM (({Jd:=150,JM:=0,JJ:=0,JK:=0}:De)))) rfl rfl rfl AGL rfl rfl<|BU [] [] 0 rfl rfl
              · exact A5<|BA<|C9<|Cd<|D8 CP [_,_,_,_,_] (AHd 3 rfl rfl rfl rfl AGL) (by rfl) rfl (Bg.cons 0 rfl Bg.nil)
            ·
              have AB:((AHe l ({(AGq l o.Al)with Cs:=⟨o.A6,o.Bc⟩}:AGn),GS):List AGn×De)=Z:=by
                rw[<-AW,AGZ,if_neg (fun q=>Bool.false_ne_true (K6.symm.trans (AG'.2 q))),if_neg Ma,if_neg AyP,if_pos AqI,if_pos (by simpa using Ap8)]
              subst AB;refine AZ<|Am<|rg<|An rfl rfl<|BJ 1 (AGv (({(AGq l o.Al)with Cs:=⟨o.A6,o.Bc⟩}:AGn))) rfl rfl AGB rfl rfl<|Dm (AIS _ l ({(AGq l o.Al)with Cs:=⟨o.A6,o.Bc⟩}:AGn) AH4 AN) (Ar G) rfl (Bg.cons 0 rfl Bg.nil) rfl fun _ AKj _=>Db (ps:=[]) (cs:=(GM (({Jd:=0,JM:=0,JJ:=0,JK:=0}:De)))) (by rfl) (by kernel_rfl) rfl<|VQ rfl rfl<|BZ 3 (us:=(GM (({Jd:=0,JM:=0,JJ:=0,JK:=0}:De)))) rfl rfl rfl AGL rfl rfl<|Ac<|rt<|C9 ?_;exact Cd<|D8 AKj [_,_,_,_,_] (AHd 3 rfl rfl rfl rfl AGL) (by rfl) rfl (Bg.cons 0 rfl Bg.nil)
          ·
            refine Am<|rg<|zc rfl rfl rfl<|VQ rfl rfl<|Ac<|B9 rfl (fun iA=>?_) (fun iA=>?_)
            · exact absurd iA AE --#done
            ·
              have AB:((l,GS):List AGn×De)=Z:=by
                rw[<-AW,AGZ,if_neg (fun q=>Bool.false_ne_true (K6.symm.trans (AG'.2 q))),if_neg Ma,if_neg AyP,if_neg AqI]
              subst AB;exact EG<|CU<|A5<|Am<|rg<|An rfl rfl<|Db (ps:=[]) (cs:=(GM (({Jd:=0,JM:=0,JJ:=0,JK:=0}:De)))) (by rfl) (by kernel_rfl) rfl<|VQ rfl rfl<|BZ 3 (us:=(GM (({Jd:=0,JM:=0,JJ:=0,JK:=0}:De)))) rfl rfl rfl AGL rfl rfl<|Ac<|rt<|D8 CP [_,_,_,_,_] (AHd 3 rfl rfl rfl rfl AGL) (by rfl) rfl (Bg.cons 0 rfl Bg.nil)
theorem AJr:Aw AG 20 [.int .i64 0,.int .i64 20] [] [] (fun(y:Value×Value×Value×Value×Value×Value) u=>u=.tuple #[.agg (BY AGz y.1 y.2.1 y.2.2.1 y.2.2.2.1 y.2.2.2.2.1 y.2.2.2.2.2).toArray,.bool true]) (fun _ _=>[]) (fun y _=>[⟨y.1,AGz.Aj⟩,⟨y.2.1,AGz.Bz⟩,⟨y.2.2.1,AGz.AA⟩,⟨y.2.2.2.1,AGz.Bj⟩,⟨y.2.2.2.2.1,AGz.CX⟩,⟨y.2.2.2.2.2,AGz.Cf⟩]):=by
  refine Aw.proof Tryz.func20 rfl 63 rfl rfl fun X w=>DJ (α:=AD) ?_;refine DJ (α:=BL) ?_;refine DJ (α:=BX) ?_;refine DJ (α:=Bx) ?_;refine DJ (α:=Df) ?_;refine DJ (α:=UInt8) ?_;refine Am<|rg<|CT LQ rfl fun En=>VQ rfl rfl<|Ac<|Am<|rg<|B0 (rH 1 ⟨by decide,by decide⟩ rfl) (Ar G) rfl Bg.nil rfl<|An rfl rfl<|Ec rfl rfl rfl<|Ec rfl rfl rfl<|CT LQ rfl fun Hg=>BZ 0 (us:=(BY ((F8 1)) AI AI AI AI AI AI)) rfl rfl rfl AGM rfl rfl ?_;refine VQ rfl rfl<|Ac<|Am<|rg<|An rfl rfl<|An rfl rfl<|Db (ps:=[(0,_),(1,_),(4,_),(5,_)]) (cs:=MZ AGW.AM) (by rfl) (by kernel_rfl) rfl<|CT vt rfl fun K0=>BZ 0 (us:=(MZ AGW.AM)) rfl rfl rfl AGS rfl rfl<|Ac<|Am<|rg ?_;refine BJ 1 (BY ((F8 1)) AI AI AI AI AI AI) rfl rfl AGM rfl rfl<|BJ 0 (MZ AGW.AM) rfl rfl AGS rfl rfl<|Db (ps:=[(0,_),(1,_),(2,_),(3,_),(4,_),(11,_)]) (cs:=IT AGW AI) (by rfl) (by kernel_rfl) rfl<|Dm (w4 (F8 1) _ _ _ _ _ _ AGW _ 1 3 (AGz,[⟨1,1,1,GS⟩],0) AIA (fJ (g:=1) rfl).ints (Aeq ⟨by decide,by decide⟩) AIc ⟨by decide,by decide⟩ ⟨by decide,by decide⟩) (Ar G) rfl (Bg.cons 5 rfl (Bg.cons 4 rfl (Bg.cons 3 rfl (Bg.cons 2 rfl (Bg.cons 1 rfl (Bg.cons 0 rfl (Bg.cons 0 rfl Bg.nil))))))) rfl fun AKv T7 Gr=>?_;obtain⟨RF,N8,OF,P1,P2,SK,vq⟩:=AKv;obtain⟨AI8,Vs⟩:=Gr;subst AI8;refine An rfl rfl<|Ec rfl rfl rfl<|Ec rfl rfl rfl<|Ec rfl rfl rfl<|CT LQ rfl fun H7=>GO (q:=RF.oneCell'=true) (fun S w h=>Fh (h _ (List.mem_of_getElem? (i:=0) rfl))) fun bT=>?_;refine GO (q:=N8.oneCell'=true) (fun S w h=>Fh (h _ (List.mem_of_getElem? (i:=1) rfl))) fun bU=>?_;refine GO (q:=OF.oneCell'=true) (fun S w h=>Fh (h _ (List.mem_of_getElem? (i:=2) rfl))) fun bV=>?_;refine GO (q:=P1.oneCell'=true) (fun S w h=>Fh (h _ (List.mem_of_getElem? (i:=3) rfl))) fun bW=>?_;refine GO (q:=P2.oneCell'=true) (fun S w h=>Fh (h _ (List.mem_of_getElem? (i:=4) rfl))) fun bX=>?_;refine GO (q:=SK.oneCell'=true) (fun S w h=>Fh (h _ (List.mem_of_getElem? (i:=5) rfl))) fun bY=>?_;refine BZ 0 (us:=(BY AGz RF N8 OF P1 P2 SK)) rfl rfl rfl AGM (by simp only[List.all_cons,List.all_nil,Bool.and_true,bT,bU,bV,bW,bX,bY];rfl) rfl<|VQ rfl rfl<|VQ rfl rfl<|Ac<|Am<|rg<|BJ 0 (BY AGz RF N8 OF P1 P2 SK) rfl rfl AGM rfl rfl<|Dm (AqC AGz _ _ _ _ _ _ AGp (AGs 0) AHC.1 Vs (AqL AIx AIy)) (Ar G) rfl (Bg.cons 0 rfl (Bg.cons 1 rfl (Bg.cons 2 rfl (Bg.cons 3 rfl (Bg.cons 4 rfl (Bg.cons 5 rfl Bg.nil)))))) rfl fun Vw L5 ES=>?_;obtain⟨AIe,cZ⟩:=ES;rw[AHC.2]at AIe;subst AIe;refine An rfl rfl<|Ec rfl rfl rfl<|Ec rfl rfl rfl<|CT Hd rfl fun ns=>GO (q:=Vw.oneCell'=true) (fun S w h=>Fh (h _ (List.mem_of_getElem? (i:=0) rfl))) fun AJQ=>?_;refine BZ 0 (us:=(A3 ((AGs 0)) Vw)) rfl rfl rfl AHu (by simp only[List.all_cons,List.all_nil,Bool.and_true,AJQ];rfl) rfl<|VQ rfl rfl<|Ac<|Am ?_;have AJs:0<(AGs 0).A0.length:=(by decide);refine AuG [] [(4,[(29,.f0 (AO En 31 (BY AGz RF N8 OF P1 P2 SK)))])] [(2,DF [] (.bool true)),(5,DF [] (.bool true)),(9,DF [] (.int .i64 (([(⟨1,1,1,GS⟩:FE)].length:Int)))),(10,DF [] (.bool true)),(18,DF [] (.int .i64 (((AGs 0).A0.length:Int)))),(19,DF [] (.bool true)),(24,Ff [] (fun A4=>some (A4 0)) fun A4=>[⟨(A4 0),(⟨((AGs 0).A0.getD 0 default)⟩:Cq BD)⟩]),(25,Ff [] (fun A4=>some (A4 0)) fun A4=>[⟨(A4 0),(⟨((AGs 0).A0.getD 0 default).Bn⟩:Cq Int)⟩]),(26,⟨[],fun _=>some (.int .i64 (((AGs 0).A0.getD 0 default).Bn)),fun _=>[],[A' ((AGs 0).A0.getD 0 default).Bn]⟩),(27,DF [] (.bool true)),(29,DF [4] undef)] [(0,1),(17,0),(23,0)] [4,5] (fun _=>rfl) (fun _=>rfl) (fun Ai AV Az=>⟨fun _=>?_,fun _=>?_,fun _=>?_,fun _=>?_,fun _=>?_,fun _=>?_,fun _=>?_,fun _=>?_,fun _=>?_,fun QJ=>?_,fun _=>?_,trivial⟩) fun Ai QJ=>?_
  · exact zc rfl rfl rfl<|ApG (congrArg Value.bool (decide_eq_true rfl))<|BU [] [] 0 rfl rfl
  · exact Bl rfl rfl rfl<|zc rfl rfl rfl<|ApG (congrArg Value.bool (decide_eq_true rfl))<|BU [] [] 0 rfl rfl
  · exact Bl rfl rfl rfl<|C2 7 rfl rfl Tryz.underlying39 rfl fun AKQ=>BU [] [] 0 rfl rfl
  · exact Bl rfl rfl rfl<|zc rfl rfl rfl<|ApG (congrArg Value.bool (decide_eq_true rfl))<|BU [] [] 0 rfl rfl
  · exact Bl rfl rfl rfl<|C2 0 rfl rfl Tryz.underlying69 rfl fun AKR=>BU [] [] 0 rfl rfl
  · exact Bl rfl rfl rfl<|zc rfl rfl rfl<|ApG (congrArg Value.bool (decide_eq_true rfl))<|BU [] [] 0 rfl rfl
  · exact Bl rfl rfl rfl<|Qh 0 rfl rfl rfl I6 (by omega) (Ly (d:=default) (by omega)) rfl fun AtV=>BU [_] [0] 1 rfl rfl
  · exact Bl rfl rfl rfl<|IY (α:=BD) (β:=Int) 0 (fun x:BD=>x.Bn) rfl rfl AIj Agt rfl fun QB=>BU [_] [0] 2 rfl rfl
  ·
    refine Bl rfl rfl rfl<|CQ 1 rfl rfl AGx rfl fun AkV=>?_;exact WT [] [] 2 rfl rfl ⟨AkV,trivial⟩
  · exact Bl rfl rfl rfl<|zc rfl rfl rfl<|ApG (congrArg Value.bool (decide_eq_true rfl))<|BU [] [] 2 rfl rfl
  ·
    refine GO (q:=RF.oneCell'=true) (fun S w h=>Fh (h _ (List.mem_of_getElem? (i:=1) rfl))) fun bT=>?_;refine GO (q:=N8.oneCell'=true) (fun S w h=>Fh (h _ (List.mem_of_getElem? (i:=2) rfl))) fun bU=>?_;refine GO (q:=OF.oneCell'=true) (fun S w h=>Fh (h _ (List.mem_of_getElem? (i:=3) rfl))) fun bV=>?_;refine GO (q:=P1.oneCell'=true) (fun S w h=>Fh (h _ (List.mem_of_getElem? (i:=4) rfl))) fun bW=>?_;refine GO (q:=P2.oneCell'=true) (fun S w h=>Fh (h _ (List.mem_of_getElem? (i:=5) rfl))) fun bX=>?_;refine GO (q:=SK.oneCell'=true) (fun S w h=>Fh (h _ (List.mem_of_getElem? (i:=6) rfl))) fun bY=>?_;exact BZ 0 (us:=(BY AGz RF N8 OF P1 P2 SK)) rfl rfl rfl AGM (by simp only[List.all_cons,List.all_nil,Bool.and_true,bT,bU,bV,bW,bX,bY];rfl) rfl<|BU [] [] 0 rfl rfl
  ·
    obtain⟨AkV,_⟩:=QJ;generalize Ai 24 0=AK6,Ai 25 0=AK7;exact A5<|rt<|D8 ⟨RF,N8,OF,P1,P2,SK⟩ [_,_,_,_,_] (Fp 4 rfl rfl rfl rfl AGM) (by rfl) rfl (Bg.cons 3 rfl (Bg.cons 4 rfl (Bg.cons 5 rfl (Bg.cons 6 rfl (Bg.cons 7 rfl (Bg.cons 8 rfl Bg.nil))))))
end Go.Apw
namespace Go.A_
open Go.RowKit
end Go.A_
namespace Go.Apw
end Go.Apw
