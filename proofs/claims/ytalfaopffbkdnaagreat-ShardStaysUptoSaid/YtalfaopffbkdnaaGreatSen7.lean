/- Part 7 of shardStays_holds. -/
import Derived.OrdersIn
import Derived.RangeFuncNested
import Derived.RangeFuncLeaves
import Derived.Test.YtalfaopffbkdnaaGreatSen6

set_option maxRecDepth 20000
set_option maxHeartbeats 1000000
namespace Go
theorem AB_:∀(b:Bool),(¬b=false)=(b=true):=@Bool.not_eq_false
theorem ACA:∀{α:Type _} {xs:List α} {i:Nat},(List.toArray xs)[i]? =xs[i]?:=@List.getElem?_toArray
theorem ADd:∀{α:Type _} {l:List α},List.length l=0↔l=[]:=@List.length_eq_zero_iff
theorem ACB:∀{α:Type _} {l:List α},List.take (List.length l) l=l:=@List.take_length
theorem ACo:∀{n m:Nat},n=m→n≤m:=@Nat.le_of_eq
theorem ABM:∀{p:Prop} [Decidable p],¬p→decide p=false:=@decide_eq_false
theorem ABG:∀{p:Prop} [Decidable p],p→decide p=true:=@decide_eq_true
end Go
open BitVec renaming toNat_ofInt→AD7
open Classical renaming byContradiction→AEj
open Go renaming cell_of_row→AB9
open Go.Proofs.Tryz renaming underlying125→ADB,underlying28→AC4,underlying31→ACb,underlying33→ACR,underlying35→ACE,underlying44→AC5,underlying50→ADa,underlying52→AC0,underlying54→ADk,underlying68→ADC,underlying71→ADl,underlying73→ADg,underlying83→ADm
open Go.Value.slice renaming injEq→ADw
open List renaming drop_eq_nil_of_le→ACc,getElem?_set_ne→ACT,length_cons→ABv,length_set→ABj,mem_filter→ABZ,sum_append_int→AD3,sum_cons→ADr
open List.cons renaming injEq→ACj
open Go.A_ Go.Proofs Go.Proofs.YtalfaopffbkdnaaGreat
namespace Go.Apw
theorem Mw:Tryz.prog.cellsOf 3=1:=AGo
theorem MH:MU AG 3 E_:=AfN ABc
theorem Z7:Tryz.prog.cellsOf 9=1:=AGo
theorem b2:MU AG 9 Nl:=AfO ABO
theorem xX:Tryz.prog.cellsOf 4=1:=AGo
theorem AfI:MU AG 4 cr:=AfL Tryz.underlying4
theorem nR:Tryz.prog.cellsOf 33=6:=AGo
theorem AfF:MU AG 33 Ve:=by
 intro H enc w fuel cs x h;have AN:=l0 ACR h;rw[nR]at AN;obtain⟨Pl,Fb,BW⟩:=Js ACR h 0 0 1 rfl Mw MH;obtain⟨SJ,B4,Ua⟩:=Js ACR h 1 1 1 rfl Z7 b2;obtain⟨Ug,DC,Ub⟩:=Js ACR h 2 2 1 rfl Z7 b2;obtain⟨XA,Kk,Xs⟩:=Js ACR h 3 3 1 rfl Mw MH;obtain⟨c9,QX,RD⟩:=Js ACR h 4 4 1 rfl Mw MH;obtain⟨c_,QY,Ud⟩:=Js ACR h 5 5 1 rfl Mw MH;have Bw:cs=cs.drop 0:=rfl;rw[Jp cs 0 1 1 rfl,Fb,Jp cs 1 1 2 rfl,B4,Jp cs 2 1 3 rfl,DC,Jp cs 3 1 4 rfl,Kk,Jp cs 4 1 5 rfl,QX,Jp cs 5 1 6 rfl,QY,ACc (ACo AN)]at Bw;exact⟨⟨Pl,SJ,Ug,XA,c9,c_⟩,(),Bw,by simp,BW,Ua,Ub,Xs,RD,Ud⟩
theorem nQ:Tryz.prog.cellsOf 28=7:=AGo
theorem AfE:MU AG 28 Ru:=by
 intro H enc w fuel cs x h;have AN:=l0 AC4 h;rw[nQ]at AN;obtain⟨Pl,Fb,BW⟩:=Js AC4 h 0 0 1 rfl Mw MH;obtain⟨SJ,B4,Ua⟩:=Js AC4 h 1 1 1 rfl Mw MH;obtain⟨Ug,DC,Ub⟩:=Js AC4 h 2 2 1 rfl Mw MH;obtain⟨XA,Kk,Xs⟩:=Js AC4 h 3 3 1 rfl Z7 b2;obtain⟨c9,QX,RD⟩:=Js AC4 h 4 4 1 rfl Z7 b2;obtain⟨c_,QY,Ud⟩:=Js AC4 h 5 5 1 rfl Mw MH;obtain⟨mE,hV,Xt⟩:=Js AC4 h 6 6 1 rfl Mw MH;have Bw:cs=cs.drop 0:=rfl;rw[Jp cs 0 1 1 rfl,Fb,Jp cs 1 1 2 rfl,B4,Jp cs 2 1 3 rfl,DC,Jp cs 3 1 4 rfl,Kk,Jp cs 4 1 5 rfl,QX,Jp cs 5 1 6 rfl,QY,Jp cs 6 1 7 rfl,hV,ACc (ACo AN)]at Bw;exact⟨⟨Pl,SJ,Ug,XA,c9,c_,mE⟩,(),Bw,by simp,BW,Ua,Ub,Xs,RD,Ud,Xt⟩
theorem xY:Tryz.prog.cellsOf 5=1:=AGo
theorem AfK:MU AG 5 Rv:=AfM Tryz.underlying5
theorem xW:Tryz.prog.cellsOf 29=1:=AGo
theorem AfG:MU AG 29 (@FI UInt8 Rv):=rV ABT xY AGp AfK
theorem nS:Tryz.prog.cellsOf 35=25:=AGo
theorem AfH:MU AG 35 W7:=by
 intro H enc w fuel cs x h;have AN:=l0 ACE h;rw[nS]at AN;obtain⟨Pl,Fb,BW⟩:=Js ACE h 0 0 1 rfl Mw MH;obtain⟨SJ,B4,Ua⟩:=Js ACE h 1 1 1 rfl Mw MH;obtain⟨Ug,DC,Ub⟩:=Js ACE h 2 2 1 rfl Mw MH;obtain⟨XA,Kk,Xs⟩:=Js ACE h 3 3 1 rfl Mw MH;obtain⟨c9,QX,RD⟩:=Js ACE h 4 4 1 rfl Mw MH;obtain⟨c_,QY,Ud⟩:=Js ACE h 5 5 1 rfl Mw MH;obtain⟨mE,hV,Xt⟩:=Js ACE h 6 6 1 rfl Z7 b2;obtain⟨Alx,X7,OD⟩:=Js ACE h 7 7 1 rfl Mw MH;obtain⟨Aly,X8,gE⟩:=Js ACE h 8 8 1 rfl Mw MH;obtain⟨Alz,yQ,my⟩:=Js ACE h 9 9 1 rfl Mw MH;obtain⟨Als,yE,cW⟩:=Js ACE h 10 10 1 rfl xX AfI;obtain⟨Alu,Ct,yF,s4,SD⟩:=Js ACE h 11 11 6 rfl nR AfF;obtain⟨Alv,EM,yG,s5,Xr⟩:=Js ACE h 12 17 7 rfl nQ AfE;obtain⟨Alw,AhZ⟩:=Js ACE h 13 24 1 rfl xW AfG;obtain⟨Ac8,yH,hd⟩:=AdR AhZ;have Bw:cs=cs.drop 0:=rfl;rw[Jp cs 0 1 1 rfl,Fb,Jp cs 1 1 2 rfl,B4,Jp cs 2 1 3 rfl,DC,Jp cs 3 1 4 rfl,Kk,Jp cs 4 1 5 rfl,QX,Jp cs 5 1 6 rfl,QY,Jp cs 6 1 7 rfl,hV,Jp cs 7 1 8 rfl,X7,Jp cs 8 1 9 rfl,X8,Jp cs 9 1 10 rfl,yQ,Jp cs 10 1 11 rfl,yE,Jp cs 11 6 17 rfl,yF,Jp cs 17 7 24 rfl,yG,Jp cs 24 1 25 rfl,yH,ACc (ACo AN)]at Bw;exact⟨⟨Pl,SJ,Ug,XA,c9,c_,mE,Alx,Aly,Alz,Als,Alu,Alv,Alw⟩,Ac8,Bw,fun t Av=>by
  simp only[ABf,ABh,ABi]at Av;subst Av
  · exact hd,BW,Ua,Ub,Xs,RD,Ud,Xt,OD,gE,my,trivial,SD,Xr,trivial⟩
theorem AfJ:MU AG 56 (@FI Dg W7):=rV Tryz.underlying56 nS AGp AfH
theorem AwW:Tryz.prog.cellsOf 68=2:=AGo
theorem Azs:MU AG 68 k0:=by
 intro H enc w fuel cs x h;have AN:=l0 ADC h;rw[AwW]at AN;obtain⟨Pl,Fb,BW⟩:=Js ADC h 0 0 1 rfl Mw MH;obtain⟨SJ,B4,Ua⟩:=Js ADC h 1 1 1 rfl Mw MH;have Bw:cs=cs.drop 0:=rfl;rw[Jp cs 0 1 1 rfl,Fb,Jp cs 1 1 2 rfl,B4,ACc (ACo AN)]at Bw;exact⟨⟨Pl,SJ⟩,(),Bw,by simp,BW,Ua⟩
theorem Awb:Tryz.prog.cellsOf 83=4:=AGo
theorem Azk:MU AG 83 Mj:=by
 intro H enc w fuel cs x h;have AN:=l0 ADm h;rw[Awb]at AN;obtain⟨Pl,Fb,BW⟩:=Js ADm h 0 0 1 rfl Mw MH;obtain⟨SJ,B4,Ua⟩:=Js ADm h 1 1 1 rfl Mw MH;obtain⟨Ug,DC,Ub⟩:=Js ADm h 2 2 1 rfl Mw MH;obtain⟨XA,Kk,Xs⟩:=Js ADm h 3 3 1 rfl Mw MH;have Bw:cs=cs.drop 0:=rfl;rw[Jp cs 0 1 1 rfl,Fb,Jp cs 1 1 2 rfl,B4,Jp cs 2 1 3 rfl,DC,Jp cs 3 1 4 rfl,Kk,ACc (ACo AN)]at Bw;exact⟨⟨Pl,SJ,Ug,XA⟩,(),Bw,by simp,BW,Ua,Ub,Xs⟩
theorem AwX:Tryz.prog.cellsOf 69=1:=AGo
theorem Azt:MU AG 69 (@FI BD Mj):=rV AB5 Awb AGp Azk
theorem AwY:Tryz.prog.cellsOf 71=4:=AGo
theorem Azu:MU AG 71 ck:=by
 intro H enc w fuel cs x h;have AN:=l0 ADl h;rw[AwY]at AN;obtain⟨Pl,Fb,BW⟩:=Js ADl h 0 0 1 rfl Mw MH;obtain⟨SJ,B4,Ua⟩:=Js ADl h 1 1 1 rfl Mw MH;obtain⟨Ug,DC,Ub⟩:=Js ADl h 2 2 1 rfl Mw MH;obtain⟨XA,Kk,Xs⟩:=Js ADl h 3 3 1 rfl Mw MH;have Bw:cs=cs.drop 0:=rfl;rw[Jp cs 0 1 1 rfl,Fb,Jp cs 1 1 2 rfl,B4,Jp cs 2 1 3 rfl,DC,Jp cs 3 1 4 rfl,Kk,ACc (ACo AN)]at Bw;exact⟨⟨Pl,SJ,Ug,XA⟩,(),Bw,by simp,BW,Ua,Ub,Xs⟩
theorem Awc:Tryz.prog.cellsOf 73=10:=AGo
theorem Azv:MU AG 73 GR:=by
 intro H enc w fuel cs x h;have AN:=l0 ADg h;rw[Awc]at AN;obtain⟨Pl,Fb,BW⟩:=Js ADg h 0 0 1 rfl Z7 b2;obtain⟨SJ,Af,B4,s1,Ua⟩:=Js ADg h 1 1 2 rfl AwW Azs;obtain⟨Ug,DC,Ub⟩:=Js ADg h 2 3 1 rfl Mw MH;obtain⟨XA,Kk,Xs⟩:=Js ADg h 3 4 1 rfl Mw MH;obtain⟨c9,Awx⟩:=Js ADg h 4 5 1 rfl AwX Azt;obtain⟨Ba,QX,Iz⟩:=AdR Awx;obtain⟨c_,C',QY,Rw,Ud⟩:=Js ADg h 5 6 4 rfl AwY Azu;have Bw:cs=cs.drop 0:=rfl;rw[Jp cs 0 1 1 rfl,Fb,Jp cs 1 2 3 rfl,B4,Jp cs 3 1 4 rfl,DC,Jp cs 4 1 5 rfl,Kk,Jp cs 5 1 6 rfl,QX,Jp cs 6 4 10 rfl,QY,ACc (ACo AN)]at Bw;exact⟨⟨Pl,SJ,Ug,XA,c9,c_⟩,Ba,Bw,fun t Av=>by
  simp only[ABf,ABh,ABi]at Av;subst Av
  · exact Iz,BW,Ua,Ub,Xs,trivial,Ud⟩
theorem AwS:Tryz.prog.cellsOf 22=1:=AGo
theorem Azn:MU AG 22 (@FI AD GR):=rV ABH Awc AGp Azv
theorem Ax_:Tryz.prog.cellsOf 37=1:=AGo
theorem Azm:MU AG 37 E_:=AfN Tryz.underlying37
theorem AwQ:Tryz.prog.cellsOf 44=4:=AGo
theorem Azg:MU AG 44 ch:=by
 intro H enc w fuel cs x h;have AN:=l0 AC5 h;rw[AwQ]at AN;obtain⟨Pl,Fb,BW⟩:=Js AC5 h 0 0 1 rfl Ax_ Azm;obtain⟨SJ,B4,Ua⟩:=Js AC5 h 1 1 1 rfl Mw MH;obtain⟨Ug,DC,Ub⟩:=Js AC5 h 2 2 1 rfl Mw MH;obtain⟨XA,Kk,Xs⟩:=Js AC5 h 3 3 1 rfl Mw MH;have Bw:cs=cs.drop 0:=rfl;rw[Jp cs 0 1 1 rfl,Fb,Jp cs 1 1 2 rfl,B4,Jp cs 2 1 3 rfl,DC,Jp cs 3 1 4 rfl,Kk,ACc (ACo AN)]at Bw;exact⟨⟨Pl,SJ,Ug,XA⟩,(),Bw,by simp,BW,Ua,Ub,Xs⟩
theorem Av_:Tryz.prog.cellsOf 54=7:=AGo
theorem Azh:MU AG 54 W8:=by
 intro H enc w fuel cs x h;have AN:=l0 ADk h;rw[Av_]at AN;obtain⟨Pl,Fb,BW⟩:=Js ADk h 0 0 1 rfl Mw MH;obtain⟨SJ,B4,Ua⟩:=Js ADk h 1 1 1 rfl Mw MH;obtain⟨Ug,DC,Ub⟩:=Js ADk h 2 2 1 rfl xX AfI;obtain⟨XA,Bo,Kk,IK,Xs⟩:=Js ADk h 3 3 4 rfl AwQ Azg;have Bw:cs=cs.drop 0:=rfl;rw[Jp cs 0 1 1 rfl,Fb,Jp cs 1 1 2 rfl,B4,Jp cs 2 1 3 rfl,DC,Jp cs 3 4 7 rfl,Kk,ACc (ACo AN)]at Bw;exact⟨⟨Pl,SJ,Ug,XA⟩,(),Bw,by simp,BW,Ua,trivial,Xs⟩
theorem AwR:Tryz.prog.cellsOf 23=1:=AGo
theorem Azl:MU AG 23 (@FI BL W8):=rV ACh Av_ AGp Azh
theorem Av9:Tryz.prog.cellsOf 50=11:=AGo
theorem Azf:MU AG 50 Ha:=by
 intro H enc w fuel cs x h;have AN:=l0 ADa h;rw[Av9]at AN;obtain⟨Pl,Fb,BW⟩:=Js ADa h 0 0 1 rfl Mw MH;obtain⟨SJ,B4,Ua⟩:=Js ADa h 1 1 1 rfl Mw MH;obtain⟨Ug,DC,Ub⟩:=Js ADa h 2 2 1 rfl Mw MH;obtain⟨XA,Kk,Xs⟩:=Js ADa h 3 3 1 rfl Mw MH;obtain⟨c9,QX,RD⟩:=Js ADa h 4 4 1 rfl Mw MH;obtain⟨c_,C',QY,Rw,Ud⟩:=Js ADa h 5 5 6 rfl nR AfF;have Bw:cs=cs.drop 0:=rfl;rw[Jp cs 0 1 1 rfl,Fb,Jp cs 1 1 2 rfl,B4,Jp cs 2 1 3 rfl,DC,Jp cs 3 1 4 rfl,Kk,Jp cs 4 1 5 rfl,QX,Jp cs 5 6 11 rfl,QY,ACc (ACo AN)]at Bw;exact⟨⟨Pl,SJ,Ug,XA,c9,c_⟩,(),Bw,by simp,BW,Ua,Ub,Xs,RD,Ud⟩
theorem AwT:Tryz.prog.cellsOf 24=1:=AGo
theorem Azo:MU AG 24 (@FI BX Ha):=rV AB4 Av9 AGp Azf
theorem Av':Tryz.prog.cellsOf 52=8:=AGo
theorem Azi:MU AG 52 ML:=by
 intro H enc w fuel cs x h;have AN:=l0 AC0 h;rw[Av']at AN;obtain⟨Pl,Fb,BW⟩:=Js AC0 h 0 0 1 rfl Mw MH;obtain⟨SJ,B4,Ua⟩:=Js AC0 h 1 1 1 rfl Mw MH;obtain⟨Ug,DC,Ub⟩:=Js AC0 h 2 2 1 rfl Z7 b2;obtain⟨XA,Kk,Xs⟩:=Js AC0 h 3 3 1 rfl Z7 b2;obtain⟨c9,QX,RD⟩:=Js AC0 h 4 4 1 rfl Mw MH;obtain⟨c_,QY,Ud⟩:=Js AC0 h 5 5 1 rfl Mw MH;obtain⟨mE,hV,Xt⟩:=Js AC0 h 6 6 1 rfl Mw MH;obtain⟨Alx,X7,OD⟩:=Js AC0 h 7 7 1 rfl Mw MH;have Bw:cs=cs.drop 0:=rfl;rw[Jp cs 0 1 1 rfl,Fb,Jp cs 1 1 2 rfl,B4,Jp cs 2 1 3 rfl,DC,Jp cs 3 1 4 rfl,Kk,Jp cs 4 1 5 rfl,QX,Jp cs 5 1 6 rfl,QY,Jp cs 6 1 7 rfl,hV,Jp cs 7 1 8 rfl,X7,ACc (ACo AN)]at Bw;exact⟨⟨Pl,SJ,Ug,XA,c9,c_,mE,Alx⟩,(),Bw,by simp,BW,Ua,Ub,Xs,RD,Ud,Xt,OD⟩
theorem AwU:Tryz.prog.cellsOf 25=1:=AGo
theorem Azp:MU AG 25 (@FI Bx ML):=rV ACa Av' AGp Azi
theorem Awa:Tryz.prog.cellsOf 125=2:=AGo
theorem Azj:MU AG 125 Y9:=by
 intro H enc w fuel cs x h;have AN:=l0 ADB h;rw[Awa]at AN;obtain⟨Pl,Fb,BW⟩:=Js ADB h 0 0 1 rfl Mw MH;obtain⟨SJ,B4,Ua⟩:=Js ADB h 1 1 1 rfl Mw MH;have Bw:cs=cs.drop 0:=rfl;rw[Jp cs 0 1 1 rfl,Fb,Jp cs 1 1 2 rfl,B4,ACc (ACo AN)]at Bw;exact⟨⟨Pl,SJ⟩,(),Bw,by simp,BW,Ua⟩
theorem AwV:Tryz.prog.cellsOf 26=1:=AGo
theorem Azq:MU AG 26 (@FI Df Y9):=rV ACi Awa AGp Azj
theorem Ax':Tryz.prog.cellsOf 31=29:=AGo
theorem Azr:MU AG 31 Axk:=by
 intro H enc w fuel cs x h;have AN:=l0 ACb h;rw[Ax']at AN;obtain⟨Pl,Fb,BW⟩:=Js ACb h 0 0 1 rfl Mw MH;obtain⟨SJ,B4,Ua⟩:=Js ACb h 1 1 1 rfl Mw MH;obtain⟨Ug,DC,Ub⟩:=Js ACb h 2 2 1 rfl xX AfI;obtain⟨XA,Kk,Xs⟩:=Js ACb h 3 3 1 rfl Z7 b2;obtain⟨c9,QX,RD⟩:=Js ACb h 4 4 1 rfl Z7 b2;obtain⟨c_,QY,Ud⟩:=Js ACb h 5 5 1 rfl Mw MH;obtain⟨mE,AzF⟩:=Js ACb h 6 6 1 rfl AwS Azn;obtain⟨Bp,hV,KY⟩:=AdR AzF;obtain⟨Alx,AzG⟩:=Js ACb h 7 7 1 rfl AwR Azl;obtain⟨Bi,X7,OH⟩:=AdR AzG;obtain⟨Aly,AzH⟩:=Js ACb h 8 8 1 rfl AwT Azo;obtain⟨AnK,X8,VN⟩:=AdR AzH;obtain⟨Alz,AzI⟩:=Js ACb h 9 9 1 rfl AwU Azp;obtain⟨AyW,yQ,wH⟩:=AdR AzI;obtain⟨Als,AzD⟩:=Js ACb h 10 10 1 rfl AwV Azq;obtain⟨AyV,yE,wx⟩:=AdR AzD;obtain⟨Alu,Ct,yF,s4,SD⟩:=Js ACb h 11 11 7 rfl nQ AfE;obtain⟨Alv,EM,yG,s5,Xr⟩:=Js ACb h 12 18 7 rfl nQ AfE;obtain⟨Alw,AhZ⟩:=Js ACb h 13 25 1 rfl xW AfG;obtain⟨Ac8,yH,hd⟩:=AdR AhZ;obtain⟨AAs,Ayi,SE⟩:=Js ACb h 14 26 1 rfl Mw MH;obtain⟨AAt,yI,N6⟩:=Js ACb h 15 27 1 rfl Mw MH;obtain⟨AAu,V4,PV⟩:=Js ACb h 16 28 1 rfl Mw MH;have Bw:cs=cs.drop 0:=rfl;rw[Jp cs 0 1 1 rfl,Fb,Jp cs 1 1 2 rfl,B4,Jp cs 2 1 3 rfl,DC,Jp cs 3 1 4 rfl,Kk,Jp cs 4 1 5 rfl,QX,Jp cs 5 1 6 rfl,QY,Jp cs 6 1 7 rfl,hV,Jp cs 7 1 8 rfl,X7,Jp cs 8 1 9 rfl,X8,Jp cs 9 1 10 rfl,yQ,Jp cs 10 1 11 rfl,yE,Jp cs 11 7 18 rfl,yF,Jp cs 18 7 25 rfl,yG,Jp cs 25 1 26 rfl,yH,Jp cs 26 1 27 rfl,Ayi,Jp cs 27 1 28 rfl,yI,Jp cs 28 1 29 rfl,V4,ACc (ACo AN)]at Bw;exact⟨⟨Pl,SJ,Ug,XA,c9,c_,mE,Alx,Aly,Alz,Als,Alu,Alv,Alw,AAs,AAt,AAu⟩,⟨Bp,Bi,AnK,AyW,AyV,Ac8⟩,Bw,fun t Av=>by
  simp only[ABf,ABh,ABi]at Av;rcases Av with rfl|rfl|rfl|rfl|rfl|rfl
  · exact KY
  · exact OH
  · exact VN
  · exact wH
  · exact wx
  · exact hd,BW,Ua,trivial,Xs,RD,Ud,trivial,trivial,trivial,trivial,trivial,SD,Xr,trivial,SE,N6,PV⟩
end Go.Apw
namespace Go.Proofs.YtalfaopffbkdnaaGreat
open Go.A_ Go.Apw Go.ChangeShapes Go.WideShapes Go.ChangeAt Go.RowKit
theorem xN{H:Type}(d:DataW H):1<=Rows.uptoBulk d:=by
 cases d with
 |lit l=>cases l<;>simp[Rows.uptoBulk]
 |nil=>simp[Rows.uptoBulk]
 |ptr d=>simp[Rows.uptoBulk]
 |slice elems spare=>simp[Rows.uptoBulk]
 |agg parts=>simp[Rows.uptoBulk]
 |iface t d=>simp[Rows.uptoBulk]
 |map entries=>simp[Rows.uptoBulk]
 |held h=>simp[Rows.uptoBulk]
theorem xM{H:Type}(l:List (DataW H)):l.length<=Rows.uptoBulkAll l:=by
 induction l with
 |nil=>simp[Rows.uptoBulkAll]
 |cons x r Cg=>
  have:=xN x;simp only[Rows.uptoBulkAll,ABv];omega
theorem AdS{P:Program}{H:Type}{enc:TypeId×Value->H}{w:World}{T E:TypeId}{α:Type}{r:Be α}{v:Value}{d:DataW H}{ps:List MemPlace}{l:List α}{S:Nat->Prop}
  (hu:P.underlying T=some (.slice E))(h:DataW.Trod enc P w 0 (fun _=>true) true T v d ps)(AN:Atom.holds (@Atom.mk (List α) (@FI α r) v l) S w):l.length<=Rows.uptoBulk d:=by
 obtain⟨fuel,BI⟩:=h;obtain⟨AK,A,Dc,I0,_,_,_,BB⟩:=AN;rcases Deep.open_slice hu BI with⟨Bm,Ab⟩|⟨a,len,cap,m,n,D,wj,Bm,_,pJ,Wp,hm,Ab,Ag⟩
 ·
  have:=I0.symm.trans Bm;simp only[ACj,ADw,ACs]at this;have Bw:l.length=0:=this.2.1;omega
 ·
  have:=I0.symm.trans Bm;simp only[ACj,ADw,ACs]at this;have Bw:l.length=len:=this.2.1;simp only[Prod.mk.injEq]at Ab;rw[Ab.1];have:=xM ((List.range len).map D);simp only[List.length_map,List.length_range]at this;simp only[Rows.uptoBulk];omega
end Go.Proofs.YtalfaopffbkdnaaGreat
namespace Go.Apw
def Di{α β:Type}(x:α×Bb)(f:α->Bb->β×Bb):β×Bb:=f x.1 x.2
theorem FY{α β:Type}{x:α×Bb}{f:α->Bb->β×Bb}{n:Nat}(h:x.2.pos<=n)(k:∀a s,s.pos<=n->(f a s).2.pos<=n):(Di x f).2.pos<=n:=k _ _ h
theorem FZ{α β:Type}{x:α×Bb}{f:α->Bb->β×Bb}{q:α->Prop}{p:β->Prop}(h:q x.1)(k:∀a s,q a->p (f a s).1):p (Di x f).1:=k _ _ h
theorem cq(J:List UInt8)(s:Bb):(⟨(Gm J 65535 s).1.toArray⟩:ByteArray).size<=9223372036854775807:=by
 show(Gm J 65535 s).1.toArray.size<=_;rw[List.size_toArray];have:=(l6 (J.drop s.pos) 65535).2.2;simp only[Gm,Lj,Bb.val];split
 · exact ABg _
 · split
   · exact ABg _
   · omega
theorem W9(J:List UInt8)(s:Bb):(DT J 1024 s).1<=1024:=by
 have:=(aa (J.drop s.pos) 1024).1;simp only[DT,Lj,Bb.val];split
 · omega
 · split
   · omega
   · omega
theorem sL{α:Type}{J:List UInt8}{rd:Bb->α×Bb}(h:∀s,s.pos<=J.length->(rd s).2.pos<=J.length):∀{n:Nat} {s:Bb},s.pos<=J.length->(GI rd n s).2.pos<=J.length
 |0,_,hs=>hs
 |n+1,s,hs=>by
  unfold GI;split
  · exact sL h (h _ hs)
  · exact hs
theorem Ij{α:Type}{J:List UInt8}{rd:Bb->α×Bb}{s:Bb}(h:∀s,s.pos<=J.length->(rd s).2.pos<=J.length)(hs:s.pos<=J.length):(CS J rd s).2.pos<=J.length:=sL h (W_ hs)
theorem Ah3{J:List UInt8}{m:Int}{s:Bb}(h:s.fault≠0):DT J m s=(0,s):=by
 have h2:(DT J m s).2=s:=fM (d:=0) (f:=fun l=>L9 l m) h;have Af:(DT J m s).1=0:=by
  simp only[DT,Lj,Bb.val];rw[AA_ h]
 exact Prod.ext Af h2
theorem Qw{α:Type}{J:List UInt8}{rd:Bb->α×Bb}{s:Bb}(h:s.fault≠0):CS J rd s=([],s):=by
 unfold CS;rw[Ah3 h];rfl
theorem Za{α:Type}{rd:Bb->α×Bb}{s:Bb}(h:s.fault≠0)(n:Nat):GI rd n s=([],s):=by
 cases n with
 |zero=>rfl
 |succ n=>unfold GI;rw[if_neg h]
theorem sJ{α:Type}{rd:Bb->α×Bb}{s:Bb}(h:s.fault=0)(n:Nat):GI rd (n+1) s=((rd s).1::(GI rd n (rd s).2).1,(GI rd n (rd s).2).2):=by
 rw[GI,AA_ h]
theorem Y'{α:Type}{rd:Bb->α×Bb}{s:Bb}{N i:Nat}{acc:List α}{R:List α×Bb}(Ag:i<N)(BI:s.fault=0)(he:R=(acc++(GI rd (N-i) s).1,(GI rd (N-i) s).2)):R=((acc++[(rd s).1])++(GI rd (N-(i+1)) (rd s).2).1,(GI rd (N-(i+1)) (rd s).2).2):=by
 rw[he,show N-i=(N-(i+1))+1 by omega,sJ BI];simp
theorem Zg{c:List Value}{o:Nat}{v:Value}(h:o<c.length):(c.set o v)[o]? =some v:=by simp[h]
theorem WJ{J:List UInt8}{x:Nat}:∀{offs:List Nat} {p:List Value×Bb},x∉offs->(CO J offs p).1[x]? =p.1[x]?
 |[],_,_=>rfl
 |o::r,p,h=>by
  rw[CO,WJ (fun Ab=>h (ABR _ Ab))];exact ACT (fun e=>h (by subst e;exact ABx ..))
theorem Xi{J:List UInt8}{x:Nat}:∀{offs:List Nat} {p:List Value×Bb},x∉offs->(Ea J offs p).1[x]? =p.1[x]?
 |[],_,_=>rfl
 |o::r,p,h=>by
  rw[Ea,Xi (fun Ab=>h (ABR _ Ab))];exact ACT (fun e=>h (by subst e;exact ABx ..))
def E9(J:List UInt8)(o:Nat)(p:List Value×Bb):List Value×Bb:=(p.1.set o (.bool (Kw J p.2).1),(Kw J p.2).2)
def C7{α:Type}(o:Nat)(y:Value)(rd:Bb->α×Bb)(p:List Value×Bb):List Value×Bb:=(p.1.set o y,(rd p.2).2)
def Hy(J:List UInt8)(o:Nat)(p:List Value×Bb):List Value×Bb:=CO J [o+3,o+4,o+5] (Ea J [o+1,o+2] (CO J [o] p))
def Ga(J:List UInt8)(o:Nat)(p:List Value×Bb):List Value×Bb:=CO J [o+5,o+6] (Ea J [o+3,o+4] (CO J [o,o+1,o+2] p))
theorem Ik{α:Type}{o:Nat}{y:Value}{rd:Bb->α×Bb}{p:List Value×Bb}{n:Nat}(h:(rd p.2).2.pos<=n):(C7 o y rd p).2.pos<=n:=h
theorem Pw{J:List UInt8}{o:Nat}{p:List Value×Bb}(h:p.2.pos<=J.length):(E9 J o p).2.pos<=J.length:=sI h
theorem b_{J:List UInt8}{o:Nat}{p:List Value×Bb}(h:p.2.pos<=J.length):(Ga J o p).2.pos<=J.length:=Hw (MP (Hw h))
def UO(J:List UInt8)(s:Bb):GC×Bb:=
 Di (D6 J s) fun He s1=>
 Di (D6 J s1) fun DP s2=>
 ({A6:=He,Bc:=DP},s2)
theorem Aae{J:List UInt8}{s:Bb}(h:s.pos<=J.length):(UO J s).2.pos<=J.length:=by
 exact FY (Hb h) fun _ _ h=>FY (Hb h) fun _ _ h=>h
theorem Aaf(J:List UInt8)(s:Bb):(UO J s).1.wf:=by
 exact FZ (q:=A') (HL _ _) fun _ _ Bw=>FZ (q:=A') (HL _ _) fun _ _ Af=>⟨Bw,Af⟩
def UM(J:List UInt8)(s:Bb):F_×Bb:=
 Di (D6 J s) fun He s1=>
 Di (D6 J s1) fun DP s2=>
 Di (D6 J s2) fun EK IK=>
 Di (D6 J IK) fun FR Jy=>
 ({Ap:=He,As:=DP,DH:=EK,B2:=FR},Jy)
theorem z'{J:List UInt8}{s:Bb}(h:s.pos<=J.length):(UM J s).2.pos<=J.length:=by
 exact FY (Hb h) fun _ _ h=>FY (Hb h) fun _ _ h=>FY (Hb h) fun _ _ h=>FY (Hb h) fun _ _ h=>h
theorem Aaa(J:List UInt8)(s:Bb):(UM J s).1.wf:=by
 exact FZ (q:=A') (HL _ _) fun _ _ Bw=>FZ (q:=A') (HL _ _) fun _ _ Af=>FZ (q:=A') (HL _ _) fun _ _ h2=>FZ (q:=A') (HL _ _) fun _ _ Bo=>⟨Bw,Af,h2,Bo⟩
def Iu(J:List UInt8)(s:Bb):BD×Bb:=
 Di (D6 J s) fun He s1=>
 Di (D6 J s1) fun DP s2=>
 Di (D6 J s2) fun EK IK=>
 Di (D6 J IK) fun FR Jy=>
 ({Bn:=He,G0:=DP,DV:=EK,Fc:=FR},Jy)
theorem ik{J:List UInt8}{s:Bb}(h:s.pos<=J.length):(Iu J s).2.pos<=J.length:=by
 exact FY (Hb h) fun _ _ h=>FY (Hb h) fun _ _ h=>FY (Hb h) fun _ _ h=>FY (Hb h) fun _ _ h=>h
theorem z_(J:List UInt8)(s:Bb):(Iu J s).1.wf:=by
 exact FZ (q:=A') (HL _ _) fun _ _ Bw=>FZ (q:=A') (HL _ _) fun _ _ Af=>FZ (q:=A') (HL _ _) fun _ _ h2=>FZ (q:=A') (HL _ _) fun _ _ Bo=>⟨Bw,Af,h2,Bo⟩
def UL(J:List UInt8)(s:Bb):De×Bb:=
 Di (D6 J s) fun He s1=>
 Di (D6 J s1) fun DP s2=>
 Di (D6 J s2) fun EK IK=>
 Di (D6 J IK) fun FR Jy=>
 ({Jd:=He,JM:=DP,JJ:=EK,JK:=FR},Jy)
theorem z3{J:List UInt8}{s:Bb}(h:s.pos<=J.length):(UL J s).2.pos<=J.length:=by
 exact FY (Hb h) fun _ _ h=>FY (Hb h) fun _ _ h=>FY (Hb h) fun _ _ h=>FY (Hb h) fun _ _ h=>h
theorem z4(J:List UInt8)(s:Bb):(UL J s).1.wf:=by
 exact FZ (q:=A') (HL _ _) fun _ _ Bw=>FZ (q:=A') (HL _ _) fun _ _ Af=>FZ (q:=A') (HL _ _) fun _ _ h2=>FZ (q:=A') (HL _ _) fun _ _ Bo=>⟨Bw,Af,h2,Bo⟩
def Wc(J:List UInt8)(s:Bb):FL×Bb:=
 Di (D6 J s) fun He s1=>
 Di (Gm J 65535 s1) fun DP s2=>
 Di (Gm J 65535 s2) fun EK IK=>
 Di (D6 J IK) fun FR Jy=>
 Di (D6 J Jy) fun Iz Rw=>
 Di (D6 J Rw) fun Lv Rx=>
 ({Ca:=He,Al:=⟨DP.toArray⟩,EL:=⟨EK.toArray⟩,B2:=FR,A6:=Iz,Bc:=Lv},Rx)
theorem Aac{J:List UInt8}{s:Bb}(h:s.pos<=J.length):(Wc J s).2.pos<=J.length:=by
 exact FY (Hb h) fun _ _ h=>FY (Vf h) fun _ _ h=>FY (Vf h) fun _ _ h=>FY (Hb h) fun _ _ h=>FY (Hb h) fun _ _ h=>FY (Hb h) fun _ _ h=>h
theorem Aad(J:List UInt8)(s:Bb):(Wc J s).1.wf:=by
 exact FZ (q:=A') (HL _ _) fun _ _ Bw=>FZ (q:=(fun l:List UInt8=>(⟨l.toArray⟩:ByteArray).size<=9223372036854775807)) (cq _ _) fun _ _ Af=>FZ (q:=(fun l:List UInt8=>(⟨l.toArray⟩:ByteArray).size<=9223372036854775807)) (cq _ _) fun _ _ h2=>FZ (q:=A') (HL _ _) fun _ _ Bo=>FZ (q:=A') (HL _ _) fun _ _ BB=>FZ (q:=A') (HL _ _) fun _ _ C'=>⟨Bw,Af,h2,Bo,BB,C'⟩
def L_(J:List UInt8)(s:Bb):Fs×Bb:=
 Di (D6 J s) fun He s1=>
 Di (D6 J s1) fun DP s2=>
 Di (D6 J s2) fun EK IK=>
 Di (Gm J 65535 IK) fun FR Jy=>
 Di (Gm J 65535 Jy) fun Iz Rw=>
 Di (D6 J Rw) fun Lv Rx=>
 Di (D6 J Rx) fun KY cv=>
 ({Ev:=He,Hi:=DP,IX:=EK,A6:=⟨FR.toArray⟩,Bc:=⟨Iz.toArray⟩,Ap:=Lv,As:=KY},cv)
def HF(J:List UInt8)(s:Bb):Df×Bb:=
 Di (D6 J s) fun He s1=>
 Di (D6 J s1) fun DP s2=>
 ({Ap:=He,As:=DP},s2)
theorem aF{J:List UInt8}{s:Bb}(h:s.pos<=J.length):(HF J s).2.pos<=J.length:=by
 exact FY (Hb h) fun _ _ h=>FY (Hb h) fun _ _ h=>h
theorem z8(J:List UInt8)(s:Bb):(HF J s).1.wf:=by
 exact FZ (q:=A') (HL _ _) fun _ _ Bw=>FZ (q:=A') (HL _ _) fun _ _ Af=>⟨Bw,Af⟩
def GG(J:List UInt8)(s:Bb):BL×Bb:=
 Di (D6 J s) fun He s1=>
 Di (D6 J s1) fun DP s2=>
 Di (Kw J s2) fun EK IK=>
 Di (UL J IK) fun FR Jy=>
 ({Ap:=He,As:=DP,HV:=EK,Cm:=FR},Jy)
theorem UN{J:List UInt8}{s:Bb}(h:s.pos<=J.length):(GG J s).2.pos<=J.length:=by
 exact FY (Hb h) fun _ _ h=>FY (Hb h) fun _ _ h=>FY (sI h) fun _ _ h=>FY (z3 h) fun _ _ h=>h
theorem o_(J:List UInt8)(s:Bb):(GG J s).1.wf:=by
 exact FZ (q:=A') (HL _ _) fun _ _ Bw=>FZ (q:=A') (HL _ _) fun _ _ Af=>FZ (q:=(fun _=>True)) (trivial) fun _ _ h2=>FZ (q:=De.wf) (z4 _ _) fun _ _ Bo=>⟨Bw,Af,h2,Bo⟩
def Hk(J:List UInt8)(s:Bb):Bx×Bb:=
 Di (D6 J s) fun He s1=>
 Di (D6 J s1) fun DP s2=>
 Di (Gm J 65535 s2) fun EK IK=>
 Di (Gm J 65535 IK) fun FR Jy=>
 Di (D6 J Jy) fun Iz Rw=>
 Di (D6 J Rw) fun Lv Rx=>
 Di (D6 J Rx) fun KY cv=>
 Di (D6 J cv) fun OH lu=>
 ({Ap:=He,As:=DP,Al:=⟨EK.toArray⟩,EL:=⟨FR.toArray⟩,B2:=Iz,DN:=Lv,DO:=KY,C3:=OH},lu)
theorem Ye{J:List UInt8}{s:Bb}(h:s.pos<=J.length):(Hk J s).2.pos<=J.length:=by
 exact FY (Hb h) fun _ _ h=>FY (Hb h) fun _ _ h=>FY (Vf h) fun _ _ h=>FY (Vf h) fun _ _ h=>FY (Hb h) fun _ _ h=>FY (Hb h) fun _ _ h=>FY (Hb h) fun _ _ h=>FY (Hb h) fun _ _ h=>h
theorem z6(J:List UInt8)(s:Bb):(Hk J s).1.wf:=by
 exact FZ (q:=A') (HL _ _) fun _ _ Bw=>FZ (q:=A') (HL _ _) fun _ _ Af=>FZ (q:=(fun l:List UInt8=>(⟨l.toArray⟩:ByteArray).size<=9223372036854775807)) (cq _ _) fun _ _ h2=>FZ (q:=(fun l:List UInt8=>(⟨l.toArray⟩:ByteArray).size<=9223372036854775807)) (cq _ _) fun _ _ Bo=>FZ (q:=A') (HL _ _) fun _ _ BB=>FZ (q:=A') (HL _ _) fun _ _ C'=>FZ (q:=A') (HL _ _) fun _ _ F4=>FZ (q:=A') (HL _ _) fun _ _ GY=>⟨Bw,Af,h2,Bo,BB,C',F4,GY⟩
def GX(J:List UInt8)(s:Bb):BX×Bb:=
 Di (D6 J s) fun He s1=>
 Di (D6 J s1) fun DP s2=>
 Di (D6 J s2) fun EK IK=>
 Di (D6 J IK) fun FR Jy=>
 Di (D6 J Jy) fun Iz Rw=>
 Di (Wc J Rw) fun Lv Rx=>
 ({Ca:=He,Ap:=DP,As:=EK,Bn:=FR,DH:=Iz,AM:=Lv},Rx)
theorem Wd{J:List UInt8}{s:Bb}(h:s.pos<=J.length):(GX J s).2.pos<=J.length:=by
 exact FY (Hb h) fun _ _ h=>FY (Hb h) fun _ _ h=>FY (Hb h) fun _ _ h=>FY (Hb h) fun _ _ h=>FY (Hb h) fun _ _ h=>FY (Aac h) fun _ _ h=>h
theorem Aar(J:List UInt8)(s:Bb):(GX J s).1.wf:=by
 exact FZ (q:=A') (HL _ _) fun _ _ Bw=>FZ (q:=A') (HL _ _) fun _ _ Af=>FZ (q:=A') (HL _ _) fun _ _ h2=>FZ (q:=A') (HL _ _) fun _ _ Bo=>FZ (q:=A') (HL _ _) fun _ _ BB=>FZ (q:=FL.wf) (Aad _ _) fun _ _ C'=>⟨Bw,Af,h2,Bo,BB,C'⟩
def F2(J:List UInt8)(s:Bb):AD×Bb:=
 Di (Gm J 65535 s) fun He s1=>
 Di (UO J s1) fun DP s2=>
 Di (D6 J s2) fun EK IK=>
 Di (D6 J IK) fun FR Jy=>
 Di (CS J (Iu J) Jy) fun Iz Rw=>
 Di (UM J Rw) fun Lv Rx=>
 ({Al:=⟨He.toArray⟩,Cs:=DP,BT:=EK,Cn:=FR,A0:=Iz,BG:=Lv},Rx)
theorem Td{J:List UInt8}{s:Bb}(h:s.pos<=J.length):(F2 J s).2.pos<=J.length:=by
 exact FY (Vf h) fun _ _ h=>FY (Aae h) fun _ _ h=>FY (Hb h) fun _ _ h=>FY (Hb h) fun _ _ h=>FY (Ij (fun _ hh=>ik hh) h) fun _ _ h=>FY (z' h) fun _ _ h=>h
theorem o9(J:List UInt8)(s:Bb):(F2 J s).1.wf:=by
 exact FZ (q:=(fun l:List UInt8=>(⟨l.toArray⟩:ByteArray).size<=9223372036854775807)) (cq _ _) fun _ _ Bw=>FZ (q:=GC.wf) (Aaf _ _) fun _ _ Af=>FZ (q:=A') (HL _ _) fun _ _ h2=>FZ (q:=A') (HL _ _) fun _ _ Bo=>FZ (q:=(fun _=>True)) (trivial) fun _ _ BB=>FZ (q:=F_.wf) (Aaa _ _) fun _ _ C'=>⟨Bw,Af,h2,Bo,BB,C'⟩
def FC(J:List UInt8)(s:Bb):Bv×Bb:=
 Di (D6 J s) fun He s1=>
 Di (D6 J s1) fun DP s2=>
 Di (Kw J s2) fun EK IK=>
 Di (Gm J 65535 IK) fun FR Jy=>
 Di (Gm J 65535 Jy) fun Iz Rw=>
 Di (D6 J Rw) fun Lv Rx=>
 Di (CS J (F2 J) Rx) fun KY cv=>
 Di (CS J (GG J) cv) fun OH lu=>
 Di (CS J (GX J) lu) fun VN AiW=>
 Di (CS J (Hk J) AiW) fun wH AiQ=>
 Di (CS J (HF J) AiQ) fun wx s4=>
 Di (L_ J s4) fun wy s5=>
 Di (L_ J s5) fun wz AiR=>
 Di (Gm J 65535 AiR) fun hd AiS=>
 Di (D6 J AiS) fun wA AiT=>
 Di (D6 J AiT) fun wB AiU=>
 Di (D6 J AiU) fun wC AiV=>
 ({CZ:=He,DX:=DP,Du:=EK,A6:=⟨FR.toArray⟩,Bc:=⟨Iz.toArray⟩,Dn:=Lv,Aj:=KY,Bz:=OH,AA:=VN,Bj:=wH,CX:=wx,Bt:=wy,CW:=wz,Cf:=hd,Jc:=wA,JL:=wB,GW:=wC},AiV)
def IP:Bv:=({CZ:=0,DX:=0,Du:=false,A6:=ByteArray.empty,Bc:=ByteArray.empty,Dn:=0,Aj:=[],Bz:=[],AA:=[],Bj:=[],CX:=[],Bt:=({Ev:=0,Hi:=0,IX:=0,A6:=ByteArray.empty,Bc:=ByteArray.empty,Ap:=0,As:=0}:Fs),CW:=({Ev:=0,Hi:=0,IX:=0,A6:=ByteArray.empty,Bc:=ByteArray.empty,Ap:=0,As:=0}:Fs),Cf:=[],Jc:=0,JL:=0,GW:=0}:Bv)
theorem dd:IP.wf:=⟨⟨AGp,AGp⟩,⟨AGp,AGp⟩,trivial,AGp,AGp,⟨AGp,AGp⟩,trivial,trivial,trivial,trivial,trivial,⟨⟨AGp,AGp⟩,⟨AGp,AGp⟩,⟨AGp,AGp⟩,AGp,AGp,⟨AGp,AGp⟩,⟨AGp,AGp⟩⟩,⟨⟨AGp,AGp⟩,⟨AGp,AGp⟩,⟨AGp,AGp⟩,AGp,AGp,⟨AGp,AGp⟩,⟨AGp,AGp⟩⟩,trivial,⟨AGp,AGp⟩,⟨AGp,AGp⟩,⟨AGp,AGp⟩⟩
def Lm(b:List UInt8):Bv:=if 65536<b.length then IP else(FC b ⟨0,0⟩).1
def NF(b:List UInt8):Int:=if 65536<b.length then 22 else Q0 b (FC b ⟨0,0⟩).2
def Er(b:List UInt8):Bv×Int:=if NF b≠0 then(IP,NF b)else(Lm b,0)
theorem lY{b:List UInt8}(h:65536<b.length):Lm b=IP:=AA_ h
theorem gn{b:List UInt8}(h:¬65536<b.length):Lm b=(FC b ⟨0,0⟩).1:=AA9 h
theorem zn{b:List UInt8}(h:65536<b.length):NF b=22:=AA_ h
theorem oM{b:List UInt8}(h:¬65536<b.length):NF b=Q0 b (FC b ⟨0,0⟩).2:=AA9 h
theorem k8{b:List UInt8}(h:NF b≠0):Er b=(IP,NF b):=AA_ h
theorem fN{b:List UInt8}(h:NF b=0):Er b=(Lm b,0):=AA9 (not_not_intro h)
def Zj(s:Bv):Bool:= !Ih s.CZ|| !X1 [s.DX,s.Dn,s.Jc,s.JL,s.GW]|| !YZ s|| !VP s
def Zk(s:Bv):Bool:= !decide (IA (Fg s.Bz)=0)|| !decide (IA (Is s.Bj)=0)|| !decide (IA (HE s.CX)=0)||decide ((s.AA.length:Int)>8)
def Xe(s:Bv):Bool:=(!decide (s.Bt=⟨0,0,0,ByteArray.empty,ByteArray.empty,0,0⟩))&&(!LK s.Bt|| !decide (s.Bt.Hi=s.CZ)|| !decide (s.Bt.Bc=s.Bc)|| !F' s s.Bt.A6)
def lW(s:Bv):Bool:=LK s.CW&&decide (s.CW.Hi=s.CZ)&&decide ((Er s.Cf).2=0)
def gm(s:Bv):Bool:=allI s.AA.length (fun j=>Mr s (s.AA.getD j default))
def LN(s:Bv):Bool:=if Zj s=true then false else if Zk s=true then false else if gm s=true then(if Xe s=true then false else if decide (s.CW=⟨0,0,0,ByteArray.empty,ByteArray.empty,0,0⟩)=true then decide ((s.Cf.length:Int)=0)else lW s)else false
structure wm where
 Bc:Int
 A6:Int
 deriving DecidableEq,Inhabited
@[reducible] def AuI(x:wm):List Value:=[.int .i64 x.Bc,.int .u64 x.A6]
@[reducible] def wide(S:Int):wm:=⟨S / 18446744073709551616,S % 18446744073709551616⟩
def mW(S:Int):Prop:= -1329227995784915872903807060280344576<=S/\S<=1329227995784915872903807060280344576
def gV(S:Int):Prop:= -1298074214633706907132624082305024<=S/\S<=1298074214633706907132624082305024
theorem gV.w{S:Int}(h:gV S):mW S:=by unfold gV at h;unfold mW;omega
theorem AAn{S n:Int}(h:n<0)(Ao:A' n):(⟨S / 18446744073709551616+(S % 18446744073709551616+n % 18446744073709551616+0) / 18446744073709551616-1,(S % 18446744073709551616+n % 18446744073709551616+0) % 18446744073709551616⟩:wm)=wide (S+n):=by
 obtain⟨Af,h2⟩:=Ao;simp only[wide,wm.mk.injEq];omega
theorem AAo{S n:Int}(h:¬n<0)(Ao:A' n):(⟨S / 18446744073709551616+(S % 18446744073709551616+n % 18446744073709551616+0) / 18446744073709551616,(S % 18446744073709551616+n % 18446744073709551616+0) % 18446744073709551616⟩:wm)=wide (S+n):=by
 obtain⟨Af,h2⟩:=Ao;simp only[wide,wm.mk.injEq];omega
theorem AwG{x y:wm}(h:x=y):Value.agg (AuI x).toArray=Value.agg (AuI y).toArray:=by rw[h]
theorem Ayb{x:Int}(h:A' x):MY .xor .i64 (if IntKind.i64.signed then-1 else IntKind.i64.max) x= -x-1:=by
 obtain⟨Af,h2⟩:=h;have e:(BitVec.ofInt 64 (-1)^^^BitVec.ofInt 64 x)=BitVec.ofInt 64 (-x-1):=by
  have a:BitVec.ofInt 64 (-1)=BitVec.allOnes 64:=AGp;rw[a,BitVec.allOnes_xor];have:BitVec.ofInt 64 (-x-1)= ~~~ BitVec.ofInt 64 x:=by
   apply BitVec.eq_of_toInt_eq;rw[BitVec.toInt_not,BitVec.toInt_ofInt];have t:(BitVec.ofInt 64 x).toNat=(x % 2^64).toNat:=(by simp[AD7]);rw[t];simp only[Int.bmod];omega
  rw[this]
 show IntKind.i64.wrap _=_;have:∀y:Int,A' y->IntKind.i64.wrap ((BitVec.ofInt 64 y).toNat:Int)=y:=by
  intro y Bf;obtain⟨Bo,BB⟩:=Bf;have t:(BitVec.ofInt 64 y).toNat=(y % 2^64).toNat:=(by simp[AD7]);rw[t,mC];omega
 rw[<-this (-x-1) ⟨AGn,AGn⟩,<-e];rfl
def Av3(S n:Int):Bool:=decide (S-n>0)
theorem AxU{S n:Int}(_:mW S)(_:A' n):(decide ((S-n) / 18446744073709551616>0)||(decide ((S-n) / 18446744073709551616=0)&&decide ((S-n) % 18446744073709551616>0)))=decide (S-n>0):=by
 rw[ACy];simp only[ABk,ABb,ABa];omega
theorem M9{S:Int}(_:mW S):((decide (S / 18446744073709551616=0)&&decide (S % 18446744073709551616<9223372036854775808))||(decide (S / 18446744073709551616= -1)&&decide (S % 18446744073709551616>=9223372036854775808)))=J3 S:=by
 rw[ACy];simp only[J3,ABk,ABb,ABa];omega
theorem Az_{l:List Int}(h:nb l)(_:l.length<=1000):∀i,i<=l.length-> -((i:Int)*9223372036854775808)<=(l.take i).sum/\(l.take i).sum<=(i:Int)*9223372036854775808:=by
 intro i;induction i with
 |zero=>simp
 |succ i Cg=>
  intro Ag;have hs:=AjZ (l:=l) (i:=i) AGn;obtain⟨DP,EK⟩:=Cg AGn;obtain⟨SJ,Ug⟩:=Aau h (i:=i) AGn;rw[hs];omega
def So(f:BD->Int)(b:Int)(l:List BD):Nat->List Int
 |0=>[b]
 |i+1=>So f b l i++[f (l.getD i default)]
theorem bC(f:BD->Int)(b:Int)(l:List BD):∀i,(So f b l i).length=i+1
 |0=>rfl
 |i+1=>by simp[So,bC f b l i]
theorem G3{α:Type}[Inhabited α]{l:List α}{i:Nat}(h:i<l.length):l.getD i default=l[i]:=by simp[List.getD,ABs h]
theorem j3(f:BD->Int)(b:Int)(l:List BD):∀i,i<=l.length->(So f b l i).sum=b+((l.take i).map f).sum
 |0,_=>by simp[So]
 |i+1,h=>by
  have Cg:=j3 f b l i AGn;rw[So,AD3,Cg,List.take_add_one,ABs AGn,G3 AGn,List.map_append,AD3];simp only[Option.toList_some,AB8,List.map_nil,ADr,List.sum_nil];omega
theorem sum_neg(f:BD->Int):∀l:List BD,(l.map fun h=> -f h).sum= -(l.map f).sum
 |[]=>rfl
 |h::r=>by
  simp only[AB8,ADr,sum_neg f r];omega
theorem AdN(a:AD):(So (fun h=>h.DV) a.BT a.A0 a.A0.length).sum=I7 a:=by
 rw[j3 _ _ _ _ (ABW _),ACB];rfl
theorem AdM(a:AD):(So (fun h=> -h.Fc) a.BT a.A0 a.A0.length).sum=IU a:=by
 rw[j3 _ _ _ _ (ABW _),ACB,sum_neg];show a.BT+ -(a.A0.map fun h=>h.Fc).sum=a.BT-(a.A0.map fun h=>h.Fc).sum;omega
theorem Wy{l:List BD}(hh:LI l=true){i:Nat}(Ag:i<l.length):Nh (fun k=>(l.getD k default).Bn) i<(l.getD i default).Bn/\(l.getD i default).Bn<=5/\1<=(l.getD i default).G0/\0<=(l.getD i default).DV/\0<=(l.getD i default).Fc:=by
 have h:=Nz.1 hh i Ag;simp only[eU,ABe,ABD,ABl]at h;omega
theorem jx{l:List BD}(hh:LI l=true):∀i,i<l.length->(i:Int)+1<=(l.getD i default).Bn
 |0,Ag=>by
  have:=(Wy hh Ag).1;simp only[Nh]at this;omega
 |i+1,Ag=>by
  have:=(Wy hh Ag).1;have Cg:=jx hh i AGn;simp only[Nh]at this;omega
theorem PC{l:List BD}(hh:LI l=true):l.length<=5:=by
 rcases Nat.eq_zero_or_pos l.length with h|h
 · omega
 · have Af:=jx hh (l.length-1) AGn;have h2:=(Wy hh (i:=l.length-1) AGn).2.1;omega
theorem W2{α:Type}[DecidableEq α]{x y:List α}(h:x.length≠y.length):decide (x=y)=false:=ABM (fun e=>h (by rw[e]))
theorem W1{α:Type}[DecidableEq α][Inhabited α]{x y:List α}(i:Nat)(h:x.getD i default≠y.getD i default):decide (x=y)=false:=ABM fun e=>h (by rw[e])
theorem W0{α:Type}[DecidableEq α][Inhabited α]{x y:List α}(AN:x.length=y.length)(h:∀j,j<x.length->x.getD j default=y.getD j default):decide (x=y)=true:=by
 refine ABG (List.ext_getElem AN fun i Af h2=>?_);have:=h i Af;simpa[List.getD,ABs Af,ABs h2]using this
def Xc(x y:AD):Bool:=decide (x.Al=y.Al)&&decide (x.Cs=y.Cs)&&decide (x.BT=y.BT)&&decide (x.Cn=y.Cn)&&decide (x.A0=y.A0)&&decide (x.BG=y.BG)
theorem LU:A' 0:=⟨AGp,AGp⟩
def Fj:AD:=⟨ByteArray.empty,⟨0,0⟩,0,0,[],⟨0,0,0,0⟩⟩
def Sq(k:ByteArray):AD:=⟨if Ix k=true then k else ByteArray.empty,⟨0,0⟩,0,0,[],⟨0,0,0,0⟩⟩
theorem rI(k:ByteArray):(Sq k).wf:=by
 refine⟨?_,⟨LU,LU⟩,LU,LU,trivial,LU,LU,LU,LU⟩;show(if Ix k=true then k else ByteArray.empty).size<=_;split
 · rename_i h;simp only[Ix,ABb,ABa]at h;omega
 · decide
def kd(k:ByteArray):Int:=if Ix k=true then 0 else 1
def AvC(a:AD):Bool:=decide (kd a.Al=0)&&Xc a (Sq a.Al)
def AuW(f:BD->Int)(b:Int)(l:List BD):Nat->Int
 |0=>b
 |i+1=>AuW f b l i+f (l.getD i default)
def AuV(f:BD->Int)(b:Int)(l:List BD):Nat->Int
 |0=>b
 |i+1=>AuV f b l i-f (l.getD i default)
theorem AwO(f:BD->Int)(b:Int)(l:List BD):∀i,AuW f b l i=(So f b l i).sum
 |0=>by simp[AuW,So]
 |i+1=>by rw[AuW,So,AD3,AwO f b l i];simp
theorem AwN(f:BD->Int)(b:Int)(l:List BD):∀i,AuV f b l i=(So (fun h=> -f h) b l i).sum
 |0=>by simp[AuV,So]
 |i+1=>by
  rw[AuV,So,AD3,AwN f b l i];simp only[ADr,List.sum_nil];omega
theorem Av5{f:BD->Int}{b:Int}{l:List BD}(Aq:A' b)(h:∀x∈l,A' (f x)):∀i,i<=l.length-> -(((i:Int)+1)*9223372036854775808)<=AuW f b l i/\AuW f b l i<=((i:Int)+1)*9223372036854775808
 |0,_=>by obtain⟨Af,h2⟩:=Aq;simp only[AuW];omega
 |i+1,Ag=>by
  have Cg:=Av5 Aq h i AGn;obtain⟨Af,h2⟩:=h _ (Hl (l:=l) (i:=i) AGn);simp only[AuW];omega
theorem Av4{f:BD->Int}{b:Int}{l:List BD}(Aq:A' b)(h:∀x∈l,A' (f x)):∀i,i<=l.length-> -(((i:Int)+1)*9223372036854775808)<=AuV f b l i/\AuV f b l i<=((i:Int)+1)*9223372036854775808
 |0,_=>by obtain⟨Af,h2⟩:=Aq;simp only[AuV];omega
 |i+1,Ag=>by
  have Cg:=Av4 Aq h i AGn;obtain⟨Af,h2⟩:=h _ (Hl (l:=l) (i:=i) AGn);simp only[AuV];omega
theorem AwP(a:AD):AuW (fun h=>h.DV) a.BT a.A0 a.A0.length=I7 a:=by rw[AwO,AdN]
theorem AwM(a:AD):AuV (fun h=>h.Fc) a.BT a.A0 a.A0.length=IU a:=by rw[AwN,AdM]
theorem AvS{x:Int}{i:Nat}(Ag:i<=5)(h: -(((i:Int)+1)*9223372036854775808)<=x/\x<=((i:Int)+1)*9223372036854775808):gV x:=by unfold gV;omega
theorem AAf{a:AD}(hw:a.wf)(F5:∀x∈a.A0,x.wf)(hh:LI a.A0=true):gV (I7 a):=by
 rw[<-AwP];exact AvS (PC hh) (Av5 hw.2.2.1 (fun x Ab=>(F5 x Ab).2.2.1) _ (ABW _))
theorem Ayg{a:AD}(hw:a.wf)(F5:∀x∈a.A0,x.wf)(hh:LI a.A0=true):gV (IU a):=by
 rw[<-AwM];exact AvS (PC hh) (Av4 hw.2.2.1 (fun x Ab=>(F5 x Ab).2.2.2) _ (ABW _))
theorem Az9{a:AD}(h:a.wf):mW (a.BT+a.BG.B2):=by
 obtain⟨Af,h2⟩:=h.2.2.1;obtain⟨Bo,BB⟩:=h.2.2.2.2.2.2.2.2;unfold mW;omega
def Avg(a:AD):Bool:= !Ix a.Al|| !Rb a.Cs a.BT||decide (a.Cn<0)
def AvF(a:AD):Bool:=Av3 (I7 a) a.Cs.Bc||decide ((wide (IU a-a.Cs.A6)).Bc<0)
def Awh(a:AD):Bool:=Rb a.Cs (IntKind.i64.wrap ((a.BT+a.BG.B2) % 18446744073709551616))
def Au6(a:AD):Bool:=if Avg a=true then false else if LI a.A0=true then(if AvF a=true then false else if decide (a.BG.Ap=0)=true then decide (a.BG=⟨0,0,0,0⟩)else Sk a.BG&&decide ((a.A0.length:Int)=0)&&J3 (a.BT+a.BG.B2)&&Awh a)else false
def AwC(l:List AD)(j:Nat):Bool:= !Au6 (l.getD j default)||AvC (l.getD j default)||(decide ((j:Int)>0)&&fc (l.getD j default).Al (l.getD ((j:Int)-1).toNat default).Al)
def Au3(l:List AD):Bool:=if allI l.length (fun j=> !AwC l j)=true then decide ((l.length:Int)<=12)else false
def Avr(s:Bv):Bool:= !Ih s.CZ|| !AuX s.DX|| !AuX s.Dn|| !AuX s.Jc|| !AuX s.JL|| !AuX s.GW
def Avf(s:Bv):Bool:=((!s.Du)&&((!decide (s.A6=ByteArray.empty))||(!decide (s.Bc=ByteArray.empty))||decide ((s.Aj.length:Int)>0)||decide ((s.AA.length:Int)>0)||(!decide (s.Bt=⟨0,0,0,ByteArray.empty,ByteArray.empty,0,0⟩))))||(s.Du&&(decide (s.Dn<1)|| !PQ s.A6 s.Bc))
def AvD(s:Bv):Bool:= !Au3 s.Aj|| !AvA s.Bz|| !Avi s.Bj|| !Avx s.CX||decide ((s.AA.length:Int)>8)
def AvE(s:Bv):Bool:=(!decide (s.Bt=⟨0,0,0,ByteArray.empty,ByteArray.empty,0,0⟩))&&(!Avq s.Bt|| !decide (s.Bt.Hi=s.CZ)|| !decide (s.Bt.Bc=s.Bc)|| !F' s s.Bt.A6)
def Awv(s:Bv):Bool:=decide ((Er s.Cf).2=0)&&Avq s.CW&&decide (s.CW.Hi=s.CZ)
def Ava(s:Bv):Bool:=allI s.Aj.length (fun j=>F' s (s.Aj.getD j default).Al)
def Avt(s:Bv):Bool:=allI s.AA.length (fun j=>Au8 s (s.AA.getD j default))
def AuY(s:Bv):Bool:=if Avr s=true then false else if Avf s=true then false else if AvD s=true then false else if Ava s=true then(if Avt s=true then(if AvE s=true then false else if decide (s.CW=⟨0,0,0,ByteArray.empty,ByteArray.empty,0,0⟩)=true then decide ((s.Cf.length:Int)=0)else Awv s)else false)else false
def mV:FL:=⟨0,ByteArray.empty,ByteArray.empty,0,0,0⟩
def F8(n:Int):Bv:=⟨if Ih n=true then n else 0,0,Ih n&&decide (n=1),ByteArray.empty,ByteArray.empty,if Ih n=true then(if n=1 then 1 else 0)else 0,[],[],[],[],[],⟨0,0,0,ByteArray.empty,ByteArray.empty,0,0⟩,⟨0,0,0,ByteArray.empty,ByteArray.empty,0,0⟩,[],0,0,0⟩
structure ZS where
 Yb:AD
 CZ:Int
 deriving DecidableEq,Inhabited
end Go.Apw
namespace Go.A_
section
theorem n6:∀(n:Nat) (f g:Nat->Bool) (i:Nat),i<n->f i=true->g i=false->(∀j,j≠i->g j=f j)->(List.range n).countP g+1=(List.range n).countP f
 |0,_,_,_,h,_,_,_=>by omega
 |n+1,f,g,i,Ag,BI,CK,he=>by
  rw[List.range_succ,List.countP_append,List.countP_append];by_cases h:i=n
  · subst h;have:(List.range i).countP g=(List.range i).countP f:=List.countP_congr fun j Ay=>by rw[he j (by have:=ABw.1 Ay;omega)]
    rw[this];simp[BI,CK]
  · have Cg:=n6 n f g i AGn BI CK he;have e:[n].countP g=[n].countP f:=(by simp only[List.countP_cons,List.countP_nil,he n (Ne.symm h)]);rw[e];omega
section
variable{c:Cj} {l:List Oper} {s:Iq} {env:Env} {D:List Atom} {Q:AuE}
def R'(AJ n:Nat):Array Bool:=((List.range n).map fun i=>decide (i<AJ)).toArray
theorem OG.Aj8{r:List Oper}{AJ:Nat}(h:OG c l s env D (r.take AJ) 0){i:Nat}(Ag:i<AJ){o:Oper}(A7:r[i]? =some o)(V:Nat->Value)(Az:List Atom)(LC:E7 (fun k=>s.Eb k=none->s.ok k (V k)) (s.E8 i)):
 E7 (fun h=>Cb (Nf c l s (D++Az) i h (h.map V)) c l.toArray [o] (Eo l (EC s.Eb V) (s.E8 i)++env) (s.L h (h.map V)) (FM s.rs (EC s.Eb V) (s.E8 i)++(D++Az))) (Ro l s i):=by
 have:=h.at_ i o (by rw[ACl,AA_ Ag];exact A7) V Az (by rw[AB0];exact LC)
 rwa [AB0]at this
theorem yS(C':ND l=true){k i:Nat}(h:Gp l k i=true):k<i:=by
 rcases ACq i l.length with Ee|Ee
 · have A7:l[i]? =some l[i]:=ABs Ee;obtain⟨e,he,Aq,rfl⟩:=(S9 A7).1 h;have M7:=ABq.1 C' i (ABw.2 Ee);rw[A7]at M7;have:=ABq.1 M7 e (AC3.2 he);rw[Aq]at this;exact EU (by simpa using this)
 · rw[Gp,ACd Ee]at h;cases h
theorem AhY(AJ:Nat)(s:Iq)(Yq:s.hs=[[]])(BB:OL l s=true)(C':ND l=true):(s.Eu.all fun x=>Nat.blt x AJ)=true/\E7 (fun h=>∀V:Nat->Value,s.L h (h.map V)=s.L [] []) (Q6 s):=by
 have he:∀x,x∈s.Eu->False:=by
  intro x;induction x using Nat.strongRecOn with
  |_ x Cg=>
   intro Ab;simp only[OL,ABb]at BB;have h:=BB.2;rw[Yq]at h;have h:=ABq.1 (ABq.1 h [] (ABx ..)) x Ab;simp only[List.contains_nil,Bool.or_false,Bool.false_or,ABk,ABe,List.nil_append]at h;rcases h with h|h
   · obtain⟨y,Bf,Acz⟩:=List.all_eq_false.1 h;exact Cg y (yS C' (by simpa using Acz)) Bf
   · simp at h
 refine⟨ABq.2 fun x Ab=>(he x Ab).elim,?_⟩;rw[Q6,Yq];refine E7.intro fun h hh=>?_;have:=(ABZ.1 hh).1;simp only[ABf,ABh,ABi]at this;subst this;exact fun _=>rfl
theorem AbC(AJ:Nat)(s:Iq)(XJ:(Nat->Value)->Own)(Af:S6 l s.E8=true)(h2:(List.range AJ).all (fun i=>dI l env i)=true)(C':ND l=true)(EY:LX l c.n=true)(BB:OL l s=true)
 (LY:∀A8:Array Bool,(∀i k,A8.getD i false=true->Gp l k i=true->A8.getD k false=true)->∀i,AJ<=i->i<l.length->(∀k,Gp l k i=true->A8.getD k false=true)->∀k,k<AJ->A8.getD k false=true)
 (AbE:(s.Eu.all fun x=>Nat.blt x AJ)=true)(aY:AJ<=l.length){L:Own}(Dv:s.L [] []=L)(Ge:E7 (fun h=>∀V:Nat->Value,s.L h (h.map V)=XJ V) (Q6 s))(Dk:OG c l s env D (l.take AJ) 0)(A:Nat->Array Bool->Act->World->Prop)
 (Cl:∀f A8 a w,Region.ready .any l.toArray A8≠[]->(∀i∈Region.ready .any l.toArray A8,∀Q',wpOp c.P l.toArray Q' i (A f (A8.setIfInBounds i true)) a w)->A (f+1) A8 a w)
 (k:∀V:Nat->Value,E7 (fun i=>(CN l i).isSome=true->s.Eb i=none->s.ok i (V i)) (List.range AJ)->∀a w,Fr c.n a (Eo l (EC s.Eb V) (List.range AJ)++env)->CI c.BW c.M w (XJ V)->BP (FM s.rs (EC s.Eb V) ((List.range AJ).filter fun i=>(CN l i).isSome)++D) w (XJ V)->A (l.length-AJ) (R' AJ l.length) a w)
 {a:Act}{w:World}(f:Fr c.n a env)(st:CI c.BW c.M w L)(AR:BP D w L):A l.length (Array.replicate l.length false) a w.drew:=by
 subst Dv;have hs:=C8.drew [] w;have NS:Nu c l s env D (Array.replicate l.length false) a w.drew []:=by
  refine⟨f,st.step hs,AR.step hs.nil,by simp,fun i k h _=>?_,fun i d h _=>?_,fun x _=>?_,fun x Ab=>(by cases Ab),?_⟩
  · rw[Px]at h;cases h
  · rw[Px]at h;cases h
  · rw[Px];simp
  · simp only[OL,ABb]at BB;simpa using BB.1.1
 have key:∀(m:Nat) (A8:Array Bool) (a:Act) (w:World) (hh:List Nat),Nu c l s env D A8 a w hh->(∀i,AJ<=i->A8.getD i false=false)->(List.range AJ).countP (fun i=> !A8.getD i false)=m->
  A (m+(l.length-AJ)) A8 a w:=by
  intro m;induction m with
  |zero=>
   intro A8 a w hh Qn Av Bm;have C0:∀i,i<AJ->A8.getD i false=true:=fun i Ag=>by
    have:=List.countP_eq_zero.1 Bm i (ABw.2 Ag);simpa using this
   have heq:A8=R' AJ l.length:=by
    apply Array.ext
    · simp[Qn.size,R']
    · intro i Hj G1;have e:A8[i]=A8.getD i false:=(by simp[Hj]);rw[e];simp only[R',List.getElem_toArray,List.getElem_map,List.getElem_range];by_cases Ag:i<AJ
      · rw[C0 i Ag];simp[Ag]
      · rw[Av i AGn];simp[Ag]
   have BI:hh∈Q6 s:=ABZ.2 ⟨Qn.mem,ABq.2 fun x Ab=>by simpa using(Qn.done x Ab).1 (C0 x (EU (ABq.1 AbE x Ab)))⟩;have AH:=Ge.mem hh BI (valOf l a);have Gg:=Qn.st;have R_:=Qn.AR;have NM:=Qn.slot;rw[AH]at Gg R_ NM;subst heq;rw[AB0];have Se:∀k,k<AJ->(CN l k).isSome=true->s.Rm k (valOf l a k):=fun k AE F6=>by
    obtain⟨d,F6⟩:=ACC.1 F6;have:=(NM k d (C0 k AE) F6).1;simpa[valOf,Il,F6]using this
   have B4:Eo l (valOf l a) (List.range AJ)=Eo l (EC s.Eb (valOf l a)) (List.range AJ):=UC fun k AE F6=>bZ (Se k (ABw.1 AE) F6);have DC:FM s.rs (valOf l a) ((List.range AJ).filter fun i=>(CN l i).isSome)=FM s.rs (EC s.Eb (valOf l a)) ((List.range AJ).filter fun i=>(CN l i).isSome):=ZY fun k AE=>bZ (Se k (ABw.1 (ABZ.1 AE).1) (by simpa using(ABZ.1 AE).2));have AE:=k (valOf l a) (E7.intro fun i Ag F6 Ao=>ky (Se i (ABw.1 Ag) F6) Ao);rw[<-B4,<-DC]at AE;refine AE _ _ (Qn.frame EY fun k AE=>ACp (ABw.1 AE) aY) Gg (BP.app (fun t Av=>?_) R_);obtain⟨i,Ag,Av⟩:=WR Av;obtain⟨Tp,F6⟩:=ABZ.1 Ag;obtain⟨d,F6⟩:=ACC.1 F6;have:=(NM i d (C0 i (ABw.1 Tp)) F6).2;simp only[valOf,Il,F6]at Av;exact this t Av
  |succ m Cg=>
   intro A8 a w hh Qn Av Bm;rw[show m+1+(l.length-AJ)=(m+(l.length-AJ))+1 by omega];have hex:∃i,i<AJ/\A8.getD i false=false:=by
    refine AEj fun Ao=>?_;have:(List.range AJ).countP (fun i=> !A8.getD i false)=0:=List.countP_eq_zero.2 fun i Ag=>by
     simp only[ABe,AB_];refine AEj fun h=>Ao ⟨i,ABw.1 Ag,by simpa using h⟩
    omega
   refine Cl _ _ _ _ (fun Bh=>?_) (fun i Ag Q'=>?_)
   · exfalso;obtain⟨i0,OW,bh⟩:=hex;have C0:∀i,i<l.length->A8.getD i false=true:=by
      intro i;induction i using Nat.strongRecOn with
      |_ i AcC=>
       intro Ee;cases Tr:A8.getD i false with
       |true=>rfl
       |false=>
        exfalso;have:i∈Region.ready .any l.toArray A8:=by
         refine mem_ready.2 ⟨by rw[OQ (by rw[Qn.size];exact Ee)];exact Tr,l[i],by simp[ABs Ee],fun e he Aq=>?_⟩;have M7:=ABq.1 C' i (ABw.2 Ee);rw[ABs Ee]at M7;have:=ABq.1 M7 e (AC3.2 he);rw[Aq]at this;have C_:=EU (by simpa using this);exact AcC e.on C_ AGn
        rw[Bh]at this;cases this
     rw[C0 i0 AGn]at bh;cases bh
   · obtain⟨Ib,o,Wx,WB⟩:=mem_ready.1 Ag;have A7:l[i]? =some o:=(by simpa using Wx);have Ee:i<l.length:=(ABF.1 A7).1;have IE:i<A8.size:=(by rw[Qn.size];exact Ee);have Jg:A8.getD i false=false:=(by rw[<-OQ IE];exact Ib);have jo:i<AJ:=by
      rcases ACq i AJ with h|h
      · exact h
      · obtain⟨i0,OW,bh⟩:=hex;have:=LY A8 Qn.closed i h Ee (fun k AE=>by
         obtain⟨e,he,Aq,rfl⟩:=(S9 A7).1 AE;exact WB e he Aq) i0 OW
        rw[this]at bh;cases bh
     refine(Qn.tE (Q:=Q') Af (ABq.1 h2 i (ABw.2 jo)) BB EY Ag (fun Lg Qc V Az LC=>Dk.Aj8 jo Qc V Az LC) fun Dx AT DI WO=>?_);refine Cg _ Dx AT DI WO (fun j Ay=>?_) ?_
     · rw[Ia IE,Av j Ay];have:(i==j)=false:=(by simpa using(by omega:i≠j));rw[this];rfl
     · have C_:(List.range AJ).countP (fun k=> !(A8.setIfInBounds i true).getD k false)+1=(List.range AJ).countP (fun k=> !A8.getD k false):=by
        refine n6 AJ _ _ i jo (by rw[Jg];rfl) (by rw[Ia IE];simp) fun j Ay=>?_;rw[Ia IE];have:(i==j)=false:=(by simpa using Ne.symm Ay);rw[this];rfl
       omega
 have Ts:(List.range AJ).countP (fun i=> !(Array.replicate l.length false).getD i false)=AJ:=by
  rw[List.countP_eq_length_filter,List.filter_eq_self.2 fun i _=>by rw[Px];rfl,List.length_range]
 have:=key AJ _ a w.drew [] NS (fun i _=>Px _ _) Ts
 rwa [show AJ+(l.length-AJ)=l.length by omega]at this
end
end
open Go.RowKit
structure mZ (NT b:Nat) (A B:World):Prop where
 size:A.heap.size<=B.heap.size
 block:∀k,k<NT->k≠b->B.heap[k]? =A.heap[k]?
theorem Below.I3{NT b:Nat}{A B:World}(h:Below NT A B):mZ NT b A B:=⟨h.size,fun k AE _=>h.block k AE⟩
theorem C8.I3{NT b:Nat}{M:List Nat}{A B:World}(h:C8 M A B)(Ao:NT<=A.heap.size)(UU:∀k,k<NT->k∈M->k=b):mZ NT b A B:=
 ⟨h.size,fun k AE Aq=>h.block k (ACp AE Ao) (fun hm=>Aq (UU k AE hm))⟩
def mk(k:Nat):Deferred:={target:=.collected k,args:= #[]}
section
def JI:Value->Nat->Value
 | .slice (some a) _ _,o=>.pointer (some (a.add o))
 |_,_=>undef
theorem T0:∀(us cs:List Value) (o j:Nat),o+us.length<=cs.length->(MO cs o us)[j]? =if o<=j/\j<o+us.length then us[j-o]? else cs[j]?
 |[],cs,o,j,_=>by
  rw[MO,AA9 (by simp)]
 |u::us,cs,o,j,h=>by
  simp only[ABv]at h;rw[MO,T0 us (cs.set o u) (o+1) j (by simp;omega)];by_cases Af:o+1<=j/\j<o+1+us.length
  · rw[AA_ Af,AA_ (by simp only[ABv];omega),show j-o=(j-(o+1))+1 by omega];rfl
  · rw[AA9 Af];by_cases h2:j=o
    · subst h2;rw[AA_ (by simp),ACP AGn];simp
    · rw[AA9 (by simp only[ABv];omega),ACT (Ne.symm h2)]
theorem cE:∀(us cs:List Value) (o:Nat),(MO cs o us).length=cs.length
 |[],_,_=>rfl
 |_::us,cs,o=>by rw[MO,cE us];simp
theorem Vj{α:Type}[r:Be α]{S:Nat->Prop}{w:World}{e:TypeId}{v:Value}{xs:List α}(h:(row e v xs).holds S w)(Ab:xs≠[]):
 ∃(g cap:Nat) (cs:List Value) (Cy:List (List Value)),v=.slice (some ⟨g,0,none⟩) xs.length cap/\w.heap[g]? =some (.cells cs.toArray e (0,0))/\xs.length<=cap/\cap<=maxLen/\cs.length=cap*Be.size α/\cs.take (xs.length*Be.size α)=Cy.flatten/\HM S w Cy xs/\xs.length<=140737488355328:=by
 obtain⟨Cy,G8,Ep,AN⟩:=h;rcases G8.2 with⟨_,Ao⟩|⟨g,cap,cur,BC,_,CK,Bm,hm,hs,Av⟩
 · exact absurd (ADd.1 Ao) Ab
 · exact⟨g,cap,cur.toList,Cy,BC,by simpa using CK,Bm,hm,by simpa using hs,Av,Ep,AN⟩
theorem ct{w:World}{g:Nat}{e:TypeId}{cs RX:List Value}{k:Nat}(CK:w.heap[g]? =some (.cells cs.toArray e (0,0)))(Av:cs.take k=RX):Lt w g 0 RX:=fun j u Ay=>by
 subst Av;rw[ACl]at Ay;split at Ay
 · rw[AB9 w g _ _ e (0,0) CK];simpa using Ay
 · cases Ay
section
variable{c:Cj} {ops:Array Oper} {AP:Cj->Array Oper->List Oper->Env->Own->List Atom->Prop} [Dr:Ip AP] {env:Env} {L:Own} {D:List Atom} {rest:List Oper} {d:Nat} {v:Value} {t:TypeId} {p:String} {af:Array Edge} {x y z:Operand} {T:TypeId}
include Dr
theorem AcX{α:Type}{r:Be α}(i:Nat){xs:List α}{m:Int}{E e:TypeId}(Ab:AL env x=some v)(Ag:L[i]? =some (@row α r e v xs))(Bf:AL env y=some (.int .i64 m))(Av:H5 c.P T E r.size)(Bw:0<=m)(Af:m<(xs.length:Int))(Ao:Nat.blt d c.n=true)
 (k:AP c ops rest ((d,JI v (m.toNat*r.size))::env) L D):AP c ops (⟨some d,.indexAddr T x y,t,p,af,none⟩::rest) env L D:=
 Dr.read (σ:=Unit) rfl rfl (fun _=>(d,JI v (m.toNat*r.size))::env) (fun _=>D) (fun a w f st AR=>by
  obtain⟨g,cap,cs,Cy,rfl,_⟩:=@Vj α r _ _ _ _ _ (st.own _ (AA' Ag)) (by intro e;rw[e]at Af;simp at Af;omega);obtain⟨j,Ay,hs⟩:=Option.map_eq_some_iff.1 Av.2;refine⟨(),_,fun AT HW=>?_,f.put _ (EU Ao),AR⟩;simp[execOp,f.AL Ab,f.AL Bf,Instr.indexAt,asIntOf,ABQ Av.1,Bw,Af,sizeOf,typeInfo,Ay,hs,JI]) (fun _=>k)
theorem Qk{α:Type}{s:Shape α}(i m:Nat){xs:List α}{ov:α}{e:TypeId}(Ab:AL env x=some (JI v (m*s.size)))(Ag:L[i]? =some (@row α (Be.D5 s) e v xs))(hm:xs[m]? =some ov){E:TypeId}(Av:Oc c.P E s.size)(Ao:Nat.blt d c.n=true)
 (k:∀h,s.wf ov->AP c ops rest ((d,.agg (s.cells ov h).toArray)::env) L ((@Atom.mk α (Be.D5 s) (.agg (s.cells ov h).toArray) ov)::(s.sub ov h++D))):
 AP c ops (⟨some d,.load E x,t,p,af,none⟩::rest) env L D:=
 Dr.read (σ:={h // s.wf ov}) rfl rfl (fun h=>(d,.agg (s.cells ov h.1).toArray)::env) (fun h=>(@Atom.mk α (Be.D5 s) (.agg (s.cells ov h.1).toArray) ov)::(s.sub ov h.1++D)) (fun a w f st AR=>by
  have Hv:=AA' Ag;obtain⟨g,cap,cs,Cy,rfl,CK,_,_,_,Md,Ep,_⟩:=@Vj α (Be.D5 s) _ _ _ _ _ (st.own _ Hv) (by intro e;rw[e]at hm;simp at hm);obtain⟨Cx,⟨h,rfl,Lc,Oi⟩,AN⟩:=@PH α (Be.D5 s) _ _ _ Cy xs 0 Ep (ct CK Md) m ov hm;have P':g∈L.J:=FW.2 ⟨_,Hv,by simp[Value.ownBlock]⟩;refine⟨⟨h,Oi⟩,.agg (s.cells ov h).toArray,fun AT hs=>?_,f.put _ (EU Ao),BP.cons ⟨rfl,⟨h,by simp[Value.cells],Lc,Oi⟩⟩ (BP.app (fun t Av=>Lc t Av) AR)⟩;have Sc:Lt AT g (0+m*s.size) (s.cells ov h):=AN.DY (hs.block g (TD CK) (by simp));have Ek:=fU (P:=c.P) (T:=E) (b:=g) (o:=0+m*s.size) (cs:=s.cells ov h) (by rw[s.len];exact Av) Sc;have HX:=f.AL Ab;simp only[JI,ACm,AB0]at HX Ek;simp[execOp,HX,Ek]) (fun h=>k h.1 h.2)
end
section
variable{c:Cj} {ops:Array Oper} {Q:AuE} {env:Env} {L:Own} {D:List Atom} {rest:List Oper} {v:Value} {t:TypeId} {p:String} {af:Array Edge} {x y z:Operand}
theorem Qz{α:Type}{s:Shape α}(i m:Nat){xs:List α}{ov:α}{e:TypeId}(h:s.H)(Ab:AL env x=some (JI v (m*s.size)))(Bf:AL env y=some (.agg (s.cells ov h).toArray))(Ag:L[i]? =some (@row α (Be.D5 s) e v xs))(hm:m<xs.length){E:TypeId}(Av:Oc c.P E s.size)(Cl:Bg (s.sub ov h) D)(hw:s.wf ov)
 (k:Cb Q c ops rest env (L.set i (@row α (Be.D5 s) e v (xs.set m ov))) D):Cb Q c ops (⟨none,.store E x y,t,p,af,none⟩::rest) env L D:=by
 refine c6 (env':=env) rfl rfl (fun a w f st AR=>?_) k;have Hv:=AA' Ag;obtain⟨g,cap,cs,Cy,rfl,CK,Bm,Yt,EY,Md,Ep,hlen⟩:=@Vj α (Be.D5 s) _ _ _ _ _ (st.own _ Hv) (by intro e;rw[e]at hm;simp at hm);have Fy:@Be.size α (Be.D5 s)=s.size:=rfl;rw[Fy]at EY Md;obtain⟨us,I1⟩:∃us,us=s.cells ov h:=⟨_,rfl⟩;have e0:us.length=s.size:=by rw[I1];exact s.len ov h
 have P':g∈L.J:=FW.2 ⟨_,Hv,by simp[Value.ownBlock]⟩;have Sd:(m+1)*s.size<=cap*s.size:=ACw _ AGn;rw[ACX]at Sd;have Lc:∀t∈s.sub ov h,t.holds (Et L.J w) w:=fun t Av=>AR t (Cl t Av);have Ab7:us.toArray.all (·.oneCell')=true:=by
  rw[I1];simpa using s.one ov h Lc
 have hs:C8 [g] w (w.setCells g (m*s.size) us):=cG g us _ w;have Mc:=aU us cs (m*s.size) w CK;have EX:C8 (@row α (Be.D5 s) e (.slice (some ⟨g,0,none⟩) xs.length cap) xs).J w (w.setCells g (m*s.size) us):=hs.mono fun b Aq=>by simpa[Value.ownBlock]using Aq
 have UW:∀b,Et L.J w b->Et (Own.J (L.set i (@row α (Be.D5 s) e (.slice (some ⟨g,0,none⟩) xs.length cap) (xs.set m ov)))) (w.setCells g (m*s.size) us) b:=fun b Aq=>⟨ACp Aq.1 hs.size,fun Ab=>by
  rcases OK Ag b Ab with Af|Af
  · have:b=g:=(by simpa[Value.ownBlock]using Af);exact Aq.2 (this▸P')
  · exact Aq.2 Af⟩
 have UT:∀b,Et L.J w b->(w.setCells g (m*s.size) us).heap[b]? =w.heap[b]? :=fun b Aq=>hs.block b Aq.1 (fun Ab=>by
  have:b=g:=(by simpa using Ab);exact Aq.2 (this▸P'))
 have Gg:=st.KB (p':=@row α (Be.D5 s) e (.slice (some ⟨g,0,none⟩) xs.length cap) (xs.set m ov)) i Ag EX ?_ (by simp[Value.ownBlock]) (fun b Aq=>.inl Aq)
 · have R_:=AR.KB (p':=@row α (Be.D5 s) e (.slice (some ⟨g,0,none⟩) xs.length cap) (xs.set m ov)) i Ag EX (fun b Aq=>.inl Aq);refine⟨w.setCells g (m*s.size) us,?_,f.Su _,Gg,R_⟩;have Ek:=run_storeAt_mid (P:=c.P) w g (m*s.size) E us.toArray (fun j Ay=>by
    have J9:m*s.size+j<cs.length:=(by simp at Ay;omega);exact⟨by rw[AB9 w g _ _ e (0,0) CK];simp[ABs J9],frozen_of_row w g _ _ e CK⟩) (by rw[show us.toArray.size=s.size by simpa using e0];exact Av.2) Ab7
   have HX:=f.AL Ab;simp only[JI,ACm,AB0]at HX;have U6:=f.AL Bf;rw[<-I1]at U6;simp[execOp,HX,U6,Ek]
 · -- the row as it is now
   have a7:∀FV MT,(xs.set m ov)[FV]? =some MT->∃Cx,@Be.rd α (Be.D5 s) (Et (Own.J (L.set i (@row α (Be.D5 s) e (.slice (some ⟨g,0,none⟩) xs.length cap) (xs.set m ov)))) (w.setCells g (m*s.size) us)) (w.setCells g (m*s.size) us) Cx MT/\Lt (w.setCells g (m*s.size) us) g (0+(0+FV)*s.size) Cx:=by
    intro FV MT HX;by_cases Sb:FV=m
    · subst Sb;rw[ACP hm]at HX;have:MT=ov:=(by simpa using HX.symm);subst this;refine⟨us,⟨h,I1,fun t Av=>Atom.DY (Lc t Av) UW UT,hw⟩,fun j u Ay=>?_⟩;have J9:j<us.length:=(ABF.1 Ay).1;simp only[AB0];rw[AB9 _ g _ _ e (0,0) Mc,ACA,T0 us cs _ _ AGn,AA_ AGn,show FV*s.size+j-FV*s.size=j by omega];exact Ay
    · rw[ACT (Ne.symm Sb)]at HX;obtain⟨Cx,K',OT⟩:=@PH α (Be.D5 s) _ _ _ Cy xs 0 Ep (ct CK Md) FV MT HX;have LH:Cx.length=s.size:=@Be.len α (Be.D5 s) _ _ _ _ K';refine⟨Cx,@Be.DY α (Be.D5 s) _ _ _ _ _ _ K' UW UT,fun j u Ay=>?_⟩;have J9:j<Cx.length:=(ABF.1 Ay).1;have hold:=OT j u Ay;simp only[AB0]at hold ⊢;rw[AB9 w g _ _ e (0,0) CK,ACA]at hold;rw[AB9 _ g _ _ e (0,0) Mc,ACA,T0 us cs _ _ AGn,AA9 ?_]
      · exact hold
      · rcases Nat.lt_or_gt_of_ne Sb with C_|C_
        · have:=ACw s.size (show FV+1<=m by omega);rw[ACX]at this;omega
        · have:=ACw s.size (show m+1<=FV by omega);rw[ACX]at this;omega
   obtain⟨RP,NL,Sc⟩:=@cn α (Be.D5 s) _ _ g 0 (xs.set m ov) 0 a7;have FF:=@HM.len α (Be.D5 s) _ _ RP _ NL;rw[Fy,ABj]at FF;refine⟨RP,⟨by rw[ABj];exact FF,.inr ⟨g,cap,(MO cs (m*s.size) us).toArray,by rw[ABj],ABg _,Mc,by rw[ABj];exact Bm,Yt,(show(MO cs (m*s.size) us).toArray.size=cap*s.size by simpa[cE]using EY),?_⟩⟩,NL,by rw[ABj];exact hlen⟩;rw[ABj];show List.take (xs.length*s.size) _=RP.flatten;refine List.ext_getElem? fun j=>?_;by_cases Ay:j<xs.length*s.size
   · rw[ACl,AA_ Ay];have U2:j<RP.flatten.length:=(by rw[FF];exact Ay);have:=Sc j _ (ABs U2);rw[AB9 _ g _ _ e (0,0) Mc,ACA]at this;rw[ABs U2,<-this];simp
   · rw[ACd (by simp;omega),ACd AGn]
end
end
section
section
variable{α:Type} [Inhabited α]
variable(lt:α->α->Bool)
def search(f:Nat->Bool):Nat->Nat->Nat->Nat
 |0,i,_=>i
 |n+1,i,j=>if i<j then(if f ((i+j) / 2)=true then search f n ((i+j) / 2+1) j else search f n i ((i+j) / 2))else i
theorem lI(f:Nat->Bool):∀(n i j:Nat),i<=j->i<=search f n i j/\search f n i j<=j
 |0,i,j,h=>⟨ABW _,h⟩
 |n+1,i,j,h=>by
  rw[search];split
  · rename_i Ag;split
    · have:=lI f n ((i+j) / 2+1) j AGn;omega
    · have:=lI f n i ((i+j) / 2) AGn;omega
  · omega
theorem lG(f:Nat->Bool)(n i j:Nat)(h:j<=i):search f n i j=i:=by
 cases n
 · rfl
 · rw[search,AA9 AGn]
end
end
end Go.A_
