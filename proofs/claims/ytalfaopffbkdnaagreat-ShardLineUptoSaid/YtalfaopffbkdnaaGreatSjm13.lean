/- Part 13 of shardLine_holds. -/
import Derived.Test.YtalfaopffbkdnaaGreatSjm12

set_option maxRecDepth 20000
set_option maxHeartbeats 1000000
open Go.A_
namespace Go.Apw
theorem N1:QL AGl:=⟨fun a=>by simp[AGl],fun a b c Af h2=>by simp only[AGl,decide_eq_true_eq]at*;omega,fun a b Af h2=>by simp only[AGl,decide_eq_true_eq,decide_eq_false_iff_not]at*;omega⟩
theorem Pa:QL Ds:=⟨fun a=>by cases h:Ds a a with|false=>rfl|true=>exact absurd rfl (Ad9 h),fun a b c Af h2=>lt_trans Af h2,fun a b Af h2=>(Ad_ Af).resolve_right h2⟩
theorem lj{α:Type}[Inhabited α]{f:α->Int}{P:α->Prop}{l:List α}:
 (∀j,j<l.length->¬f (l.getD j default)<=Nh (fun k=>f (l.getD k default)) j/\P (l.getD j default))↔(∀x∈l,0<f x/\P x)/\H6 f AGl l:=by
 constructor
 · intro h;have step:∀j,j+1<l.length->f (l.getD j default)<f (l.getD (j+1) default):=fun j Ay=>by
    have:=(h (j+1) Ay).1;simp only[Nh]at this;omega
   have up:∀d i,i+d+1<l.length->f (l.getD i default)<f (l.getD (i+d+1) default):=by
    intro d;induction d with
    |zero=>exact fun i Ag=>step i Ag
    |succ d Cg=>
     intro i Ag;have Af:=Cg i (by omega);have h2:=step (i+d+1) (by omega);rw[show i+(d+1)+1=i+d+1+1 by omega];omega
   have pos:∀j,j<l.length->0<f (l.getD j default):=by
    intro j Ay;have Bw:=(h 0 (by omega)).1;have Bw:¬f (l.getD 0 default)<=0:=Bw;rcases Nat.eq_zero_or_pos j with e|e
    · subst e;omega
    · have:=up (j-1) 0 (by omega);rw[show 0+(j-1)+1=j by omega]at this;omega
   refine⟨fun x Ab=>?_,List.pairwise_iff_getElem.2 fun i j Ag Ay GQ=>?_⟩
   · obtain⟨j,Ay,rfl⟩:=UP Ab;exact⟨pos j Ay,(h j Ay).2⟩
   · have:=up (j-i-1) i (by omega);rw[show i+(j-i-1)+1=j by omega,G3 Ag,G3 Ay]at this;exact decide_eq_true this
 · rintro⟨Af,h2⟩ j Ay;obtain⟨p,q⟩:=Af _ (Hl Ay);refine⟨?_,q⟩;cases j with
   |zero=>
    show ¬f (l.getD 0 default)<=0;omega
   |succ j=>
    have:=of_decide_eq_true (List.pairwise_iff_getElem.1 h2 j (j+1) (by omega) Ay (by omega));rw[<-G3 (by omega),<-G3 Ay]at this;show ¬f (l.getD (j+1) default)<=f (l.getD j default);omega
-- marks
structure dq (m:BL):Prop where
 hH:m.Ap<=8
 L3:0<=m.As
 Ey:m.As<=EW
 op:m.HV=true->¬m.As=0/\m.Cm=GS
theorem Rl{l:List BL}:Fg l=true↔(∀m∈l,0<m.Ap/\dq m)/\H6 (·.Ap) AGl l:=by
 rw[<-lj (f:=fun m:BL=>m.Ap) (P:=dq),Fg,Nz];refine forall_congr' fun j=>imp_congr_right fun Ay=>?_;simp only[fk,Bool.not_eq_true',Bool.or_eq_false_iff,Bool.and_eq_false_iff,Bool.not_eq_false',decide_eq_false_iff_not,decide_eq_true_eq];constructor
 · rintro⟨⟨⟨⟨a,b⟩,c⟩,d⟩,e⟩;refine⟨a,by omega,by omega,by omega,fun A7=>?_⟩;rcases e with e|e
   · rw[A7]at e;cases e
   · exact e
 · rintro⟨a,b,c,d,e⟩;refine⟨⟨⟨⟨a,by omega⟩,by omega⟩,by omega⟩,?_⟩;cases A7:(l.getD j default).HV with
   |false=>exact .inl rfl
   |true=>exact .inr (e A7)
theorem bG{l:List BL}{m:BL}(h:Fg l=true)(Bw:0<m.Ap)(hm:dq m):Fg (LP l m)=true:=by
 obtain⟨Af,h2⟩:=Rl.1 h;refine Rl.2 ⟨fun x Ab=>?_,W4 N1 h2⟩;rcases(PJ N1 h2).1 Ab with rfl|Ab
 · exact⟨Bw,hm⟩
 · exact Af x Ab.1
theorem zM{l:List BL}{c:Int}(h:(FU l c).2=true):Fg l=true/\(FU l c).1∈l/\(FU l c).1.Ap=c:=by
 unfold FU at h ⊢;split at h
 · cases h
 · rename_i hm;have hm:Fg l=true:=(by simpa using hm);split at h
   · cases h
   · rename_i Ag;have Ag:G9 (·.Ap) AGl c l=true:=(by simpa using Ag);rw[if_neg (by rw[hm];decide),if_neg (by rw[Ag];decide)];obtain⟨a,b⟩:=ZX N1 (Rl.1 hm).2 Ag;exact⟨hm,Hl a,b⟩
theorem nw{l:List BL}{c q:Int}(h:(IS l c q).2.2=0):Fg (IS l c q).1=true:=by
 unfold IS at h ⊢;split at h
 · cases h
 · rename_i hm;have hm:Fg l=true:=(by simpa using hm);rw[if_neg (by rw[hm];decide)];split at h
   · cases h
   · rename_i AK;rw[if_neg AK];simp only[Bool.or_eq_true,decide_eq_true_eq,not_or]at AK;split at h
     · cases h
     · rename_i Af;rw[if_neg Af];split
       · exact hm
       · exact bG hm (by show 0<c;omega) ⟨by show c<=8;omega,by show 0<=q;omega,by show q<=EW;omega,fun _=>⟨by show ¬q=0;omega,rfl⟩⟩
theorem fs{l:List BL}{c q:Int}(h:KQ l c q=0):Fg l=true/\(FU l c).1∈l/\(FU l c).1.Ap=c/\(FU l c).1.As=q/\(FU l c).1.HV=true:=by
 unfold KQ at h;split at h
 · cases h
 · split at h
   · cases h
   · rename_i h2;simp only[Bool.or_eq_true,not_or,Bool.not_eq_true',Bool.not_eq_false,decide_eq_true_eq]at h2;obtain⟨⟨a,b⟩,d⟩:=h2;obtain⟨x,y,z⟩:=zM a;exact⟨x,y,z,b,d⟩
theorem y1{l:List BL}{c q:Int}{a:De}(h:(Oe l c q a).2=0):Fg (Oe l c q a).1=true:=by
 unfold Oe at h ⊢;split at h
 · rename_i Ao;exact absurd h Ao
 · rename_i Ao;have A7:KQ l c q=0:=Classical.not_not.1 Ao;rw[if_neg Ao];obtain⟨x,y,z,b,d⟩:=fs A7;obtain⟨Bw,hm⟩:=(Rl.1 x).1 _ y;exact bG x (by show 0<c;omega) ⟨by show c<=8;have:=hm.hH;omega,by show 0<=q;have:=hm.L3;omega,by show q<=EW;have:=hm.Ey;omega,fun e=>by cases e⟩
theorem rj{l:List BL}{c q:Int}(h:(G' l c q).2=0):Fg (G' l c q).1=true:=by
 unfold G' at h ⊢;split at h
 · rename_i Ao;exact absurd h Ao
 · rename_i Ao;have A7:KQ l c q=0:=Classical.not_not.1 Ao;rw[if_neg Ao];obtain⟨x,y,z,b,d⟩:=fs A7;obtain⟨Bw,hm⟩:=(Rl.1 x).1 _ y;have:=hm.L3;have:=hm.Ey;have:=(hm.op d).1;exact bG x (by show 0<c;omega) ⟨by show c<=8;have:=hm.hH;omega,by show 0<=q-1;omega,by show q-1<=EW;omega,fun e=>by cases e⟩
theorem Ac5{a b:List BL}(h:(M_ a b).2=0):Fg (M_ a b).1=true:=by
 unfold M_ at h ⊢;split at h
 · cases h
 · rename_i Ao;rw[if_neg Ao];have Ao:(Fg a&&Fg b)=true:=(by simpa using Ao);rw[Bool.and_eq_true]at Ao;obtain⟨AK,Aq⟩:=Ao;have Bm:=(Rl.1 Aq).1;clear Aq;show Fg (b.foldl Ld a)=true;clear h;clear Ao;induction b generalizing a with
   |nil=>exact AK
   |cons m r Cg=>
    rw[List.foldl_cons];refine Cg ?_ fun x Ab=>Bm x (List.mem_cons_of_mem _ Ab);unfold Ld;split
    · exact bG AK (Bm m (List.mem_cons_self ..)).1 (Bm m (List.mem_cons_self ..)).2
    · exact AK
-- ends
theorem au{l:List Df}:HE l=true↔(∀e∈l,0<e.Ap/\Jj e.Ap e.As=true)/\H6 (·.Ap) AGl l:=by
 rw[<-lj (f:=fun m:Df=>m.Ap) (P:=fun e=>Jj e.Ap e.As=true),HE,Nz];refine forall_congr' fun j=>imp_congr_right fun Ay=>?_;simp only[Bool.not_eq_true',Bool.or_eq_false_iff,Bool.not_eq_false',decide_eq_false_iff_not]
theorem h5(l:List Df)(c:Int):H_ l c<=l.length:=by
 unfold H_;cases h:Gd l.length (fun j=>decide ((l.getD j default).Ap>=c))with
 |none=>exact Nat.le_refl _
 |some j=>exact Nat.le_of_lt (Q4 h)
theorem yW{l:List Df}(c:Int):(∀j,j<l.length->j<H_ l c->(l.getD j default).Ap<c)/\(H_ l c<l.length->c<=(l.getD (H_ l c) default).Ap):=by
 unfold H_;cases h:Gd l.length (fun j=>decide ((l.getD j default).Ap>=c))with
 |none=>
  refine⟨fun j Ay _=>?_,fun AN=>absurd AN (Nat.lt_irrefl _)⟩;have:=List.find?_eq_none.1 h j (List.mem_range.2 Ay);simp only[decide_eq_true_eq]at this;omega
 |some k=>
  have AE:=List.find?_range_eq_some.1 h;refine⟨fun j Ay Tq=>?_,fun _=>?_⟩
  · have:=AE.2.2 j Tq;simp only[Bool.not_eq_true',decide_eq_false_iff_not]at this;omega
  · have:=AE.1;simp only[decide_eq_true_eq]at this;exact this
theorem oF{l:List Df}(h:H6 (·.Ap) AGl l)(c:Int):H_ l c=Cz (·.Ap) AGl c l:=by
 obtain⟨a,b⟩:=yW (l:=l) c;obtain⟨p,q⟩:=fD N1 h c;have Om:=h5 l c;have Sl:=St (key:=fun e:Df=>e.Ap) (lt:=AGl) c l;rcases Nat.lt_trichotomy (H_ l c) (Cz (·.Ap) AGl c l)with g|g|g
 · have Af:=b (by omega);have h2:=of_decide_eq_true (p _ (by omega) g);rw[<-G3 (by omega)]at h2;omega
 · exact g
 · have Af:=a _ (by omega) g;have h2:=of_decide_eq_false (q _ (by omega) (Nat.le_refl _));rw[<-G3 (by omega)]at h2;omega
theorem AcQ{l:List Df}(h:H6 (·.Ap) AGl l)(c:Int):Sj l c=G9 (·.Ap) AGl c l:=by
 rw[Sj,G9,oF h]
theorem sF{l:List Df}{c q:Int}(h:(Kv l c q).2=0):HE (Kv l c q).1=true:=by
 unfold Kv at h ⊢;split at h
 · cases h
 · rename_i he;have he:HE l=true:=(by simpa using he);rw[if_neg (by rw[he];decide)];split at h
   · cases h
   · rename_i hw;rw[if_neg hw];have hw:Jj c q=true:=(by simpa using hw);obtain⟨Af,h2⟩:=au.1 he;have Bm:0<c:=by
      simp only[Jj,Bool.and_eq_true,decide_eq_true_eq]at hw;omega
     rw[AcQ h2,oF h2];cases Ag:G9 (·.Ap) AGl c l with
     |false=>
      rw[if_pos rfl];have e:FO (Cz (·.Ap) AGl c l) ⟨c,q⟩ l=FQ (·.Ap) AGl ⟨c,q⟩ l:=(by rw[FQ,if_neg (by rw[Ag];decide)]);show HE (FO (Cz (·.Ap) AGl c l) ⟨c,q⟩ l)=true;rw[e];refine au.2 ⟨fun x Ab=>?_,W4 N1 h2⟩;rcases(PJ N1 h2).1 Ab with rfl|Ab
      · exact⟨Bm,hw⟩
      · exact Af x Ab.1
     |true=>
      rw[if_neg (by decide)];obtain⟨a,b⟩:=ZX N1 h2 Ag;obtain⟨RF,N8⟩:=Af _ (Hl a);generalize Ab:({l.getD (Cz (·.Ap) AGl c l) default with As:=max (l.getD (Cz (·.Ap) AGl c l) default).As q}:Df)=x;have AlA:x.Ap=c:=(by rw[<-Ab];exact b);have mF:Jj x.Ap x.As=true:=by
       rw[<-Ab];simp only[Jj,Bool.and_eq_true,decide_eq_true_eq]at hw N8 ⊢;omega
      have e:l.set (Cz (·.Ap) AGl c l) x=FQ (·.Ap) AGl x l:=(by rw[FQ,AlA,if_pos Ag]);show HE (l.set (Cz (·.Ap) AGl c l) x)=true;rw[e];refine au.2 ⟨fun y Bf=>?_,W4 N1 h2⟩;rcases(PJ N1 h2).1 Bf with rfl|Bf
      · exact⟨by omega,mF⟩
      · exact Af y Bf.1
theorem Ac1{a b:List Df}(h:(Ok a b).2=0):HE (Ok a b).1=true:=by
 unfold Ok at h ⊢;split at h
 · cases h
 · rename_i Ao;rw[if_neg Ao];have Ao:(HE a&&HE b)=true:=(by simpa using Ao);rw[Bool.and_eq_true]at Ao;obtain⟨AK,Aq⟩:=Ao;have Bm:=(au.1 Aq).1;clear Aq;show HE (b.foldl (fun out x=>(Kv out x.Ap x.As).1) a)=true;clear h;clear Ao;induction b generalizing a with
   |nil=>exact AK
   |cons m r Cg=>
    rw[List.foldl_cons];have hm:=(Bm m (List.mem_cons_self ..)).2;refine Cg (sF ?_) fun x Ab=>Bm x (List.mem_cons_of_mem _ Ab);unfold Kv;rw[if_neg (by rw[AK];decide),if_neg (by rw[hm];decide)];split<;>rfl
def fX(a b:Bx):Prop:=a.Ap=b.Ap/\a.As=b.As
def YB(c q:Int)(d:Bx):Prop:=d.Ap=c/\d.As=q
theorem kQ{l:List Bx}{c q:Int}{j:Nat}:Kt l c q=some j↔j<l.length/\YB c q (l.getD j default)/\∀k,k<j->¬YB c q (l.getD k default):=by
 unfold Kt Gd YB;rw[List.find?_range_eq_some];simp only[Bool.and_eq_true,decide_eq_true_eq,List.mem_range,Bool.not_eq_true',Bool.and_eq_false_iff,decide_eq_false_iff_not];constructor
 · rintro⟨a,b,d⟩;exact⟨b,a,fun k AE=>by have:=d k AE;intro e;omega⟩
 · rintro⟨b,a,d⟩;exact⟨a,b,fun k AE=>by have:=d k AE;omega⟩
theorem Ahp{l:List Bx}{c q:Int}:Kt l c q=none↔∀d∈l,¬YB c q d:=by
 unfold Kt Gd YB;rw[List.find?_range_eq_none];constructor
 · intro h d AJ;obtain⟨j,Ay,rfl⟩:=UP AJ;have:=h j Ay;simp only[Bool.not_eq_true',Bool.and_eq_false_iff,decide_eq_false_iff_not]at this;omega
 · intro h j Ay;have:=h _ (Hl Ay);simp only[Bool.not_eq_true',Bool.and_eq_false_iff,decide_eq_false_iff_not];omega
theorem Aho{o:Option Nat}:HI o<0↔o=none:=by cases o<;>simp[HI]
theorem Ahn{o:Option Nat}{j:Nat}:HI o=(j:Int)↔o=some j:=by
 cases o with
 |none=>simp[HI]
 |some k=>
  simp only[HI,Option.some.injEq];omega
theorem UB{l:List Bx}:Is l=true↔l.length<=4/\(∀d∈l,M1 d=true)/\l.Pairwise (fun a b=>¬fX a b):=by
 unfold Is;have key:allI l.length (fun j=> !ab l j)=true↔(∀d∈l,M1 d=true)/\l.Pairwise (fun a b=>¬fX a b):=by
  rw[Nz];have e:∀j,(!ab l j)=true↔M1 (l.getD j default)=true/\Kt l (l.getD j default).Ap (l.getD j default).As=some j:=fun j=>by
   simp only[ab,Bool.not_eq_true',Bool.or_eq_false_iff,Bool.not_eq_false',decide_eq_true_eq,Ahn]
  simp only[e];constructor
  · intro h;refine⟨fun d AJ=>?_,List.pairwise_iff_getElem.2 fun i j Ag Ay GQ hs=>?_⟩
    · obtain⟨j,Ay,rfl⟩:=UP AJ;exact(h j Ay).1
    · have:=(kQ.1 (h j Ay).2).2.2 i GQ;rw[G3 Ag,G3 Ay]at this;exact this hs
  · rintro⟨Af,h2⟩ j Ay;refine⟨Af _ (Hl Ay),kQ.2 ⟨Ay,⟨rfl,rfl⟩,fun k AE hs=>?_⟩⟩;have:=List.pairwise_iff_getElem.1 h2 k j (by omega) Ay AE;rw[G3 (show k<l.length by omega),G3 Ay]at hs;exact this hs
 split
 · rename_i Ao;simp only[decide_eq_true_eq]at Ao;exact⟨fun h=>(by cases h),fun h=>absurd h.1 (by omega)⟩
 · rename_i Ao;simp only[decide_eq_true_eq]at Ao;rw[key];exact⟨fun h=>⟨by omega,h⟩,fun h=>h.2⟩
theorem V'{l:List Bx}{c q:Int}(h:(F1 l c q).2=0):Is l=true/\(F1 l c q).1.toNat<l.length/\Kt l c q=some (F1 l c q).1.toNat/\YB c q (l.getD (F1 l c q).1.toNat default):=by
 unfold F1 at h ⊢;split at h
 · cases h
 · rename_i AJ;rw[if_neg AJ];split at h
   · cases h
   · rename_i AH;rw[if_neg AH];have AJ:Is l=true:=(by simpa using AJ);cases A7:Kt l c q with
     |none=>rw[A7]at AH;exact absurd (show HI none<0 by decide) AH
     |some j=>
      obtain⟨a,b,_⟩:=kQ.1 A7;exact⟨AJ,a,rfl,b⟩
theorem od{l:List Bx}{i:Nat}{d:Bx}(h:Is l=true)(Ag:i<l.length)(hm:M1 d=true)(hs:fX d (l.getD i default)):Is (l.set i d)=true:=by
 obtain⟨Af,h2,Bo⟩:=UB.1 h;refine UB.2 ⟨by rw[List.length_set];exact Af,fun x Ab=>?_,List.pairwise_iff_getElem.2 fun a b AK Aq Abh=>?_⟩
 · rcases List.mem_or_eq_of_mem_set Ab with Ab|rfl
   · exact h2 x Ab
   · exact hm
 · rw[List.length_set]at AK Aq;rw[G3 Ag]at hs;have:=List.pairwise_iff_getElem.1 Bo a b AK Aq Abh;rw[List.getElem_set,List.getElem_set];split
   · rename_i e;subst e;rw[if_neg (by omega)];exact fun q=>this ⟨hs.1.symm.trans q.1,hs.2.symm.trans q.2⟩
   · split
     · rename_i e;subst e;exact fun q=>this ⟨q.1.trans hs.1,q.2.trans hs.2⟩
     · exact this
theorem rU{l:List Bx}{d:Bx}(h:(Mf l d).2=0):Is (Mf l d).1=true/\(Mf l d).1=l++[d]/\Is l=true/\M1 d=true/\Kt l d.Ap d.As=none/\l.length<4:=by
 unfold Mf at h ⊢;split at h
 · cases h
 · rename_i DP;rw[if_neg DP];split at h
   · cases h
   · rename_i EK;rw[if_neg EK];split at h
     · cases h
     · rename_i FR;rw[if_neg FR];split at h
       · cases h
       · rename_i Iz;rw[if_neg Iz];have DP:Is l=true:=(by simpa using DP);simp only[Bool.or_eq_true,not_or,Bool.not_eq_true',Bool.not_eq_false,decide_eq_true_eq]at EK FR;obtain⟨Af,h2,Bo⟩:=UB.1 DP;have Ao:Kt l d.Ap d.As=none:=Aho.1 (by omega);refine⟨UB.2 ⟨by show(l++[d]).length<=4;rw[List.length_append];simp only[List.length_cons,List.length_nil];omega,fun x Ab=>?_,List.pairwise_append.2 ⟨Bo,List.pairwise_singleton _ _,fun x Ab y Bf=>?_⟩⟩,rfl,DP,EK.1.1.1,Ao,by omega⟩
         · rcases List.mem_append.1 Ab with Ab|Ab
           · exact h2 x Ab
           · rw[List.mem_singleton.1 Ab];exact EK.1.1.1
         · rw[List.mem_singleton.1 Bf];exact Ahp.1 Ao x Ab
theorem dV{d:Bx}:M1 d=true↔V2 d=false/\ae d=false/\(d.C3=JN d.DN d.DO\/JN d.DN d.DO=0/\d.C3=2):=by
 unfold M1;cases V2 d<;>cases ae d<;>simp
theorem Ajd{d:Bx}{m i:Bool}(h:M1 d=true):M1 (TT d m i).1=true/\fX (TT d m i).1 d:=by
 by_cases Bm:(!decide (d.C3=0)|| !decide ((if m=true then d.DN else d.DO)=0))=true
 · rw[TT,if_pos Bm];exact⟨h,rfl,rfl⟩
 · rw[TT,if_neg Bm];obtain⟨a,b,_⟩:=dV.1 h;have AK:=a;simp only[V2,Bool.or_eq_false_iff,decide_eq_false_iff_not,Bool.not_eq_false']at AK;cases m<;>cases i<;>refine⟨dV.2 ⟨?_,b,.inl rfl⟩,rfl,rfl⟩<;>simp only[V2,Bool.or_eq_false_iff,decide_eq_false_iff_not,Bool.not_eq_false',if_true,if_false,Bool.false_eq_true]<;>exact⟨⟨⟨⟨⟨⟨AK.1.1.1.1.1.1,AK.1.1.1.1.1.2⟩,AK.1.1.1.1.2⟩,by omega⟩,by omega⟩,by omega⟩,by omega⟩
theorem cC{l:List Bx}{c q:Int}{m i:Bool}(h:(Jk l c q m i).2.2=0):Is (Jk l c q m i).1=true:=by
 unfold Jk at h ⊢;split at h
 · rename_i Ao;exact absurd h Ao
 · rename_i Ao;rw[if_neg Ao];obtain⟨a,b,_,_⟩:=V' (Classical.not_not.1 Ao);obtain⟨x,y⟩:=Ajd (m:=m) (i:=i) ((UB.1 a).2.1 _ (Hl b));exact od a b x y
theorem pb{l:List Bx}{c q:Int}(h:(NJ l c q).2.2=0):Is (NJ l c q).1=true:=by
 unfold NJ at h ⊢;split at h
 · rename_i Ao;exact absurd h Ao
 · rename_i Ao;rw[if_neg Ao];obtain⟨a,b,_,_⟩:=V' (Classical.not_not.1 Ao);split
   · rename_i Bw;obtain⟨x,y,z⟩:=dV.1 ((UB.1 a).2.1 _ (Hl b));refine od a b (dV.2 ⟨x,y,?_⟩) ⟨rfl,rfl⟩;rcases z with z|z
     · exact .inr ⟨z.symm.trans Bw,rfl⟩
     · exact .inr ⟨z.1,rfl⟩
   · exact a
theorem zV{l:List Bx}{c q:Int}(h:(OP l c q).2=0):Is (OP l c q).1=true:=by
 unfold OP at h ⊢;split at h
 · rename_i Ao;exact absurd h Ao
 · rename_i Ao;rw[if_neg Ao];obtain⟨a,b,_,_⟩:=V' (Classical.not_not.1 Ao);split at h
   · cases h
   · rename_i BI;rw[if_neg BI];obtain⟨Af,h2,Bo⟩:=UB.1 a;exact UB.2 ⟨Nat.le_trans (List.length_eraseIdx_le ..) Af,fun x Ab=>h2 x (List.mem_of_mem_eraseIdx Ab),Bo.sublist (List.eraseIdx_sublist ..)⟩
structure dp (h:BD):Prop where
 nd:h.Bn<=5
 le:1<=h.G0
 up:0<=h.DV
 GV:0<=h.Fc
theorem ba{l:List BD}:LI l=true↔(∀h∈l,0<h.Bn/\dp h)/\H6 (·.Bn) AGl l:=by
 rw[<-lj (f:=fun m:BD=>m.Bn) (P:=dp),LI,Nz];refine forall_congr' fun j=>imp_congr_right fun Ay=>?_;simp only[eU,Bool.not_eq_true',Bool.or_eq_false_iff,decide_eq_false_iff_not];constructor
 · rintro⟨⟨⟨⟨a,b⟩,c⟩,d⟩,e⟩;exact⟨a,by omega,by omega,by omega,by omega⟩
 · rintro⟨a,b,c,d,e⟩;exact⟨⟨⟨⟨a,by omega⟩,by omega⟩,by omega⟩,by omega⟩
structure Fw (a:AD):Prop where
 key:Ix a.Al=true
 BQ:a.Cs.A6<=a.BT
 Ag:a.BT<=a.Cs.Bc
 rd:0<=a.Cn
 hold:LI a.A0=true
 up:I7 a<=a.Cs.Bc
 GV:a.Cs.A6<=IU a
 YK:a.BG.Ap=0->a.BG=XG
 Om:¬a.BG.Ap=0->Sk a.BG=true/\a.A0=[]/\a.Cs.A6<=a.BT+a.BG.B2/\a.BT+a.BG.B2<=a.Cs.Bc
theorem YY{k:ByteArray}:Ix k=true↔¬(k.size:Int)<1/\¬(k.size:Int)>16:=by
 simp only[Ix,Bool.and_eq_true,decide_eq_true_eq];omega
theorem eJ{s:GC}{v:Int}:Rb s v=true↔s.A6<=v/\v<=s.Bc:=by simp only[Rb,Bool.and_eq_true,decide_eq_true_eq]
theorem ib{a:AD}{l:F_}(hs:a.Cs.wf):UJ a l=true↔a.Cs.A6<=a.BT+l.B2/\a.BT+l.B2<=a.Cs.Bc:=by
 obtain⟨⟨s1,s2⟩,IK,Jy⟩:=hs;unfold UJ;cases e:J3 (a.BT+l.B2)with
 |true=>
  rw[(Vn e).1,(Vn e).2,decide_eq_true rfl,Bool.true_and];exact eJ
 |false=>
  rw[(tL e).1,(tL e).2];simp only[J3,Bool.and_eq_false_iff,decide_eq_false_iff_not]at e;exact⟨fun h=>(by cases h),fun h=>(by omega)⟩
theorem P3{a:AD}(hs:a.Cs.wf):E4 a=true↔Fw a:=by
 obtain⟨⟨s1,s2⟩,IK,Jy⟩:=id hs;constructor
 · intro h;unfold E4 at h;split at h
   · cases h
   · rename_i Af;split at h
     · cases h
     · rename_i h2;simp only[VO,Bool.or_eq_true,decide_eq_true_eq,not_or,Bool.not_eq_true',Bool.not_eq_false]at Af;obtain⟨⟨⟨⟨A1,AY⟩,Aq⟩,Bh⟩,hh⟩:=Af;simp only[XQ,Bool.or_eq_true,decide_eq_true_eq,not_or,Bool.not_eq_true',Bool.not_eq_false,Bool.and_eq_true]at h2;obtain⟨⟨⟨gx,d0⟩,Zp⟩,d1⟩:=h2;have Vq:J3 (I7 a)=true:=by
        cases e:J3 (I7 a)with
        |true=>rfl
        |false=>rw[No,if_neg (by rw[e];decide)]at gx;cases gx
       have dW:J3 (IU a)=true:=by
        cases e:J3 (IU a)with
        |true=>rfl
        |false=>rw[No,if_neg (by rw[e];decide)]at d0;cases d0
       rw[Lo,if_pos Vq]at Zp;rw[Lo,if_pos dW]at d1;obtain⟨CY,Dh⟩:=eJ.1 Aq;refine⟨YY.2 ⟨A1,AY⟩,CY,Dh,by omega,hh,by omega,by omega,fun e=>?_,fun e=>?_⟩
       · rw[if_pos (decide_eq_true e)]at h;exact of_decide_eq_true h
       · rw[if_neg (by rw[decide_eq_false e];decide)]at h;simp only[Bool.and_eq_true,decide_eq_true_eq]at h;obtain⟨⟨x,y⟩,z⟩:=h;exact⟨x,List.length_eq_zero_iff.1 (by omega),(ib hs).1 z⟩
 · intro h;have Hj:=cR h.hold;have G1:=ag h.hold;have:=h.BQ;have:=h.Ag;have:=h.up;have:=h.GV;have Vq:J3 (I7 a)=true:=(by simp only[J3,Bool.and_eq_true,decide_eq_true_eq];omega);have dW:J3 (IU a)=true:=(by simp only[J3,Bool.and_eq_true,decide_eq_true_eq];omega);have B4:VO a=false:=by
    obtain⟨A1,AY⟩:=YY.1 h.key;have Aq:Rb a.Cs a.BT=true:=eJ.2 ⟨h.BQ,h.Ag⟩;have Bh:¬a.Cn<0:=(by have:=h.rd;omega);simp only[VO,decide_eq_false A1,decide_eq_false AY,decide_eq_false Bh,Aq,h.hold];rfl
   have DC:XQ a=false:=by
    have Ey:¬I7 a>a.Cs.Bc:=(by omega);have Ez:¬IU a<a.Cs.A6:=(by omega);rw[XQ,(Vn Vq).1,(Vn Vq).2,(Vn dW).1,(Vn dW).2,decide_eq_false Ey,decide_eq_false Ez];rfl
   rw[E4,B4,if_neg (by decide),DC,if_neg (by decide)];by_cases e:a.BG.Ap=0
   · rw[if_pos (decide_eq_true e)];exact decide_eq_true (h.YK e)
   · rw[if_neg (by rw[decide_eq_false e];decide)];obtain⟨x,y,z⟩:=h.Om e;rw[x,(ib hs).2 z,y];rfl
structure D3 (a:AD):Prop where
 wf:a.wf
 A7:∀h∈a.A0,h.wf
theorem D3.sp{a:AD}(h:D3 a):a.Cs.wf:=h.wf.2.1
theorem Fw.acc{a:AD}(h:Fw a)(w:D3 a):E4 a=true:=(P3 w.sp).2 h
theorem gy{a:AD}(h:G_ a=false):a.BG.Ap=0:=by simpa[G_]using h
theorem locked{a:AD}(h:G_ a=true):¬a.BG.Ap=0:=by simpa[G_]using h
theorem sQ{a:AD}(w:D3 a)(h:Fw a)(AN:G_ a=false):Jx a=a.Cs.Bc-I7 a:=by
 obtain⟨⟨s1,s2⟩,IK,Jy⟩:=w.sp;have Hj:=cR h.hold;have:=h.BQ;have:=h.up;have Vq:J3 (I7 a)=true:=by simp only[J3,Bool.and_eq_true,decide_eq_true_eq];omega
 rw[Jx,h.acc w,AN,if_neg (by decide),(Vn Vq).1];omega
theorem oP{a:AD}(w:D3 a)(h:Fw a)(AN:G_ a=false):K4 a=IU a-a.Cs.A6:=by
 obtain⟨⟨s1,s2⟩,IK,Jy⟩:=w.sp;have Hj:=ag h.hold;have:=h.Ag;have:=h.GV;have Vq:J3 (IU a)=true:=by simp only[J3,Bool.and_eq_true,decide_eq_true_eq];omega
 rw[K4,h.acc w,AN,if_neg (by decide),(Vn Vq).1];omega
theorem Akx(a:AD)(n:Int):I7 {a with BT:=n}=n-a.BT+I7 a:=by unfold I7;simp only;omega
theorem yC(a:AD)(n:Int):IU {a with BT:=n}=n-a.BT+IU a:=by unfold IU;simp only;omega
theorem ZU{a:AD}{n:Int}(w:D3 a)(Ao:A' n)(h:(JF a n).2=0):Fw a/\G_ a=false/\(JF a n).1={a with BT:=a.BT+n}/\Fw (JF a n).1/\D3 (JF a n).1:=by
 unfold JF at h ⊢;split at h
 · cases h
 · rename_i Af;rw[if_neg Af];have AK:Fw a:=(P3 w.sp).1 (by simpa using Af);split at h
   · cases h
   · rename_i h2;rw[if_neg h2];split at h
     · cases h
     · rename_i Bo;rw[if_neg Bo];have AN:G_ a=false:=(by simpa using Bo);split at h
       · cases h
       · rename_i BB;rw[if_neg BB];obtain⟨HG,MF⟩:=Ao;obtain⟨⟨s1,s2⟩,IK,Jy⟩:=w.sp;have Hj:=cR AK.hold;have G1:=ag AK.hold;have DP:=AK.BQ;have EK:=AK.Ag;have FR:=AK.up;have Iz:=AK.GV;simp only[dw,sQ w AK AN,oP w AK AN,Bool.or_eq_true,Bool.and_eq_true,decide_eq_true_eq,not_or,not_and]at BB;have Aq:a.Cs.A6<=a.BT+n/\a.BT+n<=a.Cs.Bc/\I7 a+n<=a.Cs.Bc/\a.Cs.A6<=IU a+n:=by
          rcases Int.lt_trichotomy n 0 with q|q|q
          · have:=BB.2 q;omega
          · exact absurd q h2
          · have:=BB.1 q;omega
         obtain⟨CY,Dh,DQ,En⟩:=Aq;refine⟨AK,AN,rfl,⟨AK.key,CY,Dh,AK.rd,AK.hold,?_,?_,AK.YK,fun e=>absurd (gy AN) e⟩,⟨w.wf.1,w.wf.2.1,⟨by show-9223372036854775808<=a.BT+n;omega,by show a.BT+n<=9223372036854775807;omega⟩,w.wf.2.2.2.1,trivial,w.wf.2.2.2.2.2⟩,w.A7⟩
         · rw[Akx];show a.BT+n-a.BT+I7 a<=a.Cs.Bc;omega
         · rw[yC];show a.Cs.A6<=a.BT+n-a.BT+IU a;omega
theorem sN{a:AD}{r:Int}(h:Fw a)(Bh:0<=r):Fw {a with Cn:=r}:=⟨h.key,h.BQ,h.Ag,Bh,h.hold,h.up,h.GV,h.YK,h.Om⟩
theorem k_{a:AD}{r:Int}(h:D3 a)(Bh:A' r):D3 {a with Cn:=r}:=⟨⟨h.wf.1,h.wf.2.1,h.wf.2.2.1,Bh,trivial,h.wf.2.2.2.2.2⟩,h.A7⟩
theorem ig{a:AD}{r:Int}(w:D3 a)(h:Fw a)(Af:1<=r)(h2:r<=EW):(Mx a r).1={a with Cn:=if a.Cn=0 then r else a.Cn}/\Fw (Mx a r).1/\D3 (Mx a r).1:=by
 have e:Mx a r=(if a.Cn=0 then({a with Cn:=r},0)else(a,0)):=by
  rw[Mx,if_neg (by rw[h.acc w];decide),if_neg (by simp only[Bool.or_eq_true,decide_eq_true_eq];omega)]
 rw[e];split
 · exact⟨rfl,sN h (by omega),k_ w ⟨by omega,by unfold EW at h2;omega⟩⟩
 · exact⟨rfl,h,w⟩
theorem l8{a:AD}(w:D3 a)(h:Fw a):(OA a).1={a with Cn:=0}/\Fw (OA a).1/\D3 (OA a).1:=by
 rw[OA,if_neg (by rw[h.acc w];decide)];exact⟨rfl,sN h (by omega),k_ w DW⟩
theorem nD{a:AD}{s:GC}(w:D3 a)(hs:s.wf)(h:(Pu a s).2=0):(Pu a s).1={a with Cs:=s}/\Fw a/\Fw (Pu a s).1/\D3 (Pu a s).1/\(Io a).2=true:=by
 unfold Pu at h ⊢;split at h
 · rename_i Ao;exact absurd h Ao
 · rename_i Ao;rw[if_neg Ao];split at h
   · cases h
   · rename_i h2;rw[if_neg h2];have AE:LJ a=0:=Classical.not_not.1 Ao;unfold LJ at AE;split at AE
     · cases AE
     · rename_i A1;split at AE
       · cases AE
       · rename_i AY;have AK:Fw a:=(P3 w.sp).1 (by simpa using A1);have Av:(Io a).2=true:=(by simpa using AY);obtain⟨CY,Dh⟩:=eJ.1 (by simpa using h2:Rb s a.BT=true);have pV:a.A0=[]/\G_ a=false:=by
          unfold Io at Av;split at Av
          · cases Av
          · rename_i q;simp only[Bool.or_eq_true,decide_eq_true_eq,not_or,Bool.not_eq_true',Bool.not_eq_false,Bool.not_eq_true]at q;exact⟨List.length_eq_zero_iff.1 (by omega),q.1.2⟩
         have u:I7 a=a.BT/\IU a=a.BT:=by
          unfold I7 IU;rw[pV.1];simp
         refine⟨rfl,AK,⟨AK.key,CY,Dh,AK.rd,AK.hold,?_,?_,AK.YK,fun e=>absurd (gy pV.2) e⟩,⟨⟨w.wf.1,hs,w.wf.2.2⟩,w.A7⟩,Av⟩
         · show I7 a<=s.Bc;omega
         · show s.A6<=IU a;omega
theorem t_{a:AD}:(Io a).2=true↔E4 a=true/\G_ a=false/\a.A0=[]:=by
 unfold Io;split
 · rename_i q;simp only[Bool.or_eq_true,decide_eq_true_eq,Bool.not_eq_true']at q;constructor
   · intro h;cases h
   · rintro⟨Af,h2,Bo⟩;rw[Af,h2,Bo]at q;simp at q
 · rename_i q;simp only[Bool.or_eq_true,decide_eq_true_eq,not_or,Bool.not_eq_true',Bool.not_eq_false,Bool.not_eq_true]at q;exact⟨fun _=>⟨q.1.1,q.1.2,List.length_eq_zero_iff.1 (by omega)⟩,fun _=>rfl⟩
theorem Adb{a:AD}:LJ a=0↔(Io a).2=true:=by
 unfold LJ;constructor
 · intro h;split at h
   · cases h
   · split at h
     · cases h
     · rename_i q;simpa using q
 · intro h;rw[if_neg (by rw[(t_.1 h).1];decide),if_neg (by rw[h];decide)]
theorem gu{a:AD}{l:F_}(w:D3 a)(AN:l.wf)(h:(KA a l).2=0):(KA a l).1={a with BG:=l}/\Fw a/\(Io a).2=true/\Sk l=true/\a.Cs.A6<=a.BT+l.B2/\a.BT+l.B2<=a.Cs.Bc/\Fw (KA a l).1/\D3 (KA a l).1:=by
 unfold KA at h ⊢;split at h
 · cases h
 · rename_i Af;rw[if_neg Af];split at h
   · cases h
   · rename_i h2;rw[if_neg h2];split at h
     · rename_i Bo;exact absurd h Bo
     · rename_i Bo;rw[if_neg Bo];split at h
       · cases h
       · rename_i BB;rw[if_neg BB];have AK:Fw a:=(P3 w.sp).1 (by simpa using Af);have AE:Sk l=true:=(by simpa using h2);have Av:=Adb.1 (Classical.not_not.1 Bo);obtain⟨f1,f2⟩:=(ib w.sp).1 (by simpa using BB:UJ a l=true);obtain⟨_,_,t3⟩:=t_.1 Av;refine⟨rfl,AK,Av,AE,f1,f2,⟨AK.key,AK.BQ,AK.Ag,AK.rd,AK.hold,AK.up,AK.GV,fun e=>?_,fun _=>⟨AE,t3,f1,f2⟩⟩,⟨⟨w.wf.1,w.wf.2.1,w.wf.2.2.1,w.wf.2.2.2.1,trivial,AN⟩,w.A7⟩⟩;simp only[Sk,Bool.and_eq_true,decide_eq_true_eq]at AE;have e:l.Ap=0:=e;omega
theorem UK{a:AD}{c:Bool}(w:D3 a)(h:(D1 a c).2=0):Fw a/\G_ a=true/\(D1 a c).1={a with BT:=if c=true then a.BT+a.BG.B2 else a.BT,BG:=XG}/\Fw (D1 a c).1/\D3 (D1 a c).1:=by
 unfold D1 at h ⊢;split at h
 · cases h
 · rename_i Af;rw[if_neg Af];split at h
   · cases h
   · rename_i h2;rw[if_neg h2];have AK:Fw a:=(P3 w.sp).1 (by simpa using Af);have AN:G_ a=true:=(by simpa using h2);obtain⟨k,n,f1,f2⟩:=AK.Om (locked AN);obtain⟨⟨s1,s2⟩,IK,Jy⟩:=w.sp;have DP:=AK.BQ;have EK:=AK.Ag;have u:∀b:Int,I7 {a with BT:=b,BG:=XG}=b/\IU {a with BT:=b,BG:=XG}=b:=fun b=>by
      unfold I7 IU;simp only[n];simp
     refine⟨AK,AN,rfl,?_⟩;cases c with
     |true=>
      obtain⟨Zp,mg⟩:=u (a.BT+a.BG.B2);exact⟨⟨AK.key,f1,f2,AK.rd,AK.hold,Int.le_trans (Int.le_of_eq Zp) f2,Int.le_trans f1 (Int.le_of_eq mg.symm),fun _=>rfl,fun e=>absurd rfl e⟩,⟨⟨w.wf.1,w.wf.2.1,⟨by show-9223372036854775808<=a.BT+a.BG.B2;omega,by show a.BT+a.BG.B2<=9223372036854775807;omega⟩,w.wf.2.2.2.1,trivial,DW,DW,DW,DW⟩,w.A7⟩⟩
     |false=>
      obtain⟨Zp,mg⟩:=u a.BT;exact⟨⟨AK.key,DP,EK,AK.rd,AK.hold,Int.le_trans (Int.le_of_eq Zp) EK,Int.le_trans DP (Int.le_of_eq mg.symm),fun _=>rfl,fun e=>absurd rfl e⟩,⟨⟨w.wf.1,w.wf.2.1,w.wf.2.2.1,w.wf.2.2.2.1,trivial,DW,DW,DW,DW⟩,w.A7⟩⟩
theorem cH{β:Type}{key:β->Int}{f:β->Int}:∀{l:List β},l.Pairwise (fun a b=>AGl (key a) (key b)=true)->∀{x:β},x∈l->(l.map f).sum=f x+((l.filter (fun y=> !decide (key y=key x))).map f).sum
 |y::r,h,x,Ab=>by
  obtain⟨Af,h2⟩:=List.pairwise_cons.1 h;rcases List.mem_cons.1 Ab with rfl|Ab
  · have e:r.filter (fun y=> !decide (key y=key x))=r:=List.filter_eq_self.2 fun z Cu=>by
     have:=of_decide_eq_true (Af z Cu);rw[decide_eq_false (by omega)];rfl
    rw[List.filter_cons_of_neg (by simp),e];rfl
  · have FG:¬key y=key x:=by
     have:=of_decide_eq_true (Af x Ab);omega
    rw[List.filter_cons_of_pos (by rw[decide_eq_false FG];rfl),List.map_cons,List.map_cons,List.sum_cons,List.sum_cons,cH h2 Ab];omega
theorem oU{a:AD}{n:Int}(h:(IC a n).2=true):E4 a=true/\(IC a n).1∈a.A0/\(IC a n).1.Bn=n:=by
 unfold IC at h ⊢;split at h
 · cases h
 · rename_i Af;rw[if_neg Af];cases e:Gd a.A0.length (fun j=>decide ((a.A0.getD j default).Bn=n))with
   |none=>rw[e]at h;cases h
   |some j=>
    have Ay:=List.find?_range_eq_some.1 e;exact⟨by simpa using Af,Hl (Q4 e),of_decide_eq_true Ay.1⟩
theorem lf{a:AD}{n le r IG:Int}(w:D3 a)(h:(Mk a n le r IG).2=0):
 Fw a/\(IC a n).2=true/\(IC a n).1.G0=le/\¬a.Cn=0/\a.Cn=r/\IG<=(IC a n).1.DV/\ -(IC a n).1.Fc<=IG/\
 (Mk a n le r IG).1={a with BT:=a.BT+IG,A0:=a.A0.filter (fun h=> !decide (h.Bn=n))}/\Fw (Mk a n le r IG).1/\D3 (Mk a n le r IG).1:=by
 unfold Mk at h ⊢;split at h
 · cases h
 · rename_i Af;rw[if_neg Af];split at h
   · cases h
   · rename_i h2;rw[if_neg h2];split at h
     · cases h
     · rename_i Bo;rw[if_neg Bo];split at h
       · cases h
       · rename_i BB;rw[if_neg BB];have AK:Fw a:=(P3 w.sp).1 (by simpa using Af);simp only[Bool.or_eq_true,not_or,Bool.not_eq_true',Bool.not_eq_false,decide_eq_true_eq]at h2 Bo BB;obtain⟨f1,f2⟩:=h2;obtain⟨NY,MK⟩:=Bo;obtain⟨HG,MF⟩:=BB;obtain⟨_,hm,Ao⟩:=oU f1;obtain⟨Ey,Ez⟩:=ba.1 AK.hold;have B4:=cH (key:=fun h:BD=>h.Bn) (f:=fun h:BD=>h.DV) Ez hm;have DC:=cH (key:=fun h:BD=>h.Bn) (f:=fun h:BD=>h.Fc) Ez hm;simp only[Ao]at B4 DC;have CM:=(Ey _ hm).2;have hu:=CM.up;have AJ:=CM.GV;obtain⟨⟨s1,s2⟩,IK,Jy⟩:=w.sp;have FR:=AK.up;have Iz:=AK.GV;have Mz:LI (a.A0.filter (fun h=> !decide (h.Bn=n)))=true:=ba.2 ⟨fun x Ab=>Ey x (List.mem_filter.1 Ab).1,Ez.filter _⟩;have Ab:∀b:AD,b={a with BT:=a.BT+IG,A0:=a.A0.filter (fun h=> !decide (h.Bn=n))}->I7 b<=a.Cs.Bc/\a.Cs.A6<=IU b/\b.BT<=I7 b/\IU b<=b.BT:=fun b Aq=>by
          have C':LI b.A0=true:=(by rw[Aq];exact Mz);have Hj:=cR C';have G1:=ag C';refine⟨?_,?_,Hj,G1⟩
          · rw[Aq];unfold I7 at FR ⊢;simp only;omega
          · rw[Aq];unfold IU at Iz ⊢;simp only;omega
         obtain⟨N8,OF,P1,P2⟩:=Ab _ rfl;have P1:a.BT+IG<=_:=P1;have P2:_<=a.BT+IG:=P2;have AN:a.BG.Ap=0:=by
          refine Classical.byContradiction fun e=>?_;rw[(AK.Om e).2.1]at hm;cases hm
         refine⟨AK,f1,f2,NY,MK,by omega,by omega,rfl,⟨AK.key,by show a.Cs.A6<=a.BT+IG;omega,by show a.BT+IG<=a.Cs.Bc;omega,AK.rd,Mz,N8,OF,AK.YK,fun e=>absurd AN e⟩,⟨⟨w.wf.1,w.wf.2.1,⟨by show-9223372036854775808<=a.BT+IG;omega,by show a.BT+IG<=9223372036854775807;omega⟩,w.wf.2.2.2.1,trivial,w.wf.2.2.2.2.2⟩,fun x Ab=>w.A7 x (List.mem_filter.1 Ab).1⟩⟩
theorem AhI{β GA:Type}[Inhabited β][DecidableEq GA]{key:β->GA}{lt:GA->GA->Bool}(o:QL lt){x:β}{l:List β}(h:H6 key lt l):(FQ key lt x l).Perm (x::l.filter (fun y=> !decide (key y=key x))):=by
 have nd:∀{m:List β},H6 key lt m->m.Nodup:=fun hm=>List.nodup_iff_pairwise_ne.2 (hm.imp fun q e=>by subst e;rw[o.Si]at q;cases q);refine(List.perm_ext_iff_of_nodup (nd (W4 o h)) (List.nodup_cons.2 ⟨fun Ab=>?_,(nd h).sublist List.filter_sublist⟩)).2 fun y=>?_
 · have:=(List.mem_filter.1 Ab).2;simp at this
 · rw[PJ o h,List.mem_cons,List.mem_filter];simp
theorem se{β:Type}{f:β->Int}{l m:List β}(h:l.Perm m):(l.map f).sum=(m.map f).sum:=by
 induction h with
 |nil=>rfl
 |cons x _ Cg=>simp only[List.map_cons,List.sum_cons,Cg]
 |swap x y l=>simp only[List.map_cons,List.sum_cons];omega
 |trans _ _ a b=>exact a.trans b
theorem rB{v s:Int}(Bw:0<=v)(Af:v<=9223372036854775807)(hs:0<=s):v<=Iw v s/\Iw v s<=v+s/\Iw v s<=9223372036854775807:=by unfold Iw;omega
theorem tf{n k:Int}(AE:1<=k)(Ao:0<=n):0<=H' (JA n (k+1) k)/\H' (JA n (k+1) k)<=n:=by
 have e:JA n (k+1) k=n / (k+1):=by
  rw[JA,if_neg (by simp only[Bool.or_eq_true,decide_eq_true_eq];omega),if_neg];have:=Int.emod_lt_of_pos n (show 0<k+1 by omega);omega
 have a:0<=n / (k+1):=Int.ediv_nonneg Ao (by omega);have b:n / (k+1)<=n:=Int.ediv_le_self _ Ao;rw[e,H'];omega
theorem a_{a:AD}{n le:Int}(h:LI a.A0=true)(w:D3 a)(Ao:1<=n/\n<=5)(AN:1<=le/\le<=EW):
 (JW a n le).Bn=n/\dp (JW a n le)/\(JW a n le).wf/\((a.A0.map (·.DV)).sum=(JW a n le).DV+((a.A0.filter (fun y=> !decide (y.Bn=n))).map (·.DV)).sum)/\((a.A0.map (·.Fc)).sum=(JW a n le).Fc+((a.A0.filter (fun y=> !decide (y.Bn=n))).map (·.Fc)).sum):=by
 obtain⟨Ey,Ez⟩:=ba.1 h;unfold JW;cases Ag:G9 (·.Bn) AGl n a.A0 with
 |true=>
  rw[if_pos rfl];obtain⟨i1,i2⟩:=ZX N1 Ez Ag;have hm:=Hl (l:=a.A0) i1;have B4:=cH (key:=fun h:BD=>h.Bn) (f:=fun h:BD=>h.DV) Ez hm;have DC:=cH (key:=fun h:BD=>h.Bn) (f:=fun h:BD=>h.Fc) Ez hm;have i2:(a.A0.getD (Cz (·.Bn) AGl n a.A0) default).Bn=n:=i2;simp only[i2]at B4 DC;exact⟨i2,(Ey _ hm).2,w.A7 _ hm,B4,DC⟩
 |false=>
  rw[if_neg (by decide)];have e:a.A0.filter (fun y=> !decide (y.Bn=n))=a.A0:=List.filter_eq_self.2 fun z Cu=>by
   have:¬z.Bn=n:=fun e=>by rw[(br N1 Ez n).2 ⟨z,Cu,e⟩]at Ag;cases Ag
   rw[decide_eq_false this];rfl
  rw[e];unfold EW at AN;have i1:A' n:=⟨by omega,by omega⟩;have i2:A' le:=⟨by omega,by omega⟩;exact⟨rfl,⟨Ao.2,AN.1,Int.le_refl _,Int.le_refl _⟩,⟨i1,i2,DW,DW⟩,(Int.zero_add _).symm,(Int.zero_add _).symm⟩
theorem iv{a:AD}{n le k:Int}(w:D3 a)(h:(Kl a n le k).2=0):
 Fw a/\G_ a=false/\a.Cn=0/\1<=n/\n<=k/\k<=5/\1<=le/\le<=EW/\(Kl a n le k).1={a with A0:=FQ (·.Bn) AGl (Sn (JW a n le) (Jx a) (K4 a) k) a.A0}/\Fw (Kl a n le k).1/\D3 (Kl a n le k).1:=by
 unfold Kl at h ⊢;split at h
 · cases h
 · rename_i Af;rw[if_neg Af];split at h
   · cases h
   · rename_i h2;rw[if_neg h2];split at h
     · cases h
     · rename_i Bo;rw[if_neg Bo];have AK:Fw a:=(P3 w.sp).1 (by simpa using Af);simp only[Bool.or_eq_true,decide_eq_true_eq,not_or]at h2;simp only[Bool.or_eq_true,not_or,Bool.not_eq_true',Bool.not_eq_false,decide_eq_true_eq,Bool.not_eq_true]at Bo;obtain⟨cg,AN⟩:=Bo;obtain⟨⟨⟨⟨⟨A1,Bd⟩,HG⟩,An5⟩,Om⟩,An2⟩:=h2;obtain⟨Ey,Ez⟩:=ba.1 AK.hold;obtain⟨Fb,az,zr,B4,DC⟩:=a_ (le:=le) AK.hold w (n:=n) ⟨by omega,by omega⟩ ⟨by omega,by omega⟩;obtain⟨⟨s1,s2⟩,IK,Jy⟩:=w.sp;have DP:=AK.BQ;have EK:=AK.Ag;have FR:=AK.up;have Iz:=AK.GV;have Hj:=cR AK.hold;have G1:=ag AK.hold;have Bh:=sQ w AK AN;have BI:=oP w AK AN;obtain⟨gx,Zp⟩:=tf (n:=Jx a) (k:=k) (by omega) (by omega);obtain⟨d0,d1⟩:=tf (n:=K4 a) (k:=k) (by omega) (by omega);obtain⟨Ua,Ub,⟨Xs,RD⟩,Ud,Xt⟩:=zr;obtain⟨Kq,YQ,An3⟩:=rB az.up RD gx;obtain⟨Ie,II,IJ⟩:=rB az.GV Xt d0;generalize Ab:Sn (JW a n le) (Jx a) (K4 a) k=x;have AlB:x.Bn=n:=(by rw[<-Ab];exact Fb);have Apl:x.DV=Iw (JW a n le).DV (H' (JA (Jx a) (k+1) k)):=(by rw[<-Ab];rfl);have Apj:x.Fc=Iw (JW a n le).Fc (H' (JA (K4 a) (k+1) k)):=(by rw[<-Ab];rfl);have uY:x.G0=(JW a n le).G0:=(by rw[<-Ab];rfl);have AlC:dp x:=⟨by omega,by rw[uY];exact az.le,by have:=az.up;omega,by have:=az.GV;omega⟩;have mF:x.wf:=⟨⟨by omega,by omega⟩,by rw[uY];exact Ub,⟨by omega,by omega⟩,⟨by omega,by omega⟩⟩;have AH:=AhI N1 (x:=x) Ez;have Rn:=se (f:=fun h:BD=>h.DV) AH;have WY:=se (f:=fun h:BD=>h.Fc) AH;simp only[List.map_cons,List.sum_cons,AlB]at Rn WY;have Mz:LI (FQ (·.Bn) AGl x a.A0)=true:=ba.2 ⟨fun y Bf=>by
        rcases(PJ N1 Ez).1 Bf with rfl|Bf
        · exact⟨by omega,AlC⟩
        · exact Ey y Bf.1,W4 N1 Ez⟩
       refine⟨AK,AN,cg,by omega,by omega,by omega,by omega,by omega,rfl,⟨AK.key,DP,EK,AK.rd,Mz,?_,?_,AK.YK,fun e=>absurd (gy AN) e⟩,⟨w.wf,fun y Bf=>?_⟩⟩
       · unfold I7 at FR Bh ⊢;simp only;omega
       · unfold IU at Iz BI ⊢;simp only;omega
       · rcases(PJ N1 Ez).1 Bf with rfl|Bf
         · exact mF
         · exact w.A7 y Bf.1
def L7(n:Int):Prop:=0<=n/\n<=EW
structure m1 (S:Bv):Prop where
 no:S.Du=false->S.A6=ByteArray.empty/\S.Bc=ByteArray.empty/\S.Aj=[]/\S.AA=[]/\S.Bt=FP
 yes:S.Du=true->1<=S.Dn/\PQ S.A6 S.Bc=true
structure Ce (S:Bv):Prop where
 RZ:Ih S.CZ=true
 ix:L7 S.DX
 ON:L7 S.Dn
 hf:L7 S.Jc
 TO:L7 S.JL
 un:L7 S.GW
 own:m1 S
 len:S.Aj.length<=12
 acc:∀a∈S.Aj,Fw a/\D3 a/\F' S a.Al=true
 Ll:H6 (·.Al) Ds S.Aj
 marks:Fg S.Bz=true
 Me:∀m∈S.Bz,m.Cm.wf
 VZ:Is S.Bj=true
 ends:HE S.CX=true
 wl:S.AA.length<=8
 wt:∀x∈S.AA,Mr S x=true
 ww:∀x∈S.AA,x.wf
 Hc:S.Bt=FP\/LK S.Bt=true/\S.Bt.Hi=S.CZ/\S.Bt.Bc=S.Bc/\F' S S.Bt.A6=true
 out:S.CW=FP/\S.Cf=[]\/LK S.CW=true/\S.CW.Hi=S.CZ/\(Er S.Cf).2=0
theorem AjJ{l:List AD}:H6 (·.Al) Ds l↔∀j,j+1<l.length->Ds (l.getD j default).Al (l.getD (j+1) default).Al=true:=by
 constructor
 · intro h j Ay;have:=List.pairwise_iff_getElem.1 h j (j+1) (by omega) Ay (by omega);rw[G3 (by omega),G3 Ay];exact this
 · intro h;have up:∀d i,i+d+1<l.length->Ds (l.getD i default).Al (l.getD (i+d+1) default).Al=true:=by
    intro d;induction d with
    |zero=>exact fun i Ag=>h i Ag
    |succ d Cg=>exact fun i Ag=>lt_trans (Cg i (by omega)) (h (i+d+1) (by omega))
   refine List.pairwise_iff_getElem.2 fun i j Ag Ay GQ=>?_;have:=up (j-i-1) i (by omega);rw[show i+(j-i-1)+1=j by omega,G3 Ag,G3 Ay]at this;exact this
theorem Ado{a b:ByteArray}:fc a b=false↔Ds b a=true:=by
 unfold fc;rw[bA];simp
theorem n9{a b c d e:Int}:X1 [a,b,c,d,e]=true↔L7 a/\L7 b/\L7 c/\L7 d/\L7 e:=by
 rw[X1,Nz];constructor
 · intro h;have Bw:=h 0 (show 0<5 by decide);have Af:=h 1 (show 1<5 by decide);have h2:=h 2 (show 2<5 by decide);have Bo:=h 3 (show 3<5 by decide);have BB:=h 4 (show 4<5 by decide);simp only[List.getD_cons_zero,List.getD_cons_succ,Bool.not_eq_true',Bool.or_eq_false_iff,decide_eq_false_iff_not]at Bw Af h2 Bo BB;exact⟨⟨by omega,by omega⟩,⟨by omega,by omega⟩,⟨by omega,by omega⟩,⟨by omega,by omega⟩,⟨by omega,by omega⟩⟩
 · rintro⟨Bw,Af,h2,Bo,BB⟩ j Ay;unfold L7 at*;simp only[List.length_cons,List.length_nil]at Ay;rcases j with _|_|_|_|_|j
   · simp only[List.getD_cons_zero,List.getD_cons_succ,Bool.not_eq_true',Bool.or_eq_false_iff,decide_eq_false_iff_not];omega
   · simp only[List.getD_cons_zero,List.getD_cons_succ,Bool.not_eq_true',Bool.or_eq_false_iff,decide_eq_false_iff_not];omega
   · simp only[List.getD_cons_zero,List.getD_cons_succ,Bool.not_eq_true',Bool.or_eq_false_iff,decide_eq_false_iff_not];omega
   · simp only[List.getD_cons_zero,List.getD_cons_succ,Bool.not_eq_true',Bool.or_eq_false_iff,decide_eq_false_iff_not];omega
   · simp only[List.getD_cons_zero,List.getD_cons_succ,Bool.not_eq_true',Bool.or_eq_false_iff,decide_eq_false_iff_not];omega
   · omega
theorem bs{k:ByteArray}:isNil k=true↔k=ByteArray.empty:=by simp[isNil]
theorem r0{S:Bv}:YZ S=true↔m1 S:=by
 unfold YZ;constructor
 · intro h;cases e:S.Du with
   |false=>
    rw[if_pos (by rw[e];rfl)]at h;simp only[Bool.and_eq_true,decide_eq_true_eq,bs]at h;obtain⟨⟨⟨⟨a,b⟩,c⟩,d⟩,f⟩:=h;exact⟨fun _=>⟨a,b,List.length_eq_zero_iff.1 (by omega),List.length_eq_zero_iff.1 (by omega),f⟩,fun q=>(by rw[e]at q;cases q)⟩
   |true=>
    rw[if_neg (by rw[e];decide)]at h;simp only[Bool.and_eq_true,decide_eq_true_eq]at h;exact⟨fun q=>(by rw[e]at q;cases q),fun _=>⟨h.1,h.2⟩⟩
 · intro h;cases e:S.Du with
   |false=>
    obtain⟨a,b,c,d,f⟩:=h.no e;rw[if_pos (by rfl),a,b,c,d,f];rfl
   |true=>
    obtain⟨a,b⟩:=h.yes e;rw[if_neg (by decide),b,decide_eq_true (show S.Dn>=1 from a)];rfl
theorem m7{S:Bv}(w:∀a∈S.Aj,D3 a):VP S=true↔S.Aj.length<=12/\(∀a∈S.Aj,Fw a/\FT a=false/\F' S a.Al=true)/\H6 (·.Al) Ds S.Aj:=by
 have e:∀j,j<S.Aj.length->((!dv S j)=true↔Fw (S.Aj.getD j default)/\FT (S.Aj.getD j default)=false/\F' S (S.Aj.getD j default).Al=true/\(0<j->Ds (S.Aj.getD (j-1) default).Al (S.Aj.getD j default).Al=true)):=fun j Ay=>by
  rw[<-P3 (w _ (Hl Ay)).sp];simp only[dv,Bool.not_eq_true',Bool.or_eq_false_iff,Bool.not_eq_false',decide_eq_true_eq,ee,Bool.and_eq_false_iff,decide_eq_false_iff_not,Ado];have q:((j:Int)-1).toNat=j-1:=(by omega);rw[q];constructor
  · rintro⟨⟨⟨a,b⟩,c⟩,d⟩;exact⟨a,b,c,fun h=>d.resolve_left (by omega)⟩
  · rintro⟨a,b,c,d⟩;refine⟨⟨⟨a,b⟩,c⟩,?_⟩;by_cases h:0<j
    · exact .inr (d h)
    · exact .inl (by omega)
 unfold VP;by_cases AN:decide ((S.Aj.length:Int)>12)=true
 · rw[if_pos AN];simp only[decide_eq_true_eq]at AN;exact⟨fun h=>(by cases h),fun h=>absurd h.1 (by omega)⟩
 · rw[if_neg AN,Nz,AjJ];simp only[decide_eq_true_eq]at AN;constructor
   · intro h;refine⟨by omega,fun a AK=>?_,fun j Ay=>?_⟩
     · obtain⟨j,Ay,rfl⟩:=UP AK;obtain⟨x,y,z,_⟩:=(e j Ay).1 (h j Ay);exact⟨x,y,z⟩
     · exact((e (j+1) Ay).1 (h (j+1) Ay)).2.2.2 (by omega)
   · rintro⟨_,Af,h2⟩ j Ay;obtain⟨x,y,z⟩:=Af _ (Hl Ay);refine(e j Ay).2 ⟨x,y,z,fun Bw=>?_⟩;have:=h2 (j-1) (by omega)
     rwa [show j-1+1=j by omega]at this
theorem Zc{S:Bv}(w:∀a∈S.Aj,D3 a)(ww:∀x∈S.AA,x.wf)(Me:∀m∈S.Bz,m.Cm.wf):LN S=true↔Ce S/\∀a∈S.Aj,FT a=false:=by
 unfold LN;constructor
 · intro h;split at h
   · cases h
   rename_i Af;split at h
   · cases h
   rename_i h2;split at h
   · rename_i Bo;split at h
     · cases h
     rename_i BB;simp only[Zj,Bool.or_eq_true,not_or,Bool.not_eq_true',Bool.not_eq_false]at Af;obtain⟨⟨⟨g,c⟩,o⟩,a⟩:=Af;obtain⟨dG,hB,xR,xS,xT⟩:=n9.1 c;obtain⟨DP,EK,FR⟩:=(m7 w).1 a;simp only[Zk,Bool.or_eq_true,not_or,Bool.not_eq_true',Bool.not_eq_false,decide_eq_true_eq,ee]at h2;obtain⟨⟨⟨m,d⟩,h4⟩,wl⟩:=h2;refine⟨⟨g,dG,hB,xR,xS,xT,r0.1 o,DP,fun x Ab=>⟨(EK x Ab).1,w x Ab,(EK x Ab).2.2⟩,FR,m,Me,d,h4,by omega,fun x Ab=>?_,ww,?_,?_⟩,fun x Ab=>(EK x Ab).2.1⟩
     · obtain⟨j,Ay,rfl⟩:=UP Ab;exact(Nz.1 Bo) j Ay
     · by_cases e:S.Bt=FP
       · exact .inl e
       · refine .inr ?_;simp only[Xe,Bool.and_eq_true,Bool.or_eq_true,not_and,not_or,Bool.not_eq_true',Bool.not_eq_false,decide_eq_false_iff_not]at BB;obtain⟨⟨⟨x,y⟩,z⟩,u⟩:=BB e;exact⟨x,Classical.not_not.1 y,Classical.not_not.1 z,u⟩
     · split at h
       · rename_i e;have:=of_decide_eq_true h;exact .inl ⟨of_decide_eq_true e,List.length_eq_zero_iff.1 (by omega)⟩
       · simp only[lW,Bool.and_eq_true,decide_eq_true_eq]at h;exact .inr ⟨h.1.1,h.1.2,h.2⟩
   · cases h
 · rintro⟨h,AH⟩;have Af:Zj S=false:=by
    have a:=(m7 w).2 ⟨h.len,fun x Ab=>⟨(h.acc x Ab).1,AH x Ab,(h.acc x Ab).2.2⟩,h.Ll⟩;rw[Zj,h.RZ,n9.2 ⟨h.ix,h.ON,h.hf,h.TO,h.un⟩,r0.2 h.own,a];rfl
   have h2:Zk S=false:=by
    have:=h.wl;have q:¬(S.AA.length:Int)>8:=(by omega);rw[Zk,h.marks,h.VZ,h.ends,decide_eq_false q];rfl
   have Bo:gm S=true:=Nz.2 fun j Ay=>h.wt _ (Hl Ay);have BB:Xe S=false:=by
    rcases h.Hc with e|⟨x,y,z,u⟩
    · rw[Xe,e];rfl
    · rw[Xe,x,decide_eq_true y,decide_eq_true z,u];simp
   rw[Af,if_neg (by decide),h2,if_neg (by decide),if_pos Bo,BB,if_neg (by decide)];rcases h.out with⟨x,y⟩|⟨x,y,z⟩
   · rw[x,y];rfl
   · split
     · rename_i e;have e:S.CW=FP:=of_decide_eq_true e;rw[e]at x;simp[LK,FP]at x
     · rw[lW,x,decide_eq_true y,decide_eq_true z];rfl
-- answers that stay in order
theorem ZA:GS.wf:=⟨DW,DW,DW,DW⟩
theorem OM{e:Int}(h:A' e):(HN e).wf:=⟨h,DW,DW,DW⟩
theorem gL{l:List BL}{m:BL}(h:Fg l=true)(hw:∀x∈l,x.Cm.wf)(hm:m.Cm.wf):∀x∈LP l m,x.Cm.wf:=fun x Ab=>by
 rcases(PJ N1 (Rl.1 h).2).1 Ab with rfl|Ab
 · exact hm
 · exact hw x Ab.1
theorem nx{l:List BL}{c q:Int}(h:(IS l c q).2.2=0)(hw:∀x∈l,x.Cm.wf):∀x∈(IS l c q).1,x.Cm.wf:=by
 unfold IS at h ⊢;split
 · exact fun x Ab=>absurd Ab List.not_mem_nil
 · rename_i hm;split
   · exact fun x Ab=>absurd Ab List.not_mem_nil
   · split
     · exact fun x Ab=>absurd Ab List.not_mem_nil
     · split
       · exact hw
       · exact gL (by simpa using hm) hw ZA
theorem y2{l:List BL}{c q:Int}{a:De}(hw:∀x∈l,x.Cm.wf)(AK:a.wf):∀x∈(Oe l c q a).1,x.Cm.wf:=by
 unfold Oe;split
 · exact fun x Ab=>absurd Ab List.not_mem_nil
 · rename_i Ao;exact gL (fs (Classical.not_not.1 Ao)).1 hw AK
theorem rk{l:List BL}{c q:Int}(hw:∀x∈l,x.Cm.wf):∀x∈(G' l c q).1,x.Cm.wf:=by
 unfold G';split
 · exact fun x Ab=>absurd Ab List.not_mem_nil
 · rename_i Ao;exact gL (fs (Classical.not_not.1 Ao)).1 hw (OM (e:=80) ⟨by decide,by decide⟩)
theorem Ac6{a b:List BL}(PZ:∀x∈a,x.Cm.wf)(Xw:∀x∈b,x.Cm.wf):∀x∈(M_ a b).1,x.Cm.wf:=by
 unfold M_;split
 · exact fun x Ab=>absurd Ab List.not_mem_nil
 · rename_i Ts;have Ao:(Fg a&&Fg b)=true:=(by simpa using Ts);rw[Bool.and_eq_true]at Ao;obtain⟨AK,Aq⟩:=Ao;have Bm:=(Rl.1 Aq).1;clear Aq Ts;show ∀x∈b.foldl Ld a,x.Cm.wf;induction b generalizing a with
   |nil=>exact PZ
   |cons m r Cg=>
    rw[List.foldl_cons];have hm:=Bm m (List.mem_cons_self ..);refine Cg ?_ (fun x Ab=>Xw x (List.mem_cons_of_mem _ Ab)) ?_ (fun x Ab=>Bm x (List.mem_cons_of_mem _ Ab))
    · unfold Ld;split
      · exact gL AK PZ (Xw m (List.mem_cons_self ..))
      · exact PZ
    · unfold Ld;split
      · exact bG AK hm.1 hm.2
      · exact AK
structure CE (w v:Ah):Prop where
 ws:Ce v.S
 g:v.S.CZ=w.S.CZ
 i:v.S.DX=w.S.DX
 x:v.ix=w.ix
 n:v.nd=w.nd
theorem CE.refl{w:Ah}(h:Ce w.S):CE w w:=⟨h,rfl,rfl,rfl,rfl⟩
theorem CE.trans{w v u:Ah}(h:CE w v)(k:CE v u):CE w u:=⟨k.ws,k.g.trans h.g,k.i.trans h.i,k.x.trans h.x,k.n.trans h.n⟩
theorem Q2{l:List AD}{k:ByteArray}(h:(BF l k).2=true):(BF l k).1∈l/\(BF l k).1.Al=k:=by
 unfold BF at h ⊢;cases e:Gd l.length (fun j=>decide ((l.getD j default).Al=k))with
 |none=>rw[e]at h;cases h
 |some j=>exact⟨Hl (Q4 e),of_decide_eq_true (List.find?_range_eq_some.1 e).1⟩
theorem UH{l:List AD}{k:ByteArray}(h:(BF l k).2=false):(∀a∈l,a.Al≠k)/\(BF l k).1=(O9 k).1:=by
 unfold BF at h ⊢;cases e:Gd l.length (fun j=>decide ((l.getD j default).Al=k))with
 |none=>
  refine⟨fun a AK=>?_,rfl⟩;obtain⟨j,Ay,rfl⟩:=UP AK;have:=List.find?_range_eq_none.1 e j Ay;simpa using this
 |some j=>rw[e]at h;cases h
theorem oS{l:List AD}(hs:H6 (·.Al) Ds l)(k:ByteArray):(BF l k).2=G9 (·.Al) Ds k l:=by
 rw[Bool.eq_iff_iff,br Pa hs];constructor
 · intro h;exact⟨_,Q2 h⟩
 · rintro⟨x,Ab,e⟩;cases h:(BF l k).2 with
   |true=>rfl
   |false=>exact absurd e ((UH h).1 x Ab)
theorem YR{k:ByteArray}(h:Ix k=true):(O9 k).1={Fj with Al:=k}/\Fw (O9 k).1/\D3 (O9 k).1/\(O9 k).1.Al=k:=by
 obtain⟨A1,AY⟩:=YY.1 h;have e:(O9 k).1={Fj with Al:=k}:=by rw[O9,if_neg (by simp only[Bool.or_eq_true,decide_eq_true_eq];omega)]
 rw[e];have z:A' 0:=DW;refine⟨rfl,⟨h,Int.le_refl _,Int.le_refl _,Int.le_refl _,rfl,Int.le_refl _,Int.le_refl _,fun _=>rfl,fun q=>absurd rfl q⟩,⟨⟨by show k.size<=9223372036854775807;omega,⟨z,z⟩,z,z,trivial,z,z,z,z⟩,fun x Ab=>absurd Ab List.not_mem_nil⟩,rfl⟩
theorem V9{S:Bv}(h:Ce S){k:ByteArray}(AE:Ix k=true):Fw (BF S.Aj k).1/\D3 (BF S.Aj k).1/\(BF S.Aj k).1.Al=k:=by
 cases e:(BF S.Aj k).2 with
 |true=>
  obtain⟨a,b⟩:=Q2 e;exact⟨(h.acc _ a).1,(h.acc _ a).2.1,b⟩
 |false=>
  rw[(UH e).2];obtain⟨_,b,c,d⟩:=YR AE;exact⟨b,c,d⟩
theorem Ce.mA{S:Bv}(h:Ce S){l:List AD}(Af:l.length<=12)(h2:∀a∈l,Fw a/\D3 a/\F' S a.Al=true)(Bo:H6 (·.Al) Ds l)(Bw:S.Du=false->l=[]):Ce {S with Aj:=l}:=
 {h with own:=⟨fun e=>⟨(h.own.no e).1,(h.own.no e).2.1,Bw e,(h.own.no e).2.2.2⟩,h.own.yes⟩,len:=Af,acc:=h2,Ll:=Bo,wt:=h.wt,Hc:=h.Hc}
theorem Ce.gJ{S:Bv}(h:Ce S){l:List BL}(Af:Fg l=true)(h2:∀x∈l,x.Cm.wf):Ce {S with Bz:=l}:={h with marks:=Af,Me:=h2,own:=⟨h.own.no,h.own.yes⟩,acc:=h.acc,wt:=h.wt,Hc:=h.Hc}
theorem Ce.SH{S:Bv}(h:Ce S){l:List Bx}(Af:Is l=true):Ce {S with Bj:=l}:={h with VZ:=Af,own:=⟨h.own.no,h.own.yes⟩,acc:=h.acc,wt:=h.wt,Hc:=h.Hc}
theorem Ce.uN{S:Bv}(h:Ce S){l:List Df}(Af:HE l=true):Ce {S with CX:=l}:={h with ends:=Af,own:=⟨h.own.no,h.own.yes⟩,acc:=h.acc,wt:=h.wt,Hc:=h.Hc}
theorem Ce.uO{S:Bv}(h:Ce S){l:List BX}(Af:l.length<=8)(h2:∀x∈l,Mr S x=true/\x.wf)(Bw:S.Du=false->l=[]):Ce {S with AA:=l}:=
 {h with wl:=Af,wt:=fun x Ab=>(h2 x Ab).1,ww:=fun x Ab=>(h2 x Ab).2,own:=⟨fun e=>⟨(h.own.no e).1,(h.own.no e).2.1,(h.own.no e).2.2.1,Bw e,(h.own.no e).2.2.2.2⟩,h.own.yes⟩,acc:=h.acc,Hc:=h.Hc}
theorem Ce.bB{S:Bv}(h:Ce S){l:List BX}(hs:l.Sublist S.AA):Ce {S with AA:=l}:=
 h.uO (Nat.le_trans hs.length_le h.wl) (fun x Ab=>⟨h.wt x (hs.subset Ab),h.ww x (hs.subset Ab)⟩) fun e=>by
  have:=(h.own.no e).2.2.2.1;rw[this]at hs;exact List.sublist_nil.1 hs
theorem WX{S:Bv}{k:ByteArray}(h:F' S k=true):S.Du=true:=by
 rw[F',Bool.and_eq_true]at h;exact h.1
theorem TL{w:Ah}{a:AD}(h:Ce w.S)(AK:Fw a)(hw:D3 a)(A7:F' w.S a.Al=true)(AN:(BF w.S.Aj a.Al).2=true\/w.S.Aj.length<12):CE w (w.put a):=by
 refine⟨h.mA ?_ (fun x Ab=>?_) (W4 Pa h.Ll) (fun e=>by rw[WX A7]at e;cases e),rfl,rfl,rfl,rfl⟩
 · rw[oS h.Ll]at AN;have EM:=h.len;rcases AN with AN|AN
   · rw[su AN];exact EM
   · have:=cb (key:=fun a:AD=>a.Al) (lt:=Ds) a w.S.Aj;omega
 · rcases(PJ Pa h.Ll).1 Ab with rfl|Ab
   · exact⟨AK,hw,A7⟩
   · exact h.acc x Ab.1
theorem cJ{w:Ah}(h:Ce w.S)(k c q:Int)(a:De):CE w (w.tell k c q a):=⟨h,rfl,rfl,rfl,rfl⟩
theorem X3{w:Ah}(h:Ce w.S)(c q:Int){a:De}(AK:a.wf):CE w (w.done c q a):=by
 unfold Ah.done;simp only;split
 · rename_i e;exact⟨h.gJ (y1 e) (y2 h.Me AK),rfl,rfl,rfl,rfl⟩
 · exact⟨h,rfl,rfl,rfl,rfl⟩
theorem f'{w:Ah}(h:Ce w.S)(c q n:Int)(k:ByteArray){a:De}(AK:a.wf):CE w (w.served c q n k a):=by
 have AJ:=X3 h c q AK;unfold Ah.served;simp only;split
 · exact⟨AJ.ws,AJ.g,AJ.i,AJ.x,AJ.n⟩
 · exact AJ
theorem k2{w:Ah}(h:Ce w.S)(c q:Int):CE w (w.raise c q):=by
 unfold Ah.raise;split
 · rename_i e;exact⟨h.uN (sF e),rfl,rfl,rfl,rfl⟩
 · exact CE.refl h
theorem V3{w:Ah}(h:Ce w.S)(g:BX->Bool):CE w (w.drop g):=⟨h.bB List.filter_sublist,rfl,rfl,rfl,rfl⟩
theorem fi{a:AD}{c q:Int}(h:Hn a c q=true):G_ a=true:=by
 simp only[Hn,Bool.and_eq_true]at h;exact h.1.1
theorem Ce.bE{S:Bv}(h:Ce S){f:AD->AD}(BI:∀a∈S.Aj,Fw (f a)/\D3 (f a)/\(f a).Al=a.Al):Ce {S with Aj:=S.Aj.map f}:=by
 refine h.mA (by rw[List.length_map];exact h.len) (fun x Ab=>?_) ?_ (fun e=>by rw[(h.own.no e).2.2.1];rfl)
 · obtain⟨a,AK,rfl⟩:=List.mem_map.1 Ab;obtain⟨x,y,z⟩:=BI a AK;exact⟨x,y,by rw[z];exact(h.acc a AK).2.2⟩
 · have hs:=h.Ll;unfold H6 at hs ⊢;rw[List.pairwise_map];refine hs.imp_of_mem fun{a b} AK Aq q=>?_;show Ds (f a).Al (f b).Al=true;rw[(BI a AK).2.2,(BI b Aq).2.2];exact q
theorem ep{a:AD}{c:Bool}(AK:Fw a)(w:D3 a)(AN:G_ a=true):(D1 a c).2=0:=by
 rw[D1,if_neg (by rw[AK.acc w];decide),if_neg (by rw[AN];decide)]
theorem av{w:Ah}(h:Ce w.S)(c q:Int){e:Int}(he:A' e):CE w (w.ends c q e):=by
 unfold Ah.ends;simp only;have Af:=X3 h c q (OM he);refine Af.trans ?_;generalize w.done c q (HN e)=v at*;have h2:Ce {v.S with Aj:=v.S.Aj.map fun a=>if Hn a c q=true then(D1 a (decide ((findD w.S.Bj c q).C3=1))).1 else a}:=Af.ws.bE fun a AK=>by
  obtain⟨x,y,_⟩:=Af.ws.acc a AK;split
  · rename_i Aq;obtain⟨_,_,p,q,r⟩:=UK (c:=decide ((findD w.S.Bj c q).C3=1)) y (ep x y (fi Aq));exact⟨q,r,by rw[p]⟩
  · exact⟨x,y,rfl⟩
 have Bo:CE v {v with S:={v.S with Aj:=v.S.Aj.map fun a=>if Hn a c q=true then(D1 a (decide ((findD w.S.Bj c q).C3=1))).1 else a}}:=⟨h2,rfl,rfl,rfl,rfl⟩;refine Bo.trans ((V3 Bo.ws _).trans (k2 (V3 Bo.ws _).ws c q))
theorem oe{w:Ah}(h:Ce w.S)(c q:Int):CE w (w.RR c q):=av h c q (by split<;>exact⟨by decide,by decide⟩)
theorem er{w:Ah}(h:Ce w.S)(c q:Int):CE w (w.OR c q):=by
 unfold Ah.OR;simp only;split
 · rename_i e;rw[Bool.and_eq_true,decide_eq_true_eq]at e;have Af:CE w {w with S:={w.S with Bj:=(NJ w.S.Bj c q).1}}:=⟨h.SH (pb e.1),rfl,rfl,rfl,rfl⟩;exact Af.trans (av Af.ws c q ⟨by decide,by decide⟩)
 · exact CE.refl h
theorem dA{c:Dg}{n:Int}(h:NA c n=true):Jj c.Ap c.As=true/\1<=c.Bn/\c.Bn<=n/\1<=c.AM.Ca/\c.AM.Ca<=6/\Ix c.AM.Al=true/\(c.AM.Ca=1\/c.AM.Ca=2\/c.AM.Ca=6->1<=c.AM.B2)/\(c.AM.Ca=6->Ix c.AM.EL=true/\¬c.AM.EL=c.AM.Al):=by
 unfold NA at h;split at h
 · cases h
 · rename_i Af;simp only[Bool.or_eq_true,decide_eq_true_eq,not_or,Bool.not_eq_true',Bool.not_eq_false]at Af;obtain⟨⟨⟨⟨⟨a,b⟩,dG⟩,d⟩,e⟩,f⟩:=Af;refine⟨a,by omega,by omega,by omega,by omega,f,?_⟩;split at h
   · rename_i h2;simp only[Bool.or_eq_true,decide_eq_true_eq]at h2 h;exact⟨fun _=>h,fun q=>by omega⟩
   · rename_i h2;simp only[Bool.or_eq_true,decide_eq_true_eq,not_or]at h2;split at h
     · simp only[Bool.and_eq_true,decide_eq_true_eq,Bool.not_eq_true',decide_eq_false_iff_not]at h;exact⟨fun _=>h.1.1,fun _=>⟨h.1.2,h.2⟩⟩
     · exact⟨fun q=>by omega,fun q=>by omega⟩
theorem gg{o:FL}(w:A' o.B2)(h:1<=o.B2):A' (signed o):=by
 obtain⟨a,b⟩:=w;unfold signed;split
 · exact⟨by omega,by omega⟩
 · exact⟨a,b⟩
theorem c3{w:Ah}{x:BX}(h:Ce w.S)(AN:w.S.AA.length<8)(Ab:Mr w.S x=true)(hw:x.wf)(A7:w.S.Du=true):CE w (w.wait x):=by
 refine⟨h.uO (by rw[List.length_append];simp only[List.length_cons,List.length_nil];omega) (fun y Bf=>?_) (fun e=>by rw[A7]at e;cases e),rfl,rfl,rfl,rfl⟩;rcases List.mem_append.1 Bf with Bf|Bf
 · exact⟨h.wt y Bf,h.ww y Bf⟩
 · rw[List.mem_singleton.1 Bf];exact⟨Ab,hw⟩
theorem gG{S:Bv}{x:BX}(Af:Jj x.Ap x.As=true)(h2:Ix x.AM.Al=true)(Bo:F' S x.AM.Al=true)(BB:Ef S x.AM.Al=false)(h:(x.Ca=1/\Xu x=true)\/(x.Ca=2/\Xv x=true)):Mr S x=true:=by
 have e:Zx S x=false:=by rw[Zx,Af,h2,Bo,BB];rfl
 rw[Mr,e,if_neg (by decide)];rcases h with⟨a,b⟩|⟨a,b⟩
 · rw[if_pos (decide_eq_true a)];exact b
 · rw[if_neg (by rw[a];decide),if_pos (decide_eq_true a)];exact b
theorem fF{S:Bv}{c q home n:Int}{k:ByteArray}(Af:Jj c q=true)(h2:Ix k=true)(Bo:F' S k=true)(BB:Ef S k=false)(hh:Ih home=true)(Ao:¬n=0):Mr S (Li c q home k n)=true:=
 gG Af h2 Bo BB (.inr ⟨rfl,by
  show(decide ((0:Int)=0)&&Ih home&&(!decide (n=0))&&decide (({mV with Al:=k,B2:=n}:FL)=⟨0,k,ByteArray.empty,n,0,0⟩))=true;rw[hh,decide_eq_false Ao];simp[mV]⟩)
theorem W3{c q home n:Int}{k:ByteArray}(Af:Jj c q=true)(h2:Ix k=true)(hh:Ih home=true)(Ao:A' n):(Li c q home k n).wf:=by
 simp only[Jj,Ih,Bool.and_eq_true,decide_eq_true_eq]at Af hh;have BI:EW=4611686018427387904:=rfl;have i2:A' 2:=⟨by decide,by decide⟩;have Fb:ByteArray.empty.size<=9223372036854775807:=by decide
 have AE:=YY.1 h2;have z:A' 0:=DW;exact⟨i2,⟨by show _<=c;omega,by show c<=_;omega⟩,⟨by show _<=q;omega,by show q<=_;omega⟩,z,⟨by show _<=home;omega,by show home<=_;omega⟩,⟨z,by show k.size<=_;omega,Fb,Ao,z,z⟩⟩
theorem Akn{w:Ah}{c:Dg}(h:Ce w.S)(Bm:NA c w.nd=true)(AE:c.AM.Ca=6)(wn:A' c.AM.B2)(A7:F' w.S c.AM.Al=true)(hs:Ef w.S c.AM.Al=false):CE w (w.T5 c):=by
 obtain⟨DP,_,_,_,_,KY,OH,VN⟩:=dA Bm;have HG:=OH (.inr (.inr AE));obtain⟨AY,_⟩:=VN AE;unfold Ah.T5;split
 · exact f' h _ _ _ _ (OM ⟨by decide,by decide⟩)
 · rename_i Af;simp only[Bool.or_eq_true,decide_eq_true_eq,not_or,Bool.not_eq_true',Bool.not_eq_false]at Af;obtain⟨d1,_⟩:=rU Af.1;have AJ:CE w {w with S:={w.S with Bj:=(Mf w.S.Bj (QW c)).1}}:=⟨h.SH d1,rfl,rfl,rfl,rfl⟩;obtain⟨rE,J'⟩:=wn;simp only;refine AJ.trans ?_;have B4:=c3 (x:=Li c.Ap c.As w.S.CZ c.AM.Al (-c.AM.B2)) AJ.ws (by show w.S.AA.length<8;omega) (fF DP KY A7 hs h.RZ (by omega)) (W3 DP KY h.RZ ⟨by omega,by omega⟩) (WX A7);split
   · rename_i h2;rw[Bool.and_eq_true,Bool.not_eq_true']at h2;refine B4.trans (c3 B4.ws (by show(w.S.AA++[_]).length<8;rw[List.length_append];simp only[List.length_cons,List.length_nil];omega) (fF DP AY h2.1 h2.2 h.RZ (by omega)) (W3 DP AY h.RZ ⟨rE,J'⟩) (WX A7))
   · exact B4
theorem Afx{w:Ah}{c:Dg}(h:Ce w.S)(hw:c.AM.wf)(OZ:w.nd<=5)(Aby:A' c.Bn):CE w (w.op c):=by
 unfold Ah.op;split
 · exact CE.refl h
 · rename_i Bw;have Bm:NA c w.nd=true:=(by simpa using Bw);obtain⟨DP,EK,FR,Iz,Lv,KY,OH,VN⟩:=dA Bm;simp only;split
   · exact CE.refl h
   · rename_i Af;split
     · split
       · exact cJ h _ _ _ _
       · exact CE.refl h
     · split
       · exact cJ h _ _ _ _
       · rename_i Bo;simp only[Bool.or_eq_true,not_or,Bool.not_eq_true',Bool.not_eq_false,Bool.not_eq_true,decide_eq_true_eq]at Bo;obtain⟨⟨A7,hs⟩,he⟩:=Bo;have hm:CE w {w with S:={w.S with Bz:=(IS w.S.Bz c.Ap c.As).1}}:=⟨h.gJ (nw (Classical.not_not.1 Af)) (nx (Classical.not_not.1 Af) h.Me),rfl,rfl,rfl,rfl⟩;split
         · rename_i AE;exact hm.trans (Akn hm.ws Bm AE hw.2.2.2.1 A7 hs)
         · split
           · rename_i BB;simp only[Mu,Bool.and_eq_true,Bool.not_eq_true',Bool.or_eq_false_iff,decide_eq_false_iff_not,decide_eq_true_eq]at BB;obtain⟨⟨⟨AY,_⟩,BI⟩,AK⟩:=BB;obtain⟨_,f2,f3⟩:=V9 h KY;obtain⟨_,_,p,q,r⟩:=ZU f2 (gg hw.2.2.2.1 (OH (by omega))) AK;have e:=TL (w:={w with S:={w.S with Bz:=(IS w.S.Bz c.Ap c.As).1}}) hm.ws q r (by rw[p];show F' w.S (BF w.S.Aj c.AM.Al).1.Al=true;rw[f3];exact A7) (.inl (by rw[p];show(BF w.S.Aj (BF w.S.Aj c.AM.Al).1.Al).2=true;rw[f3];exact BI));exact hm.trans (e.trans (f' e.ws _ _ _ _ ZA))
           · split
             · exact hm.trans (f' hm.ws _ _ _ _ (OM ⟨by decide,by decide⟩))
             · rename_i C';obtain⟨Ie,II,IJ,J0,Ks,MG⟩:=hw;have AE:=YY.1 KY;have Acq:=DP;simp only[Jj,Bool.and_eq_true,decide_eq_true_eq]at Acq;have Anp:EW=4611686018427387904:=rfl;have i1:A' 1:=⟨by decide,by decide⟩;refine hm.trans (c3 hm.ws (by show w.S.AA.length<8;have C':¬(w.S.AA.length:Int)>=8:=C';omega) (gG DP KY A7 hs (.inl ⟨rfl,?_⟩)) ⟨i1,⟨by show _<=c.Ap;omega,by show c.Ap<=_;omega⟩,⟨by show _<=c.As;omega,by show c.As<=_;omega⟩,Aby,DW,⟨Ie,II,IJ,J0,Ks,MG⟩⟩ (WX A7));rename_i Bp _;have Bd:c.AM.Ca<=5:=(by omega);show(decide (c.Bn>=1)&&decide (c.Bn<=5)&&decide ((0:Int)=0)&&decide (c.AM.Ca>=1)&&decide (c.AM.Ca<=5)&&(decide (c.AM.Ca>2)||decide (c.AM.B2>=1)))=true;simp only[Bool.and_eq_true,Bool.or_eq_true,decide_eq_true_eq];refine⟨⟨⟨⟨⟨EK,by omega⟩,trivial⟩,Iz⟩,Bd⟩,?_⟩;by_cases q:c.AM.Ca>2
               · exact .inl q
               · exact .inr (OH (by omega))
theorem Aiq{w:Ah}{c:Dg}(h:Ce w.S):CE w (w.report c):=by
 unfold Ah.report;split
 · exact CE.refl h
 · rename_i Af;have BI:(BF w.S.Aj c.Al).2=true:=(by simpa using Af);split
   · rename_i h2;obtain⟨m,k⟩:=Q2 BI;obtain⟨x,y,z⟩:=h.acc _ m;obtain⟨_,_,_,_,_,_,_,p,q,r⟩:=lf y h2;exact TL h q r (by rw[p];exact z) (.inl (by rw[p];show(BF w.S.Aj (BF w.S.Aj c.Al).1.Al).2=true;rw[k];exact BI))
   · exact CE.refl h
theorem Aay{w:Ah}{c:Dg}(h:Ce w.S):CE w (w.UQ c):=by
 unfold Ah.UQ;simp only;split
 · rename_i i _;have Af:CE w {w with S:={w.S with AA:=w.S.AA.eraseIdx i}}:=⟨h.bB (List.eraseIdx_sublist ..),rfl,rfl,rfl,rfl⟩;have h2:=X3 Af.ws c.Ap c.As (OM (e:=190) ⟨by decide,by decide⟩);exact Af.trans (h2.trans (er h2.ws _ _))
 · exact er h _ _
theorem AhD{w:Ah}{c:Dg}(h:Ce w.S)(Ao:A' c.It):CE w (w.Vc c):=by
 unfold Ah.Vc;split
 · exact CE.refl h
 · rename_i Af;split
   · exact CE.refl h
   · rename_i h2;simp only[Bool.or_eq_true,not_or,Bool.not_eq_true',Bool.not_eq_false,Bool.not_eq_true,decide_eq_true_eq]at Af h2;obtain⟨⟨⟨⟨⟨⟨⟨a,b⟩,d⟩,e⟩,f⟩,g⟩,_⟩,_⟩:=Af;exact c3 h (by omega) (fF a d f g b e) (W3 a d b Ao) (WX f)
theorem AkO{w:Ah}{c:Dg}(h:Ce w.S):CE w (w.T' c):=by
 unfold Ah.T';simp only;split
 · exact CE.refl h
 · rename_i Af;have AJ:CE w {w with S:={w.S with Bj:=(Jk w.S.Bj c.Ap c.As false c.Jr).1}}:=⟨h.SH (cC (Classical.not_not.1 Af)),rfl,rfl,rfl,rfl⟩;split
   · exact AJ.trans (oe AJ.ws _ _)
   · exact AJ
theorem xZ{w:Ah}{c:Dg}(h:Ce w.S):CE w (w.S5 c):=by
 unfold Ah.S5;split
 · exact CE.refl h
 · simp only;have key:CE w (if((BF w.S.Aj c.Al).2&&Hn (BF w.S.Aj c.Al).1 c.Ap c.As)=true then w.put (D1 (BF w.S.Aj c.Al).1 c.Jr).1 else w):=by
    split
    · rename_i h2;rw[Bool.and_eq_true]at h2;obtain⟨m,k⟩:=Q2 h2.1;obtain⟨x,y,z⟩:=h.acc _ m;obtain⟨_,_,p,q,r⟩:=UK (c:=c.Jr) y (ep x y (fi h2.2));exact TL h q r (by rw[p];exact z) (.inl (by rw[p];show(BF w.S.Aj (BF w.S.Aj c.Al).1.Al).2=true;rw[k];exact h2.1))
    · exact CE.refl h
   exact key.trans ((V3 key.ws _).trans (k2 (V3 key.ws _).ws _ _))
theorem zW{w:Ah}{c:Dg}(h:Ce w.S):CE w (w.forget c):=by
 unfold Ah.forget;split
 · rename_i e;exact⟨h.SH (zV e),rfl,rfl,rfl,rfl⟩
 · exact CE.refl h
theorem Aei{w:Ah}{c:Dg}(h:Ce w.S)(_:c.Dj.Ev=w.S.CW.Ev->True):CE w (w.WS c):=by
 unfold Ah.WS;split
 · exact CE.refl h
 · rename_i Af;simp only[Bool.or_eq_true,not_or,Bool.not_eq_true',Bool.not_eq_false,decide_eq_true_eq]at Af;obtain⟨⟨⟨Sp,HG⟩,B4⟩,DC⟩:=Af;have Ao:L7 c.Dj.Ev:=by
    rcases h.out with⟨x,_⟩|⟨x,_⟩
    · rw[x]at HG;exact absurd HG Sp
    · simp only[LK,Bool.and_eq_true,decide_eq_true_eq]at x;exact⟨by omega,by omega⟩
   have U1:=h.ON;have AbF:L7 (max w.S.Dn c.Dn):=⟨by have:=U1.1;omega,by have:=U1.2;omega⟩;refine⟨{h with un:=Ao,ON:=AbF,own:=⟨h.own.no,fun o=>⟨?_,(h.own.yes o).2⟩⟩,out:=.inl ⟨rfl,rfl⟩,acc:=h.acc,wt:=h.wt,Hc:=h.Hc},rfl,rfl,rfl,rfl⟩;have:=(h.own.yes o).1;show 1<=max w.S.Dn c.Dn;omega
structure m3 where
 CZ:Int
 zA:AD
 deriving DecidableEq,Inhabited
end Go.Apw
namespace Go.A_
end Go.A_
namespace Go.Apw
def Akk(x:m3):ZS:=⟨x.zA,x.CZ⟩
def b0(Im:List Bv)(PN:List (List QM))(l:List m3):Bool:=allI l.length (fun j=>(Abt Im PN (Akk (l.getD j default))).2)
end Go.Apw
