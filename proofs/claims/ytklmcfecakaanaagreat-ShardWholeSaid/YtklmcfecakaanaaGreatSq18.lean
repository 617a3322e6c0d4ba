/- Part 18 of shardWhole_holds. -/
import Derived.Test.YtklmcfecakaanaaGreatSq17

set_option maxRecDepth 20000
set_option maxHeartbeats 1000000
open Go.Proofs.Tryz renaming underlying36→ARL,underlying38→ARQ,underlying39→ARN,underlying40→ARR
open List renaming eraseIdx_eq_take_drop_succ→ASg,length_append→ABP,length_cons→ABv,length_nil→ABo,length_set→ABj
open Nat renaming min_def→ADt,min_eq_left→ADH
open Go.A_ Go.Proofs Go.Proofs.YtklmcfecakaanaaGreat
namespace Go.Apw
theorem AcK(v:Value)(xs:List BD)(i b:Nat)(ov:BD)(Ag:i<=xs.length)(hw:ov.wf)(hlen:xs.length<=100000):Aw AG 157 [v,.int .i64 (i:Int),.slice (some ⟨b,0,none⟩) 1 1] [@row BD Mj 123 v xs,AO b 123 (JH ov)] [] (fun(_:Unit) _=>True) (fun _ u=>[@row BD Mj 123 u (FO i ov xs)]) (fun _ _=>[]):=by
 refine Aw.proof Tryz.func157 G 95 G G fun X w=>AF 1 G<|Ae<|U 2 G<|gj 0 G G I6 G Ag G fun _=>Ac<|Ae<|An G G<|WN G ADN G<|U 1 G<|Ac<|Am<|AF 2 G<|B9 G (fun CR=>?_) (fun CR=>?_)
 · exact absurd CR ARp --#done
 refine AZ<|Ae<|An G G<|JX 0 G G ADN G fun U9=>U 1 G<|Ac<|Am<|Ae<|U 2 G<|U 1 G<|Ac<|B9 G (fun JQ=>?_) (fun JQ=>?_)
 ·
  have LM:i=xs.length:=AMT;refine Ae<|U 2 G<|D9 1 G<|KJ (α:=BD) ov (fun S w h=>⟨(),G,by simp,hw⟩)<|ap 0 0 G G G G S1 (by simp only[ABv,ABo];omega) (by simp only[ABv,ABo];omega) G fun T7=>?_;rw[e2 (xs:=xs) (ov:=ov) LM];exact U 1 G<|Ac<|BA<|Bq () G G trivial G Aa
 have LM:i<xs.length:=AMT;refine Sw 0 G (show 0<xs.length by omega) fun HO cap BC Kn ID=>?_;subst BC;have UZ:cap<=9223372036854775807:=ID;refine AZ<|Am<|Ae<|U 2 G<|C5 G G BV G<|An G G<|dR G ADN G<|U 1 G<|Ac<|B9 G (fun ES=>?_) (fun ES=>?_)
 ·
  refine Ae<|U 2 G<|PO G I6 G AMT G<|U 2 G<|C5 G G BV G<|An G G<|fZ (r:=((xs.length+1-i:Nat):Int)) G G AMT BV G<|dy 0 G G G S1 ABc Ag AMT AMT AMT G fun kb Wb iP Wj=>?_;have iQ:Wb<=9223372036854775807:=Wj;refine U 1 G<|Ac<|Ae<|U 2 G<|H2 G I6 G AMT AMT G<|An G G<|Uz (s:=MN) 0 2 (h:=i+(xs.length+1-i)) (ov:=ov) (hh:=()) G G G G I6 Aa hw (by rw[ABz];omega) AMT AMT (by rw[ABz];omega) G (e3 Ag)<|Ac<|Am<|Ow 8 mixed ARs<|U 3 G<|Hf (r:=((i+1:Nat):Int)) G G AMT BV G<|H2 G I6 G AMT AMT G<|U 2 G<|H2 G I6 G AMT AMT G<|Oq<|UA 0 1 (k:=i+1) (h:=i+(xs.length+1-i)) (l:=i) (h2:=xs.length) G G G G I6 (by rw[ABP,ABz];simp;omega) AMT AMT AMT (by simp only[ADt];split<;>omega) AMT G (ys:=(FO i ov xs)) (e4 Ag) fun _=>Ac<|Am ?_;have Ee:(FO i ov xs).length=i+(xs.length+1-i):=(by rw[Sh _ _ _ Ag];omega);rw[Ee];exact FA 2 G<|A5<|BA<|Au 1 G<|AQ<|Au 1 G<|AQ<|Bq () G G trivial G Aa
 have Rr:xs.length+1<=cap:=AMT;refine AZ<|Ae<|U 3 G<|Hf (r:=((xs.length+1:Nat):Int)) G G AMT BV G<|PO G I6 G AMT G<|U 1 G<|Ac<|Am<|Ae<|U 4 G<|Hf (r:=((i+1:Nat):Int)) G G AMT BV G<|H2 G I6 G AMT AMT G<|ft 0 1 zu G G G G ARp I6 AMT (ABy G) G<|IH G G<|Ac<|Mv G<|Am<|Ow 8 mixed ARs<|U 3 G<|Hf (r:=((i+1:Nat):Int)) G G AMT BV G<|H2 G I6 G AMT AMT G<|U 2 G<|H2 G I6 G AMT AMT G<|Oq<|UA 0 0 (k:=i+1) (h:=xs.length+1) (l:=i) (h2:=xs.length+1) G G G G I6 AMT AMT AMT AMT (by simp only[ADt];split<;>omega) AMT G (ys:=(xs.take (i+1)++xs.drop i)) (e5 LM) fun _=>Ac<|Ae<|U 2 G<|H2 G I6 G AMT AMT G<|An G G<|Uz (s:=MN) 0 1 (h:=xs.length+1) (ov:=ov) (hh:=()) G G G G I6 Aa hw (by rw[U7 AMT];omega) AMT AMT (by rw[U7 AMT];omega) G (e6 LM)<|Ac<|Am ?_;have Ee:(FO i ov xs).length=xs.length+1:=Sh _ _ _ Ag;rw[Ee];exact FA 2 G<|A5<|BA<|Au 1 G<|AQ<|Bq () G G trivial G Aa
theorem qp(v:Value)(xs:List AD)(i b:Nat)(ov:AD)(AS:Value)(Ag:i<=xs.length)(hw:ov.wf)(hlen:xs.length<=100000):Aw AG 162 [v,.int .i64 (i:Int),.slice (some ⟨b,0,none⟩) 1 1] [@row AD GR 58 v xs,AO b 58 (A3 ov AS)] [⟨AS,ov.A0⟩] (fun(_:Unit) _=>True) (fun _ u=>[@row AD GR 58 u (FO i ov xs)]) (fun _ _=>[]):=by
 refine Aw.proof Tryz.func162 G 95 G G fun X w=>AF 1 G<|Ae<|U 2 G<|gj 0 G G Gt G Ag G fun _=>Ac<|Ae<|An G G<|WN G ARL G<|U 1 G<|Ac<|Am<|AF 2 G<|B9 G (fun CR=>?_) (fun CR=>?_)
 · exact absurd CR ARp --#done
 refine AZ<|Ae<|An G G<|JX 0 G G ARL G fun U9=>U 1 G<|Ac<|Am<|Ae<|U 2 G<|U 1 G<|Ac<|B9 G (fun JQ=>?_) (fun JQ=>?_)
 ·
  have LM:i=xs.length:=AMT;refine Ae<|U 2 G<|D9 1 G ?_;refine KJ (α:=AD) ov (fun S w h=>⟨AS,G,fun t Av=>by
    simp only[ABf,ABh,ABi]at Av;subst Av;exact h _ (AA' (i:=0) G),hw⟩) ?_
  refine ap 0 0 G G G G OI (by simp only[ABv,ABo];omega) (by simp only[ABv,ABo];omega) G fun T7=>?_;rw[e2 (xs:=xs) (ov:=ov) LM];exact U 1 G<|Ac<|BA<|Bq () G G trivial G Aa
 have LM:i<xs.length:=AMT;refine Sw 0 G (show 0<xs.length by omega) fun HO cap BC Kn ID=>?_;subst BC;have UZ:cap<=9223372036854775807:=ID;refine AZ<|Am<|Ae<|U 2 G<|C5 G G BV G<|An G G<|dR G ARL G<|U 1 G<|Ac<|B9 G (fun ES=>?_) (fun ES=>?_)
 ·
  refine Ae<|U 2 G<|PO G Gt G AMT G<|U 2 G<|C5 G G BV G<|An G G<|fZ (r:=((xs.length+1-i:Nat):Int)) G G AMT BV G<|dy 0 G G G OI ABc Ag AMT AMT AMT G fun kb Wb iP Wj=>?_;have iQ:Wb<=9223372036854775807:=Wj;refine U 1 G<|Ac<|Ae<|U 2 G<|H2 G Gt G AMT AMT G<|An G G<|Uz (s:=Nn) 0 2 (h:=i+(xs.length+1-i)) (ov:=ov) (hh:=AS) G G G G Gt (Ad 0 G Aa) hw (by rw[ABz];omega) AMT AMT (by rw[ABz];omega) G (e3 Ag)<|Ac<|Am<|Ow 8 mixed ARs<|U 3 G<|Hf (r:=((i+1:Nat):Int)) G G AMT BV G<|H2 G Gt G AMT AMT G<|U 2 G<|H2 G Gt G AMT AMT G<|Oq<|UA 0 1 (k:=i+1) (h:=i+(xs.length+1-i)) (l:=i) (h2:=xs.length) G G G G Gt (by rw[ABP,ABz];simp;omega) AMT AMT AMT (by simp only[ADt];split<;>omega) AMT G (ys:=(FO i ov xs)) (e4 Ag) fun _=>Ac<|Am ?_;have Ee:(FO i ov xs).length=i+(xs.length+1-i):=(by rw[Sh _ _ _ Ag];omega);rw[Ee];exact FA 2 G<|A5<|BA<|Au 1 G<|AQ<|Au 1 G<|AQ<|Bq () G G trivial G Aa
 have Rr:xs.length+1<=cap:=AMT;refine AZ<|Ae<|U 3 G<|Hf (r:=((xs.length+1:Nat):Int)) G G AMT BV G<|PO G Gt G AMT G<|U 1 G<|Ac<|Am<|Ae<|U 4 G<|Hf (r:=((i+1:Nat):Int)) G G AMT BV G<|H2 G Gt G AMT AMT G<|ft 0 1 zv G G G G ARp Gt AMT (ABy G) G<|IH G G<|Ac<|Mv G<|Am<|Ow 8 mixed ARs<|U 3 G<|Hf (r:=((i+1:Nat):Int)) G G AMT BV G<|H2 G Gt G AMT AMT G<|U 2 G<|H2 G Gt G AMT AMT G<|Oq<|UA 0 0 (k:=i+1) (h:=xs.length+1) (l:=i) (h2:=xs.length+1) G G G G Gt AMT AMT AMT AMT (by simp only[ADt];split<;>omega) AMT G (ys:=(xs.take (i+1)++xs.drop i)) (e5 LM) fun _=>Ac<|Ae<|U 2 G<|H2 G Gt G AMT AMT G<|An G G<|Uz (s:=Nn) 0 1 (h:=xs.length+1) (ov:=ov) (hh:=AS) G G G G Gt (Ad 0 G Aa) hw (by rw[U7 AMT];omega) AMT AMT (by rw[U7 AMT];omega) G (e6 LM)<|Ac<|Am ?_;have Ee:(FO i ov xs).length=xs.length+1:=Sh _ _ _ Ag;rw[Ee];exact FA 2 G<|A5<|BA<|Au 1 G<|AQ<|Bq () G G trivial G Aa
theorem qq(v:Value)(xs:List BL)(i b:Nat)(ov:BL)(Ag:i<=xs.length)(hw:ov.wf)(hlen:xs.length<=100000):Aw AG 218 [v,.int .i64 (i:Int),.slice (some ⟨b,0,none⟩) 1 1] [@row BL W8 130 v xs,AO b 130 (H9 ov)] [] (fun(_:Unit) _=>True) (fun _ u=>[@row BL W8 130 u (FO i ov xs)]) (fun _ _=>[]):=by
 refine Aw.proof Tryz.func218 G 95 G G fun X w=>AF 1 G<|Ae<|U 2 G<|gj 0 G G J1 G Ag G fun _=>Ac<|Ae<|An G G<|WN G ADL G<|U 1 G<|Ac<|Am<|AF 2 G<|B9 G (fun CR=>?_) (fun CR=>?_)
 · exact absurd CR ARp --#done
 refine AZ<|Ae<|An G G<|JX 0 G G ADL G fun U9=>U 1 G<|Ac<|Am<|Ae<|U 2 G<|U 1 G<|Ac<|B9 G (fun JQ=>?_) (fun JQ=>?_)
 ·
  have LM:i=xs.length:=AMT;refine Ae<|U 2 G<|D9 1 G<|KJ (α:=BL) ov (fun S w h=>⟨(),G,by simp,hw⟩)<|ap 0 0 G G G G QN (by simp only[ABv,ABo];omega) (by simp only[ABv,ABo];omega) G fun T7=>?_;rw[e2 (xs:=xs) (ov:=ov) LM];exact U 1 G<|Ac<|BA<|Bq () G G trivial G Aa
 have LM:i<xs.length:=AMT;refine Sw 0 G (show 0<xs.length by omega) fun HO cap BC Kn ID=>?_;subst BC;have UZ:cap<=9223372036854775807:=ID;refine AZ<|Am<|Ae<|U 2 G<|C5 G G BV G<|An G G<|dR G ADL G<|U 1 G<|Ac<|B9 G (fun ES=>?_) (fun ES=>?_)
 ·
  refine Ae<|U 2 G<|PO G J1 G AMT G<|U 2 G<|C5 G G BV G<|An G G<|fZ (r:=((xs.length+1-i:Nat):Int)) G G AMT BV G<|dy 0 G G G QN ABc Ag AMT AMT AMT G fun kb Wb iP Wj=>?_;have iQ:Wb<=9223372036854775807:=Wj;refine U 1 G<|Ac<|Ae<|U 2 G<|H2 G J1 G AMT AMT G<|An G G<|Uz (s:=cy) 0 2 (h:=i+(xs.length+1-i)) (ov:=ov) (hh:=()) G G G G J1 Aa hw (by rw[ABz];omega) AMT AMT (by rw[ABz];omega) G (e3 Ag)<|Ac<|Am<|Ow 8 mixed ARs<|U 3 G<|Hf (r:=((i+1:Nat):Int)) G G AMT BV G<|H2 G J1 G AMT AMT G<|U 2 G<|H2 G J1 G AMT AMT G<|Oq<|UA 0 1 (k:=i+1) (h:=i+(xs.length+1-i)) (l:=i) (h2:=xs.length) G G G G J1 (by rw[ABP,ABz];simp;omega) AMT AMT AMT (by simp only[ADt];split<;>omega) AMT G (ys:=(FO i ov xs)) (e4 Ag) fun _=>Ac<|Am ?_;have Ee:(FO i ov xs).length=i+(xs.length+1-i):=(by rw[Sh _ _ _ Ag];omega);rw[Ee];exact FA 2 G<|A5<|BA<|Au 1 G<|AQ<|Au 1 G<|AQ<|Bq () G G trivial G Aa
 have Rr:xs.length+1<=cap:=AMT;refine AZ<|Ae<|U 3 G<|Hf (r:=((xs.length+1:Nat):Int)) G G AMT BV G<|PO G J1 G AMT G<|U 1 G<|Ac<|Am<|Ae<|U 4 G<|Hf (r:=((i+1:Nat):Int)) G G AMT BV G<|H2 G J1 G AMT AMT G<|ft 0 1 zw G G G G ARp J1 AMT (ABy G) G<|IH G G<|Ac<|Mv G<|Am<|Ow 8 mixed ARs<|U 3 G<|Hf (r:=((i+1:Nat):Int)) G G AMT BV G<|H2 G J1 G AMT AMT G<|U 2 G<|H2 G J1 G AMT AMT G<|Oq<|UA 0 0 (k:=i+1) (h:=xs.length+1) (l:=i) (h2:=xs.length+1) G G G G J1 AMT AMT AMT AMT (by simp only[ADt];split<;>omega) AMT G (ys:=(xs.take (i+1)++xs.drop i)) (e5 LM) fun _=>Ac<|Ae<|U 2 G<|H2 G J1 G AMT AMT G<|An G G<|Uz (s:=cy) 0 1 (h:=xs.length+1) (ov:=ov) (hh:=()) G G G G J1 Aa hw (by rw[U7 AMT];omega) AMT AMT (by rw[U7 AMT];omega) G (e6 LM)<|Ac<|Am ?_;have Ee:(FO i ov xs).length=xs.length+1:=Sh _ _ _ Ag;rw[Ee];exact FA 2 G<|A5<|BA<|Au 1 G<|AQ<|Bq () G G trivial G Aa
theorem AcJ(v:Value)(xs:List Df)(i b:Nat)(ov:Df)(Ag:i<=xs.length)(hw:ov.wf)(hlen:xs.length<=100000):Aw AG 223 [v,.int .i64 (i:Int),.slice (some ⟨b,0,none⟩) 1 1] [@row Df Y9 125 v xs,AO b 125 (QT ov)] [] (fun(_:Unit) _=>True) (fun _ u=>[@row Df Y9 125 u (FO i ov xs)]) (fun _ _=>[]):=by
 refine Aw.proof Tryz.func223 G 95 G G fun X w=>AF 1 G<|Ae<|U 2 G<|gj 0 G G Ky G Ag G fun _=>Ac<|Ae<|An G G<|WN G ARR G<|U 1 G<|Ac<|Am<|AF 2 G<|B9 G (fun CR=>?_) (fun CR=>?_)
 · exact absurd CR ARp --#done
 refine AZ<|Ae<|An G G<|JX 0 G G ARR G fun U9=>U 1 G<|Ac<|Am<|Ae<|U 2 G<|U 1 G<|Ac<|B9 G (fun JQ=>?_) (fun JQ=>?_)
 ·
  have LM:i=xs.length:=AMT;refine Ae<|U 2 G<|D9 1 G<|KJ (α:=Df) ov (fun S w h=>⟨(),G,by simp,hw⟩)<|ap 0 0 G G G G RM (by simp only[ABv,ABo];omega) (by simp only[ABv,ABo];omega) G fun T7=>?_;rw[e2 (xs:=xs) (ov:=ov) LM];exact U 1 G<|Ac<|BA<|Bq () G G trivial G Aa
 have LM:i<xs.length:=AMT;refine Sw 0 G (show 0<xs.length by omega) fun HO cap BC Kn ID=>?_;subst BC;have UZ:cap<=9223372036854775807:=ID;refine AZ<|Am<|Ae<|U 2 G<|C5 G G BV G<|An G G<|dR G ARR G<|U 1 G<|Ac<|B9 G (fun ES=>?_) (fun ES=>?_)
 ·
  refine Ae<|U 2 G<|PO G Ky G AMT G<|U 2 G<|C5 G G BV G<|An G G<|fZ (r:=((xs.length+1-i:Nat):Int)) G G AMT BV G<|dy 0 G G G RM ABc Ag AMT AMT AMT G fun kb Wb iP Wj=>?_;have iQ:Wb<=9223372036854775807:=Wj;refine U 1 G<|Ac<|Ae<|U 2 G<|H2 G Ky G AMT AMT G<|An G G<|Uz (s:=Ze) 0 2 (h:=i+(xs.length+1-i)) (ov:=ov) (hh:=()) G G G G Ky Aa hw (by rw[ABz];omega) AMT AMT (by rw[ABz];omega) G (e3 Ag)<|Ac<|Am<|Ow 8 mixed ARs<|U 3 G<|Hf (r:=((i+1:Nat):Int)) G G AMT BV G<|H2 G Ky G AMT AMT G<|U 2 G<|H2 G Ky G AMT AMT G<|Oq<|UA 0 1 (k:=i+1) (h:=i+(xs.length+1-i)) (l:=i) (h2:=xs.length) G G G G Ky (by rw[ABP,ABz];simp;omega) AMT AMT AMT (by simp only[ADt];split<;>omega) AMT G (ys:=(FO i ov xs)) (e4 Ag) fun _=>Ac<|Am ?_;have Ee:(FO i ov xs).length=i+(xs.length+1-i):=(by rw[Sh _ _ _ Ag];omega);rw[Ee];exact FA 2 G<|A5<|BA<|Au 1 G<|AQ<|Au 1 G<|AQ<|Bq () G G trivial G Aa
 have Rr:xs.length+1<=cap:=AMT;refine AZ<|Ae<|U 3 G<|Hf (r:=((xs.length+1:Nat):Int)) G G AMT BV G<|PO G Ky G AMT G<|U 1 G<|Ac<|Am<|Ae<|U 4 G<|Hf (r:=((i+1:Nat):Int)) G G AMT BV G<|H2 G Ky G AMT AMT G<|ft 0 1 zx G G G G ARp Ky AMT (ABy G) G<|IH G G<|Ac<|Mv G<|Am<|Ow 8 mixed ARs<|U 3 G<|Hf (r:=((i+1:Nat):Int)) G G AMT BV G<|H2 G Ky G AMT AMT G<|U 2 G<|H2 G Ky G AMT AMT G<|Oq<|UA 0 0 (k:=i+1) (h:=xs.length+1) (l:=i) (h2:=xs.length+1) G G G G Ky AMT AMT AMT AMT (by simp only[ADt];split<;>omega) AMT G (ys:=(xs.take (i+1)++xs.drop i)) (e5 LM) fun _=>Ac<|Ae<|U 2 G<|H2 G Ky G AMT AMT G<|An G G<|Uz (s:=Ze) 0 1 (h:=xs.length+1) (ov:=ov) (hh:=()) G G G G Ky Aa hw (by rw[U7 AMT];omega) AMT AMT (by rw[U7 AMT];omega) G (e6 LM)<|Ac<|Am ?_;have Ee:(FO i ov xs).length=xs.length+1:=Sh _ _ _ Ag;rw[Ee];exact FA 2 G<|A5<|BA<|Au 1 G<|AQ<|Bq () G G trivial G Aa
theorem oi(v:Value)(xs:List BX)(i:Nat)(Ag:i<xs.length)(hlen:xs.length<=100000):Aw AG 78 [v,.int .i64 (i:Int),.int .i64 ((i+1:Nat):Int)] [@row BX Ha 108 v xs] [] (fun(_:Unit) _=>True) (fun _ u=>[@row BX Ha 108 u (xs.eraseIdx i)]) (fun _ _=>[]):=by
 refine Aw.proof Tryz.func78 G 33 G G fun X w=>Sw 0 G (show 0<xs.length by omega) fun HO cap BC Kn ID=>?_;subst BC;have UZ:cap<=9223372036854775807:=ID;refine AF 1 G<|Ae<|U 4 G<|JX 0 G G ARQ G fun qR=>tl G N0 G G G AMT AMT Kn G fun _=>Ac<|Am<|AF 3 G<|B9 G (fun CR=>?_) (fun CR=>?_)
 · exact absurd CR AMT --#done
 refine AZ<|Ae<|An G G<|JX 0 G G ARQ G fun U9=>U 1 G<|Ac<|Am<|Ow 6 mixed ARs<|U 2 G<|PO G N0 G AMT G<|U 2 G<|H2 G N0 G AMT Kn G<|Oq<|ni 0 (k:=i) (j:=i+1) G G G Mt AMT AMT G ?_;rw[<-ASg];exact U 1 G<|Ac<|Ae<|U 2 G<|WN G ARQ G<|An G G<|tk G N0 G G AMT Kn G<|Z' 0 G G Mt SM G (by rw[List.length_eraseIdx,AA_ Ag];omega) AMT Kn (fun a f=>f.Su _)<|Ac<|AF 2 G<|rt<|Bq () G G trivial G Aa
theorem yx(v:Value)(xs:List Bx)(i:Nat)(Ag:i<xs.length)(hlen:xs.length<=100000):Aw AG 196 [v,.int .i64 (i:Int),.int .i64 ((i+1:Nat):Int)] [@row Bx ML 67 v xs] [] (fun(_:Unit) _=>True) (fun _ u=>[@row Bx ML 67 u (xs.eraseIdx i)]) (fun _ _=>[]):=by
 refine Aw.proof Tryz.func196 G 33 G G fun X w=>Sw 0 G (show 0<xs.length by omega) fun HO cap BC Kn ID=>?_;subst BC;have UZ:cap<=9223372036854775807:=ID;refine AF 1 G<|Ae<|U 4 G<|JX 0 G G ARN G fun qR=>tl G Ox G G G AMT AMT Kn G fun _=>Ac<|Am<|AF 3 G<|B9 G (fun CR=>?_) (fun CR=>?_)
 · exact absurd CR AMT --#done
 refine AZ<|Ae<|An G G<|JX 0 G G ARN G fun U9=>U 1 G<|Ac<|Am<|Ow 6 mixed ARs<|U 2 G<|PO G Ox G AMT G<|U 2 G<|H2 G Ox G AMT Kn G<|Oq<|ni 0 (k:=i) (j:=i+1) G G G QQ AMT AMT G ?_;rw[<-ASg];exact U 1 G<|Ac<|Ae<|U 2 G<|WN G ARN G<|An G G<|tk G Ox G G AMT Kn G<|Z' 0 G G QQ SO G (by rw[List.length_eraseIdx,AA_ Ag];omega) AMT Kn (fun a f=>f.Su _)<|Ac<|AF 2 G<|rt<|Bq () G G trivial G Aa
variable(a:AD) (Cw:Value) (n le:Int)
theorem Ab2{l:List BD}(h:LI l=true){j:Nat}(Ay:j<l.length):0<=(l.getD j default).Bn/\(l.getD j default).Bn<=100:=by
 have Af:=jx h j Ay;have h2:=(Wy h Ay).2.1;omega
theorem AiE:(0<=Jx a/\Jx a<18446744073709551616)/\0<=K4 a/\K4 a<18446744073709551616:=by
 constructor
 ·
  unfold Jx;split<;>omega
 unfold K4;split<;>omega
theorem TY{n p i:Int}(Ao:0<=n)(AH:0<=p):0<=JA n p i:=by
 unfold JA;split
 · exact ADn _
 have:=Int.ediv_nonneg Ao AH;split<;>omega
theorem ek{n:Int}(h:0<=n):0<=H' n:=by unfold H';omega
theorem oW{n:Int}(h:0<=n):A' (H' n):=by unfold H';exact⟨AMT,AMT⟩
theorem rC{v n:Int}(BC:A' v)(Bw:0<=v)(Ao:0<=n):A' (Iw v n):=by
 obtain⟨Af,h2⟩:=BC;unfold Iw;exact⟨AMT,AMT⟩
section
variable{a:AD} {n le AGm:Int} {CA:List BD}
theorem AaB(Mz:CA=if G9 (fun x:BD=>x.Bn) Go.Apw.AGn n a.A0=true then a.A0 else FO (Cz (fun x:BD=>x.Bn) Go.Apw.AGn n a.A0) ⟨n,le,0,0⟩ a.A0):CA.getD (Cz (fun x:BD=>x.Bn) Go.Apw.AGn n a.A0) default=JW a n le/\Cz (fun x:BD=>x.Bn) Go.Apw.AGn n a.A0<CA.length:=by
 have AH:=St (key:=fun x:BD=>x.Bn) (lt:=Go.Apw.AGn) n a.A0;unfold JW;cases AE:G9 (fun x:BD=>x.Bn) Go.Apw.AGn n a.A0 with
 |true=>
  rw[AE,AA_ rfl]at Mz;rw[AA_ rfl,Mz];refine⟨G,?_⟩;unfold G9 at AE;simp only[ABb,ABa]at AE;exact AE.1
 |false=>
  rw[AE,AA9 ARp]at Mz;rw[AA9 ARp,Mz];refine⟨?_,by rw[Sh _ _ _ AH];omega⟩;rw[ACn,FO,ADE (by rw[ABz];omega),ABz,ADH AH,ADI];rfl
theorem jv(w:D3 a)(ok:Fw a){i:Nat}(AJ:CA.getD i default=JW a n le)(Ao:1<=n/\n<=5)(AN:1<=le/\le<=EW):A' (CA.getD i default).DV/\0<=(CA.getD i default).DV:=by
 have h:=a_ ok.hold w Ao AN;rw[AJ];exact⟨h.2.2.1.2.2.1,h.2.1.up⟩
theorem jw(w:D3 a)(ok:Fw a){i:Nat}{u:Int}(AJ:CA.getD i default=JW a n le)(Ag:i<CA.length)(Ao:1<=n/\n<=5)(AN:1<=le/\le<=EW):A' ((CA.set i {CA.getD i default with DV:=u}).getD i default).Fc/\0<=((CA.set i {CA.getD i default with DV:=u}).getD i default).Fc:=by
 have h:=a_ ok.hold w Ao AN;have e:(CA.set i {CA.getD i default with DV:=u}).getD i default={CA.getD i default with DV:=u}:=by
  rw[ACn,ACP Ag];rfl
 rw[e];show A' (CA.getD i default).Fc/\0<=(CA.getD i default).Fc;rw[AJ];exact⟨h.2.2.1.2.2.2,h.2.1.GV⟩
theorem q3(w:D3 a)(ok:Fw a){i:Nat}{s:Int}(AJ:CA.getD i default=JW a n le)(Ao:1<=n/\n<=5)(AN:1<=le/\le<=EW)(hs:0<=s):({CA.getD i default with DV:=Iw (CA.getD i default).DV (H' s)}:BD).wf:=by
 have h:=a_ ok.hold w Ao AN;have Af:=jv w ok AJ Ao AN;have Bo:(CA.getD i default).wf:=by rw[AJ];exact h.2.2.1
 exact⟨Bo.1,Bo.2.1,rC Af.1 Af.2 (ek hs),Bo.2.2.2⟩
theorem Adu(w:D3 a)(ok:Fw a){i:Nat}{s t:Int}(AJ:CA.getD i default=JW a n le)(Ag:i<CA.length)(Ao:1<=n/\n<=5)(AN:1<=le/\le<=EW)(hs:0<=s)(Av:0<=t):
  ({(CA.set i {CA.getD i default with DV:=Iw (CA.getD i default).DV (H' s)}).getD i default with Fc:=Iw ((CA.set i {CA.getD i default with DV:=Iw (CA.getD i default).DV (H' s)}).getD i default).Fc (H' t)}:BD).wf:=by
 have Af:=jw (u:=Iw (CA.getD i default).DV (H' s)) w ok AJ Ag Ao AN;have e:(CA.set i {CA.getD i default with DV:=Iw (CA.getD i default).DV (H' s)}).getD i default={CA.getD i default with DV:=Iw (CA.getD i default).DV (H' s)}:=by
  rw[ACn,ACP Ag];rfl
 have Bo:=q3 w ok AJ Ao AN hs;rw[<-e]at Bo;exact⟨Bo.1,Bo.2.1,Bo.2.2.1,rC Af.1 Af.2 (ek Av)⟩
theorem AaC{r f:Int}(w:D3 a)(ok:Fw a)(Mz:CA=if G9 (fun x:BD=>x.Bn) Go.Apw.AGn n a.A0=true then a.A0 else FO (Cz (fun x:BD=>x.Bn) Go.Apw.AGn n a.A0) ⟨n,le,0,0⟩ a.A0)(AJ:CA.getD (Cz (fun x:BD=>x.Bn) Go.Apw.AGn n a.A0) default=JW a n le)(Ag:Cz (fun x:BD=>x.Bn) Go.Apw.AGn n a.A0<CA.length)(Ao:1<=n/\n<=5)(AN:1<=le/\le<=EW):
  (CA.set (Cz (fun x:BD=>x.Bn) Go.Apw.AGn n a.A0) {CA.getD (Cz (fun x:BD=>x.Bn) Go.Apw.AGn n a.A0) default with DV:=Iw (CA.getD (Cz (fun x:BD=>x.Bn) Go.Apw.AGn n a.A0) default).DV (H' (JA r (AGm+1) AGm))}).set (Cz (fun x:BD=>x.Bn) Go.Apw.AGn n a.A0)
   {(CA.set (Cz (fun x:BD=>x.Bn) Go.Apw.AGn n a.A0) {CA.getD (Cz (fun x:BD=>x.Bn) Go.Apw.AGn n a.A0) default with DV:=Iw (CA.getD (Cz (fun x:BD=>x.Bn) Go.Apw.AGn n a.A0) default).DV (H' (JA r (AGm+1) AGm))}).getD (Cz (fun x:BD=>x.Bn) Go.Apw.AGn n a.A0) default with
    Fc:=Iw ((CA.set (Cz (fun x:BD=>x.Bn) Go.Apw.AGn n a.A0) {CA.getD (Cz (fun x:BD=>x.Bn) Go.Apw.AGn n a.A0) default with DV:=Iw (CA.getD (Cz (fun x:BD=>x.Bn) Go.Apw.AGn n a.A0) default).DV (H' (JA r (AGm+1) AGm))}).getD (Cz (fun x:BD=>x.Bn) Go.Apw.AGn n a.A0) default).Fc (H' (JA f (AGm+1) AGm))}
  =FQ (fun x:BD=>x.Bn) AGn (Sn (JW a n le) r f AGm) a.A0:=by
 have AbX:=(a_ ok.hold w Ao AN).1;rw[ACn (l:=CA.set _ _),ACP Ag,AJ,List.set_set];have OZ:(Sn (JW a n le) r f AGm).Bn=n:=AbX;rw[FQ];simp only[OZ];have AH:=St (key:=fun x:BD=>x.Bn) (lt:=Go.Apw.AGn) n a.A0;cases AE:G9 (fun x:BD=>x.Bn) Go.Apw.AGn n a.A0 with
 |true=>
  rw[AE,AA_ rfl]at Mz;rw[AA_ rfl,Mz];rfl
 |false=>
  rw[AE,AA9 ARp]at Mz;rw[AA9 ARp,Mz,FO,FO,List.set_append_right _ _ (by rw[ABz];omega),ABz,ADH AH,ADI];rfl
end
theorem oT:IC a n=(V8 a n,WK a n):=by
 unfold IC V8 WK a';cases Yn:E4 a
 · rfl
 rw[AA9 ARp,AA_ rfl];cases Gd a.A0.length (fun j=>decide ((a.A0.getD j default).Bn=n))<;>rfl
theorem zH:(IC a n).1=V8 a n:=by rw[oT]
theorem zI:(IC a n).2=WK a n:=by rw[oT]
theorem zJ{a:AD}(w:D3 a)(n:Int):(IC a n).1.wf/\0<=(IC a n).1.Fc:=by
 cases h:(IC a n).2 with
 |true=>
  obtain⟨Af,h2,_⟩:=oU h;obtain⟨i,Ag,e⟩:=List.getElem_of_mem h2;have:=(Wy ((P3 w.sp).1 Af).hold Ag).2.2.2.2;rw[Go.A_.G3 Ag,e]at this;exact⟨w.A7 _ h2,this⟩
 |false=>
  have e:(IC a n).1=⟨0,0,0,0⟩:=by
   unfold IC at h ⊢;split
   · rfl
   rename_i Yn;rw[AA9 Yn]at h;cases DC:Gd a.A0.length (fun j=>decide ((a.A0.getD j default).Bn=n))with
   |none=>rfl
   |some j=>rw[DC]at h;cases h
  rw[e];exact⟨⟨⟨ARp,ARp⟩,⟨ARp,ARp⟩,⟨ARp,ARp⟩,⟨ARp,ARp⟩⟩,ARp⟩
theorem Aip(h:BD)(v1:Value)(n:Int)(_:h.wf):Cv AG 187 [.agg (JH h).toArray,v1] [⟨v1,(⟨n⟩:Cq Int)⟩] (.bool (decide (h.Bn=n))):=by
 exact Aw.proof Tryz.func187 G 8 G G fun X w=>Ae<|CV G G G fun Dh=>U 1 G<|Ac<|Ae<|AX 2 [0] G G<|CQ 0 G G (A2 G) G fun Xt=>U 2 G<|Ac<|rt<|AQ<|Bq () G G ARz G Aa
theorem Air(r IG:Int)(Z:AD×Int)(AW:Mk a n le r IG=Z)(C6:a.wf)(MB:A' n)(eH:A' le)(i':A' r)(Abb:A' IG):Aw AG 117 [.agg (A3 a Cw).toArray,.int .i64 n,.int .i64 le,.int .i64 r,.int .i64 IG] [] [⟨Cw,a.A0⟩] (fun(y:Value) u=>u=.tuple #[.agg (A3 Z.1 y).toArray,.int .i64 Z.2]) (fun _ _=>[]) (fun y _=>[⟨y,Z.1.A0⟩]):=by
 refine Aw.proof Tryz.func117 G 71 G G fun X w=>?_;obtain⟨Yk,Yl⟩:=id MB;obtain⟨Aa',Aba⟩:=id eH;obtain⟨Abc,Abd⟩:=id i';obtain⟨Am9,Am_⟩:=id Abb;refine DJ (α:=BD) ?_;refine HP (q:=∀x∈a.A0,x.wf) (fun S w h=>O7 (s:=MN) (h _ (AA' (i:=1) G))) fun F5=>?_;have hw:D3 a:=⟨C6,F5⟩;refine Ae<|CV G G G fun E'=>CV G G G fun Hg=>CT Hd G fun ho=>U 1 G<|Ac<|Am<|Ae<|BJ 2 (A3 a Cw) G G (At G) G G<|B0 (Ps _ _ C6) (Ar G) G (Ad 1 G Aa) G<|IH G G<|Ac<|BN G (fun CR=>?_) (fun CR=>?_)
 ·
  have Ii:E4 a=false:=(by first|exact CR|exact BS.1 CR|exact(fun q=>BS.2 q CR)|exact(fun q=>ABd (CR.symm.trans q))|simpa using CR)
  have AB:((Fj,21):AD×Int)=Z:=(by rw[<-AW,Mk,AA_ Ii]);subst AB;exact Ae<|Db (ps:=[]) (cs:=(A3 FX AI)) ARz ARs G<|BZ 0 (us:=(A3 FX AI)) G G G (At G) G G<|U 1 G<|Ac<|BA<|D8 AI [_,_,_] (Fp 0 G G G G (At G)) ARz G (Ad 0 G Aa)
 have Ii:¬(E4 a=false):=(by first|exact CR|exact BS.1 CR|exact(fun q=>BS.2 q CR)|exact(fun q=>ABd (CR.symm.trans q))|simpa using CR)
 obtain⟨AbH,pz⟩:=zJ hw n;refine AZ<|Ae<|BJ 2 (A3 a Cw) G G (At G) G G<|AX 1 [1] G G<|B0 (zK a _ n C6) (Ar G) G (Ad 1 G Aa) G ?_;rw[<-zH,<-zI];refine U 3 G<|CT Um G fun ns=>BZ 0 (us:=(JH ((IC a n).1))) G G G (At G) G G<|U 1 G<|Ac<|Am<|B5<|Ae<|U 2 G<|An G G<|ET 27 5 [0] [3,4,5,6,10,12] G G G<|U 1 G<|Ac<|BN G (fun F3=>?_) (fun F3=>?_)
 ·
  have MJ:(!(IC a n).2|| !decide ((IC a n).1.G0=le))=true:=(by first|exact F3|exact BS.1 F3|exact(fun q=>BS.2 q F3)|exact(fun q=>ABd (F3.symm.trans q))|simpa using F3)
  have AB:((Fj,151):AD×Int)=Z:=(by rw[<-AW,Mk,AA9 Ii,AA_ MJ]);subst AB;exact Ae<|Db (ps:=[]) (cs:=(A3 FX AI)) ARz ARs G<|BZ 1 (us:=(A3 FX AI)) G G G (At G) G G<|U 1 G<|Ac<|rt<|C9<|Cd<|D8 AI [_,_,_,_] (Fp 1 G G G G (At G)) ARz G (Ad 0 G Aa)
 have MJ:¬((!(IC a n).2|| !decide ((IC a n).1.G0=le))=true):=(by first|exact F3|exact BS.1 F3|exact(fun q=>BS.2 q F3)|exact(fun q=>ABd (F3.symm.trans q))|simpa using F3)
 refine Ae<|AX 4 [3] G G<|ET 38 5 [3] [4,5,6,10,12] G G G<|U 1 G<|Ac<|BN G (fun FN=>?_) (fun FN=>?_)
 ·
  have Qu:(decide (a.Cn=0)|| !decide (a.Cn=r))=true:=(by first|exact FN|exact BS.1 FN|exact(fun q=>BS.2 q FN)|exact(fun q=>ABd (FN.symm.trans q))|simpa using FN)
  have AB:((Fj,152):AD×Int)=Z:=(by rw[<-AW,Mk,AA9 Ii,AA9 MJ,AA_ Qu]);subst AB;exact Ae<|Db (ps:=[]) (cs:=(A3 FX AI)) ARz ARs G<|BZ 1 (us:=(A3 FX AI)) G G G (At G) G G<|U 1 G<|Ac<|rt<|C9<|Cd<|D8 AI [_,_,_,_] (Fp 1 G G G G (At G)) ARz G (Ad 0 G Aa)
 have Qu:¬((decide (a.Cn=0)|| !decide (a.Cn=r))=true):=(by first|exact FN|exact BS.1 FN|exact(fun q=>BS.2 q FN)|exact(fun q=>ABd (FN.symm.trans q))|simpa using FN)
 refine Ae<|AX 5 [0] G G ?_;refine DE 50 6 [4,5,6,10] G G (fun Ra g4=>by
  have Aoe:=ACe Ra;exact AX 3 [0] G G<|Bl G G G<|fl G (BV (by have:=AbH.2.2.2;obtain⟨_,_⟩:=this;omega) AMT) G<|U 2 G<|g4 G Br) ?_
 refine U 1 G<|Ac<|BN G (fun EN=>?_) (fun EN=>?_)
 ·
  have Jw:(decide (IG>(IC a n).1.DV)||decide (IG< -(IC a n).1.Fc))=true:=(by first|exact EN|exact BS.1 EN|exact(fun q=>BS.2 q EN)|exact(fun q=>ABd (EN.symm.trans q))|simpa using EN)
  have AB:((Fj,150):AD×Int)=Z:=(by rw[<-AW,Mk,AA9 Ii,AA9 MJ,AA9 Qu,AA_ Jw]);subst AB;exact Ae<|Db (ps:=[]) (cs:=(A3 FX AI)) ARz ARs G<|BZ 1 (us:=(A3 FX AI)) G G G (At G) G G<|U 1 G<|Ac<|rt<|C9<|Cd<|D8 AI [_,_,_,_] (Fp 1 G G G G (At G)) ARz G (Ad 0 G Aa)
 have Jw:¬((decide (IG>(IC a n).1.DV)||decide (IG< -(IC a n).1.Fc))=true):=(by first|exact EN|exact BS.1 EN|exact(fun q=>BS.2 q EN)|exact(fun q=>ABd (EN.symm.trans q))|simpa using EN)
 have AB:(({a with BT:=a.BT+IG,A0:=a.A0.filter (fun h=> !decide (h.Bn=n))},0):AD×Int)=Z:=by rw[<-AW,Mk,AA9 Ii,AA9 MJ,AA9 Qu,AA9 Jw]
 subst AB;have Kp:A' (a.BT+IG):=by
  have q:=(lf hw (by rw[AW])).2.2.2.2.2.2.2.2.2.wf.2.2.1;rw[AW]at q;exact q
 have aQ:a.A0.length<=100000:=(ABB (S0 (by simpa using Ii)) ARp);refine EG<|CU<|A5<|Ae<|BJ 3 (A3 a Cw) G G (At G) G G<|Dm (Uy _ _ C6 aQ) (Ar G) G (Ad 1 G Aa) G fun AlJ QB JS=>?_;subst JS;refine GZ 0 G fun Afi=>?_;refine BZ 4 (us:=(A3 a AlJ)) G G G (At G) (by simp only[ABn,ABr,ABp,Afi];rfl) G<|Ac<|Ae<|AX 3 [4] G G<|C5 G G Kp G<|U 1 G<|Fi 4 G G G (A2 G) G (Da G)<|Ac<|Ae<|AX 2 [4] G G<|Nd (xs:=[.tmp 6]) G G<|D9 3 G<|M4 (α:=Int) n (fun S w h=>⟨G,MB⟩)<|AeB<|D9 1 G<|Hs 2 (yy _ _ 187 #[ALM Hg 0] [⟨ALM Hg 0,(⟨n⟩:Cq Int)⟩] [] rK (fun h=>decide (h.Bn=n)) (fun _ _ _=>DU.nil) (Ar G) (fun x Ab=>Aip x _ n Ab)) (Ar G) G G (Ad 0 G Aa) G fun _ mn _=>U 1 G<|IL 4 0 G G G G (A2 G) (Da G)<|Ac<|Am<|RY<|rg<|BJ 3 (A3 ((⟨a.Al,(⟨a.Cs.A6,a.Cs.Bc⟩:GC),(a.BT+IG),a.Cn,(a.A0.filter (fun h=> !decide (h.Bn=n))),(⟨a.BG.Ap,a.BG.As,a.BG.DH,a.BG.B2⟩:F_)⟩:AD)) mn) G G (At G) G G<|Cp 0 G fun Ae4=>?_;exact BZ 2 (us:=(A3 ((⟨a.Al,(⟨a.Cs.A6,a.Cs.Bc⟩:GC),(a.BT+IG),a.Cn,(a.A0.filter (fun h=> !decide (h.Bn=n))),(⟨a.BG.Ap,a.BG.As,a.BG.DH,a.BG.B2⟩:F_)⟩:AD)) mn)) G G G (At G) (by simp only[ABn,ABr,ABp,Ae4];rfl) G<|U 1 G<|Ac<|rt<|D8 mn [_,_,_,_] (Fp 2 G G G G (At G)) ARz G (Ad 0 G Aa)
theorem AaA(AGm:Int)(Z:AD×Int)(AW:Kl a n le AGm=Z)(C6:a.wf)(MB:A' n)(eH:A' le)(Tk:A' AGm):Aw AG 86 [.agg (A3 a Cw).toArray,.int .i64 n,.int .i64 le,.int .i64 AGm] [] [⟨Cw,a.A0⟩] (fun(y:Value) u=>u=.tuple #[.agg (A3 Z.1 y).toArray,.int .i64 Z.2]) (fun _ _=>[]) (fun y _=>[⟨y,Z.1.A0⟩]):=by
 refine Aw.proof Tryz.func86 G 112 G G fun X w=>?_;obtain⟨Yk,Yl⟩:=id MB;obtain⟨Aa',Aba⟩:=id eH;obtain⟨pk,pn⟩:=id Tk;refine DJ (α:=BD) ?_;refine HP (q:=∀x∈a.A0,x.wf) (fun S w h=>O7 (s:=MN) (h _ (AA' (i:=1) G))) fun F5=>?_;have hw:D3 a:=⟨C6,F5⟩;refine Ae<|CV G G G fun En=>CT Hd G fun K0=>U 1 G<|Ac<|Am<|B5<|Ae<|BJ 1 (A3 a Cw) G G (At G) G G<|B0 (Ps _ _ C6) (Ar G) G (Ad 1 G Aa) G<|IH G G<|U 1 G<|Ac<|BN G (fun Ft=>?_) (fun Ft=>?_)
 ·
  have KR:E4 a=false:=(by first|exact Ft|exact BS.1 Ft|exact(fun q=>BS.2 q Ft)|exact(fun q=>ABd (Ft.symm.trans q))|simpa using Ft)
  have AB:((Fj,21):AD×Int)=Z:=(by rw[<-AW,Kl,AA_ KR]);subst AB;exact Ae<|Db (ps:=[]) (cs:=(A3 FX AI)) ARz ARs G<|BZ 0 (us:=(A3 FX AI)) G G G (At G) G G<|U 1 G<|Ac<|rt<|C9<|Cd<|D8 AI [_,_] (Fp 0 G G G G (At G)) ARz G (Ad 0 G Aa)
 have KR:¬(E4 a=false):=(by first|exact Ft|exact BS.1 Ft|exact(fun q=>BS.2 q Ft)|exact(fun q=>ABd (Ft.symm.trans q))|simpa using Ft)
 refine Ae<|U 3 G<|ET 23 3 [] [1,2,3,4,8] G G G<|An G G<|ET 27 3 [] [1,2,3,4,8] G G G<|An G G<|ET 31 4 [] [1,2,3,4,8] G G G<|An G G<|ET 36 3 [] [1,2,3,4,8] G G G<|An G G<|ET 40 3 [] [1,2,3,4,8] G G G<|U 1 G<|Ac<|BN G (fun HQ=>?_) (fun HQ=>?_)
 ·
  have Qt:(decide (AGm<1)||decide (AGm>5)||decide (n<1)||decide (n>AGm)||decide (le<1)||decide (le>EW))=true:=(by first|exact HQ|exact BS.1 HQ|exact(fun q=>BS.2 q HQ)|exact(fun q=>ABd (HQ.symm.trans q))|simpa using HQ)
  have AB:((Fj,1):AD×Int)=Z:=(by rw[<-AW,Kl,AA9 KR,AA_ Qt]);subst AB;exact Ae<|Db (ps:=[]) (cs:=(A3 FX AI)) ARz ARs G<|BZ 0 (us:=(A3 FX AI)) G G G (At G) G G<|U 1 G<|Ac<|rt<|C9<|Cd<|D8 AI [_,_] (Fp 0 G G G G (At G)) ARz G (Ad 0 G Aa)
 have Qt:¬((decide (AGm<1)||decide (AGm>5)||decide (n<1)||decide (n>AGm)||decide (le<1)||decide (le>EW))=true):=(by first|exact HQ|exact BS.1 HQ|exact(fun q=>BS.2 q HQ)|exact(fun q=>ABd (HQ.symm.trans q))|simpa using HQ)
 refine Ae<|AX 4 [1] G G ?_;refine DE 49 3 [1,2,3,4,8] G G (fun R3 g3=>by
  have Af':=R3;simp only[ABI,ABa]at Af';exact Bl G G G<|BJ 1 (A3 a Cw) G G (At G) G G<|Bl G G G<|B0 (YP _ _ C6) (Ar G) G (Ad 1 G Aa) G<|U 1 G<|g3 G Br) ?_
 refine U 1 G<|Ac<|BN G (fun EN=>?_) (fun EN=>?_)
 ·
  have Jw:(!decide (a.Cn=0)||G_ a)=true:=(by first|exact EN|exact BS.1 EN|exact(fun q=>BS.2 q EN)|exact(fun q=>ABd (EN.symm.trans q))|simpa using EN)
  have AB:((Fj,152):AD×Int)=Z:=(by rw[<-AW,Kl,AA9 KR,AA9 Qt,AA_ Jw]);subst AB;exact Ae<|Db (ps:=[]) (cs:=(A3 FX AI)) ARz ARs G<|BZ 0 (us:=(A3 FX AI)) G G G (At G) G G<|U 1 G<|Ac<|rt<|C9<|Cd<|D8 AI [_,_] (Fp 0 G G G G (At G)) ARz G (Ad 0 G Aa)
 have Jw:¬((!decide (a.Cn=0)||G_ a)=true):=(by first|exact EN|exact BS.1 EN|exact(fun q=>BS.2 q EN)|exact(fun q=>ABd (EN.symm.trans q))|simpa using EN)
 have sz:=Qt;simp only[ABk,ABa,ABN]at sz;obtain⟨⟨⟨⟨⟨Hj,G1⟩,Jt⟩,NI⟩,ij⟩,AmT⟩:=sz;have po:E4 a=true:=(by simpa using KR);have CM:=(P3 C6.2.1).1 po;have aQ:a.A0.length<=100000:=(ABB (S0 po) ARp);have AN:∀j,j<a.A0.length->0<=(a.A0.getD j default).Bn/\(a.A0.getD j default).Bn<=100:=fun j Ay=>Ab2 CM.hold Ay;obtain⟨WC,Yp⟩:=AiE a;refine EG<|CU<|A5<|Ae<|BJ 1 (A3 a Cw) G G (At G) G G<|B0 (sR _ _ C6) (Ar G) G (Ad 1 G Aa) G<|U 5 G<|Ac<|Ae<|BJ 1 (A3 a Cw) G G (At G) G G<|Dm (Uy _ _ C6 aQ) (Ar G) G (Ad 1 G Aa) G fun HS uh Tg=>?_;subst Tg;refine GZ 0 G fun Afj=>?_;refine BZ 2 (us:=(A3 a HS)) G G G (At G) (by simp only[ABn,ABr,ABp,Afj];rfl) G<|Ac<|Ae<|AX 3 [2] G G<|P6 [⟨HS,a.A0⟩] (xI HS a.A0 n AN AMT AMT aQ) (Ar G) G (DU.row 0 G DU.nil) (Ad 0 G Aa) G<|U 5 G<|Ac<|Am<|AF 2 G<|qA (σ:=Value×List BD) [(3,_),(4,_),(8,_),(10,_),(11,_),(12,_)] _ (fun s C=>C) (fun s=>[@row BD Mj 123 s.1 s.2,AO En 58 (A3 a s.1),AO K0 58 N9,CL X w]) (fun s=>s.2=(if(G9 (fun x:BD=>x.Bn) Go.Apw.AGn n a.A0)=true then a.A0 else FO (Cz (fun x:BD=>x.Bn) Go.Apw.AGn n a.A0) ⟨n,le,0,0⟩ a.A0)) (Bs G) (Ad 1 G (Ad 0 G Aa)) ?_ ?_
 ·
  refine BN G (fun Ma=>?_) (fun Ma=>?_)
  · exact rg<|AX 5 [2] G G<|Db (ps:=[(0,.tmp 73),(1,.tmp 74)]) (cs:=(JH ((⟨n,le,0,0⟩:BD)))) ARz ARs G<|Lw G S1 G G G G fun xr=>D9 1 G<|Hs 2 (AcK HS a.A0 (Cz (fun x:BD=>x.Bn) Go.Apw.AGn n a.A0) xr ⟨n,le,0,0⟩ (St _ _) ⟨MB,eH,(show A' 0 from⟨ARp,ARp⟩),(show A' 0 from⟨ARp,ARp⟩)⟩ aQ) (Ar G) G G Aa G fun _ AkM _=>U 1 G<|IL 2 0 G G G G (A2 G) (Da G)<|nl<|Au 1 G<|Au 2 G<|Au 2 G<|e9 ((AkM,FO (Cz (fun x:BD=>x.Bn) Go.Apw.AGn n a.A0) ⟨n,le,0,0⟩ a.A0):Value×List BD) (by rw[AA9 (by simpa using Ma)]) (Bs G) G (Ad 1 G (Ad 0 G Aa))
  exact EG<|Au 1 G<|Au 2 G<|Au 2 G<|e9 ((HS,a.A0):Value×List BD) (by rw[AA_ (by simpa using Ma)]) (Bs G) G (Ad 1 G (Ad 0 G Aa))
 rintro⟨BC,CA⟩ Mz;simp only at Mz;obtain⟨Wk,eC⟩:=AaB (le:=le) Mz;show Eg _ _ _ [(3,_),(4,_),(8,_),(10,_),(11,_),(12,_)] [@row BD Mj 123 BC CA,AO En 58 (A3 a BC),AO K0 58 N9,CL X w] _;refine A5<|Am<|Sw 0 G (show 0<CA.length by omega) fun HO cap Acn Kn ID=>?_;subst Acn;refine rg<|AX 3 [1] G G<|IF 0 ((Cz (fun x:BD=>x.Bn) Go.Apw.AGn n a.A0)) G G G I6 AMT AMT G<|U 1 G<|Ac<|Am<|Ow 14 mixed ARs<|U 2 G<|Kr 0 G G AMT G<|K3 0 G G AMT (BR G) G<|NR (s:=MN) 0 ((Cz (fun x:BD=>x.Bn) Go.Apw.AGn n a.A0)) 2 (fun _=>.int .i64 (CA.getD ((Cz (fun x:BD=>x.Bn) Go.Apw.AGn n a.A0)) default).DV) G G JP (fun _=>G) (A2 G) G fun Aot Api=>U 2 G<|C5 G G BV G<|An G G<|HD (te (Jx a) (AGm+1) AGm WC.1 WC.2 BV Tk) (Ar G) G Aa G<|HD (oV _ (TY WC.1 AMT)) (Ar G) G Aa G<|HD (rA _ _ (jv hw CM Wk ⟨AMT,AMT⟩ ⟨AMT,AMT⟩).1 (oW (TY WC.1 AMT)) (jv hw CM Wk ⟨AMT,AMT⟩ ⟨AMT,AMT⟩).2 (ek (TY WC.1 AMT))) (Ar G) G Aa G<|Kr 0 G G AMT G<|K3 0 G G AMT (BR G) G<|Oq<|Sz (s:=MN) 0 ((Cz (fun x:BD=>x.Bn) Go.Apw.AGn n a.A0)) 2 () (ov':=({(CA.getD ((Cz (fun x:BD=>x.Bn) Go.Apw.AGn n a.A0)) default)with DV:=(Iw (CA.getD (Cz (fun x:BD=>x.Bn) Go.Apw.AGn n a.A0) default).DV (H' (JA (Jx a) (AGm+1) AGm)))}:BD)) G G G G JP (ABy G) (fun _=>G) Aa (q3 hw CM Wk ⟨AMT,AMT⟩ ⟨AMT,AMT⟩ (TY WC.1 AMT)) (A2 G)<|Ac<|Am<|Ow 14 mixed ARs<|U 2 G<|Kr 0 G G (by simp only[ABj];omega) G<|K3 0 G G (by simp only[ABj];omega) (BR G) G<|NR (s:=MN) 0 ((Cz (fun x:BD=>x.Bn) Go.Apw.AGn n a.A0)) 3 (fun _=>.int .i64 ((CA.set ((Cz (fun x:BD=>x.Bn) Go.Apw.AGn n a.A0)) ({(CA.getD ((Cz (fun x:BD=>x.Bn) Go.Apw.AGn n a.A0)) default)with DV:=(Iw (CA.getD (Cz (fun x:BD=>x.Bn) Go.Apw.AGn n a.A0) default).DV (H' (JA (Jx a) (AGm+1) AGm)))}:BD)).getD ((Cz (fun x:BD=>x.Bn) Go.Apw.AGn n a.A0)) default).Fc) G G (Ly (d:=default) (by simp only[ABj];omega)) (fun _=>G) (A2 G) G fun Aom AoZ=>U 2 G<|C5 G G BV G<|An G G<|HD (te (K4 a) (AGm+1) AGm Yp.1 Yp.2 BV Tk) (Ar G) G Aa G<|HD (oV _ (TY Yp.1 AMT)) (Ar G) G Aa G<|HD (rA _ _ (jw hw CM Wk eC ⟨AMT,AMT⟩ ⟨AMT,AMT⟩).1 (oW (TY Yp.1 AMT)) (jw hw CM Wk eC ⟨AMT,AMT⟩ ⟨AMT,AMT⟩).2 (ek (TY Yp.1 AMT))) (Ar G) G Aa G<|Kr 0 G G (by simp only[ABj];omega) G<|K3 0 G G (by simp only[ABj];omega) (BR G) G<|Oq<|Sz (s:=MN) 0 ((Cz (fun x:BD=>x.Bn) Go.Apw.AGn n a.A0)) 3 () (ov':=({((CA.set ((Cz (fun x:BD=>x.Bn) Go.Apw.AGn n a.A0)) ({(CA.getD ((Cz (fun x:BD=>x.Bn) Go.Apw.AGn n a.A0)) default)with DV:=(Iw (CA.getD (Cz (fun x:BD=>x.Bn) Go.Apw.AGn n a.A0) default).DV (H' (JA (Jx a) (AGm+1) AGm)))}:BD)).getD ((Cz (fun x:BD=>x.Bn) Go.Apw.AGn n a.A0)) default)with Fc:=(Iw ((CA.set (Cz (fun x:BD=>x.Bn) Go.Apw.AGn n a.A0) ({(CA.getD (Cz (fun x:BD=>x.Bn) Go.Apw.AGn n a.A0) default)with DV:=(Iw (CA.getD (Cz (fun x:BD=>x.Bn) Go.Apw.AGn n a.A0) default).DV (H' (JA (Jx a) (AGm+1) AGm)))}:BD)).getD (Cz (fun x:BD=>x.Bn) Go.Apw.AGn n a.A0) default).Fc (H' (JA (K4 a) (AGm+1) AGm)))}:BD)) G G G G (Ly (d:=default) (by simp only[ABj];omega)) (ABy G) (fun _=>G) Aa (Adu hw CM Wk eC ⟨AMT,AMT⟩ ⟨AMT,AMT⟩ (TY WC.1 AMT) (TY Yp.1 AMT)) (A2 G)<|Ac<|Am ?_;have G7:((CA.set (Cz (fun x:BD=>x.Bn) Go.Apw.AGn n a.A0) ({(CA.getD (Cz (fun x:BD=>x.Bn) Go.Apw.AGn n a.A0) default)with DV:=(Iw (CA.getD (Cz (fun x:BD=>x.Bn) Go.Apw.AGn n a.A0) default).DV (H' (JA (Jx a) (AGm+1) AGm)))}:BD)).set (Cz (fun x:BD=>x.Bn) Go.Apw.AGn n a.A0) ({((CA.set (Cz (fun x:BD=>x.Bn) Go.Apw.AGn n a.A0) ({(CA.getD (Cz (fun x:BD=>x.Bn) Go.Apw.AGn n a.A0) default)with DV:=(Iw (CA.getD (Cz (fun x:BD=>x.Bn) Go.Apw.AGn n a.A0) default).DV (H' (JA (Jx a) (AGm+1) AGm)))}:BD)).getD (Cz (fun x:BD=>x.Bn) Go.Apw.AGn n a.A0) default)with Fc:=(Iw ((CA.set (Cz (fun x:BD=>x.Bn) Go.Apw.AGn n a.A0) ({(CA.getD (Cz (fun x:BD=>x.Bn) Go.Apw.AGn n a.A0) default)with DV:=(Iw (CA.getD (Cz (fun x:BD=>x.Bn) Go.Apw.AGn n a.A0) default).DV (H' (JA (Jx a) (AGm+1) AGm)))}:BD)).getD (Cz (fun x:BD=>x.Bn) Go.Apw.AGn n a.A0) default).Fc (H' (JA (K4 a) (AGm+1) AGm)))}:BD))=(FQ (fun x:BD=>x.Bn) Go.Apw.AGn (Sn (JW a n le) (Jx a) (K4 a) AGm) a.A0):=AaC hw CM Mz Wk eC ⟨AMT,AMT⟩ ⟨AMT,AMT⟩;have Anu:CA.length=(FQ (fun x:BD=>x.Bn) Go.Apw.AGn (Sn (JW a n le) (Jx a) (K4 a) AGm) a.A0).length:=by rw[<-G7,ABj,ABj]
 rw[G7];have AB:(({a with A0:=(FQ (fun x:BD=>x.Bn) Go.Apw.AGn (Sn (JW a n le) (Jx a) (K4 a) AGm) a.A0)},0):AD×Int)=Z:=by rw[<-AW,Kl,AA9 KR,AA9 Qt,AA9 Jw]
 subst AB;exact RY<|rg<|BJ 0 (A3 ((⟨a.Al,(⟨a.Cs.A6,a.Cs.Bc⟩:GC),a.BT,a.Cn,(FQ (fun x:BD=>x.Bn) Go.Apw.AGn (Sn (JW a n le) (Jx a) (K4 a) AGm) a.A0),(⟨a.BG.Ap,a.BG.As,a.BG.DH,a.BG.B2⟩:F_)⟩:AD)) (.slice (some ⟨HO,0,none⟩) CA.length cap)) G G (At G) G G<|BZ 1 (us:=(A3 ((⟨a.Al,(⟨a.Cs.A6,a.Cs.Bc⟩:GC),a.BT,a.Cn,(FQ (fun x:BD=>x.Bn) Go.Apw.AGn (Sn (JW a n le) (Jx a) (K4 a) AGm) a.A0),(⟨a.BG.Ap,a.BG.As,a.BG.DH,a.BG.B2⟩:F_)⟩:AD)) (.slice (some ⟨HO,0,none⟩) CA.length cap))) G G G (At G) G G<|U 1 G<|Ac<|rt<|D8 (.slice (some ⟨HO,0,none⟩) CA.length cap) [_,_] (Fp 1 G G G G (At G)) ARz G (Ad 0 G Aa)
variable(CP:Value) (l:List BL) (c q:Int)
theorem YD{β GA:Type}[Inhabited β][DecidableEq GA]{key:β->GA}{lt:GA->GA->Bool}{t:GA}{l:List β}(h:¬G9 key lt t l=false):Cz key lt t l<l.length:=by
 unfold G9 at h;simp only[ACu,ABl,ABN,ACD]at h;exact h.1
theorem AlP:(⟨0,0,0,0⟩:De).wf:=⟨⟨ARp,ARp⟩,⟨ARp,ARp⟩,⟨ARp,ARp⟩,⟨ARp,ARp⟩⟩
theorem oy:(⟨80,0,0,0⟩:De).wf:=⟨⟨ARp,ARp⟩,⟨ARp,ARp⟩,⟨ARp,ARp⟩,⟨ARp,ARp⟩⟩
theorem NH{α β:Type}[Inhabited β]{f:α->β->α}{b:List β}{i:Nat}(h:i<b.length){a:α}:(b.take (i+1)).foldl f a=f ((b.take i).foldl f a) (b.getD i default):=by
 rw[gl h,List.foldl_append];rfl
theorem Ac2(o:List BL)(m:BL):(Ld o m).length<=o.length+1:=by
 unfold Ld;split
 · exact cb (key:=fun x:BL=>x.Ap) (lt:=Go.Apw.AGn) m o
 omega
theorem jT(b:List BL):∀(i:Nat) (l:List BL),((b.take i).foldl Ld l).length<=l.length+i
 |0,l=>by simp
 |i+1,l=>by
  by_cases h:i<b.length
  ·
   rw[NH h];have Cg:=jT b i l;have:=Ac2 ((b.take i).foldl Ld l) (b.getD i default);omega
  have Cg:=jT b i l;rw[List.take_of_length_le AMT]at Cg ⊢;omega
theorem qB{a b:Bool}(h:(!decide (IA a=0)|| !decide (IA b=0))=true):(a&&b)=false:=by
 rw[aA,aA]at h;revert h;cases a<;>cases b<;>decide
theorem qC{a b:Bool}(h:(!decide (IA a=0)|| !decide (IA b=0))=false):¬(a&&b)=false:=by
 rw[aA,aA]at h;revert h;cases a<;>cases b<;>decide
theorem kC{l:List BL}{c q:Int}(h:KQ l c q=0):Fg l=true:=by
 unfold KQ at h;split at h
 · exact absurd h ARp
 rename_i q;simpa using q
theorem ej(t:Int)(Z:BL×Bool)(AW:FU l t=Z):Cv AG 113 [CP,.int .i64 t] [⟨CP,l⟩] (.tuple #[.agg (H9 Z.1).toArray,.bool Z.2]):=by
 refine Aw.proof Tryz.func113 G 25 G G fun X w=>Ae<|CT SN G fun En=>U 1 G<|Ac<|Am<|Ae<|An G G<|B0 (Xd _ _) (Ar G) G (Ad 0 G Aa) G<|U 1 G<|Ac<|Fa G (fun Dq=>?_) (fun Dq=>?_)
 ·
  have Ni:Fg l=false:=(by first|exact Dq|exact BS.1 Dq|exact(fun q=>BS.2 q Dq)|exact(fun q=>ABd (Dq.symm.trans q))|simpa using Dq)
  have AB:((gT,false):BL×Bool)=Z:=(by rw[<-AW,FU,AA_ Ni]);subst AB;exact Ae<|Db (ps:=[]) (cs:=(H9 ((⟨0,0,false,(⟨0,0,0,0⟩:De)⟩:BL)))) ARz ARs G<|BZ 0 (us:=(H9 ((⟨0,0,false,(⟨0,0,0,0⟩:De)⟩:BL)))) G G G (At G) G G<|U 1 G<|Ac<|BA<|D8 () [_] (Fp 0 G G G G (At G)) ARz G Aa
 have Ni:¬(Fg l=false):=(by first|exact Dq|exact BS.1 Dq|exact(fun q=>BS.2 q Dq)|exact(fun q=>ABd (Dq.symm.trans q))|simpa using Dq)
 have hlen:l.length<=100000:=ABB (TE (by simpa using Ni)) ARp;refine AZ<|Ae<|U 2 G<|B0 (lV _ _ t hlen) (Ar G) G (Ad 0 G Aa) G<|U 5 G<|Ac<|Am<|AF 2 G<|BN G (fun Fe=>?_) (fun Fe=>?_)
 ·
  have Qs:(G9 (fun x:BL=>x.Ap) Go.Apw.AGn t l)=false:=(by first|exact Fe|exact BS.1 Fe|exact(fun q=>BS.2 q Fe)|exact(fun q=>ABd (Fe.symm.trans q))|simpa using Fe)
  have AB:((gT,false):BL×Bool)=Z:=(by rw[<-AW,FU,AA9 Ni,AA_ Qs]);subst AB;exact Ae<|Db (ps:=[]) (cs:=(H9 ((⟨0,0,false,(⟨0,0,0,0⟩:De)⟩:BL)))) ARz ARs G<|BZ 0 (us:=(H9 ((⟨0,0,false,(⟨0,0,0,0⟩:De)⟩:BL)))) G G G (At G) G G<|U 1 G<|Ac<|BA<|D8 () [_] (Fp 0 G G G G (At G)) ARz G Aa
 have Qs:¬((G9 (fun x:BL=>x.Ap) Go.Apw.AGn t l)=false):=(by first|exact Fe|exact BS.1 Fe|exact(fun q=>BS.2 q Fe)|exact(fun q=>ABd (Fe.symm.trans q))|simpa using Fe)
 have AB:((l.getD (Cz (fun x:BL=>x.Ap) Go.Apw.AGn t l) default,true):BL×Bool)=Z:=by rw[<-AW,FU,AA9 Ni,AA9 Qs]
 subst AB;have C_:=YD Qs;exact AZ<|Ae<|U 2 G<|Fo 0 G G G J1 G fun Pe=>Gi 0 G G (At G) G fun MJ PW=>BZ 0 (us:=(H9 ((l.getD (((Cz (fun x:BL=>x.Ap) Go.Apw.AGn t l):Int)).toNat default)))) G G G (At G) G G<|U 1 G<|Ac<|rt<|D8 () [_] (Fp 0 G G G G (At G)) ARz G Aa
theorem dM(Bk:Value)(l:List BL)(hlen:l.length<=100000):Aw AG 61 [Bk] [] [⟨Bk,l⟩] (fun(_:Unit) _=>True) (fun _ v=>[@row BL W8 130 v l]) (fun _ _=>[]):=by
 refine Aw.proof Tryz.func61 G 8 G G fun X w=>AF 1 G<|Am<|Ae<|An G G<|RT 0 ADL G G G G fun PM ARA=>Ac<|BN G (fun BB=>?_) (fun BB=>?_)
 ·
  have Ab:l=[]:=ARA BB;subst Ab;exact Lk BL 130<|AF 1 G<|BA<|Bq () G G trivial G Aa
 exact AZ<|Ae<|NB QN G fun E'=>Nm (α:=BL) [] [] G G (fun _ _ _=>trivial) G<|An G G<|ap 0 0 G G G G QN (by simp only[ABo];omega) (by simp only[ABo];omega) G fun EZ=>U 1 G<|Ac<|rt<|Bq () G G trivial G Aa
theorem gK(m:BL)(UX:m.wf)(hlen:l.length<=99999):Aw AG 182 [CP,.agg (H9 m).toArray] [] [⟨CP,l⟩] (fun(_:Unit) _=>True) (fun _ _=>[]) (fun _ v=>[⟨v,LP l m⟩]):=by
 refine Aw.proof Tryz.func182 G 28 G G fun X w=>Ae<|CV G G G fun DQ=>U 1 G<|Ac<|Ae<|An G G<|Dm (dM _ _ AMT) (Ar G) G (Ad 0 G Aa) G fun _ Nr _=>U 1 G<|Ac<|Ae<|AX 3 [1] G G<|P6 [⟨Nr,l⟩] (lV Nr l m.Ap AMT) (Ar G) G (DU.row 0 G DU.nil) (Ad 0 G Aa) G<|U 5 G<|Ac<|Am<|Ae<|An G G<|Ac<|BN G (fun DA=>?_) (fun DA=>?_)
 ·
  have C_:(Cz (fun x:BL=>x.Ap) Go.Apw.AGn m.Ap l)<l.length:=YD (by rw[DA];decide);have Ab:LP l m=l.set (Cz (fun x:BL=>x.Ap) Go.Apw.AGn m.Ap l) m:=(by rw[LP,FQ,AA_ DA]);exact Ae<|U 2 G<|BJ 1 (H9 m) G G (At G) G G<|IF 0 ((Cz (fun x:BL=>x.Ap) Go.Apw.AGn m.Ap l)) G G G J1 AMT AMT G<|Qz (s:=cy) 0 ((Cz (fun x:BL=>x.Ap) Go.Apw.AGn m.Ap l)) (ov:=m) () G G G AMT (At G) Aa UX<|Ac<|Am<|RY<|FA 2 G<|A5<|BA<|AQ<|Bq () G G trivial G (by rw[Ab];exact(Bg.cons 0 rfl Bg.nil))
 have Ab:LP l m=FO (Cz (fun x:BL=>x.Ap) Go.Apw.AGn m.Ap l) m l:=by rw[LP,FQ,AA9 (by rw[DA];decide)]
 exact AZ<|Ae<|U 2 G<|BJ 1 (H9 m) G G (At G) G G<|Lw G QN G G G G fun dB=>D9 1 G<|Hs 2 (qq Nr l (Cz (fun x:BL=>x.Ap) Go.Apw.AGn m.Ap l) dB m (St _ _) UX AMT) (Ar G) G G Aa G fun _ N4 _=>U 1 G<|Ac<|rt<|K5<|AQ<|Bq () G G trivial G (by rw[Ab];exact(Bg.cons 0 rfl Bg.nil))
theorem xv(Z:List BL×Bool×Int)(AW:IS l c q=Z)(BK:A' c)(Ed:A' q):Aw AG 112 [CP,.int .i64 c,.int .i64 q] [] [⟨CP,l⟩] (fun(y:Value) u=>u=.tuple #[y,.bool Z.2.1,.int .i64 Z.2.2]) (fun _ _=>[]) (fun y _=>[⟨y,Z.1⟩]):=by
 refine Aw.proof Tryz.func112 G 57 G G fun X w=>?_;obtain⟨K9,K_⟩:=id BK;obtain⟨LD,LF⟩:=id Ed;refine DJ (α:=BL) ?_;refine AF 3 G<|Am<|Ae<|An G G<|B0 (Xd _ _) (Ar G) G (Ad 1 G Aa) G<|U 1 G<|Ac<|Fa G (fun Dp=>?_) (fun Dp=>?_)
 ·
  have HJ:Fg l=false:=(by first|exact Dp|exact BS.1 Dp|exact(fun q=>BS.2 q Dp)|exact(fun q=>ABd (Dp.symm.trans q))|simpa using Dp)
  have AB:(([],false,21):List BL×Bool×Int)=Z:=(by rw[<-AW,IS,AA_ HJ]);subst AB;exact AF 3 G<|BA<|IB AI G G G G G G (Ad 0 G Aa)
 have HJ:¬(Fg l=false):=(by first|exact Dp|exact BS.1 Dp|exact(fun q=>BS.2 q Dp)|exact(fun q=>ABd (Dp.symm.trans q))|simpa using Dp)
 have OY:Fg l=true:=by simpa using HJ
 refine AZ<|Am<|Ae<|U 3 G<|ET 16 3 [] [0,1,2] G G G<|An G G<|ET 20 3 [] [0,1,2] G G G<|An G G<|ET 24 3 [] [0,1,2] G G G<|Ac<|BN G (fun G4=>?_) (fun G4=>?_)
 ·
  have NX:(decide (c<1)||decide (c>8)||decide (q<1)||decide (q>EW))=true:=(by first|exact G4|exact BS.1 G4|exact(fun q=>BS.2 q G4)|exact(fun q=>ABd (G4.symm.trans q))|simpa using G4)
  have AB:(([],false,1):List BL×Bool×Int)=Z:=(by rw[<-AW,IS,AA9 HJ,AA_ NX]);subst AB;exact AF 3 G<|BA<|IB AI G G G G G G (Ad 0 G Aa)
 have NX:¬((decide (c<1)||decide (c>8)||decide (q<1)||decide (q>EW))=true):=(by first|exact G4|exact BS.1 G4|exact(fun q=>BS.2 q G4)|exact(fun q=>ABd (G4.symm.trans q))|simpa using G4)
 refine AZ<|Ae<|U 2 G<|B0 (ej _ _ c (FU l c) G) (Ar G) G (Ad 1 G Aa) G<|U 3 G<|CT SN G fun H7=>BZ 0 (us:=(H9 ((FU l c).1))) G G G (At G) G G<|U 1 G<|Ac<|Am<|B5<|Ae<|U 2 G<|Fu 36 5 [0] [0,1,2,9,10] G G G<|U 1 G<|Ac<|BN G (fun FN=>?_) (fun FN=>?_)
 ·
  have Qu:((FU l c).2&&decide ((FU l c).1.As>q))=true:=(by first|exact FN|exact BS.1 FN|exact(fun q=>BS.2 q FN)|exact(fun q=>ABd (FN.symm.trans q))|simpa using FN)
  have AB:(([],false,80):List BL×Bool×Int)=Z:=(by rw[<-AW,IS,AA9 HJ,AA9 NX,AA_ Qu]);subst AB;exact AF 3 G<|rt<|C9<|Cd<|AQ<|IB AI G G G G G G (Ad 0 G Aa)
 have Qu:¬(((FU l c).2&&decide ((FU l c).1.As>q))=true):=(by first|exact FN|exact BS.1 FN|exact(fun q=>BS.2 q FN)|exact(fun q=>ABd (FN.symm.trans q))|simpa using FN)
 refine Ae<|U 2 G<|Fu 44 5 [0] [0,1,2] G G G<|U 1 G<|Ac<|BN G (fun Q9=>?_) (fun Q9=>?_)
 ·
  have kY:((FU l c).2&&decide ((FU l c).1.As=q))=true:=(by first|exact Q9|exact BS.1 Q9|exact(fun q=>BS.2 q Q9)|exact(fun q=>ABd (Q9.symm.trans q))|simpa using Q9)
  have AB:((l,false,0):List BL×Bool×Int)=Z:=(by rw[<-AW,IS,AA9 HJ,AA9 NX,AA9 Qu,AA_ kY]);subst AB;exact Ae<|An G G<|Dm (n0 _ _ (ABB (TE OY) ARp)) (Ar G) G (Ad 1 G Aa) G fun _ Xn _=>U 3 G<|Ac<|rt<|C9<|Cd<|AQ<|IB Xn G G G G G G (Ad 0 G Aa)
 have kY:¬(((FU l c).2&&decide ((FU l c).1.As=q))=true):=(by first|exact Q9|exact BS.1 Q9|exact(fun q=>BS.2 q Q9)|exact(fun q=>ABd (Q9.symm.trans q))|simpa using Q9)
 have AB:((LP l {Ap:=c,As:=q,HV:=true,Cm:=⟨0,0,0,0⟩},true,0):List BL×Bool×Int)=Z:=by rw[<-AW,IS,AA9 HJ,AA9 NX,AA9 Qu,AA9 kY]
 subst AB;exact EG<|CU<|A5<|Ae<|U 3 G<|Db (ps:=[(0,.tmp 53),(1,.tmp 54),(2,.const (.bool true))]) (cs:=(H9 ((⟨c,q,true,(⟨0,0,0,0⟩:De)⟩:BL)))) ARz ARs G<|Dm (gK _ _ {Ap:=c,As:=q,HV:=true,Cm:=⟨0,0,0,0⟩} ⟨BK,Ed,trivial,AlP⟩ (ABB (TE OY) ARp)) (Ar G) G (Ad 1 G Aa) G fun _ AkJ _=>U 3 G<|Ac<|rt<|AQ<|IB AkJ G G G G G G (Ad 0 G Aa)
theorem kB:Cv AG 197 [CP,.int .i64 c,.int .i64 q] [⟨CP,l⟩] (.int .i64 (KQ l c q)):=by
 refine Aw.proof Tryz.func197 G 31 G G fun X w=>AF 1 G<|Am<|Ae<|An G G<|B0 (Xd _ _) (Ar G) G (Ad 0 G Aa) G<|U 1 G<|Ac<|Fa G (fun Ct=>?_) (fun Ct=>?_)
 ·
  have Qr:=BS.1 Ct;exact AF 1 G<|BA<|Bq () G G (by rw[KQ,AA_ Qr]) G Aa
 have Qr:¬Fg l=false:=fun q=>BS.2 q Ct;refine AZ<|Ae<|U 2 G<|B0 (ej _ _ c (FU l c) G) (Ar G) G (Ad 0 G Aa) G<|U 3 G<|CT SN G fun Jo=>BZ 0 (us:=(H9 ((FU l c).1))) G G G (At G) G G<|U 1 G<|Ac<|Am<|Ae<|U 3 G<|ET 20 5 [0] [7] G G G<|An G G<|ET 26 4 [0] [] G G G<|Ac<|BN G (fun OS=>?_) (fun OS=>?_)
 · exact AF 1 G<|BA<|AQ<|Bq () G G (by rw[KQ,AA9 Qr,AA_ OS]) G Aa
 exact AZ<|AF 1 G<|rt<|AQ<|Bq () G G (by rw[KQ,AA9 Qr,AA9 (by rw[OS];decide)]) G Aa
theorem yX(a:De)(Z:List BL×Int)(AW:Oe l c q a=Z)(BK:A' c)(Ed:A' q)(C6:a.wf):Aw AG 188 [CP,.int .i64 c,.int .i64 q,.agg (GM a).toArray] [] [⟨CP,l⟩] (fun(y:Value) u=>u=.tuple #[y,.int .i64 Z.2]) (fun _ _=>[]) (fun y _=>[⟨y,Z.1⟩]):=by
 refine Aw.proof Tryz.func188 G 24 G G fun X w=>?_;obtain⟨K9,K_⟩:=id BK;obtain⟨LD,LF⟩:=id Ed;refine DJ (α:=BL) ?_;refine Ae<|CV G G G fun Jo=>U 2 G<|Ac<|Am<|Ae<|U 3 G<|B0 (kB _ _ c q) (Ar G) G (Ad 1 G Aa) G<|U 1 G<|Ac<|AF 2 G<|Fa G (fun CR=>?_) (fun CR=>?_)
 ·
  have Ii:¬KQ l c q=0:=(by first|exact CR|exact BS.1 CR|exact(fun q=>BS.2 q CR)|exact(fun q=>ABd (CR.symm.trans q))|simpa using CR)
  have AB:(([],KQ l c q):List BL×Int)=Z:=(by rw[<-AW,Oe,AA_ Ii]);subst AB;exact AF 3 G<|BA<|AQ<|Fl AI G G G G G (Ad 0 G Aa)
 have Ii:¬(¬KQ l c q=0):=(by first|exact CR|exact BS.1 CR|exact(fun q=>BS.2 q CR)|exact(fun q=>ABd (CR.symm.trans q))|simpa using CR)
 have AB:((LP l {Ap:=c,As:=q,HV:=false,Cm:=a},0):List BL×Int)=Z:=by rw[<-AW,Oe,AA9 Ii]
 subst AB;have OY:Fg l=true:=kC (by simpa using Ii);exact AZ<|Ae<|U 3 G<|BJ 0 (GM a) G G (At G) G G<|Db (ps:=[(0,.tmp 19),(1,.tmp 20),(3,.tmp 21)]) (cs:=(H9 ((⟨c,q,false,a⟩:BL)))) ARz ARs G<|Dm (gK _ _ {Ap:=c,As:=q,HV:=false,Cm:=a} ⟨BK,Ed,trivial,C6⟩ (ABB (TE OY) ARp)) (Ar G) G (Ad 1 G Aa) G fun _ Pe _=>U 2 G<|Ac<|rt<|AQ<|Fl Pe G G G G G (Ad 0 G Aa)
theorem Ad0(Z:List BL×Int)(AW:G' l c q=Z)(BK:A' c)(Ed:A' q)(Tu:A' (q-1)):Aw AG 133 [CP,.int .i64 c,.int .i64 q] [] [⟨CP,l⟩] (fun(y:Value) u=>u=.tuple #[y,.int .i64 Z.2]) (fun _ _=>[]) (fun y _=>[⟨y,Z.1⟩]):=by
 refine Aw.proof Tryz.func133 G 23 G G fun X w=>?_;obtain⟨K9,K_⟩:=id BK;obtain⟨LD,LF⟩:=id Ed;refine DJ (α:=BL) ?_;refine AF 2 G<|Am<|Ae<|U 3 G<|B0 (kB _ _ c q) (Ar G) G (Ad 1 G Aa) G<|U 1 G<|Ac<|AF 2 G<|Fa G (fun Fm=>?_) (fun Fm=>?_)
 ·
  have MI:¬KQ l c q=0:=(by first|exact Fm|exact BS.1 Fm|exact(fun q=>BS.2 q Fm)|exact(fun q=>ABd (Fm.symm.trans q))|simpa using Fm)
  have AB:(([],KQ l c q):List BL×Int)=Z:=(by rw[<-AW,G',AA_ MI]);subst AB;exact AF 3 G<|BA<|Fl AI G G G G G (Ad 0 G Aa)
 have MI:¬(¬KQ l c q=0):=(by first|exact Fm|exact BS.1 Fm|exact(fun q=>BS.2 q Fm)|exact(fun q=>ABd (Fm.symm.trans q))|simpa using Fm)
 have AB:((LP l {Ap:=c,As:=q-1,HV:=false,Cm:=⟨80,0,0,0⟩},0):List BL×Int)=Z:=by rw[<-AW,G',AA9 MI]
 subst AB;have OY:Fg l=true:=kC (by simpa using MI);exact AZ<|Ae<|U 3 G<|TU G G Tu G<|Db (ps:=[(0,.const (.int .i64 80))]) (cs:=(GM ((⟨80,0,0,0⟩:De)))) ARz ARs G<|Db (ps:=[(0,.tmp 17),(1,.tmp 19),(3,.tmp 20)]) (cs:=(H9 ((⟨c,(q-1),false,(⟨80,0,0,0⟩:De)⟩:BL)))) ARz ARs G<|Dm (gK _ _ {Ap:=c,As:=q-1,HV:=false,Cm:=⟨80,0,0,0⟩} ⟨BK,Tu,trivial,oy⟩ (ABB (TE OY) ARp)) (Ar G) G (Ad 1 G Aa) G fun _ RB _=>U 2 G<|Ac<|rt<|Fl RB G G G G G (Ad 0 G Aa)
theorem Ac4(PU:Value)(b:List BL)(Z:List BL×Int)(AW:M_ l b=Z):Aw AG 137 [CP,PU] [] [⟨CP,l⟩,⟨PU,b⟩] (fun(y:Value) u=>u=.tuple #[y,.int .i64 Z.2]) (fun _ _=>[]) (fun y _=>[⟨y,Z.1⟩]):=by
 refine Aw.proof Tryz.func137 G 64 G G fun X w=>DJ (α:=BL) ?_;refine AF 2 G<|Am<|Ae<|An G G<|B0 (Xd _ _) (Ar G) G (Ad 1 G Aa) G<|U 2 G ?_;refine DE 14 4 [0,1] G G (fun Fm N'=>by
  have Af1:=Fm;simp only[ABI,ABa]at Af1;exact U 1 G<|Bl G G G<|B0 (Xd _ _) (Ar G) G (Ad 2 G Aa) G<|U 2 G<|N' G Br) ?_
 refine Ac<|BN G (fun ER=>?_) (fun ER=>?_)
 ·
  have Nj:(Fg l&&Fg b)=false:=(by first|exact qB ER|exact ER|exact BS.1 ER|exact(fun q=>BS.2 q ER)|exact(fun q=>ABd (ER.symm.trans q))|simpa using ER)
  have AB:(([],21):List BL×Int)=Z:=(by rw[<-AW,M_,AA_ Nj]);subst AB;exact AF 2 G<|BA<|Fl AI G G G G G (Ad 0 G Aa)
 have Nj:¬((Fg l&&Fg b)=false):=(by first|exact qC ER|exact ER|exact BS.1 ER|exact(fun q=>BS.2 q ER)|exact(fun q=>ABd (ER.symm.trans q))|simpa using ER)
 have OY:Fg l=true/\Fg b=true:=by simpa using Nj
 have AbS:=TE OY.1;have Abv:=TE OY.2;refine AZ<|Ae<|An G G<|Dm (n0 _ _ AMT) (Ar G) G (Ad 1 G Aa) G fun _ v20 _=>U 1 G<|Ac<|Am<|Ae<|An G G<|C2 3 G G ADL G fun AnQ=>An G G<|Ac<|B5<|Hx (σ:=Nat×Value) [(21,_),(22,_)] _ (fun s C=>(23,.int .i64 (s.1:Int))::(6,s.2)::C) (fun s=>[CL X w]) (fun s Dw=>(⟨s.2,(b.take s.1).foldl Ld l⟩:Atom)::Dw) (fun s=>s.1<=b.length) (fun s=>b.length-s.1) (0,v20) (Bs G) (Ad 2 G (Ad 3 G (Ad 1 G Aa))) (ABg _) (Bs G) G (Ad 0 G (Ad 2 G (Ad 3 G (Ad 1 G Aa)))) ?_;rintro⟨i,ov⟩ Ag;simp only at Ag;refine AF 1 G<|Am<|B9 G (fun F3=>?_) (fun F3=>?_)
 ·
  refine AZ<|Am<|B5<|Ae<|Fo 2 G G G J1 G fun T7=>Gi 0 G G (At G) G fun Rq mv=>CT SN G fun K0=>BZ 0 (us:=(H9 ((b.getD i default)))) G G G (At G) G G<|Ac<|Ae<|AX 3 [0] G G<|B0 (ej _ _ (b.getD i default).Ap (FU ((b.take i).foldl Ld l) (b.getD i default).Ap) G) (Ar G) G (Ad 2 G Aa) G<|U 3 G<|CT SN G fun H7=>BZ 0 (us:=(H9 ((FU ((b.take i).foldl Ld l) (b.getD i default).Ap).1))) G G G (At G) G G<|U 1 G<|Ac<|Ae<|U 3 G<|ET 36 6 [1,0] [6,8,9,21,22,23] G G G<|An G G ?_;refine DE 43 15 [6,8,21,22,23] G G (fun KL VH=>by
   exact AX 6 [1,0] G G<|Fu 49 3 [0] [6,8,21,22,23,43] G G G<|U 1 G<|Fu 53 4 [1] [6,8,21,22,23,43] G G G<|U 1 G<|VH G Br) ?_
  refine Ac<|BN G (fun R4=>?_) (fun R4=>?_)
  ·
   refine rg<|An G G<|BJ 1 (H9 ((b.getD i default))) G G (At G) G G<|Dm (gK _ _ (b.getD i default) mv (ABB (jT b i l) AMT)) (Ar G) G (Ad 2 G Aa) G fun _ ui _=>U 1 G<|nl<|CU<|A5<|rg<|C5 G G BV G<|An G G<|nl<|AQ<|AQ ?_;have a2:(b.take (i+1)).foldl Ld l=LP ((b.take i).foldl Ld l) (b.getD i default):=(by rw[NH AMT,Ld,AA_ R4]);exact Dy ((i+1,ui):Nat×Value) (by show i+1<=_;omega) (by show b.length-(i+1)<b.length-i;omega) (Bs G) G (by show Bg ((⟨ui,(b.take (i+1)).foldl Ld l⟩:Atom)::_) _;rw[a2];exact(Bg.cons 0 rfl (Bg.cons 4 rfl (Bg.cons 5 rfl (Bg.cons 6 rfl Bg.nil)))))
  refine EG<|CU<|A5<|rg<|C5 G G BV G<|An G G<|nl<|AQ<|AQ ?_;have a2:(b.take (i+1)).foldl Ld l=((b.take i).foldl Ld l):=(by rw[NH AMT,Ld,AA9 (by rw[R4];decide)]);exact Dy ((i+1,ov):Nat×Value) (by show i+1<=_;omega) (by show b.length-(i+1)<b.length-i;omega) (Bs G) G (by show Bg ((⟨ov,(b.take (i+1)).foldl Ld l⟩:Atom)::_) _;rw[a2];exact(Bg.cons 2 rfl (Bg.cons 3 rfl (Bg.cons 4 rfl (Bg.cons 5 rfl Bg.nil)))))
 obtain rfl:i=b.length:=AMT;rw[ACB];have AB:((b.foldl Ld l,0):List BL×Int)=Z:=by rw[<-AW,M_,AA9 Nj]
 subst AB;exact ex<|Ck<|Ck<|D7<|A5<|AF 3 G<|rt<|Fl ov G G G G G (Ad 0 G Aa)
end Go.Apw
