/-
  What the listed package variable holds when the call begins: the table of the fields that leg types use.
-/
import Derived.Test.YtcgpbnlhnafhjaaGreatDoorMStrP
import Derived.Test.YtcgpbnlhnafhjaaGreatDoorMMem
import Derived.LaidMore
namespace Go.Proofs.YtcgpbnlhnafhjaaGreatDoor
open Go.ChangeShapes Go.WideShapes Go.ChangeAt Go.RowKit Go.WideElems
set_option linter.unusedVariables false
theorem zMLaid250{P:Prop}(h:P:=by(first|rfl|exact(decide_eq_true DL).symm|exact(decide_eq_false DL).symm|exact decide_eq_decide.2 DL|(rw[Bool.eq_iff_iff];simp only[Bool.or_eq_true,Bool.and_eq_true,beq_iff_eq,bne_iff_ne,ne_eq,decide_eq_true_eq,Bool.not_eq_true'];omega)|(simp[*];done))):P:=h
def KQ:List (String×DataW Unit):=[("flightdeck/leg.uses",Rows.laid_flightdeck_leg_uses)]
theorem rS(os:Os)(args:Array Value):laidMetH Tryz.prog KQ ((World.doorLaid Tryz.prog 400 os).forCall (fun _ _=>0) ⟨#[],args,[]⟩).memory:=
 laidMetH_of_parts3 (fuel:=8) (laidMet_of_run' 8 DN DN) DN DN
def KR:List Int:=[0,1,9,25,9,71,71,16,50,16,146,17,49,17,53,53,53,53]
theorem gU:Tryz.prog.globalNamed "flightdeck/leg.uses" =some 0:=DN
theorem tU:(Tryz.prog.globals[0]?).map (·.type)=some 162:=DN
theorem cU:Tryz.prog.cellsOf 161=1:=DN
def jP(w:World):Prop:=∀(i:Nat) (n:Int),KR[i]? =some n→w.cell? ⟨0,i,none⟩=some (.int .u16 n)
theorem ZJ{W w1:World}(hb:Below W.heap.size W w1)(h:jP W):jP w1:=by
 intro i n hi;have hc:=h i n hi;exact(hb.cell (World.block_lt_of_cell? _ _ hc)).trans hc
theorem lK{W:World}(h:laidMetH Tryz.prog KQ W):jP W:=by
 rw[MakeChecks.laidMetH_plain _ _ _ DN]at h;obtain⟨ps,⟨g0,t0,cs0,f0,p0,q0,hg0,ht0,hv0,hd0,_⟩,_⟩:=h;obtain rfl:=Option.some.inj (gU.symm.trans hg0);obtain rfl:=Option.some.inj (tU.symm.trans ht0);obtain⟨xs,m1,_,hx1,hlen,hn3,hel⟩:=DataW.trod_array Tryz.underlying162 hd0;intro i n hi
 have hi2:i<18:=by
  have:=(List.getElem?_eq_some_iff.1 hi).1;simpa[KR]using this
 have hc:=World.var?_cell hg0 hv0 i;have hm:=hel i hi2;rw[cU,Nat.mul_one]at hm;obtain⟨y,hy⟩:∃y,xs[i]? =some y:=⟨_,List.getElem?_eq_getElem DL⟩;rw[hy]at hm;have hl:cs0.toList.length=18:=hlen.trans DN;obtain⟨c,hcc⟩:∃c,cs0.toList[i]? =some c:=⟨_,List.getElem?_eq_getElem DL⟩
 have e1:(cs0.toList.drop i).take 1=[c]:=by
  obtain⟨h1,h2⟩:=List.getElem?_eq_some_iff.1 hcc;rw[List.drop_eq_getElem_cons h1,h2];rfl
 rw[e1]at hm;obtain⟨k,ec,ey,_⟩:=DataW.trod_int Tryz.underlying161 hm;injection ec with ec;have hx:=congrArg (fun t=>t.1) hx1;dsimp only at hx;rw[show(Rows.laid_flightdeck_leg_uses:DataW Unit)= .agg (KR.map fun n=>DataW.lit (.int .u16 n))from rfl]at hx;injection hx with hx;have hz:(KR.map fun n=>(DataW.lit (.int .u16 n):DataW Unit))[i]? =(xs.map fun x=>x.1)[i]? :=by rw[hx]
 rw[List.getElem?_map,List.getElem?_map,hi,hy,ey]at hz;injection hz with hz;injection hz with hz;injection hz with _ hz;rw[hc,hz,←ec];simpa using hcc
set_option maxRecDepth 100000
set_option maxHeartbeats 16000000
open Go.RowKit
set_option linter.unusedSimpArgs false
theorem zj{w W W1:World}{L:List zw}(h:qU w W L)(hq:∃n,W1=W.drewN n):qU w W1 L:=by
 obtain⟨n,rfl⟩:=hq;exact yp h n
structure rT(x:En):Prop where
 ty:0≤x.ty∧x.ty≤255
 tn:0≤x.tn∧x.tn≤255
 fx:x.fx.size≤maxLen
 ct:x.ct.size≤maxLen
theorem Vo(t:Int)(w:World)(h:t<1∨17<t):Calls Tryz.prog 150 #[.int .u8 t] w fun e w'=>e= .returned (.bool false)∧w=w':=by
 by_cases h1:t<1
 ·have e1:decide (1≤t)=false:=by simp;omega
  clear h;go_enter Tryz.func150,Tryz.ntmps150;go_wp2_with fail
  all_goals
   go_ret;exact⟨rfl,rfl⟩
 ·have e1:decide (1≤t)=true:=by simp;omega
  have e2:decide (t≤17)=false:=by simp;omega
  clear h;go_enter Tryz.func150,Tryz.ntmps150;go_wp2_with fail
  all_goals
   go_ret;exact⟨rfl,rfl⟩
theorem ym(t:Int)(w:World)(h1:1≤t)(h2:t≤17):Calls Tryz.prog 150 #[.int .u8 t] w fun e w'=>e= .returned (.bool true)∧w=w':=by
 go_enter Tryz.func150,Tryz.ntmps150;go_wp2_with fail
 all_goals
  go_ret;exact⟨rfl,rfl⟩
theorem lL:∀t:Nat,t≤17→∀m:Nat,m<8→(bits .and .u16 (Uu.getD t 0) ((2:Int)^m) !=0)=qZ t m:=by decide+kernel
theorem je(x:En)(hx:rT x)(w:World)(hu:Hid (jP w)):
 Calls Tryz.prog 81 #[.agg x.leg.toArray] w fun e w'=>e= .returned (Iv (zU x))∧Below w.heap.size w w':=by
 by_cases hk:x.ty<1∨17<x.ty
 ·have HR:Hid (zU x=17):=hide (by unfold zU;rw[if_pos DL]);have hM:=qE w;go_enter Tryz.func81,Tryz.ntmps81;go_wp2_with(first|(refine DU ?_;clear hM;intro g W hM)|refine DG (Vo _ _ hk) ?_);go_ret;exact⟨qI HR.out.symm,hM.below⟩
 have h1:1≤x.ty:=DL;have h2:x.ty≤17:=DL;clear hk
 have hub:∀m:Nat,m<8→(bits .and .u16 (Uu.getD x.ty.toNat 0) ((2:Int)^m) !=0)=qZ x.ty m:=fun m hm=>by
  have:=lL x.ty.toNat DL m hm;rw[this];congr 1;omega
 have uc:Hid (w.cell? ⟨0,x.ty.toNat,none⟩=some (.int .u16 (Uu.getD x.ty.toNat 0))):=hide (hu.out x.ty.toNat _ (by
  have:x.ty.toNat<KR.length:=by show x.ty.toNat<18;omega
  rw[List.getElem?_eq_getElem this];congr 1;have e:Uu=KR:=rfl;rw[e]
  simp[List.getD,List.getElem?_eq_getElem this]))
 generalize Uu.getD x.ty.toNat 0=U at*;have C1:=fun W=>TT x.fx (qZ x.ty 0) hx.fx W
 obtain⟨e1,he1⟩:∃e,yM x.fx (qZ x.ty 0)=e:=⟨_,rfl⟩;rw[he1]at C1;have C2:=fun W=>TT x.ct (qZ x.ty 1) hx.ct W
 obtain⟨e2,he2⟩:∃e,yM x.ct (qZ x.ty 1)=e:=⟨_,rfl⟩;rw[he2]at C2;have C5:=fun W=>Jn x.crs (qZ x.ty 4) 0 129599999 W
 obtain⟨e5,he5⟩:∃e,jS x.crs (qZ x.ty 4) 0 129599999=e:=⟨_,rfl⟩;rw[he5]at C5;have C6:=fun W=>Jn x.dst (qZ x.ty 5) 1 2000000 W
 obtain⟨e6,he6⟩:∃e,jS x.dst (qZ x.ty 5) 1 2000000=e:=⟨_,rfl⟩;rw[he6]at C6;have C7:=fun W=>Jn x.rad (qZ x.ty 6) 1 2000000 W
 obtain⟨e7,he7⟩:∃e,jS x.rad (qZ x.ty 6) 1 2000000=e:=⟨_,rfl⟩;rw[he7]at C7;have C8:=fun W=>Jn x.tht (qZ x.ty 7) 0 129599999 W
 obtain⟨e8,he8⟩:∃e,jS x.tht (qZ x.ty 7) 0 129599999=e:=⟨_,rfl⟩;rw[he8]at C8;obtain⟨q0,hq0⟩:∃q,qZ x.ty 0=q:=⟨_,rfl⟩;obtain⟨q1,hq1⟩:∃q,qZ x.ty 1=q:=⟨_,rfl⟩;obtain⟨q2,hq2⟩:∃q,qZ x.ty 2=q:=⟨_,rfl⟩;obtain⟨q3,hq3⟩:∃q,qZ x.ty 3=q:=⟨_,rfl⟩;obtain⟨q4,hq4⟩:∃q,qZ x.ty 4=q:=⟨_,rfl⟩;obtain⟨q5,hq5⟩:∃q,qZ x.ty 5=q:=⟨_,rfl⟩;obtain⟨q6,hq6⟩:∃q,qZ x.ty 6=q:=⟨_,rfl⟩;obtain⟨q7,hq7⟩:∃q,qZ x.ty 7=q:=⟨_,rfl⟩;obtain⟨B0,b0,u0⟩:∃B:Int,bits .and .u16 U 1=B∧(B !=0)=q0:=⟨_,rfl,(hub 0 DL).trans hq0⟩;have v0:(B0==0)= !q0:=by rw[←u0];simp[bne]
 obtain⟨B1,b1,u1⟩:∃B:Int,bits .and .u16 U 2=B∧(B !=0)=q1:=⟨_,rfl,(hub 1 DL).trans hq1⟩;have v1:(B1==0)= !q1:=by rw[←u1];simp[bne]
 obtain⟨B2,b2,u2⟩:∃B:Int,bits .and .u16 U 4=B∧(B !=0)=q2:=⟨_,rfl,(hub 2 DL).trans hq2⟩;have v2:(B2==0)= !q2:=by rw[←u2];simp[bne]
 obtain⟨B3,b3,u3⟩:∃B:Int,bits .and .u16 U 8=B∧(B !=0)=q3:=⟨_,rfl,(hub 3 DL).trans hq3⟩;have v3:(B3==0)= !q3:=by rw[←u3];simp[bne]
 obtain⟨B4,b4,u4⟩:∃B:Int,bits .and .u16 U 16=B∧(B !=0)=q4:=⟨_,rfl,(hub 4 DL).trans hq4⟩;have v4:(B4==0)= !q4:=by rw[←u4];simp[bne]
 obtain⟨B5,b5,u5⟩:∃B:Int,bits .and .u16 U 32=B∧(B !=0)=q5:=⟨_,rfl,(hub 5 DL).trans hq5⟩;have v5:(B5==0)= !q5:=by rw[←u5];simp[bne]
 obtain⟨B6,b6,u6⟩:∃B:Int,bits .and .u16 U 64=B∧(B !=0)=q6:=⟨_,rfl,(hub 6 DL).trans hq6⟩;have v6:(B6==0)= !q6:=by rw[←u6];simp[bne]
 obtain⟨B7,b7,u7⟩:∃B:Int,bits .and .u16 U 128=B∧(B !=0)=q7:=⟨_,rfl,(hub 7 DL).trans hq7⟩;have v7:(B7==0)= !q7:=by rw[←u7];simp[bne]
 rw[hq0]at C1;rw[hq1]at C2;rw[hq4]at C5;rw[hq5]at C6;rw[hq6]at C7;rw[hq7]at C8;have He1:=hide he1;clear he1;have He2:=hide he2;clear he2;have He5:=hide he5;clear he5;have He6:=hide he6;clear he6;have He7:=hide he7;clear he7;have He8:=hide he8;clear he8;have HQ0:=hide hq0;clear hq0;have HQ1:=hide hq1;clear hq1;have HQ2:=hide hq2;clear hq2;have HQ3:=hide hq3;clear hq3;have HQ4:=hide hq4;clear hq4;have HQ5:=hide hq5;clear hq5;have HQ6:=hide hq6;clear hq6;have HQ7:=hide hq7;clear hq7;clear hub;have hM:=qE w;go_enter Tryz.func81,Tryz.ntmps81;go_upto_if 39 with(first|refine DG (ym _ _ h1 h2) ?_|(go_at_call 151;(with_reducible refine(C1 _).mono ?_);rintro e W1 ⟨rfl,hq⟩;replace hM:=zj hM hq;clear hq)|(go_at_call 151;(with_reducible refine(C2 _).mono ?_);rintro e W1 ⟨rfl,hq⟩;replace hM:=zj hM hq;clear hq)|refine DG (C5 _) ?_|refine DG (C6 _) ?_|refine DG (C7 _) ?_|refine DG (C8 _) ?_|refine qg ?_|((with_reducible refine jB ?_);refine jo hM rfl rfl rfl Tryz.isAgg161 uc.out ?_)|(refine DU ?_;clear hM;intro g W hM))
 all_goals first
  |(go_ret;exact⟨qI ((mT h1 h2 (by rw[He1.out];assumption)).trans He1.out).symm,hM.below⟩;done)
  |(go_ret;exact⟨qI ((mU h1 h2 (by rw[He1.out];assumption) (by rw[He2.out];assumption)).trans He2.out).symm,hM.below⟩;done)
  |skip
 go_cut [] (fun wx=>qU w wx [(g,x.leg,44)]∧(if q2 then decide (x.tn=1)||decide (x.tn=2)else decide (x.tn=0))=true)
 case first=>
  go_wp2_with(first|refine DG (ym _ _ h1 h2) ?_|(go_at_call 151;(with_reducible refine(C1 _).mono ?_);rintro e W1 ⟨rfl,hq⟩;replace hM:=zj hM hq;clear hq)|(go_at_call 151;(with_reducible refine(C2 _).mono ?_);rintro e W1 ⟨rfl,hq⟩;replace hM:=zj hM hq;clear hq)|refine DG (C5 _) ?_|refine DG (C6 _) ?_|refine DG (C7 _) ?_|refine DG (C8 _) ?_|refine qg ?_|((with_reducible refine jB ?_);refine jo hM rfl rfl rfl Tryz.isAgg161 uc.out ?_)|(refine DU ?_;clear hM;intro g W hM))
  all_goals first
   |(go_meet;exact⟨hM,(by(try simp only[bne_iff_ne,ne_eq,bne_eq_false_iff_eq]at*);first|(rw[if_pos (show q2=true by assumption)];simp;omega)|(rw[if_neg (show¬q2=true by rw[Bool.not_eq_true];assumption)];simp;omega))⟩)
   |(go_ret;exact⟨qI (ek h1 h2 (by rw[He1.out];assumption) (by rw[He2.out];assumption) (by rw[HQ2.out];(try simp only[bne_iff_ne,ne_eq,bne_eq_false_iff_eq]at*);first|(rw[if_pos (show q2=true by assumption)];simp;omega)|(rw[if_neg (show¬q2=true by rw[Bool.not_eq_true];assumption)];simp;omega))).symm,hM.below⟩)
 case rest=>
 clear hM;obtain⟨hM,ht⟩:=hcut;have HT:=hide ht;clear ht;go_upto_region 15 with(first|refine DG (ym _ _ h1 h2) ?_|(go_at_call 151;(with_reducible refine(C1 _).mono ?_);rintro e W1 ⟨rfl,hq⟩;replace hM:=zj hM hq;clear hq)|(go_at_call 151;(with_reducible refine(C2 _).mono ?_);rintro e W1 ⟨rfl,hq⟩;replace hM:=zj hM hq;clear hq)|refine DG (C5 _) ?_|refine DG (C6 _) ?_|refine DG (C7 _) ?_|refine DG (C8 _) ?_|refine qg ?_|((with_reducible refine jB ?_);refine jo hM rfl rfl rfl Tryz.isAgg161 uc.out ?_)|(refine DU ?_;clear hM;intro g W hM));go_cut [57] (fun s wx=>∃b,s= .bool b∧Hid (b=(x.ov&& !q3))∧qU w wx [(g,x.leg,44)])
 case first=>
  go_wp2_with(first|refine DG (ym _ _ h1 h2) ?_|(go_at_call 151;(with_reducible refine(C1 _).mono ?_);rintro e W1 ⟨rfl,hq⟩;replace hM:=zj hM hq;clear hq)|(go_at_call 151;(with_reducible refine(C2 _).mono ?_);rintro e W1 ⟨rfl,hq⟩;replace hM:=zj hM hq;clear hq)|refine DG (C5 _) ?_|refine DG (C6 _) ?_|refine DG (C7 _) ?_|refine DG (C8 _) ?_|refine qg ?_|((with_reducible refine jB ?_);refine jo hM rfl rfl rfl Tryz.isAgg161 uc.out ?_))
  all_goals
   go_meet;exact⟨_,rfl,hide zMLaid250,hM⟩
 case rest=>
 clear hM;obtain⟨b15,rfl,hb15,hM⟩:=hcut;go_upto_region 29 with(first|refine DG (ym _ _ h1 h2) ?_|(go_at_call 151;(with_reducible refine(C1 _).mono ?_);rintro e W1 ⟨rfl,hq⟩;replace hM:=zj hM hq;clear hq)|(go_at_call 151;(with_reducible refine(C2 _).mono ?_);rintro e W1 ⟨rfl,hq⟩;replace hM:=zj hM hq;clear hq)|refine DG (C5 _) ?_|refine DG (C6 _) ?_|refine DG (C7 _) ?_|refine DG (C8 _) ?_|refine qg ?_|((with_reducible refine jB ?_);refine jo hM rfl rfl rfl Tryz.isAgg161 uc.out ?_))
 all_goals first
  |(go_ret;exact⟨qI (eu h1 h2 (by rw[He1.out];assumption) (by rw[He2.out];assumption) (by rw[HQ2.out];exact HT.out) (by rw[HQ3.out,←hb15.out];assumption)).symm,hM.below⟩;done)
  |(go_ret;exact⟨qI ((eB h1 h2 (by rw[He1.out];assumption) (by rw[He2.out];assumption) (by rw[HQ2.out];exact HT.out) (by rw[HQ3.out,←hb15.out];assumption) (by rw[He5.out];assumption)).trans He5.out).symm,hM.below⟩;done)
  |(go_ret;exact⟨qI ((eD h1 h2 (by rw[He1.out];assumption) (by rw[He2.out];assumption) (by rw[HQ2.out];exact HT.out) (by rw[HQ3.out,←hb15.out];assumption) (by rw[He5.out];assumption) (by rw[He6.out];assumption)).trans He6.out).symm,hM.below⟩;done)
  |(go_ret;exact⟨qI ((eE h1 h2 (by rw[He1.out];assumption) (by rw[He2.out];assumption) (by rw[HQ2.out];exact HT.out) (by rw[HQ3.out,←hb15.out];assumption) (by rw[He5.out];assumption) (by rw[He6.out];assumption) (by rw[He7.out];assumption)).trans He7.out).symm,hM.below⟩;done)
  |(go_ret;exact⟨qI ((eF h1 h2 (by rw[He1.out];assumption) (by rw[He2.out];assumption) (by rw[HQ2.out];exact HT.out) (by rw[HQ3.out,←hb15.out];assumption) (by rw[He5.out];assumption) (by rw[He6.out];assumption) (by rw[He7.out];assumption) (by rw[He8.out];assumption)).trans He8.out).symm,hM.below⟩;done)
  |skip
 go_cut [10] (fun s wx=>∃b,s= .bool b∧Hid (b=(tM x.ty))∧qU w wx [(g,x.leg,44)])
 case first=>
  go_wp2_with(first|refine DG (ym _ _ h1 h2) ?_|(go_at_call 151;(with_reducible refine(C1 _).mono ?_);rintro e W1 ⟨rfl,hq⟩;replace hM:=zj hM hq;clear hq)|(go_at_call 151;(with_reducible refine(C2 _).mono ?_);rintro e W1 ⟨rfl,hq⟩;replace hM:=zj hM hq;clear hq)|refine DG (C5 _) ?_|refine DG (C6 _) ?_|refine DG (C7 _) ?_|refine DG (C8 _) ?_|refine qg ?_|((with_reducible refine jB ?_);refine jo hM rfl rfl rfl Tryz.isAgg161 uc.out ?_))
  all_goals
   go_meet;exact⟨_,rfl,hide (by unfold tM;first|exact(decide_eq_true DL).symm|exact(decide_eq_false DL).symm|exact decide_eq_decide.2 DL|(rw[Bool.eq_iff_iff];simp only[Bool.or_eq_true,beq_iff_eq,decide_eq_true_eq];omega)),hM⟩
 case rest=>
 clear hM;obtain⟨b29,rfl,hb29,hM⟩:=hcut;go_upto_region 30 with(first|refine DG (ym _ _ h1 h2) ?_|(go_at_call 151;(with_reducible refine(C1 _).mono ?_);rintro e W1 ⟨rfl,hq⟩;replace hM:=zj hM hq;clear hq)|(go_at_call 151;(with_reducible refine(C2 _).mono ?_);rintro e W1 ⟨rfl,hq⟩;replace hM:=zj hM hq;clear hq)|refine DG (C5 _) ?_|refine DG (C6 _) ?_|refine DG (C7 _) ?_|refine DG (C8 _) ?_|refine qg ?_|((with_reducible refine jB ?_);refine jo hM rfl rfl rfl Tryz.isAgg161 uc.out ?_));go_cut [107] (fun s wx=>∃b,s= .bool b∧Hid (b=(decide (x.lo< -200000∨x.lo>x.hi∨x.hi>6000000)))∧qU w wx [(g,x.leg,44)])
 case first=>
  go_wp2_with(first|refine DG (ym _ _ h1 h2) ?_|(go_at_call 151;(with_reducible refine(C1 _).mono ?_);rintro e W1 ⟨rfl,hq⟩;replace hM:=zj hM hq;clear hq)|(go_at_call 151;(with_reducible refine(C2 _).mono ?_);rintro e W1 ⟨rfl,hq⟩;replace hM:=zj hM hq;clear hq)|refine DG (C5 _) ?_|refine DG (C6 _) ?_|refine DG (C7 _) ?_|refine DG (C8 _) ?_|refine qg ?_|((with_reducible refine jB ?_);refine jo hM rfl rfl rfl Tryz.isAgg161 uc.out ?_))
  all_goals
   go_meet;exact⟨_,rfl,hide zMLaid250,hM⟩
 case rest=>
 clear hM;obtain⟨b30,rfl,hb30,hM⟩:=hcut;go_upto_region 32 with(first|refine DG (ym _ _ h1 h2) ?_|(go_at_call 151;(with_reducible refine(C1 _).mono ?_);rintro e W1 ⟨rfl,hq⟩;replace hM:=zj hM hq;clear hq)|(go_at_call 151;(with_reducible refine(C2 _).mono ?_);rintro e W1 ⟨rfl,hq⟩;replace hM:=zj hM hq;clear hq)|refine DG (C5 _) ?_|refine DG (C6 _) ?_|refine DG (C7 _) ?_|refine DG (C8 _) ?_|refine qg ?_|((with_reducible refine jB ?_);refine jo hM rfl rfl rfl Tryz.isAgg161 uc.out ?_))
 all_goals first
  |(go_ret;exact⟨qI ((Yn h1 h2 (by rw[He1.out];assumption) (by rw[He2.out];assumption) (by rw[HQ2.out];exact HT.out) (by rw[HQ3.out,←hb15.out];assumption) (by rw[He5.out];assumption) (by rw[He6.out];assumption) (by rw[He7.out];assumption) (by rw[He8.out];assumption)).trans (by unfold JU;rw[if_pos (of_decide_eq_true (hb30.out.symm.trans (show b30=true by assumption)))])).symm,hM.below⟩;done)
  |skip
 go_cut [10,107,127] (fun s10 s107 s wx=>∃b,s= .bool b∧Hid (b=(tM x.ty&&decide (x.lo= -200000)))∧qU w wx [(g,x.leg,44)])
 case first=>
  go_wp2_with(first|refine DG (ym _ _ h1 h2) ?_|(go_at_call 151;(with_reducible refine(C1 _).mono ?_);rintro e W1 ⟨rfl,hq⟩;replace hM:=zj hM hq;clear hq)|(go_at_call 151;(with_reducible refine(C2 _).mono ?_);rintro e W1 ⟨rfl,hq⟩;replace hM:=zj hM hq;clear hq)|refine DG (C5 _) ?_|refine DG (C6 _) ?_|refine DG (C7 _) ?_|refine DG (C8 _) ?_|refine qg ?_|((with_reducible refine jB ?_);refine jo hM rfl rfl rfl Tryz.isAgg161 uc.out ?_))
  all_goals
   go_meet;exact⟨_,rfl,hide (by rw[←hb29.out];first|rfl|(rw[Bool.eq_false_iff.2 (show b29≠true by assumption)];rfl)|(rw[show b29=true by assumption,Bool.true_and];(first|rfl|exact(decide_eq_true DL).symm|exact(decide_eq_false DL).symm|exact decide_eq_decide.2 DL|(rw[Bool.eq_iff_iff];simp only[Bool.or_eq_true,Bool.and_eq_true,beq_iff_eq,bne_iff_ne,ne_eq,decide_eq_true_eq,Bool.not_eq_true'];omega)|(simp[*];done)))|(rw[show b29=false by assumption];rfl)),hM⟩
 case rest=>
 clear hM;obtain⟨b32,rfl,hb32,hM⟩:=hcut;go_upto_region 34 with(first|refine DG (ym _ _ h1 h2) ?_|(go_at_call 151;(with_reducible refine(C1 _).mono ?_);rintro e W1 ⟨rfl,hq⟩;replace hM:=zj hM hq;clear hq)|(go_at_call 151;(with_reducible refine(C2 _).mono ?_);rintro e W1 ⟨rfl,hq⟩;replace hM:=zj hM hq;clear hq)|refine DG (C5 _) ?_|refine DG (C6 _) ?_|refine DG (C7 _) ?_|refine DG (C8 _) ?_|refine qg ?_|((with_reducible refine jB ?_);refine jo hM rfl rfl rfl Tryz.isAgg161 uc.out ?_))
 all_goals first
  |(go_ret;exact⟨qI ((Yn h1 h2 (by rw[He1.out];assumption) (by rw[He2.out];assumption) (by rw[HQ2.out];exact HT.out) (by rw[HQ3.out,←hb15.out];assumption) (by rw[He5.out];assumption) (by rw[He6.out];assumption) (by rw[He7.out];assumption) (by rw[He8.out];assumption)).trans (by unfold JU;rw[if_neg (of_decide_eq_false (hb30.out.symm.trans (show b30=false by assumption))),if_pos (by simpa using(hb32.out.symm.trans (show b32=true by assumption)))])).symm,hM.below⟩;done)
  |skip
 go_cut [10,107,127,135] (fun s10 s107 s127 s wx=>∃b,s= .bool b∧Hid (b=(decide (x.spd<0∨x.spd>1000∨x.rnp<0∨x.rnp>120000)))∧qU w wx [(g,x.leg,44)])
 case first=>
  go_wp2_with(first|refine DG (ym _ _ h1 h2) ?_|(go_at_call 151;(with_reducible refine(C1 _).mono ?_);rintro e W1 ⟨rfl,hq⟩;replace hM:=zj hM hq;clear hq)|(go_at_call 151;(with_reducible refine(C2 _).mono ?_);rintro e W1 ⟨rfl,hq⟩;replace hM:=zj hM hq;clear hq)|refine DG (C5 _) ?_|refine DG (C6 _) ?_|refine DG (C7 _) ?_|refine DG (C8 _) ?_|refine qg ?_|((with_reducible refine jB ?_);refine jo hM rfl rfl rfl Tryz.isAgg161 uc.out ?_))
  all_goals
   go_meet;exact⟨_,rfl,hide zMLaid250,hM⟩
 case rest=>
 clear hM;obtain⟨b34,rfl,hb34,hM⟩:=hcut;go_wp2_with(first|refine DG (ym _ _ h1 h2) ?_|(go_at_call 151;(with_reducible refine(C1 _).mono ?_);rintro e W1 ⟨rfl,hq⟩;replace hM:=zj hM hq;clear hq)|(go_at_call 151;(with_reducible refine(C2 _).mono ?_);rintro e W1 ⟨rfl,hq⟩;replace hM:=zj hM hq;clear hq)|refine DG (C5 _) ?_|refine DG (C6 _) ?_|refine DG (C7 _) ?_|refine DG (C8 _) ?_|refine qg ?_|((with_reducible refine jB ?_);refine jo hM rfl rfl rfl Tryz.isAgg161 uc.out ?_))
 all_goals first
  |(go_ret;exact⟨qI ((Yn h1 h2 (by rw[He1.out];assumption) (by rw[He2.out];assumption) (by rw[HQ2.out];exact HT.out) (by rw[HQ3.out,←hb15.out];assumption) (by rw[He5.out];assumption) (by rw[He6.out];assumption) (by rw[He7.out];assumption) (by rw[He8.out];assumption)).trans (by unfold JU;rw[if_neg (of_decide_eq_false (hb30.out.symm.trans (show b30=false by assumption))),if_neg (fun hq=>by have hz:=hb32.out.symm.trans (show b32=false by assumption);rw[hq.1,decide_eq_true hq.2]at hz;cases hz),if_pos (of_decide_eq_true (hb34.out.symm.trans (show b34=true by assumption)))])).symm,hM.below⟩)
  |(go_ret;exact⟨qI ((Yn h1 h2 (by rw[He1.out];assumption) (by rw[He2.out];assumption) (by rw[HQ2.out];exact HT.out) (by rw[HQ3.out,←hb15.out];assumption) (by rw[He5.out];assumption) (by rw[He6.out];assumption) (by rw[He7.out];assumption) (by rw[He8.out];assumption)).trans (by unfold JU;rw[if_neg (of_decide_eq_false (hb30.out.symm.trans (show b30=false by assumption))),if_neg (fun hq=>by have hz:=hb32.out.symm.trans (show b32=false by assumption);rw[hq.1,decide_eq_true hq.2]at hz;cases hz),if_neg (of_decide_eq_false (hb34.out.symm.trans (show b34=false by assumption)))])).symm,hM.below⟩)
end Go.Proofs.YtcgpbnlhnafhjaaGreatDoor
