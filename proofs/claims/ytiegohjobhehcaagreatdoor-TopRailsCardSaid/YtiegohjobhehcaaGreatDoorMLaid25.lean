/-
  What the listed package variable holds when the call begins: the table of the fields that leg types use.
-/
import Derived.Test.YtiegohjobhehcaaGreatDoorMStrP
import Derived.Test.YtiegohjobhehcaaGreatDoorMMem
import Derived.LaidMore
namespace Go.Proofs.YtiegohjobhehcaaGreatDoor
open Go.ChangeShapes Go.WideShapes Go.ChangeAt Go.RowKit Go.WideElems
set_option linter.unusedVariables false
theorem zMLaid250{P:Prop}(h:P:=by(first|rfl|exact(decide_eq_true qg).symm|exact(decide_eq_false qg).symm|exact decide_eq_decide.2 qg|(rw[Bool.eq_iff_iff];simp only[Bool.or_eq_true,Bool.and_eq_true,beq_iff_eq,bne_iff_ne,ne_eq,decide_eq_true_eq,Bool.not_eq_true'];omega)|(simp[*];done))):P:=h
def da:List (String×DataW Unit):=[("flightdeck/leg.uses",Rows.laid_flightdeck_leg_uses)]
theorem iO(os:Os)(args:Array Value):laidMetH Tryz.prog da ((World.doorLaid Tryz.prog 400 os).forCall (fun _ _=>0) ⟨#[],args,[]⟩).memory:=
 laidMetH_of_parts3 (fuel:=8) (laidMet_of_run' 8 qM qM) qM qM
def iP:List Int:=[0,1,9,25,9,71,71,16,50,16,146,17,49,17,53,53,53,53]
def yE(w:World):Prop:=∀(i:Nat) (n:Int),iP[i]? =some n→w.cell? ⟨0,i,none⟩=some (.int .u16 n)
set_option maxRecDepth 100000
set_option maxHeartbeats 16000000
open Go.RowKit
set_option linter.unusedSimpArgs false
theorem yd{w W W1:World}{L:List qZ}(h:qF w W L)(hq:∃n,W1=W.drewN n):qF w W1 L:=by
 obtain⟨n,rfl⟩:=hq;exact zA h n
structure Ar(x:En):Prop where
 ty:0≤x.ty∧x.ty≤255
 tn:0≤x.tn∧x.tn≤255
 fx:x.fx.size≤maxLen
 ct:x.ct.size≤maxLen
theorem VI(t:Int)(w:World)(h:t<1∨17<t):Calls Tryz.prog 153 #[.int .u8 t] w fun e w'=>e= .returned (.bool false)∧w=w':=by
 by_cases h1:t<1
 ·have e1:decide (1≤t)=false:=by simp;omega
  clear h;go_enter Tryz.func153,Tryz.ntmps153;go_wp2_with fail
  all_goals
   go_ret;exact⟨rfl,rfl⟩
 ·have e1:decide (1≤t)=true:=by simp;omega
  have e2:decide (t≤17)=false:=by simp;omega
  clear h;go_enter Tryz.func153,Tryz.ntmps153;go_wp2_with fail
  all_goals
   go_ret;exact⟨rfl,rfl⟩
theorem yp(t:Int)(w:World)(h1:1≤t)(h2:t≤17):Calls Tryz.prog 153 #[.int .u8 t] w fun e w'=>e= .returned (.bool true)∧w=w':=by
 go_enter Tryz.func153,Tryz.ntmps153;go_wp2_with fail
 all_goals
  go_ret;exact⟨rfl,rfl⟩
theorem NQ:∀t:Nat,t≤17→∀m:Nat,m<8→(bits .and .u16 (Us.getD t 0) ((2:Int)^m) !=0)=zt t m:=by decide+kernel
theorem jf(x:En)(hx:Ar x)(w:World)(hu:Hid (yE w)):
 Calls Tryz.prog 81 #[.agg x.leg.toArray] w fun e w'=>e= .returned (Iv (jW x))∧Below w.heap.size w w':=by
 by_cases hk:x.ty<1∨17<x.ty
 ·have HR:Hid (jW x=17):=hide (by unfold jW;rw[if_pos qg]);have hM:=qo w;go_enter Tryz.func81,Tryz.ntmps81;go_wp2_with(first|(refine qe ?_;clear hM;intro g W hM)|refine qN (VI _ _ hk) ?_);go_ret;exact⟨qQ HR.out.symm,hM.below⟩
 have h1:1≤x.ty:=qg;have h2:x.ty≤17:=qg;clear hk
 have hub:∀m:Nat,m<8→(bits .and .u16 (Us.getD x.ty.toNat 0) ((2:Int)^m) !=0)=zt x.ty m:=fun m hm=>by
  have:=NQ x.ty.toNat qg m hm;rw[this];congr 1;omega
 have uc:Hid (w.cell? ⟨0,x.ty.toNat,none⟩=some (.int .u16 (Us.getD x.ty.toNat 0))):=hide (hu.out x.ty.toNat _ (by
  have:x.ty.toNat<iP.length:=by show x.ty.toNat<18;omega
  rw[List.getElem?_eq_getElem this];congr 1;have e:Us=iP:=rfl;rw[e]
  simp[List.getD,List.getElem?_eq_getElem this]))
 generalize Us.getD x.ty.toNat 0=U at*;have C1:=fun W=>TP x.fx (zt x.ty 0) hx.fx W
 obtain⟨e1,he1⟩:∃e,kp x.fx (zt x.ty 0)=e:=⟨_,rfl⟩;rw[he1]at C1;have C2:=fun W=>TP x.ct (zt x.ty 1) hx.ct W
 obtain⟨e2,he2⟩:∃e,kp x.ct (zt x.ty 1)=e:=⟨_,rfl⟩;rw[he2]at C2;have C5:=fun W=>Yc x.crs (zt x.ty 4) 0 129599999 W
 obtain⟨e5,he5⟩:∃e,yT x.crs (zt x.ty 4) 0 129599999=e:=⟨_,rfl⟩;rw[he5]at C5;have C6:=fun W=>Yc x.dst (zt x.ty 5) 1 2000000 W
 obtain⟨e6,he6⟩:∃e,yT x.dst (zt x.ty 5) 1 2000000=e:=⟨_,rfl⟩;rw[he6]at C6;have C7:=fun W=>Yc x.rad (zt x.ty 6) 1 2000000 W
 obtain⟨e7,he7⟩:∃e,yT x.rad (zt x.ty 6) 1 2000000=e:=⟨_,rfl⟩;rw[he7]at C7;have C8:=fun W=>Yc x.tht (zt x.ty 7) 0 129599999 W
 obtain⟨e8,he8⟩:∃e,yT x.tht (zt x.ty 7) 0 129599999=e:=⟨_,rfl⟩;rw[he8]at C8;obtain⟨q0,hq0⟩:∃q,zt x.ty 0=q:=⟨_,rfl⟩;obtain⟨q1,hq1⟩:∃q,zt x.ty 1=q:=⟨_,rfl⟩;obtain⟨q2,hq2⟩:∃q,zt x.ty 2=q:=⟨_,rfl⟩;obtain⟨q3,hq3⟩:∃q,zt x.ty 3=q:=⟨_,rfl⟩;obtain⟨q4,hq4⟩:∃q,zt x.ty 4=q:=⟨_,rfl⟩;obtain⟨q5,hq5⟩:∃q,zt x.ty 5=q:=⟨_,rfl⟩;obtain⟨q6,hq6⟩:∃q,zt x.ty 6=q:=⟨_,rfl⟩;obtain⟨q7,hq7⟩:∃q,zt x.ty 7=q:=⟨_,rfl⟩;obtain⟨B0,b0,u0⟩:∃B:Int,bits .and .u16 U 1=B∧(B !=0)=q0:=⟨_,rfl,(hub 0 qg).trans hq0⟩;have v0:(B0==0)= !q0:=by rw[←u0];simp[bne]
 obtain⟨B1,b1,u1⟩:∃B:Int,bits .and .u16 U 2=B∧(B !=0)=q1:=⟨_,rfl,(hub 1 qg).trans hq1⟩;have v1:(B1==0)= !q1:=by rw[←u1];simp[bne]
 obtain⟨B2,b2,u2⟩:∃B:Int,bits .and .u16 U 4=B∧(B !=0)=q2:=⟨_,rfl,(hub 2 qg).trans hq2⟩;have v2:(B2==0)= !q2:=by rw[←u2];simp[bne]
 obtain⟨B3,b3,u3⟩:∃B:Int,bits .and .u16 U 8=B∧(B !=0)=q3:=⟨_,rfl,(hub 3 qg).trans hq3⟩;have v3:(B3==0)= !q3:=by rw[←u3];simp[bne]
 obtain⟨B4,b4,u4⟩:∃B:Int,bits .and .u16 U 16=B∧(B !=0)=q4:=⟨_,rfl,(hub 4 qg).trans hq4⟩;have v4:(B4==0)= !q4:=by rw[←u4];simp[bne]
 obtain⟨B5,b5,u5⟩:∃B:Int,bits .and .u16 U 32=B∧(B !=0)=q5:=⟨_,rfl,(hub 5 qg).trans hq5⟩;have v5:(B5==0)= !q5:=by rw[←u5];simp[bne]
 obtain⟨B6,b6,u6⟩:∃B:Int,bits .and .u16 U 64=B∧(B !=0)=q6:=⟨_,rfl,(hub 6 qg).trans hq6⟩;have v6:(B6==0)= !q6:=by rw[←u6];simp[bne]
 obtain⟨B7,b7,u7⟩:∃B:Int,bits .and .u16 U 128=B∧(B !=0)=q7:=⟨_,rfl,(hub 7 qg).trans hq7⟩;have v7:(B7==0)= !q7:=by rw[←u7];simp[bne]
 rw[hq0]at C1;rw[hq1]at C2;rw[hq4]at C5;rw[hq5]at C6;rw[hq6]at C7;rw[hq7]at C8;have He1:=hide he1;clear he1;have He2:=hide he2;clear he2;have He5:=hide he5;clear he5;have He6:=hide he6;clear he6;have He7:=hide he7;clear he7;have He8:=hide he8;clear he8;have HQ0:=hide hq0;clear hq0;have HQ1:=hide hq1;clear hq1;have HQ2:=hide hq2;clear hq2;have HQ3:=hide hq3;clear hq3;have HQ4:=hide hq4;clear hq4;have HQ5:=hide hq5;clear hq5;have HQ6:=hide hq6;clear hq6;have HQ7:=hide hq7;clear hq7;clear hub;have hM:=qo w;go_enter Tryz.func81,Tryz.ntmps81;go_upto_if 39 with(first|refine qN (yp _ _ h1 h2) ?_|(go_at_call 154;(with_reducible refine(C1 _).mono ?_);rintro e W1 ⟨rfl,hq⟩;replace hM:=yd hM hq;clear hq)|(go_at_call 154;(with_reducible refine(C2 _).mono ?_);rintro e W1 ⟨rfl,hq⟩;replace hM:=yd hM hq;clear hq)|refine qN (C5 _) ?_|refine qN (C6 _) ?_|refine qN (C7 _) ?_|refine qN (C8 _) ?_|refine zC ?_|((with_reducible refine yK ?_);refine jr hM rfl rfl rfl Tryz.isAgg234 uc.out ?_)|(refine qe ?_;clear hM;intro g W hM))
 all_goals first
  |(go_ret;exact⟨qQ ((Cf h1 h2 (by rw[He1.out];assumption)).trans He1.out).symm,hM.below⟩;done)
  |(go_ret;exact⟨qQ ((Cg h1 h2 (by rw[He1.out];assumption) (by rw[He2.out];assumption)).trans He2.out).symm,hM.below⟩;done)
  |skip
 go_cut [] (fun wx=>qF w wx [(g,x.leg,60)]∧(if q2 then decide (x.tn=1)||decide (x.tn=2)else decide (x.tn=0))=true)
 case first=>
  go_wp2_with(first|refine qN (yp _ _ h1 h2) ?_|(go_at_call 154;(with_reducible refine(C1 _).mono ?_);rintro e W1 ⟨rfl,hq⟩;replace hM:=yd hM hq;clear hq)|(go_at_call 154;(with_reducible refine(C2 _).mono ?_);rintro e W1 ⟨rfl,hq⟩;replace hM:=yd hM hq;clear hq)|refine qN (C5 _) ?_|refine qN (C6 _) ?_|refine qN (C7 _) ?_|refine qN (C8 _) ?_|refine zC ?_|((with_reducible refine yK ?_);refine jr hM rfl rfl rfl Tryz.isAgg234 uc.out ?_)|(refine qe ?_;clear hM;intro g W hM))
  all_goals first
   |(go_meet;exact⟨hM,(by(try simp only[bne_iff_ne,ne_eq,bne_eq_false_iff_eq]at*);first|(rw[if_pos (show q2=true by assumption)];simp;omega)|(rw[if_neg (show¬q2=true by rw[Bool.not_eq_true];assumption)];simp;omega))⟩)
   |(go_ret;exact⟨qQ (Ch h1 h2 (by rw[He1.out];assumption) (by rw[He2.out];assumption) (by rw[HQ2.out];(try simp only[bne_iff_ne,ne_eq,bne_eq_false_iff_eq]at*);first|(rw[if_pos (show q2=true by assumption)];simp;omega)|(rw[if_neg (show¬q2=true by rw[Bool.not_eq_true];assumption)];simp;omega))).symm,hM.below⟩)
 case rest=>
 clear hM;obtain⟨hM,ht⟩:=hcut;have HT:=hide ht;clear ht;go_upto_region 15 with(first|refine qN (yp _ _ h1 h2) ?_|(go_at_call 154;(with_reducible refine(C1 _).mono ?_);rintro e W1 ⟨rfl,hq⟩;replace hM:=yd hM hq;clear hq)|(go_at_call 154;(with_reducible refine(C2 _).mono ?_);rintro e W1 ⟨rfl,hq⟩;replace hM:=yd hM hq;clear hq)|refine qN (C5 _) ?_|refine qN (C6 _) ?_|refine qN (C7 _) ?_|refine qN (C8 _) ?_|refine zC ?_|((with_reducible refine yK ?_);refine jr hM rfl rfl rfl Tryz.isAgg234 uc.out ?_)|(refine qe ?_;clear hM;intro g W hM));go_cut [57] (fun s wx=>∃b,s= .bool b∧Hid (b=(x.ov&& !q3))∧qF w wx [(g,x.leg,60)])
 case first=>
  go_wp2_with(first|refine qN (yp _ _ h1 h2) ?_|(go_at_call 154;(with_reducible refine(C1 _).mono ?_);rintro e W1 ⟨rfl,hq⟩;replace hM:=yd hM hq;clear hq)|(go_at_call 154;(with_reducible refine(C2 _).mono ?_);rintro e W1 ⟨rfl,hq⟩;replace hM:=yd hM hq;clear hq)|refine qN (C5 _) ?_|refine qN (C6 _) ?_|refine qN (C7 _) ?_|refine qN (C8 _) ?_|refine zC ?_|((with_reducible refine yK ?_);refine jr hM rfl rfl rfl Tryz.isAgg234 uc.out ?_))
  all_goals
   go_meet;exact⟨_,rfl,hide zMLaid250,hM⟩
 case rest=>
 clear hM;obtain⟨b15,rfl,hb15,hM⟩:=hcut;go_upto_region 29 with(first|refine qN (yp _ _ h1 h2) ?_|(go_at_call 154;(with_reducible refine(C1 _).mono ?_);rintro e W1 ⟨rfl,hq⟩;replace hM:=yd hM hq;clear hq)|(go_at_call 154;(with_reducible refine(C2 _).mono ?_);rintro e W1 ⟨rfl,hq⟩;replace hM:=yd hM hq;clear hq)|refine qN (C5 _) ?_|refine qN (C6 _) ?_|refine qN (C7 _) ?_|refine qN (C8 _) ?_|refine zC ?_|((with_reducible refine yK ?_);refine jr hM rfl rfl rfl Tryz.isAgg234 uc.out ?_))
 all_goals first
  |(go_ret;exact⟨qQ (Ci h1 h2 (by rw[He1.out];assumption) (by rw[He2.out];assumption) (by rw[HQ2.out];exact HT.out) (by rw[HQ3.out,←hb15.out];assumption)).symm,hM.below⟩;done)
  |(go_ret;exact⟨qQ ((Cj h1 h2 (by rw[He1.out];assumption) (by rw[He2.out];assumption) (by rw[HQ2.out];exact HT.out) (by rw[HQ3.out,←hb15.out];assumption) (by rw[He5.out];assumption)).trans He5.out).symm,hM.below⟩;done)
  |(go_ret;exact⟨qQ ((Ck h1 h2 (by rw[He1.out];assumption) (by rw[He2.out];assumption) (by rw[HQ2.out];exact HT.out) (by rw[HQ3.out,←hb15.out];assumption) (by rw[He5.out];assumption) (by rw[He6.out];assumption)).trans He6.out).symm,hM.below⟩;done)
  |(go_ret;exact⟨qQ ((Cl h1 h2 (by rw[He1.out];assumption) (by rw[He2.out];assumption) (by rw[HQ2.out];exact HT.out) (by rw[HQ3.out,←hb15.out];assumption) (by rw[He5.out];assumption) (by rw[He6.out];assumption) (by rw[He7.out];assumption)).trans He7.out).symm,hM.below⟩;done)
  |(go_ret;exact⟨qQ ((Cm h1 h2 (by rw[He1.out];assumption) (by rw[He2.out];assumption) (by rw[HQ2.out];exact HT.out) (by rw[HQ3.out,←hb15.out];assumption) (by rw[He5.out];assumption) (by rw[He6.out];assumption) (by rw[He7.out];assumption) (by rw[He8.out];assumption)).trans He8.out).symm,hM.below⟩;done)
  |skip
 go_cut [10] (fun s wx=>∃b,s= .bool b∧Hid (b=(BI x.ty))∧qF w wx [(g,x.leg,60)])
 case first=>
  go_wp2_with(first|refine qN (yp _ _ h1 h2) ?_|(go_at_call 154;(with_reducible refine(C1 _).mono ?_);rintro e W1 ⟨rfl,hq⟩;replace hM:=yd hM hq;clear hq)|(go_at_call 154;(with_reducible refine(C2 _).mono ?_);rintro e W1 ⟨rfl,hq⟩;replace hM:=yd hM hq;clear hq)|refine qN (C5 _) ?_|refine qN (C6 _) ?_|refine qN (C7 _) ?_|refine qN (C8 _) ?_|refine zC ?_|((with_reducible refine yK ?_);refine jr hM rfl rfl rfl Tryz.isAgg234 uc.out ?_))
  all_goals
   go_meet;exact⟨_,rfl,hide (by unfold BI;first|exact(decide_eq_true qg).symm|exact(decide_eq_false qg).symm|exact decide_eq_decide.2 qg|(rw[Bool.eq_iff_iff];simp only[Bool.or_eq_true,beq_iff_eq,decide_eq_true_eq];omega)),hM⟩
 case rest=>
 clear hM;obtain⟨b29,rfl,hb29,hM⟩:=hcut;go_upto_region 30 with(first|refine qN (yp _ _ h1 h2) ?_|(go_at_call 154;(with_reducible refine(C1 _).mono ?_);rintro e W1 ⟨rfl,hq⟩;replace hM:=yd hM hq;clear hq)|(go_at_call 154;(with_reducible refine(C2 _).mono ?_);rintro e W1 ⟨rfl,hq⟩;replace hM:=yd hM hq;clear hq)|refine qN (C5 _) ?_|refine qN (C6 _) ?_|refine qN (C7 _) ?_|refine qN (C8 _) ?_|refine zC ?_|((with_reducible refine yK ?_);refine jr hM rfl rfl rfl Tryz.isAgg234 uc.out ?_));go_cut [107] (fun s wx=>∃b,s= .bool b∧Hid (b=(decide (x.lo< -200000∨x.lo>x.hi∨x.hi>6000000)))∧qF w wx [(g,x.leg,60)])
 case first=>
  go_wp2_with(first|refine qN (yp _ _ h1 h2) ?_|(go_at_call 154;(with_reducible refine(C1 _).mono ?_);rintro e W1 ⟨rfl,hq⟩;replace hM:=yd hM hq;clear hq)|(go_at_call 154;(with_reducible refine(C2 _).mono ?_);rintro e W1 ⟨rfl,hq⟩;replace hM:=yd hM hq;clear hq)|refine qN (C5 _) ?_|refine qN (C6 _) ?_|refine qN (C7 _) ?_|refine qN (C8 _) ?_|refine zC ?_|((with_reducible refine yK ?_);refine jr hM rfl rfl rfl Tryz.isAgg234 uc.out ?_))
  all_goals
   go_meet;exact⟨_,rfl,hide zMLaid250,hM⟩
 case rest=>
 clear hM;obtain⟨b30,rfl,hb30,hM⟩:=hcut;go_upto_region 32 with(first|refine qN (yp _ _ h1 h2) ?_|(go_at_call 154;(with_reducible refine(C1 _).mono ?_);rintro e W1 ⟨rfl,hq⟩;replace hM:=yd hM hq;clear hq)|(go_at_call 154;(with_reducible refine(C2 _).mono ?_);rintro e W1 ⟨rfl,hq⟩;replace hM:=yd hM hq;clear hq)|refine qN (C5 _) ?_|refine qN (C6 _) ?_|refine qN (C7 _) ?_|refine qN (C8 _) ?_|refine zC ?_|((with_reducible refine yK ?_);refine jr hM rfl rfl rfl Tryz.isAgg234 uc.out ?_))
 all_goals first
  |(go_ret;exact⟨qQ ((Tz h1 h2 (by rw[He1.out];assumption) (by rw[He2.out];assumption) (by rw[HQ2.out];exact HT.out) (by rw[HQ3.out,←hb15.out];assumption) (by rw[He5.out];assumption) (by rw[He6.out];assumption) (by rw[He7.out];assumption) (by rw[He8.out];assumption)).trans (by unfold nQ;rw[if_pos (of_decide_eq_true (hb30.out.symm.trans (show b30=true by assumption)))])).symm,hM.below⟩;done)
  |skip
 go_cut [10,107,127] (fun s10 s107 s wx=>∃b,s= .bool b∧Hid (b=(BI x.ty&&decide (x.lo= -200000)))∧qF w wx [(g,x.leg,60)])
 case first=>
  go_wp2_with(first|refine qN (yp _ _ h1 h2) ?_|(go_at_call 154;(with_reducible refine(C1 _).mono ?_);rintro e W1 ⟨rfl,hq⟩;replace hM:=yd hM hq;clear hq)|(go_at_call 154;(with_reducible refine(C2 _).mono ?_);rintro e W1 ⟨rfl,hq⟩;replace hM:=yd hM hq;clear hq)|refine qN (C5 _) ?_|refine qN (C6 _) ?_|refine qN (C7 _) ?_|refine qN (C8 _) ?_|refine zC ?_|((with_reducible refine yK ?_);refine jr hM rfl rfl rfl Tryz.isAgg234 uc.out ?_))
  all_goals
   go_meet;exact⟨_,rfl,hide (by rw[←hb29.out];first|rfl|(rw[Bool.eq_false_iff.2 (show b29≠true by assumption)];rfl)|(rw[show b29=true by assumption,Bool.true_and];(first|rfl|exact(decide_eq_true qg).symm|exact(decide_eq_false qg).symm|exact decide_eq_decide.2 qg|(rw[Bool.eq_iff_iff];simp only[Bool.or_eq_true,Bool.and_eq_true,beq_iff_eq,bne_iff_ne,ne_eq,decide_eq_true_eq,Bool.not_eq_true'];omega)|(simp[*];done)))|(rw[show b29=false by assumption];rfl)),hM⟩
 case rest=>
 clear hM;obtain⟨b32,rfl,hb32,hM⟩:=hcut;go_upto_region 34 with(first|refine qN (yp _ _ h1 h2) ?_|(go_at_call 154;(with_reducible refine(C1 _).mono ?_);rintro e W1 ⟨rfl,hq⟩;replace hM:=yd hM hq;clear hq)|(go_at_call 154;(with_reducible refine(C2 _).mono ?_);rintro e W1 ⟨rfl,hq⟩;replace hM:=yd hM hq;clear hq)|refine qN (C5 _) ?_|refine qN (C6 _) ?_|refine qN (C7 _) ?_|refine qN (C8 _) ?_|refine zC ?_|((with_reducible refine yK ?_);refine jr hM rfl rfl rfl Tryz.isAgg234 uc.out ?_))
 all_goals first
  |(go_ret;exact⟨qQ ((Tz h1 h2 (by rw[He1.out];assumption) (by rw[He2.out];assumption) (by rw[HQ2.out];exact HT.out) (by rw[HQ3.out,←hb15.out];assumption) (by rw[He5.out];assumption) (by rw[He6.out];assumption) (by rw[He7.out];assumption) (by rw[He8.out];assumption)).trans (by unfold nQ;rw[if_neg (of_decide_eq_false (hb30.out.symm.trans (show b30=false by assumption))),if_pos (by simpa using(hb32.out.symm.trans (show b32=true by assumption)))])).symm,hM.below⟩;done)
  |skip
 go_cut [10,107,127,135] (fun s10 s107 s127 s wx=>∃b,s= .bool b∧Hid (b=(decide (x.spd<0∨x.spd>1000∨x.rnp<0∨x.rnp>120000)))∧qF w wx [(g,x.leg,60)])
 case first=>
  go_wp2_with(first|refine qN (yp _ _ h1 h2) ?_|(go_at_call 154;(with_reducible refine(C1 _).mono ?_);rintro e W1 ⟨rfl,hq⟩;replace hM:=yd hM hq;clear hq)|(go_at_call 154;(with_reducible refine(C2 _).mono ?_);rintro e W1 ⟨rfl,hq⟩;replace hM:=yd hM hq;clear hq)|refine qN (C5 _) ?_|refine qN (C6 _) ?_|refine qN (C7 _) ?_|refine qN (C8 _) ?_|refine zC ?_|((with_reducible refine yK ?_);refine jr hM rfl rfl rfl Tryz.isAgg234 uc.out ?_))
  all_goals
   go_meet;exact⟨_,rfl,hide zMLaid250,hM⟩
 case rest=>
 clear hM;obtain⟨b34,rfl,hb34,hM⟩:=hcut;go_wp2_with(first|refine qN (yp _ _ h1 h2) ?_|(go_at_call 154;(with_reducible refine(C1 _).mono ?_);rintro e W1 ⟨rfl,hq⟩;replace hM:=yd hM hq;clear hq)|(go_at_call 154;(with_reducible refine(C2 _).mono ?_);rintro e W1 ⟨rfl,hq⟩;replace hM:=yd hM hq;clear hq)|refine qN (C5 _) ?_|refine qN (C6 _) ?_|refine qN (C7 _) ?_|refine qN (C8 _) ?_|refine zC ?_|((with_reducible refine yK ?_);refine jr hM rfl rfl rfl Tryz.isAgg234 uc.out ?_))
 all_goals first
  |(go_ret;exact⟨qQ ((Tz h1 h2 (by rw[He1.out];assumption) (by rw[He2.out];assumption) (by rw[HQ2.out];exact HT.out) (by rw[HQ3.out,←hb15.out];assumption) (by rw[He5.out];assumption) (by rw[He6.out];assumption) (by rw[He7.out];assumption) (by rw[He8.out];assumption)).trans (by unfold nQ;rw[if_neg (of_decide_eq_false (hb30.out.symm.trans (show b30=false by assumption))),if_neg (fun hq=>by have hz:=hb32.out.symm.trans (show b32=false by assumption);rw[hq.1,decide_eq_true hq.2]at hz;cases hz),if_pos (of_decide_eq_true (hb34.out.symm.trans (show b34=true by assumption)))])).symm,hM.below⟩)
  |(go_ret;exact⟨qQ ((Tz h1 h2 (by rw[He1.out];assumption) (by rw[He2.out];assumption) (by rw[HQ2.out];exact HT.out) (by rw[HQ3.out,←hb15.out];assumption) (by rw[He5.out];assumption) (by rw[He6.out];assumption) (by rw[He7.out];assumption) (by rw[He8.out];assumption)).trans (by unfold nQ;rw[if_neg (of_decide_eq_false (hb30.out.symm.trans (show b30=false by assumption))),if_neg (fun hq=>by have hz:=hb32.out.symm.trans (show b32=false by assumption);rw[hq.1,decide_eq_true hq.2]at hz;cases hz),if_neg (of_decide_eq_false (hb34.out.symm.trans (show b34=false by assumption)))])).symm,hM.below⟩)
end Go.Proofs.YtiegohjobhehcaaGreatDoor
