/-
  has and uses of the reference of chapter 16.
-/
import Derived.Test.YtcgpbnlhnafhjaaGreatDoorMLaid25
set_option maxRecDepth 100000
set_option maxHeartbeats 16000000
namespace Go.Proofs.YtcgpbnlhnafhjaaGreatDoor
open Go.RowKit
set_option linter.unusedVariables false
set_option linter.unusedSimpArgs false
def Yx(l:List UInt8)(c:Int):Bool:= !(l.all fun b=> !decide ((b.toNat:Int)=c))
theorem yO(s:ByteArray)(c:Int)(hs:s.size≤maxLen)(w:World):
 Calls Tryz.prog 177 #[.string s,.int .u8 c] w fun e w'=>e= .returned (.bool (Yx s.data.toList c))∧w=w':=by
 unfold maxLen at hs;go_enter Tryz.func177,Tryz.ntmps177;go_wp2_with fail;go_loop [5] (fun i=>∃k:Nat,k≤s.size∧i=Iv k∧Hid ((s.data.toList.take k).all (fun b=> !decide ((b.toNat:Int)=c))=true)) (fun i=>s.size-(intOf i).toNat)
 case atStart=>exact⟨0,by omega,rfl,hide rfl⟩
 case round=>
  obtain⟨k,hk,rfl,hA⟩:=hrel;by_cases hlt:k<s.size
  ·by_cases hc:(s[k].toNat:Int)=c
   ·have hbad:=hide (Jh s (fun b=> !decide ((b.toNat:Int)=c)) k hlt (by simp[hc]));have hq:((s[k].toNat:Int)==c)=true:=by simpa using hc
    clear hc;go_wp2_with fail
    all_goals first
     |(exfalso;omega)
     |(go_ret
       exact⟨jh (by unfold Yx;rw[hbad.out];rfl),rfl⟩)
   ·have hst:=hide (Qq s (fun b=> !decide ((b.toNat:Int)=c)) k hlt);have hy:Hid ((!decide ((s[k].toNat:Int)=c))=true):=hide (by simp[hc]);have hq:((s[k].toNat:Int)==c)=false:=by simpa using hc
    clear hc;go_wp2_with fail
    all_goals first
     |(exfalso;omega)
     |(go_round
       case rel=>exact⟨k+1,by omega,by go_num,hide (by rw[hst.out,hA.out];exact hy.out)⟩
       case measure=>simp[intOf];omega)
  ·have hend:=hide (Ji s (fun b=> !decide ((b.toNat:Int)=c)) k DL hA.out);go_wp2_with fail;go_ret;exact⟨jh (by unfold Yx;rw[hend.out];rfl),rfl⟩
def PL:List ByteArray:=[⟨#[]⟩,⟨#[70]⟩,⟨#[70,111]⟩,⟨#[70,111,75]⟩,⟨#[70,111]⟩,⟨#[70,67,84,82]⟩,⟨#[70,67,84,82]⟩,⟨#[75,97]⟩,⟨#[67,75,68]⟩,⟨#[75]⟩,⟨#[67,75,72]⟩,⟨#[70,75,97]⟩,⟨#[70,75,68]⟩,⟨#[70,75]⟩,⟨#[70,84,75,68,97]⟩,⟨#[70,84,75,68]⟩,⟨#[70,84,75,68]⟩,⟨#[70,84,75,68]⟩]
def uH(t:Int):ByteArray:=if t<1∨t>17 then⟨#[]⟩else PL.getD t.toNat ⟨#[]⟩
theorem ZI{t:Int}(h:t<1∨17<t):uH t=⟨#[]⟩:=if_pos DL
theorem xY(t:Int)(w:World):Calls Tryz.prog 175 #[.int .u8 t] w fun e w'=>e= .returned (.string (uH t))∧w=w':=by
 by_cases h:t<1∨17<t
 ·have HR:=hide (ZI h);have k1:(t==1)=false:=by simp;omega
  have k2:(t==2)=false:=by simp;omega
  have k3:(t==3)=false:=by simp;omega
  have k4:(t==4)=false:=by simp;omega
  have k5:(t==5)=false:=by simp;omega
  have k6:(t==6)=false:=by simp;omega
  have k7:(t==7)=false:=by simp;omega
  have k8:(t==8)=false:=by simp;omega
  have k9:(t==9)=false:=by simp;omega
  have k10:(t==10)=false:=by simp;omega
  have k11:(t==11)=false:=by simp;omega
  have k12:(t==12)=false:=by simp;omega
  have k13:(t==13)=false:=by simp;omega
  have k14:(t==14)=false:=by simp;omega
  have k15:(t==15)=false:=by simp;omega
  have k16:(t==16)=false:=by simp;omega
  have k17:(t==17)=false:=by simp;omega
  clear h;go_enter Tryz.func175,Tryz.ntmps175;go_wp2_with fail
  all_goals
   go_ret;exact⟨(congrArg (fun z=>Ending.returned (.string z)) HR.out).symm,rfl⟩
 ·obtain rfl|rfl|rfl|rfl|rfl|rfl|rfl|rfl|rfl|rfl|rfl|rfl|rfl|rfl|rfl|rfl|rfl:t=1∨t=2∨t=3∨t=4∨t=5∨t=6∨t=7∨t=8∨t=9∨t=10∨t=11∨t=12∨t=13∨t=14∨t=15∨t=16∨t=17:=DL
  all_goals
   go_enter Tryz.func175,Tryz.ntmps175;go_wp2_with fail
   all_goals
    go_ret;exact⟨rfl,rfl⟩
theorem JD:∀t:Nat,t≤17→(uH t).size≤5∧(1≤t→0<(uH t).size):=by decide+kernel
theorem nY:∀t:Nat,t≤17→1≤t→Yx (uH t).data.toList 70=qZ t 0∧Yx (uH t).data.toList 67=qZ t 1∧Yx (uH t).data.toList 84=qZ t 2∧Yx (uH t).data.toList 111=qZ t 3∧Yx (uH t).data.toList 75=qZ t 4∧Yx (uH t).data.toList 68=qZ t 5∧Yx (uH t).data.toList 82=qZ t 6∧Yx (uH t).data.toList 72=qZ t 7∧Yx (uH t).data.toList 97=tM t:=by decide+kernel
theorem rN{x:En}{qa:Bool}(hq:tM x.ty=qa)(h:(decide (x.lo< -200000∨x.lo>x.hi∨x.hi>6000000)||(qa&&decide (x.lo= -200000)))=true):JU x=2:=by
 unfold JU;subst hq;simp only[Bool.or_eq_true,Bool.and_eq_true,decide_eq_true_eq]at h;rcases h with h|h
 ·rw[if_pos h]
 ·split
  ·rfl
  ·first|rfl|rw[if_pos h]
theorem rO{x:En}{qa:Bool}(hq:tM x.ty=qa)(h:(decide (x.lo< -200000∨x.lo>x.hi∨x.hi>6000000)||(qa&&decide (x.lo= -200000)))=false)(h2:decide (x.spd<0∨x.spd>1000∨x.rnp<0∨x.rnp>120000)=true):JU x=2:=by
 unfold JU;subst hq;simp only[Bool.or_eq_false_iff,Bool.and_eq_false_iff,decide_eq_false_iff_not]at h;rw[if_neg h.1];split
 ·rfl
 ·rw[if_pos (of_decide_eq_true h2)]
theorem rP{x:En}{qa:Bool}(hq:tM x.ty=qa)(h:(decide (x.lo< -200000∨x.lo>x.hi∨x.hi>6000000)||(qa&&decide (x.lo= -200000)))=false)(h2:decide (x.spd<0∨x.spd>1000∨x.rnp<0∨x.rnp>120000)=false):JU x=0:=by
 unfold JU;subst hq;simp only[Bool.or_eq_false_iff,Bool.and_eq_false_iff,decide_eq_false_iff_not]at h;rw[if_neg h.1,if_neg (by rintro⟨a,b⟩;rcases h.2 with h2|h2;(rw[a]at h2;cases h2);exact h2 b),if_neg (of_decide_eq_false h2)]
theorem Gk(x:En)(hx:rT x)(h1:1≤x.ty)(h2:x.ty≤17)(hV:(if qZ x.ty 2 then decide (x.tn=1)||decide (x.tn=2)else decide (x.tn=0))=false)(w:World):
 Calls Tryz.prog 110 #[.agg x.leg.toArray] w fun e w'=>e= .returned (Iv (zU x))∧Below w.heap.size w w':=by
 have US:=fun W=>xY x.ty W
 obtain⟨us,hus⟩:∃us,uH x.ty=us:=⟨_,rfl⟩;have hb:=nY x.ty.toNat DL DL;have hz:=JD x.ty.toNat DL;rw[show((x.ty.toNat:Nat):Int)=x.ty by omega,hus]at hb hz;rw[hus]at US;clear hus;obtain⟨hz1,hz2⟩:=hz;have hz3:=hz2 DL;obtain⟨a0,a1,a2,a3,a4,a5,a6,a7,ha⟩:=hb;obtain⟨qa,hqa⟩:∃q,tM x.ty=q:=⟨_,rfl⟩;have HAa:=fun W=>yO us 97 (by unfold maxLen;omega) W
 rw[ha,hqa]at HAa;have HQa:=hide hqa;clear hqa ha
 have hl:us.toList=[]↔False:=by
  rw[Lib.toList_data];refine⟨fun e=> ?_,False.elim⟩;rw[vS e]at hz3;cases hz3
 have hl2:(us.toList==[])=false:=by
  rw[beq_eq_false_iff_ne];exact fun e=>hl.1 e
 have hl3:us.toList.isEmpty=false:=by
  cases hq:us.toList with
  |nil=>exact(hl.1 hq).elim
  |cons a b=>rfl
 have C1:=fun W=>Jm x.fx (qZ x.ty 0) hx.fx W
 obtain⟨e1,he1⟩:∃e,yM x.fx (qZ x.ty 0)=e:=⟨_,rfl⟩;rw[he1]at C1;have C2:=fun W=>Jm x.ct (qZ x.ty 1) hx.ct W
 obtain⟨e2,he2⟩:∃e,yM x.ct (qZ x.ty 1)=e:=⟨_,rfl⟩;rw[he2]at C2;have C5:=fun W=>bE x.crs (qZ x.ty 4) 0 129599999 W
 obtain⟨e5,he5⟩:∃e,jS x.crs (qZ x.ty 4) 0 129599999=e:=⟨_,rfl⟩;rw[he5]at C5;have C6:=fun W=>bE x.dst (qZ x.ty 5) 1 2000000 W
 obtain⟨e6,he6⟩:∃e,jS x.dst (qZ x.ty 5) 1 2000000=e:=⟨_,rfl⟩;rw[he6]at C6;have C7:=fun W=>bE x.rad (qZ x.ty 6) 1 2000000 W
 obtain⟨e7,he7⟩:∃e,jS x.rad (qZ x.ty 6) 1 2000000=e:=⟨_,rfl⟩;rw[he7]at C7;have C8:=fun W=>bE x.tht (qZ x.ty 7) 0 129599999 W
 obtain⟨e8,he8⟩:∃e,jS x.tht (qZ x.ty 7) 0 129599999=e:=⟨_,rfl⟩;rw[he8]at C8;obtain⟨q0,hq0⟩:∃q,qZ x.ty 0=q:=⟨_,rfl⟩;obtain⟨q1,hq1⟩:∃q,qZ x.ty 1=q:=⟨_,rfl⟩;obtain⟨q2,hq2⟩:∃q,qZ x.ty 2=q:=⟨_,rfl⟩;obtain⟨q3,hq3⟩:∃q,qZ x.ty 3=q:=⟨_,rfl⟩;obtain⟨q4,hq4⟩:∃q,qZ x.ty 4=q:=⟨_,rfl⟩;obtain⟨q5,hq5⟩:∃q,qZ x.ty 5=q:=⟨_,rfl⟩;obtain⟨q6,hq6⟩:∃q,qZ x.ty 6=q:=⟨_,rfl⟩;obtain⟨q7,hq7⟩:∃q,qZ x.ty 7=q:=⟨_,rfl⟩;have HA0:=fun W=>yO us 70 (by unfold maxLen;omega) W
 rw[a0,hq0]at HA0;have HA1:=fun W=>yO us 67 (by unfold maxLen;omega) W
 rw[a1,hq1]at HA1;have HA2:=fun W=>yO us 84 (by unfold maxLen;omega) W
 rw[a2,hq2]at HA2;have HA3:=fun W=>yO us 111 (by unfold maxLen;omega) W
 rw[a3,hq3]at HA3;have HA4:=fun W=>yO us 75 (by unfold maxLen;omega) W
 rw[a4,hq4]at HA4;have HA5:=fun W=>yO us 68 (by unfold maxLen;omega) W
 rw[a5,hq5]at HA5;have HA6:=fun W=>yO us 82 (by unfold maxLen;omega) W
 rw[a6,hq6]at HA6;have HA7:=fun W=>yO us 72 (by unfold maxLen;omega) W
 rw[a7,hq7]at HA7;clear hz1 hz2 hz3 a0 a1 a2 a3 a4 a5 a6 a7;rw[hq0]at C1;rw[hq1]at C2;rw[hq4]at C5;rw[hq5]at C6;rw[hq6]at C7;rw[hq7]at C8;have He1:=hide he1;clear he1;have He2:=hide he2;clear he2;have He5:=hide he5;clear he5;have He6:=hide he6;clear he6;have He7:=hide he7;clear he7;have He8:=hide he8;clear he8;have HQ0:=hide hq0;clear hq0;have HQ1:=hide hq1;clear hq1;have HQ2:=hide hq2;clear hq2;have HQ3:=hide hq3;clear hq3;have HQ4:=hide hq4;clear hq4;have HQ5:=hide hq5;clear hq5;have HQ6:=hide hq6;clear hq6;have HQ7:=hide hq7;clear hq7;have HT:Hid ((if q2 then decide (x.tn=1)||decide (x.tn=2)else decide (x.tn=0))=false):=hide (by rw[←HQ2.out];exact hV);clear hV;have hM:=qE w;go_enter Tryz.func110,Tryz.ntmps110;go_upto_region 4 with(first|(refine DU ?_;clear hM;intro g W hM)|refine DG (US _) ?_|refine DG (HA0 _) ?_|refine DG (HA1 _) ?_|refine DG (HA2 _) ?_|refine DG (HA3 _) ?_|refine DG (HA4 _) ?_|refine DG (HA5 _) ?_|refine DG (HA6 _) ?_|refine DG (HA7 _) ?_|refine DG (HAa _) ?_|(go_at_call 176;(with_reducible refine(C1 _).mono ?_);rintro e W1 ⟨rfl,hq⟩;replace hM:=zj hM hq;clear hq)|(go_at_call 176;(with_reducible refine(C2 _).mono ?_);rintro e W1 ⟨rfl,hq⟩;replace hM:=zj hM hq;clear hq)|refine DG (C5 _) ?_|refine DG (C6 _) ?_|refine DG (C7 _) ?_|refine DG (C8 _) ?_);obtain⟨gx,rfl⟩:=Dy hM;go_cut [4] (fun s wx=>s=Iv e1∧qU w wx [(gx,x.leg,44)])
 case first=>
  refine jD hM DN ?_;(clear hM;intro W hM hK);refine kP 0 hM hK ?_;refine qu ?_
  first|refine kL 1 hM hK ?_|refine kM 1 hM hK ?_
  refine qu ?_;refine kP 2 hM hK ?_;refine qu ?_;refine zt (i:=3) (zF rfl) DN rfl (fun K' hK'=> ?_);go_wp2_with(first|refine DG (HA0 _) ?_|(go_at_call 176;(with_reducible refine(C1 _).mono ?_);rintro e W1 ⟨rfl,hq⟩;replace hM:=zj hM hq;clear hq));refine hK'.out _ _ (qW hM hK) ?_;clear hK' K';refine qu ?_;refine zt (i:=4) (zF rfl) DN rfl (fun K' hK'=> ?_);go_wp2_with(first|refine DG (HA0 _) ?_|(go_at_call 176;(with_reducible refine(C1 _).mono ?_);rintro e W1 ⟨rfl,hq⟩;replace hM:=zj hM hq;clear hq));refine hK'.out _ _ (qW hM hK) ?_;clear hK' K';refine qu ?_;refine kP 5 hM hK ?_;refine qu ?_;refine qF DN ?_;go_wp2_with fail;go_meet;exact⟨rfl,hM⟩
 case rest=>
 clear hM;obtain⟨rfl,hM⟩:=hcut;go_upto_region 7 with(fail)
 all_goals first
  |(go_ret;exact⟨qI ((mT h1 h2 (by rw[He1.out];assumption)).trans He1.out).symm,hM.below⟩;done)
  |skip
 go_cut [5] (fun s wx=>s=Iv e2∧qU w wx [(gx,x.leg,44)])
 case first=>
  refine jD hM DN ?_;(clear hM;intro W hM hK);refine kP 0 hM hK ?_;refine qu ?_
  first|refine kL 1 hM hK ?_|refine kM 1 hM hK ?_
  refine qu ?_;refine kP 2 hM hK ?_;refine qu ?_;refine zt (i:=3) (zF rfl) DN rfl (fun K' hK'=> ?_);go_wp2_with(first|refine DG (HA1 _) ?_|(go_at_call 176;(with_reducible refine(C2 _).mono ?_);rintro e W1 ⟨rfl,hq⟩;replace hM:=zj hM hq;clear hq));refine hK'.out _ _ (qW hM hK) ?_;clear hK' K';refine qu ?_;refine zt (i:=4) (zF rfl) DN rfl (fun K' hK'=> ?_);go_wp2_with(first|refine DG (HA1 _) ?_|(go_at_call 176;(with_reducible refine(C2 _).mono ?_);rintro e W1 ⟨rfl,hq⟩;replace hM:=zj hM hq;clear hq));refine hK'.out _ _ (qW hM hK) ?_;clear hK' K';refine qu ?_;refine kP 5 hM hK ?_;refine qu ?_;refine qF DN ?_;go_wp2_with fail;go_meet;exact⟨rfl,hM⟩
 case rest=>
 clear hM;obtain⟨rfl,hM⟩:=hcut;go_upto_region 10 with(first|refine qg ?_|refine DG (US _) ?_|refine DG (HA0 _) ?_|refine DG (HA1 _) ?_|refine DG (HA2 _) ?_|refine DG (HA3 _) ?_|refine DG (HA4 _) ?_|refine DG (HA5 _) ?_|refine DG (HA6 _) ?_|refine DG (HA7 _) ?_|refine DG (HAa _) ?_|(go_at_call 176;(with_reducible refine(C1 _).mono ?_);rintro e W1 ⟨rfl,hq⟩;replace hM:=zj hM hq;clear hq)|(go_at_call 176;(with_reducible refine(C2 _).mono ?_);rintro e W1 ⟨rfl,hq⟩;replace hM:=zj hM hq;clear hq)|refine DG (C5 _) ?_|refine DG (C6 _) ?_|refine DG (C7 _) ?_|refine DG (C8 _) ?_)
 all_goals first
  |(go_ret;exact⟨qI ((mU h1 h2 (by rw[He1.out];assumption) (by rw[He2.out];assumption)).trans He2.out).symm,hM.below⟩;done)
  |skip
 go_cut [51] (fun s wx=>s= .bool true∧qU w wx [(gx,x.leg,44)])
 case first=>
  have hcs:((x.tn==1)=true∧(x.tn==2)=false∧(x.tn==0)=false∧(x.tn !=0)=true∧q2=false)∨((x.tn==1)=false∧(x.tn==2)=true∧(x.tn==0)=false∧(x.tn !=0)=true∧q2=false)∨((x.tn==1)=false∧(x.tn==2)=false∧(x.tn==0)=true∧(x.tn !=0)=false∧q2=true)∨((x.tn==1)=false∧(x.tn==2)=false∧(x.tn==0)=false∧(x.tn !=0)=true∧q2=false)∨((x.tn==1)=false∧(x.tn==2)=false∧(x.tn==0)=false∧(x.tn !=0)=true∧q2=true):=by
   have hT:=HT.out;rcases q2 with _|_
   ·have h:x.tn=1∨x.tn=2∨x.tn=0∨(x.tn≠1∧x.tn≠2∧x.tn≠0):=DL;rcases h with h|h|h|h<;>simp[h]at hT⊢
   ·have h:x.tn=1∨x.tn=2∨x.tn=0∨(x.tn≠1∧x.tn≠2∧x.tn≠0):=DL;rcases h with h|h|h|h<;>simp[h]at hT⊢
  rcases hcs with⟨t1,t2,t0,tz,rfl⟩|⟨t1,t2,t0,tz,rfl⟩|⟨t1,t2,t0,tz,rfl⟩|⟨t1,t2,t0,tz,rfl⟩|⟨t1,t2,t0,tz,rfl⟩
  all_goals(
   have hc3:_=some (Value.int .u8 x.tn):=hM.cell (i:=3) Lk.head;go_quiet ((go_at_call 177;exact YD (HA2 _)));go_wp2_with fail;go_meet
   exact⟨rfl,(by first|exact hM|exact jW hM|exact yp hM _)⟩)
 case rest=>
 clear hM;obtain⟨rfl,hM⟩:=hcut;go_wp2_with(first|refine qg ?_|refine DG (US _) ?_|refine DG (HA0 _) ?_|refine DG (HA1 _) ?_|refine DG (HA2 _) ?_|refine DG (HA3 _) ?_|refine DG (HA4 _) ?_|refine DG (HA5 _) ?_|refine DG (HA6 _) ?_|refine DG (HA7 _) ?_|refine DG (HAa _) ?_|(go_at_call 176;(with_reducible refine(C1 _).mono ?_);rintro e W1 ⟨rfl,hq⟩;replace hM:=zj hM hq;clear hq)|(go_at_call 176;(with_reducible refine(C2 _).mono ?_);rintro e W1 ⟨rfl,hq⟩;replace hM:=zj hM hq;clear hq)|refine DG (C5 _) ?_|refine DG (C6 _) ?_|refine DG (C7 _) ?_|refine DG (C8 _) ?_)
 all_goals
  go_ret;exact⟨qI (ek h1 h2 (by rw[He1.out];assumption) (by rw[He2.out];assumption) (by rw[HQ2.out];exact HT.out)).symm,hM.below⟩
theorem UW(x:En)(hx:rT x)(h1:1≤x.ty)(h2:x.ty≤17)(hV:(if qZ x.ty 2 then decide (x.tn=1)||decide (x.tn=2)else decide (x.tn=0))=true)(w:World):
 Calls Tryz.prog 110 #[.agg x.leg.toArray] w fun e w'=>e= .returned (Iv (zU x))∧Below w.heap.size w w':=by
 have US:=fun W=>xY x.ty W
 obtain⟨us,hus⟩:∃us,uH x.ty=us:=⟨_,rfl⟩;have hb:=nY x.ty.toNat DL DL;have hz:=JD x.ty.toNat DL;rw[show((x.ty.toNat:Nat):Int)=x.ty by omega,hus]at hb hz;rw[hus]at US;clear hus;obtain⟨hz1,hz2⟩:=hz;have hz3:=hz2 DL;obtain⟨a0,a1,a2,a3,a4,a5,a6,a7,ha⟩:=hb;obtain⟨qa,hqa⟩:∃q,tM x.ty=q:=⟨_,rfl⟩;have HAa:=fun W=>yO us 97 (by unfold maxLen;omega) W
 rw[ha,hqa]at HAa;have HQa:=hide hqa;clear hqa ha
 have hl:us.toList=[]↔False:=by
  rw[Lib.toList_data];refine⟨fun e=> ?_,False.elim⟩;rw[vS e]at hz3;cases hz3
 have hl2:(us.toList==[])=false:=by
  rw[beq_eq_false_iff_ne];exact fun e=>hl.1 e
 have hl3:us.toList.isEmpty=false:=by
  cases hq:us.toList with
  |nil=>exact(hl.1 hq).elim
  |cons a b=>rfl
 have C1:=fun W=>Jm x.fx (qZ x.ty 0) hx.fx W
 obtain⟨e1,he1⟩:∃e,yM x.fx (qZ x.ty 0)=e:=⟨_,rfl⟩;rw[he1]at C1;have C2:=fun W=>Jm x.ct (qZ x.ty 1) hx.ct W
 obtain⟨e2,he2⟩:∃e,yM x.ct (qZ x.ty 1)=e:=⟨_,rfl⟩;rw[he2]at C2;have C5:=fun W=>bE x.crs (qZ x.ty 4) 0 129599999 W
 obtain⟨e5,he5⟩:∃e,jS x.crs (qZ x.ty 4) 0 129599999=e:=⟨_,rfl⟩;rw[he5]at C5;have C6:=fun W=>bE x.dst (qZ x.ty 5) 1 2000000 W
 obtain⟨e6,he6⟩:∃e,jS x.dst (qZ x.ty 5) 1 2000000=e:=⟨_,rfl⟩;rw[he6]at C6;have C7:=fun W=>bE x.rad (qZ x.ty 6) 1 2000000 W
 obtain⟨e7,he7⟩:∃e,jS x.rad (qZ x.ty 6) 1 2000000=e:=⟨_,rfl⟩;rw[he7]at C7;have C8:=fun W=>bE x.tht (qZ x.ty 7) 0 129599999 W
 obtain⟨e8,he8⟩:∃e,jS x.tht (qZ x.ty 7) 0 129599999=e:=⟨_,rfl⟩;rw[he8]at C8;obtain⟨q0,hq0⟩:∃q,qZ x.ty 0=q:=⟨_,rfl⟩;obtain⟨q1,hq1⟩:∃q,qZ x.ty 1=q:=⟨_,rfl⟩;obtain⟨q2,hq2⟩:∃q,qZ x.ty 2=q:=⟨_,rfl⟩;obtain⟨q3,hq3⟩:∃q,qZ x.ty 3=q:=⟨_,rfl⟩;obtain⟨q4,hq4⟩:∃q,qZ x.ty 4=q:=⟨_,rfl⟩;obtain⟨q5,hq5⟩:∃q,qZ x.ty 5=q:=⟨_,rfl⟩;obtain⟨q6,hq6⟩:∃q,qZ x.ty 6=q:=⟨_,rfl⟩;obtain⟨q7,hq7⟩:∃q,qZ x.ty 7=q:=⟨_,rfl⟩;have HA0:=fun W=>yO us 70 (by unfold maxLen;omega) W
 rw[a0,hq0]at HA0;have HA1:=fun W=>yO us 67 (by unfold maxLen;omega) W
 rw[a1,hq1]at HA1;have HA2:=fun W=>yO us 84 (by unfold maxLen;omega) W
 rw[a2,hq2]at HA2;have HA3:=fun W=>yO us 111 (by unfold maxLen;omega) W
 rw[a3,hq3]at HA3;have HA4:=fun W=>yO us 75 (by unfold maxLen;omega) W
 rw[a4,hq4]at HA4;have HA5:=fun W=>yO us 68 (by unfold maxLen;omega) W
 rw[a5,hq5]at HA5;have HA6:=fun W=>yO us 82 (by unfold maxLen;omega) W
 rw[a6,hq6]at HA6;have HA7:=fun W=>yO us 72 (by unfold maxLen;omega) W
 rw[a7,hq7]at HA7;clear hz1 hz2 hz3 a0 a1 a2 a3 a4 a5 a6 a7;rw[hq0]at C1;rw[hq1]at C2;rw[hq4]at C5;rw[hq5]at C6;rw[hq6]at C7;rw[hq7]at C8;have He1:=hide he1;clear he1;have He2:=hide he2;clear he2;have He5:=hide he5;clear he5;have He6:=hide he6;clear he6;have He7:=hide he7;clear he7;have He8:=hide he8;clear he8;have HQ0:=hide hq0;clear hq0;have HQ1:=hide hq1;clear hq1;have HQ2:=hide hq2;clear hq2;have HQ3:=hide hq3;clear hq3;have HQ4:=hide hq4;clear hq4;have HQ5:=hide hq5;clear hq5;have HQ6:=hide hq6;clear hq6;have HQ7:=hide hq7;clear hq7;have HT:Hid ((if q2 then decide (x.tn=1)||decide (x.tn=2)else decide (x.tn=0))=true):=hide (by rw[←HQ2.out];exact hV);clear hV;have hM:=qE w;go_enter Tryz.func110,Tryz.ntmps110;go_upto_region 4 with(first|(refine DU ?_;clear hM;intro g W hM)|refine DG (US _) ?_|refine DG (HA0 _) ?_|refine DG (HA1 _) ?_|refine DG (HA2 _) ?_|refine DG (HA3 _) ?_|refine DG (HA4 _) ?_|refine DG (HA5 _) ?_|refine DG (HA6 _) ?_|refine DG (HA7 _) ?_|refine DG (HAa _) ?_|(go_at_call 176;(with_reducible refine(C1 _).mono ?_);rintro e W1 ⟨rfl,hq⟩;replace hM:=zj hM hq;clear hq)|(go_at_call 176;(with_reducible refine(C2 _).mono ?_);rintro e W1 ⟨rfl,hq⟩;replace hM:=zj hM hq;clear hq)|refine DG (C5 _) ?_|refine DG (C6 _) ?_|refine DG (C7 _) ?_|refine DG (C8 _) ?_);obtain⟨gx,rfl⟩:=Dy hM;go_cut [4] (fun s wx=>s=Iv e1∧qU w wx [(gx,x.leg,44)])
 case first=>
  refine jD hM DN ?_;(clear hM;intro W hM hK);refine kP 0 hM hK ?_;refine qu ?_
  first|refine kL 1 hM hK ?_|refine kM 1 hM hK ?_
  refine qu ?_;refine kP 2 hM hK ?_;refine qu ?_;refine zt (i:=3) (zF rfl) DN rfl (fun K' hK'=> ?_);go_wp2_with(first|refine DG (HA0 _) ?_|(go_at_call 176;(with_reducible refine(C1 _).mono ?_);rintro e W1 ⟨rfl,hq⟩;replace hM:=zj hM hq;clear hq));refine hK'.out _ _ (qW hM hK) ?_;clear hK' K';refine qu ?_;refine zt (i:=4) (zF rfl) DN rfl (fun K' hK'=> ?_);go_wp2_with(first|refine DG (HA0 _) ?_|(go_at_call 176;(with_reducible refine(C1 _).mono ?_);rintro e W1 ⟨rfl,hq⟩;replace hM:=zj hM hq;clear hq));refine hK'.out _ _ (qW hM hK) ?_;clear hK' K';refine qu ?_;refine kP 5 hM hK ?_;refine qu ?_;refine qF DN ?_;go_wp2_with fail;go_meet;exact⟨rfl,hM⟩
 case rest=>
 clear hM;obtain⟨rfl,hM⟩:=hcut;go_upto_region 7 with(fail)
 all_goals first
  |(go_ret;exact⟨qI ((mT h1 h2 (by rw[He1.out];assumption)).trans He1.out).symm,hM.below⟩;done)
  |skip
 go_cut [5] (fun s wx=>s=Iv e2∧qU w wx [(gx,x.leg,44)])
 case first=>
  refine jD hM DN ?_;(clear hM;intro W hM hK);refine kP 0 hM hK ?_;refine qu ?_
  first|refine kL 1 hM hK ?_|refine kM 1 hM hK ?_
  refine qu ?_;refine kP 2 hM hK ?_;refine qu ?_;refine zt (i:=3) (zF rfl) DN rfl (fun K' hK'=> ?_);go_wp2_with(first|refine DG (HA1 _) ?_|(go_at_call 176;(with_reducible refine(C2 _).mono ?_);rintro e W1 ⟨rfl,hq⟩;replace hM:=zj hM hq;clear hq));refine hK'.out _ _ (qW hM hK) ?_;clear hK' K';refine qu ?_;refine zt (i:=4) (zF rfl) DN rfl (fun K' hK'=> ?_);go_wp2_with(first|refine DG (HA1 _) ?_|(go_at_call 176;(with_reducible refine(C2 _).mono ?_);rintro e W1 ⟨rfl,hq⟩;replace hM:=zj hM hq;clear hq));refine hK'.out _ _ (qW hM hK) ?_;clear hK' K';refine qu ?_;refine kP 5 hM hK ?_;refine qu ?_;refine qF DN ?_;go_wp2_with fail;go_meet;exact⟨rfl,hM⟩
 case rest=>
 clear hM;obtain⟨rfl,hM⟩:=hcut;go_upto_region 10 with(first|refine qg ?_|refine DG (US _) ?_|refine DG (HA0 _) ?_|refine DG (HA1 _) ?_|refine DG (HA2 _) ?_|refine DG (HA3 _) ?_|refine DG (HA4 _) ?_|refine DG (HA5 _) ?_|refine DG (HA6 _) ?_|refine DG (HA7 _) ?_|refine DG (HAa _) ?_|(go_at_call 176;(with_reducible refine(C1 _).mono ?_);rintro e W1 ⟨rfl,hq⟩;replace hM:=zj hM hq;clear hq)|(go_at_call 176;(with_reducible refine(C2 _).mono ?_);rintro e W1 ⟨rfl,hq⟩;replace hM:=zj hM hq;clear hq)|refine DG (C5 _) ?_|refine DG (C6 _) ?_|refine DG (C7 _) ?_|refine DG (C8 _) ?_)
 all_goals first
  |(go_ret;exact⟨qI ((mU h1 h2 (by rw[He1.out];assumption) (by rw[He2.out];assumption)).trans He2.out).symm,hM.below⟩;done)
  |skip
 go_cut [51] (fun s wx=>s= .bool false∧qU w wx [(gx,x.leg,44)])
 case first=>
  have hcs:((x.tn==1)=true∧(x.tn==2)=false∧(x.tn==0)=false∧(x.tn !=0)=true∧q2=true)∨((x.tn==1)=false∧(x.tn==2)=true∧(x.tn==0)=false∧(x.tn !=0)=true∧q2=true)∨((x.tn==1)=false∧(x.tn==2)=false∧(x.tn==0)=true∧(x.tn !=0)=false∧q2=false):=by
   have hT:=HT.out;rcases q2 with _|_
   ·have h:x.tn=1∨x.tn=2∨x.tn=0∨(x.tn≠1∧x.tn≠2∧x.tn≠0):=DL;rcases h with h|h|h|h<;>simp[h]at hT⊢
   ·have h:x.tn=1∨x.tn=2∨x.tn=0∨(x.tn≠1∧x.tn≠2∧x.tn≠0):=DL;rcases h with h|h|h|h<;>simp[h]at hT⊢
  rcases hcs with⟨t1,t2,t0,tz,rfl⟩|⟨t1,t2,t0,tz,rfl⟩|⟨t1,t2,t0,tz,rfl⟩
  all_goals(
   have hc3:_=some (Value.int .u8 x.tn):=hM.cell (i:=3) Lk.head;go_quiet ((go_at_call 177;exact YD (HA2 _)));go_wp2_with fail;go_meet
   exact⟨rfl,(by first|exact hM|exact jW hM|exact yp hM _)⟩)
 case rest=>
 clear hM;obtain⟨rfl,hM⟩:=hcut;go_upto_region 12 with(first|refine qg ?_|refine DG (US _) ?_|refine DG (HA0 _) ?_|refine DG (HA1 _) ?_|refine DG (HA2 _) ?_|refine DG (HA3 _) ?_|refine DG (HA4 _) ?_|refine DG (HA5 _) ?_|refine DG (HA6 _) ?_|refine DG (HA7 _) ?_|refine DG (HAa _) ?_|(go_at_call 176;(with_reducible refine(C1 _).mono ?_);rintro e W1 ⟨rfl,hq⟩;replace hM:=zj hM hq;clear hq)|(go_at_call 176;(with_reducible refine(C2 _).mono ?_);rintro e W1 ⟨rfl,hq⟩;replace hM:=zj hM hq;clear hq)|refine DG (C5 _) ?_|refine DG (C6 _) ?_|refine DG (C7 _) ?_|refine DG (C8 _) ?_);go_cut [58] (fun s wx=>∃b,s= .bool b∧Hid (b=(x.ov&& !q3))∧qU w wx [(gx,x.leg,44)])
 case first=>
  go_wp2_with(first|refine qg ?_|refine DG (US _) ?_|refine DG (HA0 _) ?_|refine DG (HA1 _) ?_|refine DG (HA2 _) ?_|refine DG (HA3 _) ?_|refine DG (HA4 _) ?_|refine DG (HA5 _) ?_|refine DG (HA6 _) ?_|refine DG (HA7 _) ?_|refine DG (HAa _) ?_|(go_at_call 176;(with_reducible refine(C1 _).mono ?_);rintro e W1 ⟨rfl,hq⟩;replace hM:=zj hM hq;clear hq)|(go_at_call 176;(with_reducible refine(C2 _).mono ?_);rintro e W1 ⟨rfl,hq⟩;replace hM:=zj hM hq;clear hq)|refine DG (C5 _) ?_|refine DG (C6 _) ?_|refine DG (C7 _) ?_|refine DG (C8 _) ?_)
  all_goals
   go_meet;exact⟨_,rfl,hide (by(first|rfl|exact(decide_eq_true DL).symm|exact(decide_eq_false DL).symm|exact decide_eq_decide.2 DL|(rw[Bool.eq_iff_iff];simp only[Bool.or_eq_true,Bool.and_eq_true,beq_iff_eq,bne_iff_ne,ne_eq,decide_eq_true_eq,Bool.not_eq_true'];omega)|(simp[*];done))),hM⟩
 case rest=>
 clear hM;obtain⟨b12,rfl,hb12,hM⟩:=hcut;go_upto_region 14 with(fail)
 all_goals first
  |(go_ret;exact⟨qI (eu h1 h2 (by rw[He1.out];assumption) (by rw[He2.out];assumption) (by rw[HQ2.out];exact HT.out) (by rw[HQ3.out,←hb12.out];assumption)).symm,hM.below⟩;done)
  |skip
 go_cut [6] (fun s wx=>s=Iv e5∧qU w wx [(gx,x.leg,44)])
 case first=>
  refine jD hM DN ?_;(clear hM;intro W hM hK);refine kP 0 hM hK ?_;refine qu ?_
  first|refine kL 1 hM hK ?_|refine kM 1 hM hK ?_
  refine qu ?_;refine kP 2 hM hK ?_;refine qu ?_;refine zt (i:=3) (zF rfl) DN rfl (fun K' hK'=> ?_);go_wp2_with(first|refine DG (HA4 _) ?_|refine DG (C5 _) ?_);refine hK'.out _ _ (qW hM hK) ?_;clear hK' K';refine qu ?_;refine zt (i:=4) (zF rfl) DN rfl (fun K' hK'=> ?_);go_wp2_with(first|refine DG (HA4 _) ?_|refine DG (C5 _) ?_);refine hK'.out _ _ (qW hM hK) ?_;clear hK' K';refine qu ?_;refine kP 5 hM hK ?_;refine qu ?_;refine qF DN ?_;go_wp2_with fail;go_meet;exact⟨rfl,hM⟩
 case rest=>
 clear hM;obtain⟨rfl,hM⟩:=hcut;go_upto_region 17 with(fail)
 all_goals first
  |(go_ret;exact⟨qI ((eB h1 h2 (by rw[He1.out];assumption) (by rw[He2.out];assumption) (by rw[HQ2.out];exact HT.out) (by rw[HQ3.out,←hb12.out];assumption) (by rw[He5.out];assumption)).trans He5.out).symm,hM.below⟩;done)
  |skip
 go_cut [7] (fun s wx=>s=Iv e6∧qU w wx [(gx,x.leg,44)])
 case first=>
  refine jD hM DN ?_;(clear hM;intro W hM hK);refine kP 0 hM hK ?_;refine qu ?_
  first|refine kL 1 hM hK ?_|refine kM 1 hM hK ?_
  refine qu ?_;refine kP 2 hM hK ?_;refine qu ?_;refine zt (i:=3) (zF rfl) DN rfl (fun K' hK'=> ?_);go_wp2_with(first|refine DG (HA5 _) ?_|refine DG (C6 _) ?_);refine hK'.out _ _ (qW hM hK) ?_;clear hK' K';refine qu ?_;refine zt (i:=4) (zF rfl) DN rfl (fun K' hK'=> ?_);go_wp2_with(first|refine DG (HA5 _) ?_|refine DG (C6 _) ?_);refine hK'.out _ _ (qW hM hK) ?_;clear hK' K';refine qu ?_;refine kP 5 hM hK ?_;refine qu ?_;refine qF DN ?_;go_wp2_with fail;go_meet;exact⟨rfl,hM⟩
 case rest=>
 clear hM;obtain⟨rfl,hM⟩:=hcut;go_upto_region 20 with(fail)
 all_goals first
  |(go_ret;exact⟨qI ((eD h1 h2 (by rw[He1.out];assumption) (by rw[He2.out];assumption) (by rw[HQ2.out];exact HT.out) (by rw[HQ3.out,←hb12.out];assumption) (by rw[He5.out];assumption) (by rw[He6.out];assumption)).trans He6.out).symm,hM.below⟩;done)
  |skip
 go_cut [8] (fun s wx=>s=Iv e7∧qU w wx [(gx,x.leg,44)])
 case first=>
  refine jD hM DN ?_;(clear hM;intro W hM hK);refine kP 0 hM hK ?_;refine qu ?_
  first|refine kL 1 hM hK ?_|refine kM 1 hM hK ?_
  refine qu ?_;refine kP 2 hM hK ?_;refine qu ?_;refine zt (i:=3) (zF rfl) DN rfl (fun K' hK'=> ?_);go_wp2_with(first|refine DG (HA6 _) ?_|refine DG (C7 _) ?_);refine hK'.out _ _ (qW hM hK) ?_;clear hK' K';refine qu ?_;refine zt (i:=4) (zF rfl) DN rfl (fun K' hK'=> ?_);go_wp2_with(first|refine DG (HA6 _) ?_|refine DG (C7 _) ?_);refine hK'.out _ _ (qW hM hK) ?_;clear hK' K';refine qu ?_;refine kP 5 hM hK ?_;refine qu ?_;refine qF DN ?_;go_wp2_with fail;go_meet;exact⟨rfl,hM⟩
 case rest=>
 clear hM;obtain⟨rfl,hM⟩:=hcut;go_upto_region 23 with(fail)
 all_goals first
  |(go_ret;exact⟨qI ((eE h1 h2 (by rw[He1.out];assumption) (by rw[He2.out];assumption) (by rw[HQ2.out];exact HT.out) (by rw[HQ3.out,←hb12.out];assumption) (by rw[He5.out];assumption) (by rw[He6.out];assumption) (by rw[He7.out];assumption)).trans He7.out).symm,hM.below⟩;done)
  |skip
 go_cut [9] (fun s wx=>s=Iv e8∧qU w wx [(gx,x.leg,44)])
 case first=>
  refine jD hM DN ?_;(clear hM;intro W hM hK);refine kP 0 hM hK ?_;refine qu ?_
  first|refine kL 1 hM hK ?_|refine kM 1 hM hK ?_
  refine qu ?_;refine kP 2 hM hK ?_;refine qu ?_;refine zt (i:=3) (zF rfl) DN rfl (fun K' hK'=> ?_);go_wp2_with(first|refine DG (HA7 _) ?_|refine DG (C8 _) ?_);refine hK'.out _ _ (qW hM hK) ?_;clear hK' K';refine qu ?_;refine zt (i:=4) (zF rfl) DN rfl (fun K' hK'=> ?_);go_wp2_with(first|refine DG (HA7 _) ?_|refine DG (C8 _) ?_);refine hK'.out _ _ (qW hM hK) ?_;clear hK' K';refine qu ?_;refine kP 5 hM hK ?_;refine qu ?_;refine qF DN ?_;go_wp2_with fail;go_meet;exact⟨rfl,hM⟩
 case rest=>
 clear hM;obtain⟨rfl,hM⟩:=hcut;go_upto_region 26 with(first|refine qg ?_|refine DG (US _) ?_|refine DG (HA0 _) ?_|refine DG (HA1 _) ?_|refine DG (HA2 _) ?_|refine DG (HA3 _) ?_|refine DG (HA4 _) ?_|refine DG (HA5 _) ?_|refine DG (HA6 _) ?_|refine DG (HA7 _) ?_|refine DG (HAa _) ?_|(go_at_call 176;(with_reducible refine(C1 _).mono ?_);rintro e W1 ⟨rfl,hq⟩;replace hM:=zj hM hq;clear hq)|(go_at_call 176;(with_reducible refine(C2 _).mono ?_);rintro e W1 ⟨rfl,hq⟩;replace hM:=zj hM hq;clear hq)|refine DG (C5 _) ?_|refine DG (C6 _) ?_|refine DG (C7 _) ?_|refine DG (C8 _) ?_)
 all_goals first
  |(go_ret;exact⟨qI ((eF h1 h2 (by rw[He1.out];assumption) (by rw[He2.out];assumption) (by rw[HQ2.out];exact HT.out) (by rw[HQ3.out,←hb12.out];assumption) (by rw[He5.out];assumption) (by rw[He6.out];assumption) (by rw[He7.out];assumption) (by rw[He8.out];assumption)).trans He8.out).symm,hM.below⟩;done)
  |skip
 go_cut [119] (fun s wx=>∃b,s= .bool b∧Hid (b=(decide (x.lo< -200000∨x.lo>x.hi∨x.hi>6000000)||(qa&&decide (x.lo= -200000))))∧qU w wx [(gx,x.leg,44)])
 case first=>
  go_wp2_with(first|refine qg ?_|refine DG (US _) ?_|refine DG (HA0 _) ?_|refine DG (HA1 _) ?_|refine DG (HA2 _) ?_|refine DG (HA3 _) ?_|refine DG (HA4 _) ?_|refine DG (HA5 _) ?_|refine DG (HA6 _) ?_|refine DG (HA7 _) ?_|refine DG (HAa _) ?_|(go_at_call 176;(with_reducible refine(C1 _).mono ?_);rintro e W1 ⟨rfl,hq⟩;replace hM:=zj hM hq;clear hq)|(go_at_call 176;(with_reducible refine(C2 _).mono ?_);rintro e W1 ⟨rfl,hq⟩;replace hM:=zj hM hq;clear hq)|refine DG (C5 _) ?_|refine DG (C6 _) ?_|refine DG (C7 _) ?_|refine DG (C8 _) ?_)
  all_goals
   go_meet;exact⟨_,rfl,hide (by first|rfl|(rw[Bool.eq_iff_iff];simp only[Bool.or_eq_true,Bool.and_eq_true,beq_iff_eq,decide_eq_true_eq];first|omega|(simp_all;done)|(simp_all;omega))|(simp_all;done)|(simp_all;omega)),hM⟩
 case rest=>
 clear hM;obtain⟨b26,rfl,hb26,hM⟩:=hcut;go_upto_region 28 with(first|refine qg ?_|refine DG (US _) ?_|refine DG (HA0 _) ?_|refine DG (HA1 _) ?_|refine DG (HA2 _) ?_|refine DG (HA3 _) ?_|refine DG (HA4 _) ?_|refine DG (HA5 _) ?_|refine DG (HA6 _) ?_|refine DG (HA7 _) ?_|refine DG (HAa _) ?_|(go_at_call 176;(with_reducible refine(C1 _).mono ?_);rintro e W1 ⟨rfl,hq⟩;replace hM:=zj hM hq;clear hq)|(go_at_call 176;(with_reducible refine(C2 _).mono ?_);rintro e W1 ⟨rfl,hq⟩;replace hM:=zj hM hq;clear hq)|refine DG (C5 _) ?_|refine DG (C6 _) ?_|refine DG (C7 _) ?_|refine DG (C8 _) ?_)
 all_goals first
  |(go_ret;exact⟨qI ((Yn h1 h2 (by rw[He1.out];assumption) (by rw[He2.out];assumption) (by rw[HQ2.out];exact HT.out) (by rw[HQ3.out,←hb12.out];assumption) (by rw[He5.out];assumption) (by rw[He6.out];assumption) (by rw[He7.out];assumption) (by rw[He8.out];assumption)).trans (rN HQa.out (hb26.out.symm.trans (show b26=true by assumption)))).symm,hM.below⟩;done)
  |skip
 go_cut [119,137] (fun s119 s wx=>∃b,s= .bool b∧Hid (b=(decide (x.spd<0∨x.spd>1000∨x.rnp<0∨x.rnp>120000)))∧qU w wx [(gx,x.leg,44)])
 case first=>
  go_wp2_with(first|refine qg ?_|refine DG (US _) ?_|refine DG (HA0 _) ?_|refine DG (HA1 _) ?_|refine DG (HA2 _) ?_|refine DG (HA3 _) ?_|refine DG (HA4 _) ?_|refine DG (HA5 _) ?_|refine DG (HA6 _) ?_|refine DG (HA7 _) ?_|refine DG (HAa _) ?_|(go_at_call 176;(with_reducible refine(C1 _).mono ?_);rintro e W1 ⟨rfl,hq⟩;replace hM:=zj hM hq;clear hq)|(go_at_call 176;(with_reducible refine(C2 _).mono ?_);rintro e W1 ⟨rfl,hq⟩;replace hM:=zj hM hq;clear hq)|refine DG (C5 _) ?_|refine DG (C6 _) ?_|refine DG (C7 _) ?_|refine DG (C8 _) ?_)
  all_goals
   go_meet;exact⟨_,rfl,hide (by(first|rfl|exact(decide_eq_true DL).symm|exact(decide_eq_false DL).symm|exact decide_eq_decide.2 DL|(rw[Bool.eq_iff_iff];simp only[Bool.or_eq_true,Bool.and_eq_true,beq_iff_eq,bne_iff_ne,ne_eq,decide_eq_true_eq,Bool.not_eq_true'];omega)|(simp[*];done))),hM⟩
 case rest=>
 clear hM;obtain⟨b28,rfl,hb28,hM⟩:=hcut;go_wp2_with(first|refine qg ?_|refine DG (US _) ?_|refine DG (HA0 _) ?_|refine DG (HA1 _) ?_|refine DG (HA2 _) ?_|refine DG (HA3 _) ?_|refine DG (HA4 _) ?_|refine DG (HA5 _) ?_|refine DG (HA6 _) ?_|refine DG (HA7 _) ?_|refine DG (HAa _) ?_|(go_at_call 176;(with_reducible refine(C1 _).mono ?_);rintro e W1 ⟨rfl,hq⟩;replace hM:=zj hM hq;clear hq)|(go_at_call 176;(with_reducible refine(C2 _).mono ?_);rintro e W1 ⟨rfl,hq⟩;replace hM:=zj hM hq;clear hq)|refine DG (C5 _) ?_|refine DG (C6 _) ?_|refine DG (C7 _) ?_|refine DG (C8 _) ?_)
 all_goals first
  |(go_ret;exact⟨qI ((Yn h1 h2 (by rw[He1.out];assumption) (by rw[He2.out];assumption) (by rw[HQ2.out];exact HT.out) (by rw[HQ3.out,←hb12.out];assumption) (by rw[He5.out];assumption) (by rw[He6.out];assumption) (by rw[He7.out];assumption) (by rw[He8.out];assumption)).trans (rO HQa.out (hb26.out.symm.trans (show b26=false by assumption)) (hb28.out.symm.trans (show b28=true by assumption)))).symm,hM.below⟩)
  |(go_ret;exact⟨qI ((Yn h1 h2 (by rw[He1.out];assumption) (by rw[He2.out];assumption) (by rw[HQ2.out];exact HT.out) (by rw[HQ3.out,←hb12.out];assumption) (by rw[He5.out];assumption) (by rw[He6.out];assumption) (by rw[He7.out];assumption) (by rw[He8.out];assumption)).trans (rP HQa.out (hb26.out.symm.trans (show b26=false by assumption)) (hb28.out.symm.trans (show b28=false by assumption)))).symm,hM.below⟩)
theorem zR(x:En)(hx:rT x)(w:World):
 Calls Tryz.prog 110 #[.agg x.leg.toArray] w fun e w'=>e= .returned (Iv (zU x))∧Below w.heap.size w w':=by
 by_cases hk:x.ty<1∨17<x.ty
 ·have HR:Hid (zU x=17):=hide (by unfold zU;rw[if_pos DL]);have US:=fun W=>xY x.ty W
  rw[ZI hk]at US;clear hk;have hM:=qE w;go_enter Tryz.func110,Tryz.ntmps110;go_wp2_with(first|(refine DU ?_;clear hM;intro g W hM)|refine DG (US _) ?_)
  all_goals
   go_ret;exact⟨qI HR.out.symm,hM.below⟩
 ·rcases hV:(if qZ x.ty 2 then decide (x.tn=1)||decide (x.tn=2)else decide (x.tn=0))with _|_
  ·exact Gk x hx DL DL hV w
  ·exact UW x hx DL DL hV w
end Go.Proofs.YtcgpbnlhnafhjaaGreatDoor
