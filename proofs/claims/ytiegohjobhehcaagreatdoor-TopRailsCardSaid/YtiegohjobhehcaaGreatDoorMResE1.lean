/-
  Resolve on legs of some types.
-/
import Derived.Test.YtiegohjobhehcaaGreatDoorMResA
import Derived.Test.YtiegohjobhehcaaGreatDoorMResD
set_option maxRecDepth 100000
set_option maxHeartbeats 16000000
namespace Go.Proofs.YtiegohjobhehcaaGreatDoor
open Go.RowKit
set_option linter.unusedVariables false
set_option linter.unusedSimpArgs false
theorem zMResE11{P:Prop}(h:P:=by refine' jo ?_ ?_;rotate_left 1;(·exact HT.out.trans uP);(·rfl)):P:=h
theorem zMResE10{P:Prop}(h:P:=by refine' jo ?_ ?_;rotate_left 1;(·exact HT.out);(·first|rfl|(unfold vE;rw[HK.out];rfl))):P:=h
theorem pY(fx fy c alt:Int)(x y:En)(spd bank oalt gr:Int)(hx:xI x)(hy:xI y)(w:World)(hu:Hid (yE w))(hG:x.gap=false)(hO:kJ spd bank oalt gr=0)(hL:jW x=0)(v1:qw fx fy=true)(v2:qw x.ex x.ey=true)(v3:qw x.mx x.my=true)(hcr:0≤c∧c<129600000)(ha1: -200000≤alt)(ha2:alt≤6000000)(hk:x.ty=1):
 Calls Tryz.prog 34 #[.agg #[Iv fx,Iv fy],Iv c,Iv alt,.agg x.cells.toArray,.agg y.cells.toArray,.agg #[Iv spd,Iv bank,Iv oalt,Iv gr]] w fun e w'=>e= .returned (.tuple #[.agg (qB fx fy c alt x y spd bank oalt gr).1.cells.toArray,Iv (qB fx fy c alt x y spd bank oalt gr).2])∧Below w.heap.size w w':=by
 have HT:Hid (qB fx fy c alt x y spd bank oalt gr=(zF x.ex x.ey x.ex x.ey c,0)):=hide (by
  unfold qB;rw[if_neg (by rw[hO];simp),if_neg (by rw[hG];simp),if_neg (by rw[hL];simp),if_neg (by rw[v1,v2,v3];simp),if_neg qg];unfold uT
  rw[if_pos (show x.ty=1 by omega)])
 have CH:=fun W=>yg spd bank oalt gr W
 have LC:=fun W hW=>jf x hx.leg W hW
 rw[hO]at CH;rw[hL]at LC;obtain⟨_,_,_,hg1,hg2⟩:=ku hO;have hq:=kr hL;have P1:=fun W=>qE fx fy W
 rw[v1]at P1;have P2:=fun W=>qE x.ex x.ey W
 rw[v2]at P2;have P3:=fun W=>qE x.mx x.my W
 rw[v3]at P3;have RC:=fun W=>zS c W
 rw[decide_eq_true (show 0≤c∧c<129600000 by omega)]at RC;obtain⟨⟨k1,k2⟩,⟨k3,k4⟩,⟨k5,k6⟩,⟨k7,k8⟩,⟨k9,k10⟩,⟨k11,k12,k13⟩,hturn0⟩:=hq;obtain⟨q1,q2,q3,q4,q5,q6,q7,q8,q9,q10,q11,q12,q13,q14,q15,q16,q17⟩:=Lr hk;have HK:=hide hk;have HG:=hide hG;clear hO hL v1 v2 v3 hturn0 hk hG;have hM:=qo w;go_enter Tryz.func34,Tryz.ntmps34;go_wp2_with(first|(refine qe ?_;clear hM;intro g W hM)|(go_at_call 30;refine cb hM (CH _) ?_;clear hM;intro W1 hM)|(go_at_call 81;(refine(LC _ (hide (qP hM hu.out))).mono ?_);rintro e W1 ⟨rfl,hb⟩;replace hM:=qD hM hb;clear hb)|(refine qt (P1 _) ?_;clear hM;intro W1 hM)|(refine qt (P2 _) ?_;clear hM;intro W1 hM)|(refine qt (P3 _) ?_;clear hM;intro W1 hM)|refine qN (RC _) ?_|(go_at_call 33;refine(kU _ _ _ _ _ _).mono ?_;rintro e W1 ⟨rfl,hb⟩;replace hM:=qD hM hb;clear hb))
 all_goals first
  |(exact absurd (show x.gap=true by assumption) (by rw[HG.out];simp))
  |(exact absurd hG (show¬x.gap=true by assumption))
  |(refine' qU hM rfl rfl Tryz.isAgg91 Tryz.sizeOf91 rfl rfl ?_ ?_ ⟨?_,hM.below⟩;rotate_left 2;(·repeat constructor);(·rfl);(·exact zMResE10))
theorem pZ(fx fy c alt:Int)(x y:En)(spd bank oalt gr:Int)(hx:xI x)(hy:xI y)(w:World)(hu:Hid (yE w))(hG:x.gap=false)(hO:kJ spd bank oalt gr=0)(hL:jW x=0)(v1:qw fx fy=true)(v2:qw x.ex x.ey=true)(v3:qw x.mx x.my=true)(hcr:0≤c∧c<129600000)(ha1: -200000≤alt)(ha2:alt≤6000000)(hk:x.ty=2):
 Calls Tryz.prog 34 #[.agg #[Iv fx,Iv fy],Iv c,Iv alt,.agg x.cells.toArray,.agg y.cells.toArray,.agg #[Iv spd,Iv bank,Iv oalt,Iv gr]] w fun e w'=>e= .returned (.tuple #[.agg (qB fx fy c alt x y spd bank oalt gr).1.cells.toArray,Iv (qB fx fy c alt x y spd bank oalt gr).2])∧Below w.heap.size w w':=by
 have HT:Hid (qB fx fy c alt x y spd bank oalt gr=(zF fx fy x.ex x.ey c,0)):=hide (by
  unfold qB;rw[if_neg (by rw[hO];simp),if_neg (by rw[hG];simp),if_neg (by rw[hL];simp),if_neg (by rw[v1,v2,v3];simp),if_neg qg];unfold uT
  rw[if_neg (show¬(x.ty=1) by omega),if_pos (show x.ty=2∨x.ty=4 by omega)])
 have CH:=fun W=>yg spd bank oalt gr W
 have LC:=fun W hW=>jf x hx.leg W hW
 rw[hO]at CH;rw[hL]at LC;obtain⟨_,_,_,hg1,hg2⟩:=ku hO;have hq:=kr hL;have P1:=fun W=>qE fx fy W
 rw[v1]at P1;have P2:=fun W=>qE x.ex x.ey W
 rw[v2]at P2;have P3:=fun W=>qE x.mx x.my W
 rw[v3]at P3;have RC:=fun W=>zS c W
 rw[decide_eq_true (show 0≤c∧c<129600000 by omega)]at RC;obtain⟨⟨k1,k2⟩,⟨k3,k4⟩,⟨k5,k6⟩,⟨k7,k8⟩,⟨k9,k10⟩,⟨k11,k12,k13⟩,hturn0⟩:=hq;obtain⟨q1,q2,q3,q4,q5,q6,q7,q8,q9,q10,q11,q12,q13,q14,q15,q16,q17⟩:=Ls hk;have HK:=hide hk;have HG:=hide hG;clear hO hL v1 v2 v3 hturn0 hk hG;have hM:=qo w;go_enter Tryz.func34,Tryz.ntmps34;go_wp2_with(first|(refine qe ?_;clear hM;intro g W hM)|(go_at_call 30;refine cb hM (CH _) ?_;clear hM;intro W1 hM)|(go_at_call 81;(refine(LC _ (hide (qP hM hu.out))).mono ?_);rintro e W1 ⟨rfl,hb⟩;replace hM:=qD hM hb;clear hb)|(refine qt (P1 _) ?_;clear hM;intro W1 hM)|(refine qt (P2 _) ?_;clear hM;intro W1 hM)|(refine qt (P3 _) ?_;clear hM;intro W1 hM)|refine qN (RC _) ?_|(go_at_call 33;refine(kU _ _ _ _ _ _).mono ?_;rintro e W1 ⟨rfl,hb⟩;replace hM:=qD hM hb;clear hb))
 all_goals first
  |(exact absurd (show x.gap=true by assumption) (by rw[HG.out];simp))
  |(exact absurd hG (show¬x.gap=true by assumption))
  |(refine' qU hM rfl rfl Tryz.isAgg91 Tryz.sizeOf91 rfl rfl ?_ ?_ ⟨?_,hM.below⟩;rotate_left 2;(·repeat constructor);(·rfl);(·exact zMResE10))
theorem ng(fx fy c alt:Int)(x y:En)(spd bank oalt gr:Int)(hx:xI x)(hy:xI y)(w:World)(hu:Hid (yE w))(hG:x.gap=false)(hO:kJ spd bank oalt gr=0)(hL:jW x=0)(v1:qw fx fy=true)(v2:qw x.ex x.ey=true)(v3:qw x.mx x.my=true)(hcr:0≤c∧c<129600000)(ha1: -200000≤alt)(ha2:alt≤6000000)(hk:x.ty=4):
 Calls Tryz.prog 34 #[.agg #[Iv fx,Iv fy],Iv c,Iv alt,.agg x.cells.toArray,.agg y.cells.toArray,.agg #[Iv spd,Iv bank,Iv oalt,Iv gr]] w fun e w'=>e= .returned (.tuple #[.agg (qB fx fy c alt x y spd bank oalt gr).1.cells.toArray,Iv (qB fx fy c alt x y spd bank oalt gr).2])∧Below w.heap.size w w':=by
 have HT:Hid (qB fx fy c alt x y spd bank oalt gr=(zF fx fy x.ex x.ey c,0)):=hide (by
  unfold qB;rw[if_neg (by rw[hO];simp),if_neg (by rw[hG];simp),if_neg (by rw[hL];simp),if_neg (by rw[v1,v2,v3];simp),if_neg qg];unfold uT
  rw[if_neg (show¬(x.ty=1) by omega),if_pos (show x.ty=2∨x.ty=4 by omega)])
 have CH:=fun W=>yg spd bank oalt gr W
 have LC:=fun W hW=>jf x hx.leg W hW
 rw[hO]at CH;rw[hL]at LC;obtain⟨_,_,_,hg1,hg2⟩:=ku hO;have hq:=kr hL;have P1:=fun W=>qE fx fy W
 rw[v1]at P1;have P2:=fun W=>qE x.ex x.ey W
 rw[v2]at P2;have P3:=fun W=>qE x.mx x.my W
 rw[v3]at P3;have RC:=fun W=>zS c W
 rw[decide_eq_true (show 0≤c∧c<129600000 by omega)]at RC;obtain⟨⟨k1,k2⟩,⟨k3,k4⟩,⟨k5,k6⟩,⟨k7,k8⟩,⟨k9,k10⟩,⟨k11,k12,k13⟩,hturn0⟩:=hq;obtain⟨q1,q2,q3,q4,q5,q6,q7,q8,q9,q10,q11,q12,q13,q14,q15,q16,q17⟩:=Lu hk;have HK:=hide hk;have HG:=hide hG;clear hO hL v1 v2 v3 hturn0 hk hG;have hM:=qo w;go_enter Tryz.func34,Tryz.ntmps34;go_wp2_with(first|(refine qe ?_;clear hM;intro g W hM)|(go_at_call 30;refine cb hM (CH _) ?_;clear hM;intro W1 hM)|(go_at_call 81;(refine(LC _ (hide (qP hM hu.out))).mono ?_);rintro e W1 ⟨rfl,hb⟩;replace hM:=qD hM hb;clear hb)|(refine qt (P1 _) ?_;clear hM;intro W1 hM)|(refine qt (P2 _) ?_;clear hM;intro W1 hM)|(refine qt (P3 _) ?_;clear hM;intro W1 hM)|refine qN (RC _) ?_|(go_at_call 33;refine(kU _ _ _ _ _ _).mono ?_;rintro e W1 ⟨rfl,hb⟩;replace hM:=qD hM hb;clear hb))
 all_goals first
  |(exact absurd (show x.gap=true by assumption) (by rw[HG.out];simp))
  |(exact absurd hG (show¬x.gap=true by assumption))
  |(refine' qU hM rfl rfl Tryz.isAgg91 Tryz.sizeOf91 rfl rfl ?_ ?_ ⟨?_,hM.below⟩;rotate_left 2;(·repeat constructor);(·rfl);(·exact zMResE10))
theorem nn(fx fy c alt:Int)(x y:En)(spd bank oalt gr:Int)(hx:xI x)(hy:xI y)(w:World)(hu:Hid (yE w))(hG:x.gap=false)(hO:kJ spd bank oalt gr=0)(hL:jW x=0)(v1:qw fx fy=true)(v2:qw x.ex x.ey=true)(v3:qw x.mx x.my=true)(hcr:0≤c∧c<129600000)(ha1: -200000≤alt)(ha2:alt≤6000000)(hk:x.ty=3):
 Calls Tryz.prog 34 #[.agg #[Iv fx,Iv fy],Iv c,Iv alt,.agg x.cells.toArray,.agg y.cells.toArray,.agg #[Iv spd,Iv bank,Iv oalt,Iv gr]] w fun e w'=>e= .returned (.tuple #[.agg (qB fx fy c alt x y spd bank oalt gr).1.cells.toArray,Iv (qB fx fy c alt x y spd bank oalt gr).2])∧Below w.heap.size w w':=by
 have HT:Hid (qB fx fy c alt x y spd bank oalt gr=ux fx fy c x):=hide (by
  unfold qB;rw[if_neg (by rw[hO];simp),if_neg (by rw[hG];simp),if_neg (by rw[hL];simp),if_neg (by rw[v1,v2,v3];simp),if_neg qg];unfold uT
  rw[if_neg (show¬(x.ty=1) by omega),if_neg (show¬(x.ty=2∨x.ty=4) by omega),if_pos (show x.ty=3 by omega)])
 have CH:=fun W=>yg spd bank oalt gr W
 have LC:=fun W hW=>jf x hx.leg W hW
 rw[hO]at CH;rw[hL]at LC;obtain⟨_,_,_,hg1,hg2⟩:=ku hO;have hq:=kr hL;have P1:=fun W=>qE fx fy W
 rw[v1]at P1;have P2:=fun W=>qE x.ex x.ey W
 rw[v2]at P2;have P3:=fun W=>qE x.mx x.my W
 rw[v3]at P3;have RC:=fun W=>zS c W
 rw[decide_eq_true (show 0≤c∧c<129600000 by omega)]at RC;obtain⟨⟨k1,k2⟩,⟨k3,k4⟩,⟨k5,k6⟩,⟨k7,k8⟩,⟨k9,k10⟩,⟨k11,k12,k13⟩,hturn0⟩:=hq;obtain⟨q1,q2,q3,q4,q5,q6,q7,q8,q9,q10,q11,q12,q13,q14,q15,q16,q17⟩:=Lt hk;have XC:=fun W=>si fx fy c x k3 k4 W
 simp only[En.cells,hG]at XC;have HK:=hide hk;have HG:=hide hG;clear hO hL v1 v2 v3 hturn0 hk hG;have hM:=qo w;go_enter Tryz.func34,Tryz.ntmps34;go_wp2_with(first|(refine qe ?_;clear hM;intro g W hM)|(go_at_call 30;refine cb hM (CH _) ?_;clear hM;intro W1 hM)|(go_at_call 81;(refine(LC _ (hide (qP hM hu.out))).mono ?_);rintro e W1 ⟨rfl,hb⟩;replace hM:=qD hM hb;clear hb)|(refine qt (P1 _) ?_;clear hM;intro W1 hM)|(refine qt (P2 _) ?_;clear hM;intro W1 hM)|(refine qt (P3 _) ?_;clear hM;intro W1 hM)|refine qN (RC _) ?_|(refine qt (XC _) ?_;clear hM;intro W1 hM))
 all_goals first
  |(exact absurd (show x.gap=true by assumption) (by rw[HG.out];simp))
  |(exact absurd hG (show¬x.gap=true by assumption))
  |(refine' qU hM rfl rfl Tryz.isAgg91 Tryz.sizeOf91 rfl rfl ?_ ?_ ⟨?_,hM.below⟩;rotate_left 2;(·repeat constructor);(·rfl);(·exact zMResE11))
theorem nu(fx fy c alt:Int)(x y:En)(spd bank oalt gr:Int)(hx:xI x)(hy:xI y)(w:World)(hu:Hid (yE w))(hG:x.gap=false)(hO:kJ spd bank oalt gr=0)(hL:jW x=0)(v1:qw fx fy=true)(v2:qw x.ex x.ey=true)(v3:qw x.mx x.my=true)(hcr:0≤c∧c<129600000)(ha1: -200000≤alt)(ha2:alt≤6000000)(hk:x.ty=5):
 Calls Tryz.prog 34 #[.agg #[Iv fx,Iv fy],Iv c,Iv alt,.agg x.cells.toArray,.agg y.cells.toArray,.agg #[Iv spd,Iv bank,Iv oalt,Iv gr]] w fun e w'=>e= .returned (.tuple #[.agg (qB fx fy c alt x y spd bank oalt gr).1.cells.toArray,Iv (qB fx fy c alt x y spd bank oalt gr).2])∧Below w.heap.size w w':=by
 have HT:Hid (qB fx fy c alt x y spd bank oalt gr=vA fx fy x):=hide (by
  unfold qB;rw[if_neg (by rw[hO];simp),if_neg (by rw[hG];simp),if_neg (by rw[hL];simp),if_neg (by rw[v1,v2,v3];simp),if_neg qg];unfold uT
  rw[if_neg (show¬(x.ty=1) by omega),if_neg (show¬(x.ty=2∨x.ty=4) by omega),if_neg (show¬(x.ty=3) by omega),if_pos (show x.ty=5∨x.ty=6 by omega)])
 have CH:=fun W=>yg spd bank oalt gr W
 have LC:=fun W hW=>jf x hx.leg W hW
 rw[hO]at CH;rw[hL]at LC;obtain⟨_,_,_,hg1,hg2⟩:=ku hO;have hq:=kr hL;have P1:=fun W=>qE fx fy W
 rw[v1]at P1;have P2:=fun W=>qE x.ex x.ey W
 rw[v2]at P2;have P3:=fun W=>qE x.mx x.my W
 rw[v3]at P3;have RC:=fun W=>zS c W
 rw[decide_eq_true (show 0≤c∧c<129600000 by omega)]at RC;obtain⟨⟨k1,k2⟩,⟨k3,k4⟩,⟨k5,k6⟩,⟨k7,k8⟩,⟨k9,k10⟩,⟨k11,k12,k13⟩,hturn0⟩:=hq;have hturn:x.tn=1∨x.tn=2:=hturn0 (by rw[hk];rfl);obtain⟨q1,q2,q3,q4,q5,q6,q7,q8,q9,q10,q11,q12,q13,q14,q15,q16,q17⟩:=Lv hk;have XC:=fun W=>Kk fx fy x hturn k7 k8 W
 simp only[En.cells,hG]at XC;have HK:=hide hk;have HG:=hide hG;clear hO hL v1 v2 v3 hturn0 hk hG;have hM:=qo w;go_enter Tryz.func34,Tryz.ntmps34;go_wp2_with(first|(refine qe ?_;clear hM;intro g W hM)|(go_at_call 30;refine cb hM (CH _) ?_;clear hM;intro W1 hM)|(go_at_call 81;(refine(LC _ (hide (qP hM hu.out))).mono ?_);rintro e W1 ⟨rfl,hb⟩;replace hM:=qD hM hb;clear hb)|(refine qt (P1 _) ?_;clear hM;intro W1 hM)|(refine qt (P2 _) ?_;clear hM;intro W1 hM)|(refine qt (P3 _) ?_;clear hM;intro W1 hM)|refine qN (RC _) ?_|(refine qt (XC _) ?_;clear hM;intro W1 hM))
 all_goals first
  |(exact absurd (show x.gap=true by assumption) (by rw[HG.out];simp))
  |(exact absurd hG (show¬x.gap=true by assumption))
  |(refine' qU hM rfl rfl Tryz.isAgg91 Tryz.sizeOf91 rfl rfl ?_ ?_ ⟨?_,hM.below⟩;rotate_left 2;(·repeat constructor);(·rfl);(·exact zMResE11))
theorem nA(fx fy c alt:Int)(x y:En)(spd bank oalt gr:Int)(hx:xI x)(hy:xI y)(w:World)(hu:Hid (yE w))(hG:x.gap=false)(hO:kJ spd bank oalt gr=0)(hL:jW x=0)(v1:qw fx fy=true)(v2:qw x.ex x.ey=true)(v3:qw x.mx x.my=true)(hcr:0≤c∧c<129600000)(ha1: -200000≤alt)(ha2:alt≤6000000)(hk:x.ty=6):
 Calls Tryz.prog 34 #[.agg #[Iv fx,Iv fy],Iv c,Iv alt,.agg x.cells.toArray,.agg y.cells.toArray,.agg #[Iv spd,Iv bank,Iv oalt,Iv gr]] w fun e w'=>e= .returned (.tuple #[.agg (qB fx fy c alt x y spd bank oalt gr).1.cells.toArray,Iv (qB fx fy c alt x y spd bank oalt gr).2])∧Below w.heap.size w w':=by
 have HT:Hid (qB fx fy c alt x y spd bank oalt gr=vA fx fy x):=hide (by
  unfold qB;rw[if_neg (by rw[hO];simp),if_neg (by rw[hG];simp),if_neg (by rw[hL];simp),if_neg (by rw[v1,v2,v3];simp),if_neg qg];unfold uT
  rw[if_neg (show¬(x.ty=1) by omega),if_neg (show¬(x.ty=2∨x.ty=4) by omega),if_neg (show¬(x.ty=3) by omega),if_pos (show x.ty=5∨x.ty=6 by omega)])
 have CH:=fun W=>yg spd bank oalt gr W
 have LC:=fun W hW=>jf x hx.leg W hW
 rw[hO]at CH;rw[hL]at LC;obtain⟨_,_,_,hg1,hg2⟩:=ku hO;have hq:=kr hL;have P1:=fun W=>qE fx fy W
 rw[v1]at P1;have P2:=fun W=>qE x.ex x.ey W
 rw[v2]at P2;have P3:=fun W=>qE x.mx x.my W
 rw[v3]at P3;have RC:=fun W=>zS c W
 rw[decide_eq_true (show 0≤c∧c<129600000 by omega)]at RC;obtain⟨⟨k1,k2⟩,⟨k3,k4⟩,⟨k5,k6⟩,⟨k7,k8⟩,⟨k9,k10⟩,⟨k11,k12,k13⟩,hturn0⟩:=hq;have hturn:x.tn=1∨x.tn=2:=hturn0 (by rw[hk];rfl);obtain⟨q1,q2,q3,q4,q5,q6,q7,q8,q9,q10,q11,q12,q13,q14,q15,q16,q17⟩:=Lw hk;have XC:=fun W=>Kk fx fy x hturn k7 k8 W
 simp only[En.cells,hG]at XC;have HK:=hide hk;have HG:=hide hG;clear hO hL v1 v2 v3 hturn0 hk hG;have hM:=qo w;go_enter Tryz.func34,Tryz.ntmps34;go_wp2_with(first|(refine qe ?_;clear hM;intro g W hM)|(go_at_call 30;refine cb hM (CH _) ?_;clear hM;intro W1 hM)|(go_at_call 81;(refine(LC _ (hide (qP hM hu.out))).mono ?_);rintro e W1 ⟨rfl,hb⟩;replace hM:=qD hM hb;clear hb)|(refine qt (P1 _) ?_;clear hM;intro W1 hM)|(refine qt (P2 _) ?_;clear hM;intro W1 hM)|(refine qt (P3 _) ?_;clear hM;intro W1 hM)|refine qN (RC _) ?_|(refine qt (XC _) ?_;clear hM;intro W1 hM))
 all_goals first
  |(exact absurd (show x.gap=true by assumption) (by rw[HG.out];simp))
  |(exact absurd hG (show¬x.gap=true by assumption))
  |(refine' qU hM rfl rfl Tryz.isAgg91 Tryz.sizeOf91 rfl rfl ?_ ?_ ⟨?_,hM.below⟩;rotate_left 2;(·repeat constructor);(·rfl);(·exact zMResE11))
theorem nB(fx fy c alt:Int)(x y:En)(spd bank oalt gr:Int)(hx:xI x)(hy:xI y)(w:World)(hu:Hid (yE w))(hG:x.gap=false)(hO:kJ spd bank oalt gr=0)(hL:jW x=0)(v1:qw fx fy=true)(v2:qw x.ex x.ey=true)(v3:qw x.mx x.my=true)(hcr:0≤c∧c<129600000)(ha1: -200000≤alt)(ha2:alt≤6000000)(hk:x.ty=7):
 Calls Tryz.prog 34 #[.agg #[Iv fx,Iv fy],Iv c,Iv alt,.agg x.cells.toArray,.agg y.cells.toArray,.agg #[Iv spd,Iv bank,Iv oalt,Iv gr]] w fun e w'=>e= .returned (.tuple #[.agg (qB fx fy c alt x y spd bank oalt gr).1.cells.toArray,Iv (qB fx fy c alt x y spd bank oalt gr).2])∧Below w.heap.size w w':=by
 have HT:Hid (qB fx fy c alt x y spd bank oalt gr=kq fx fy alt x gr):=hide (by
  unfold qB;rw[if_neg (by rw[hO];simp),if_neg (by rw[hG];simp),if_neg (by rw[hL];simp),if_neg (by rw[v1,v2,v3];simp),if_neg qg];unfold uT
  rw[if_neg (show¬(x.ty=1) by omega),if_neg (show¬(x.ty=2∨x.ty=4) by omega),if_neg (show¬(x.ty=3) by omega),if_neg (show¬(x.ty=5∨x.ty=6) by omega),if_pos (show x.ty=7 by omega)])
 have CH:=fun W=>yg spd bank oalt gr W
 have LC:=fun W hW=>jf x hx.leg W hW
 rw[hO]at CH;rw[hL]at LC;obtain⟨_,_,_,hg1,hg2⟩:=ku hO;have hq:=kr hL;have P1:=fun W=>qE fx fy W
 rw[v1]at P1;have P2:=fun W=>qE x.ex x.ey W
 rw[v2]at P2;have P3:=fun W=>qE x.mx x.my W
 rw[v3]at P3;have RC:=fun W=>zS c W
 rw[decide_eq_true (show 0≤c∧c<129600000 by omega)]at RC;obtain⟨⟨k1,k2⟩,⟨k3,k4⟩,⟨k5,k6⟩,⟨k7,k8⟩,⟨k9,k10⟩,⟨k11,k12,k13⟩,hturn0⟩:=hq;obtain⟨q1,q2,q3,q4,q5,q6,q7,q8,q9,q10,q11,q12,q13,q14,q15,q16,q17⟩:=Lx hk;have XC:=fun W=>Un fx fy alt x spd bank oalt gr ha1 ha2 k11 qg hg1 hg2 yq W
 simp only[En.cells,hG]at XC;have HK:=hide hk;have HG:=hide hG;clear hO hL v1 v2 v3 hturn0 hk hG;have hM:=qo w;go_enter Tryz.func34,Tryz.ntmps34;go_wp2_with(first|(refine qe ?_;clear hM;intro g W hM)|(go_at_call 30;refine cb hM (CH _) ?_;clear hM;intro W1 hM)|(go_at_call 81;(refine(LC _ (hide (qP hM hu.out))).mono ?_);rintro e W1 ⟨rfl,hb⟩;replace hM:=qD hM hb;clear hb)|(refine qt (P1 _) ?_;clear hM;intro W1 hM)|(refine qt (P2 _) ?_;clear hM;intro W1 hM)|(refine qt (P3 _) ?_;clear hM;intro W1 hM)|refine qN (RC _) ?_|(refine qt (XC _) ?_;clear hM;intro W1 hM))
 all_goals first
  |(exact absurd (show x.gap=true by assumption) (by rw[HG.out];simp))
  |(exact absurd hG (show¬x.gap=true by assumption))
  |(refine' qU hM rfl rfl Tryz.isAgg91 Tryz.sizeOf91 rfl rfl ?_ ?_ ⟨?_,hM.below⟩;rotate_left 2;(·repeat constructor);(·rfl);(·exact zMResE11))
theorem Th(fx fy c alt:Int)(x y:En)(spd bank oalt gr:Int)(hx:xI x)(hy:xI y)(w:World)(hu:Hid (yE w))(hG:x.gap=false)(hO:kJ spd bank oalt gr=0)(hL:jW x=0)(v1:qw fx fy=true)(v2:qw x.ex x.ey=true)(v3:qw x.mx x.my=true)(hcr:0≤c∧c<129600000)(ha1: -200000≤alt)(ha2:alt≤6000000)(hk:x.ty=11):
 Calls Tryz.prog 34 #[.agg #[Iv fx,Iv fy],Iv c,Iv alt,.agg x.cells.toArray,.agg y.cells.toArray,.agg #[Iv spd,Iv bank,Iv oalt,Iv gr]] w fun e w'=>e= .returned (.tuple #[.agg (qB fx fy c alt x y spd bank oalt gr).1.cells.toArray,Iv (qB fx fy c alt x y spd bank oalt gr).2])∧Below w.heap.size w w':=by
 have HT:Hid (qB fx fy c alt x y spd bank oalt gr=kq x.ex x.ey alt x gr):=hide (by
  unfold qB;rw[if_neg (by rw[hO];simp),if_neg (by rw[hG];simp),if_neg (by rw[hL];simp),if_neg (by rw[v1,v2,v3];simp),if_neg qg];unfold uT
  rw[if_neg (show¬(x.ty=1) by omega),if_neg (show¬(x.ty=2∨x.ty=4) by omega),if_neg (show¬(x.ty=3) by omega),if_neg (show¬(x.ty=5∨x.ty=6) by omega),if_neg (show¬(x.ty=7) by omega),if_pos (show x.ty=11 by omega)])
 have CH:=fun W=>yg spd bank oalt gr W
 have LC:=fun W hW=>jf x hx.leg W hW
 rw[hO]at CH;rw[hL]at LC;obtain⟨_,_,_,hg1,hg2⟩:=ku hO;have hq:=kr hL;have P1:=fun W=>qE fx fy W
 rw[v1]at P1;have P2:=fun W=>qE x.ex x.ey W
 rw[v2]at P2;have P3:=fun W=>qE x.mx x.my W
 rw[v3]at P3;have RC:=fun W=>zS c W
 rw[decide_eq_true (show 0≤c∧c<129600000 by omega)]at RC;obtain⟨⟨k1,k2⟩,⟨k3,k4⟩,⟨k5,k6⟩,⟨k7,k8⟩,⟨k9,k10⟩,⟨k11,k12,k13⟩,hturn0⟩:=hq;obtain⟨q1,q2,q3,q4,q5,q6,q7,q8,q9,q10,q11,q12,q13,q14,q15,q16,q17⟩:=Ei hk;have XC:=fun W=>Un x.ex x.ey alt x spd bank oalt gr ha1 ha2 k11 qg hg1 hg2 yq W
 simp only[En.cells,hG]at XC;have HK:=hide hk;have HG:=hide hG;clear hO hL v1 v2 v3 hturn0 hk hG;have hM:=qo w;go_enter Tryz.func34,Tryz.ntmps34;go_wp2_with(first|(refine qe ?_;clear hM;intro g W hM)|(go_at_call 30;refine cb hM (CH _) ?_;clear hM;intro W1 hM)|(go_at_call 81;(refine(LC _ (hide (qP hM hu.out))).mono ?_);rintro e W1 ⟨rfl,hb⟩;replace hM:=qD hM hb;clear hb)|(refine qt (P1 _) ?_;clear hM;intro W1 hM)|(refine qt (P2 _) ?_;clear hM;intro W1 hM)|(refine qt (P3 _) ?_;clear hM;intro W1 hM)|refine qN (RC _) ?_|(refine qt (XC _) ?_;clear hM;intro W1 hM))
 all_goals first
  |(exact absurd (show x.gap=true by assumption) (by rw[HG.out];simp))
  |(exact absurd hG (show¬x.gap=true by assumption))
  |(refine' qU hM rfl rfl Tryz.isAgg91 Tryz.sizeOf91 rfl rfl ?_ ?_ ⟨?_,hM.below⟩;rotate_left 2;(·repeat constructor);(·rfl);(·exact zMResE11))
theorem Ti(fx fy c alt:Int)(x y:En)(spd bank oalt gr:Int)(hx:xI x)(hy:xI y)(w:World)(hu:Hid (yE w))(hG:x.gap=false)(hO:kJ spd bank oalt gr=0)(hL:jW x=0)(v1:qw fx fy=true)(v2:qw x.ex x.ey=true)(v3:qw x.mx x.my=true)(hcr:0≤c∧c<129600000)(ha1: -200000≤alt)(ha2:alt≤6000000)(hk:x.ty=12):
 Calls Tryz.prog 34 #[.agg #[Iv fx,Iv fy],Iv c,Iv alt,.agg x.cells.toArray,.agg y.cells.toArray,.agg #[Iv spd,Iv bank,Iv oalt,Iv gr]] w fun e w'=>e= .returned (.tuple #[.agg (qB fx fy c alt x y spd bank oalt gr).1.cells.toArray,Iv (qB fx fy c alt x y spd bank oalt gr).2])∧Below w.heap.size w w':=by
 have HT:Hid (qB fx fy c alt x y spd bank oalt gr=bi x.ex x.ey x.crs x.dst):=hide (by
  unfold qB;rw[if_neg (by rw[hO];simp),if_neg (by rw[hG];simp),if_neg (by rw[hL];simp),if_neg (by rw[v1,v2,v3];simp),if_neg qg];unfold uT
  rw[if_neg (show¬(x.ty=1) by omega),if_neg (show¬(x.ty=2∨x.ty=4) by omega),if_neg (show¬(x.ty=3) by omega),if_neg (show¬(x.ty=5∨x.ty=6) by omega),if_neg (show¬(x.ty=7) by omega),if_neg (show¬(x.ty=11) by omega),if_pos (show x.ty=12 by omega)])
 have CH:=fun W=>yg spd bank oalt gr W
 have LC:=fun W hW=>jf x hx.leg W hW
 rw[hO]at CH;rw[hL]at LC;obtain⟨_,_,_,hg1,hg2⟩:=ku hO;have hq:=kr hL;have P1:=fun W=>qE fx fy W
 rw[v1]at P1;have P2:=fun W=>qE x.ex x.ey W
 rw[v2]at P2;have P3:=fun W=>qE x.mx x.my W
 rw[v3]at P3;have RC:=fun W=>zS c W
 rw[decide_eq_true (show 0≤c∧c<129600000 by omega)]at RC;obtain⟨⟨k1,k2⟩,⟨k3,k4⟩,⟨k5,k6⟩,⟨k7,k8⟩,⟨k9,k10⟩,⟨k11,k12,k13⟩,hturn0⟩:=hq;obtain⟨q1,q2,q3,q4,q5,q6,q7,q8,q9,q10,q11,q12,q13,q14,q15,q16,q17⟩:=Ej hk;have HK:=hide hk;have HG:=hide hG;clear hO hL v1 v2 v3 hturn0 hk hG;have hM:=qo w;go_enter Tryz.func34,Tryz.ntmps34;go_wp2_with(first|(refine qe ?_;clear hM;intro g W hM)|(go_at_call 30;refine cb hM (CH _) ?_;clear hM;intro W1 hM)|(go_at_call 81;(refine(LC _ (hide (qP hM hu.out))).mono ?_);rintro e W1 ⟨rfl,hb⟩;replace hM:=qD hM hb;clear hb)|(refine qt (P1 _) ?_;clear hM;intro W1 hM)|(refine qt (P2 _) ?_;clear hM;intro W1 hM)|(refine qt (P3 _) ?_;clear hM;intro W1 hM)|refine qN (RC _) ?_|(go_at_call 85;refine(Kj _ _ _ _ ?_ ?_ _).mono ?_;(·first|assumption|(unfold qz;omega));(·first|assumption|(unfold qz;omega));rintro e W1 ⟨rfl,hb⟩;replace hM:=qD hM hb;clear hb))
 all_goals first
  |(exact absurd (show x.gap=true by assumption) (by rw[HG.out];simp))
  |(exact absurd hG (show¬x.gap=true by assumption))
  |(refine' qU hM rfl rfl Tryz.isAgg91 Tryz.sizeOf91 rfl rfl ?_ ?_ ⟨?_,hM.below⟩;rotate_left 2;(·repeat constructor);(·rfl);(·exact zMResE11))
theorem Tj(fx fy c alt:Int)(x y:En)(spd bank oalt gr:Int)(hx:xI x)(hy:xI y)(w:World)(hu:Hid (yE w))(hG:x.gap=false)(hO:kJ spd bank oalt gr=0)(hL:jW x=0)(v1:qw fx fy=true)(v2:qw x.ex x.ey=true)(v3:qw x.mx x.my=true)(hcr:0≤c∧c<129600000)(ha1: -200000≤alt)(ha2:alt≤6000000)(hk:x.ty=13):
 Calls Tryz.prog 34 #[.agg #[Iv fx,Iv fy],Iv c,Iv alt,.agg x.cells.toArray,.agg y.cells.toArray,.agg #[Iv spd,Iv bank,Iv oalt,Iv gr]] w fun e w'=>e= .returned (.tuple #[.agg (qB fx fy c alt x y spd bank oalt gr).1.cells.toArray,Iv (qB fx fy c alt x y spd bank oalt gr).2])∧Below w.heap.size w w':=by
 have HT:Hid (qB fx fy c alt x y spd bank oalt gr=Qt x.ex x.ey x.crs):=hide (by
  unfold qB;rw[if_neg (by rw[hO];simp),if_neg (by rw[hG];simp),if_neg (by rw[hL];simp),if_neg (by rw[v1,v2,v3];simp),if_neg qg];unfold uT
  rw[if_neg (show¬(x.ty=1) by omega),if_neg (show¬(x.ty=2∨x.ty=4) by omega),if_neg (show¬(x.ty=3) by omega),if_neg (show¬(x.ty=5∨x.ty=6) by omega),if_neg (show¬(x.ty=7) by omega),if_neg (show¬(x.ty=11) by omega),if_neg (show¬(x.ty=12) by omega),if_pos (show x.ty=13 by omega)])
 have CH:=fun W=>yg spd bank oalt gr W
 have LC:=fun W hW=>jf x hx.leg W hW
 rw[hO]at CH;rw[hL]at LC;obtain⟨_,_,_,hg1,hg2⟩:=ku hO;have hq:=kr hL;have P1:=fun W=>qE fx fy W
 rw[v1]at P1;have P2:=fun W=>qE x.ex x.ey W
 rw[v2]at P2;have P3:=fun W=>qE x.mx x.my W
 rw[v3]at P3;have RC:=fun W=>zS c W
 rw[decide_eq_true (show 0≤c∧c<129600000 by omega)]at RC;obtain⟨⟨k1,k2⟩,⟨k3,k4⟩,⟨k5,k6⟩,⟨k7,k8⟩,⟨k9,k10⟩,⟨k11,k12,k13⟩,hturn0⟩:=hq;obtain⟨q1,q2,q3,q4,q5,q6,q7,q8,q9,q10,q11,q12,q13,q14,q15,q16,q17⟩:=Ek hk;have HK:=hide hk;have HG:=hide hG;clear hO hL v1 v2 v3 hturn0 hk hG;have XC:=fun W=>Kj x.ex x.ey x.crs 300000 yq yq W
 obtain⟨T0,E0,hT⟩:∃T0 E0,bi x.ex x.ey x.crs 300000=(T0,E0):=⟨_,_,rfl⟩;have HU:=HT.out;unfold Qt at HU;rw[hT]at XC HU;dsimp only at XC HU;clear hT HT;by_cases h0:E0=0
 ·subst h0;have HT:=hide HU;clear HU;have hM:=qo w;go_enter Tryz.func34,Tryz.ntmps34;go_wp2_with(first|(refine qe ?_;clear hM;intro g W hM)|(go_at_call 30;refine cb hM (CH _) ?_;clear hM;intro W1 hM)|(go_at_call 81;(refine(LC _ (hide (qP hM hu.out))).mono ?_);rintro e W1 ⟨rfl,hb⟩;replace hM:=qD hM hb;clear hb)|(refine qt (P1 _) ?_;clear hM;intro W1 hM)|(refine qt (P2 _) ?_;clear hM;intro W1 hM)|(refine qt (P3 _) ?_;clear hM;intro W1 hM)|refine qN (RC _) ?_|(refine qt (XC _) ?_;clear hM;intro W1 hM))
  all_goals first
   |(exact absurd (show x.gap=true by assumption) (by rw[HG.out];simp))
   |(exact absurd hG (show¬x.gap=true by assumption))
   |(refine' qU hM rfl rfl Tryz.isAgg91 Tryz.sizeOf91 rfl rfl ?_ ?_ ⟨?_,hM.below⟩;rotate_left 2;(·repeat constructor);(·rfl);(·refine' jo ?_ ?_;rotate_left 1;(·exact HT.out);(·rfl)))
 ·have HT:=hide (HU.trans (if_neg h0));have hne:(E0==0)=false:=by simpa using h0
  clear HU h0;have hM:=qo w;go_enter Tryz.func34,Tryz.ntmps34;go_wp2_with(first|(refine qe ?_;clear hM;intro g W hM)|(go_at_call 30;refine cb hM (CH _) ?_;clear hM;intro W1 hM)|(go_at_call 81;(refine(LC _ (hide (qP hM hu.out))).mono ?_);rintro e W1 ⟨rfl,hb⟩;replace hM:=qD hM hb;clear hb)|(refine qt (P1 _) ?_;clear hM;intro W1 hM)|(refine qt (P2 _) ?_;clear hM;intro W1 hM)|(refine qt (P3 _) ?_;clear hM;intro W1 hM)|refine qN (RC _) ?_|(refine qt (XC _) ?_;clear hM;intro W1 hM))
  all_goals first
   |(exact absurd (show x.gap=true by assumption) (by rw[HG.out];simp))
   |(exact absurd hG (show¬x.gap=true by assumption))
   |(refine' qU hM rfl rfl Tryz.isAgg91 Tryz.sizeOf91 rfl rfl ?_ ?_ ⟨?_,hM.below⟩;rotate_left 2;(·repeat constructor);(·rfl);(·refine' jo ?_ ?_;rotate_left 1;(·exact HT.out);(·rfl)))
theorem nC(fx fy c alt:Int)(x y:En)(spd bank oalt gr:Int)(hx:xI x)(hy:xI y)(w:World)(hu:Hid (yE w))(hG:x.gap=false)(hO:kJ spd bank oalt gr=0)(hL:jW x=0)(v1:qw fx fy=true)(v2:qw x.ex x.ey=true)(v3:qw x.mx x.my=true)(hcr:0≤c∧c<129600000)(ha1: -200000≤alt)(ha2:alt≤6000000)(hk:x.ty=8):
 Calls Tryz.prog 34 #[.agg #[Iv fx,Iv fy],Iv c,Iv alt,.agg x.cells.toArray,.agg y.cells.toArray,.agg #[Iv spd,Iv bank,Iv oalt,Iv gr]] w fun e w'=>e= .returned (.tuple #[.agg (qB fx fy c alt x y spd bank oalt gr).1.cells.toArray,Iv (qB fx fy c alt x y spd bank oalt gr).2])∧Below w.heap.size w w':=by
 have HT:Hid (qB fx fy c alt x y spd bank oalt gr=vV fx fy x):=hide (by
  unfold qB;rw[if_neg (by rw[hO];simp),if_neg (by rw[hG];simp),if_neg (by rw[hL];simp),if_neg (by rw[v1,v2,v3];simp),if_neg qg];unfold uT
  rw[if_neg (show¬(x.ty=1) by omega),if_neg (show¬(x.ty=2∨x.ty=4) by omega),if_neg (show¬(x.ty=3) by omega),if_neg (show¬(x.ty=5∨x.ty=6) by omega),if_neg (show¬(x.ty=7) by omega),if_neg (show¬(x.ty=11) by omega),if_neg (show¬(x.ty=12) by omega),if_neg (show¬(x.ty=13) by omega),if_pos (show x.ty=8 by omega)])
 have CH:=fun W=>yg spd bank oalt gr W
 have LC:=fun W hW=>jf x hx.leg W hW
 rw[hO]at CH;rw[hL]at LC;obtain⟨_,_,_,hg1,hg2⟩:=ku hO;have hq:=kr hL;have P1:=fun W=>qE fx fy W
 rw[v1]at P1;have P2:=fun W=>qE x.ex x.ey W
 rw[v2]at P2;have P3:=fun W=>qE x.mx x.my W
 rw[v3]at P3;have RC:=fun W=>zS c W
 rw[decide_eq_true (show 0≤c∧c<129600000 by omega)]at RC;obtain⟨⟨k1,k2⟩,⟨k3,k4⟩,⟨k5,k6⟩,⟨k7,k8⟩,⟨k9,k10⟩,⟨k11,k12,k13⟩,hturn0⟩:=hq;obtain⟨q1,q2,q3,q4,q5,q6,q7,q8,q9,q10,q11,q12,q13,q14,q15,q16,q17⟩:=Ly hk;have XC:=fun W=>pX fx fy x k5 k6 yq W
 simp only[En.cells,hG]at XC;have HK:=hide hk;have HG:=hide hG;clear hO hL v1 v2 v3 hturn0 hk hG;have hM:=qo w;go_enter Tryz.func34,Tryz.ntmps34;go_wp2_with(first|(refine qe ?_;clear hM;intro g W hM)|(go_at_call 30;refine cb hM (CH _) ?_;clear hM;intro W1 hM)|(go_at_call 81;(refine(LC _ (hide (qP hM hu.out))).mono ?_);rintro e W1 ⟨rfl,hb⟩;replace hM:=qD hM hb;clear hb)|(refine qt (P1 _) ?_;clear hM;intro W1 hM)|(refine qt (P2 _) ?_;clear hM;intro W1 hM)|(refine qt (P3 _) ?_;clear hM;intro W1 hM)|refine qN (RC _) ?_|(refine qt (XC _) ?_;clear hM;intro W1 hM))
 all_goals first
  |(exact absurd (show x.gap=true by assumption) (by rw[HG.out];simp))
  |(exact absurd hG (show¬x.gap=true by assumption))
  |(refine' qU hM rfl rfl Tryz.isAgg91 Tryz.sizeOf91 rfl rfl ?_ ?_ ⟨?_,hM.below⟩;rotate_left 2;(·repeat constructor);(·rfl);(·exact zMResE11))
theorem Tl(fx fy c alt:Int)(x y:En)(spd bank oalt gr:Int)(hx:xI x)(hy:xI y)(w:World)(hu:Hid (yE w))(hG:x.gap=false)(hO:kJ spd bank oalt gr=0)(hL:jW x=0)(v1:qw fx fy=true)(v2:qw x.ex x.ey=true)(v3:qw x.mx x.my=true)(hcr:0≤c∧c<129600000)(ha1: -200000≤alt)(ha2:alt≤6000000)(hk:x.ty=10):
 Calls Tryz.prog 34 #[.agg #[Iv fx,Iv fy],Iv c,Iv alt,.agg x.cells.toArray,.agg y.cells.toArray,.agg #[Iv spd,Iv bank,Iv oalt,Iv gr]] w fun e w'=>e= .returned (.tuple #[.agg (qB fx fy c alt x y spd bank oalt gr).1.cells.toArray,Iv (qB fx fy c alt x y spd bank oalt gr).2])∧Below w.heap.size w w':=by
 have HT:Hid (qB fx fy c alt x y spd bank oalt gr=uQ fx fy x):=hide (by
  unfold qB;rw[if_neg (by rw[hO];simp),if_neg (by rw[hG];simp),if_neg (by rw[hL];simp),if_neg (by rw[v1,v2,v3];simp),if_neg qg];unfold uT
  rw[if_neg (show¬(x.ty=1) by omega),if_neg (show¬(x.ty=2∨x.ty=4) by omega),if_neg (show¬(x.ty=3) by omega),if_neg (show¬(x.ty=5∨x.ty=6) by omega),if_neg (show¬(x.ty=7) by omega),if_neg (show¬(x.ty=11) by omega),if_neg (show¬(x.ty=12) by omega),if_neg (show¬(x.ty=13) by omega),if_neg (show¬(x.ty=8) by omega),if_pos (show x.ty=10 by omega)])
 have CH:=fun W=>yg spd bank oalt gr W
 have LC:=fun W hW=>jf x hx.leg W hW
 rw[hO]at CH;rw[hL]at LC;obtain⟨_,_,_,hg1,hg2⟩:=ku hO;have hq:=kr hL;have P1:=fun W=>qE fx fy W
 rw[v1]at P1;have P2:=fun W=>qE x.ex x.ey W
 rw[v2]at P2;have P3:=fun W=>qE x.mx x.my W
 rw[v3]at P3;have RC:=fun W=>zS c W
 rw[decide_eq_true (show 0≤c∧c<129600000 by omega)]at RC;obtain⟨⟨k1,k2⟩,⟨k3,k4⟩,⟨k5,k6⟩,⟨k7,k8⟩,⟨k9,k10⟩,⟨k11,k12,k13⟩,hturn0⟩:=hq;obtain⟨q1,q2,q3,q4,q5,q6,q7,q8,q9,q10,q11,q12,q13,q14,q15,q16,q17⟩:=Eh hk;have XC:=fun W=>su fx fy x yq yq W
 simp only[En.cells,hG]at XC;have HK:=hide hk;have HG:=hide hG;clear hO hL v1 v2 v3 hturn0 hk hG;have hM:=qo w;go_enter Tryz.func34,Tryz.ntmps34;go_wp2_with(first|(refine qe ?_;clear hM;intro g W hM)|(go_at_call 30;refine cb hM (CH _) ?_;clear hM;intro W1 hM)|(go_at_call 81;(refine(LC _ (hide (qP hM hu.out))).mono ?_);rintro e W1 ⟨rfl,hb⟩;replace hM:=qD hM hb;clear hb)|(refine qt (P1 _) ?_;clear hM;intro W1 hM)|(refine qt (P2 _) ?_;clear hM;intro W1 hM)|(refine qt (P3 _) ?_;clear hM;intro W1 hM)|refine qN (RC _) ?_|(refine qt (XC _) ?_;clear hM;intro W1 hM))
 all_goals first
  |(exact absurd (show x.gap=true by assumption) (by rw[HG.out];simp))
  |(exact absurd hG (show¬x.gap=true by assumption))
  |(refine' qU hM rfl rfl Tryz.isAgg91 Tryz.sizeOf91 rfl rfl ?_ ?_ ⟨?_,hM.below⟩;rotate_left 2;(·repeat constructor);(·rfl);(·exact zMResE11))
theorem nD(fx fy c alt:Int)(x y:En)(spd bank oalt gr:Int)(hx:xI x)(hy:xI y)(w:World)(hu:Hid (yE w))(hG:x.gap=false)(hO:kJ spd bank oalt gr=0)(hL:jW x=0)(v1:qw fx fy=true)(v2:qw x.ex x.ey=true)(v3:qw x.mx x.my=true)(hcr:0≤c∧c<129600000)(ha1: -200000≤alt)(ha2:alt≤6000000)(hk:x.ty=9):
 Calls Tryz.prog 34 #[.agg #[Iv fx,Iv fy],Iv c,Iv alt,.agg x.cells.toArray,.agg y.cells.toArray,.agg #[Iv spd,Iv bank,Iv oalt,Iv gr]] w fun e w'=>e= .returned (.tuple #[.agg (qB fx fy c alt x y spd bank oalt gr).1.cells.toArray,Iv (qB fx fy c alt x y spd bank oalt gr).2])∧Below w.heap.size w w':=by
 have HT:Hid (qB fx fy c alt x y spd bank oalt gr=kK fx fy x y):=hide (by
  unfold qB;rw[if_neg (by rw[hO];simp),if_neg (by rw[hG];simp),if_neg (by rw[hL];simp),if_neg (by rw[v1,v2,v3];simp),if_neg qg];unfold uT
  rw[if_neg (show¬(x.ty=1) by omega),if_neg (show¬(x.ty=2∨x.ty=4) by omega),if_neg (show¬(x.ty=3) by omega),if_neg (show¬(x.ty=5∨x.ty=6) by omega),if_neg (show¬(x.ty=7) by omega),if_neg (show¬(x.ty=11) by omega),if_neg (show¬(x.ty=12) by omega),if_neg (show¬(x.ty=13) by omega),if_neg (show¬(x.ty=8) by omega),if_neg (show¬(x.ty=10) by omega),if_pos (show x.ty=9 by omega)])
 have CH:=fun W=>yg spd bank oalt gr W
 have LC:=fun W hW=>jf x hx.leg W hW
 rw[hO]at CH;rw[hL]at LC;obtain⟨_,_,_,hg1,hg2⟩:=ku hO;have hq:=kr hL;have P1:=fun W=>qE fx fy W
 rw[v1]at P1;have P2:=fun W=>qE x.ex x.ey W
 rw[v2]at P2;have P3:=fun W=>qE x.mx x.my W
 rw[v3]at P3;have RC:=fun W=>zS c W
 rw[decide_eq_true (show 0≤c∧c<129600000 by omega)]at RC;obtain⟨⟨k1,k2⟩,⟨k3,k4⟩,⟨k5,k6⟩,⟨k7,k8⟩,⟨k9,k10⟩,⟨k11,k12,k13⟩,hturn0⟩:=hq;obtain⟨q1,q2,q3,q4,q5,q6,q7,q8,q9,q10,q11,q12,q13,q14,q15,q16,q17⟩:=Lz hk;have XC:=fun W=>sr fx fy x y yq hy.crs hy.tyb W
 simp only[En.cells,hG]at XC;have HK:=hide hk;have HG:=hide hG;clear hO hL v1 v2 v3 hturn0 hk hG;have hM:=qo w;go_enter Tryz.func34,Tryz.ntmps34;go_wp2_with(first|(refine qe ?_;clear hM;intro g W hM)|(go_at_call 30;refine cb hM (CH _) ?_;clear hM;intro W1 hM)|(go_at_call 81;(refine(LC _ (hide (qP hM hu.out))).mono ?_);rintro e W1 ⟨rfl,hb⟩;replace hM:=qD hM hb;clear hb)|(refine qt (P1 _) ?_;clear hM;intro W1 hM)|(refine qt (P2 _) ?_;clear hM;intro W1 hM)|(refine qt (P3 _) ?_;clear hM;intro W1 hM)|refine qN (RC _) ?_|(refine qt (XC _) ?_;clear hM;intro W1 hM))
 all_goals first
  |(exact absurd (show x.gap=true by assumption) (by rw[HG.out];simp))
  |(exact absurd hG (show¬x.gap=true by assumption))
  |(refine' qU hM rfl rfl Tryz.isAgg91 Tryz.sizeOf91 rfl rfl ?_ ?_ ⟨?_,hM.below⟩;rotate_left 2;(·repeat constructor);(·rfl);(·exact zMResE11))
theorem Tm(fx fy c alt:Int)(x y:En)(spd bank oalt gr:Int)(hx:xI x)(hy:xI y)(w:World)(hu:Hid (yE w))(hG:x.gap=false)(hO:kJ spd bank oalt gr=0)(hL:jW x=0)(v1:qw fx fy=true)(v2:qw x.ex x.ey=true)(v3:qw x.mx x.my=true)(hcr:0≤c∧c<129600000)(ha1: -200000≤alt)(ha2:alt≤6000000)(hk:x.ty=14):
 Calls Tryz.prog 34 #[.agg #[Iv fx,Iv fy],Iv c,Iv alt,.agg x.cells.toArray,.agg y.cells.toArray,.agg #[Iv spd,Iv bank,Iv oalt,Iv gr]] w fun e w'=>e= .returned (.tuple #[.agg (qB fx fy c alt x y spd bank oalt gr).1.cells.toArray,Iv (qB fx fy c alt x y spd bank oalt gr).2])∧Below w.heap.size w w':=by
 have HT:Hid (qB fx fy c alt x y spd bank oalt gr=(vE c x,0)):=hide (by
  unfold qB;rw[if_neg (by rw[hO];simp),if_neg (by rw[hG];simp),if_neg (by rw[hL];simp),if_neg (by rw[v1,v2,v3];simp),if_neg qg];unfold uT
  rw[if_neg (show¬(x.ty=1) by omega),if_neg (show¬(x.ty=2∨x.ty=4) by omega),if_neg (show¬(x.ty=3) by omega),if_neg (show¬(x.ty=5∨x.ty=6) by omega),if_neg (show¬(x.ty=7) by omega),if_neg (show¬(x.ty=11) by omega),if_neg (show¬(x.ty=12) by omega),if_neg (show¬(x.ty=13) by omega),if_neg (show¬(x.ty=8) by omega),if_neg (show¬(x.ty=10) by omega),if_neg (show¬(x.ty=9) by omega)])
 have CH:=fun W=>yg spd bank oalt gr W
 have LC:=fun W hW=>jf x hx.leg W hW
 rw[hO]at CH;rw[hL]at LC;obtain⟨_,_,_,hg1,hg2⟩:=ku hO;have hq:=kr hL;have P1:=fun W=>qE fx fy W
 rw[v1]at P1;have P2:=fun W=>qE x.ex x.ey W
 rw[v2]at P2;have P3:=fun W=>qE x.mx x.my W
 rw[v3]at P3;have RC:=fun W=>zS c W
 rw[decide_eq_true (show 0≤c∧c<129600000 by omega)]at RC;obtain⟨⟨k1,k2⟩,⟨k3,k4⟩,⟨k5,k6⟩,⟨k7,k8⟩,⟨k9,k10⟩,⟨k11,k12,k13⟩,hturn0⟩:=hq;obtain⟨q1,q2,q3,q4,q5,q6,q7,q8,q9,q10,q11,q12,q13,q14,q15,q16,q17⟩:=Em hk;have HK:=hide hk;have HG:=hide hG;clear hO hL v1 v2 v3 hturn0 hk hG;have hM:=qo w;go_enter Tryz.func34,Tryz.ntmps34;go_wp2_with(first|(refine qe ?_;clear hM;intro g W hM)|(go_at_call 30;refine cb hM (CH _) ?_;clear hM;intro W1 hM)|(go_at_call 81;(refine(LC _ (hide (qP hM hu.out))).mono ?_);rintro e W1 ⟨rfl,hb⟩;replace hM:=qD hM hb;clear hb)|(refine qt (P1 _) ?_;clear hM;intro W1 hM)|(refine qt (P2 _) ?_;clear hM;intro W1 hM)|(refine qt (P3 _) ?_;clear hM;intro W1 hM)|refine qN (RC _) ?_)
 all_goals first
  |(exact absurd (show x.gap=true by assumption) (by rw[HG.out];simp))
  |(exact absurd hG (show¬x.gap=true by assumption))
  |(refine' qU hM rfl rfl Tryz.isAgg91 Tryz.sizeOf91 rfl rfl ?_ ?_ ⟨?_,hM.below⟩;rotate_left 2;(·repeat constructor);(·rfl);(·exact zMResE10))
theorem Tn(fx fy c alt:Int)(x y:En)(spd bank oalt gr:Int)(hx:xI x)(hy:xI y)(w:World)(hu:Hid (yE w))(hG:x.gap=false)(hO:kJ spd bank oalt gr=0)(hL:jW x=0)(v1:qw fx fy=true)(v2:qw x.ex x.ey=true)(v3:qw x.mx x.my=true)(hcr:0≤c∧c<129600000)(ha1: -200000≤alt)(ha2:alt≤6000000)(hk:x.ty=15):
 Calls Tryz.prog 34 #[.agg #[Iv fx,Iv fy],Iv c,Iv alt,.agg x.cells.toArray,.agg y.cells.toArray,.agg #[Iv spd,Iv bank,Iv oalt,Iv gr]] w fun e w'=>e= .returned (.tuple #[.agg (qB fx fy c alt x y spd bank oalt gr).1.cells.toArray,Iv (qB fx fy c alt x y spd bank oalt gr).2])∧Below w.heap.size w w':=by
 have HT:Hid (qB fx fy c alt x y spd bank oalt gr=(vE c x,0)):=hide (by
  unfold qB;rw[if_neg (by rw[hO];simp),if_neg (by rw[hG];simp),if_neg (by rw[hL];simp),if_neg (by rw[v1,v2,v3];simp),if_neg qg];unfold uT
  rw[if_neg (show¬(x.ty=1) by omega),if_neg (show¬(x.ty=2∨x.ty=4) by omega),if_neg (show¬(x.ty=3) by omega),if_neg (show¬(x.ty=5∨x.ty=6) by omega),if_neg (show¬(x.ty=7) by omega),if_neg (show¬(x.ty=11) by omega),if_neg (show¬(x.ty=12) by omega),if_neg (show¬(x.ty=13) by omega),if_neg (show¬(x.ty=8) by omega),if_neg (show¬(x.ty=10) by omega),if_neg (show¬(x.ty=9) by omega)])
 have CH:=fun W=>yg spd bank oalt gr W
 have LC:=fun W hW=>jf x hx.leg W hW
 rw[hO]at CH;rw[hL]at LC;obtain⟨_,_,_,hg1,hg2⟩:=ku hO;have hq:=kr hL;have P1:=fun W=>qE fx fy W
 rw[v1]at P1;have P2:=fun W=>qE x.ex x.ey W
 rw[v2]at P2;have P3:=fun W=>qE x.mx x.my W
 rw[v3]at P3;have RC:=fun W=>zS c W
 rw[decide_eq_true (show 0≤c∧c<129600000 by omega)]at RC;obtain⟨⟨k1,k2⟩,⟨k3,k4⟩,⟨k5,k6⟩,⟨k7,k8⟩,⟨k9,k10⟩,⟨k11,k12,k13⟩,hturn0⟩:=hq;obtain⟨q1,q2,q3,q4,q5,q6,q7,q8,q9,q10,q11,q12,q13,q14,q15,q16,q17⟩:=Eo hk;have HK:=hide hk;have HG:=hide hG;clear hO hL v1 v2 v3 hturn0 hk hG;have hM:=qo w;go_enter Tryz.func34,Tryz.ntmps34;go_wp2_with(first|(refine qe ?_;clear hM;intro g W hM)|(go_at_call 30;refine cb hM (CH _) ?_;clear hM;intro W1 hM)|(go_at_call 81;(refine(LC _ (hide (qP hM hu.out))).mono ?_);rintro e W1 ⟨rfl,hb⟩;replace hM:=qD hM hb;clear hb)|(refine qt (P1 _) ?_;clear hM;intro W1 hM)|(refine qt (P2 _) ?_;clear hM;intro W1 hM)|(refine qt (P3 _) ?_;clear hM;intro W1 hM)|refine qN (RC _) ?_)
 all_goals first
  |(exact absurd (show x.gap=true by assumption) (by rw[HG.out];simp))
  |(exact absurd hG (show¬x.gap=true by assumption))
  |(refine' qU hM rfl rfl Tryz.isAgg91 Tryz.sizeOf91 rfl rfl ?_ ?_ ⟨?_,hM.below⟩;rotate_left 2;(·repeat constructor);(·rfl);(·exact zMResE10))
theorem Tp(fx fy c alt:Int)(x y:En)(spd bank oalt gr:Int)(hx:xI x)(hy:xI y)(w:World)(hu:Hid (yE w))(hG:x.gap=false)(hO:kJ spd bank oalt gr=0)(hL:jW x=0)(v1:qw fx fy=true)(v2:qw x.ex x.ey=true)(v3:qw x.mx x.my=true)(hcr:0≤c∧c<129600000)(ha1: -200000≤alt)(ha2:alt≤6000000)(hk:x.ty=16):
 Calls Tryz.prog 34 #[.agg #[Iv fx,Iv fy],Iv c,Iv alt,.agg x.cells.toArray,.agg y.cells.toArray,.agg #[Iv spd,Iv bank,Iv oalt,Iv gr]] w fun e w'=>e= .returned (.tuple #[.agg (qB fx fy c alt x y spd bank oalt gr).1.cells.toArray,Iv (qB fx fy c alt x y spd bank oalt gr).2])∧Below w.heap.size w w':=by
 have HT:Hid (qB fx fy c alt x y spd bank oalt gr=(vE c x,0)):=hide (by
  unfold qB;rw[if_neg (by rw[hO];simp),if_neg (by rw[hG];simp),if_neg (by rw[hL];simp),if_neg (by rw[v1,v2,v3];simp),if_neg qg];unfold uT
  rw[if_neg (show¬(x.ty=1) by omega),if_neg (show¬(x.ty=2∨x.ty=4) by omega),if_neg (show¬(x.ty=3) by omega),if_neg (show¬(x.ty=5∨x.ty=6) by omega),if_neg (show¬(x.ty=7) by omega),if_neg (show¬(x.ty=11) by omega),if_neg (show¬(x.ty=12) by omega),if_neg (show¬(x.ty=13) by omega),if_neg (show¬(x.ty=8) by omega),if_neg (show¬(x.ty=10) by omega),if_neg (show¬(x.ty=9) by omega)])
 have CH:=fun W=>yg spd bank oalt gr W
 have LC:=fun W hW=>jf x hx.leg W hW
 rw[hO]at CH;rw[hL]at LC;obtain⟨_,_,_,hg1,hg2⟩:=ku hO;have hq:=kr hL;have P1:=fun W=>qE fx fy W
 rw[v1]at P1;have P2:=fun W=>qE x.ex x.ey W
 rw[v2]at P2;have P3:=fun W=>qE x.mx x.my W
 rw[v3]at P3;have RC:=fun W=>zS c W
 rw[decide_eq_true (show 0≤c∧c<129600000 by omega)]at RC;obtain⟨⟨k1,k2⟩,⟨k3,k4⟩,⟨k5,k6⟩,⟨k7,k8⟩,⟨k9,k10⟩,⟨k11,k12,k13⟩,hturn0⟩:=hq;obtain⟨q1,q2,q3,q4,q5,q6,q7,q8,q9,q10,q11,q12,q13,q14,q15,q16,q17⟩:=Ep hk;have HK:=hide hk;have HG:=hide hG;clear hO hL v1 v2 v3 hturn0 hk hG;have hM:=qo w;go_enter Tryz.func34,Tryz.ntmps34;go_wp2_with(first|(refine qe ?_;clear hM;intro g W hM)|(go_at_call 30;refine cb hM (CH _) ?_;clear hM;intro W1 hM)|(go_at_call 81;(refine(LC _ (hide (qP hM hu.out))).mono ?_);rintro e W1 ⟨rfl,hb⟩;replace hM:=qD hM hb;clear hb)|(refine qt (P1 _) ?_;clear hM;intro W1 hM)|(refine qt (P2 _) ?_;clear hM;intro W1 hM)|(refine qt (P3 _) ?_;clear hM;intro W1 hM)|refine qN (RC _) ?_)
 all_goals first
  |(exact absurd (show x.gap=true by assumption) (by rw[HG.out];simp))
  |(exact absurd hG (show¬x.gap=true by assumption))
  |(refine' qU hM rfl rfl Tryz.isAgg91 Tryz.sizeOf91 rfl rfl ?_ ?_ ⟨?_,hM.below⟩;rotate_left 2;(·repeat constructor);(·rfl);(·exact zMResE10))
theorem Tq(fx fy c alt:Int)(x y:En)(spd bank oalt gr:Int)(hx:xI x)(hy:xI y)(w:World)(hu:Hid (yE w))(hG:x.gap=false)(hO:kJ spd bank oalt gr=0)(hL:jW x=0)(v1:qw fx fy=true)(v2:qw x.ex x.ey=true)(v3:qw x.mx x.my=true)(hcr:0≤c∧c<129600000)(ha1: -200000≤alt)(ha2:alt≤6000000)(hk:x.ty=17):
 Calls Tryz.prog 34 #[.agg #[Iv fx,Iv fy],Iv c,Iv alt,.agg x.cells.toArray,.agg y.cells.toArray,.agg #[Iv spd,Iv bank,Iv oalt,Iv gr]] w fun e w'=>e= .returned (.tuple #[.agg (qB fx fy c alt x y spd bank oalt gr).1.cells.toArray,Iv (qB fx fy c alt x y spd bank oalt gr).2])∧Below w.heap.size w w':=by
 have HT:Hid (qB fx fy c alt x y spd bank oalt gr=(vE c x,0)):=hide (by
  unfold qB;rw[if_neg (by rw[hO];simp),if_neg (by rw[hG];simp),if_neg (by rw[hL];simp),if_neg (by rw[v1,v2,v3];simp),if_neg qg];unfold uT
  rw[if_neg (show¬(x.ty=1) by omega),if_neg (show¬(x.ty=2∨x.ty=4) by omega),if_neg (show¬(x.ty=3) by omega),if_neg (show¬(x.ty=5∨x.ty=6) by omega),if_neg (show¬(x.ty=7) by omega),if_neg (show¬(x.ty=11) by omega),if_neg (show¬(x.ty=12) by omega),if_neg (show¬(x.ty=13) by omega),if_neg (show¬(x.ty=8) by omega),if_neg (show¬(x.ty=10) by omega),if_neg (show¬(x.ty=9) by omega)])
 have CH:=fun W=>yg spd bank oalt gr W
 have LC:=fun W hW=>jf x hx.leg W hW
 rw[hO]at CH;rw[hL]at LC;obtain⟨_,_,_,hg1,hg2⟩:=ku hO;have hq:=kr hL;have P1:=fun W=>qE fx fy W
 rw[v1]at P1;have P2:=fun W=>qE x.ex x.ey W
 rw[v2]at P2;have P3:=fun W=>qE x.mx x.my W
 rw[v3]at P3;have RC:=fun W=>zS c W
 rw[decide_eq_true (show 0≤c∧c<129600000 by omega)]at RC;obtain⟨⟨k1,k2⟩,⟨k3,k4⟩,⟨k5,k6⟩,⟨k7,k8⟩,⟨k9,k10⟩,⟨k11,k12,k13⟩,hturn0⟩:=hq;obtain⟨q1,q2,q3,q4,q5,q6,q7,q8,q9,q10,q11,q12,q13,q14,q15,q16,q17⟩:=Er hk;have HK:=hide hk;have HG:=hide hG;clear hO hL v1 v2 v3 hturn0 hk hG;have hM:=qo w;go_enter Tryz.func34,Tryz.ntmps34;go_wp2_with(first|(refine qe ?_;clear hM;intro g W hM)|(go_at_call 30;refine cb hM (CH _) ?_;clear hM;intro W1 hM)|(go_at_call 81;(refine(LC _ (hide (qP hM hu.out))).mono ?_);rintro e W1 ⟨rfl,hb⟩;replace hM:=qD hM hb;clear hb)|(refine qt (P1 _) ?_;clear hM;intro W1 hM)|(refine qt (P2 _) ?_;clear hM;intro W1 hM)|(refine qt (P3 _) ?_;clear hM;intro W1 hM)|refine qN (RC _) ?_|(go_at_call 75;(with_reducible refine(yS _ ?_ _).mono ?_);(·first|assumption|(unfold qz;omega));rintro e W1 ⟨rfl,rfl⟩))
 all_goals first
  |(exact absurd (show x.gap=true by assumption) (by rw[HG.out];simp))
  |(exact absurd hG (show¬x.gap=true by assumption))
  |(refine' qU hM rfl rfl Tryz.isAgg91 Tryz.sizeOf91 rfl rfl ?_ ?_ ⟨?_,hM.below⟩;rotate_left 2;(·repeat constructor);(·rfl);(·exact zMResE10))
end Go.Proofs.YtiegohjobhehcaaGreatDoor
