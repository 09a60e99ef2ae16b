/-
  Resolve of the reference on legs of some types.
-/
import Derived.Test.YtcgpbnlhnafhjaaGreatDoorMHasU
import Derived.Test.YtcgpbnlhnafhjaaGreatDoorMRefB
set_option maxRecDepth 100000
set_option maxHeartbeats 16000000
namespace Go.Proofs.YtcgpbnlhnafhjaaGreatDoor
open Go.RowKit
set_option linter.unusedVariables false
set_option linter.unusedSimpArgs false
theorem zMRefE10{P:Prop}(h:P:=by refine' ze ?_ ?_;rotate_left 1;(·exact HT.out);(·first|rfl|(unfold jq;rw[HK.out];rfl))):P:=h
theorem Te(fx fy c alt:Int)(x y:En)(spd bank oalt gr:Int)(hx:vT x)(hy:vT y)(w:World)(hG:x.gap=false)(hO:jY spd bank oalt gr=0)(hL:zU x=0)(v1:qw fx fy=true)(v2:qw x.ex x.ey=true)(v3:qw x.mx x.my=true)(hcr:0≤c∧c<129600000)(ha1: -200000≤alt)(ha2:alt≤6000000)(hk:x.ty=1):
 Calls Tryz.prog 51 #[.agg #[Iv fx,Iv fy],Iv c,Iv alt,.agg x.cells.toArray,.agg y.cells.toArray,.agg #[Iv spd,Iv bank,Iv oalt,Iv gr]] w fun e w'=>e= .returned (.tuple #[.agg (qp fx fy c alt x y spd bank oalt gr).1.cells.toArray,Iv (qp fx fy c alt x y spd bank oalt gr).2])∧Below w.heap.size w w':=by
 have HT:Hid (qp fx fy c alt x y spd bank oalt gr=(zf x.ex x.ey x.ex x.ey c,0)):=hide (by
  unfold qp;rw[if_neg (by rw[hO];simp),if_neg (by rw[hG];simp),if_neg (by rw[hL];simp),if_neg (by rw[v1,v2,v3];simp),if_neg DL];unfold yT
  rw[if_pos (show x.ty=1 by omega)])
 have CH:=fun W=>jC spd bank oalt gr W
 have LC:=fun W=>zR x hx.leg W
 rw[hO]at CH;rw[hL]at LC;obtain⟨_,_,_,hg1,hg2⟩:=js hO;have hq:=jr hL;have P1:=fun W=>qL fx fy W
 rw[v1]at P1;have P2:=fun W=>qL x.ex x.ey W
 rw[v2]at P2;have P3:=fun W=>qL x.mx x.my W
 rw[v3]at P3;have c1:decide (c<0)=false:=decide_eq_false DL;have c2:decide (129600000≤c)=false:=decide_eq_false DL;have c3:decide (alt< -200000)=false:=decide_eq_false DL;have c4:decide (6000000<alt)=false:=decide_eq_false DL;obtain⟨⟨k1,k2⟩,⟨k3,k4⟩,⟨k5,k6⟩,⟨k7,k8⟩,⟨k9,k10⟩,⟨k11,k12,k13⟩,hturn0⟩:=hq;obtain⟨q1,q2,q3,q4,q5,q6,q7,q8,q9,q10,q11,q12,q13,q14,q15,q16,q17⟩:=Mj hk;have HK:=hide hk;have HG:=hide hG;clear hO hL v1 v2 v3 hturn0 hk hG;have hM:=qE w;go_enter Tryz.func51,Tryz.ntmps51;go_wp2_with(first|(refine DU ?_;clear hM;intro g W hM)|(go_at_call 48;refine cb hM (CH _) ?_;clear hM;intro W1 hM)|(go_at_call 110;(refine(LC _).mono ?_);rintro e W1 ⟨rfl,hb⟩;replace hM:=qz hM hb;clear hb)|(refine qf (P1 _) ?_;clear hM;intro W1 hM)|(refine qf (P2 _) ?_;clear hM;intro W1 hM)|(refine qf (P3 _) ?_;clear hM;intro W1 hM)|(go_at_call 50;refine(kp _ _ _ _ _ _).mono ?_;rintro e W1 ⟨rfl,hb⟩;replace hM:=qz hM hb;clear hb))
 all_goals first
  |(exact absurd (show x.gap=true by assumption) (by rw[HG.out];simp))
  |(exact absurd hG (show¬x.gap=true by assumption))
  |(refine' qO hM rfl rfl Tryz.isAgg67 Tryz.sizeOf67 rfl rfl ?_ ?_ ⟨?_,hM.below⟩;rotate_left 2;(·repeat constructor);(·rfl);(·exact zMRefE10))
theorem Tf(fx fy c alt:Int)(x y:En)(spd bank oalt gr:Int)(hx:vT x)(hy:vT y)(w:World)(hG:x.gap=false)(hO:jY spd bank oalt gr=0)(hL:zU x=0)(v1:qw fx fy=true)(v2:qw x.ex x.ey=true)(v3:qw x.mx x.my=true)(hcr:0≤c∧c<129600000)(ha1: -200000≤alt)(ha2:alt≤6000000)(hk:x.ty=2):
 Calls Tryz.prog 51 #[.agg #[Iv fx,Iv fy],Iv c,Iv alt,.agg x.cells.toArray,.agg y.cells.toArray,.agg #[Iv spd,Iv bank,Iv oalt,Iv gr]] w fun e w'=>e= .returned (.tuple #[.agg (qp fx fy c alt x y spd bank oalt gr).1.cells.toArray,Iv (qp fx fy c alt x y spd bank oalt gr).2])∧Below w.heap.size w w':=by
 have HT:Hid (qp fx fy c alt x y spd bank oalt gr=(zf fx fy x.ex x.ey c,0)):=hide (by
  unfold qp;rw[if_neg (by rw[hO];simp),if_neg (by rw[hG];simp),if_neg (by rw[hL];simp),if_neg (by rw[v1,v2,v3];simp),if_neg DL];unfold yT
  rw[if_neg (show¬(x.ty=1) by omega),if_pos (show x.ty=2∨x.ty=4 by omega)])
 have CH:=fun W=>jC spd bank oalt gr W
 have LC:=fun W=>zR x hx.leg W
 rw[hO]at CH;rw[hL]at LC;obtain⟨_,_,_,hg1,hg2⟩:=js hO;have hq:=jr hL;have P1:=fun W=>qL fx fy W
 rw[v1]at P1;have P2:=fun W=>qL x.ex x.ey W
 rw[v2]at P2;have P3:=fun W=>qL x.mx x.my W
 rw[v3]at P3;have c1:decide (c<0)=false:=decide_eq_false DL;have c2:decide (129600000≤c)=false:=decide_eq_false DL;have c3:decide (alt< -200000)=false:=decide_eq_false DL;have c4:decide (6000000<alt)=false:=decide_eq_false DL;obtain⟨⟨k1,k2⟩,⟨k3,k4⟩,⟨k5,k6⟩,⟨k7,k8⟩,⟨k9,k10⟩,⟨k11,k12,k13⟩,hturn0⟩:=hq;obtain⟨q1,q2,q3,q4,q5,q6,q7,q8,q9,q10,q11,q12,q13,q14,q15,q16,q17⟩:=Mk hk;have HK:=hide hk;have HG:=hide hG;clear hO hL v1 v2 v3 hturn0 hk hG;have hM:=qE w;go_enter Tryz.func51,Tryz.ntmps51;go_wp2_with(first|(refine DU ?_;clear hM;intro g W hM)|(go_at_call 48;refine cb hM (CH _) ?_;clear hM;intro W1 hM)|(go_at_call 110;(refine(LC _).mono ?_);rintro e W1 ⟨rfl,hb⟩;replace hM:=qz hM hb;clear hb)|(refine qf (P1 _) ?_;clear hM;intro W1 hM)|(refine qf (P2 _) ?_;clear hM;intro W1 hM)|(refine qf (P3 _) ?_;clear hM;intro W1 hM)|(go_at_call 50;refine(kp _ _ _ _ _ _).mono ?_;rintro e W1 ⟨rfl,hb⟩;replace hM:=qz hM hb;clear hb))
 all_goals first
  |(exact absurd (show x.gap=true by assumption) (by rw[HG.out];simp))
  |(exact absurd hG (show¬x.gap=true by assumption))
  |(refine' qO hM rfl rfl Tryz.isAgg67 Tryz.sizeOf67 rfl rfl ?_ ?_ ⟨?_,hM.below⟩;rotate_left 2;(·repeat constructor);(·rfl);(·exact zMRefE10))
theorem Tg(fx fy c alt:Int)(x y:En)(spd bank oalt gr:Int)(hx:vT x)(hy:vT y)(w:World)(hG:x.gap=false)(hO:jY spd bank oalt gr=0)(hL:zU x=0)(v1:qw fx fy=true)(v2:qw x.ex x.ey=true)(v3:qw x.mx x.my=true)(hcr:0≤c∧c<129600000)(ha1: -200000≤alt)(ha2:alt≤6000000)(hk:x.ty=4):
 Calls Tryz.prog 51 #[.agg #[Iv fx,Iv fy],Iv c,Iv alt,.agg x.cells.toArray,.agg y.cells.toArray,.agg #[Iv spd,Iv bank,Iv oalt,Iv gr]] w fun e w'=>e= .returned (.tuple #[.agg (qp fx fy c alt x y spd bank oalt gr).1.cells.toArray,Iv (qp fx fy c alt x y spd bank oalt gr).2])∧Below w.heap.size w w':=by
 have HT:Hid (qp fx fy c alt x y spd bank oalt gr=(zf fx fy x.ex x.ey c,0)):=hide (by
  unfold qp;rw[if_neg (by rw[hO];simp),if_neg (by rw[hG];simp),if_neg (by rw[hL];simp),if_neg (by rw[v1,v2,v3];simp),if_neg DL];unfold yT
  rw[if_neg (show¬(x.ty=1) by omega),if_pos (show x.ty=2∨x.ty=4 by omega)])
 have CH:=fun W=>jC spd bank oalt gr W
 have LC:=fun W=>zR x hx.leg W
 rw[hO]at CH;rw[hL]at LC;obtain⟨_,_,_,hg1,hg2⟩:=js hO;have hq:=jr hL;have P1:=fun W=>qL fx fy W
 rw[v1]at P1;have P2:=fun W=>qL x.ex x.ey W
 rw[v2]at P2;have P3:=fun W=>qL x.mx x.my W
 rw[v3]at P3;have c1:decide (c<0)=false:=decide_eq_false DL;have c2:decide (129600000≤c)=false:=decide_eq_false DL;have c3:decide (alt< -200000)=false:=decide_eq_false DL;have c4:decide (6000000<alt)=false:=decide_eq_false DL;obtain⟨⟨k1,k2⟩,⟨k3,k4⟩,⟨k5,k6⟩,⟨k7,k8⟩,⟨k9,k10⟩,⟨k11,k12,k13⟩,hturn0⟩:=hq;obtain⟨q1,q2,q3,q4,q5,q6,q7,q8,q9,q10,q11,q12,q13,q14,q15,q16,q17⟩:=Mm hk;have HK:=hide hk;have HG:=hide hG;clear hO hL v1 v2 v3 hturn0 hk hG;have hM:=qE w;go_enter Tryz.func51,Tryz.ntmps51;go_wp2_with(first|(refine DU ?_;clear hM;intro g W hM)|(go_at_call 48;refine cb hM (CH _) ?_;clear hM;intro W1 hM)|(go_at_call 110;(refine(LC _).mono ?_);rintro e W1 ⟨rfl,hb⟩;replace hM:=qz hM hb;clear hb)|(refine qf (P1 _) ?_;clear hM;intro W1 hM)|(refine qf (P2 _) ?_;clear hM;intro W1 hM)|(refine qf (P3 _) ?_;clear hM;intro W1 hM)|(go_at_call 50;refine(kp _ _ _ _ _ _).mono ?_;rintro e W1 ⟨rfl,hb⟩;replace hM:=qz hM hb;clear hb))
 all_goals first
  |(exact absurd (show x.gap=true by assumption) (by rw[HG.out];simp))
  |(exact absurd hG (show¬x.gap=true by assumption))
  |(refine' qO hM rfl rfl Tryz.isAgg67 Tryz.sizeOf67 rfl rfl ?_ ?_ ⟨?_,hM.below⟩;rotate_left 2;(·repeat constructor);(·rfl);(·exact zMRefE10))
theorem Th(fx fy c alt:Int)(x y:En)(spd bank oalt gr:Int)(hx:vT x)(hy:vT y)(w:World)(hG:x.gap=false)(hO:jY spd bank oalt gr=0)(hL:zU x=0)(v1:qw fx fy=true)(v2:qw x.ex x.ey=true)(v3:qw x.mx x.my=true)(hcr:0≤c∧c<129600000)(ha1: -200000≤alt)(ha2:alt≤6000000)(hk:x.ty=3):
 Calls Tryz.prog 51 #[.agg #[Iv fx,Iv fy],Iv c,Iv alt,.agg x.cells.toArray,.agg y.cells.toArray,.agg #[Iv spd,Iv bank,Iv oalt,Iv gr]] w fun e w'=>e= .returned (.tuple #[.agg (qp fx fy c alt x y spd bank oalt gr).1.cells.toArray,Iv (qp fx fy c alt x y spd bank oalt gr).2])∧Below w.heap.size w w':=by
 have HT:Hid (qp fx fy c alt x y spd bank oalt gr=vp fx fy c x):=hide (by
  unfold qp;rw[if_neg (by rw[hO];simp),if_neg (by rw[hG];simp),if_neg (by rw[hL];simp),if_neg (by rw[v1,v2,v3];simp),if_neg DL];unfold yT
  rw[if_neg (show¬(x.ty=1) by omega),if_neg (show¬(x.ty=2∨x.ty=4) by omega),if_pos (show x.ty=3 by omega)])
 have CH:=fun W=>jC spd bank oalt gr W
 have LC:=fun W=>zR x hx.leg W
 rw[hO]at CH;rw[hL]at LC;obtain⟨_,_,_,hg1,hg2⟩:=js hO;have hq:=jr hL;have P1:=fun W=>qL fx fy W
 rw[v1]at P1;have P2:=fun W=>qL x.ex x.ey W
 rw[v2]at P2;have P3:=fun W=>qL x.mx x.my W
 rw[v3]at P3;have c1:decide (c<0)=false:=decide_eq_false DL;have c2:decide (129600000≤c)=false:=decide_eq_false DL;have c3:decide (alt< -200000)=false:=decide_eq_false DL;have c4:decide (6000000<alt)=false:=decide_eq_false DL;obtain⟨⟨k1,k2⟩,⟨k3,k4⟩,⟨k5,k6⟩,⟨k7,k8⟩,⟨k9,k10⟩,⟨k11,k12,k13⟩,hturn0⟩:=hq;obtain⟨q1,q2,q3,q4,q5,q6,q7,q8,q9,q10,q11,q12,q13,q14,q15,q16,q17⟩:=Ml hk;have XC:=fun W=>fg fx fy c x k3 k4 W
 simp only[En.cells,hG]at XC;have HK:=hide hk;have HG:=hide hG;clear hO hL v1 v2 v3 hturn0 hk hG;have hM:=qE w;go_enter Tryz.func51,Tryz.ntmps51;go_wp2_with(first|(refine DU ?_;clear hM;intro g W hM)|(go_at_call 48;refine cb hM (CH _) ?_;clear hM;intro W1 hM)|(go_at_call 110;(refine(LC _).mono ?_);rintro e W1 ⟨rfl,hb⟩;replace hM:=qz hM hb;clear hb)|(refine qf (P1 _) ?_;clear hM;intro W1 hM)|(refine qf (P2 _) ?_;clear hM;intro W1 hM)|(refine qf (P3 _) ?_;clear hM;intro W1 hM)|(refine qf (XC _) ?_;clear hM;intro W1 hM))
 all_goals first
  |(exact absurd (show x.gap=true by assumption) (by rw[HG.out];simp))
  |(exact absurd hG (show¬x.gap=true by assumption))
  |(refine' qO hM rfl rfl Tryz.isAgg67 Tryz.sizeOf67 rfl rfl ?_ ?_ ⟨?_,hM.below⟩;rotate_left 2;(·repeat constructor);(·rfl);(·refine' ze ?_ ?_;rotate_left 1;(·exact HT.out.trans yI);(·rfl)))
theorem Ti(fx fy c alt:Int)(x y:En)(spd bank oalt gr:Int)(hx:vT x)(hy:vT y)(w:World)(hG:x.gap=false)(hO:jY spd bank oalt gr=0)(hL:zU x=0)(v1:qw fx fy=true)(v2:qw x.ex x.ey=true)(v3:qw x.mx x.my=true)(hcr:0≤c∧c<129600000)(ha1: -200000≤alt)(ha2:alt≤6000000)(hk:x.ty=5):
 Calls Tryz.prog 51 #[.agg #[Iv fx,Iv fy],Iv c,Iv alt,.agg x.cells.toArray,.agg y.cells.toArray,.agg #[Iv spd,Iv bank,Iv oalt,Iv gr]] w fun e w'=>e= .returned (.tuple #[.agg (qp fx fy c alt x y spd bank oalt gr).1.cells.toArray,Iv (qp fx fy c alt x y spd bank oalt gr).2])∧Below w.heap.size w w':=by
 have HT:Hid (qp fx fy c alt x y spd bank oalt gr=jZ fx fy x):=hide (by
  unfold qp;rw[if_neg (by rw[hO];simp),if_neg (by rw[hG];simp),if_neg (by rw[hL];simp),if_neg (by rw[v1,v2,v3];simp),if_neg DL];unfold yT
  rw[if_neg (show¬(x.ty=1) by omega),if_neg (show¬(x.ty=2∨x.ty=4) by omega),if_neg (show¬(x.ty=3) by omega),if_pos (show x.ty=5∨x.ty=6 by omega)])
 have CH:=fun W=>jC spd bank oalt gr W
 have LC:=fun W=>zR x hx.leg W
 rw[hO]at CH;rw[hL]at LC;obtain⟨_,_,_,hg1,hg2⟩:=js hO;have hq:=jr hL;have P1:=fun W=>qL fx fy W
 rw[v1]at P1;have P2:=fun W=>qL x.ex x.ey W
 rw[v2]at P2;have P3:=fun W=>qL x.mx x.my W
 rw[v3]at P3;have c1:decide (c<0)=false:=decide_eq_false DL;have c2:decide (129600000≤c)=false:=decide_eq_false DL;have c3:decide (alt< -200000)=false:=decide_eq_false DL;have c4:decide (6000000<alt)=false:=decide_eq_false DL;obtain⟨⟨k1,k2⟩,⟨k3,k4⟩,⟨k5,k6⟩,⟨k7,k8⟩,⟨k9,k10⟩,⟨k11,k12,k13⟩,hturn0⟩:=hq;have hturn:x.tn=1∨x.tn=2:=hturn0 (by rw[hk];rfl);obtain⟨q1,q2,q3,q4,q5,q6,q7,q8,q9,q10,q11,q12,q13,q14,q15,q16,q17⟩:=Mn hk;have XC:=fun W=>Td fx fy x hturn k7 k8 W
 simp only[En.cells,hG]at XC;have HK:=hide hk;have HG:=hide hG;clear hO hL v1 v2 v3 hturn0 hk hG;have hM:=qE w;go_enter Tryz.func51,Tryz.ntmps51;go_wp2_with(first|(refine DU ?_;clear hM;intro g W hM)|(go_at_call 48;refine cb hM (CH _) ?_;clear hM;intro W1 hM)|(go_at_call 110;(refine(LC _).mono ?_);rintro e W1 ⟨rfl,hb⟩;replace hM:=qz hM hb;clear hb)|(refine qf (P1 _) ?_;clear hM;intro W1 hM)|(refine qf (P2 _) ?_;clear hM;intro W1 hM)|(refine qf (P3 _) ?_;clear hM;intro W1 hM)|(refine qf (XC _) ?_;clear hM;intro W1 hM))
 all_goals first
  |(exact absurd (show x.gap=true by assumption) (by rw[HG.out];simp))
  |(exact absurd hG (show¬x.gap=true by assumption))
  |(refine' qO hM rfl rfl Tryz.isAgg67 Tryz.sizeOf67 rfl rfl ?_ ?_ ⟨?_,hM.below⟩;rotate_left 2;(·repeat constructor);(·rfl);(·refine' ze ?_ ?_;rotate_left 1;(·exact HT.out.trans yI);(·rfl)))
theorem Tj(fx fy c alt:Int)(x y:En)(spd bank oalt gr:Int)(hx:vT x)(hy:vT y)(w:World)(hG:x.gap=false)(hO:jY spd bank oalt gr=0)(hL:zU x=0)(v1:qw fx fy=true)(v2:qw x.ex x.ey=true)(v3:qw x.mx x.my=true)(hcr:0≤c∧c<129600000)(ha1: -200000≤alt)(ha2:alt≤6000000)(hk:x.ty=6):
 Calls Tryz.prog 51 #[.agg #[Iv fx,Iv fy],Iv c,Iv alt,.agg x.cells.toArray,.agg y.cells.toArray,.agg #[Iv spd,Iv bank,Iv oalt,Iv gr]] w fun e w'=>e= .returned (.tuple #[.agg (qp fx fy c alt x y spd bank oalt gr).1.cells.toArray,Iv (qp fx fy c alt x y spd bank oalt gr).2])∧Below w.heap.size w w':=by
 have HT:Hid (qp fx fy c alt x y spd bank oalt gr=jZ fx fy x):=hide (by
  unfold qp;rw[if_neg (by rw[hO];simp),if_neg (by rw[hG];simp),if_neg (by rw[hL];simp),if_neg (by rw[v1,v2,v3];simp),if_neg DL];unfold yT
  rw[if_neg (show¬(x.ty=1) by omega),if_neg (show¬(x.ty=2∨x.ty=4) by omega),if_neg (show¬(x.ty=3) by omega),if_pos (show x.ty=5∨x.ty=6 by omega)])
 have CH:=fun W=>jC spd bank oalt gr W
 have LC:=fun W=>zR x hx.leg W
 rw[hO]at CH;rw[hL]at LC;obtain⟨_,_,_,hg1,hg2⟩:=js hO;have hq:=jr hL;have P1:=fun W=>qL fx fy W
 rw[v1]at P1;have P2:=fun W=>qL x.ex x.ey W
 rw[v2]at P2;have P3:=fun W=>qL x.mx x.my W
 rw[v3]at P3;have c1:decide (c<0)=false:=decide_eq_false DL;have c2:decide (129600000≤c)=false:=decide_eq_false DL;have c3:decide (alt< -200000)=false:=decide_eq_false DL;have c4:decide (6000000<alt)=false:=decide_eq_false DL;obtain⟨⟨k1,k2⟩,⟨k3,k4⟩,⟨k5,k6⟩,⟨k7,k8⟩,⟨k9,k10⟩,⟨k11,k12,k13⟩,hturn0⟩:=hq;have hturn:x.tn=1∨x.tn=2:=hturn0 (by rw[hk];rfl);obtain⟨q1,q2,q3,q4,q5,q6,q7,q8,q9,q10,q11,q12,q13,q14,q15,q16,q17⟩:=Mo hk;have XC:=fun W=>Td fx fy x hturn k7 k8 W
 simp only[En.cells,hG]at XC;have HK:=hide hk;have HG:=hide hG;clear hO hL v1 v2 v3 hturn0 hk hG;have hM:=qE w;go_enter Tryz.func51,Tryz.ntmps51;go_wp2_with(first|(refine DU ?_;clear hM;intro g W hM)|(go_at_call 48;refine cb hM (CH _) ?_;clear hM;intro W1 hM)|(go_at_call 110;(refine(LC _).mono ?_);rintro e W1 ⟨rfl,hb⟩;replace hM:=qz hM hb;clear hb)|(refine qf (P1 _) ?_;clear hM;intro W1 hM)|(refine qf (P2 _) ?_;clear hM;intro W1 hM)|(refine qf (P3 _) ?_;clear hM;intro W1 hM)|(refine qf (XC _) ?_;clear hM;intro W1 hM))
 all_goals first
  |(exact absurd (show x.gap=true by assumption) (by rw[HG.out];simp))
  |(exact absurd hG (show¬x.gap=true by assumption))
  |(refine' qO hM rfl rfl Tryz.isAgg67 Tryz.sizeOf67 rfl rfl ?_ ?_ ⟨?_,hM.below⟩;rotate_left 2;(·repeat constructor);(·rfl);(·refine' ze ?_ ?_;rotate_left 1;(·exact HT.out.trans yI);(·rfl)))
theorem Tl(fx fy c alt:Int)(x y:En)(spd bank oalt gr:Int)(hx:vT x)(hy:vT y)(w:World)(hG:x.gap=false)(hO:jY spd bank oalt gr=0)(hL:zU x=0)(v1:qw fx fy=true)(v2:qw x.ex x.ey=true)(v3:qw x.mx x.my=true)(hcr:0≤c∧c<129600000)(ha1: -200000≤alt)(ha2:alt≤6000000)(hk:x.ty=7):
 Calls Tryz.prog 51 #[.agg #[Iv fx,Iv fy],Iv c,Iv alt,.agg x.cells.toArray,.agg y.cells.toArray,.agg #[Iv spd,Iv bank,Iv oalt,Iv gr]] w fun e w'=>e= .returned (.tuple #[.agg (qp fx fy c alt x y spd bank oalt gr).1.cells.toArray,Iv (qp fx fy c alt x y spd bank oalt gr).2])∧Below w.heap.size w w':=by
 have HT:Hid (qp fx fy c alt x y spd bank oalt gr=yS fx fy alt x gr):=hide (by
  unfold qp;rw[if_neg (by rw[hO];simp),if_neg (by rw[hG];simp),if_neg (by rw[hL];simp),if_neg (by rw[v1,v2,v3];simp),if_neg DL];unfold yT
  rw[if_neg (show¬(x.ty=1) by omega),if_neg (show¬(x.ty=2∨x.ty=4) by omega),if_neg (show¬(x.ty=3) by omega),if_neg (show¬(x.ty=5∨x.ty=6) by omega),if_pos (show x.ty=7 by omega)])
 have CH:=fun W=>jC spd bank oalt gr W
 have LC:=fun W=>zR x hx.leg W
 rw[hO]at CH;rw[hL]at LC;obtain⟨_,_,_,hg1,hg2⟩:=js hO;have hq:=jr hL;have P1:=fun W=>qL fx fy W
 rw[v1]at P1;have P2:=fun W=>qL x.ex x.ey W
 rw[v2]at P2;have P3:=fun W=>qL x.mx x.my W
 rw[v3]at P3;have c1:decide (c<0)=false:=decide_eq_false DL;have c2:decide (129600000≤c)=false:=decide_eq_false DL;have c3:decide (alt< -200000)=false:=decide_eq_false DL;have c4:decide (6000000<alt)=false:=decide_eq_false DL;obtain⟨⟨k1,k2⟩,⟨k3,k4⟩,⟨k5,k6⟩,⟨k7,k8⟩,⟨k9,k10⟩,⟨k11,k12,k13⟩,hturn0⟩:=hq;obtain⟨q1,q2,q3,q4,q5,q6,q7,q8,q9,q10,q11,q12,q13,q14,q15,q16,q17⟩:=Mp hk;have HK:=hide hk;have HG:=hide hG;clear hO hL v1 v2 v3 hturn0 hk hG;have NB:=JV ha1 (show x.lo≤6000000 by omega) hg1;have XN:=fun W=>VO alt x.lo gr ha1 ha2 k11 DL hg1 hg2 W
 obtain⟨N,hN⟩:∃N,kF alt x.lo gr=N:=⟨_,rfl⟩;rw[hN]at XN NB;have HT0:Hid (qp fx fy c alt x y spd bank oalt gr=if N>8000000 then(Tk.zero,2)else kf fx fy x.crs N):=hide (by rw[HT.out];unfold yS;rw[hN]);clear hN HT;by_cases h8:N>8000000
 ·have XA:=fun W=>VN fx fy x.crs N h8 W
  have HT:=hide (HT0.out.trans (if_pos h8));clear h8 HT0;have hM:=qE w;go_enter Tryz.func51,Tryz.ntmps51;go_upto_region 26 with(first|(refine DU ?_;clear hM;intro g W hM)|(go_at_call 48;refine cb hM (CH _) ?_;clear hM;intro W1 hM)|(go_at_call 110;(refine(LC _).mono ?_);rintro e W1 ⟨rfl,hb⟩;replace hM:=qz hM hb;clear hb)|(refine qf (P1 _) ?_;clear hM;intro W1 hM)|(refine qf (P2 _) ?_;clear hM;intro W1 hM)|(refine qf (P3 _) ?_;clear hM;intro W1 hM))
  all_goals first
   |(exact absurd (show x.gap=true by assumption) (by rw[HG.out];simp))
   |(
      refine' yq hM DN (.tmp 12) rfl ?_ ?_;rotate_left 1;(·repeat constructor);(clear hM;intro W hM hK hne)
      first|refine kL 0 hM hK ?_|refine kM 0 hM hK ?_
      refine qu ?_;refine kP 1 hM hK ?_;refine qu ?_
      first|refine kL 2 hM hK ?_|refine kM 2 hM hK ?_
      refine qu ?_;refine kP 3 hM hK ?_;refine qu ?_;refine kP 4 hM hK ?_;refine qu ?_;refine kP 5 hM hK ?_;refine qu ?_
      first|refine kL 6 hM hK ?_|refine kM 6 hM hK ?_
      refine qu ?_;refine kP 7 hM hK ?_;refine qu ?_
      first|refine kL 8 hM hK ?_|refine kM 8 hM hK ?_
      refine qu ?_;refine zt (i:=9) (zF rfl) DN rfl (fun K' hK'=> ?_);go_wp2_with(first|(refine qf (XN _) ?_;clear hM;intro W1 hM)|(refine qf (XA _) ?_;clear hM;intro W1 hM));refine hK'.out _ _ (qW hM hK) ?_;clear hK' K';refine qu ?_;refine zt (i:=10) (zF rfl) DN rfl (fun K' hK'=> ?_);go_wp2_with(first|(refine qf (XN _) ?_;clear hM;intro W1 hM)|(refine qf (XA _) ?_;clear hM;intro W1 hM));refine hK'.out _ _ (qW hM hK) ?_;clear hK' K';refine qu ?_;refine kP 11 hM hK ?_;refine qu ?_;refine kP 12 hM hK ?_;refine qu ?_;refine' jd hM (i:=13) (zF rfl) DN rfl rfl rfl ?_ ?_ ?_ ?_ ?_ ?_ ?_ hK hne ?_;rotate_left 6;(·constructor);(·repeat constructor);(·repeat constructor);(·repeat constructor);(·exact uT rfl);(·rfl);(·exact zO rfl);(clear hM hK;intro W hM hK);refine qu ?_;refine kP 14 hM hK ?_;refine qu ?_;refine qF DN ?_;go_wp2_with(first|(refine DU ?_;clear hM;intro g W hM)|(go_at_call 48;refine cb hM (CH _) ?_;clear hM;intro W1 hM)|(go_at_call 110;(refine(LC _).mono ?_);rintro e W1 ⟨rfl,hb⟩;replace hM:=qz hM hb;clear hb)|(refine qf (P1 _) ?_;clear hM;intro W1 hM)|(refine qf (P2 _) ?_;clear hM;intro W1 hM)|(refine qf (P3 _) ?_;clear hM;intro W1 hM))
      all_goals
       (refine' qO hM rfl rfl Tryz.isAgg67 Tryz.sizeOf67 rfl rfl ?_ ?_ ⟨?_,hM.below⟩;rotate_left 2;(·repeat constructor);(·rfl);(·refine' ze ?_ ?_;rotate_left 1;(·exact HT.out);(·rfl)))
    )
 ·have XA:=fun W=>gu fx fy x.crs N DP DP DL W
  obtain⟨T0,E0,hT⟩:∃T0 E0,kf fx fy x.crs N=(T0,E0):=⟨_,_,rfl⟩;have HT:=hide ((HT0.out.trans (if_neg h8)).trans hT);rw[hT]at XA;dsimp only at XA;clear h8 HT0 hT;have hM:=qE w;go_enter Tryz.func51,Tryz.ntmps51;go_upto_region 26 with(first|(refine DU ?_;clear hM;intro g W hM)|(go_at_call 48;refine cb hM (CH _) ?_;clear hM;intro W1 hM)|(go_at_call 110;(refine(LC _).mono ?_);rintro e W1 ⟨rfl,hb⟩;replace hM:=qz hM hb;clear hb)|(refine qf (P1 _) ?_;clear hM;intro W1 hM)|(refine qf (P2 _) ?_;clear hM;intro W1 hM)|(refine qf (P3 _) ?_;clear hM;intro W1 hM))
  all_goals first
   |(exact absurd (show x.gap=true by assumption) (by rw[HG.out];simp))
   |(
      refine' yq hM DN (.tmp 12) rfl ?_ ?_;rotate_left 1;(·repeat constructor);(clear hM;intro W hM hK hne)
      first|refine kL 0 hM hK ?_|refine kM 0 hM hK ?_
      refine qu ?_;refine kP 1 hM hK ?_;refine qu ?_
      first|refine kL 2 hM hK ?_|refine kM 2 hM hK ?_
      refine qu ?_;refine kP 3 hM hK ?_;refine qu ?_;refine kP 4 hM hK ?_;refine qu ?_;refine kP 5 hM hK ?_;refine qu ?_
      first|refine kL 6 hM hK ?_|refine kM 6 hM hK ?_
      refine qu ?_;refine kP 7 hM hK ?_;refine qu ?_
      first|refine kL 8 hM hK ?_|refine kM 8 hM hK ?_
      refine qu ?_;refine zt (i:=9) (zF rfl) DN rfl (fun K' hK'=> ?_);go_wp2_with(first|(refine qf (XN _) ?_;clear hM;intro W1 hM)|(refine qf (XA _) ?_;clear hM;intro W1 hM));refine hK'.out _ _ (qW hM hK) ?_;clear hK' K';refine qu ?_;refine zt (i:=10) (zF rfl) DN rfl (fun K' hK'=> ?_);go_wp2_with(first|(refine qf (XN _) ?_;clear hM;intro W1 hM)|(refine qf (XA _) ?_;clear hM;intro W1 hM));refine hK'.out _ _ (qW hM hK) ?_;clear hK' K';refine qu ?_;refine kP 11 hM hK ?_;refine qu ?_;refine kP 12 hM hK ?_;refine qu ?_;refine' jd hM (i:=13) (zF rfl) DN rfl rfl rfl ?_ ?_ ?_ ?_ ?_ ?_ ?_ hK hne ?_;rotate_left 6;(·constructor);(·repeat constructor);(·repeat constructor);(·repeat constructor);(·exact uT rfl);(·rfl);(·exact zO rfl);(clear hM hK;intro W hM hK);refine qu ?_;refine kP 14 hM hK ?_;refine qu ?_;refine qF DN ?_;go_wp2_with(first|(refine DU ?_;clear hM;intro g W hM)|(go_at_call 48;refine cb hM (CH _) ?_;clear hM;intro W1 hM)|(go_at_call 110;(refine(LC _).mono ?_);rintro e W1 ⟨rfl,hb⟩;replace hM:=qz hM hb;clear hb)|(refine qf (P1 _) ?_;clear hM;intro W1 hM)|(refine qf (P2 _) ?_;clear hM;intro W1 hM)|(refine qf (P3 _) ?_;clear hM;intro W1 hM))
      all_goals
       (refine' qO hM rfl rfl Tryz.isAgg67 Tryz.sizeOf67 rfl rfl ?_ ?_ ⟨?_,hM.below⟩;rotate_left 2;(·repeat constructor);(·rfl);(·refine' ze ?_ ?_;rotate_left 1;(·exact HT.out);(·rfl)))
    )
theorem BB(fx fy c alt:Int)(x y:En)(spd bank oalt gr:Int)(hx:vT x)(hy:vT y)(w:World)(hG:x.gap=false)(hO:jY spd bank oalt gr=0)(hL:zU x=0)(v1:qw fx fy=true)(v2:qw x.ex x.ey=true)(v3:qw x.mx x.my=true)(hcr:0≤c∧c<129600000)(ha1: -200000≤alt)(ha2:alt≤6000000)(hk:x.ty=12):
 Calls Tryz.prog 51 #[.agg #[Iv fx,Iv fy],Iv c,Iv alt,.agg x.cells.toArray,.agg y.cells.toArray,.agg #[Iv spd,Iv bank,Iv oalt,Iv gr]] w fun e w'=>e= .returned (.tuple #[.agg (qp fx fy c alt x y spd bank oalt gr).1.cells.toArray,Iv (qp fx fy c alt x y spd bank oalt gr).2])∧Below w.heap.size w w':=by
 have HT:Hid (qp fx fy c alt x y spd bank oalt gr=kf x.ex x.ey x.crs x.dst):=hide (by
  unfold qp;rw[if_neg (by rw[hO];simp),if_neg (by rw[hG];simp),if_neg (by rw[hL];simp),if_neg (by rw[v1,v2,v3];simp),if_neg DL];unfold yT
  rw[if_neg (show¬(x.ty=1) by omega),if_neg (show¬(x.ty=2∨x.ty=4) by omega),if_neg (show¬(x.ty=3) by omega),if_neg (show¬(x.ty=5∨x.ty=6) by omega),if_neg (show¬(x.ty=7) by omega),if_neg (show¬(x.ty=11) by omega),if_pos (show x.ty=12 by omega)])
 have CH:=fun W=>jC spd bank oalt gr W
 have LC:=fun W=>zR x hx.leg W
 rw[hO]at CH;rw[hL]at LC;obtain⟨_,_,_,hg1,hg2⟩:=js hO;have hq:=jr hL;have P1:=fun W=>qL fx fy W
 rw[v1]at P1;have P2:=fun W=>qL x.ex x.ey W
 rw[v2]at P2;have P3:=fun W=>qL x.mx x.my W
 rw[v3]at P3;have c1:decide (c<0)=false:=decide_eq_false DL;have c2:decide (129600000≤c)=false:=decide_eq_false DL;have c3:decide (alt< -200000)=false:=decide_eq_false DL;have c4:decide (6000000<alt)=false:=decide_eq_false DL;obtain⟨⟨k1,k2⟩,⟨k3,k4⟩,⟨k5,k6⟩,⟨k7,k8⟩,⟨k9,k10⟩,⟨k11,k12,k13⟩,hturn0⟩:=hq;obtain⟨q1,q2,q3,q4,q5,q6,q7,q8,q9,q10,q11,q12,q13,q14,q15,q16,q17⟩:=Ph hk;have HK:=hide hk;have HG:=hide hG;clear hO hL v1 v2 v3 hturn0 hk hG;have hM:=qE w;go_enter Tryz.func51,Tryz.ntmps51;go_wp2_with(first|(refine DU ?_;clear hM;intro g W hM)|(go_at_call 48;refine cb hM (CH _) ?_;clear hM;intro W1 hM)|(go_at_call 110;(refine(LC _).mono ?_);rintro e W1 ⟨rfl,hb⟩;replace hM:=qz hM hb;clear hb)|(refine qf (P1 _) ?_;clear hM;intro W1 hM)|(refine qf (P2 _) ?_;clear hM;intro W1 hM)|(refine qf (P3 _) ?_;clear hM;intro W1 hM)|(go_at_call 113;refine(gu _ _ _ _ ?_ ?_ ?_ _).mono ?_;(·first|assumption|(unfold qK;omega));(·first|assumption|(unfold qK;omega));(·omega);rintro e W1 ⟨rfl,hb⟩;replace hM:=qz hM hb;clear hb))
 all_goals first
  |(exact absurd (show x.gap=true by assumption) (by rw[HG.out];simp))
  |(exact absurd hG (show¬x.gap=true by assumption))
  |(refine' qO hM rfl rfl Tryz.isAgg67 Tryz.sizeOf67 rfl rfl ?_ ?_ ⟨?_,hM.below⟩;rotate_left 2;(·repeat constructor);(·rfl);(·refine' ze ?_ ?_;rotate_left 1;(·exact HT.out.trans yI);(·rfl)))
theorem BC(fx fy c alt:Int)(x y:En)(spd bank oalt gr:Int)(hx:vT x)(hy:vT y)(w:World)(hG:x.gap=false)(hO:jY spd bank oalt gr=0)(hL:zU x=0)(v1:qw fx fy=true)(v2:qw x.ex x.ey=true)(v3:qw x.mx x.my=true)(hcr:0≤c∧c<129600000)(ha1: -200000≤alt)(ha2:alt≤6000000)(hk:x.ty=13):
 Calls Tryz.prog 51 #[.agg #[Iv fx,Iv fy],Iv c,Iv alt,.agg x.cells.toArray,.agg y.cells.toArray,.agg #[Iv spd,Iv bank,Iv oalt,Iv gr]] w fun e w'=>e= .returned (.tuple #[.agg (qp fx fy c alt x y spd bank oalt gr).1.cells.toArray,Iv (qp fx fy c alt x y spd bank oalt gr).2])∧Below w.heap.size w w':=by
 have HT:Hid (qp fx fy c alt x y spd bank oalt gr=gG x.ex x.ey x.crs):=hide (by
  unfold qp;rw[if_neg (by rw[hO];simp),if_neg (by rw[hG];simp),if_neg (by rw[hL];simp),if_neg (by rw[v1,v2,v3];simp),if_neg DL];unfold yT
  rw[if_neg (show¬(x.ty=1) by omega),if_neg (show¬(x.ty=2∨x.ty=4) by omega),if_neg (show¬(x.ty=3) by omega),if_neg (show¬(x.ty=5∨x.ty=6) by omega),if_neg (show¬(x.ty=7) by omega),if_neg (show¬(x.ty=11) by omega),if_neg (show¬(x.ty=12) by omega),if_pos (show x.ty=13 by omega)])
 have CH:=fun W=>jC spd bank oalt gr W
 have LC:=fun W=>zR x hx.leg W
 rw[hO]at CH;rw[hL]at LC;obtain⟨_,_,_,hg1,hg2⟩:=js hO;have hq:=jr hL;have P1:=fun W=>qL fx fy W
 rw[v1]at P1;have P2:=fun W=>qL x.ex x.ey W
 rw[v2]at P2;have P3:=fun W=>qL x.mx x.my W
 rw[v3]at P3;have c1:decide (c<0)=false:=decide_eq_false DL;have c2:decide (129600000≤c)=false:=decide_eq_false DL;have c3:decide (alt< -200000)=false:=decide_eq_false DL;have c4:decide (6000000<alt)=false:=decide_eq_false DL;obtain⟨⟨k1,k2⟩,⟨k3,k4⟩,⟨k5,k6⟩,⟨k7,k8⟩,⟨k9,k10⟩,⟨k11,k12,k13⟩,hturn0⟩:=hq;obtain⟨q1,q2,q3,q4,q5,q6,q7,q8,q9,q10,q11,q12,q13,q14,q15,q16,q17⟩:=Pi hk;have HK:=hide hk;have HG:=hide hG;clear hO hL v1 v2 v3 hturn0 hk hG;have XC:=fun W=>gu x.ex x.ey x.crs 300000 DP DP DL W
 obtain⟨T0,E0,hT⟩:∃T0 E0,kf x.ex x.ey x.crs 300000=(T0,E0):=⟨_,_,rfl⟩;have HU:=HT.out;unfold gG at HU;rw[hT]at XC HU;dsimp only at XC HU;clear hT HT;by_cases h0:E0=0
 ·subst h0;have HT:=hide HU;clear HU;have hM:=qE w;go_enter Tryz.func51,Tryz.ntmps51;go_wp2_with(first|(refine DU ?_;clear hM;intro g W hM)|(go_at_call 48;refine cb hM (CH _) ?_;clear hM;intro W1 hM)|(go_at_call 110;(refine(LC _).mono ?_);rintro e W1 ⟨rfl,hb⟩;replace hM:=qz hM hb;clear hb)|(refine qf (P1 _) ?_;clear hM;intro W1 hM)|(refine qf (P2 _) ?_;clear hM;intro W1 hM)|(refine qf (P3 _) ?_;clear hM;intro W1 hM)|(refine qf (XC _) ?_;clear hM;intro W1 hM))
  all_goals first
   |(exact absurd (show x.gap=true by assumption) (by rw[HG.out];simp))
   |(exact absurd hG (show¬x.gap=true by assumption))
   |(refine' qO hM rfl rfl Tryz.isAgg67 Tryz.sizeOf67 rfl rfl ?_ ?_ ⟨?_,hM.below⟩;rotate_left 2;(·repeat constructor);(·rfl);(·refine' ze ?_ ?_;rotate_left 1;(·exact HT.out);(·rfl)))
 ·have HT:=hide (HU.trans (if_neg h0));have hne:(E0==0)=false:=by simpa using h0
  clear HU h0;have hM:=qE w;go_enter Tryz.func51,Tryz.ntmps51;go_wp2_with(first|(refine DU ?_;clear hM;intro g W hM)|(go_at_call 48;refine cb hM (CH _) ?_;clear hM;intro W1 hM)|(go_at_call 110;(refine(LC _).mono ?_);rintro e W1 ⟨rfl,hb⟩;replace hM:=qz hM hb;clear hb)|(refine qf (P1 _) ?_;clear hM;intro W1 hM)|(refine qf (P2 _) ?_;clear hM;intro W1 hM)|(refine qf (P3 _) ?_;clear hM;intro W1 hM)|(refine qf (XC _) ?_;clear hM;intro W1 hM))
  all_goals first
   |(exact absurd (show x.gap=true by assumption) (by rw[HG.out];simp))
   |(exact absurd hG (show¬x.gap=true by assumption))
   |(refine' qO hM rfl rfl Tryz.isAgg67 Tryz.sizeOf67 rfl rfl ?_ ?_ ⟨?_,hM.below⟩;rotate_left 2;(·repeat constructor);(·rfl);(·refine' ze ?_ ?_;rotate_left 1;(·exact HT.out);(·rfl)))
theorem Tm(fx fy c alt:Int)(x y:En)(spd bank oalt gr:Int)(hx:vT x)(hy:vT y)(w:World)(hG:x.gap=false)(hO:jY spd bank oalt gr=0)(hL:zU x=0)(v1:qw fx fy=true)(v2:qw x.ex x.ey=true)(v3:qw x.mx x.my=true)(hcr:0≤c∧c<129600000)(ha1: -200000≤alt)(ha2:alt≤6000000)(hk:x.ty=8):
 Calls Tryz.prog 51 #[.agg #[Iv fx,Iv fy],Iv c,Iv alt,.agg x.cells.toArray,.agg y.cells.toArray,.agg #[Iv spd,Iv bank,Iv oalt,Iv gr]] w fun e w'=>e= .returned (.tuple #[.agg (qp fx fy c alt x y spd bank oalt gr).1.cells.toArray,Iv (qp fx fy c alt x y spd bank oalt gr).2])∧Below w.heap.size w w':=by
 have HT:Hid (qp fx fy c alt x y spd bank oalt gr=yt fx fy x):=hide (by
  unfold qp;rw[if_neg (by rw[hO];simp),if_neg (by rw[hG];simp),if_neg (by rw[hL];simp),if_neg (by rw[v1,v2,v3];simp),if_neg DL];unfold yT
  rw[if_neg (show¬(x.ty=1) by omega),if_neg (show¬(x.ty=2∨x.ty=4) by omega),if_neg (show¬(x.ty=3) by omega),if_neg (show¬(x.ty=5∨x.ty=6) by omega),if_neg (show¬(x.ty=7) by omega),if_neg (show¬(x.ty=11) by omega),if_neg (show¬(x.ty=12) by omega),if_neg (show¬(x.ty=13) by omega),if_pos (show x.ty=8 by omega)])
 have CH:=fun W=>jC spd bank oalt gr W
 have LC:=fun W=>zR x hx.leg W
 rw[hO]at CH;rw[hL]at LC;obtain⟨_,_,_,hg1,hg2⟩:=js hO;have hq:=jr hL;have P1:=fun W=>qL fx fy W
 rw[v1]at P1;have P2:=fun W=>qL x.ex x.ey W
 rw[v2]at P2;have P3:=fun W=>qL x.mx x.my W
 rw[v3]at P3;have c1:decide (c<0)=false:=decide_eq_false DL;have c2:decide (129600000≤c)=false:=decide_eq_false DL;have c3:decide (alt< -200000)=false:=decide_eq_false DL;have c4:decide (6000000<alt)=false:=decide_eq_false DL;obtain⟨⟨k1,k2⟩,⟨k3,k4⟩,⟨k5,k6⟩,⟨k7,k8⟩,⟨k9,k10⟩,⟨k11,k12,k13⟩,hturn0⟩:=hq;obtain⟨q1,q2,q3,q4,q5,q6,q7,q8,q9,q10,q11,q12,q13,q14,q15,q16,q17⟩:=Mq hk;have XC:=fun W=>fe fx fy x k5 k6 DP W
 simp only[En.cells,hG]at XC;have HK:=hide hk;have HG:=hide hG;clear hO hL v1 v2 v3 hturn0 hk hG;have hM:=qE w;go_enter Tryz.func51,Tryz.ntmps51;go_wp2_with(first|(refine DU ?_;clear hM;intro g W hM)|(go_at_call 48;refine cb hM (CH _) ?_;clear hM;intro W1 hM)|(go_at_call 110;(refine(LC _).mono ?_);rintro e W1 ⟨rfl,hb⟩;replace hM:=qz hM hb;clear hb)|(refine qf (P1 _) ?_;clear hM;intro W1 hM)|(refine qf (P2 _) ?_;clear hM;intro W1 hM)|(refine qf (P3 _) ?_;clear hM;intro W1 hM)|(refine qf (XC _) ?_;clear hM;intro W1 hM))
 all_goals first
  |(exact absurd (show x.gap=true by assumption) (by rw[HG.out];simp))
  |(exact absurd hG (show¬x.gap=true by assumption))
  |(refine' qO hM rfl rfl Tryz.isAgg67 Tryz.sizeOf67 rfl rfl ?_ ?_ ⟨?_,hM.below⟩;rotate_left 2;(·repeat constructor);(·rfl);(·refine' ze ?_ ?_;rotate_left 1;(·exact HT.out.trans yI);(·rfl)))
theorem BD(fx fy c alt:Int)(x y:En)(spd bank oalt gr:Int)(hx:vT x)(hy:vT y)(w:World)(hG:x.gap=false)(hO:jY spd bank oalt gr=0)(hL:zU x=0)(v1:qw fx fy=true)(v2:qw x.ex x.ey=true)(v3:qw x.mx x.my=true)(hcr:0≤c∧c<129600000)(ha1: -200000≤alt)(ha2:alt≤6000000)(hk:x.ty=10):
 Calls Tryz.prog 51 #[.agg #[Iv fx,Iv fy],Iv c,Iv alt,.agg x.cells.toArray,.agg y.cells.toArray,.agg #[Iv spd,Iv bank,Iv oalt,Iv gr]] w fun e w'=>e= .returned (.tuple #[.agg (qp fx fy c alt x y spd bank oalt gr).1.cells.toArray,Iv (qp fx fy c alt x y spd bank oalt gr).2])∧Below w.heap.size w w':=by
 have HT:Hid (qp fx fy c alt x y spd bank oalt gr=vR fx fy x):=hide (by
  unfold qp;rw[if_neg (by rw[hO];simp),if_neg (by rw[hG];simp),if_neg (by rw[hL];simp),if_neg (by rw[v1,v2,v3];simp),if_neg DL];unfold yT
  rw[if_neg (show¬(x.ty=1) by omega),if_neg (show¬(x.ty=2∨x.ty=4) by omega),if_neg (show¬(x.ty=3) by omega),if_neg (show¬(x.ty=5∨x.ty=6) by omega),if_neg (show¬(x.ty=7) by omega),if_neg (show¬(x.ty=11) by omega),if_neg (show¬(x.ty=12) by omega),if_neg (show¬(x.ty=13) by omega),if_neg (show¬(x.ty=8) by omega),if_pos (show x.ty=10 by omega)])
 have CH:=fun W=>jC spd bank oalt gr W
 have LC:=fun W=>zR x hx.leg W
 rw[hO]at CH;rw[hL]at LC;obtain⟨_,_,_,hg1,hg2⟩:=js hO;have hq:=jr hL;have P1:=fun W=>qL fx fy W
 rw[v1]at P1;have P2:=fun W=>qL x.ex x.ey W
 rw[v2]at P2;have P3:=fun W=>qL x.mx x.my W
 rw[v3]at P3;have c1:decide (c<0)=false:=decide_eq_false DL;have c2:decide (129600000≤c)=false:=decide_eq_false DL;have c3:decide (alt< -200000)=false:=decide_eq_false DL;have c4:decide (6000000<alt)=false:=decide_eq_false DL;obtain⟨⟨k1,k2⟩,⟨k3,k4⟩,⟨k5,k6⟩,⟨k7,k8⟩,⟨k9,k10⟩,⟨k11,k12,k13⟩,hturn0⟩:=hq;obtain⟨q1,q2,q3,q4,q5,q6,q7,q8,q9,q10,q11,q12,q13,q14,q15,q16,q17⟩:=Pf hk;have XC:=fun W=>ed fx fy x DP DP W
 simp only[En.cells,hG]at XC;have HK:=hide hk;have HG:=hide hG;clear hO hL v1 v2 v3 hturn0 hk hG;have hM:=qE w;go_enter Tryz.func51,Tryz.ntmps51;go_wp2_with(first|(refine DU ?_;clear hM;intro g W hM)|(go_at_call 48;refine cb hM (CH _) ?_;clear hM;intro W1 hM)|(go_at_call 110;(refine(LC _).mono ?_);rintro e W1 ⟨rfl,hb⟩;replace hM:=qz hM hb;clear hb)|(refine qf (P1 _) ?_;clear hM;intro W1 hM)|(refine qf (P2 _) ?_;clear hM;intro W1 hM)|(refine qf (P3 _) ?_;clear hM;intro W1 hM)|(refine qf (XC _) ?_;clear hM;intro W1 hM))
 all_goals first
  |(exact absurd (show x.gap=true by assumption) (by rw[HG.out];simp))
  |(exact absurd hG (show¬x.gap=true by assumption))
  |(refine' qO hM rfl rfl Tryz.isAgg67 Tryz.sizeOf67 rfl rfl ?_ ?_ ⟨?_,hM.below⟩;rotate_left 2;(·repeat constructor);(·rfl);(·refine' ze ?_ ?_;rotate_left 1;(·exact HT.out.trans yI);(·rfl)))
theorem Tn(fx fy c alt:Int)(x y:En)(spd bank oalt gr:Int)(hx:vT x)(hy:vT y)(w:World)(hG:x.gap=false)(hO:jY spd bank oalt gr=0)(hL:zU x=0)(v1:qw fx fy=true)(v2:qw x.ex x.ey=true)(v3:qw x.mx x.my=true)(hcr:0≤c∧c<129600000)(ha1: -200000≤alt)(ha2:alt≤6000000)(hk:x.ty=9):
 Calls Tryz.prog 51 #[.agg #[Iv fx,Iv fy],Iv c,Iv alt,.agg x.cells.toArray,.agg y.cells.toArray,.agg #[Iv spd,Iv bank,Iv oalt,Iv gr]] w fun e w'=>e= .returned (.tuple #[.agg (qp fx fy c alt x y spd bank oalt gr).1.cells.toArray,Iv (qp fx fy c alt x y spd bank oalt gr).2])∧Below w.heap.size w w':=by
 have HT:Hid (qp fx fy c alt x y spd bank oalt gr=yD fx fy x y):=hide (by
  unfold qp;rw[if_neg (by rw[hO];simp),if_neg (by rw[hG];simp),if_neg (by rw[hL];simp),if_neg (by rw[v1,v2,v3];simp),if_neg DL];unfold yT
  rw[if_neg (show¬(x.ty=1) by omega),if_neg (show¬(x.ty=2∨x.ty=4) by omega),if_neg (show¬(x.ty=3) by omega),if_neg (show¬(x.ty=5∨x.ty=6) by omega),if_neg (show¬(x.ty=7) by omega),if_neg (show¬(x.ty=11) by omega),if_neg (show¬(x.ty=12) by omega),if_neg (show¬(x.ty=13) by omega),if_neg (show¬(x.ty=8) by omega),if_neg (show¬(x.ty=10) by omega),if_pos (show x.ty=9 by omega)])
 have CH:=fun W=>jC spd bank oalt gr W
 have LC:=fun W=>zR x hx.leg W
 rw[hO]at CH;rw[hL]at LC;obtain⟨_,_,_,hg1,hg2⟩:=js hO;have hq:=jr hL;have P1:=fun W=>qL fx fy W
 rw[v1]at P1;have P2:=fun W=>qL x.ex x.ey W
 rw[v2]at P2;have P3:=fun W=>qL x.mx x.my W
 rw[v3]at P3;have c1:decide (c<0)=false:=decide_eq_false DL;have c2:decide (129600000≤c)=false:=decide_eq_false DL;have c3:decide (alt< -200000)=false:=decide_eq_false DL;have c4:decide (6000000<alt)=false:=decide_eq_false DL;obtain⟨⟨k1,k2⟩,⟨k3,k4⟩,⟨k5,k6⟩,⟨k7,k8⟩,⟨k9,k10⟩,⟨k11,k12,k13⟩,hturn0⟩:=hq;obtain⟨q1,q2,q3,q4,q5,q6,q7,q8,q9,q10,q11,q12,q13,q14,q15,q16,q17⟩:=Mr hk;have XC:=fun W=>ee fx fy x y DP hy.crs hy.tyb W
 simp only[En.cells,hG]at XC;have HK:=hide hk;have HG:=hide hG;clear hO hL v1 v2 v3 hturn0 hk hG;have hM:=qE w;go_enter Tryz.func51,Tryz.ntmps51;go_wp2_with(first|(refine DU ?_;clear hM;intro g W hM)|(go_at_call 48;refine cb hM (CH _) ?_;clear hM;intro W1 hM)|(go_at_call 110;(refine(LC _).mono ?_);rintro e W1 ⟨rfl,hb⟩;replace hM:=qz hM hb;clear hb)|(refine qf (P1 _) ?_;clear hM;intro W1 hM)|(refine qf (P2 _) ?_;clear hM;intro W1 hM)|(refine qf (P3 _) ?_;clear hM;intro W1 hM)|(refine qf (XC _) ?_;clear hM;intro W1 hM))
 all_goals first
  |(exact absurd (show x.gap=true by assumption) (by rw[HG.out];simp))
  |(exact absurd hG (show¬x.gap=true by assumption))
  |(refine' qO hM rfl rfl Tryz.isAgg67 Tryz.sizeOf67 rfl rfl ?_ ?_ ⟨?_,hM.below⟩;rotate_left 2;(·repeat constructor);(·rfl);(·refine' ze ?_ ?_;rotate_left 1;(·exact HT.out.trans yI);(·rfl)))
theorem BF(fx fy c alt:Int)(x y:En)(spd bank oalt gr:Int)(hx:vT x)(hy:vT y)(w:World)(hG:x.gap=false)(hO:jY spd bank oalt gr=0)(hL:zU x=0)(v1:qw fx fy=true)(v2:qw x.ex x.ey=true)(v3:qw x.mx x.my=true)(hcr:0≤c∧c<129600000)(ha1: -200000≤alt)(ha2:alt≤6000000)(hk:x.ty=14):
 Calls Tryz.prog 51 #[.agg #[Iv fx,Iv fy],Iv c,Iv alt,.agg x.cells.toArray,.agg y.cells.toArray,.agg #[Iv spd,Iv bank,Iv oalt,Iv gr]] w fun e w'=>e= .returned (.tuple #[.agg (qp fx fy c alt x y spd bank oalt gr).1.cells.toArray,Iv (qp fx fy c alt x y spd bank oalt gr).2])∧Below w.heap.size w w':=by
 have HT:Hid (qp fx fy c alt x y spd bank oalt gr=(jq c x,0)):=hide (by
  unfold qp;rw[if_neg (by rw[hO];simp),if_neg (by rw[hG];simp),if_neg (by rw[hL];simp),if_neg (by rw[v1,v2,v3];simp),if_neg DL];unfold yT
  rw[if_neg (show¬(x.ty=1) by omega),if_neg (show¬(x.ty=2∨x.ty=4) by omega),if_neg (show¬(x.ty=3) by omega),if_neg (show¬(x.ty=5∨x.ty=6) by omega),if_neg (show¬(x.ty=7) by omega),if_neg (show¬(x.ty=11) by omega),if_neg (show¬(x.ty=12) by omega),if_neg (show¬(x.ty=13) by omega),if_neg (show¬(x.ty=8) by omega),if_neg (show¬(x.ty=10) by omega),if_neg (show¬(x.ty=9) by omega)])
 have CH:=fun W=>jC spd bank oalt gr W
 have LC:=fun W=>zR x hx.leg W
 rw[hO]at CH;rw[hL]at LC;obtain⟨_,_,_,hg1,hg2⟩:=js hO;have hq:=jr hL;have P1:=fun W=>qL fx fy W
 rw[v1]at P1;have P2:=fun W=>qL x.ex x.ey W
 rw[v2]at P2;have P3:=fun W=>qL x.mx x.my W
 rw[v3]at P3;have c1:decide (c<0)=false:=decide_eq_false DL;have c2:decide (129600000≤c)=false:=decide_eq_false DL;have c3:decide (alt< -200000)=false:=decide_eq_false DL;have c4:decide (6000000<alt)=false:=decide_eq_false DL;obtain⟨⟨k1,k2⟩,⟨k3,k4⟩,⟨k5,k6⟩,⟨k7,k8⟩,⟨k9,k10⟩,⟨k11,k12,k13⟩,hturn0⟩:=hq;obtain⟨q1,q2,q3,q4,q5,q6,q7,q8,q9,q10,q11,q12,q13,q14,q15,q16,q17⟩:=Pj hk;have HK:=hide hk;have HG:=hide hG;clear hO hL v1 v2 v3 hturn0 hk hG;have hM:=qE w;go_enter Tryz.func51,Tryz.ntmps51;go_wp2_with(first|(refine DU ?_;clear hM;intro g W hM)|(go_at_call 48;refine cb hM (CH _) ?_;clear hM;intro W1 hM)|(go_at_call 110;(refine(LC _).mono ?_);rintro e W1 ⟨rfl,hb⟩;replace hM:=qz hM hb;clear hb)|(refine qf (P1 _) ?_;clear hM;intro W1 hM)|(refine qf (P2 _) ?_;clear hM;intro W1 hM)|(refine qf (P3 _) ?_;clear hM;intro W1 hM))
 all_goals first
  |(exact absurd (show x.gap=true by assumption) (by rw[HG.out];simp))
  |(exact absurd hG (show¬x.gap=true by assumption))
  |(refine' qO hM rfl rfl Tryz.isAgg67 Tryz.sizeOf67 rfl rfl ?_ ?_ ⟨?_,hM.below⟩;rotate_left 2;(·repeat constructor);(·rfl);(·exact zMRefE10))
theorem BG(fx fy c alt:Int)(x y:En)(spd bank oalt gr:Int)(hx:vT x)(hy:vT y)(w:World)(hG:x.gap=false)(hO:jY spd bank oalt gr=0)(hL:zU x=0)(v1:qw fx fy=true)(v2:qw x.ex x.ey=true)(v3:qw x.mx x.my=true)(hcr:0≤c∧c<129600000)(ha1: -200000≤alt)(ha2:alt≤6000000)(hk:x.ty=15):
 Calls Tryz.prog 51 #[.agg #[Iv fx,Iv fy],Iv c,Iv alt,.agg x.cells.toArray,.agg y.cells.toArray,.agg #[Iv spd,Iv bank,Iv oalt,Iv gr]] w fun e w'=>e= .returned (.tuple #[.agg (qp fx fy c alt x y spd bank oalt gr).1.cells.toArray,Iv (qp fx fy c alt x y spd bank oalt gr).2])∧Below w.heap.size w w':=by
 have HT:Hid (qp fx fy c alt x y spd bank oalt gr=(jq c x,0)):=hide (by
  unfold qp;rw[if_neg (by rw[hO];simp),if_neg (by rw[hG];simp),if_neg (by rw[hL];simp),if_neg (by rw[v1,v2,v3];simp),if_neg DL];unfold yT
  rw[if_neg (show¬(x.ty=1) by omega),if_neg (show¬(x.ty=2∨x.ty=4) by omega),if_neg (show¬(x.ty=3) by omega),if_neg (show¬(x.ty=5∨x.ty=6) by omega),if_neg (show¬(x.ty=7) by omega),if_neg (show¬(x.ty=11) by omega),if_neg (show¬(x.ty=12) by omega),if_neg (show¬(x.ty=13) by omega),if_neg (show¬(x.ty=8) by omega),if_neg (show¬(x.ty=10) by omega),if_neg (show¬(x.ty=9) by omega)])
 have CH:=fun W=>jC spd bank oalt gr W
 have LC:=fun W=>zR x hx.leg W
 rw[hO]at CH;rw[hL]at LC;obtain⟨_,_,_,hg1,hg2⟩:=js hO;have hq:=jr hL;have P1:=fun W=>qL fx fy W
 rw[v1]at P1;have P2:=fun W=>qL x.ex x.ey W
 rw[v2]at P2;have P3:=fun W=>qL x.mx x.my W
 rw[v3]at P3;have c1:decide (c<0)=false:=decide_eq_false DL;have c2:decide (129600000≤c)=false:=decide_eq_false DL;have c3:decide (alt< -200000)=false:=decide_eq_false DL;have c4:decide (6000000<alt)=false:=decide_eq_false DL;obtain⟨⟨k1,k2⟩,⟨k3,k4⟩,⟨k5,k6⟩,⟨k7,k8⟩,⟨k9,k10⟩,⟨k11,k12,k13⟩,hturn0⟩:=hq;obtain⟨q1,q2,q3,q4,q5,q6,q7,q8,q9,q10,q11,q12,q13,q14,q15,q16,q17⟩:=Pk hk;have HK:=hide hk;have HG:=hide hG;clear hO hL v1 v2 v3 hturn0 hk hG;have hM:=qE w;go_enter Tryz.func51,Tryz.ntmps51;go_wp2_with(first|(refine DU ?_;clear hM;intro g W hM)|(go_at_call 48;refine cb hM (CH _) ?_;clear hM;intro W1 hM)|(go_at_call 110;(refine(LC _).mono ?_);rintro e W1 ⟨rfl,hb⟩;replace hM:=qz hM hb;clear hb)|(refine qf (P1 _) ?_;clear hM;intro W1 hM)|(refine qf (P2 _) ?_;clear hM;intro W1 hM)|(refine qf (P3 _) ?_;clear hM;intro W1 hM))
 all_goals first
  |(exact absurd (show x.gap=true by assumption) (by rw[HG.out];simp))
  |(exact absurd hG (show¬x.gap=true by assumption))
  |(refine' qO hM rfl rfl Tryz.isAgg67 Tryz.sizeOf67 rfl rfl ?_ ?_ ⟨?_,hM.below⟩;rotate_left 2;(·repeat constructor);(·rfl);(·exact zMRefE10))
theorem BH(fx fy c alt:Int)(x y:En)(spd bank oalt gr:Int)(hx:vT x)(hy:vT y)(w:World)(hG:x.gap=false)(hO:jY spd bank oalt gr=0)(hL:zU x=0)(v1:qw fx fy=true)(v2:qw x.ex x.ey=true)(v3:qw x.mx x.my=true)(hcr:0≤c∧c<129600000)(ha1: -200000≤alt)(ha2:alt≤6000000)(hk:x.ty=16):
 Calls Tryz.prog 51 #[.agg #[Iv fx,Iv fy],Iv c,Iv alt,.agg x.cells.toArray,.agg y.cells.toArray,.agg #[Iv spd,Iv bank,Iv oalt,Iv gr]] w fun e w'=>e= .returned (.tuple #[.agg (qp fx fy c alt x y spd bank oalt gr).1.cells.toArray,Iv (qp fx fy c alt x y spd bank oalt gr).2])∧Below w.heap.size w w':=by
 have HT:Hid (qp fx fy c alt x y spd bank oalt gr=(jq c x,0)):=hide (by
  unfold qp;rw[if_neg (by rw[hO];simp),if_neg (by rw[hG];simp),if_neg (by rw[hL];simp),if_neg (by rw[v1,v2,v3];simp),if_neg DL];unfold yT
  rw[if_neg (show¬(x.ty=1) by omega),if_neg (show¬(x.ty=2∨x.ty=4) by omega),if_neg (show¬(x.ty=3) by omega),if_neg (show¬(x.ty=5∨x.ty=6) by omega),if_neg (show¬(x.ty=7) by omega),if_neg (show¬(x.ty=11) by omega),if_neg (show¬(x.ty=12) by omega),if_neg (show¬(x.ty=13) by omega),if_neg (show¬(x.ty=8) by omega),if_neg (show¬(x.ty=10) by omega),if_neg (show¬(x.ty=9) by omega)])
 have CH:=fun W=>jC spd bank oalt gr W
 have LC:=fun W=>zR x hx.leg W
 rw[hO]at CH;rw[hL]at LC;obtain⟨_,_,_,hg1,hg2⟩:=js hO;have hq:=jr hL;have P1:=fun W=>qL fx fy W
 rw[v1]at P1;have P2:=fun W=>qL x.ex x.ey W
 rw[v2]at P2;have P3:=fun W=>qL x.mx x.my W
 rw[v3]at P3;have c1:decide (c<0)=false:=decide_eq_false DL;have c2:decide (129600000≤c)=false:=decide_eq_false DL;have c3:decide (alt< -200000)=false:=decide_eq_false DL;have c4:decide (6000000<alt)=false:=decide_eq_false DL;obtain⟨⟨k1,k2⟩,⟨k3,k4⟩,⟨k5,k6⟩,⟨k7,k8⟩,⟨k9,k10⟩,⟨k11,k12,k13⟩,hturn0⟩:=hq;obtain⟨q1,q2,q3,q4,q5,q6,q7,q8,q9,q10,q11,q12,q13,q14,q15,q16,q17⟩:=Pm hk;have HK:=hide hk;have HG:=hide hG;clear hO hL v1 v2 v3 hturn0 hk hG;have hM:=qE w;go_enter Tryz.func51,Tryz.ntmps51;go_wp2_with(first|(refine DU ?_;clear hM;intro g W hM)|(go_at_call 48;refine cb hM (CH _) ?_;clear hM;intro W1 hM)|(go_at_call 110;(refine(LC _).mono ?_);rintro e W1 ⟨rfl,hb⟩;replace hM:=qz hM hb;clear hb)|(refine qf (P1 _) ?_;clear hM;intro W1 hM)|(refine qf (P2 _) ?_;clear hM;intro W1 hM)|(refine qf (P3 _) ?_;clear hM;intro W1 hM))
 all_goals first
  |(exact absurd (show x.gap=true by assumption) (by rw[HG.out];simp))
  |(exact absurd hG (show¬x.gap=true by assumption))
  |(refine' qO hM rfl rfl Tryz.isAgg67 Tryz.sizeOf67 rfl rfl ?_ ?_ ⟨?_,hM.below⟩;rotate_left 2;(·repeat constructor);(·rfl);(·exact zMRefE10))
theorem BI(fx fy c alt:Int)(x y:En)(spd bank oalt gr:Int)(hx:vT x)(hy:vT y)(w:World)(hG:x.gap=false)(hO:jY spd bank oalt gr=0)(hL:zU x=0)(v1:qw fx fy=true)(v2:qw x.ex x.ey=true)(v3:qw x.mx x.my=true)(hcr:0≤c∧c<129600000)(ha1: -200000≤alt)(ha2:alt≤6000000)(hk:x.ty=17):
 Calls Tryz.prog 51 #[.agg #[Iv fx,Iv fy],Iv c,Iv alt,.agg x.cells.toArray,.agg y.cells.toArray,.agg #[Iv spd,Iv bank,Iv oalt,Iv gr]] w fun e w'=>e= .returned (.tuple #[.agg (qp fx fy c alt x y spd bank oalt gr).1.cells.toArray,Iv (qp fx fy c alt x y spd bank oalt gr).2])∧Below w.heap.size w w':=by
 have HT:Hid (qp fx fy c alt x y spd bank oalt gr=(jq c x,0)):=hide (by
  unfold qp;rw[if_neg (by rw[hO];simp),if_neg (by rw[hG];simp),if_neg (by rw[hL];simp),if_neg (by rw[v1,v2,v3];simp),if_neg DL];unfold yT
  rw[if_neg (show¬(x.ty=1) by omega),if_neg (show¬(x.ty=2∨x.ty=4) by omega),if_neg (show¬(x.ty=3) by omega),if_neg (show¬(x.ty=5∨x.ty=6) by omega),if_neg (show¬(x.ty=7) by omega),if_neg (show¬(x.ty=11) by omega),if_neg (show¬(x.ty=12) by omega),if_neg (show¬(x.ty=13) by omega),if_neg (show¬(x.ty=8) by omega),if_neg (show¬(x.ty=10) by omega),if_neg (show¬(x.ty=9) by omega)])
 have CH:=fun W=>jC spd bank oalt gr W
 have LC:=fun W=>zR x hx.leg W
 rw[hO]at CH;rw[hL]at LC;obtain⟨_,_,_,hg1,hg2⟩:=js hO;have hq:=jr hL;have P1:=fun W=>qL fx fy W
 rw[v1]at P1;have P2:=fun W=>qL x.ex x.ey W
 rw[v2]at P2;have P3:=fun W=>qL x.mx x.my W
 rw[v3]at P3;have c1:decide (c<0)=false:=decide_eq_false DL;have c2:decide (129600000≤c)=false:=decide_eq_false DL;have c3:decide (alt< -200000)=false:=decide_eq_false DL;have c4:decide (6000000<alt)=false:=decide_eq_false DL;obtain⟨⟨k1,k2⟩,⟨k3,k4⟩,⟨k5,k6⟩,⟨k7,k8⟩,⟨k9,k10⟩,⟨k11,k12,k13⟩,hturn0⟩:=hq;obtain⟨q1,q2,q3,q4,q5,q6,q7,q8,q9,q10,q11,q12,q13,q14,q15,q16,q17⟩:=Pn hk;have HK:=hide hk;have HG:=hide hG;clear hO hL v1 v2 v3 hturn0 hk hG;have hM:=qE w;go_enter Tryz.func51,Tryz.ntmps51;go_wp2_with(first|(refine DU ?_;clear hM;intro g W hM)|(go_at_call 48;refine cb hM (CH _) ?_;clear hM;intro W1 hM)|(go_at_call 110;(refine(LC _).mono ?_);rintro e W1 ⟨rfl,hb⟩;replace hM:=qz hM hb;clear hb)|(refine qf (P1 _) ?_;clear hM;intro W1 hM)|(refine qf (P2 _) ?_;clear hM;intro W1 hM)|(refine qf (P3 _) ?_;clear hM;intro W1 hM)|(go_at_call 118;(with_reducible refine(jl _ ?_ _).mono ?_);(·first|assumption|(unfold qK;omega));rintro e W1 ⟨rfl,rfl⟩))
 all_goals first
  |(exact absurd (show x.gap=true by assumption) (by rw[HG.out];simp))
  |(exact absurd hG (show¬x.gap=true by assumption))
  |(refine' qO hM rfl rfl Tryz.isAgg67 Tryz.sizeOf67 rfl rfl ?_ ?_ ⟨?_,hM.below⟩;rotate_left 2;(·repeat constructor);(·rfl);(·exact zMRefE10))
set_option maxRecDepth 100000 in
set_option maxHeartbeats 8000000 in
theorem BJ(fx fy c alt:Int)(x y:En)(spd bank oalt gr:Int)(hx:vT x)(hy:vT y)(w:World)(hG:x.gap=false)(hO:jY spd bank oalt gr=0)(hL:zU x=0)(v1:qw fx fy=true)(v2:qw x.ex x.ey=true)(v3:qw x.mx x.my=true)(hcr:0≤c∧c<129600000)(ha1: -200000≤alt)(ha2:alt≤6000000)(hk:x.ty=11):
 Calls Tryz.prog 51 #[.agg #[Iv fx,Iv fy],Iv c,Iv alt,.agg x.cells.toArray,.agg y.cells.toArray,.agg #[Iv spd,Iv bank,Iv oalt,Iv gr]] w fun e w'=>e= .returned (.tuple #[.agg (qp fx fy c alt x y spd bank oalt gr).1.cells.toArray,Iv (qp fx fy c alt x y spd bank oalt gr).2])∧Below w.heap.size w w':=by
 have HT:Hid (qp fx fy c alt x y spd bank oalt gr=yS x.ex x.ey alt x gr):=hide (by
  unfold qp;rw[if_neg (by rw[hO];simp),if_neg (by rw[hG];simp),if_neg (by rw[hL];simp),if_neg (by rw[v1,v2,v3];simp),if_neg DL];unfold yT
  rw[if_neg (show¬(x.ty=1) by omega),if_neg (show¬(x.ty=2∨x.ty=4) by omega),if_neg (show¬(x.ty=3) by omega),if_neg (show¬(x.ty=5∨x.ty=6) by omega),if_neg (show¬(x.ty=7) by omega),if_pos (show x.ty=11 by omega)])
 have CH:=fun W=>jC spd bank oalt gr W
 have LC:=fun W=>zR x hx.leg W
 rw[hO]at CH;rw[hL]at LC;obtain⟨_,_,_,hg1,hg2⟩:=js hO;have hq:=jr hL;have P1:=fun W=>qL fx fy W
 rw[v1]at P1;have P2:=fun W=>qL x.ex x.ey W
 rw[v2]at P2;have P3:=fun W=>qL x.mx x.my W
 rw[v3]at P3;have c1:decide (c<0)=false:=decide_eq_false DL;have c2:decide (129600000≤c)=false:=decide_eq_false DL;have c3:decide (alt< -200000)=false:=decide_eq_false DL;have c4:decide (6000000<alt)=false:=decide_eq_false DL;obtain⟨⟨k1,k2⟩,⟨k3,k4⟩,⟨k5,k6⟩,⟨k7,k8⟩,⟨k9,k10⟩,⟨k11,k12,k13⟩,hturn0⟩:=hq;obtain⟨q1,q2,q3,q4,q5,q6,q7,q8,q9,q10,q11,q12,q13,q14,q15,q16,q17⟩:=Pg hk;have HK:=hide hk;have HG:=hide hG;clear hO hL v1 v2 v3 hturn0 hk hG;have NB:=JV ha1 (show x.lo≤6000000 by omega) hg1;have XN:=fun W=>VO alt x.lo gr ha1 ha2 k11 DL hg1 hg2 W
 obtain⟨N,hN⟩:∃N,kF alt x.lo gr=N:=⟨_,rfl⟩;rw[hN]at XN NB;have HT0:Hid (qp fx fy c alt x y spd bank oalt gr=if N>8000000 then(Tk.zero,2)else kf x.ex x.ey x.crs N):=hide (by rw[HT.out];unfold yS;rw[hN]);clear hN HT;by_cases h8:N>8000000
 ·have XA:=fun W=>VN x.ex x.ey x.crs N h8 W
  have HT:=hide (HT0.out.trans (if_pos h8));clear h8 HT0;have hM:=qE w;go_enter Tryz.func51,Tryz.ntmps51;go_upto_region 28 with(first|(refine DU ?_;clear hM;intro g W hM)|(go_at_call 48;refine cb hM (CH _) ?_;clear hM;intro W1 hM)|(go_at_call 110;(refine(LC _).mono ?_);rintro e W1 ⟨rfl,hb⟩;replace hM:=qz hM hb;clear hb)|(refine qf (P1 _) ?_;clear hM;intro W1 hM)|(refine qf (P2 _) ?_;clear hM;intro W1 hM)|(refine qf (P3 _) ?_;clear hM;intro W1 hM))
  all_goals first
   |(exact absurd (show x.gap=true by assumption) (by rw[HG.out];simp))
   |(
      refine' yq hM DN (.tmp 12) rfl ?_ ?_;rotate_left 1;(·repeat constructor);(clear hM;intro W hM hK hne);refine kP 0 hM hK ?_;refine qu ?_
      first|refine kL 1 hM hK ?_|refine kM 1 hM hK ?_
      refine qu ?_;refine kP 2 hM hK ?_;refine qu ?_
      first|refine kL 3 hM hK ?_|refine kM 3 hM hK ?_
      refine qu ?_;refine kP 4 hM hK ?_;refine qu ?_;refine kP 5 hM hK ?_;refine qu ?_;refine kP 6 hM hK ?_;refine qu ?_
      first|refine kL 7 hM hK ?_|refine kM 7 hM hK ?_
      refine qu ?_;refine kP 8 hM hK ?_;refine qu ?_
      first|refine kL 9 hM hK ?_|refine kM 9 hM hK ?_
      refine qu ?_;refine zt (i:=10) (zF rfl) DN rfl (fun K' hK'=> ?_);go_wp2_with(first|(refine qf (XN _) ?_;clear hM;intro W1 hM)|(refine qf (XA _) ?_;clear hM;intro W1 hM));refine hK'.out _ _ (qW hM hK) ?_;clear hK' K';refine qu ?_;refine zt (i:=11) (zF rfl) DN rfl (fun K' hK'=> ?_);go_wp2_with(first|(refine qf (XN _) ?_;clear hM;intro W1 hM)|(refine qf (XA _) ?_;clear hM;intro W1 hM));refine hK'.out _ _ (qW hM hK) ?_;clear hK' K';refine qu ?_;refine kP 12 hM hK ?_;refine qu ?_;refine kP 13 hM hK ?_;refine qu ?_;refine' jd hM (i:=14) (zF rfl) DN rfl rfl rfl ?_ ?_ ?_ ?_ ?_ ?_ ?_ hK hne ?_;rotate_left 6;(·constructor);(·repeat constructor);(·repeat constructor);(·repeat constructor);(·exact uT rfl);(·rfl);(·exact zO rfl);(clear hM hK;intro W hM hK);refine qu ?_;refine kP 15 hM hK ?_;refine qu ?_;refine qF DN ?_;go_wp2_with(first|(refine DU ?_;clear hM;intro g W hM)|(go_at_call 48;refine cb hM (CH _) ?_;clear hM;intro W1 hM)|(go_at_call 110;(refine(LC _).mono ?_);rintro e W1 ⟨rfl,hb⟩;replace hM:=qz hM hb;clear hb)|(refine qf (P1 _) ?_;clear hM;intro W1 hM)|(refine qf (P2 _) ?_;clear hM;intro W1 hM)|(refine qf (P3 _) ?_;clear hM;intro W1 hM))
      all_goals
       (refine' qO hM rfl rfl Tryz.isAgg67 Tryz.sizeOf67 rfl rfl ?_ ?_ ⟨?_,hM.below⟩;rotate_left 2;(·repeat constructor);(·rfl);(·refine' ze ?_ ?_;rotate_left 1;(·exact HT.out);(·rfl)))
    )
 ·have XA:=fun W=>gu x.ex x.ey x.crs N DP DP DL W
  obtain⟨T0,E0,hT⟩:∃T0 E0,kf x.ex x.ey x.crs N=(T0,E0):=⟨_,_,rfl⟩;have HT:=hide ((HT0.out.trans (if_neg h8)).trans hT);rw[hT]at XA;dsimp only at XA;clear h8 HT0 hT;have hM:=qE w;go_enter Tryz.func51,Tryz.ntmps51;go_upto_region 28 with(first|(refine DU ?_;clear hM;intro g W hM)|(go_at_call 48;refine cb hM (CH _) ?_;clear hM;intro W1 hM)|(go_at_call 110;(refine(LC _).mono ?_);rintro e W1 ⟨rfl,hb⟩;replace hM:=qz hM hb;clear hb)|(refine qf (P1 _) ?_;clear hM;intro W1 hM)|(refine qf (P2 _) ?_;clear hM;intro W1 hM)|(refine qf (P3 _) ?_;clear hM;intro W1 hM))
  all_goals first
   |(exact absurd (show x.gap=true by assumption) (by rw[HG.out];simp))
   |(
      refine' yq hM DN (.tmp 12) rfl ?_ ?_;rotate_left 1;(·repeat constructor);(clear hM;intro W hM hK hne);refine kP 0 hM hK ?_;refine qu ?_
      first|refine kL 1 hM hK ?_|refine kM 1 hM hK ?_
      refine qu ?_;refine kP 2 hM hK ?_;refine qu ?_
      first|refine kL 3 hM hK ?_|refine kM 3 hM hK ?_
      refine qu ?_;refine kP 4 hM hK ?_;refine qu ?_;refine kP 5 hM hK ?_;refine qu ?_;refine kP 6 hM hK ?_;refine qu ?_
      first|refine kL 7 hM hK ?_|refine kM 7 hM hK ?_
      refine qu ?_;refine kP 8 hM hK ?_;refine qu ?_
      first|refine kL 9 hM hK ?_|refine kM 9 hM hK ?_
      refine qu ?_;refine zt (i:=10) (zF rfl) DN rfl (fun K' hK'=> ?_);go_wp2_with(first|(refine qf (XN _) ?_;clear hM;intro W1 hM)|(refine qf (XA _) ?_;clear hM;intro W1 hM));refine hK'.out _ _ (qW hM hK) ?_;clear hK' K';refine qu ?_;refine zt (i:=11) (zF rfl) DN rfl (fun K' hK'=> ?_);go_wp2_with(first|(refine qf (XN _) ?_;clear hM;intro W1 hM)|(refine qf (XA _) ?_;clear hM;intro W1 hM));refine hK'.out _ _ (qW hM hK) ?_;clear hK' K';refine qu ?_;refine kP 12 hM hK ?_;refine qu ?_;refine kP 13 hM hK ?_;refine qu ?_;refine' jd hM (i:=14) (zF rfl) DN rfl rfl rfl ?_ ?_ ?_ ?_ ?_ ?_ ?_ hK hne ?_;rotate_left 6;(·constructor);(·repeat constructor);(·repeat constructor);(·repeat constructor);(·exact uT rfl);(·rfl);(·exact zO rfl);(clear hM hK;intro W hM hK);refine qu ?_;refine kP 15 hM hK ?_;refine qu ?_;refine qF DN ?_;go_wp2_with(first|(refine DU ?_;clear hM;intro g W hM)|(go_at_call 48;refine cb hM (CH _) ?_;clear hM;intro W1 hM)|(go_at_call 110;(refine(LC _).mono ?_);rintro e W1 ⟨rfl,hb⟩;replace hM:=qz hM hb;clear hb)|(refine qf (P1 _) ?_;clear hM;intro W1 hM)|(refine qf (P2 _) ?_;clear hM;intro W1 hM)|(refine qf (P3 _) ?_;clear hM;intro W1 hM))
      all_goals
       (refine' qO hM rfl rfl Tryz.isAgg67 Tryz.sizeOf67 rfl rfl ?_ ?_ ⟨?_,hM.below⟩;rotate_left 2;(·repeat constructor);(·rfl);(·refine' ze ?_ ?_;rotate_left 1;(·exact HT.out);(·rfl)))
    )
end Go.Proofs.YtcgpbnlhnafhjaaGreatDoor
