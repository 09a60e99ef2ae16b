/-
  The reference of chapter 25: distances, radials, courses to fixes, intercepts, arcs; for all arguments.
-/
import Derived.Test.YtcgpbnlhnafhjaaGreatDoorMResD
import Derived.Test.YtcgpbnlhnafhjaaGreatDoorMResA
set_option maxRecDepth 100000
set_option maxHeartbeats 16000000
namespace Go.Proofs.YtcgpbnlhnafhjaaGreatDoor
open Go.RowKit
set_option linter.unusedVariables false
set_option linter.unusedSimpArgs false
theorem zMRefB1{P:Prop}(h:P:=by(unfold yD;(try dsimp only);(repeat(first|(refine(if_pos ?_).trans ?_;(·exact zMRefB0))|(refine(if_neg ?_).trans ?_;(·exact zMRefB0))));rfl)):P:=h
theorem zMRefB0{P:Prop}(h:P:=by first|omega|(exact jc DM)|(exact zI DM)|(simp_all;done)|(simp_all;omega)):P:=h
theorem Wv{n k:Int}(h0:0≤n)(hk:0≤k)(h:n≤k*k):(vu n.toNat:Int)≤k:=by
 have:=tj n h0;exact ZV hk DL
theorem Ww(ax ay bx b_y px py:Int):(-5656855≤(xz ax ay bx b_y px py).1∧(xz ax ay bx b_y px py).1≤5656855)∧(-5656855≤(xz ax ay bx b_y px py).2.1∧(xz ax ay bx b_y px py).2.1≤5656855):=by
 unfold xz;split
 ·simp
 ·rename_i hv;split
  ·simp
  ·rename_i hne;have hv2:(qw ax ay=true∧qw bx b_y=true)∧qw px py=true:=by simpa using hv
   have h1:=(gm _ _).1 hv2.1.1;have h3:=(gm _ _).1 hv2.2;have hs:=JS hne;have p3:=QY (a:=px-ax) (m:=4000000) DL DL;have p4:=QY (a:=py-ay) (m:=4000000) DL DL;have hP:(px-ax)*(px-ax)+(py-ay)*(py-ay)≤5656855*5656855:=DL;have d1:=wX (bx-ax) (b_y-ay) (px-ax) (py-ay);have d2:=wV (bx-ax) (b_y-ay) (px-ax) (py-ay);have hm:((px-ax)*(px-ax)+(py-ay)*(py-ay))*((bx-ax)*(bx-ax)+(b_y-ay)*(b_y-ay))≤5656855*5656855*((bx-ax)*(bx-ax)+(b_y-ay)*(b_y-ay)):=Int.mul_le_mul_of_nonneg_right hP (by have:=jk (bx-ax);have:=jk (b_y-ay);omega);have n1:=mN (n:=(bx-ax)*(px-ax)+(b_y-ay)*(py-ay)) (k:=5656855) hs DL (by unfold zV;omega);have n2:=mN (n:= -((bx-ax)*(py-ay)-(b_y-ay)*(px-ax))) (k:=5656855) hs DL (by rw[Int.neg_mul_neg];unfold zV;omega);have c1:=VI ((bx-ax)*(px-ax)+(b_y-ay)*(py-ay)) (zV ax ay bx b_y);have c2:=VI (-((bx-ax)*(py-ay)-(b_y-ay)*(px-ax))) (zV ax ay bx b_y);have z1:=(JR ((bx-ax)*(px-ax)+(b_y-ay)*(py-ay)) _ hs).1;have z2:=(JR (-((bx-ax)*(py-ay)-(b_y-ay)*(px-ax))) _ hs).1;dsimp only;generalize gL ((bx-ax)*(px-ax)+(b_y-ay)*(py-ay)) (zV ax ay bx b_y)=F1 at*;generalize gL (-((bx-ax)*(py-ay)-(b_y-ay)*(px-ax))) (zV ax ay bx b_y)=F2 at*;generalize ZX ((bx-ax)*(px-ax)+(b_y-ay)*(py-ay)) (zV ax ay bx b_y)=N1 at*;generalize ZX (-((bx-ax)*(py-ay)-(b_y-ay)*(px-ax))) (zV ax ay bx b_y)=N2 at*;omega
theorem fe(fx fy:Int)(x:En)(hd:0≤x.dst)(hd2:x.dst≤2000000)(hc:qK x.crs)(w:World):
 Calls Tryz.prog 115 #[.agg #[Iv fx,Iv fy],.agg x.cells.toArray] w fun e w'=>e= .returned (.tuple #[.agg (yt fx fy x).1.cells.toArray,Iv (yt fx fy x).2])∧Below w.heap.size w w':=by
 obtain⟨px,py,pe,hP⟩:∃px py pe,zi fx fy x.crs 60000=(px,py,pe):=⟨_,_,_,rfl⟩;have HP:=hide hP;have RA:=fun W=>jv fx fy x.crs 60000 hc DP W _ rfl
 rw[hP]at RA;clear hP;have ob:=Ww fx fy px py x.mx x.my;obtain⟨o,al,oe,hO⟩:∃o al oe,xz fx fy px py x.mx x.my=(o,al,oe):=⟨_,_,_,rfl⟩;have HO:=hide hO;have OA:=fun W=>ZK fx fy px py x.mx x.my W _ rfl
 rw[hO]at OA ob;clear hO
 have HT:Hid (yt fx fy x=if pe≠0 then(Tk.zero,pe)else if oe≠0 then(Tk.zero,oe)else if o>x.dst∨o< -x.dst then(Tk.zero,10)else if¬(al-vu (x.dst*x.dst-o*o).toNat<0)then kf fx fy x.crs (al-vu (x.dst*x.dst-o*o).toNat)else
  if al+vu (x.dst*x.dst-o*o).toNat<0 then(Tk.zero,10)else kf fx fy x.crs (al+vu (x.dst*x.dst-o*o).toNat)):=hide (by unfold yt;rw[HP.out];dsimp only;rw[HO.out])
 by_cases hr:o>x.dst∨o< -x.dst
 ·have hM:=qE w;go_enter Tryz.func115,Tryz.ntmps115;go_wp2_with(first|(refine DU ?_;clear hM;intro g W hM)|(refine qf (RA _) ?_;clear hM;intro W1 hM)|(refine qf (OA _) ?_;clear hM;intro W1 hM))
  all_goals
   refine' qO hM rfl rfl Tryz.isAgg67 Tryz.sizeOf67 rfl rfl ?_ ?_ ⟨?_,hM.below⟩;rotate_left 2;(·repeat constructor);(·rfl);(·refine' ze ?_ ?_;rotate_left 1;(·(rw[HT.out];(repeat(first|(refine(if_pos ?_).trans ?_;(·exact zMRefB0))|(refine(if_neg ?_).trans ?_;(·exact zMRefB0))));rfl));(·rfl))
 ·have q1:=Yo (a:=x.dst) (b:=x.dst) (k:=2000000) DL DL DL;have q2:=Yo (a:=o) (b:=o) (k:=2000000) DL DL DL;have hqs:=jk o;have hOO:=QY (a:=o) (m:=x.dst) DL DL;dsimp only at ob;have hqi:=Wv (n:=x.dst*x.dst-o*o) (k:=2000000) DL DL DL;have hr1:o≤x.dst:=DL;have hr2: -x.dst≤o:=DL;clear hr;have SQ:=fun W=>QN (x.dst*x.dst-o*o) DP W
  obtain⟨h,hh⟩:∃h,vu (x.dst*x.dst-o*o).toNat=h:=⟨_,rfl⟩;rw[hh]at SQ HT hqi;clear hh;have hM:=qE w;go_enter Tryz.func115,Tryz.ntmps115;go_wp2_with(first|(refine DU ?_;clear hM;intro g W hM)|(refine qf (RA _) ?_;clear hM;intro W1 hM)|(refine qf (OA _) ?_;clear hM;intro W1 hM)|refine DG (SQ _) ?_|(go_at_call 113;(with_reducible refine(gu _ _ _ _ ?_ ?_ ?_ _).mono ?_);(·first|assumption|(unfold qK;omega));(·first|assumption|(unfold qK;omega));(·omega);rintro e W1 ⟨rfl,hb⟩;replace hM:=qz hM hb;clear hb))
  all_goals
   refine' qO hM rfl rfl Tryz.isAgg67 Tryz.sizeOf67 rfl rfl ?_ ?_ ⟨?_,hM.below⟩;rotate_left 2;(·repeat constructor);(·rfl);(·refine' ze ?_ ?_;rotate_left 1;(·(rw[HT.out];(repeat(first|(refine(if_pos ?_).trans ?_;(·exact zMRefB0))|(refine(if_neg ?_).trans ?_;(·exact zMRefB0))));rfl));(·rfl))
theorem ed(fx fy:Int)(x:En)(hc:qK x.crs)(ht:qK x.tht)(w:World):
 Calls Tryz.prog 116 #[.agg #[Iv fx,Iv fy],.agg x.cells.toArray] w fun e w'=>e= .returned (.tuple #[.agg (vR fx fy x).1.cells.toArray,Iv (vR fx fy x).2])∧Below w.heap.size w w':=by
 have hM:=qE w;go_enter Tryz.func116,Tryz.ntmps116;go_wp2_with(first|(refine DU ?_;clear hM;intro g W hM)|(go_at_call 130;(with_reducible refine(jv _ _ _ _ ?_ ?_ _ _ rfl).mono ?_);(·first|assumption|(unfold qK;omega));(·first|assumption|(unfold qK;omega));rintro e W1 ⟨rfl,hb⟩;replace hM:=qz hM hb;clear hb)|(refine qf (tS _ _ _ _ _ _ _ _ _ _ rfl) ?_;clear hM;intro W1 hM)|(refine qf (bC _ _ _ _ _ _ _) ?_;clear hM;intro W1 hM)|(refine qf (Ja _ _ _ _ _ _) ?_;clear hM;intro W1 hM))
 all_goals
  refine' qO hM rfl rfl Tryz.isAgg67 Tryz.sizeOf67 rfl rfl ?_ ?_ ⟨?_,hM.below⟩;rotate_left 2
  ·repeat constructor
  ·rfl
  ·refine' ze ?_ ?_;rotate_left 1;(·(unfold vR;(try dsimp only);(repeat(first|(refine(if_pos ?_).trans ?_;(·exact zMRefB0))|(refine(if_neg ?_).trans ?_;(·exact zMRefB0))));rfl));(·first|rfl|exact congrArg Tk.cells (jE _ _ _ _ _ _))
theorem fg(fx fy c:Int)(x:En)(hc:0≤x.crs)(hc2:x.crs≤129599999)(w:World):
 Calls Tryz.prog 111 #[.agg #[Iv fx,Iv fy],Iv c,.agg x.cells.toArray] w fun e w'=>e= .returned (.tuple #[.agg (vp fx fy c x).1.cells.toArray,Iv (vp fx fy c x).2])∧Below w.heap.size w w':=by
 have hM:=qE w;go_enter Tryz.func111,Tryz.ntmps111;go_upto_region 15 with(first|(refine DU ?_;clear hM;intro g W hM)|(go_at_call 130;(with_reducible refine(jv _ _ _ _ ?_ ?_ _ _ rfl).mono ?_);(·first|assumption|(unfold qK;omega));(·first|assumption|(unfold qK;omega));rintro e W1 ⟨rfl,hb⟩;replace hM:=qz hM hb;clear hb)|(refine qf (uR _ _ _ _ _ _ _) ?_;clear hM;intro W1 hM)|(refine qf (ZK _ _ _ _ _ _ _ _ rfl) ?_;clear hM;intro W1 hM)|(refine qf (KW _ _ _ _ _ _ _ _ rfl) ?_;clear hM;intro W1 hM)|(refine qf (kp _ _ _ _ _ _) ?_;clear hM;intro W1 hM))
 all_goals first
  |(refine' qO hM rfl rfl Tryz.isAgg67 Tryz.sizeOf67 rfl rfl ?_ ?_ ⟨?_,hM.below⟩;rotate_left 2;(·repeat constructor);(·rfl);(·refine' ze ?_ ?_;rotate_left 1;(·(unfold vp;(try dsimp only);(repeat(first|(refine(if_pos ?_).trans ?_;(·exact zMRefB0))|(refine(if_neg ?_).trans ?_;(·exact zMRefB0))));rfl));(·first|rfl|exact congrArg Tk.cells (jE _ _ _ _ _ _))))
  |skip
 all_goals
  refine' yq hM DN (.tmp 13) rfl ?_ ?_;rotate_left 1;(·repeat constructor);(clear hM;intro W hM hK hne);refine kP 0 hM hK ?_;refine qu ?_;refine kP 1 hM hK ?_;refine qu ?_
  first|refine kL 2 hM hK ?_|refine kM 2 hM hK ?_
  refine qu ?_;refine kP 3 hM hK ?_;refine qu ?_;refine kP 4 hM hK ?_;refine qu ?_
  first|refine kL 5 hM hK ?_|refine kM 5 hM hK ?_
  refine qu ?_;refine kP 6 hM hK ?_;refine qu ?_;refine' jd hM (i:=7) (zF rfl) DN rfl rfl rfl ?_ ?_ ?_ ?_ ?_ ?_ ?_ hK hne ?_;rotate_left 6;(·constructor);(·repeat constructor);(·repeat constructor);(·repeat constructor);(·exact uT rfl);(·rfl);(·exact zO rfl);(clear hM hK;intro W hM hK);refine qu ?_;refine kP 8 hM hK ?_;refine qu ?_;refine' jd hM (i:=9) (zF rfl) DN rfl rfl rfl ?_ ?_ ?_ ?_ ?_ ?_ ?_ hK hne ?_;rotate_left 6;(·constructor);(·repeat constructor);(·repeat constructor);(·repeat constructor);(·exact uT rfl);(·rfl);(·exact zO rfl);(clear hM hK;intro W hM hK);refine qu ?_;refine qF DN ?_;go_wp2_with(first|(refine DU ?_;clear hM;intro g W hM)|(go_at_call 130;(with_reducible refine(jv _ _ _ _ ?_ ?_ _ _ rfl).mono ?_);(·first|assumption|(unfold qK;omega));(·first|assumption|(unfold qK;omega));rintro e W1 ⟨rfl,hb⟩;replace hM:=qz hM hb;clear hb)|(refine qf (uR _ _ _ _ _ _ _) ?_;clear hM;intro W1 hM)|(refine qf (ZK _ _ _ _ _ _ _ _ rfl) ?_;clear hM;intro W1 hM)|(refine qf (KW _ _ _ _ _ _ _ _ rfl) ?_;clear hM;intro W1 hM)|(refine qf (kp _ _ _ _ _ _) ?_;clear hM;intro W1 hM));refine' qO hM rfl rfl Tryz.isAgg67 Tryz.sizeOf67 rfl rfl ?_ ?_ ⟨?_,hM.below⟩;rotate_left 2
  ·repeat constructor
  ·rfl
  ·refine' ze ?_ ?_;rotate_left 1;(·(unfold vp;(try dsimp only);(repeat(first|(refine(if_pos ?_).trans ?_;(·exact zMRefB0))|(refine(if_neg ?_).trans ?_;(·exact zMRefB0))));rfl));(·first|rfl|exact congrArg Tk.cells (jE _ _ _ _ _ _))
theorem ee(fx fy:Int)(x y:En)(hc:qK x.crs)(hy:qK y.crs)(ty:0≤y.ty)(w:World):
 Calls Tryz.prog 117 #[.agg #[Iv fx,Iv fy],.agg x.cells.toArray,.agg y.cells.toArray] w fun e w'=>e= .returned (.tuple #[.agg (yD fx fy x y).1.cells.toArray,Iv (yD fx fy x y).2])∧Below w.heap.size w w':=by
 have hT:=Tp y.crs 64800000;have hM:=qE w;go_enter Tryz.func117,Tryz.ntmps117;go_upto_region 6 with(first|(go_at_call 130;(with_reducible refine(jv _ _ _ _ ?_ ?_ _ _ rfl).mono ?_);(·first|assumption|(unfold qK;omega));(·first|assumption|(unfold qK;omega));rintro e W1 ⟨rfl,hb⟩;replace hM:=qz hM hb;clear hb)|(refine qf (tS _ _ _ _ _ _ _ _ _ _ rfl) ?_;clear hM;intro W1 hM)|(refine qf (bC _ _ _ _ _ _ _) ?_;clear hM;intro W1 hM)|(refine qf (Ja _ _ _ _ _ _) ?_;clear hM;intro W1 hM)|(refine qf (uR _ _ _ _ _ _ _) ?_;clear hM;intro W1 hM)|(go_at_call 185;(with_reducible refine(jT _ ?_ _).mono ?_);(·first|assumption|(unfold qK;omega));rintro e W1 ⟨rfl,rfl⟩)|refine qg ?_|((with_reducible refine kq ?_);refine yP (fun hg=> ?_) (fun hg=> ?_)<;>simp[go_sem,Region.wanted]at hg)|(refine DU ?_;clear hM;intro g W hM))
 all_goals first
  |(refine' qO hM rfl rfl Tryz.isAgg67 Tryz.sizeOf67 rfl rfl ?_ ?_ ⟨?_,hM.below⟩;rotate_left 2;(·repeat constructor);(·rfl);(·refine' ze ?_ ?_;rotate_left 1;(·exact zMRefB1);(·first|rfl|exact congrArg Tk.cells (jE _ _ _ _ _ _))))
  |skip
 refine jD hM DN ?_;(clear hM;intro W hM hK);refine kP 0 hM hK ?_;refine qu ?_
 first|refine kL 1 hM hK ?_|refine kM 1 hM hK ?_
 refine qu ?_;refine kP 2 hM hK ?_;refine qu ?_;refine kP 3 hM hK ?_;refine qu ?_
 first|refine kL 4 hM hK ?_|refine kM 4 hM hK ?_
 refine qu ?_;refine JI (i:=5) (j:=10) (zF rfl) (zF rfl) DN rfl rfl (fun K' hK'=> ?_) (fun K' hK'=> ?_)
 ·
  go_wp2_with(first|(go_at_call 185;(with_reducible refine(jT _ ?_ _).mono ?_);(·first|assumption|(unfold qK;omega));rintro e W1 ⟨rfl,rfl⟩)|(go_at_call 130;(with_reducible refine(jv _ _ _ _ ?_ ?_ _ _ rfl).mono ?_);(·first|assumption|(unfold qK;omega));(·first|assumption|(unfold qK;omega));rintro e W1 ⟨rfl,hb⟩;replace hM:=qz hM hb;clear hb));refine hK'.out _ _ (qW hM hK) ?_;clear hK' K';refine qu ?_;refine JI (i:=6) (j:=10) (zF rfl) (zF rfl) DN rfl rfl (fun K' hK'=> ?_) (fun K' hK'=> ?_)
  ·
   go_wp2_with(first|(go_at_call 185;(with_reducible refine(jT _ ?_ _).mono ?_);(·first|assumption|(unfold qK;omega));rintro e W1 ⟨rfl,rfl⟩)|(go_at_call 130;(with_reducible refine(jv _ _ _ _ ?_ ?_ _ _ rfl).mono ?_);(·first|assumption|(unfold qK;omega));(·first|assumption|(unfold qK;omega));rintro e W1 ⟨rfl,hb⟩;replace hM:=qz hM hb;clear hb));refine hK'.out _ _ (qW hM hK) ?_;clear hK' K';refine qu ?_;refine kP 7 hM hK ?_;refine qu ?_;refine kP 8 hM hK ?_;refine qu ?_;refine kP 9 hM hK ?_;refine qu ?_;refine zt (i:=10) (zF rfl) DN rfl (fun K' hK'=> ?_);refine' vN hM rfl ?_ rfl ?_;rotate_left 1;(·exact Pa rfl);(have hKo:=hK;clear hK hM;intro g W hM;have hne:=JH hM hKo;have hK:=tV hM hKo;clear hKo);refine hK'.out _ _ (qW hM hK) ?_;clear hK' K';refine qu ?_;refine' jd hM (i:=11) (zF rfl) DN rfl rfl rfl ?_ ?_ ?_ ?_ ?_ ?_ ?_ hK hne ?_;rotate_left 6;(·constructor);(·repeat constructor);(·repeat constructor);(·repeat constructor);(·exact uT rfl);(·rfl);(·exact zO rfl);(clear hM hK;intro W hM hK);refine qu ?_;refine kP 12 hM hK ?_;refine qu ?_;refine qF DN ?_;go_wp2_with(first|(go_at_call 130;(with_reducible refine(jv _ _ _ _ ?_ ?_ _ _ rfl).mono ?_);(·first|assumption|(unfold qK;omega));(·first|assumption|(unfold qK;omega));rintro e W1 ⟨rfl,hb⟩;replace hM:=qz hM hb;clear hb)|(refine qf (tS _ _ _ _ _ _ _ _ _ _ rfl) ?_;clear hM;intro W1 hM)|(refine qf (bC _ _ _ _ _ _ _) ?_;clear hM;intro W1 hM)|(refine qf (Ja _ _ _ _ _ _) ?_;clear hM;intro W1 hM)|(refine qf (uR _ _ _ _ _ _ _) ?_;clear hM;intro W1 hM)|(go_at_call 185;(with_reducible refine(jT _ ?_ _).mono ?_);(·first|assumption|(unfold qK;omega));rintro e W1 ⟨rfl,rfl⟩)|refine qg ?_|((with_reducible refine kq ?_);refine yP (fun hg=> ?_) (fun hg=> ?_)<;>simp[go_sem,Region.wanted]at hg)|(refine DU ?_;clear hM;intro g W hM))
   all_goals
    refine' qO hM rfl rfl Tryz.isAgg67 Tryz.sizeOf67 rfl rfl ?_ ?_ ⟨?_,hM.below⟩;rotate_left 2
    ·repeat constructor
    ·rfl
    ·refine' ze ?_ ?_;rotate_left 1;(·exact zMRefB1);(·first|rfl|exact congrArg Tk.cells (jE _ _ _ _ _ _))
  ·
   refine' vN hM rfl ?_ rfl ?_;rotate_left 1;(·exact Pa rfl);(have hKo:=hK;clear hK hM;intro g W hM;have hne:=JH hM hKo;have hK:=tV hM hKo;clear hKo);refine hK'.out _ _ (qW hM hK) ?_;clear hK' K';refine qu ?_;refine zt (i:=6) (zF rfl) DN rfl (fun K' hK'=> ?_);go_wp2_with(first|(go_at_call 185;(with_reducible refine(jT _ ?_ _).mono ?_);(·first|assumption|(unfold qK;omega));rintro e W1 ⟨rfl,rfl⟩)|(go_at_call 130;(with_reducible refine(jv _ _ _ _ ?_ ?_ _ _ rfl).mono ?_);(·first|assumption|(unfold qK;omega));(·first|assumption|(unfold qK;omega));rintro e W1 ⟨rfl,hb⟩;replace hM:=qz hM hb;clear hb));refine hK'.out _ _ (qW hM hK) ?_;clear hK' K';refine qu ?_;refine kP 7 hM hK ?_;refine qu ?_;refine kP 8 hM hK ?_;refine qu ?_;refine kP 9 hM hK ?_;refine qu ?_;refine' jd hM (i:=11) (zF rfl) DN rfl rfl rfl ?_ ?_ ?_ ?_ ?_ ?_ ?_ hK hne ?_;rotate_left 6;(·constructor);(·repeat constructor);(·repeat constructor);(·repeat constructor);(·exact uT rfl);(·rfl);(·exact zO rfl);(clear hM hK;intro W hM hK);refine qu ?_;refine kP 12 hM hK ?_;refine qu ?_;refine qF DN ?_;go_wp2_with(first|(go_at_call 130;(with_reducible refine(jv _ _ _ _ ?_ ?_ _ _ rfl).mono ?_);(·first|assumption|(unfold qK;omega));(·first|assumption|(unfold qK;omega));rintro e W1 ⟨rfl,hb⟩;replace hM:=qz hM hb;clear hb)|(refine qf (tS _ _ _ _ _ _ _ _ _ _ rfl) ?_;clear hM;intro W1 hM)|(refine qf (bC _ _ _ _ _ _ _) ?_;clear hM;intro W1 hM)|(refine qf (Ja _ _ _ _ _ _) ?_;clear hM;intro W1 hM)|(refine qf (uR _ _ _ _ _ _ _) ?_;clear hM;intro W1 hM)|(go_at_call 185;(with_reducible refine(jT _ ?_ _).mono ?_);(·first|assumption|(unfold qK;omega));rintro e W1 ⟨rfl,rfl⟩)|refine qg ?_|((with_reducible refine kq ?_);refine yP (fun hg=> ?_) (fun hg=> ?_)<;>simp[go_sem,Region.wanted]at hg)|(refine DU ?_;clear hM;intro g W hM))
   all_goals
    refine' qO hM rfl rfl Tryz.isAgg67 Tryz.sizeOf67 rfl rfl ?_ ?_ ⟨?_,hM.below⟩;rotate_left 2
    ·repeat constructor
    ·rfl
    ·refine' ze ?_ ?_;rotate_left 1;(·exact zMRefB1);(·first|rfl|exact congrArg Tk.cells (jE _ _ _ _ _ _))
 ·
  refine' vN hM rfl ?_ rfl ?_;rotate_left 1;(·exact Pa rfl);(have hKo:=hK;clear hK hM;intro g W hM;have hne:=JH hM hKo;have hK:=tV hM hKo;clear hKo);refine hK'.out _ _ (qW hM hK) ?_;clear hK' K';refine qu ?_;refine zt (i:=5) (zF rfl) DN rfl (fun K' hK'=> ?_);go_wp2_with(first|(go_at_call 185;(with_reducible refine(jT _ ?_ _).mono ?_);(·first|assumption|(unfold qK;omega));rintro e W1 ⟨rfl,rfl⟩)|(go_at_call 130;(with_reducible refine(jv _ _ _ _ ?_ ?_ _ _ rfl).mono ?_);(·first|assumption|(unfold qK;omega));(·first|assumption|(unfold qK;omega));rintro e W1 ⟨rfl,hb⟩;replace hM:=qz hM hb;clear hb));refine hK'.out _ _ (qW hM hK) ?_;clear hK' K';refine qu ?_;refine zt (i:=6) (zF rfl) DN rfl (fun K' hK'=> ?_);go_wp2_with(first|(go_at_call 185;(with_reducible refine(jT _ ?_ _).mono ?_);(·first|assumption|(unfold qK;omega));rintro e W1 ⟨rfl,rfl⟩)|(go_at_call 130;(with_reducible refine(jv _ _ _ _ ?_ ?_ _ _ rfl).mono ?_);(·first|assumption|(unfold qK;omega));(·first|assumption|(unfold qK;omega));rintro e W1 ⟨rfl,hb⟩;replace hM:=qz hM hb;clear hb));refine hK'.out _ _ (qW hM hK) ?_;clear hK' K';refine qu ?_;refine kP 7 hM hK ?_;refine qu ?_;refine kP 8 hM hK ?_;refine qu ?_;refine kP 9 hM hK ?_;refine qu ?_;refine' jd hM (i:=11) (zF rfl) DN rfl rfl rfl ?_ ?_ ?_ ?_ ?_ ?_ ?_ hK hne ?_;rotate_left 6;(·constructor);(·repeat constructor);(·repeat constructor);(·repeat constructor);(·exact uT rfl);(·rfl);(·exact zO rfl);(clear hM hK;intro W hM hK);refine qu ?_;refine kP 12 hM hK ?_;refine qu ?_;refine qF DN ?_;go_wp2_with(first|(go_at_call 130;(with_reducible refine(jv _ _ _ _ ?_ ?_ _ _ rfl).mono ?_);(·first|assumption|(unfold qK;omega));(·first|assumption|(unfold qK;omega));rintro e W1 ⟨rfl,hb⟩;replace hM:=qz hM hb;clear hb)|(refine qf (tS _ _ _ _ _ _ _ _ _ _ rfl) ?_;clear hM;intro W1 hM)|(refine qf (bC _ _ _ _ _ _ _) ?_;clear hM;intro W1 hM)|(refine qf (Ja _ _ _ _ _ _) ?_;clear hM;intro W1 hM)|(refine qf (uR _ _ _ _ _ _ _) ?_;clear hM;intro W1 hM)|(go_at_call 185;(with_reducible refine(jT _ ?_ _).mono ?_);(·first|assumption|(unfold qK;omega));rintro e W1 ⟨rfl,rfl⟩)|refine qg ?_|((with_reducible refine kq ?_);refine yP (fun hg=> ?_) (fun hg=> ?_)<;>simp[go_sem,Region.wanted]at hg)|(refine DU ?_;clear hM;intro g W hM))
  all_goals
   refine' qO hM rfl rfl Tryz.isAgg67 Tryz.sizeOf67 rfl rfl ?_ ?_ ⟨?_,hM.below⟩;rotate_left 2
   ·repeat constructor
   ·rfl
   ·refine' ze ?_ ?_;rotate_left 1;(·exact zMRefB1);(·first|rfl|exact congrArg Tk.cells (jE _ _ _ _ _ _))
theorem Td(fx fy:Int)(x:En)(ht:x.tn=1∨x.tn=2)(hr:0≤x.rad)(hr2:x.rad≤2000000)(w:World):
 Calls Tryz.prog 112 #[.agg #[Iv fx,Iv fy],.agg x.cells.toArray] w fun e w'=>e= .returned (.tuple #[.agg (jZ fx fy x).1.cells.toArray,Iv (jZ fx fy x).2])∧Below w.heap.size w w':=by
 obtain⟨v0,v1,v2,v3,v4,e0,hF,hb0,hb1⟩:=Yp fx fy x.mx x.my x.ex x.ey (decide (x.tn=2));have HF:=hide hF
 have HT:Hid (jZ fx fy x=if e0≠0 then(Tk.zero,e0)else if v2-x.rad>60∨v2-x.rad< -60 then(Tk.zero,10)else
  if(jp v0 v1 v2 v3 v4 0).2.2.2≠0 then(Tk.zero,(jp v0 v1 v2 v3 v4 0).2.2.2)else
  if(jp v0 v1 v2 v3 v4 (qX v0 v1 v2 v3 v4)).2.2.2≠0 then(Tk.zero,(jp v0 v1 v2 v3 v4 (qX v0 v1 v2 v3 v4)).2.2.2)else
  (⟨2,fx,fy,x.ex,x.ey,v0,v1,v2,v3,v4,(jp v0 v1 v2 v3 v4 0).2.2.1,(jp v0 v1 v2 v3 v4 (qX v0 v1 v2 v3 v4)).2.2.1,qX v0 v1 v2 v3 v4,0,false⟩,0)):=hide (by unfold jZ;rw[hF])
 clear hF;rcases ht with htn|htn
 ·have htq:=hide htn;have AR:=fun W=>dB fx fy x.mx x.my x.ex x.ey W v0 v1 v2 v3 v4 e0 (by rw[←HF.out,htn];rfl)
  have hM:=qE w;go_enter Tryz.func112,Tryz.ntmps112;go_wp2_with(first|(refine qf (AR _) ?_;clear hM;intro W1 hM)|(refine qf (TX _ _ _ _ _ _ _ _ rfl) ?_;clear hM;intro W1 hM)|(refine qf (uY _ _ _ _ _ _) ?_;clear hM;intro W1 hM)|refine qg ?_|((with_reducible refine kq ?_);refine yP (fun hg=> ?_) (fun hg=> ?_)<;>simp[go_sem,Region.wanted]at hg)|(refine DU ?_;clear hM;intro g W hM))
  all_goals
   refine' qO hM rfl rfl Tryz.isAgg67 Tryz.sizeOf67 rfl rfl ?_ ?_ ⟨?_,hM.below⟩;rotate_left 2
   ·repeat constructor
   ·rfl
   ·refine' ze ?_ ?_;rotate_left 1;(·(rw[HT.out];(repeat(first|(refine(if_pos ?_).trans ?_;(·exact zMRefB0))|(refine(if_neg ?_).trans ?_;(·exact zMRefB0))));rfl));(·rfl)
 ·have htq:=hide htn;have AR:=fun W=>dD fx fy x.mx x.my x.ex x.ey W v0 v1 v2 v3 v4 e0 (by rw[←HF.out,htn];rfl)
  have hM:=qE w;go_enter Tryz.func112,Tryz.ntmps112;go_wp2_with(first|(refine qf (AR _) ?_;clear hM;intro W1 hM)|(refine qf (TX _ _ _ _ _ _ _ _ rfl) ?_;clear hM;intro W1 hM)|(refine qf (uY _ _ _ _ _ _) ?_;clear hM;intro W1 hM)|refine qg ?_|((with_reducible refine kq ?_);refine yP (fun hg=> ?_) (fun hg=> ?_)<;>simp[go_sem,Region.wanted]at hg)|(refine DU ?_;clear hM;intro g W hM))
  all_goals
   refine' qO hM rfl rfl Tryz.isAgg67 Tryz.sizeOf67 rfl rfl ?_ ?_ ⟨?_,hM.below⟩;rotate_left 2
   ·repeat constructor
   ·rfl
   ·refine' ze ?_ ?_;rotate_left 1;(·(rw[HT.out];(repeat(first|(refine(if_pos ?_).trans ?_;(·exact zMRefB0))|(refine(if_neg ?_).trans ?_;(·exact zMRefB0))));rfl));(·rfl)
end Go.Proofs.YtcgpbnlhnafhjaaGreatDoor
