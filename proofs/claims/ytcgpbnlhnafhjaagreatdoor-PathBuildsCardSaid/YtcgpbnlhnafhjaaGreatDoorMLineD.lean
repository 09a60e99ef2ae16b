/-
  The walks of Ray, of the program and of the reference.
-/
import Derived.Test.YtcgpbnlhnafhjaaGreatDoorMLineB
import Derived.Test.YtcgpbnlhnafhjaaGreatDoorMWide
namespace Go.Proofs.YtcgpbnlhnafhjaaGreatDoor
open Go.RowKit
set_option linter.unusedVariables false
set_option linter.unusedSimpArgs false
theorem Vx{dist s:Int}(h1: -8000000≤dist)(h2:dist≤8000000)(h3: -1073741824≤s)(h4:s≤1073741824):
 (-8589934592000000≤dist*s∧dist*s≤8589934592000000)∧(-8000001≤vW 2 (dist*s) 1073741824∧vW 2 (dist*s) 1073741824≤8000001):=by
 have e1:=Int.mul_nonneg (show 0≤8000000-dist by omega) (show 0≤1073741824-s by omega);have e2:=Int.mul_nonneg (show 0≤8000000+dist by omega) (show 0≤1073741824+s by omega);have e3:=Int.mul_nonneg (show 0≤8000000-dist by omega) (show 0≤1073741824+s by omega);have e4:=Int.mul_nonneg (show 0≤8000000+dist by omega) (show 0≤1073741824-s by omega);have f1:(8000000-dist)*(1073741824-s)=8000000*1073741824-8000000*s-1073741824*dist+dist*s:=by grind
 have f2:(8000000+dist)*(1073741824+s)=8000000*1073741824+8000000*s+1073741824*dist+dist*s:=by grind
 have f3:(8000000-dist)*(1073741824+s)=8000000*1073741824+8000000*s-1073741824*dist-dist*s:=by grind
 have f4:(8000000+dist)*(1073741824-s)=8000000*1073741824-8000000*s+1073741824*dist-dist*s:=by grind
 have r:=eY (dist*s);generalize vW 2 (dist*s) 1073741824=q at*;generalize dist*s=p at*;omega
theorem xq{dist s:Int}(h1: -8000000≤dist)(h2:dist≤8000000)(h3: -1073741824≤s)(h4:s≤1073741824):qR 2 (dist*s) 1 1073741824=(vW 2 (dist*s) 1073741824,0):=by
 have h:=(Vx h1 h2 h3 h4).2;unfold qR;rw[if_neg DL,Int.mul_one,if_pos];unfold Zp;generalize vW 2 (dist*s) 1073741824=q at*;exact decide_eq_true DL
set_option maxHeartbeats 2000000 in
theorem jN(px py course dist:Int)(hc:qK course)(hd:qK dist)(w:World)(R:Int×Int×Int)(hR:R=zi px py course dist):
 Calls Tryz.prog 71 #[.agg #[.int .i64 px,.int .i64 py],.int .i64 course,.int .i64 dist] w fun e w'=>e= .returned (.tuple #[.agg #[.int .i64 R.1,.int .i64 R.2.1],.int .i64 R.2.2])∧Below w.heap.size w w':=by
 unfold zi at hR;rcases hv:qw px py with _|_
 ·rw[hv,if_pos DS]at hR;subst hR;have HV:=hide hv;clear hv;go_enter Tryz.func71,Tryz.ntmps71;go_wp2_with fail;refine(ux px py false HV.out _).mono ?_;rintro e w1 ⟨rfl,rfl⟩;go_wp2_with fail;exact bodyPost_ret (v:= .tuple #[.agg #[.int .i64 0,.int .i64 0],.int .i64 1]) (by simp[results,Tryz.results71,go_sem, *]) rfl ⟨rfl,by(repeat(with_reducible (first|assumption|exact Below.refl _ _|refine Below.drew ?_|refine below_drewN ?_ _|refine qG ?_ (by simp;try omega) _|refine qj ?_ (Nat.le_refl _) _|refine qA DM ?_)))⟩
 rw[hv,if_neg DS]at hR;have HV:=hide hv;have b1:=zu hv;clear hv;by_cases h2:dist>8000000∨dist< -8000000
 ·rw[if_pos h2]at hR;subst hR;have T:dist>8000000∨(¬dist>8000000∧dist< -8000000):=DL;clear h2;rcases T with t1|⟨t1,t2⟩
  all_goals
   go_enter Tryz.func71,Tryz.ntmps71;go_wp2_with fail;refine(ux px py true HV.out _).mono ?_;rintro e w1 ⟨rfl,rfl⟩;go_wp2_with fail;exact bodyPost_ret (v:= .tuple #[.agg #[.int .i64 0,.int .i64 0],.int .i64 2]) (by simp[results,Tryz.results71,go_sem, *]) rfl ⟨rfl,by(repeat(with_reducible (first|assumption|exact Below.refl _ _|refine Below.drew ?_|refine below_drewN ?_ _|refine qG ?_ (by simp;try omega) _|refine qj ?_ (Nat.le_refl _) _|refine qA DM ?_)))⟩
 rw[if_neg h2]at hR;unfold Kt Ku at hR;have h3: -8000000≤dist:=DL;have h4:dist≤8000000:=DL;have sb:=bH course;have cb:=tJ course;have SC:=fun w=>QM course hc w
 have CC:=fun w=>Jd course hc w
 have s1:=Vx h3 h4 sb.1 sb.2;have s2:=Vx h3 h4 cb.1 cb.2;have RX:=fun w=>QO (dist*jO course) 1073741824 DP DP w
 have RY:=fun w=>QO (dist*yF course) 1073741824 DP DP w
 rw[xq h3 h4 sb.1 sb.2]at RX;rw[xq h3 h4 cb.1 cb.2]at RY;clear h2;generalize jO course=s at*;generalize yF course=c at*;generalize vW 2 (dist*s) 1073741824=X at*;generalize vW 2 (dist*c) 1073741824=Y at*;obtain⟨⟨p1,p2⟩,q1,q2⟩:=s1;obtain⟨⟨p3,p4⟩,q3,q4⟩:=s2;rcases hw:qw (px+X) (py+Y)with _|_
 all_goals
  rw[hw]at hR;have HW:=hide hw;clear hw
 ·rw[if_neg DS]at hR;subst hR;go_enter Tryz.func71,Tryz.ntmps71;go_wp2_with fail;refine(ux px py true HV.out _).mono ?_;rintro e w1 ⟨rfl,rfl⟩;go_wp2_with fail;go_wp2_with(first|(go_at_call 35;refine(SC _).mono ?_;rintro e w' ⟨rfl,rfl⟩)|(go_at_call 36;refine(CC _).mono ?_;rintro e w' ⟨rfl,rfl⟩)|(go_at_call_of 93 (Value.int IntKind.i64 (dist*s));refine(RX _).mono ?_;rintro e w' ⟨rfl,n,rfl⟩)|(go_at_call_of 93 (Value.int IntKind.i64 (dist*c));refine(RY _).mono ?_;rintro e w' ⟨rfl,n,rfl⟩)|(go_at_call 30;refine(ux _ _ _ HW.out _).mono ?_;rintro e w' ⟨rfl,rfl⟩));exact bodyPost_ret (v:= .tuple #[.agg #[.int .i64 0,.int .i64 0],.int .i64 2]) (by simp[results,Tryz.results71,go_sem, *]) rfl ⟨rfl,by(repeat(with_reducible (first|assumption|exact Below.refl _ _|refine Below.drew ?_|refine below_drewN ?_ _|refine qG ?_ (by simp;try omega) _|refine qj ?_ (Nat.le_refl _) _|refine qA DM ?_)))⟩
 ·rw[if_pos rfl]at hR;subst hR;go_enter Tryz.func71,Tryz.ntmps71;go_wp2_with fail;refine(ux px py true HV.out _).mono ?_;rintro e w1 ⟨rfl,rfl⟩;go_wp2_with fail;go_wp2_with(first|(go_at_call 35;refine(SC _).mono ?_;rintro e w' ⟨rfl,rfl⟩)|(go_at_call 36;refine(CC _).mono ?_;rintro e w' ⟨rfl,rfl⟩)|(go_at_call_of 93 (Value.int IntKind.i64 (dist*s));refine(RX _).mono ?_;rintro e w' ⟨rfl,n,rfl⟩)|(go_at_call_of 93 (Value.int IntKind.i64 (dist*c));refine(RY _).mono ?_;rintro e w' ⟨rfl,n,rfl⟩)|(go_at_call 30;refine(ux _ _ _ HW.out _).mono ?_;rintro e w' ⟨rfl,rfl⟩));exact bodyPost_ret (v:= .tuple #[.agg #[.int .i64 (px+X),.int .i64 (py+Y)],.int .i64 0]) (by simp[results,Tryz.results71,go_sem, *]) rfl ⟨rfl,by(repeat(with_reducible (first|assumption|exact Below.refl _ _|refine Below.drew ?_|refine below_drewN ?_ _|refine qG ?_ (by simp;try omega) _|refine qj ?_ (Nat.le_refl _) _|refine qA DM ?_)))⟩
set_option maxHeartbeats 2000000 in
theorem jv(px py course dist:Int)(hc:qK course)(hd:qK dist)(w:World)(R:Int×Int×Int)(hR:R=zi px py course dist):
 Calls Tryz.prog 130 #[.agg #[.int .i64 px,.int .i64 py],.int .i64 course,.int .i64 dist] w fun e w'=>e= .returned (.tuple #[.agg #[.int .i64 R.1,.int .i64 R.2.1],.int .i64 R.2.2])∧Below w.heap.size w w':=by
 unfold zi at hR;rcases hv:qw px py with _|_
 ·rw[hv,if_pos DS]at hR;subst hR;have HV:=hide hv;clear hv;go_enter Tryz.func130,Tryz.ntmps130;go_wp2_with fail;refine(yo px py false HV.out _).mono ?_;rintro e w1 ⟨rfl,rfl⟩;go_wp2_with fail;exact bodyPost_ret (v:= .tuple #[.agg #[.int .i64 0,.int .i64 0],.int .i64 1]) (by simp[results,Tryz.results130,go_sem, *]) rfl ⟨rfl,by(repeat(with_reducible (first|assumption|exact Below.refl _ _|refine Below.drew ?_|refine below_drewN ?_ _|refine qG ?_ (by simp;try omega) _|refine qj ?_ (Nat.le_refl _) _|refine qA DM ?_)))⟩
 rw[hv,if_neg DS]at hR;have HV:=hide hv;have b1:=zu hv;clear hv;by_cases h2:dist>8000000∨dist< -8000000
 ·rw[if_pos h2]at hR;subst hR;have T:dist>8000000∨(¬dist>8000000∧dist< -8000000):=DL;clear h2;rcases T with t1|⟨t1,t2⟩
  all_goals
   go_enter Tryz.func130,Tryz.ntmps130;go_wp2_with fail;refine(yo px py true HV.out _).mono ?_;rintro e w1 ⟨rfl,rfl⟩;go_wp2_with fail;exact bodyPost_ret (v:= .tuple #[.agg #[.int .i64 0,.int .i64 0],.int .i64 2]) (by simp[results,Tryz.results130,go_sem, *]) rfl ⟨rfl,by(repeat(with_reducible (first|assumption|exact Below.refl _ _|refine Below.drew ?_|refine below_drewN ?_ _|refine qG ?_ (by simp;try omega) _|refine qj ?_ (Nat.le_refl _) _|refine qA DM ?_)))⟩
 rw[if_neg h2]at hR;unfold Kt Ku at hR;have h3: -8000000≤dist:=DL;have h4:dist≤8000000:=DL;have sb:=bH course;have cb:=tJ course;have SC:=fun w=>vC course hc w
 have CC:=fun w=>kg course hc w
 have s1:=Vx h3 h4 sb.1 sb.2;have s2:=Vx h3 h4 cb.1 cb.2;have RX:=fun w=>Zs (dist*jO course) 1073741824 DP DP w
 have RY:=fun w=>Zs (dist*yF course) 1073741824 DP DP w
 rw[xq h3 h4 sb.1 sb.2]at RX;rw[xq h3 h4 cb.1 cb.2]at RY;clear h2;generalize jO course=s at*;generalize yF course=c at*;generalize vW 2 (dist*s) 1073741824=X at*;generalize vW 2 (dist*c) 1073741824=Y at*;obtain⟨⟨p1,p2⟩,q1,q2⟩:=s1;obtain⟨⟨p3,p4⟩,q3,q4⟩:=s2;rcases hw:qw (px+X) (py+Y)with _|_
 all_goals
  rw[hw]at hR;have HW:=hide hw;clear hw
 ·rw[if_neg DS]at hR;subst hR;go_enter Tryz.func130,Tryz.ntmps130;go_wp2_with fail;refine(yo px py true HV.out _).mono ?_;rintro e w1 ⟨rfl,rfl⟩;go_wp2_with fail;go_wp2_with(first|(go_at_call 55;refine(SC _).mono ?_;rintro e w' ⟨rfl,rfl⟩)|(go_at_call 54;refine(CC _).mono ?_;rintro e w' ⟨rfl,rfl⟩)|(go_at_call_of 123 (Value.int IntKind.i64 (dist*s));refine(RX _).mono ?_;rintro e w' ⟨rfl,n,rfl⟩)|(go_at_call_of 123 (Value.int IntKind.i64 (dist*c));refine(RY _).mono ?_;rintro e w' ⟨rfl,n,rfl⟩)|(go_at_call 49;refine(yo _ _ _ HW.out _).mono ?_;rintro e w' ⟨rfl,rfl⟩));exact bodyPost_ret (v:= .tuple #[.agg #[.int .i64 0,.int .i64 0],.int .i64 2]) (by simp[results,Tryz.results130,go_sem, *]) rfl ⟨rfl,by(repeat(with_reducible (first|assumption|exact Below.refl _ _|refine Below.drew ?_|refine below_drewN ?_ _|refine qG ?_ (by simp;try omega) _|refine qj ?_ (Nat.le_refl _) _|refine qA DM ?_)))⟩
 ·rw[if_pos rfl]at hR;subst hR;go_enter Tryz.func130,Tryz.ntmps130;go_wp2_with fail;refine(yo px py true HV.out _).mono ?_;rintro e w1 ⟨rfl,rfl⟩;go_wp2_with fail;go_wp2_with(first|(go_at_call 55;refine(SC _).mono ?_;rintro e w' ⟨rfl,rfl⟩)|(go_at_call 54;refine(CC _).mono ?_;rintro e w' ⟨rfl,rfl⟩)|(go_at_call_of 123 (Value.int IntKind.i64 (dist*s));refine(RX _).mono ?_;rintro e w' ⟨rfl,n,rfl⟩)|(go_at_call_of 123 (Value.int IntKind.i64 (dist*c));refine(RY _).mono ?_;rintro e w' ⟨rfl,n,rfl⟩)|(go_at_call 49;refine(yo _ _ _ HW.out _).mono ?_;rintro e w' ⟨rfl,rfl⟩));exact bodyPost_ret (v:= .tuple #[.agg #[.int .i64 (px+X),.int .i64 (py+Y)],.int .i64 0]) (by simp[results,Tryz.results130,go_sem, *]) rfl ⟨rfl,by(repeat(with_reducible (first|assumption|exact Below.refl _ _|refine Below.drew ?_|refine below_drewN ?_ _|refine qG ?_ (by simp;try omega) _|refine qj ?_ (Nat.le_refl _) _|refine qA DM ?_)))⟩
theorem wi{x:Int}(h1: -9223372036854775808≤x)(h2:x≤9223372036854775807):IntKind.i64.wrap x=x:=IntWalk.i64_in _ DL
theorem bZ(ax ay bx b_y:Int):0≤(qN ax ay bx b_y).1∧(qN ax ay bx b_y).1<129600000:=by
 unfold qN;split
 ·decide
 ·split
  ·decide
  ·exact uU _ _
set_option maxHeartbeats 2000000 in
theorem YI(ax ay bx b_y px py:Int)(w:World)(R:Int×Int×Int)(hR:R=xz ax ay bx b_y px py):
 Calls Tryz.prog 154 #[.agg #[.int .i64 ax,.int .i64 ay],.agg #[.int .i64 bx,.int .i64 b_y],.agg #[.int .i64 px,.int .i64 py]] w fun e w'=>e= .returned (.tuple #[.int .i64 R.1,.int .i64 R.2.1,.int .i64 R.2.2])∧Below w.heap.size w w':=by
 unfold xz at hR;rcases hv:(qw ax ay&&qw bx b_y&&qw px py)with _|_
 ·rw[hv,if_pos DS]at hR;subst hR;have HV:=hide hv;clear hv;go_enter Tryz.func154,Tryz.ntmps154;go_wp2_with fail;refine(kD ax ay bx b_y px py _ _ _ (uf _ _ _ DS)).mono ?_;rintro e w1 ⟨rfl,hb⟩;rw[HV.out];go_wp2_with fail;go_ret3;exact⟨rfl,by(repeat(with_reducible (first|assumption|exact Below.refl _ _|refine Below.drew ?_|refine below_drewN ?_ _|refine qG ?_ (by simp;try omega) _|refine qj ?_ (Nat.le_refl _) _|refine qA DM ?_)))⟩
 have hv':(qw ax ay=true∧qw bx b_y=true)∧qw px py=true:=by simpa using hv
 rw[hv,if_neg DS]at hR;by_cases he:ax=bx∧ay=b_y
 ·rw[if_pos he]at hR;subst hR;have HV:=hide hv;clear hv hv';obtain⟨rfl,rfl⟩:=he;go_enter Tryz.func154,Tryz.ntmps154;go_wp2_with fail;refine(kD ax ay ax ay px py _ _ _ (uf _ _ _ DS)).mono ?_;rintro e w1 ⟨rfl,hb⟩;rw[HV.out];have k_0:=qe hb (b:=w.heap.size) (o:=0) (v:= .int .i64 ax) DR;have k_1:=qe hb (b:=w.heap.size) (o:=1) (v:= .int .i64 ay) DR;have k_2:=qe hb (b:=w.heap.size+1) (o:=0) (v:= .int .i64 ax) DR;have k_3:=qe hb (b:=w.heap.size+1) (o:=1) (v:= .int .i64 ay) DR;have k_4:=qe hb (b:=w.heap.size+1+1) (o:=0) (v:= .int .i64 px) DR;have k_5:=qe hb (b:=w.heap.size+1+1) (o:=1) (v:= .int .i64 py) DR;go_wp2_with fail;go_ret3;exact⟨rfl,by(repeat(with_reducible (first|assumption|exact Below.refl _ _|refine Below.drew ?_|refine below_drewN ?_ _|refine qG ?_ (by simp;try omega) _|refine qj ?_ (Nat.le_refl _) _|refine qA DM ?_)))⟩
 rw[if_neg he]at hR;have s0:=JS he;have s1:=ZW hv'.1.1 hv'.1.2;have b1:=zu hv'.1.1;have b2:=zu hv'.1.2;have b3:=zu hv'.2;have l1:=wV (px-ax) (py-ay) (bx-ax) (b_y-ay);have l2:=wX (px-ax) (py-ay) (bx-ax) (b_y-ay);have v1:=QY (a:=px-ax) (m:=4000000) DL DL;have v2:=QY (a:=py-ay) (m:=4000000) DL DL;have HV:=hide hv
 have T:((ax==bx)=true∧(ay==b_y)=false)∨(ax==bx)=false:=by
  by_cases hx0:ax=bx
  ·left;simp[hx0];intro hy0;exact he ⟨hx0,hy0⟩
  ·right;simp[hx0]
 clear he hv hv';unfold zV at*;have d1:=tF (a:=bx-ax) (b:=b_y-ay) (c:=px-ax) (d:=py-ay) DL DL DL DL DL DL DL DL;have p1:=jM (a:=bx-ax) (b:=py-ay) DL DL DL DL;have p2:=jM (a:=b_y-ay) (b:=px-ax) DL DL DL DL;have p3:=jM (a:=bx-ax) (b:=px-ax) DL DL DL DL;have p4:=jM (a:=b_y-ay) (b:=py-ay) DL DL DL DL;have D1:=fun W=>KN (bx-ax) (b_y-ay) (bx-ax) (b_y-ay) DL DL DL DL DL DL DL DL W
 have D2:=fun W=>KN (bx-ax) (b_y-ay) (px-ax) (py-ay) DL DL DL DL DL DL DL DL W
 have CR:=fun W=>YE (bx-ax) (b_y-ay) (px-ax) (py-ay) DL DL DL DL DL DL DL DL W
 have L1:=fun W=>Kl (-((bx-ax)*(py-ay)-(b_y-ay)*(px-ax))) ((bx-ax)*(bx-ax)+(b_y-ay)*(b_y-ay)) DL DL s0 DL W
 have L2:=fun W=>Kl ((bx-ax)*(px-ax)+(b_y-ay)*(py-ay)) ((bx-ax)*(bx-ax)+(b_y-ay)*(b_y-ay)) DL DL s0 DL W
 have wn:=MC (x:= -((bx-ax)*(py-ay)-(b_y-ay)*(px-ax))) DL DL;clear p1 p2 p3 p4 d1 l1 l2 v1 v2 s0 s1;generalize(bx-ax)*(bx-ax)+(b_y-ay)*(b_y-ay)=s at*;generalize(bx-ax)*(py-ay)-(b_y-ay)*(px-ax)=X at*;generalize(bx-ax)*(px-ax)+(b_y-ay)*(py-ay)=Y at*;generalize gL (-X) s=LX at*;generalize gL Y s=LY at*;subst hR;rcases T with⟨t1,t2⟩|t1
 all_goals
  go_enter Tryz.func154,Tryz.ntmps154;go_wp2_with fail;refine(kD ax ay bx b_y px py _ _ _ (uf _ _ _ DS)).mono ?_;rintro e w1 ⟨rfl,hb⟩;rw[HV.out];have k_0:=qe hb (b:=w.heap.size) (o:=0) (v:= .int .i64 ax) DR;have k_1:=qe hb (b:=w.heap.size) (o:=1) (v:= .int .i64 ay) DR;have k_2:=qe hb (b:=w.heap.size+1) (o:=0) (v:= .int .i64 bx) DR;have k_3:=qe hb (b:=w.heap.size+1) (o:=1) (v:= .int .i64 b_y) DR;have k_4:=qe hb (b:=w.heap.size+1+1) (o:=0) (v:= .int .i64 px) DR;have k_5:=qe hb (b:=w.heap.size+1+1) (o:=1) (v:= .int .i64 py) DR;have hz:=hb.size;simp at hz;have hz1:w.heap.size+1+1<w1.heap.size:=DL;go_wp2_with fail;go_cut [9,10] (fun s9 s10 wx=>∃g h:Nat,s9= .pointer (some ⟨g,0,none⟩)∧s10= .pointer (some ⟨h,0,none⟩)∧(wx.cell? ⟨g,0,none⟩=some (.int .i64 (bx-ax))∧wx.cell? ⟨g,1,none⟩=some (.int .i64 (b_y-ay))∧wx.cell? ⟨h,0,none⟩=some (.int .i64 (px-ax))∧wx.cell? ⟨h,1,none⟩=some (.int .i64 (py-ay)))∧(w1.heap.size≤g∧w1.heap.size≤h)∧Below w1.heap.size w1 wx)
  case first=>
   go_region_held3 (fun w'=>w'.cell? ⟨w.heap.size,0,none⟩=some (.int .i64 ax)∧w'.cell? ⟨w.heap.size,1,none⟩=some (.int .i64 ay)∧w'.cell? ⟨w.heap.size+1,0,none⟩=some (.int .i64 bx)∧w'.cell? ⟨w.heap.size+1,1,none⟩=some (.int .i64 b_y)∧w'.cell? ⟨w.heap.size+1+1,0,none⟩=some (.int .i64 px)∧w'.cell? ⟨w.heap.size+1+1,1,none⟩=some (.int .i64 py)) ((go_split_ands;refine⟨?_,?_,?_,?_,?_,?_⟩<;>(repeat(first|(with_reducible assumption)|(with_reducible refine qH ?_)|(with_reducible refine qC ?_ _)|(with_reducible refine qe DM ?_)|((with_reducible refine qJ ?_ ?_);(·(simp;done));(·rfl))|(with_reducible refine qB ?_ _)|((with_reducible refine qM ?_ ?_ _);(·first|(simp;done)|(simp;omega)|omega))))))
    (first|(go_at_call 74;(with_reducible refine(Zi _ _ _ _ DL DL DL DL _).mono ?_);rintro e w' ⟨rfl,rfl⟩))
   all_goals
    go_wp2_with fail;go_meet;refine⟨_,_,rfl,rfl,?_,?_,?_⟩
    ·simp[go_sem]
    ·constructor<;>(first|omega|(simp;omega))
    ·(repeat(with_reducible (first|assumption|exact Below.refl _ _|refine Below.drew ?_|refine below_drewN ?_ _|refine qG ?_ (by simp;try omega) _|refine qj ?_ (Nat.le_refl _) _|refine qA DM ?_)))
  case rest=>
   obtain⟨g,h,rfl,rfl,⟨c1,c2,c3,c4⟩,⟨hg,hh⟩,hbc⟩:=hcut;have hz2:=hbc.size;go_wp2_with fail;refine(D1 _).mono ?_;rintro e w3 ⟨rfl,hb3⟩;have e1:=qe hb3 c1;have e2:=qe hb3 c2;have e3:=qe hb3 c3;have e4:=qe hb3 c4;clear c1 c2 c3 c4;go_wp2_with fail
   go_region_held3 (fun w'=>w'.cell? ⟨g,0,none⟩=some (.int .i64 (bx-ax))∧w'.cell? ⟨g,1,none⟩=some (.int .i64 (b_y-ay))∧w'.cell? ⟨h,0,none⟩=some (.int .i64 (px-ax))∧w'.cell? ⟨h,1,none⟩=some (.int .i64 (py-ay))) ((go_split_ands;refine⟨?_,?_,?_,?_⟩<;>(repeat(first|(with_reducible assumption)|(with_reducible refine qH ?_)|(with_reducible refine qC ?_ _)|(with_reducible refine qe DM ?_)|((with_reducible refine qJ ?_ ?_);(·(simp;done));(·rfl))|(with_reducible refine qB ?_ _)|((with_reducible refine qM ?_ ?_ _);(·first|(simp;done)|(simp;omega)|omega))))))
    (first|(go_at_call 201;refine(CR _).mono ?_;rintro e w' ⟨rfl,hb'⟩)|(go_at_call 92;refine(D2 _).mono ?_;rintro e w' ⟨rfl,hb'⟩)|(go_at_call_of 200 (Value.int IntKind.i64 (-X));refine(L1 _).mono ?_;rintro e w' ⟨rfl,hb'⟩)|(go_at_call_of 200 (Value.int IntKind.i64 Y);refine(L2 _).mono ?_;rintro e w' ⟨rfl,hb'⟩)|(go_at_call_of 200 (Iv Y);refine(L2 _).mono ?_;rintro e w' ⟨rfl,hb'⟩))
   all_goals
    go_wp2_with fail;go_ret3;exact⟨rfl,by(repeat(with_reducible (first|assumption|exact Below.refl _ _|refine Below.drew ?_|refine below_drewN ?_ _|refine qG ?_ (by simp;try omega) _|refine qj ?_ (Nat.le_refl _) _|refine qA DM ?_)))⟩
set_option maxHeartbeats 2000000 in
theorem ZK(ax ay bx b_y px py:Int)(w:World)(R:Int×Int×Int)(hR:R=xz ax ay bx b_y px py):
 Calls Tryz.prog 180 #[.agg #[.int .i64 ax,.int .i64 ay],.agg #[.int .i64 bx,.int .i64 b_y],.agg #[.int .i64 px,.int .i64 py]] w fun e w'=>e= .returned (.tuple #[.int .i64 R.1,.int .i64 R.2.1,.int .i64 R.2.2])∧Below w.heap.size w w':=by
 unfold xz at hR;rcases hv:(qw ax ay&&qw bx b_y&&qw px py)with _|_
 ·rw[hv,if_pos DS]at hR;subst hR;have HV:=hide hv;clear hv;go_enter Tryz.func180,Tryz.ntmps180;go_wp2_with fail;refine(zW ax ay bx b_y px py _).mono ?_;rintro e w1 ⟨rfl,hb⟩;rw[HV.out];go_wp2_with fail;go_ret3;exact⟨rfl,by(repeat(with_reducible (first|assumption|exact Below.refl _ _|refine Below.drew ?_|refine below_drewN ?_ _|refine qG ?_ (by simp;try omega) _|refine qj ?_ (Nat.le_refl _) _|refine qA DM ?_)))⟩
 have hv':(qw ax ay=true∧qw bx b_y=true)∧qw px py=true:=by simpa using hv
 rw[hv,if_neg DS]at hR;by_cases he:ax=bx∧ay=b_y
 ·rw[if_pos he]at hR;subst hR;have HV:=hide hv;clear hv hv';obtain⟨rfl,rfl⟩:=he;go_enter Tryz.func180,Tryz.ntmps180;go_wp2_with fail;refine(zW ax ay ax ay px py _).mono ?_;rintro e w1 ⟨rfl,hb⟩;rw[HV.out];have k_0:=qe hb (b:=w.heap.size) (o:=0) (v:= .int .i64 ax) DR;have k_1:=qe hb (b:=w.heap.size) (o:=1) (v:= .int .i64 ay) DR;have k_2:=qe hb (b:=w.heap.size+1) (o:=0) (v:= .int .i64 ax) DR;have k_3:=qe hb (b:=w.heap.size+1) (o:=1) (v:= .int .i64 ay) DR;have k_4:=qe hb (b:=w.heap.size+1+1) (o:=0) (v:= .int .i64 px) DR;have k_5:=qe hb (b:=w.heap.size+1+1) (o:=1) (v:= .int .i64 py) DR;go_wp2_with fail;go_ret3;exact⟨rfl,by(repeat(with_reducible (first|assumption|exact Below.refl _ _|refine Below.drew ?_|refine below_drewN ?_ _|refine qG ?_ (by simp;try omega) _|refine qj ?_ (Nat.le_refl _) _|refine qA DM ?_)))⟩
 rw[if_neg he]at hR;have s0:=JS he;have s1:=ZW hv'.1.1 hv'.1.2;have b1:=zu hv'.1.1;have b2:=zu hv'.1.2;have b3:=zu hv'.2;have l1:=wV (px-ax) (py-ay) (bx-ax) (b_y-ay);have l2:=wX (px-ax) (py-ay) (bx-ax) (b_y-ay);have v1:=QY (a:=px-ax) (m:=4000000) DL DL;have v2:=QY (a:=py-ay) (m:=4000000) DL DL;have HV:=hide hv
 have T:((ax==bx)=true∧(ay==b_y)=false)∨(ax==bx)=false:=by
  by_cases hx0:ax=bx
  ·left;simp[hx0];intro hy0;exact he ⟨hx0,hy0⟩
  ·right;simp[hx0]
 clear he hv hv';unfold zV at*;have d1:=tF (a:=bx-ax) (b:=b_y-ay) (c:=px-ax) (d:=py-ay) DL DL DL DL DL DL DL DL;have p1:=jM (a:=bx-ax) (b:=py-ay) DL DL DL DL;have p2:=jM (a:=b_y-ay) (b:=px-ax) DL DL DL DL;have p3:=jM (a:=bx-ax) (b:=px-ax) DL DL DL DL;have p4:=jM (a:=b_y-ay) (b:=py-ay) DL DL DL DL;have D1:=fun W=>JB ax ay bx b_y ax ay bx b_y DL DL DL DL DL DL DL DL W
 have D2:=fun W=>JB ax ay bx b_y ax ay px py DL DL DL DL DL DL DL DL W
 have CR:=fun W=>ZH ax ay bx b_y ax ay px py DL DL DL DL DL DL DL DL W
 have L1:=fun W=>Yv (-((bx-ax)*(py-ay)-(b_y-ay)*(px-ax))) ((bx-ax)*(bx-ax)+(b_y-ay)*(b_y-ay)) 32000000000000 DP s0 DL DL
  (by
    have e: -((bx-ax)*(py-ay)-(b_y-ay)*(px-ax))* -((bx-ax)*(py-ay)-(b_y-ay)*(px-ax))=((px-ax)*(b_y-ay)-(py-ay)*(bx-ax))*((px-ax)*(b_y-ay)-(py-ay)*(bx-ax)):=by grind
    rw[e];refine Int.le_trans l1 ?_;rw[Int.mul_comm]
    exact Int.mul_le_mul_of_nonneg_right DL DL) W
 have L2:=fun W=>Yv ((bx-ax)*(px-ax)+(b_y-ay)*(py-ay)) ((bx-ax)*(bx-ax)+(b_y-ay)*(b_y-ay)) 32000000000000 DP s0 DL DL
  (by
    have e:(bx-ax)*(px-ax)+(b_y-ay)*(py-ay)=(px-ax)*(bx-ax)+(py-ay)*(b_y-ay):=by grind
    rw[e];refine Int.le_trans l2 ?_;rw[Int.mul_comm]
    exact Int.mul_le_mul_of_nonneg_right DL DL) W
 have wn:=MC (x:= -((bx-ax)*(py-ay)-(b_y-ay)*(px-ax))) DL DL;clear p1 p2 p3 p4 d1 l1 l2 v1 v2 s0 s1;generalize(bx-ax)*(bx-ax)+(b_y-ay)*(b_y-ay)=s at*;generalize(bx-ax)*(py-ay)-(b_y-ay)*(px-ax)=X at*;generalize(bx-ax)*(px-ax)+(b_y-ay)*(py-ay)=Y at*;generalize gL (-X) s=LX at*;generalize gL Y s=LY at*;subst hR;rcases T with⟨t1,t2⟩|t1
 all_goals
  go_enter Tryz.func180,Tryz.ntmps180;go_wp2_with fail;refine(zW ax ay bx b_y px py _).mono ?_;rintro e w1 ⟨rfl,hb⟩;rw[HV.out];have k_0:=qe hb (b:=w.heap.size) (o:=0) (v:= .int .i64 ax) DR;have k_1:=qe hb (b:=w.heap.size) (o:=1) (v:= .int .i64 ay) DR;have k_2:=qe hb (b:=w.heap.size+1) (o:=0) (v:= .int .i64 bx) DR;have k_3:=qe hb (b:=w.heap.size+1) (o:=1) (v:= .int .i64 b_y) DR;have k_4:=qe hb (b:=w.heap.size+1+1) (o:=0) (v:= .int .i64 px) DR;have k_5:=qe hb (b:=w.heap.size+1+1) (o:=1) (v:= .int .i64 py) DR;have hz:=hb.size;simp at hz;have hz1:w.heap.size+1+1<w1.heap.size:=DL;go_wp2_with fail;refine(D1 _).mono ?_;rintro e w3 ⟨rfl,hb3⟩;have l_0:=qe hb3 k_0;have l_1:=qe hb3 k_1;have l_2:=qe hb3 k_2;have l_3:=qe hb3 k_3;have l_4:=qe hb3 k_4;have l_5:=qe hb3 k_5;go_wp2_with fail
  go_region_held3 (fun w'=>w'.cell? ⟨w.heap.size,0,none⟩=some (.int .i64 ax)∧w'.cell? ⟨w.heap.size,1,none⟩=some (.int .i64 ay)∧w'.cell? ⟨w.heap.size+1,0,none⟩=some (.int .i64 bx)∧w'.cell? ⟨w.heap.size+1,1,none⟩=some (.int .i64 b_y)∧w'.cell? ⟨w.heap.size+1+1,0,none⟩=some (.int .i64 px)∧w'.cell? ⟨w.heap.size+1+1,1,none⟩=some (.int .i64 py)) ((go_split_ands;refine⟨?_,?_,?_,?_,?_,?_⟩<;>(repeat(first|(with_reducible assumption)|(with_reducible refine qH ?_)|(with_reducible refine qC ?_ _)|(with_reducible refine qe DM ?_)|((with_reducible refine qJ ?_ ?_);(·(simp;done));(·rfl))|(with_reducible refine qB ?_ _)|((with_reducible refine qM ?_ ?_ _);(·first|(simp;done)|(simp;omega)|omega))))))
   (first|(go_at_call 210;refine(CR _).mono ?_;rintro e w' ⟨rfl,hb'⟩)|(go_at_call 174;refine(D2 _).mono ?_;rintro e w' ⟨rfl,hb'⟩)|(go_at_call_of 209 (Value.int IntKind.i64 (-X));refine(L1 _).mono ?_;rintro e w' ⟨rfl,hb'⟩)|(go_at_call_of 209 (Value.int IntKind.i64 Y);refine(L2 _).mono ?_;rintro e w' ⟨rfl,hb'⟩)|(go_at_call_of 209 (Iv Y);refine(L2 _).mono ?_;rintro e w' ⟨rfl,hb'⟩))
  all_goals
   go_wp2_with fail;go_ret3;exact⟨rfl,by(repeat(with_reducible (first|assumption|exact Below.refl _ _|refine Below.drew ?_|refine below_drewN ?_ _|refine qG ?_ (by simp;try omega) _|refine qj ?_ (Nat.le_refl _) _|refine qA DM ?_)))⟩
end Go.Proofs.YtcgpbnlhnafhjaaGreatDoor
