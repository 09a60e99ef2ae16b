/-
  The walks of Ray, of the program and of the reference.
-/
import Derived.Test.YtiegohjobhehcaaGreatDoorMLineB
import Derived.Test.YtiegohjobhehcaaGreatDoorMWide
namespace Go.Proofs.YtiegohjobhehcaaGreatDoor
open Go.RowKit
set_option linter.unusedVariables false
set_option linter.unusedSimpArgs false
theorem wM{dist s:Int}(h1: -8000000≤dist)(h2:dist≤8000000)(h3: -1073741824≤s)(h4:s≤1073741824):
 (-8589934592000000≤dist*s∧dist*s≤8589934592000000)∧(-8000001≤kN 2 (dist*s) 1073741824∧kN 2 (dist*s) 1073741824≤8000001):=by
 have e1:=Int.mul_nonneg (show 0≤8000000-dist by omega) (show 0≤1073741824-s by omega);have e2:=Int.mul_nonneg (show 0≤8000000+dist by omega) (show 0≤1073741824+s by omega);have e3:=Int.mul_nonneg (show 0≤8000000-dist by omega) (show 0≤1073741824+s by omega);have e4:=Int.mul_nonneg (show 0≤8000000+dist by omega) (show 0≤1073741824-s by omega);have f1:(8000000-dist)*(1073741824-s)=8000000*1073741824-8000000*s-1073741824*dist+dist*s:=by grind
 have f2:(8000000+dist)*(1073741824+s)=8000000*1073741824+8000000*s+1073741824*dist+dist*s:=by grind
 have f3:(8000000-dist)*(1073741824+s)=8000000*1073741824+8000000*s-1073741824*dist-dist*s:=by grind
 have f4:(8000000+dist)*(1073741824-s)=8000000*1073741824-8000000*s+1073741824*dist-dist*s:=by grind
 have r:=WE (dist*s);generalize kN 2 (dist*s) 1073741824=q at*;generalize dist*s=p at*;omega
theorem VK{dist s:Int}(h1: -8000000≤dist)(h2:dist≤8000000)(h3: -1073741824≤s)(h4:s≤1073741824):qL 2 (dist*s) 1 1073741824=(kN 2 (dist*s) 1073741824,0):=by
 have h:=(wM h1 h2 h3 h4).2;unfold qL;rw[if_neg qg,Int.mul_one,if_pos];unfold Qy;generalize kN 2 (dist*s) 1073741824=q at*;exact decide_eq_true qg
set_option maxHeartbeats 2000000 in
theorem jY(px py course dist:Int)(hc:qz course)(hd:qz dist)(w:World)(R:Int×Int×Int)(hR:R=zn px py course dist):
 Calls Tryz.prog 70 #[.agg #[.int .i64 px,.int .i64 py],.int .i64 course,.int .i64 dist] w fun e w'=>e= .returned (.tuple #[.agg #[.int .i64 R.1,.int .i64 R.2.1],.int .i64 R.2.2])∧Below w.heap.size w w':=by
 unfold zn at hR;rcases hv:qw px py with _|_
 ·rw[hv,if_pos jL]at hR;subst hR;have HV:=hide hv;clear hv;go_enter Tryz.func70,Tryz.ntmps70;go_wp2_with fail;refine(uH px py false HV.out _).mono ?_;rintro e w1 ⟨rfl,rfl⟩;go_wp2_with fail;exact bodyPost_ret (v:= .tuple #[.agg #[.int .i64 0,.int .i64 0],.int .i64 1]) (by simp[results,Tryz.results70,go_sem, *]) rfl ⟨rfl,by(repeat(with_reducible (first|assumption|exact Below.refl _ _|refine Below.drew ?_|refine below_drewN ?_ _|refine qK ?_ (by simp;try omega) _|refine qu ?_ (Nat.le_refl _) _|refine qH qY ?_)))⟩
 rw[hv,if_neg jL]at hR;have HV:=hide hv;have b1:=jX hv;clear hv;by_cases h2:dist>8000000∨dist< -8000000
 ·rw[if_pos h2]at hR;subst hR;have T:dist>8000000∨(¬dist>8000000∧dist< -8000000):=qg;clear h2;rcases T with t1|⟨t1,t2⟩
  all_goals
   go_enter Tryz.func70,Tryz.ntmps70;go_wp2_with fail;refine(uH px py true HV.out _).mono ?_;rintro e w1 ⟨rfl,rfl⟩;go_wp2_with fail;exact bodyPost_ret (v:= .tuple #[.agg #[.int .i64 0,.int .i64 0],.int .i64 2]) (by simp[results,Tryz.results70,go_sem, *]) rfl ⟨rfl,by(repeat(with_reducible (first|assumption|exact Below.refl _ _|refine Below.drew ?_|refine below_drewN ?_ _|refine qK ?_ (by simp;try omega) _|refine qu ?_ (Nat.le_refl _) _|refine qH qY ?_)))⟩
 rw[if_neg h2]at hR;unfold Bl Bm at hR;have h3: -8000000≤dist:=qg;have h4:dist≤8000000:=qg;have sb:=Qc course;have cb:=Ja course;have SC:=fun w=>Qg course hc w
 have CC:=fun w=>Zs course hc w
 have s1:=wM h3 h4 sb.1 sb.2;have s2:=wM h3 h4 cb.1 cb.2;have RX:=fun w=>Zu (dist*yJ course) 1073741824 yq yq w
 have RY:=fun w=>Zu (dist*vT course) 1073741824 yq yq w
 rw[VK h3 h4 sb.1 sb.2]at RX;rw[VK h3 h4 cb.1 cb.2]at RY;clear h2;generalize yJ course=s at*;generalize vT course=c at*;generalize kN 2 (dist*s) 1073741824=X at*;generalize kN 2 (dist*c) 1073741824=Y at*;obtain⟨⟨p1,p2⟩,q1,q2⟩:=s1;obtain⟨⟨p3,p4⟩,q3,q4⟩:=s2;rcases hw:qw (px+X) (py+Y)with _|_
 all_goals
  rw[hw]at hR;have HW:=hide hw;clear hw
 ·rw[if_neg jL]at hR;subst hR;go_enter Tryz.func70,Tryz.ntmps70;go_wp2_with fail;refine(uH px py true HV.out _).mono ?_;rintro e w1 ⟨rfl,rfl⟩;go_wp2_with fail;go_wp2_with(first|(go_at_call 36;refine(SC _).mono ?_;rintro e w' ⟨rfl,rfl⟩)|(go_at_call 37;refine(CC _).mono ?_;rintro e w' ⟨rfl,rfl⟩)|(go_at_call_of 92 (Value.int IntKind.i64 (dist*s));refine(RX _).mono ?_;rintro e w' ⟨rfl,n,rfl⟩)|(go_at_call_of 92 (Value.int IntKind.i64 (dist*c));refine(RY _).mono ?_;rintro e w' ⟨rfl,n,rfl⟩)|(go_at_call 31;refine(uH _ _ _ HW.out _).mono ?_;rintro e w' ⟨rfl,rfl⟩));exact bodyPost_ret (v:= .tuple #[.agg #[.int .i64 0,.int .i64 0],.int .i64 2]) (by simp[results,Tryz.results70,go_sem, *]) rfl ⟨rfl,by(repeat(with_reducible (first|assumption|exact Below.refl _ _|refine Below.drew ?_|refine below_drewN ?_ _|refine qK ?_ (by simp;try omega) _|refine qu ?_ (Nat.le_refl _) _|refine qH qY ?_)))⟩
 ·rw[if_pos rfl]at hR;subst hR;go_enter Tryz.func70,Tryz.ntmps70;go_wp2_with fail;refine(uH px py true HV.out _).mono ?_;rintro e w1 ⟨rfl,rfl⟩;go_wp2_with fail;go_wp2_with(first|(go_at_call 36;refine(SC _).mono ?_;rintro e w' ⟨rfl,rfl⟩)|(go_at_call 37;refine(CC _).mono ?_;rintro e w' ⟨rfl,rfl⟩)|(go_at_call_of 92 (Value.int IntKind.i64 (dist*s));refine(RX _).mono ?_;rintro e w' ⟨rfl,n,rfl⟩)|(go_at_call_of 92 (Value.int IntKind.i64 (dist*c));refine(RY _).mono ?_;rintro e w' ⟨rfl,n,rfl⟩)|(go_at_call 31;refine(uH _ _ _ HW.out _).mono ?_;rintro e w' ⟨rfl,rfl⟩));exact bodyPost_ret (v:= .tuple #[.agg #[.int .i64 (px+X),.int .i64 (py+Y)],.int .i64 0]) (by simp[results,Tryz.results70,go_sem, *]) rfl ⟨rfl,by(repeat(with_reducible (first|assumption|exact Below.refl _ _|refine Below.drew ?_|refine below_drewN ?_ _|refine qK ?_ (by simp;try omega) _|refine qu ?_ (Nat.le_refl _) _|refine qH qY ?_)))⟩
theorem wi{x:Int}(h1: -9223372036854775808≤x)(h2:x≤9223372036854775807):IntKind.i64.wrap x=x:=IntWalk.i64_in _ qg
theorem xX(ax ay bx b_y:Int):0≤(qO ax ay bx b_y).1∧(qO ax ay bx b_y).1<129600000:=by
 unfold qO;split
 ·decide
 ·split
  ·decide
  ·exact gI _ _
set_option maxHeartbeats 2000000 in
theorem Vd(ax ay bx b_y px py:Int)(w:World)(R:Int×Int×Int)(hR:R=Kb ax ay bx b_y px py):
 Calls Tryz.prog 157 #[.agg #[.int .i64 ax,.int .i64 ay],.agg #[.int .i64 bx,.int .i64 b_y],.agg #[.int .i64 px,.int .i64 py]] w fun e w'=>e= .returned (.tuple #[.int .i64 R.1,.int .i64 R.2.1,.int .i64 R.2.2])∧Below w.heap.size w w':=by
 unfold Kb at hR;rcases hv:(qw ax ay&&qw bx b_y&&qw px py)with _|_
 ·rw[hv,if_pos jL]at hR;subst hR;have HV:=hide hv;clear hv;go_enter Tryz.func157,Tryz.ntmps157;go_wp2_with fail;refine(kC ax ay bx b_y px py _ _ _ (uo _ _ _ jL)).mono ?_;rintro e w1 ⟨rfl,hb⟩;rw[HV.out];go_wp2_with fail;go_ret3;exact⟨rfl,by(repeat(with_reducible (first|assumption|exact Below.refl _ _|refine Below.drew ?_|refine below_drewN ?_ _|refine qK ?_ (by simp;try omega) _|refine qu ?_ (Nat.le_refl _) _|refine qH qY ?_)))⟩
 have hv':(qw ax ay=true∧qw bx b_y=true)∧qw px py=true:=by simpa using hv
 rw[hv,if_neg jL]at hR;by_cases he:ax=bx∧ay=b_y
 ·rw[if_pos he]at hR;subst hR;have HV:=hide hv;clear hv hv';obtain⟨rfl,rfl⟩:=he;go_enter Tryz.func157,Tryz.ntmps157;go_wp2_with fail;refine(kC ax ay ax ay px py _ _ _ (uo _ _ _ jL)).mono ?_;rintro e w1 ⟨rfl,hb⟩;rw[HV.out];have k_0:=qi hb (b:=w.heap.size) (o:=0) (v:= .int .i64 ax) yt;have k_1:=qi hb (b:=w.heap.size) (o:=1) (v:= .int .i64 ay) yt;have k_2:=qi hb (b:=w.heap.size+1) (o:=0) (v:= .int .i64 ax) yt;have k_3:=qi hb (b:=w.heap.size+1) (o:=1) (v:= .int .i64 ay) yt;have k_4:=qi hb (b:=w.heap.size+1+1) (o:=0) (v:= .int .i64 px) yt;have k_5:=qi hb (b:=w.heap.size+1+1) (o:=1) (v:= .int .i64 py) yt;go_wp2_with fail;go_ret3;exact⟨rfl,by(repeat(with_reducible (first|assumption|exact Below.refl _ _|refine Below.drew ?_|refine below_drewN ?_ _|refine qK ?_ (by simp;try omega) _|refine qu ?_ (Nat.le_refl _) _|refine qH qY ?_)))⟩
 rw[if_neg he]at hR;have s0:=rA he;have s1:=Kd hv'.1.1 hv'.1.2;have b1:=jX hv'.1.1;have b2:=jX hv'.1.2;have b3:=jX hv'.2;have l1:=FY (px-ax) (py-ay) (bx-ax) (b_y-ay);have l2:=FZ (px-ax) (py-ay) (bx-ax) (b_y-ay);have v1:=GJ (a:=px-ax) (m:=4000000) qg qg;have v2:=GJ (a:=py-ay) (m:=4000000) qg qg;have HV:=hide hv
 have T:((ax==bx)=true∧(ay==b_y)=false)∨(ax==bx)=false:=by
  by_cases hx0:ax=bx
  ·left;simp[hx0];intro hy0;exact he ⟨hx0,hy0⟩
  ·right;simp[hx0]
 clear he hv hv';unfold yH at*;have d1:=VJ (a:=bx-ax) (b:=b_y-ay) (c:=px-ax) (d:=py-ay) qg qg qg qg qg qg qg qg;have p1:=vh (a:=bx-ax) (b:=py-ay) qg qg qg qg;have p2:=vh (a:=b_y-ay) (b:=px-ax) qg qg qg qg;have p3:=vh (a:=bx-ax) (b:=px-ax) qg qg qg qg;have p4:=vh (a:=b_y-ay) (b:=py-ay) qg qg qg qg;have D1:=fun W=>Gf (bx-ax) (b_y-ay) (bx-ax) (b_y-ay) qg qg qg qg qg qg qg qg W
 have D2:=fun W=>Gf (bx-ax) (b_y-ay) (px-ax) (py-ay) qg qg qg qg qg qg qg qg W
 have CR:=fun W=>Vb (bx-ax) (b_y-ay) (px-ax) (py-ay) qg qg qg qg qg qg qg qg W
 have L1:=fun W=>Kz (-((bx-ax)*(py-ay)-(b_y-ay)*(px-ax))) ((bx-ax)*(bx-ax)+(b_y-ay)*(b_y-ay)) qg qg s0 qg W
 have L2:=fun W=>Kz ((bx-ax)*(px-ax)+(b_y-ay)*(py-ay)) ((bx-ax)*(bx-ax)+(b_y-ay)*(b_y-ay)) qg qg s0 qg W
 have wn:=LL (x:= -((bx-ax)*(py-ay)-(b_y-ay)*(px-ax))) qg qg;clear p1 p2 p3 p4 d1 l1 l2 v1 v2 s0 s1;generalize(bx-ax)*(bx-ax)+(b_y-ay)*(b_y-ay)=s at*;generalize(bx-ax)*(py-ay)-(b_y-ay)*(px-ax)=X at*;generalize(bx-ax)*(px-ax)+(b_y-ay)*(py-ay)=Y at*;generalize YV (-X) s=LX at*;generalize YV Y s=LY at*;subst hR;rcases T with⟨t1,t2⟩|t1
 all_goals
  go_enter Tryz.func157,Tryz.ntmps157;go_wp2_with fail;refine(kC ax ay bx b_y px py _ _ _ (uo _ _ _ jL)).mono ?_;rintro e w1 ⟨rfl,hb⟩;rw[HV.out];have k_0:=qi hb (b:=w.heap.size) (o:=0) (v:= .int .i64 ax) yt;have k_1:=qi hb (b:=w.heap.size) (o:=1) (v:= .int .i64 ay) yt;have k_2:=qi hb (b:=w.heap.size+1) (o:=0) (v:= .int .i64 bx) yt;have k_3:=qi hb (b:=w.heap.size+1) (o:=1) (v:= .int .i64 b_y) yt;have k_4:=qi hb (b:=w.heap.size+1+1) (o:=0) (v:= .int .i64 px) yt;have k_5:=qi hb (b:=w.heap.size+1+1) (o:=1) (v:= .int .i64 py) yt;have hz:=hb.size;simp at hz;have hz1:w.heap.size+1+1<w1.heap.size:=qg;go_wp2_with fail;go_cut [9,10] (fun s9 s10 wx=>∃g h:Nat,s9= .pointer (some ⟨g,0,none⟩)∧s10= .pointer (some ⟨h,0,none⟩)∧(wx.cell? ⟨g,0,none⟩=some (.int .i64 (bx-ax))∧wx.cell? ⟨g,1,none⟩=some (.int .i64 (b_y-ay))∧wx.cell? ⟨h,0,none⟩=some (.int .i64 (px-ax))∧wx.cell? ⟨h,1,none⟩=some (.int .i64 (py-ay)))∧(w1.heap.size≤g∧w1.heap.size≤h)∧Below w1.heap.size w1 wx)
  case first=>
   go_region_held3 (fun w'=>w'.cell? ⟨w.heap.size,0,none⟩=some (.int .i64 ax)∧w'.cell? ⟨w.heap.size,1,none⟩=some (.int .i64 ay)∧w'.cell? ⟨w.heap.size+1,0,none⟩=some (.int .i64 bx)∧w'.cell? ⟨w.heap.size+1,1,none⟩=some (.int .i64 b_y)∧w'.cell? ⟨w.heap.size+1+1,0,none⟩=some (.int .i64 px)∧w'.cell? ⟨w.heap.size+1+1,1,none⟩=some (.int .i64 py)) ((go_split_ands;refine⟨?_,?_,?_,?_,?_,?_⟩<;>(repeat(first|(with_reducible assumption)|(with_reducible refine qX ?_)|(with_reducible refine qV ?_ _)|(with_reducible refine qi qY ?_)|((with_reducible refine zf ?_ ?_);(·(simp;done));(·rfl))|(with_reducible refine qR ?_ _)|((with_reducible refine zr ?_ ?_ _);(·first|(simp;done)|(simp;omega)|omega))))))
    (first|(go_at_call 27;(with_reducible refine(ZW _ _ _ _ qg qg qg qg _).mono ?_);rintro e w' ⟨rfl,rfl⟩))
   all_goals
    go_wp2_with fail;go_meet;refine⟨_,_,rfl,rfl,?_,?_,?_⟩
    ·simp[go_sem]
    ·constructor<;>(first|omega|(simp;omega))
    ·(repeat(with_reducible (first|assumption|exact Below.refl _ _|refine Below.drew ?_|refine below_drewN ?_ _|refine qK ?_ (by simp;try omega) _|refine qu ?_ (Nat.le_refl _) _|refine qH qY ?_)))
  case rest=>
   obtain⟨g,h,rfl,rfl,⟨c1,c2,c3,c4⟩,⟨hg,hh⟩,hbc⟩:=hcut;have hz2:=hbc.size;go_wp2_with fail;refine(D1 _).mono ?_;rintro e w3 ⟨rfl,hb3⟩;have e1:=qi hb3 c1;have e2:=qi hb3 c2;have e3:=qi hb3 c3;have e4:=qi hb3 c4;clear c1 c2 c3 c4;go_wp2_with fail
   go_region_held3 (fun w'=>w'.cell? ⟨g,0,none⟩=some (.int .i64 (bx-ax))∧w'.cell? ⟨g,1,none⟩=some (.int .i64 (b_y-ay))∧w'.cell? ⟨h,0,none⟩=some (.int .i64 (px-ax))∧w'.cell? ⟨h,1,none⟩=some (.int .i64 (py-ay))) ((go_split_ands;refine⟨?_,?_,?_,?_⟩<;>(repeat(first|(with_reducible assumption)|(with_reducible refine qX ?_)|(with_reducible refine qV ?_ _)|(with_reducible refine qi qY ?_)|((with_reducible refine zf ?_ ?_);(·(simp;done));(·rfl))|(with_reducible refine qR ?_ _)|((with_reducible refine zr ?_ ?_ _);(·first|(simp;done)|(simp;omega)|omega))))))
    (first|(go_at_call 204;refine(CR _).mono ?_;rintro e w' ⟨rfl,hb'⟩)|(go_at_call 91;refine(D2 _).mono ?_;rintro e w' ⟨rfl,hb'⟩)|(go_at_call_of 203 (Value.int IntKind.i64 (-X));refine(L1 _).mono ?_;rintro e w' ⟨rfl,hb'⟩)|(go_at_call_of 203 (Value.int IntKind.i64 Y);refine(L2 _).mono ?_;rintro e w' ⟨rfl,hb'⟩)|(go_at_call_of 203 (Iv Y);refine(L2 _).mono ?_;rintro e w' ⟨rfl,hb'⟩))
   all_goals
    go_wp2_with fail;go_ret3;exact⟨rfl,by(repeat(with_reducible (first|assumption|exact Below.refl _ _|refine Below.drew ?_|refine below_drewN ?_ _|refine qK ?_ (by simp;try omega) _|refine qu ?_ (Nat.le_refl _) _|refine qH qY ?_)))⟩
end Go.Proofs.YtiegohjobhehcaaGreatDoor
