/-
  The walks of arcs: validity, length, sides.
-/
import Derived.Test.YtcgpbnlhnafhjaaGreatDoorMLineA
set_option maxRecDepth 100000
set_option maxHeartbeats 16000000
namespace Go.Proofs.YtcgpbnlhnafhjaaGreatDoor
open Go.RowKit
set_option linter.unusedVariables false
set_option linter.unusedSimpArgs false
theorem zMTurnA0{P:Prop}(h:P:=by repeat(first|(with_reducible assumption)|(with_reducible refine qH ?_)|(with_reducible refine qC ?_ _)|(with_reducible refine qe DM ?_)|((with_reducible refine qJ ?_ ?_);(·(simp;done));(·rfl))|(with_reducible refine qB ?_ _)|((with_reducible refine qM ?_ ?_ _);(·first|(simp;done)|(simp;omega)|omega)))):P:=h
theorem xc{cx cy r f s:Int}(h:ur cx cy r f s=true):qw cx cy=true∧(1≤r∧r≤8000000)∧(0≤f∧f<129600000)∧ -129600000≤s∧s≤129600000:=by
 have:=(Qc _ _ _ _ _).1 h;exact⟨this.1,⟨this.2.1,this.2.2.1⟩,⟨this.2.2.2.1,this.2.2.2.2.1⟩,this.2.2.2.2.2⟩
theorem iC{r a:Int}(h1:1≤r)(h2:r≤8000000)(h3:0≤a)(h4:a≤129600000):(0≤r*a∧r*a≤1036800000000000)∧qR 2 (r*a) 1 20626481=(vW 2 (r*a) 20626481,0)∧(0≤vW 2 (r*a) 20626481∧vW 2 (r*a) 20626481≤60000000):=by
 have e1:0≤r*a:=Int.mul_nonneg DL h3;have e2:r*a≤8000000*129600000:=Int.mul_le_mul h2 h4 h3 DL;have b:0≤vW 2 (r*a) 20626481∧vW 2 (r*a) 20626481≤60000000:=by rw[aJ];omega
 refine⟨DL,?_,b⟩;unfold qR;rw[if_neg DL,Int.mul_one,if_pos];unfold Zp;generalize vW 2 (r*a) 20626481=q at*;exact decide_eq_true DL
theorem xH(cx cy r f s:Int)(w:World):
 Calls Tryz.prog 66 #[.agg #[Iv cx,Iv cy,Iv r,Iv f,Iv s]] w fun e w'=>e= .returned (.bool (ur cx cy r f s))∧Below w.heap.size w w':=by
 rcases hv:qw cx cy with _|_
 all_goals
  have HV:=hide hv;clear hv;go_enter Tryz.func66,Tryz.ntmps66;go_wp2_with(go_at_call 30;refine(ux _ _ _ HV.out _).mono ?_;rintro e w' ⟨rfl,rfl⟩)
 ·go_ret;exact⟨jF (by unfold ur;rw[HV.out];rfl),by(repeat(with_reducible (first|assumption|exact Below.refl _ _|refine Below.drew ?_|refine below_drewN ?_ _|refine qG ?_ (by simp;try omega) _|refine qj ?_ (Nat.le_refl _) _|refine qA DM ?_)))⟩
 all_goals
  go_ret;exact⟨jF (by unfold ur;rw[HV.out,Bool.eq_iff_iff];simp;try omega),by(repeat(with_reducible (first|assumption|exact Below.refl _ _|refine Below.drew ?_|refine below_drewN ?_ _|refine qG ?_ (by simp;try omega) _|refine qj ?_ (Nat.le_refl _) _|refine qA DM ?_)))⟩
theorem tC(cx cy r f s:Int)(w:World):
 Calls Tryz.prog 122 #[.agg #[Iv cx,Iv cy,Iv r,Iv f,Iv s]] w fun e w'=>e= .returned (.bool (ur cx cy r f s))∧Below w.heap.size w w':=by
 rcases hv:qw cx cy with _|_
 all_goals
  have HV:=hide hv;clear hv;go_enter Tryz.func122,Tryz.ntmps122;go_wp2_with(go_at_call 49;refine(yo _ _ _ HV.out _).mono ?_;rintro e w' ⟨rfl,rfl⟩)
 ·go_ret;exact⟨jF (by unfold ur;rw[HV.out];rfl),by(repeat(with_reducible (first|assumption|exact Below.refl _ _|refine Below.drew ?_|refine below_drewN ?_ _|refine qG ?_ (by simp;try omega) _|refine qj ?_ (Nat.le_refl _) _|refine qA DM ?_)))⟩
 all_goals
  go_ret;exact⟨jF (by unfold ur;rw[HV.out,Bool.eq_iff_iff];simp;try omega),by(repeat(with_reducible (first|assumption|exact Below.refl _ _|refine Below.drew ?_|refine below_drewN ?_ _|refine qG ?_ (by simp;try omega) _|refine qj ?_ (Nat.le_refl _) _|refine qA DM ?_)))⟩
theorem QR(a:Int)(h: -9223372036854775807≤a)(h2:a≤9223372036854775807)(w:World):
 Calls Tryz.prog 124 #[Iv a] w fun e w'=>e= .returned (Iv a.natAbs)∧w=w':=by
 go_enter Tryz.func124,Tryz.ntmps124;go_wp2
 all_goals
  go_ret;exact⟨qI DL,rfl⟩
theorem Yc(cx cy r f s x:Int)(h: -9000000000000000000≤x)(h2:x≤9000000000000000000)(w:World):
 Calls Tryz.prog 70 #[.agg #[Iv cx,Iv cy,Iv r,Iv f,Iv s],Iv x] w fun e w'=>e= .returned (Iv (zD s x))∧Below w.heap.size w w':=by
 go_enter Tryz.func70,Tryz.ntmps70;go_wp2
 all_goals
  go_ret;exact⟨qI (by unfold zD;split<;>omega),by(repeat(with_reducible (first|assumption|exact Below.refl _ _|refine Below.drew ?_|refine below_drewN ?_ _|refine qG ?_ (by simp;try omega) _|refine qj ?_ (Nat.le_refl _) _|refine qA DM ?_)))⟩
theorem uX(d x s:Int)(hd:qK d)(h: -9000000000000000000≤x)(h2:x≤9000000000000000000)(w:World):
 Calls Tryz.prog 192 #[Iv d,Iv x,Iv s] w fun e w'=>e= .returned (Iv (zy d (zD s x)))∧w=w':=by
 have T1:=fun W=>xa d x hd DP W
 have T2:=fun W=>xa d (-x) hd DP W
 by_cases hs:s<0
 ·rw[show zD s x= -x from by unfold zD;rw[if_pos hs]];generalize zy d (-x)=R at*;go_enter Tryz.func192,Tryz.ntmps192;go_wp2_with(go_at_call 120;refine(T2 _).mono ?_;rintro e w' ⟨rfl,rfl⟩);go_ret;exact⟨rfl,rfl⟩
 ·rw[show zD s x=x from by unfold zD;rw[if_neg hs]];generalize zy d x=R at*;go_enter Tryz.func192,Tryz.ntmps192;go_wp2_with(go_at_call 120;refine(T1 _).mono ?_;rintro e w' ⟨rfl,rfl⟩);go_ret;exact⟨rfl,rfl⟩
theorem gJ(cx cy r f s:Int)(w:World):
 Calls Tryz.prog 40 #[.agg #[Iv cx,Iv cy,Iv r,Iv f,Iv s]] w fun e w'=>e= .returned (Iv (qX cx cy r f s))∧Below w.heap.size w w':=by
 rcases hB:ur cx cy r f s with _|_
 ·have HR:Hid (qX cx cy r f s=0):=hide (by unfold qX;rw[hB];rfl);have HB:=hide hB;clear hB;generalize qX cx cy r f s=R at*;obtain rfl:R=0:=HR.out;go_enter Tryz.func40,Tryz.ntmps40;go_wp2_with fail;refine(xH cx cy r f s _).mono ?_;rintro e w1 ⟨rfl,hb1⟩;rw[HB.out];have f1:=qe hb1 (b:=w.heap.size) (o:=0) (v:=Iv cx) zMTurnA0;have zf1:w.heap.size<w1.heap.size:=World.block_lt_of_cell? _ _ f1;have f2:=qe hb1 (b:=w.heap.size) (o:=1) (v:=Iv cy) zMTurnA0;have f3:=qe hb1 (b:=w.heap.size) (o:=2) (v:=Iv r) zMTurnA0;have f4:=qe hb1 (b:=w.heap.size) (o:=3) (v:=Iv f) zMTurnA0;have f5:=qe hb1 (b:=w.heap.size) (o:=4) (v:=Iv s) zMTurnA0;go_wp2_with fail;go_ret;exact⟨rfl,by(repeat(with_reducible (first|assumption|exact Below.refl _ _|refine Below.drew ?_|refine below_drewN ?_ _|refine qG ?_ (by simp;try omega) _|refine qj ?_ (Nat.le_refl _) _|refine qA DM ?_)))⟩
 ·have HR:=hide (KT hB);have HB:=hide hB;obtain⟨_,⟨b1,b2⟩,_,b3,b4⟩:=xc hB;have L:=iC (a:=(s.natAbs:Int)) b1 b2 DL DL;have AB:=fun W=>kY s DP DL W
  have RD:=fun W=>QO (r*s.natAbs) 20626481 DP DP W
  rw[L.2.1]at RD;have wn:=MC (x:=r*s.natAbs) DL DL;clear hB;generalize qX cx cy r f s=R at*;generalize(s.natAbs:Int)=a at*;obtain⟨⟨l1,l2⟩,_,l3,l4⟩:=L;generalize vW 2 (r*a) 20626481=q at*;obtain rfl:R=q:=HR.out;go_enter Tryz.func40,Tryz.ntmps40;go_wp2_with fail;refine(xH cx cy r f s _).mono ?_;rintro e w1 ⟨rfl,hb1⟩;rw[HB.out];have f1:=qe hb1 (b:=w.heap.size) (o:=0) (v:=Iv cx) zMTurnA0;have zf1:w.heap.size<w1.heap.size:=World.block_lt_of_cell? _ _ f1;have f2:=qe hb1 (b:=w.heap.size) (o:=1) (v:=Iv cy) zMTurnA0;have f3:=qe hb1 (b:=w.heap.size) (o:=2) (v:=Iv r) zMTurnA0;have f4:=qe hb1 (b:=w.heap.size) (o:=3) (v:=Iv f) zMTurnA0;have f5:=qe hb1 (b:=w.heap.size) (o:=4) (v:=Iv s) zMTurnA0;go_wp2_with fail
  go_region_held3 (fun w'=>w'.cell? ⟨w.heap.size,0,none⟩=some (Iv cx)∧w'.cell? ⟨w.heap.size,1,none⟩=some (Iv cy)∧w'.cell? ⟨w.heap.size,2,none⟩=some (Iv r)∧w'.cell? ⟨w.heap.size,3,none⟩=some (Iv f)∧w'.cell? ⟨w.heap.size,4,none⟩=some (Iv s)) ((go_split_ands;refine⟨?_,?_,?_,?_,?_⟩<;>(repeat(first|(with_reducible assumption)|(with_reducible refine qH ?_)|(with_reducible refine qC ?_ _)|(with_reducible refine qe DM ?_)|((with_reducible refine qJ ?_ ?_);(·(simp;done));(·rfl))|(with_reducible refine qB ?_ _)|((with_reducible refine qM ?_ ?_ _);(·first|(simp;done)|(simp;omega)|omega))))))
   (first|refine DG (AB _) ?_|(go_at_call 93;(with_reducible refine(RD _).mono ?_);rintro e w' ⟨rfl,n,rfl⟩))
  all_goals
   go_wp2_with fail;go_ret;exact⟨rfl,by(repeat(with_reducible (first|assumption|exact Below.refl _ _|refine Below.drew ?_|refine below_drewN ?_ _|refine qG ?_ (by simp;try omega) _|refine qj ?_ (Nat.le_refl _) _|refine qA DM ?_)))⟩
theorem uY(cx cy r f s:Int)(w:World):
 Calls Tryz.prog 58 #[.agg #[Iv cx,Iv cy,Iv r,Iv f,Iv s]] w fun e w'=>e= .returned (Iv (qX cx cy r f s))∧Below w.heap.size w w':=by
 rcases hB:ur cx cy r f s with _|_
 ·have HR:Hid (qX cx cy r f s=0):=hide (by unfold qX;rw[hB];rfl);have HB:=hide hB;clear hB;generalize qX cx cy r f s=R at*;obtain rfl:R=0:=HR.out;go_enter Tryz.func58,Tryz.ntmps58;go_wp2_with fail;refine(tC cx cy r f s _).mono ?_;rintro e w1 ⟨rfl,hb1⟩;rw[HB.out];have f1:=qe hb1 (b:=w.heap.size) (o:=0) (v:=Iv cx) zMTurnA0;have zf1:w.heap.size<w1.heap.size:=World.block_lt_of_cell? _ _ f1;have f2:=qe hb1 (b:=w.heap.size) (o:=1) (v:=Iv cy) zMTurnA0;have f3:=qe hb1 (b:=w.heap.size) (o:=2) (v:=Iv r) zMTurnA0;have f4:=qe hb1 (b:=w.heap.size) (o:=3) (v:=Iv f) zMTurnA0;have f5:=qe hb1 (b:=w.heap.size) (o:=4) (v:=Iv s) zMTurnA0;go_wp2_with fail;go_ret;exact⟨rfl,by(repeat(with_reducible (first|assumption|exact Below.refl _ _|refine Below.drew ?_|refine below_drewN ?_ _|refine qG ?_ (by simp;try omega) _|refine qj ?_ (Nat.le_refl _) _|refine qA DM ?_)))⟩
 ·have HR:=hide (KT hB);have HB:=hide hB;obtain⟨_,⟨b1,b2⟩,_,b3,b4⟩:=xc hB;have L:=iC (a:=(s.natAbs:Int)) b1 b2 DL DL;have AB:=fun W=>QR s DL DL W
  have RD:=fun W=>Zs (r*s.natAbs) 20626481 DP DP W
  rw[L.2.1]at RD;have wn:=MC (x:=r*s.natAbs) DL DL;clear hB;generalize qX cx cy r f s=R at*;generalize(s.natAbs:Int)=a at*;obtain⟨⟨l1,l2⟩,_,l3,l4⟩:=L;generalize vW 2 (r*a) 20626481=q at*;obtain rfl:R=q:=HR.out;go_enter Tryz.func58,Tryz.ntmps58;go_wp2_with fail;refine(tC cx cy r f s _).mono ?_;rintro e w1 ⟨rfl,hb1⟩;rw[HB.out];have f1:=qe hb1 (b:=w.heap.size) (o:=0) (v:=Iv cx) zMTurnA0;have zf1:w.heap.size<w1.heap.size:=World.block_lt_of_cell? _ _ f1;have f2:=qe hb1 (b:=w.heap.size) (o:=1) (v:=Iv cy) zMTurnA0;have f3:=qe hb1 (b:=w.heap.size) (o:=2) (v:=Iv r) zMTurnA0;have f4:=qe hb1 (b:=w.heap.size) (o:=3) (v:=Iv f) zMTurnA0;have f5:=qe hb1 (b:=w.heap.size) (o:=4) (v:=Iv s) zMTurnA0;go_wp2_with fail
  go_region_held3 (fun w'=>w'.cell? ⟨w.heap.size,0,none⟩=some (Iv cx)∧w'.cell? ⟨w.heap.size,1,none⟩=some (Iv cy)∧w'.cell? ⟨w.heap.size,2,none⟩=some (Iv r)∧w'.cell? ⟨w.heap.size,3,none⟩=some (Iv f)∧w'.cell? ⟨w.heap.size,4,none⟩=some (Iv s)) ((go_split_ands;refine⟨?_,?_,?_,?_,?_⟩<;>(repeat(first|(with_reducible assumption)|(with_reducible refine qH ?_)|(with_reducible refine qC ?_ _)|(with_reducible refine qe DM ?_)|((with_reducible refine qJ ?_ ?_);(·(simp;done));(·rfl))|(with_reducible refine qB ?_ _)|((with_reducible refine qM ?_ ?_ _);(·first|(simp;done)|(simp;omega)|omega))))))
   (first|refine DG (AB _) ?_|(go_at_call 123;(with_reducible refine(RD _).mono ?_);rintro e w' ⟨rfl,n,rfl⟩))
  all_goals
   go_wp2_with fail;go_ret;exact⟨rfl,by(repeat(with_reducible (first|assumption|exact Below.refl _ _|refine Below.drew ?_|refine below_drewN ?_ _|refine qG ?_ (by simp;try omega) _|refine qj ?_ (Nat.le_refl _) _|refine qA DM ?_)))⟩
theorem iD{v b:Int}(h:¬(1≤v∧v≤1000∧1≤b∧b≤3000)):uD v b=(0,2)∧WX v b=(0,2):=by unfold uD WX;rw[if_neg h,if_neg h];exact⟨rfl,rfl⟩
theorem dm{v b X E:Int}(h:1≤v∧v≤1000∧1≤b∧b≤3000)(hm:qR 1 (v*v*87431) (yF (b*3600)) (1000000*jO (b*3600))=(X,E)):uD v b=if E=0∧X≤8000000 then(X,0)else(0,2):=by unfold uD;rw[if_pos h,hm]
theorem Pr{v:Int}(h1:1≤v)(h2:v≤1000):1≤v*v∧v*v≤1000000:=by
 have a:1*1≤v*v:=Int.mul_le_mul h1 h1 DL DL;have b:v*v≤1000*1000:=Int.mul_le_mul h2 h2 DL DL;omega
theorem dn{v c:Int}(h1:1≤v)(h2:v≤1000)(h3: -1073741824≤c)(h4:c≤1073741824): -93878321611341824≤87431*v*c∧87431*v*c≤93878321611341824:=by
 have:=pV (x:=87431*v) (X:=87431000) (v:=c) (V:=1073741824) DL ⟨h3,h4⟩;omega
theorem UF(v b:Int)(w:World):
 Calls Tryz.prog 34 #[Iv v,Iv b] w fun e w'=>e= .returned (.bool (decide (1≤v∧v≤1000∧1≤b∧b≤3000)))∧w=w':=by
 go_enter Tryz.func34,Tryz.ntmps34;go_wp2
 all_goals
  go_ret;exact⟨jF (by rw[Bool.eq_iff_iff];simp;try omega),rfl⟩
theorem Kd(v b:Int)(w:World):
 Calls Tryz.prog 52 #[Iv v,Iv b] w fun e w'=>e= .returned (.bool (decide (1≤v∧v≤1000∧1≤b∧b≤3000)))∧w=w':=by
 go_enter Tryz.func52,Tryz.ntmps52;go_wp2
 all_goals
  go_ret;exact⟨jF (by rw[Bool.eq_iff_iff];simp;try omega),rfl⟩
theorem WK(v b:Int)(w:World):
 Calls Tryz.prog 13 #[Iv v,Iv b] w fun e w'=>e= .returned (.tuple #[Iv (uD v b).1,Iv (uD v b).2])∧Below w.heap.size w w':=by
 by_cases hin:1≤v∧v≤1000∧1≤b∧b≤3000
 ·have FL:=fun W=>UF v b W
  rw[decide_eq_true hin]at FL;have sb:=bH (b*3600);have cb:=tJ (b*3600);have vv:=Pr hin.1 hin.2.1;have rb:=dn hin.1 hin.2.1 cb.1 cb.2;have SC:=fun W=>QM (b*3600) DP W
  have CC:=fun W=>Jd (b*3600) DP W
  have MU:=fun W=>xG (v*v*87431) (yF (b*3600)) (1000000*jO (b*3600)) DP DP DP W
  obtain⟨m,hm⟩:∃m,m=qR 1 (v*v*87431) (yF (b*3600)) (1000000*jO (b*3600)):=⟨_,rfl⟩;rw[←hm]at MU;obtain⟨X,E⟩:=m;have HR:=dm hin hm.symm;obtain⟨i1,i2,i3,i4⟩:=hin;clear hm rb;generalize uD v b=R at*;generalize jO (b*3600)=s at*;generalize yF (b*3600)=c at*;by_cases h1:E=0
  ·by_cases h2:X≤8000000
   ·rw[if_pos ⟨h1,h2⟩]at HR;subst h1 HR;go_enter Tryz.func13,Tryz.ntmps13;go_wp2_with(first|(go_at_call 34;refine(FL _).mono ?_;rintro e w' ⟨rfl,rfl⟩)|(go_at_call 35;refine(SC _).mono ?_;rintro e w' ⟨rfl,rfl⟩)|(go_at_call 36;refine(CC _).mono ?_;rintro e w' ⟨rfl,rfl⟩)|(go_at_call 37;refine(MU _).mono ?_;rintro e w' ⟨rfl,n,rfl⟩));go_ret2;exact⟨rfl,by(repeat(with_reducible (first|assumption|exact Below.refl _ _|refine Below.drew ?_|refine below_drewN ?_ _|refine qG ?_ (by simp;try omega) _|refine qj ?_ (Nat.le_refl _) _|refine qA DM ?_)))⟩
   ·rw[if_neg (fun h=>h2 h.2)]at HR;subst h1 HR;go_enter Tryz.func13,Tryz.ntmps13;go_wp2_with(first|(go_at_call 34;refine(FL _).mono ?_;rintro e w' ⟨rfl,rfl⟩)|(go_at_call 35;refine(SC _).mono ?_;rintro e w' ⟨rfl,rfl⟩)|(go_at_call 36;refine(CC _).mono ?_;rintro e w' ⟨rfl,rfl⟩)|(go_at_call 37;refine(MU _).mono ?_;rintro e w' ⟨rfl,n,rfl⟩));go_ret2;exact⟨rfl,by(repeat(with_reducible (first|assumption|exact Below.refl _ _|refine Below.drew ?_|refine below_drewN ?_ _|refine qG ?_ (by simp;try omega) _|refine qj ?_ (Nat.le_refl _) _|refine qA DM ?_)))⟩
  ·rw[if_neg (fun h=>h1 h.1)]at HR;subst HR;have T:(E !=0)=true:=by rw[bne_iff_ne];exact h1
   clear h1;go_enter Tryz.func13,Tryz.ntmps13;go_wp2_with(first|(go_at_call 34;refine(FL _).mono ?_;rintro e w' ⟨rfl,rfl⟩)|(go_at_call 35;refine(SC _).mono ?_;rintro e w' ⟨rfl,rfl⟩)|(go_at_call 36;refine(CC _).mono ?_;rintro e w' ⟨rfl,rfl⟩)|(go_at_call 37;refine(MU _).mono ?_;rintro e w' ⟨rfl,n,rfl⟩));go_ret2;exact⟨rfl,by(repeat(with_reducible (first|assumption|exact Below.refl _ _|refine Below.drew ?_|refine below_drewN ?_ _|refine qG ?_ (by simp;try omega) _|refine qj ?_ (Nat.le_refl _) _|refine qA DM ?_)))⟩
 ·have FL:=fun W=>UF v b W
  rw[decide_eq_false hin]at FL;rw[(iD hin).1];clear hin;go_enter Tryz.func13,Tryz.ntmps13;go_wp2_with(go_at_call 34;refine(FL _).mono ?_;rintro e w' ⟨rfl,rfl⟩);go_ret2;exact⟨rfl,Below.refl _ _⟩
theorem iE(v b:Int)(w:World):
 Calls Tryz.prog 19 #[Iv v,Iv b] w fun e w'=>e= .returned (.tuple #[Iv (uD v b).1,Iv (uD v b).2])∧Below w.heap.size w w':=by
 by_cases hin:1≤v∧v≤1000∧1≤b∧b≤3000
 ·have FL:=fun W=>Kd v b W
  rw[decide_eq_true hin]at FL;have sb:=bH (b*3600);have cb:=tJ (b*3600);have vv:=Pr hin.1 hin.2.1;have rb:=dn hin.1 hin.2.1 cb.1 cb.2;have SC:=fun W=>vC (b*3600) DP W
  have CC:=fun W=>kg (b*3600) DP W
  have MU:=fun W=>bc (v*v*87431) (yF (b*3600)) (1000000*jO (b*3600)) DP DP DP W
  obtain⟨m,hm⟩:∃m,m=qR 1 (v*v*87431) (yF (b*3600)) (1000000*jO (b*3600)):=⟨_,rfl⟩;rw[←hm]at MU;obtain⟨X,E⟩:=m;have HR:=dm hin hm.symm;obtain⟨i1,i2,i3,i4⟩:=hin;clear hm rb;generalize uD v b=R at*;generalize jO (b*3600)=s at*;generalize yF (b*3600)=c at*;by_cases h1:E=0
  ·by_cases h2:X≤8000000
   ·rw[if_pos ⟨h1,h2⟩]at HR;subst h1 HR;go_enter Tryz.func19,Tryz.ntmps19;go_wp2_with(first|(go_at_call 52;refine(FL _).mono ?_;rintro e w' ⟨rfl,rfl⟩)|(go_at_call 55;refine(SC _).mono ?_;rintro e w' ⟨rfl,rfl⟩)|(go_at_call 54;refine(CC _).mono ?_;rintro e w' ⟨rfl,rfl⟩)|(go_at_call 53;refine(MU _).mono ?_;rintro e w' ⟨rfl,n,rfl⟩));go_ret2;exact⟨rfl,by(repeat(with_reducible (first|assumption|exact Below.refl _ _|refine Below.drew ?_|refine below_drewN ?_ _|refine qG ?_ (by simp;try omega) _|refine qj ?_ (Nat.le_refl _) _|refine qA DM ?_)))⟩
   ·rw[if_neg (fun h=>h2 h.2)]at HR;subst h1 HR;go_enter Tryz.func19,Tryz.ntmps19;go_wp2_with(first|(go_at_call 52;refine(FL _).mono ?_;rintro e w' ⟨rfl,rfl⟩)|(go_at_call 55;refine(SC _).mono ?_;rintro e w' ⟨rfl,rfl⟩)|(go_at_call 54;refine(CC _).mono ?_;rintro e w' ⟨rfl,rfl⟩)|(go_at_call 53;refine(MU _).mono ?_;rintro e w' ⟨rfl,n,rfl⟩));go_ret2;exact⟨rfl,by(repeat(with_reducible (first|assumption|exact Below.refl _ _|refine Below.drew ?_|refine below_drewN ?_ _|refine qG ?_ (by simp;try omega) _|refine qj ?_ (Nat.le_refl _) _|refine qA DM ?_)))⟩
  ·rw[if_neg (fun h=>h1 h.1)]at HR;subst HR;have T:(E !=0)=true:=by rw[bne_iff_ne];exact h1
   clear h1;go_enter Tryz.func19,Tryz.ntmps19;go_wp2_with(first|(go_at_call 52;refine(FL _).mono ?_;rintro e w' ⟨rfl,rfl⟩)|(go_at_call 55;refine(SC _).mono ?_;rintro e w' ⟨rfl,rfl⟩)|(go_at_call 54;refine(CC _).mono ?_;rintro e w' ⟨rfl,rfl⟩)|(go_at_call 53;refine(MU _).mono ?_;rintro e w' ⟨rfl,n,rfl⟩));go_ret2;exact⟨rfl,by(repeat(with_reducible (first|assumption|exact Below.refl _ _|refine Below.drew ?_|refine below_drewN ?_ _|refine qG ?_ (by simp;try omega) _|refine qj ?_ (Nat.le_refl _) _|refine qA DM ?_)))⟩
 ·have FL:=fun W=>Kd v b W
  rw[decide_eq_false hin]at FL;rw[(iD hin).1];clear hin;go_enter Tryz.func19,Tryz.ntmps19;go_wp2_with(go_at_call 52;refine(FL _).mono ?_;rintro e w' ⟨rfl,rfl⟩);go_ret2;exact⟨rfl,Below.refl _ _⟩
theorem Ke{cx cy r f s al:Int}(h:ur cx cy r f s=false):jp cx cy r f s al=(0,0,0,1):=by unfold jp;rw[h];rfl
theorem Yd{cx cy r f s al:Int}(h:ur cx cy r f s=true)(h2:al<0∨al>qX cx cy r f s):jp cx cy r f s al=(0,0,0,2):=by unfold jp;rw[h,if_neg DS,if_pos h2]
theorem Kf{cx cy r f s al X Y E:Int}(h:ur cx cy r f s=true)(h2:¬(al<0∨al>qX cx cy r f s))(hr:zi cx cy (jQ f s (qX cx cy r f s) al) r=(X,Y,E)):
 jp cx cy r f s al=if E=0 then(X,Y,zy (jQ f s (qX cx cy r f s) al) (zD s 32400000),0)else(0,0,0,2):=by unfold jp;rw[h,if_neg DS,if_neg h2,hr]
theorem QS{n s al:Int}(h0:0<n)(h1:0≤al)(h2:al≤n)(h3:n≤60000000)(h4:(s.natAbs:Int)≤129600000):
 qR 2 al s.natAbs n=(kr n s al,0)∧0≤kr n s al∧kr n s al≤129600000:=by
 have e:kr n s al=vW 2 (al*s.natAbs) n:=by unfold kr;rw[if_pos h0]
 have p0:0≤al*(s.natAbs:Int):=Int.mul_nonneg h1 DL;have p1:al*(s.natAbs:Int)≤n*s.natAbs:=Int.mul_le_mul_of_nonneg_right h2 DL
 have b:0≤vW 2 (al*s.natAbs) n∧vW 2 (al*s.natAbs) n≤129600000:=by
  unfold vW;simp only[show(2:Nat)≠0 from by decide,show(2:Nat)≠1 from by decide,if_false];have f:=ZS (2*(al*s.natAbs)+n) (2*n) DL;generalize(2*(al*(s.natAbs:Int))+n).fdiv (2*n)=q at*;constructor
  ·apply Classical.byContradiction;intro hq;have:(q+1)*(2*n)≤0*(2*n):=Int.mul_le_mul_of_nonneg_right DL DL;have e2:(q+1)*(2*n)=q*(2*n)+2*n:=by grind
   omega
  ·apply Classical.byContradiction;intro hq;have h5:((s.natAbs:Int)+1)*(2*n)≤q*(2*n):=Int.mul_le_mul_of_nonneg_right DL DL;have e2:((s.natAbs:Int)+1)*(2*n)=2*(n*s.natAbs)+2*n:=by grind
   omega
 rw[e];refine⟨?_,b⟩;unfold qR;rw[if_neg DL,if_pos];unfold Zp;generalize vW 2 (al*s.natAbs) n=q at*;exact decide_eq_true DL
end Go.Proofs.YtcgpbnlhnafhjaaGreatDoor
