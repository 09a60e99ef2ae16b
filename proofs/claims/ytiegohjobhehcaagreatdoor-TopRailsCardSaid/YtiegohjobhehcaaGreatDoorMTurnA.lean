/-
  The walks of arcs: validity, length, sides.
-/
import Derived.Test.YtiegohjobhehcaaGreatDoorMLineA
set_option maxRecDepth 100000
set_option maxHeartbeats 16000000
namespace Go.Proofs.YtiegohjobhehcaaGreatDoor
open Go.RowKit
set_option linter.unusedVariables false
set_option linter.unusedSimpArgs false
theorem zMTurnA0{P:Prop}(h:P:=by repeat(first|(with_reducible assumption)|(with_reducible refine qX ?_)|(with_reducible refine qV ?_ _)|(with_reducible refine qi qY ?_)|((with_reducible refine zf ?_ ?_);(·(simp;done));(·rfl))|(with_reducible refine qR ?_ _)|((with_reducible refine zr ?_ ?_ _);(·first|(simp;done)|(simp;omega)|omega)))):P:=h
theorem UB{cx cy r f s:Int}(h:xz cx cy r f s=true):qw cx cy=true∧(1≤r∧r≤8000000)∧(0≤f∧f<129600000)∧ -129600000≤s∧s≤129600000:=by
 have:=(JW _ _ _ _ _).1 h;exact⟨this.1,⟨this.2.1,this.2.2.1⟩,⟨this.2.2.2.1,this.2.2.2.2.1⟩,this.2.2.2.2.2⟩
theorem RR{r a:Int}(h1:1≤r)(h2:r≤8000000)(h3:0≤a)(h4:a≤129600000):(0≤r*a∧r*a≤1036800000000000)∧qL 2 (r*a) 1 20626481=(kN 2 (r*a) 20626481,0)∧(0≤kN 2 (r*a) 20626481∧kN 2 (r*a) 20626481≤60000000):=by
 have e1:0≤r*a:=Int.mul_nonneg qg h3;have e2:r*a≤8000000*129600000:=Int.mul_le_mul h2 h4 h3 qg;have b:0≤kN 2 (r*a) 20626481∧kN 2 (r*a) 20626481≤60000000:=by rw[lL];omega
 refine⟨qg,?_,b⟩;unfold qL;rw[if_neg qg,Int.mul_one,if_pos];unfold Qy;generalize kN 2 (r*a) 20626481=q at*;exact decide_eq_true qg
theorem Qn(cx cy r f s:Int)(w:World):
 Calls Tryz.prog 66 #[.agg #[Iv cx,Iv cy,Iv r,Iv f,Iv s]] w fun e w'=>e= .returned (.bool (xz cx cy r f s))∧Below w.heap.size w w':=by
 rcases hv:qw cx cy with _|_
 all_goals
  have HV:=hide hv;clear hv;go_enter Tryz.func66,Tryz.ntmps66;go_wp2_with(go_at_call 31;refine(uH _ _ _ HV.out _).mono ?_;rintro e w' ⟨rfl,rfl⟩)
 ·go_ret;exact⟨vG (by unfold xz;rw[HV.out];rfl),by(repeat(with_reducible (first|assumption|exact Below.refl _ _|refine Below.drew ?_|refine below_drewN ?_ _|refine qK ?_ (by simp;try omega) _|refine qu ?_ (Nat.le_refl _) _|refine qH qY ?_)))⟩
 all_goals
  go_ret;exact⟨vG (by unfold xz;rw[HV.out,Bool.eq_iff_iff];simp;try omega),by(repeat(with_reducible (first|assumption|exact Below.refl _ _|refine Below.drew ?_|refine below_drewN ?_ _|refine qK ?_ (by simp;try omega) _|refine qu ?_ (Nat.le_refl _) _|refine qH qY ?_)))⟩
theorem YH(cx cy r f s x:Int)(h: -9000000000000000000≤x)(h2:x≤9000000000000000000)(w:World):
 Calls Tryz.prog 69 #[.agg #[Iv cx,Iv cy,Iv r,Iv f,Iv s],Iv x] w fun e w'=>e= .returned (Iv (jU s x))∧Below w.heap.size w w':=by
 go_enter Tryz.func69,Tryz.ntmps69;go_wp2
 all_goals
  go_ret;exact⟨qQ (by unfold jU;split<;>omega),by(repeat(with_reducible (first|assumption|exact Below.refl _ _|refine Below.drew ?_|refine below_drewN ?_ _|refine qK ?_ (by simp;try omega) _|refine qu ?_ (Nat.le_refl _) _|refine qH qY ?_)))⟩
theorem tH(cx cy r f s:Int)(w:World):
 Calls Tryz.prog 41 #[.agg #[Iv cx,Iv cy,Iv r,Iv f,Iv s]] w fun e w'=>e= .returned (Iv (zq cx cy r f s))∧Below w.heap.size w w':=by
 rcases hB:xz cx cy r f s with _|_
 ·have HR:Hid (zq cx cy r f s=0):=hide (by unfold zq;rw[hB];rfl);have HB:=hide hB;clear hB;generalize zq cx cy r f s=R at*;obtain rfl:R=0:=HR.out;go_enter Tryz.func41,Tryz.ntmps41;go_wp2_with fail;refine(Qn cx cy r f s _).mono ?_;rintro e w1 ⟨rfl,hb1⟩;rw[HB.out];have f1:=qi hb1 (b:=w.heap.size) (o:=0) (v:=Iv cx) zMTurnA0;have zf1:w.heap.size<w1.heap.size:=World.block_lt_of_cell? _ _ f1;have f2:=qi hb1 (b:=w.heap.size) (o:=1) (v:=Iv cy) zMTurnA0;have f3:=qi hb1 (b:=w.heap.size) (o:=2) (v:=Iv r) zMTurnA0;have f4:=qi hb1 (b:=w.heap.size) (o:=3) (v:=Iv f) zMTurnA0;have f5:=qi hb1 (b:=w.heap.size) (o:=4) (v:=Iv s) zMTurnA0;go_wp2_with fail;go_ret;exact⟨rfl,by(repeat(with_reducible (first|assumption|exact Below.refl _ _|refine Below.drew ?_|refine below_drewN ?_ _|refine qK ?_ (by simp;try omega) _|refine qu ?_ (Nat.le_refl _) _|refine qH qY ?_)))⟩
 ·have HR:=hide (sI hB);have HB:=hide hB;obtain⟨_,⟨b1,b2⟩,_,b3,b4⟩:=UB hB;have L:=RR (a:=(s.natAbs:Int)) b1 b2 qg qg;have AB:=fun W=>kV s yq qg W
  have RD:=fun W=>Zu (r*s.natAbs) 20626481 yq yq W
  rw[L.2.1]at RD;have wn:=LL (x:=r*s.natAbs) qg qg;clear hB;generalize zq cx cy r f s=R at*;generalize(s.natAbs:Int)=a at*;obtain⟨⟨l1,l2⟩,_,l3,l4⟩:=L;generalize kN 2 (r*a) 20626481=q at*;obtain rfl:R=q:=HR.out;go_enter Tryz.func41,Tryz.ntmps41;go_wp2_with fail;refine(Qn cx cy r f s _).mono ?_;rintro e w1 ⟨rfl,hb1⟩;rw[HB.out];have f1:=qi hb1 (b:=w.heap.size) (o:=0) (v:=Iv cx) zMTurnA0;have zf1:w.heap.size<w1.heap.size:=World.block_lt_of_cell? _ _ f1;have f2:=qi hb1 (b:=w.heap.size) (o:=1) (v:=Iv cy) zMTurnA0;have f3:=qi hb1 (b:=w.heap.size) (o:=2) (v:=Iv r) zMTurnA0;have f4:=qi hb1 (b:=w.heap.size) (o:=3) (v:=Iv f) zMTurnA0;have f5:=qi hb1 (b:=w.heap.size) (o:=4) (v:=Iv s) zMTurnA0;go_wp2_with fail
  go_region_held3 (fun w'=>w'.cell? ⟨w.heap.size,0,none⟩=some (Iv cx)∧w'.cell? ⟨w.heap.size,1,none⟩=some (Iv cy)∧w'.cell? ⟨w.heap.size,2,none⟩=some (Iv r)∧w'.cell? ⟨w.heap.size,3,none⟩=some (Iv f)∧w'.cell? ⟨w.heap.size,4,none⟩=some (Iv s)) ((go_split_ands;refine⟨?_,?_,?_,?_,?_⟩<;>(repeat(first|(with_reducible assumption)|(with_reducible refine qX ?_)|(with_reducible refine qV ?_ _)|(with_reducible refine qi qY ?_)|((with_reducible refine zf ?_ ?_);(·(simp;done));(·rfl))|(with_reducible refine qR ?_ _)|((with_reducible refine zr ?_ ?_ _);(·first|(simp;done)|(simp;omega)|omega))))))
   (first|refine qN (AB _) ?_|(go_at_call 92;(with_reducible refine(RD _).mono ?_);rintro e w' ⟨rfl,n,rfl⟩))
  all_goals
   go_wp2_with fail;go_ret;exact⟨rfl,by(repeat(with_reducible (first|assumption|exact Below.refl _ _|refine Below.drew ?_|refine below_drewN ?_ _|refine qK ?_ (by simp;try omega) _|refine qu ?_ (Nat.le_refl _) _|refine qH qY ?_)))⟩
theorem RT{v b:Int}(h:¬(1≤v∧v≤1000∧1≤b∧b≤3000)):ZF v b=(0,2)∧Ce v b=(0,2):=by unfold ZF Ce;rw[if_neg h,if_neg h];exact⟨rfl,rfl⟩
theorem Dy{v b X E:Int}(h:1≤v∧v≤1000∧1≤b∧b≤3000)(hm:qL 1 (v*v*87431) (vT (b*3600)) (1000000*yJ (b*3600))=(X,E)):ZF v b=if E=0∧X≤8000000 then(X,0)else(0,2):=by unfold ZF;rw[if_pos h,hm]
theorem EK{v:Int}(h1:1≤v)(h2:v≤1000):1≤v*v∧v*v≤1000000:=by
 have a:1*1≤v*v:=Int.mul_le_mul h1 h1 qg qg;have b:v*v≤1000*1000:=Int.mul_le_mul h2 h2 qg qg;omega
theorem Dz{v c:Int}(h1:1≤v)(h2:v≤1000)(h3: -1073741824≤c)(h4:c≤1073741824): -93878321611341824≤87431*v*c∧87431*v*c≤93878321611341824:=by
 have:=nN (x:=87431*v) (X:=87431000) (v:=c) (V:=1073741824) qg ⟨h3,h4⟩;omega
theorem UC(v b:Int)(w:World):
 Calls Tryz.prog 35 #[Iv v,Iv b] w fun e w'=>e= .returned (.bool (decide (1≤v∧v≤1000∧1≤b∧b≤3000)))∧w=w':=by
 go_enter Tryz.func35,Tryz.ntmps35;go_wp2
 all_goals
  go_ret;exact⟨vG (by rw[Bool.eq_iff_iff];simp;try omega),rfl⟩
theorem DD(v b:Int)(w:World):
 Calls Tryz.prog 12 #[Iv v,Iv b] w fun e w'=>e= .returned (.tuple #[Iv (ZF v b).1,Iv (ZF v b).2])∧Below w.heap.size w w':=by
 by_cases hin:1≤v∧v≤1000∧1≤b∧b≤3000
 ·have FL:=fun W=>UC v b W
  rw[decide_eq_true hin]at FL;have sb:=Qc (b*3600);have cb:=Ja (b*3600);have vv:=EK hin.1 hin.2.1;have rb:=Dz hin.1 hin.2.1 cb.1 cb.2;have SC:=fun W=>Qg (b*3600) yq W
  have CC:=fun W=>Zs (b*3600) yq W
  have MU:=fun W=>Qi (v*v*87431) (vT (b*3600)) (1000000*yJ (b*3600)) yq yq yq W
  obtain⟨m,hm⟩:∃m,m=qL 1 (v*v*87431) (vT (b*3600)) (1000000*yJ (b*3600)):=⟨_,rfl⟩;rw[←hm]at MU;obtain⟨X,E⟩:=m;have HR:=Dy hin hm.symm;obtain⟨i1,i2,i3,i4⟩:=hin;clear hm rb;generalize ZF v b=R at*;generalize yJ (b*3600)=s at*;generalize vT (b*3600)=c at*;by_cases h1:E=0
  ·by_cases h2:X≤8000000
   ·rw[if_pos ⟨h1,h2⟩]at HR;subst h1 HR;go_enter Tryz.func12,Tryz.ntmps12;go_wp2_with(first|(go_at_call 35;refine(FL _).mono ?_;rintro e w' ⟨rfl,rfl⟩)|(go_at_call 36;refine(SC _).mono ?_;rintro e w' ⟨rfl,rfl⟩)|(go_at_call 37;refine(CC _).mono ?_;rintro e w' ⟨rfl,rfl⟩)|(go_at_call 38;refine(MU _).mono ?_;rintro e w' ⟨rfl,n,rfl⟩));go_ret2;exact⟨rfl,by(repeat(with_reducible (first|assumption|exact Below.refl _ _|refine Below.drew ?_|refine below_drewN ?_ _|refine qK ?_ (by simp;try omega) _|refine qu ?_ (Nat.le_refl _) _|refine qH qY ?_)))⟩
   ·rw[if_neg (fun h=>h2 h.2)]at HR;subst h1 HR;go_enter Tryz.func12,Tryz.ntmps12;go_wp2_with(first|(go_at_call 35;refine(FL _).mono ?_;rintro e w' ⟨rfl,rfl⟩)|(go_at_call 36;refine(SC _).mono ?_;rintro e w' ⟨rfl,rfl⟩)|(go_at_call 37;refine(CC _).mono ?_;rintro e w' ⟨rfl,rfl⟩)|(go_at_call 38;refine(MU _).mono ?_;rintro e w' ⟨rfl,n,rfl⟩));go_ret2;exact⟨rfl,by(repeat(with_reducible (first|assumption|exact Below.refl _ _|refine Below.drew ?_|refine below_drewN ?_ _|refine qK ?_ (by simp;try omega) _|refine qu ?_ (Nat.le_refl _) _|refine qH qY ?_)))⟩
  ·rw[if_neg (fun h=>h1 h.1)]at HR;subst HR;have T:(E !=0)=true:=by rw[bne_iff_ne];exact h1
   clear h1;go_enter Tryz.func12,Tryz.ntmps12;go_wp2_with(first|(go_at_call 35;refine(FL _).mono ?_;rintro e w' ⟨rfl,rfl⟩)|(go_at_call 36;refine(SC _).mono ?_;rintro e w' ⟨rfl,rfl⟩)|(go_at_call 37;refine(CC _).mono ?_;rintro e w' ⟨rfl,rfl⟩)|(go_at_call 38;refine(MU _).mono ?_;rintro e w' ⟨rfl,n,rfl⟩));go_ret2;exact⟨rfl,by(repeat(with_reducible (first|assumption|exact Below.refl _ _|refine Below.drew ?_|refine below_drewN ?_ _|refine qK ?_ (by simp;try omega) _|refine qu ?_ (Nat.le_refl _) _|refine qH qY ?_)))⟩
 ·have FL:=fun W=>UC v b W
  rw[decide_eq_false hin]at FL;rw[(RT hin).1];clear hin;go_enter Tryz.func12,Tryz.ntmps12;go_wp2_with(go_at_call 35;refine(FL _).mono ?_;rintro e w' ⟨rfl,rfl⟩);go_ret2;exact⟨rfl,Below.refl _ _⟩
theorem Pn{cx cy r f s al:Int}(h:xz cx cy r f s=false):jJ cx cy r f s al=(0,0,0,1):=by unfold jJ;rw[h];rfl
theorem ae{cx cy r f s al:Int}(h:xz cx cy r f s=true)(h2:al<0∨al>zq cx cy r f s):jJ cx cy r f s al=(0,0,0,2):=by unfold jJ;rw[h,if_neg jL,if_pos h2]
theorem Po{cx cy r f s al X Y E:Int}(h:xz cx cy r f s=true)(h2:¬(al<0∨al>zq cx cy r f s))(hr:zn cx cy (uO f s (zq cx cy r f s) al) r=(X,Y,E)):
 jJ cx cy r f s al=if E=0 then(X,Y,jl (uO f s (zq cx cy r f s) al) (jU s 32400000),0)else(0,0,0,2):=by unfold jJ;rw[h,if_neg jL,if_neg h2,hr]
theorem cG{n s al:Int}(h0:0<n)(h1:0≤al)(h2:al≤n)(h3:n≤60000000)(h4:(s.natAbs:Int)≤129600000):
 qL 2 al s.natAbs n=(Qz n s al,0)∧0≤Qz n s al∧Qz n s al≤129600000:=by
 have e:Qz n s al=kN 2 (al*s.natAbs) n:=by unfold Qz;rw[if_pos h0]
 have p0:0≤al*(s.natAbs:Int):=Int.mul_nonneg h1 qg;have p1:al*(s.natAbs:Int)≤n*s.natAbs:=Int.mul_le_mul_of_nonneg_right h2 qg
 have b:0≤kN 2 (al*s.natAbs) n∧kN 2 (al*s.natAbs) n≤129600000:=by
  unfold kN;simp only[show(2:Nat)≠0 from by decide,show(2:Nat)≠1 from by decide,if_false];have f:=JC (2*(al*s.natAbs)+n) (2*n) qg;generalize(2*(al*(s.natAbs:Int))+n).fdiv (2*n)=q at*;constructor
  ·apply Classical.byContradiction;intro hq;have:(q+1)*(2*n)≤0*(2*n):=Int.mul_le_mul_of_nonneg_right qg qg;have e2:(q+1)*(2*n)=q*(2*n)+2*n:=by grind
   omega
  ·apply Classical.byContradiction;intro hq;have h5:((s.natAbs:Int)+1)*(2*n)≤q*(2*n):=Int.mul_le_mul_of_nonneg_right qg qg;have e2:((s.natAbs:Int)+1)*(2*n)=2*(n*s.natAbs)+2*n:=by grind
   omega
 rw[e];refine⟨?_,b⟩;unfold qL;rw[if_neg qg,if_pos];unfold Qy;generalize kN 2 (al*s.natAbs) n=q at*;exact decide_eq_true qg
end Go.Proofs.YtiegohjobhehcaaGreatDoor
