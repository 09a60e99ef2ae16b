/-
  The walks of layer 4 (angle) and of its reference.
-/
import Derived.Test.YtcgpbnlhnafhjaaGreatDoorMScale
import Derived.Test.YtcgpbnlhnafhjaaGreatDoorMQuotD
import Derived.Test.YtcgpbnlhnafhjaaGreatDoorMQuotN
import Derived.Test.YtcgpbnlhnafhjaaGreatDoorMQuotU
set_option maxRecDepth 100000
set_option maxHeartbeats 16000000
namespace Go.Proofs.YtcgpbnlhnafhjaaGreatDoor
open Go.RowKit
set_option linter.unusedVariables false
theorem Uw(a:Int):(Int.tmod a 129600000<0∧Int.tmod a 129600000+129600000=norm a∨0≤Int.tmod a 129600000∧Int.tmod a 129600000=norm a)∧0≤norm a∧norm a<129600000:=by
 unfold norm;have:=Int.tmod_eq_emod (a:=a) (b:=129600000);split at this<;>omega
theorem kG(a b:Int):0≤zy a b∧zy a b<129600000:=zH _
theorem yN(a:Int)(ha:qK a)(w:World):
 Calls Tryz.prog 89 #[Iv a] w fun e w'=>e= .returned (Iv (norm a))∧w=w':=by
 obtain⟨a1,a2⟩:=ha;have T:=hide (Uw a);go_enter Tryz.func89,Tryz.ntmps89;go_wp2
 all_goals
  go_ret;exact⟨qI (by have T:=T.out;first|omega|(unfold wrap64;omega)),rfl⟩
theorem jl(a:Int)(ha:qK a)(w:World):
 Calls Tryz.prog 118 #[Iv a] w fun e w'=>e= .returned (Iv (norm a))∧w=w':=by
 obtain⟨a1,a2⟩:=ha;have T:=hide (Uw a);go_enter Tryz.func118,Tryz.ntmps118;go_wp2
 all_goals
  go_ret;exact⟨qI (by have T:=T.out;first|omega|(unfold wrap64;omega)),rfl⟩
theorem gH(a b:Int)(ha:qK a)(hb:qK b)(w:World):
 Calls Tryz.prog 69 #[Iv a,Iv b] w fun e w'=>e= .returned (Iv (zy a b))∧w=w':=by
 have b1:=zH a;have b2:=zH b;have h:=hide (show zy a b=norm (norm a+norm b)from rfl);generalize zy a b=q at*;go_enter Tryz.func69,Tryz.ntmps69;go_wp2_with(go_at_call 89;refine(yN _ (by first|assumption|(unfold qK;omega)) _).mono ?_;rintro e w' ⟨rfl,rfl⟩);go_ret;exact⟨qI h.out.symm,rfl⟩
theorem yu(a:Int)(ha:qK a)(w:World):
 Calls Tryz.prog 160 #[Iv a] w fun e w'=>e= .returned (Iv (zy a 64800000))∧w=w':=by
 go_enter Tryz.func160,Tryz.ntmps160;go_wp2_with(go_at_call 69;refine(gH _ _ ha DP _).mono ?_;rintro e w' ⟨rfl,rfl⟩);go_ret;exact⟨rfl,rfl⟩
theorem VS(a b:Int)(ha:qK a)(hb:qK b)(w:World):
 Calls Tryz.prog 99 #[Iv a,Iv b] w fun e w'=>e= .returned (Iv (zJ a b))∧w=w':=by
 have b1:=zH a;have b2:=zH b;have b3:=zH (norm b-norm a);have h:=hide (show zJ a b=if 64800000<norm (norm b-norm a)then norm (norm b-norm a)-129600000 else norm (norm b-norm a)from rfl);generalize zJ a b=q at*;generalize hd:norm (norm b-norm a)=d at*;go_enter Tryz.func99,Tryz.ntmps99;go_wp2_with(go_at_call 89;refine(yN _ (by first|assumption|(unfold qK;omega)) _).mono ?_;rintro e w' ⟨rfl,rfl⟩)
 all_goals
  go_ret;exact⟨qI (by have h:=h.out;omega),rfl⟩
theorem TD(a b:Int)(ha:qK a)(hb:qK b)(w:World):
 Calls Tryz.prog 165 #[Iv a,Iv b,.int .u8 2] w fun e w'=>e= .returned (Iv (norm (norm b-norm a)))∧w=w':=by
 have b1:=zH a;have b2:=zH b;go_enter Tryz.func165,Tryz.ntmps165;go_wp2_with(go_at_call 89;refine(yN _ (by first|assumption|(unfold qK;omega)) _).mono ?_;rintro e w' ⟨rfl,rfl⟩);go_ret;exact⟨rfl,rfl⟩
theorem pL(a b:Int)(ha:qK a)(hb:qK b)(w:World):
 Calls Tryz.prog 165 #[Iv a,Iv b,.int .u8 1] w fun e w'=>e= .returned (Iv (norm (norm a-norm b)))∧w=w':=by
 have b1:=zH a;have b2:=zH b;go_enter Tryz.func165,Tryz.ntmps165;go_wp2_with(go_at_call 89;refine(yN _ (by first|assumption|(unfold qK;omega)) _).mono ?_;rintro e w' ⟨rfl,rfl⟩);go_ret;exact⟨rfl,rfl⟩
theorem xa(a b:Int)(ha:qK a)(hb:qK b)(w:World):
 Calls Tryz.prog 120 #[Iv a,Iv b] w fun e w'=>e= .returned (Iv (zy a b))∧w=w':=by
 have b1:=zH a;have b2:=zH b;have h:=hide (show zy a b=norm (norm a+norm b)from rfl);generalize zy a b=q at*;go_enter Tryz.func120,Tryz.ntmps120;go_wp2_with(go_at_call 118;refine(jl _ (by first|assumption|(unfold qK;omega)) _).mono ?_;rintro e w' ⟨rfl,rfl⟩);go_ret;exact⟨qI h.out.symm,rfl⟩
theorem jT(a:Int)(ha:qK a)(w:World):
 Calls Tryz.prog 185 #[Iv a] w fun e w'=>e= .returned (Iv (zy a 64800000))∧w=w':=by
 go_enter Tryz.func185,Tryz.ntmps185;go_wp2_with(go_at_call 120;refine(xa _ _ ha DP _).mono ?_;rintro e w' ⟨rfl,rfl⟩);go_ret;exact⟨rfl,rfl⟩
theorem JW(a b:Int)(ha:qK a)(hb:qK b)(w:World):
 Calls Tryz.prog 129 #[Iv a,Iv b] w fun e w'=>e= .returned (Iv (zJ a b))∧w=w':=by
 have b1:=zH a;have b2:=zH b;have b3:=zH (norm b-norm a);have h:=hide (show zJ a b=if 64800000<norm (norm b-norm a)then norm (norm b-norm a)-129600000 else norm (norm b-norm a)from rfl);generalize zJ a b=q at*;generalize hd:norm (norm b-norm a)=d at*;go_enter Tryz.func129,Tryz.ntmps129;go_wp2_with(go_at_call 118;refine(jl _ (by first|assumption|(unfold qK;omega)) _).mono ?_;rintro e w' ⟨rfl,rfl⟩)
 all_goals
  go_ret;exact⟨qI (by have h:=h.out;omega),rfl⟩
theorem BM(a b:Int)(ha:qK a)(hb:qK b)(w:World):
 Calls Tryz.prog 191 #[Iv a,Iv b,.int .u8 2] w fun e w'=>e= .returned (Iv (norm (norm b-norm a)))∧w=w':=by
 have b1:=zH a;have b2:=zH b;go_enter Tryz.func191,Tryz.ntmps191;go_wp2_with(go_at_call 118;refine(jl _ (by first|assumption|(unfold qK;omega)) _).mono ?_;rintro e w' ⟨rfl,rfl⟩);go_ret;exact⟨rfl,rfl⟩
theorem TE(a b:Int)(ha:qK a)(hb:qK b)(w:World):
 Calls Tryz.prog 191 #[Iv a,Iv b,.int .u8 1] w fun e w'=>e= .returned (Iv (norm (norm a-norm b)))∧w=w':=by
 have b1:=zH a;have b2:=zH b;go_enter Tryz.func191,Tryz.ntmps191;go_wp2_with(go_at_call 118;refine(jl _ (by first|assumption|(unfold qK;omega)) _).mono ?_;rintro e w' ⟨rfl,rfl⟩);go_ret;exact⟨rfl,rfl⟩
theorem ve(x y:Int)(hx:0≤x)(hx2:x≤2147483648)(hy:0≤y)(hy2:y≤2147483648)(w:World):
 Calls Tryz.prog 203 #[Iv x,Iv y] w fun e w'=>e= .returned (Iv (zn x y))∧w=w':=by
 have h:=Int.mul_le_mul hx2 hy2 hy DL;have h0:=Int.mul_nonneg hx hy;go_enter Tryz.func203,Tryz.ntmps203;go_wp2;go_ret;exact⟨qI (by unfold zn;omega),rfl⟩
theorem JX(x y:Int)(hx:0≤x)(hx2:x≤2147483648)(hy:0≤y)(hy2:y≤2147483648)(w:World):
 Calls Tryz.prog 214 #[Iv x,Iv y] w fun e w'=>e= .returned (Iv (zn x y))∧w=w':=by
 have h:=Int.mul_le_mul hx2 hy2 hy DL;have h0:=Int.mul_nonneg hx hy;go_enter Tryz.func214,Tryz.ntmps214;go_wp2;go_ret;exact⟨qI (by unfold zn;omega),rfl⟩
theorem vg(x n:Int)(hx:0≤x)(hx2:x≤2147483648)(hn:2≤n)(hn2:n≤1000)(w:World):
 Calls Tryz.prog 204 #[Iv x,Iv n] w fun e w'=>e= .returned (Iv (ja x n))∧w=w':=by
 have h1:Int.tdiv (x+n/2) n=(x+n/2)/n:=Int.tdiv_eq_ediv_of_nonneg DL;have h2:Int.tdiv n 2=n/2:=Int.tdiv_eq_ediv_of_nonneg DL;have h3:(n==0)=false:=by simp;omega
 have h4:0≤(x+n/2)/n:=Int.ediv_nonneg DL DL;have h5:=Int.ediv_le_self n (show 0≤x+n/2 by omega);go_enter Tryz.func204,Tryz.ntmps204;go_wp2;go_ret;exact⟨qI (by unfold ja;omega),rfl⟩
theorem Ux(x n:Int)(hx:0≤x)(hx2:x≤2147483648)(hn:2≤n)(hn2:n≤1000)(w:World):
 Calls Tryz.prog 213 #[Iv x,Iv n] w fun e w'=>e= .returned (Iv (ja x n))∧w=w':=by
 have h1:Int.tdiv (x+n/2) n=(x+n/2)/n:=Int.tdiv_eq_ediv_of_nonneg DL;have h2:Int.tdiv n 2=n/2:=Int.tdiv_eq_ediv_of_nonneg DL;have h3:(n==0)=false:=by simp;omega
 have h4:0≤(x+n/2)/n:=Int.ediv_nonneg DL DL;have h5:=Int.ediv_le_self n (show 0≤x+n/2 by omega);go_enter Tryz.func213,Tryz.ntmps213;go_wp2;go_ret;exact⟨qI (by unfold ja;omega),rfl⟩
theorem eG(a:Int)(h:0≤a)(h2:a≤16200000)(w:World):
 Calls Tryz.prog 161 #[Iv a] w fun e w'=>e= .returned (Iv (tH a))∧w=w':=by
 have tb:=Qi h h2;have ub:=tI tb.1 tb.2;have b1:=Bi ub.1 ub.2;have b2:=Bj ub.1 ub.2;have b3:=Bm ub.1 ub.2;have b4:=Bn ub.1 ub.2;have b5:=JP ub.1 ub.2;have fin:=hide (show tH a=(zn (tA a) (xQ (zn (tA a) (tA a)))+1)/2 from rfl);generalize tH a=q at*;have ht:(a*6746518852+32400000)/64800000=tA a:=rfl;generalize tA a=t at*;obtain⟨u,hu⟩:∃u,zn t t=u:=⟨_,rfl⟩;rw[hu]at ub b1 b2 b3 b4 b5;have e1:=hide (show wh u=2147483648-ja u 110 from rfl);have e2:=hide (show wj u=2147483648-ja (zn u (wh u)) 72 from rfl);have e3:=hide (show wk u=2147483648-ja (zn u (wj u)) 42 from rfl);have e4:=hide (show GL u=2147483648-ja (zn u (wk u)) 20 from rfl);have e5:=hide (show xQ u=2147483648-ja (zn u (GL u)) 6 from rfl);obtain⟨c1,d1⟩:=b1;obtain⟨c2,d2⟩:=b2;obtain⟨c3,d3⟩:=b3;obtain⟨c4,d4⟩:=b4;obtain⟨c5,d5⟩:=b5;obtain⟨t1,t2⟩:=tb;obtain⟨u1,u2⟩:=ub;have fin2:Hid (q=(zn t (xQ u)+1)/2):=hide (by rw[fin.out,hu]);clear fin;generalize hr5:xQ u=r5 at*;generalize hr4:GL u=r4 at*;generalize hr3:wk u=r3 at*;generalize hr2:wj u=r2 at*;generalize hr1:wh u=r1 at*;have m1:=ju u1 (show 0≤r1 by omega) d1;have m2:=ju u1 (show 0≤r2 by omega) d2;have m3:=ju u1 (show 0≤r3 by omega) d3;have m4:=ju u1 (show 0≤r4 by omega) d4;have m5:=ju t1 (show 0≤r5 by omega) d5;clear hr1 hr2 hr3 hr4 hr5;have i0:∀w:World,(Instr.index 195 (.agg #[Iv 110,Iv 72,Iv 42,Iv 20,Iv 6]) (Iv 0)).run Tryz.prog w= .ok (Iv 110) w:=fun _=>by kernel_rfl
 have i1:∀w:World,(Instr.index 195 (.agg #[Iv 110,Iv 72,Iv 42,Iv 20,Iv 6]) (Iv 1)).run Tryz.prog w= .ok (Iv 72) w:=fun _=>by kernel_rfl
 have i2:∀w:World,(Instr.index 195 (.agg #[Iv 110,Iv 72,Iv 42,Iv 20,Iv 6]) (Iv 2)).run Tryz.prog w= .ok (Iv 42) w:=fun _=>by kernel_rfl
 have i3:∀w:World,(Instr.index 195 (.agg #[Iv 110,Iv 72,Iv 42,Iv 20,Iv 6]) (Iv 3)).run Tryz.prog w= .ok (Iv 20) w:=fun _=>by kernel_rfl
 have i4:∀w:World,(Instr.index 195 (.agg #[Iv 110,Iv 72,Iv 42,Iv 20,Iv 6]) (Iv 4)).run Tryz.prog w= .ok (Iv 6) w:=fun _=>by kernel_rfl
 go_enter Tryz.func161,Tryz.ntmps161;go_wp2_with(first|(go_at_call 203;refine(ve _ _ DL DL DL DL _).mono ?_;rintro e w' ⟨rfl,rfl⟩)|(go_at_call 204;refine(vg _ _ DL DL DL DL _).mono ?_;rintro e w' ⟨rfl,rfl⟩));go_loop [17,5] (fun a b=>∃i r:Int,a=Iv i∧b=Iv r∧((i=0∧r=2147483648)∨(i=1∧r=r1)∨(i=2∧r=r2)∨(i=3∧r=r3)∨(i=4∧r=r4)∨(i=5∧r=r5))) (fun a _=>5-(intOf a).toNat)
 case atStart=>exact⟨0,2147483648,rfl,rfl,.inl ⟨rfl,rfl⟩⟩
 case round=>
  obtain⟨i,r,rfl,rfl,⟨rfl,rfl⟩|⟨rfl,rfl⟩|⟨rfl,rfl⟩|⟨rfl,rfl⟩|⟨rfl,rfl⟩|⟨rfl,rfl⟩⟩:=hrel
  ·have e:=e1.out;have ew:wrap64 (2147483648-ja u 110)=r1:=by rw[←e];unfold wrap64;omega
   have E:=hide e;go_wp2_with(first|(go_at_call 203;refine(ve _ _ DL DL DL DL _).mono ?_;rintro e w' ⟨rfl,rfl⟩)|(go_at_call 204;refine(vg _ _ DL DL DL DL _).mono ?_;rintro e w' ⟨rfl,rfl⟩));go_round
   case rel=>exact⟨1,r1,rfl,by first|rfl|rw[E.out]|rw[ew],DS⟩
   case measure=>simp[intOf]
  ·have e:=e2.out;have ew:wrap64 (2147483648-ja (zn u r) 72)=r2:=by rw[←e];unfold wrap64;omega
   have E:=hide e;go_wp2_with(first|(go_at_call 203;refine(ve _ _ DL DL DL DL _).mono ?_;rintro e w' ⟨rfl,rfl⟩)|(go_at_call 204;refine(vg _ _ DL DL DL DL _).mono ?_;rintro e w' ⟨rfl,rfl⟩));go_round
   case rel=>exact⟨2,r2,rfl,by first|rfl|rw[E.out]|rw[ew],DS⟩
   case measure=>simp[intOf]
  ·have e:=e3.out;have ew:wrap64 (2147483648-ja (zn u r) 42)=r3:=by rw[←e];unfold wrap64;omega
   have E:=hide e;go_wp2_with(first|(go_at_call 203;refine(ve _ _ DL DL DL DL _).mono ?_;rintro e w' ⟨rfl,rfl⟩)|(go_at_call 204;refine(vg _ _ DL DL DL DL _).mono ?_;rintro e w' ⟨rfl,rfl⟩));go_round
   case rel=>exact⟨3,r3,rfl,by first|rfl|rw[E.out]|rw[ew],DS⟩
   case measure=>simp[intOf]
  ·have e:=e4.out;have ew:wrap64 (2147483648-ja (zn u r) 20)=r4:=by rw[←e];unfold wrap64;omega
   have E:=hide e;go_wp2_with(first|(go_at_call 203;refine(ve _ _ DL DL DL DL _).mono ?_;rintro e w' ⟨rfl,rfl⟩)|(go_at_call 204;refine(vg _ _ DL DL DL DL _).mono ?_;rintro e w' ⟨rfl,rfl⟩));go_round
   case rel=>exact⟨4,r4,rfl,by first|rfl|rw[E.out]|rw[ew],DS⟩
   case measure=>simp[intOf]
  ·have e:=e5.out;have ew:wrap64 (2147483648-ja (zn u r) 6)=r5:=by rw[←e];unfold wrap64;omega
   have E:=hide e;go_wp2_with(first|(go_at_call 203;refine(ve _ _ DL DL DL DL _).mono ?_;rintro e w' ⟨rfl,rfl⟩)|(go_at_call 204;refine(vg _ _ DL DL DL DL _).mono ?_;rintro e w' ⟨rfl,rfl⟩));go_round
   case rel=>exact⟨5,r5,rfl,by first|rfl|rw[E.out]|rw[ew],DS⟩
   case measure=>simp[intOf]
  ·go_wp2_with(first|(go_at_call 203;refine(ve _ _ DL DL DL DL _).mono ?_;rintro e w' ⟨rfl,rfl⟩)|(go_at_call 204;refine(vg _ _ DL DL DL DL _).mono ?_;rintro e w' ⟨rfl,rfl⟩));go_ret;exact⟨qI (by rw[fin2.out]),rfl⟩
theorem pM(a:Int)(h:0≤a)(h2:a≤16200000)(w:World):
 Calls Tryz.prog 162 #[Iv a] w fun e w'=>e= .returned (Iv (vo a))∧w=w':=by
 have tb:=Qi h h2;have ub:=tI tb.1 tb.2;have b1:=Bo ub.1 ub.2;have b2:=Bp ub.1 ub.2;have b3:=Bq ub.1 ub.2;have b4:=Bs ub.1 ub.2;have b5:=ah ub.1 ub.2;have fin:=hide (show vo a=(Zo (zn (tA a) (tA a))+1)/2 from rfl);generalize vo a=q at*;have ht:(a*6746518852+32400000)/64800000=tA a:=rfl;generalize tA a=t at*;obtain⟨u,hu⟩:∃u,zn t t=u:=⟨_,rfl⟩;rw[hu]at ub b1 b2 b3 b4 b5;have e1:=hide (show wl u=2147483648-ja u 90 from rfl);have e2:=hide (show wm u=2147483648-ja (zn u (wl u)) 56 from rfl);have e3:=hide (show wo u=2147483648-ja (zn u (wm u)) 30 from rfl);have e4:=hide (show wq u=2147483648-ja (zn u (wo u)) 12 from rfl);have e5:=hide (show Zo u=2147483648-ja (zn u (wq u)) 2 from rfl);obtain⟨c1,d1⟩:=b1;obtain⟨c2,d2⟩:=b2;obtain⟨c3,d3⟩:=b3;obtain⟨c4,d4⟩:=b4;obtain⟨c5,d5⟩:=b5;obtain⟨t1,t2⟩:=tb;obtain⟨u1,u2⟩:=ub;have fin2:Hid (q=(Zo u+1)/2):=hide (by rw[fin.out,hu]);clear fin;generalize hr5:Zo u=r5 at*;generalize hr4:wq u=r4 at*;generalize hr3:wo u=r3 at*;generalize hr2:wm u=r2 at*;generalize hr1:wl u=r1 at*;have m1:=ju u1 (show 0≤r1 by omega) d1;have m2:=ju u1 (show 0≤r2 by omega) d2;have m3:=ju u1 (show 0≤r3 by omega) d3;have m4:=ju u1 (show 0≤r4 by omega) d4;have m5:=ju t1 (show 0≤r5 by omega) d5;clear hr1 hr2 hr3 hr4 hr5;have i0:∀w:World,(Instr.index 195 (.agg #[Iv 90,Iv 56,Iv 30,Iv 12,Iv 2]) (Iv 0)).run Tryz.prog w= .ok (Iv 90) w:=fun _=>by kernel_rfl
 have i1:∀w:World,(Instr.index 195 (.agg #[Iv 90,Iv 56,Iv 30,Iv 12,Iv 2]) (Iv 1)).run Tryz.prog w= .ok (Iv 56) w:=fun _=>by kernel_rfl
 have i2:∀w:World,(Instr.index 195 (.agg #[Iv 90,Iv 56,Iv 30,Iv 12,Iv 2]) (Iv 2)).run Tryz.prog w= .ok (Iv 30) w:=fun _=>by kernel_rfl
 have i3:∀w:World,(Instr.index 195 (.agg #[Iv 90,Iv 56,Iv 30,Iv 12,Iv 2]) (Iv 3)).run Tryz.prog w= .ok (Iv 12) w:=fun _=>by kernel_rfl
 have i4:∀w:World,(Instr.index 195 (.agg #[Iv 90,Iv 56,Iv 30,Iv 12,Iv 2]) (Iv 4)).run Tryz.prog w= .ok (Iv 2) w:=fun _=>by kernel_rfl
 go_enter Tryz.func162,Tryz.ntmps162;go_wp2_with(first|(go_at_call 203;refine(ve _ _ DL DL DL DL _).mono ?_;rintro e w' ⟨rfl,rfl⟩)|(go_at_call 204;refine(vg _ _ DL DL DL DL _).mono ?_;rintro e w' ⟨rfl,rfl⟩));go_loop [17,5] (fun a b=>∃i r:Int,a=Iv i∧b=Iv r∧((i=0∧r=2147483648)∨(i=1∧r=r1)∨(i=2∧r=r2)∨(i=3∧r=r3)∨(i=4∧r=r4)∨(i=5∧r=r5))) (fun a _=>5-(intOf a).toNat)
 case atStart=>exact⟨0,2147483648,rfl,rfl,.inl ⟨rfl,rfl⟩⟩
 case round=>
  obtain⟨i,r,rfl,rfl,⟨rfl,rfl⟩|⟨rfl,rfl⟩|⟨rfl,rfl⟩|⟨rfl,rfl⟩|⟨rfl,rfl⟩|⟨rfl,rfl⟩⟩:=hrel
  ·have e:=e1.out;have ew:wrap64 (2147483648-ja u 90)=r1:=by rw[←e];unfold wrap64;omega
   have E:=hide e;go_wp2_with(first|(go_at_call 203;refine(ve _ _ DL DL DL DL _).mono ?_;rintro e w' ⟨rfl,rfl⟩)|(go_at_call 204;refine(vg _ _ DL DL DL DL _).mono ?_;rintro e w' ⟨rfl,rfl⟩));go_round
   case rel=>exact⟨1,r1,rfl,by first|rfl|rw[E.out]|rw[ew],DS⟩
   case measure=>simp[intOf]
  ·have e:=e2.out;have ew:wrap64 (2147483648-ja (zn u r) 56)=r2:=by rw[←e];unfold wrap64;omega
   have E:=hide e;go_wp2_with(first|(go_at_call 203;refine(ve _ _ DL DL DL DL _).mono ?_;rintro e w' ⟨rfl,rfl⟩)|(go_at_call 204;refine(vg _ _ DL DL DL DL _).mono ?_;rintro e w' ⟨rfl,rfl⟩));go_round
   case rel=>exact⟨2,r2,rfl,by first|rfl|rw[E.out]|rw[ew],DS⟩
   case measure=>simp[intOf]
  ·have e:=e3.out;have ew:wrap64 (2147483648-ja (zn u r) 30)=r3:=by rw[←e];unfold wrap64;omega
   have E:=hide e;go_wp2_with(first|(go_at_call 203;refine(ve _ _ DL DL DL DL _).mono ?_;rintro e w' ⟨rfl,rfl⟩)|(go_at_call 204;refine(vg _ _ DL DL DL DL _).mono ?_;rintro e w' ⟨rfl,rfl⟩));go_round
   case rel=>exact⟨3,r3,rfl,by first|rfl|rw[E.out]|rw[ew],DS⟩
   case measure=>simp[intOf]
  ·have e:=e4.out;have ew:wrap64 (2147483648-ja (zn u r) 12)=r4:=by rw[←e];unfold wrap64;omega
   have E:=hide e;go_wp2_with(first|(go_at_call 203;refine(ve _ _ DL DL DL DL _).mono ?_;rintro e w' ⟨rfl,rfl⟩)|(go_at_call 204;refine(vg _ _ DL DL DL DL _).mono ?_;rintro e w' ⟨rfl,rfl⟩));go_round
   case rel=>exact⟨4,r4,rfl,by first|rfl|rw[E.out]|rw[ew],DS⟩
   case measure=>simp[intOf]
  ·have e:=e5.out;have ew:wrap64 (2147483648-ja (zn u r) 2)=r5:=by rw[←e];unfold wrap64;omega
   have E:=hide e;go_wp2_with(first|(go_at_call 203;refine(ve _ _ DL DL DL DL _).mono ?_;rintro e w' ⟨rfl,rfl⟩)|(go_at_call 204;refine(vg _ _ DL DL DL DL _).mono ?_;rintro e w' ⟨rfl,rfl⟩));go_round
   case rel=>exact⟨5,r5,rfl,by first|rfl|rw[E.out]|rw[ew],DS⟩
   case measure=>simp[intOf]
  ·go_wp2_with(first|(go_at_call 203;refine(ve _ _ DL DL DL DL _).mono ?_;rintro e w' ⟨rfl,rfl⟩)|(go_at_call 204;refine(vg _ _ DL DL DL DL _).mono ?_;rintro e w' ⟨rfl,rfl⟩));go_ret;exact⟨qI (by rw[fin2.out]),rfl⟩
theorem Za(a:Int)(h:0≤a)(h2:a≤16200000)(w:World):
 Calls Tryz.prog 212 #[Iv a] w fun e w'=>e= .returned (.tuple #[Iv (tA a),Iv (zn (tA a) (tA a))])∧w=w':=by
 have tb:=Qi h h2;have ht:(a*6746518852+32400000)/64800000=tA a:=rfl;generalize tA a=t at*;go_enter Tryz.func212,Tryz.ntmps212;go_wp2_with(go_at_call 214;refine(JX _ _ DL DL DL DL _).mono ?_;rintro e w' ⟨rfl,rfl⟩);go_ret2;exact⟨rfl,rfl⟩
theorem fq(a:Int)(h:0≤a)(h2:a≤16200000)(w:World):
 Calls Tryz.prog 189 #[Iv a] w fun e w'=>e= .returned (Iv (tH a))∧w=w':=by
 have tb:=Qi h h2;have ub:=tI tb.1 tb.2;have b1:=Bi ub.1 ub.2;have b2:=Bj ub.1 ub.2;have b3:=Bm ub.1 ub.2;have b4:=Bn ub.1 ub.2;have b5:=JP ub.1 ub.2;have fin:=hide (show tH a=(zn (tA a) (xQ (zn (tA a) (tA a)))+1)/2 from rfl);generalize tH a=q at*;have ra:=fun w=>Za a h h2 w
 generalize tA a=t at*;obtain⟨u,hu⟩:∃u,zn t t=u:=⟨_,rfl⟩;rw[hu]at ub b1 b2 b3 b4 b5;have e1:=hide (show wh u=2147483648-ja u 110 from rfl);have e2:=hide (show wj u=2147483648-ja (zn u (wh u)) 72 from rfl);have e3:=hide (show wk u=2147483648-ja (zn u (wj u)) 42 from rfl);have e4:=hide (show GL u=2147483648-ja (zn u (wk u)) 20 from rfl);have e5:=hide (show xQ u=2147483648-ja (zn u (GL u)) 6 from rfl);obtain⟨c1,d1⟩:=b1;obtain⟨c2,d2⟩:=b2;obtain⟨c3,d3⟩:=b3;obtain⟨c4,d4⟩:=b4;obtain⟨c5,d5⟩:=b5;obtain⟨t1,t2⟩:=tb;obtain⟨u1,u2⟩:=ub;have fin2:Hid (q=(zn t (xQ u)+1)/2):=hide (by rw[fin.out,hu]);clear fin;rw[hu]at ra;clear hu;generalize hr5:xQ u=r5 at*;generalize hr4:GL u=r4 at*;generalize hr3:wk u=r3 at*;generalize hr2:wj u=r2 at*;generalize hr1:wh u=r1 at*;have w1:2147483648-ja u 110=r1:=e1.out.symm;have w2:2147483648-ja (zn u r1) 72=r2:=e2.out.symm;have w3:2147483648-ja (zn u r2) 42=r3:=e3.out.symm;have w4:2147483648-ja (zn u r3) 20=r4:=e4.out.symm;have w5:2147483648-ja (zn u r4) 6=r5:=e5.out.symm;have m1:=ju u1 (show 0≤r1 by omega) d1;have m2:=ju u1 (show 0≤r2 by omega) d2;have m3:=ju u1 (show 0≤r3 by omega) d3;have m4:=ju u1 (show 0≤r4 by omega) d4;have m5:=ju t1 (show 0≤r5 by omega) d5;clear hr1 hr2 hr3 hr4 hr5;generalize hd1:ja u 110=z1 at*;generalize hd2:ja (zn u r1) 72=z2 at*;generalize hd3:ja (zn u r2) 42=z3 at*;generalize hd4:ja (zn u r3) 20=z4 at*;generalize hd5:ja (zn u r4) 6=z5 at*;obtain rfl:z1=2147483648-r1:=DL;obtain rfl:z2=2147483648-r2:=DL;obtain rfl:z3=2147483648-r3:=DL;obtain rfl:z4=2147483648-r4:=DL;obtain rfl:z5=2147483648-r5:=DL;have s1:2147483648-(2147483648-r1)=r1:=DL;have s2:2147483648-(2147483648-r2)=r2:=DL;have s3:2147483648-(2147483648-r3)=r3:=DL;have s4:2147483648-(2147483648-r4)=r4:=DL;have s5:2147483648-(2147483648-r5)=r5:=DL;clear w1 w2 w3 w4 w5;go_enter Tryz.func189,Tryz.ntmps189;go_wp2_with(first|(go_at_call 212;refine(ra _).mono ?_;rintro e w' ⟨rfl,rfl⟩)|(go_at_call 214;refine(JX _ _ DL DL DL DL _).mono ?_;rintro e w' ⟨rfl,rfl⟩)|(go_at_call 213;refine(Ux _ _ DL DL DL DL _).mono ?_;rintro e w' ⟨rfl,rfl⟩));go_ret;exact⟨qI (by rw[fin2.out]),rfl⟩
theorem TF(a:Int)(h:0≤a)(h2:a≤16200000)(w:World):
 Calls Tryz.prog 190 #[Iv a] w fun e w'=>e= .returned (Iv (vo a))∧w=w':=by
 have tb:=Qi h h2;have ub:=tI tb.1 tb.2;have b1:=Bo ub.1 ub.2;have b2:=Bp ub.1 ub.2;have b3:=Bq ub.1 ub.2;have b4:=Bs ub.1 ub.2;have b5:=ah ub.1 ub.2;have fin:=hide (show vo a=(Zo (zn (tA a) (tA a))+1)/2 from rfl);generalize vo a=q at*;have ra:=fun w=>Za a h h2 w
 generalize tA a=t at*;obtain⟨u,hu⟩:∃u,zn t t=u:=⟨_,rfl⟩;rw[hu]at ub b1 b2 b3 b4 b5;have e1:=hide (show wl u=2147483648-ja u 90 from rfl);have e2:=hide (show wm u=2147483648-ja (zn u (wl u)) 56 from rfl);have e3:=hide (show wo u=2147483648-ja (zn u (wm u)) 30 from rfl);have e4:=hide (show wq u=2147483648-ja (zn u (wo u)) 12 from rfl);have e5:=hide (show Zo u=2147483648-ja (zn u (wq u)) 2 from rfl);obtain⟨c1,d1⟩:=b1;obtain⟨c2,d2⟩:=b2;obtain⟨c3,d3⟩:=b3;obtain⟨c4,d4⟩:=b4;obtain⟨c5,d5⟩:=b5;obtain⟨t1,t2⟩:=tb;obtain⟨u1,u2⟩:=ub;have fin2:Hid (q=(Zo u+1)/2):=hide (by rw[fin.out,hu]);clear fin;rw[hu]at ra;clear hu;generalize hr5:Zo u=r5 at*;generalize hr4:wq u=r4 at*;generalize hr3:wo u=r3 at*;generalize hr2:wm u=r2 at*;generalize hr1:wl u=r1 at*;have w1:2147483648-ja u 90=r1:=e1.out.symm;have w2:2147483648-ja (zn u r1) 56=r2:=e2.out.symm;have w3:2147483648-ja (zn u r2) 30=r3:=e3.out.symm;have w4:2147483648-ja (zn u r3) 12=r4:=e4.out.symm;have w5:2147483648-ja (zn u r4) 2=r5:=e5.out.symm;have m1:=ju u1 (show 0≤r1 by omega) d1;have m2:=ju u1 (show 0≤r2 by omega) d2;have m3:=ju u1 (show 0≤r3 by omega) d3;have m4:=ju u1 (show 0≤r4 by omega) d4;have m5:=ju t1 (show 0≤r5 by omega) d5;clear hr1 hr2 hr3 hr4 hr5;generalize hd1:ja u 90=z1 at*;generalize hd2:ja (zn u r1) 56=z2 at*;generalize hd3:ja (zn u r2) 30=z3 at*;generalize hd4:ja (zn u r3) 12=z4 at*;generalize hd5:ja (zn u r4) 2=z5 at*;obtain rfl:z1=2147483648-r1:=DL;obtain rfl:z2=2147483648-r2:=DL;obtain rfl:z3=2147483648-r3:=DL;obtain rfl:z4=2147483648-r4:=DL;obtain rfl:z5=2147483648-r5:=DL;have s1:2147483648-(2147483648-r1)=r1:=DL;have s2:2147483648-(2147483648-r2)=r2:=DL;have s3:2147483648-(2147483648-r3)=r3:=DL;have s4:2147483648-(2147483648-r4)=r4:=DL;have s5:2147483648-(2147483648-r5)=r5:=DL;clear w1 w2 w3 w4 w5;go_enter Tryz.func190,Tryz.ntmps190;go_wp2_with(first|(go_at_call 212;refine(ra _).mono ?_;rintro e w' ⟨rfl,rfl⟩)|(go_at_call 214;refine(JX _ _ DL DL DL DL _).mono ?_;rintro e w' ⟨rfl,rfl⟩)|(go_at_call 213;refine(Ux _ _ DL DL DL DL _).mono ?_;rintro e w' ⟨rfl,rfl⟩));go_ret;exact⟨qI (by rw[fin2.out]),rfl⟩
theorem tw(a:Int)(h:0≤a)(h2:a≤32400000)(w:World):
 Calls Tryz.prog 90 #[Iv a] w fun e w'=>e= .returned (Iv (kN a))∧w=w':=by
 have hq:=hide (show kN a=if a≤16200000 then tH a else vo (32400000-a)from rfl);generalize kN a=q at*;by_cases t:a≤16200000
 all_goals
  go_enter Tryz.func90,Tryz.ntmps90;go_wp2_with(first|(go_at_call 161;refine(eG _ DL DL _).mono ?_;rintro e w' ⟨rfl,rfl⟩)|(go_at_call 162;refine(pM _ DL DL _).mono ?_;rintro e w' ⟨rfl,rfl⟩));go_ret;exact⟨qI (by rw[hq.out];first|rw[if_pos DL]|rw[if_neg DL]),rfl⟩
theorem QM(a:Int)(ha:qK a)(w:World):
 Calls Tryz.prog 35 #[Iv a] w fun e w'=>e= .returned (Iv (jO a))∧w=w':=by
 have nb:=zH a;have hq:=hide (show jO a=if norm a≤32400000 then kN (norm a)else if norm a≤64800000 then kN (64800000-norm a)else if norm a≤97200000 then-kN (norm a-64800000)else-kN (129600000-norm a)from rfl);have na:=fun w=>yN a ha w
 have qb:∀x,0≤x→x≤32400000→0≤kN x∧kN x≤1073741824:=fun x h1 h2=>xy h1 h2
 have QB:=hide qb;clear qb;generalize norm a=b at*;generalize jO a=q at*;obtain⟨nb1,nb2⟩:=nb;by_cases t1:b≤32400000
 ·go_enter Tryz.func35,Tryz.ntmps35;go_wp2_with(first|(go_at_call 89;refine(na _).mono ?_;rintro e w' ⟨rfl,rfl⟩)|(go_at_call 90;refine(tw _ DL DL _).mono ?_;rintro e w' ⟨rfl,rfl⟩));go_ret;exact⟨qI (by rw[hq.out];rw[if_pos DL]),rfl⟩
 ·by_cases t2:b≤64800000
  ·go_enter Tryz.func35,Tryz.ntmps35;go_wp2_with(first|(go_at_call 89;refine(na _).mono ?_;rintro e w' ⟨rfl,rfl⟩)|(go_at_call 90;refine(tw _ DL DL _).mono ?_;rintro e w' ⟨rfl,rfl⟩));go_ret;exact⟨qI (by rw[hq.out];rw[if_neg DL,if_pos DL]),rfl⟩
  ·by_cases t3:b≤97200000
   ·have Q:=QB.out (b-64800000) DL DL;go_enter Tryz.func35,Tryz.ntmps35;go_wp2_with(first|(go_at_call 89;refine(na _).mono ?_;rintro e w' ⟨rfl,rfl⟩)|(go_at_call 90;refine(tw _ DL DL _).mono ?_;rintro e w' ⟨rfl,rfl⟩));go_ret;exact⟨qI (by rw[hq.out];rw[if_neg DL,if_neg DL,if_pos DL]),rfl⟩
   ·have Q:=QB.out (129600000-b) DL DL;go_enter Tryz.func35,Tryz.ntmps35;go_wp2_with(first|(go_at_call 89;refine(na _).mono ?_;rintro e w' ⟨rfl,rfl⟩)|(go_at_call 90;refine(tw _ DL DL _).mono ?_;rintro e w' ⟨rfl,rfl⟩));go_ret;exact⟨qI (by rw[hq.out];rw[if_neg DL,if_neg DL,if_neg DL]),rfl⟩
theorem Jd(a:Int)(ha:qK a)(w:World):
 Calls Tryz.prog 36 #[Iv a] w fun e w'=>e= .returned (Iv (yF a))∧w=w':=by
 have tb:=kG a 32400000;go_enter Tryz.func36,Tryz.ntmps36;go_wp2_with(first|(go_at_call 69;refine(gH _ _ ha DP _).mono ?_;rintro e w' ⟨rfl,rfl⟩)|(go_at_call 35;refine(QM _ DP _).mono ?_;rintro e w' ⟨rfl,rfl⟩));go_ret;exact⟨rfl,rfl⟩
theorem bN(a:Int)(h:0≤a)(h2:a≤32400000)(w:World):
 Calls Tryz.prog 121 #[Iv a] w fun e w'=>e= .returned (Iv (kN a))∧w=w':=by
 have hq:=hide (show kN a=if a≤16200000 then tH a else vo (32400000-a)from rfl);generalize kN a=q at*;by_cases t:a≤16200000
 all_goals
  go_enter Tryz.func121,Tryz.ntmps121;go_wp2_with(first|(go_at_call 189;refine(fq _ DL DL _).mono ?_;rintro e w' ⟨rfl,rfl⟩)|(go_at_call 190;refine(TF _ DL DL _).mono ?_;rintro e w' ⟨rfl,rfl⟩));go_ret;exact⟨qI (by rw[hq.out];first|rw[if_pos DL]|rw[if_neg DL]),rfl⟩
theorem vC(a:Int)(ha:qK a)(w:World):
 Calls Tryz.prog 55 #[Iv a] w fun e w'=>e= .returned (Iv (jO a))∧w=w':=by
 have nb:=zH a;have hq:=hide (show jO a=if norm a≤32400000 then kN (norm a)else if norm a≤64800000 then kN (64800000-norm a)else if norm a≤97200000 then-kN (norm a-64800000)else-kN (129600000-norm a)from rfl);have na:=fun w=>jl a ha w
 have qb:∀x,0≤x→x≤32400000→0≤kN x∧kN x≤1073741824:=fun x h1 h2=>xy h1 h2
 have QB:=hide qb;clear qb;generalize norm a=b at*;generalize jO a=q at*;obtain⟨nb1,nb2⟩:=nb;by_cases t1:b≤32400000
 ·go_enter Tryz.func55,Tryz.ntmps55;go_wp2_with(first|(go_at_call 118;refine(na _).mono ?_;rintro e w' ⟨rfl,rfl⟩)|(go_at_call 121;refine(bN _ DL DL _).mono ?_;rintro e w' ⟨rfl,rfl⟩));go_ret;exact⟨qI (by rw[hq.out];rw[if_pos DL]),rfl⟩
 ·by_cases t2:b≤64800000
  ·go_enter Tryz.func55,Tryz.ntmps55;go_wp2_with(first|(go_at_call 118;refine(na _).mono ?_;rintro e w' ⟨rfl,rfl⟩)|(go_at_call 121;refine(bN _ DL DL _).mono ?_;rintro e w' ⟨rfl,rfl⟩));go_ret;exact⟨qI (by rw[hq.out];rw[if_neg DL,if_pos DL]),rfl⟩
  ·by_cases t3:b≤97200000
   ·have Q:=QB.out (b-64800000) DL DL;go_enter Tryz.func55,Tryz.ntmps55;go_wp2_with(first|(go_at_call 118;refine(na _).mono ?_;rintro e w' ⟨rfl,rfl⟩)|(go_at_call 121;refine(bN _ DL DL _).mono ?_;rintro e w' ⟨rfl,rfl⟩));go_ret;exact⟨qI (by rw[hq.out];rw[if_neg DL,if_neg DL,if_pos DL]),rfl⟩
   ·have Q:=QB.out (129600000-b) DL DL;go_enter Tryz.func55,Tryz.ntmps55;go_wp2_with(first|(go_at_call 118;refine(na _).mono ?_;rintro e w' ⟨rfl,rfl⟩)|(go_at_call 121;refine(bN _ DL DL _).mono ?_;rintro e w' ⟨rfl,rfl⟩));go_ret;exact⟨qI (by rw[hq.out];rw[if_neg DL,if_neg DL,if_neg DL]),rfl⟩
theorem kg(a:Int)(ha:qK a)(w:World):
 Calls Tryz.prog 54 #[Iv a] w fun e w'=>e= .returned (Iv (yF a))∧w=w':=by
 have tb:=kG a 32400000;go_enter Tryz.func54,Tryz.ntmps54;go_wp2_with(first|(go_at_call 120;refine(xa _ _ ha DP _).mono ?_;rintro e w' ⟨rfl,rfl⟩)|(go_at_call 55;refine(vC _ DP _).mono ?_;rintro e w' ⟨rfl,rfl⟩));go_ret;exact⟨rfl,rfl⟩
theorem eI(i j:Int)(h0:0≤i)(h1:i<j)(h2:j≤1099511627776):i≤(i+j)/2∧(i+j)/2<j:=DL
theorem BN(n:Int)(hn:0≤n)(hn2:n≤1099511627776)(b:Nat)(p:Int→Bool)(W:World)
 (hf:∀h k,0≤h→h<n→Calls Tryz.prog 195 #[Iv h,.pointer (some ⟨b,0,none⟩)] (W.drewN k) fun e w'=>e= .returned (.bool (p h))∧∃m,w'=W.drewN m):
 Calls Tryz.prog 194 #[Iv n,.func (.func 195) #[] #[.pointer (some ⟨b,0,none⟩)]] W fun e w'=>
  ∃r,e= .returned (Iv r)∧0≤r∧r≤n∧(r=n∨p r=true)∧(r=0∨p (r-1)=false)∧∃m,w'=W.drewN m:=by
 go_enter Tryz.func194,Tryz.ntmps194;go_wp2;go_loopw [5,6] (fun a c wr=>∃(i j:Int) (k:Nat),a=Iv i∧c=Iv j∧0≤i∧i≤j∧j≤n∧Hid (j=n∨p j=true)∧Hid (i=0∨p (i-1)=false)∧wr=W.drewN k) (fun a c _=>(intOf c-intOf a).toNat)
 case atStart=>exact⟨0,n,0,rfl,rfl,by omega,hn,by omega,.inl rfl,.inl rfl,rfl⟩
 case round=>
  obtain⟨i,j,k,rfl,rfl,i0,i1,j1,J,I,rfl⟩:=hrel;by_cases t:i<j
  ·obtain⟨h1,h2⟩:=eI i j i0 t DL;have eh:wrap64 (IntKind.u64.wrap (i+j)/2)=(i+j)/2:=by rw[IntKind.wrap_u64];unfold wrap64;omega
   have C:=hf ((i+j)/2) k DL DL
   cases hp:p ((i+j)/2)with
   |true=>
    rw[hp]at C;have HP:=hide hp;clear hp;go_wp2_with(go_at_call 195;refine C.mono ?_;rintro e w' ⟨rfl,m,rfl⟩);go_roundw
    case rel=>exact⟨i,(i+j)/2,m,rfl,rfl,i0,h1,by omega,.inr HP.out,I,rfl⟩
    case measure=>simp[intOf];omega
   |false=>
    rw[hp]at C;have HP:=hide hp;clear hp;go_wp2_with(go_at_call 195;refine C.mono ?_;rintro e w' ⟨rfl,m,rfl⟩);go_roundw
    case rel=>exact⟨(i+j)/2+1,j,m,rfl,rfl,by omega,by omega,j1,J,.inr (by rw[show(i+j)/2+1-1=(i+j)/2 by omega];exact HP.out),rfl⟩
    case measure=>simp[intOf];omega
  ·obtain rfl:i=j:=DL;go_wp2;go_ret;exact⟨i,rfl,i0,j1,J.out,I.out,k,rfl⟩
def yf(m n c:Int):Bool:=decide (jO c*m≤yF c*n)
theorem fu(c m n:Int)(c0:0≤c)(c1:c≤16200000)(m0:0≤m)(m1:m≤2147483647)(n0:0≤n)(n1:n≤2147483647)(bm bn:Nat)(w:World)
 (hm:w.cell? ⟨bm,0,none⟩=some (Iv m)) (hn:w.cell? ⟨bn,0,none⟩=some (Iv n)):
 Calls Tryz.prog 143 #[Iv c,.pointer (some ⟨bm,0,none⟩),.pointer (some ⟨bn,0,none⟩)] w fun e w'=>e= .returned (.bool (yf m n c))∧∃k,w'=w.drewN k:=by
 have sb:=bH c;have cb:=tJ c;have hc:qK c:=DP;have p1:jO c*m≤1073741824*m:=Int.mul_le_mul_of_nonneg_right sb.2 m0;have p2: -1073741824*m≤jO c*m:=Int.mul_le_mul_of_nonneg_right sb.1 m0;have p3:yF c*n≤1073741824*n:=Int.mul_le_mul_of_nonneg_right cb.2 n0;have p4: -1073741824*n≤yF c*n:=Int.mul_le_mul_of_nonneg_right cb.1 n0;have q1:jO c*m≤2305843008139952128:=DL;have q2: -2305843008139952128≤jO c*m:=DL;have q3:yF c*n≤2305843008139952128:=DL;have q4: -2305843008139952128≤yF c*n:=DL;clear p1 p2 p3 p4;have h:=hide (show yf m n c=decide (jO c*m≤yF c*n)from rfl);generalize yf m n c=q at*;go_enter Tryz.func143,Tryz.ntmps143;go_wp2_with fail;go_quiet ((first|(go_at_call 35;exact YD (QM c hc _))|(go_at_call 36;exact YD (Jd c hc _))));go_wp2_with fail;go_ret;exact⟨jF h.out.symm,_,rfl⟩
theorem BO(h m n:Int)(c0:0≤h)(c1:h<16200000)(m0:0≤m)(m1:m≤2147483647)(n0:0≤n)(n1:n≤2147483647)(b bm bn:Nat)(w:World)
 (hb:w.cell? ⟨b,0,none⟩=some (.func (.func 143) #[] #[.pointer (some ⟨bm,0,none⟩),.pointer (some ⟨bn,0,none⟩)]))
 (hm:w.cell? ⟨bm,0,none⟩=some (Iv m)) (hn:w.cell? ⟨bn,0,none⟩=some (Iv n)):
 Calls Tryz.prog 195 #[Iv h,.pointer (some ⟨b,0,none⟩)] w fun e w'=>e= .returned (.bool (!yf m n (h+1)))∧∃k,w'=w.drewN k:=by
 go_enter Tryz.func195,Tryz.ntmps195;go_wp2_with(go_at_call 143;refine(fu (h+1) m n DL DL m0 m1 n0 n1 bm bn _ hm hn).mono ?_;rintro e w' ⟨rfl,k,rfl⟩);go_ret;exact⟨rfl,_,rfl⟩
theorem bO{m n r:Int}(m0:0≤m)(n0:0≤n)(r0:0≤r)(r1:r≤16200000)(h1:r=16200000∨(!yf m n (r+1))=true)(h2:r=0∨(!yf m n (r-1+1))=false):r=kJ m n:=by
 obtain⟨g,hg,g1,g2,g3⟩:=Uc m n;rw[hg];have hn:=wU;obtain⟨k,rfl⟩:=Int.eq_ofNat_of_zero_le r0;rcases Nat.lt_trichotomy g k with h|h|h
 ·exfalso;rcases h2 with h2|h2
  ·have:k=0:=by exact_mod_cast h2
   omega
  ·have e:=g3 k h DL;rw[show(k:Int)-1+1=(k:Int) by omega]at h2;have e2:yf m n (k:Int)=Wk m n k:=rfl;rw[e2,e]at h2;exact absurd h2 DQ
 ·rw[h]
 ·exfalso;rcases h1 with h1|h1
  ·omega
  ·rcases g2 with g2|g2
   ·omega
   ·have e:=aI m0 n0 (c:=k+1) (d:=g) DL DL g2;have e2:yf m n ((k:Int)+1)=Wk m n (k+1):=rfl;rw[e2,e]at h1;exact absurd h1 DQ
theorem Je(m n:Int)(m0:0≤m)(m1:m≤2147483647)(n0:0≤n)(n1:n≤2147483647)(bm bn:Nat)(w:World)
 (hbm:bm<w.heap.size) (hbn:bn<w.heap.size)
 (hm:w.cell? ⟨bm,0,none⟩=some (Iv m)) (hn:w.cell? ⟨bn,0,none⟩=some (Iv n)):
 Calls Tryz.prog 142 #[Iv 16200000,.func (.func 143) #[] #[.pointer (some ⟨bm,0,none⟩),.pointer (some ⟨bn,0,none⟩)]] w fun e w'=>e= .returned (Iv (kJ m n))∧Below w.heap.size w w':=by
 have hb1:(w.alloc (.cells #[.func (.func 143) #[] #[.pointer (some ⟨bm,0,none⟩),.pointer (some ⟨bn,0,none⟩)]] 84)).cell? ⟨w.heap.size,0,none⟩=some (.func (.func 143) #[] #[.pointer (some ⟨bm,0,none⟩),.pointer (some ⟨bn,0,none⟩)]):=by
  simp
 have hm1:(w.alloc (.cells #[.func (.func 143) #[] #[.pointer (some ⟨bm,0,none⟩),.pointer (some ⟨bn,0,none⟩)]] 84)).cell? ⟨bm,0,none⟩=some (Iv m):=by
  rw[World.cell?_alloc_past _ _ _ hbm];exact hm
 have hn1:(w.alloc (.cells #[.func (.func 143) #[] #[.pointer (some ⟨bm,0,none⟩),.pointer (some ⟨bn,0,none⟩)]] 84)).cell? ⟨bn,0,none⟩=some (Iv n):=by
  rw[World.cell?_alloc_past _ _ _ hbn];exact hn
 have hB:Below w.heap.size w (w.alloc (.cells #[.func (.func 143) #[] #[.pointer (some ⟨bm,0,none⟩),.pointer (some ⟨bn,0,none⟩)]] 84)):=(Below.refl _ _).alloc (Nat.le_refl _) _
 have S:=BN 16200000 DL DL w.heap.size (fun h=> !yf m n (h+1)) (w.alloc (.cells #[.func (.func 143) #[] #[.pointer (some ⟨bm,0,none⟩),.pointer (some ⟨bn,0,none⟩)]] 84))
  (fun h k h0 h1=>(BO h m n h0 h1 m0 m1 n0 n1 w.heap.size bm bn ((w.alloc (.cells #[.func (.func 143) #[] #[.pointer (some ⟨bm,0,none⟩),.pointer (some ⟨bn,0,none⟩)]] 84)).drewN k) hb1 hm1 hn1).mono (by rintro e w' ⟨rfl,j,rfl⟩;exact⟨rfl,_,World.drewN_drewN _ _ _⟩))
 have HB:=hide hB;have HS:=hide S;clear hB S hb1 hm1 hn1;go_enter Tryz.func142,Tryz.ntmps142;go_wp2_with(go_at_call 194;refine HS.out.mono ?_;rintro e w' ⟨r,rfl,r0,r1,r2,r3,k,rfl⟩;have R:=hide (bO m0 n0 r0 r1 r2 r3);clear r2 r3);go_ret;exact⟨qI R.out,below_drewN HB.out _⟩
theorem eJ(x:Int)(h: -2147483647≤x)(h2:x≤2147483647)(w:World):
 Calls Tryz.prog 141 #[Iv x] w fun e w'=>e= .returned (.bool false)∧w=w':=by
 go_enter Tryz.func141,Tryz.ntmps141;go_wp2
 all_goals
  go_ret;exact⟨jF (by simp;omega),rfl⟩
theorem pO(y x:Int)(A B:Int)(hA:(x.natAbs:Int)=A)(hB:(y.natAbs:Int)=B)(C:Int)(hC:C=kJ (if A<B then B else A) (if A<B then A else B))(Q:Int)(hQ:Q=if A<B then 32400000-C else C):Q=kV y x:=by
 rw[hQ,hC];unfold kV;by_cases h:A<B
 ·rw[if_pos h,if_pos h,if_pos h,if_pos DL,hA,hB]
 ·rw[if_neg h,if_neg h,if_neg h,if_neg DL,hA,hB]
theorem Uy(y x:Int)(hy: -2147483647≤y)(hy2:y≤2147483647)(hx: -2147483647≤x)(hx2:x≤2147483647)(h0:¬(x=0∧y=0))(w:World):
 Calls Tryz.prog 75 #[Iv y,Iv x] w fun e w'=>e= .returned (.tuple #[Iv (jJ y x),Iv 0])∧Below w.heap.size w w':=by
 have T:((x==0)=true∧(y==0)=false)∨(x==0)=false:=by
  by_cases hx0:x=0
  ·left;simp[hx0];intro hy0;exact h0 ⟨hx0,hy0⟩
  ·right;simp[hx0]
 clear h0;have bx:(x.natAbs:Int)≤2147483647∧0≤(x.natAbs:Int):=DL;have b_y:(y.natAbs:Int)≤2147483647∧0≤(y.natAbs:Int):=DL;have ax:=fun w=>kY x DP DL w
 have ay:=fun w=>kY y DP DL w
 have WY:=pO y x;have F:Hid (jJ y x=if 0≤y then(if 0≤x then kV y x else 64800000-kV y x)else if x<0 then 64800000+kV y x else norm (-kV y x)):=hide rfl;generalize hA:(x.natAbs:Int)=A at*;generalize hB:(y.natAbs:Int)=B at*;obtain⟨Q,hQ⟩:∃Q,Q=kV y x:=⟨_,rfl⟩;have qb:=GP y x;rw[←hQ]at F qb;have W0:=hide (fun C hC Q' hQ'=>(WY A B rfl rfl C hC Q' hQ').trans hQ.symm);clear WY hQ hA hB;generalize jJ y x=R at*;obtain⟨a1,a0⟩:=bx;obtain⟨b1,b0⟩:=b_y;obtain⟨qb0,qb1⟩:=qb;have ax:=hide ax;have ay:=hide ay;by_cases t:A<B
 ·have cb:=vY B A;have mx:max A B=B:=DL;have mn:min A B=A:=DL;have G:=fun bm bn w hbm hbn hm hn=>Je B A DL DL DL DL bm bn w hbm hbn hm hn
  have G:=hide G;generalize hC:kJ B A=C at*;have e:32400000-C=Q:=W0.out C (by rw[if_pos t,if_pos t];exact hC.symm) _ (by rw[if_pos t]);have E:=hide e;clear e W0 hC;rcases T with⟨T1,T2⟩|T1
  all_goals by_cases s1:0≤x
  all_goals by_cases s2:0≤y
  all_goals
   go_enter Tryz.func75,Tryz.ntmps75;go_wp2_with(go_at_call 141;refine(eJ _ DL DL _).mono ?_;rintro e w' ⟨rfl,rfl⟩);refine(ax.out _).mono ?_;rintro e w' ⟨rfl,rfl⟩;go_wp2_with fail;refine(ay.out _).mono ?_;rintro e w' ⟨rfl,rfl⟩;go_wp2_with fail;refine(G.out _ _ _ (by simp<;>omega) (by simp<;>omega) (by simp;done) (by simp;done)).mono ?_;rintro e w' ⟨rfl,hb⟩;have HB:=hide hb;clear hb;go_wp2_with(go_at_call 89;refine(yN _ DP _).mono ?_;rintro e w' ⟨rfl,rfl⟩)
  all_goals
   go_ret2;refine⟨jV ?_ rfl,((((Below.refl _ _).alloc (Nat.le_refl _) _).alloc DS _).trans (HB.out.mono (by simp<;>omega)))⟩;rw[F.out,←E.out]
   first|rw[if_pos (show 0≤y by omega),if_pos (show 0≤x by omega)]|rw[if_pos (show 0≤y by omega),if_neg (show¬0≤x by omega)]|rw[if_neg (show¬0≤y by omega),if_pos (show x<0 by omega)]|rw[if_neg (show¬0≤y by omega),if_neg (show¬x<0 by omega)]
 ·have cb:=vY A B;have mx:max A B=A:=DL;have mn:min A B=B:=DL;have G:=fun bm bn w hbm hbn hm hn=>Je A B DL DL DL DL bm bn w hbm hbn hm hn
  have G:=hide G;generalize hC:kJ A B=C at*;have e:C=Q:=W0.out C (by rw[if_neg t,if_neg t];exact hC.symm) _ (by rw[if_neg t]);have E:=hide e;clear e W0 hC;rcases T with⟨T1,T2⟩|T1
  all_goals by_cases s1:0≤x
  all_goals by_cases s2:0≤y
  all_goals
   go_enter Tryz.func75,Tryz.ntmps75;go_wp2_with(go_at_call 141;refine(eJ _ DL DL _).mono ?_;rintro e w' ⟨rfl,rfl⟩);refine(ax.out _).mono ?_;rintro e w' ⟨rfl,rfl⟩;go_wp2_with fail;refine(ay.out _).mono ?_;rintro e w' ⟨rfl,rfl⟩;go_wp2_with fail;refine(G.out _ _ _ (by simp<;>omega) (by simp<;>omega) (by simp;done) (by simp;done)).mono ?_;rintro e w' ⟨rfl,hb⟩;have HB:=hide hb;clear hb;go_wp2_with(go_at_call 89;refine(yN _ DP _).mono ?_;rintro e w' ⟨rfl,rfl⟩)
  all_goals
   go_ret2;refine⟨jV ?_ rfl,((((Below.refl _ _).alloc (Nat.le_refl _) _).alloc DS _).trans (HB.out.mono (by simp<;>omega)))⟩;rw[F.out,←E.out]
   first|rw[if_pos (show 0≤y by omega),if_pos (show 0≤x by omega)]|rw[if_pos (show 0≤y by omega),if_neg (show¬0≤x by omega)]|rw[if_neg (show¬0≤y by omega),if_pos (show x<0 by omega)]|rw[if_neg (show¬0≤y by omega),if_neg (show¬x<0 by omega)]
theorem JY(a b m:Int)(w:World):
 Calls Tryz.prog 119 #[Iv a,Iv b,Iv 0,Iv m] w fun e w'=>e= .returned (.tuple #[Iv 0,Iv 1])∧∃n,w'=w.drewN n:=by
 go_enter Tryz.func119,Tryz.ntmps119;go_wp2
 all_goals
  go_ret2;exact⟨rfl,0,rfl⟩
theorem Kv(a b c:Int)(ha:qK a)(hb:qK b)(hc:qK c)(w:World):
 Calls Tryz.prog 119 #[Iv a,Iv b,Iv c,Iv 0] w fun e w'=>e= .returned (.tuple #[Iv (qR 0 a b c).1,Iv (qR 0 a b c).2])∧∃n,w'=w.drewN n:=by
 by_cases h0:c=0
 ·subst h0;rw[bD];exact JY a b 0 w
 ·exact cR a b c ha hb hc h0 w
theorem TG(a b c:Int)(ha:qK a)(hb:qK b)(hc:qK c)(w:World):
 Calls Tryz.prog 119 #[Iv a,Iv b,Iv c,Iv 1] w fun e w'=>e= .returned (.tuple #[Iv (qR 1 a b c).1,Iv (qR 1 a b c).2])∧∃n,w'=w.drewN n:=by
 by_cases h0:c=0
 ·subst h0;rw[bD];exact JY a b 1 w
 ·exact Wu a b c ha hb hc h0 w
theorem Zb(a b c:Int)(ha:qK a)(hb:qK b)(hc:qK c)(w:World):
 Calls Tryz.prog 119 #[Iv a,Iv b,Iv c,Iv 2] w fun e w'=>e= .returned (.tuple #[Iv (qR 2 a b c).1,Iv (qR 2 a b c).2])∧∃n,w'=w.drewN n:=by
 by_cases h0:c=0
 ·subst h0;rw[bD];exact JY a b 2 w
 ·exact cS a b c ha hb hc h0 w
theorem Zs(a b:Int)(ha:qK a)(hb:qK b)(w:World):
 Calls Tryz.prog 123 #[Iv a,Iv b] w fun e w'=>e= .returned (.tuple #[Iv (qR 2 a 1 b).1,Iv (qR 2 a 1 b).2])∧∃n,w'=w.drewN n:=by
 go_enter Tryz.func123,Tryz.ntmps123;go_wp2_with(go_at_call 119;refine(Zb _ _ _ (by first|assumption|exact vw) (by first|assumption|exact vw) DM _).mono ?_;rintro e w' ⟨rfl,m,rfl⟩);go_ret2;exact⟨rfl,_,rfl⟩
theorem vD(a b c:Int)(ha:qK a)(hb:qK b)(hc:qK c)(w:World):
 Calls Tryz.prog 126 #[Iv a,Iv b,Iv c] w fun e w'=>e= .returned (.tuple #[Iv (qR 2 a b c).1,Iv (qR 2 a b c).2])∧∃n,w'=w.drewN n:=by
 go_enter Tryz.func126,Tryz.ntmps126;go_wp2_with(go_at_call 119;refine(Zb _ _ _ (by first|assumption|exact vw) (by first|assumption|exact vw) DM _).mono ?_;rintro e w' ⟨rfl,m,rfl⟩);go_ret2;exact⟨rfl,_,rfl⟩
theorem bc(a b c:Int)(ha:qK a)(hb:qK b)(hc:qK c)(w:World):
 Calls Tryz.prog 53 #[Iv a,Iv b,Iv c] w fun e w'=>e= .returned (.tuple #[Iv (qR 1 a b c).1,Iv (qR 1 a b c).2])∧∃n,w'=w.drewN n:=by
 go_enter Tryz.func53,Tryz.ntmps53;go_wp2_with(go_at_call 119;refine(TG _ _ _ (by first|assumption|exact vw) (by first|assumption|exact vw) DM _).mono ?_;rintro e w' ⟨rfl,m,rfl⟩);go_ret2;exact⟨rfl,_,rfl⟩
theorem xK(a b c:Int)(ha:qK a)(hb:qK b)(hc:qK c)(w:World):
 Calls Tryz.prog 133 #[Iv a,Iv b,Iv c] w fun e w'=>e= .returned (.tuple #[Iv (qR 0 a b c).1,Iv (qR 0 a b c).2])∧∃n,w'=w.drewN n:=by
 go_enter Tryz.func133,Tryz.ntmps133;go_wp2_with(go_at_call 119;refine(Kv _ _ _ (by first|assumption|exact vw) (by first|assumption|exact vw) DM _).mono ?_;rintro e w' ⟨rfl,m,rfl⟩);go_ret2;exact⟨rfl,_,rfl⟩
theorem TH{n r:Int}(hn:0≤n)(hr:0≤r)(h1:r*r≤n)(h2:n<(r+1)*(r+1)):r=vu n.toNat:=by
 have e:=af (n:=n.toNat) (r:=r.toNat) (by
  have:((r.toNat*r.toNat:Nat):Int)≤(n.toNat:Int):=by
   rw[Int.natCast_mul,Int.toNat_of_nonneg hr,Int.toNat_of_nonneg hn];exact h1
  omega) (by
  have:(n.toNat:Int)<(((r.toNat+1)*(r.toNat+1):Nat):Int):=by
   rw[Int.natCast_mul,Int.natCast_add,Int.toNat_of_nonneg hr,Int.toNat_of_nonneg hn];exact h2
  omega)
 rw[e,Int.toNat_of_nonneg hr]
theorem QN(n:Int)(hn:qK n)(w:World):
 Calls Tryz.prog 173 #[Iv n] w fun e w'=>e= .returned (Iv (vu n.toNat))∧w=w':=by
 obtain⟨n1,n2⟩:=hn;by_cases h0:n<0
 ·have e:vu n.toNat=0:=by rw[show n.toNat=0 from by omega];rfl
  go_enter Tryz.func173,Tryz.ntmps173;go_wp2;go_ret;exact⟨qI (by rw[e];rfl),rfl⟩
 ·go_enter Tryz.func173,Tryz.ntmps173;go_wp2;go_loop [3,4] (fun a b=>∃(k:Nat) (p r:Int),a= .int .u64 r∧b= .int .u64 (p/2)∧k≤32∧Hid (p=2^k)∧1≤p∧0≤r∧r+p≤4294967296∧Hid (r*r≤n)∧Hid (n<(r+p)*(r+p))) (fun _ b=>(intOf b).toNat)
  case atStart=>exact⟨32,4294967296,0,rfl,rfl,by omega,rfl,by omega,by omega,by omega,show _≤_ by omega,show _<_ by omega⟩
  case round=>
   obtain⟨k,p,r,rfl,rfl,k1,k2,p1,r0,r1,I1,I2⟩:=hrel;by_cases hk:k=0
   ·subst hk;obtain rfl:p=1:=k2.out;have F:=TH DL r0 I1.out I2.out;have HF:=hide F;clear F;go_wp2;go_ret;exact⟨qI (by rw[←HF.out]),rfl⟩
   ·obtain⟨j,rfl⟩:∃j,k=j+1:=⟨k-1,DL⟩;have e:p=2*2^j:=by rw[k2.out,Int.pow_succ];omega
    obtain⟨b,hb⟩:∃b:Int,b=2^j:=⟨_,rfl⟩;have hb':=hide hb;rw[←hb]at e;have eb:p/2=b:=DL;have b1:1≤b:=DL;rw[show r+p=r+2*b by omega]at I2;have eb2:2*b/2=b:=DL;subst e;clear hb k2 eb;rw[eb2];have w1:IntKind.u64.wrap (r+b)=r+b:=by rw[IntKind.wrap_u64];omega
    have m0:0≤(r+b)*(r+b):=Int.mul_nonneg DL DL;have m1:(r+b)*(r+b)≤4294967295*4294967295:=Int.mul_le_mul DL DL DL DL;have w2:IntKind.u64.wrap ((r+b)*(r+b))=(r+b)*(r+b):=by rw[IntKind.wrap_u64];omega
    have w3:IntKind.u64.wrap n=n:=by rw[IntKind.wrap_u64];omega
    by_cases t:(r+b)*(r+b)≤n
    ·have t':=hide t;go_wp2;go_round
     case rel=>exact⟨j,b,r+b,rfl,rfl,by omega,hb',by omega,by omega,by omega,t',show _<_ by rw[show r+b+b=r+2*b by omega];exact I2.out⟩
     case measure=>simp[intOf];omega
    ·have t':Hid (n<(r+b)*(r+b)):=Int.not_le.1 t;go_wp2;go_round
     case rel=>exact⟨j,b,r,rfl,rfl,by omega,hb',by omega,by omega,by omega,I1,t'⟩
     case measure=>simp[intOf];omega
end Go.Proofs.YtcgpbnlhnafhjaaGreatDoor
