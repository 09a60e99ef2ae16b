/-
  The walks of the reference of layer 1: its rounded quotients and its square root.
-/
import Derived.Test.YtiegohjobhehcaaGreatDoorMScale
namespace Go.Proofs.YtiegohjobhehcaaGreatDoor
open Go.RowKit
set_option linter.unusedVariables false
theorem Wx{n r:Int}(hn:0≤n)(hr:0≤r)(h1:r*r≤n)(h2:n<(r+1)*(r+1)):r=kE n.toNat:=by
 have e:=FU (n:=n.toNat) (r:=r.toNat) (by
  have:((r.toNat*r.toNat:Nat):Int)≤(n.toNat:Int):=by
   rw[Int.natCast_mul,Int.toNat_of_nonneg hr,Int.toNat_of_nonneg hn];exact h1
  omega) (by
  have:(n.toNat:Int)<(((r.toNat+1)*(r.toNat+1):Nat):Int):=by
   rw[Int.natCast_mul,Int.natCast_add,Int.toNat_of_nonneg hr,Int.toNat_of_nonneg hn];exact h2
  omega)
 rw[e,Int.toNat_of_nonneg hr]
set_option maxRecDepth 100000
set_option maxHeartbeats 16000000
theorem sD(a:Int):(Int.tmod a 129600000<0∧Int.tmod a 129600000+129600000=norm a∨0≤Int.tmod a 129600000∧Int.tmod a 129600000=norm a)∧0≤norm a∧norm a<129600000:=by
 unfold norm;have:=Int.tmod_eq_emod (a:=a) (b:=129600000);split at this<;>omega
theorem QS(a b:Int):0≤jl a b∧jl a b<129600000:=jP _
theorem yS(a:Int)(ha:qz a)(w:World):
 Calls Tryz.prog 75 #[Iv a] w fun e w'=>e= .returned (Iv (norm a))∧w=w':=by
 obtain⟨a1,a2⟩:=ha;have T:=hide (sD a);go_enter Tryz.func75,Tryz.ntmps75;go_wp2
 all_goals
  go_ret;exact⟨qQ (by have T:=T.out;first|omega|(unfold wrap64;omega)),rfl⟩
theorem tE(a b:Int)(ha:qz a)(hb:qz b)(w:World):
 Calls Tryz.prog 68 #[Iv a,Iv b] w fun e w'=>e= .returned (Iv (jl a b))∧w=w':=by
 have b1:=jP a;have b2:=jP b;have h:=hide (show jl a b=norm (norm a+norm b)from rfl);generalize jl a b=q at*;go_enter Tryz.func68,Tryz.ntmps68;go_wp2_with(go_at_call 75;refine(yS _ (by first|assumption|(unfold qz;omega)) _).mono ?_;rintro e w' ⟨rfl,rfl⟩);go_ret;exact⟨qQ h.out.symm,rfl⟩
theorem yu(a:Int)(ha:qz a)(w:World):
 Calls Tryz.prog 163 #[Iv a] w fun e w'=>e= .returned (Iv (jl a 64800000))∧w=w':=by
 go_enter Tryz.func163,Tryz.ntmps163;go_wp2_with(go_at_call 68;refine(tE _ _ ha yq _).mono ?_;rintro e w' ⟨rfl,rfl⟩);go_ret;exact⟨rfl,rfl⟩
theorem JN(a b:Int)(ha:qz a)(hb:qz b)(w:World):
 Calls Tryz.prog 98 #[Iv a,Iv b] w fun e w'=>e= .returned (Iv (zN a b))∧w=w':=by
 have b1:=jP a;have b2:=jP b;have b3:=jP (norm b-norm a);have h:=hide (show zN a b=if 64800000<norm (norm b-norm a)then norm (norm b-norm a)-129600000 else norm (norm b-norm a)from rfl);generalize zN a b=q at*;generalize hd:norm (norm b-norm a)=d at*;go_enter Tryz.func98,Tryz.ntmps98;go_wp2_with(go_at_call 75;refine(yS _ (by first|assumption|(unfold qz;omega)) _).mono ?_;rintro e w' ⟨rfl,rfl⟩)
 all_goals
  go_ret;exact⟨qQ (by have h:=h.out;omega),rfl⟩
theorem Tt(a b:Int)(ha:qz a)(hb:qz b)(w:World):
 Calls Tryz.prog 168 #[Iv a,Iv b,.int .u8 2] w fun e w'=>e= .returned (Iv (norm (norm b-norm a)))∧w=w':=by
 have b1:=jP a;have b2:=jP b;go_enter Tryz.func168,Tryz.ntmps168;go_wp2_with(go_at_call 75;refine(yS _ (by first|assumption|(unfold qz;omega)) _).mono ?_;rintro e w' ⟨rfl,rfl⟩);go_ret;exact⟨rfl,rfl⟩
theorem nE(a b:Int)(ha:qz a)(hb:qz b)(w:World):
 Calls Tryz.prog 168 #[Iv a,Iv b,.int .u8 1] w fun e w'=>e= .returned (Iv (norm (norm a-norm b)))∧w=w':=by
 have b1:=jP a;have b2:=jP b;go_enter Tryz.func168,Tryz.ntmps168;go_wp2_with(go_at_call 75;refine(yS _ (by first|assumption|(unfold qz;omega)) _).mono ?_;rintro e w' ⟨rfl,rfl⟩);go_ret;exact⟨rfl,rfl⟩
theorem vk(x y:Int)(hx:0≤x)(hx2:x≤2147483648)(hy:0≤y)(hy2:y≤2147483648)(w:World):
 Calls Tryz.prog 206 #[Iv x,Iv y] w fun e w'=>e= .returned (Iv (zO x y))∧w=w':=by
 have h:=Int.mul_le_mul hx2 hy2 hy qg;have h0:=Int.mul_nonneg hx hy;go_enter Tryz.func206,Tryz.ntmps206;go_wp2;go_ret;exact⟨qQ (by unfold zO;omega),rfl⟩
theorem vo(x n:Int)(hx:0≤x)(hx2:x≤2147483648)(hn:2≤n)(hn2:n≤1000)(w:World):
 Calls Tryz.prog 207 #[Iv x,Iv n] w fun e w'=>e= .returned (Iv (yz x n))∧w=w':=by
 have h1:Int.tdiv (x+n/2) n=(x+n/2)/n:=Int.tdiv_eq_ediv_of_nonneg qg;have h2:Int.tdiv n 2=n/2:=Int.tdiv_eq_ediv_of_nonneg qg;have h3:(n==0)=false:=by simp;omega
 have h4:0≤(x+n/2)/n:=Int.ediv_nonneg qg qg;have h5:=Int.ediv_le_self n (show 0≤x+n/2 by omega);go_enter Tryz.func207,Tryz.ntmps207;go_wp2;go_ret;exact⟨qQ (by unfold yz;omega),rfl⟩
theorem Wy(a:Int)(h:0≤a)(h2:a≤16200000)(w:World):
 Calls Tryz.prog 164 #[Iv a] w fun e w'=>e= .returned (Iv (QN a))∧w=w':=by
 have tb:=YO h h2;have ub:=QO tb.1 tb.2;have b1:=pg ub.1 ub.2;have b2:=pu ub.1 ub.2;have b3:=pw ub.1 ub.2;have b4:=pz ub.1 ub.2;have b5:=Ka ub.1 ub.2;have fin:=hide (show QN a=(zO (tA a) (ZB (zO (tA a) (tA a)))+1)/2 from rfl);generalize QN a=q at*;have ht:(a*6746518852+32400000)/64800000=tA a:=rfl;generalize tA a=t at*;obtain⟨u,hu⟩:∃u,zO t t=u:=⟨_,rfl⟩;rw[hu]at ub b1 b2 b3 b4 b5;have e1:=hide (show fY u=2147483648-yz u 110 from rfl);have e2:=hide (show fZ u=2147483648-yz (zO u (fY u)) 72 from rfl);have e3:=hide (show ra u=2147483648-yz (zO u (fZ u)) 42 from rfl);have e4:=hide (show dz u=2147483648-yz (zO u (ra u)) 20 from rfl);have e5:=hide (show ZB u=2147483648-yz (zO u (dz u)) 6 from rfl);obtain⟨c1,d1⟩:=b1;obtain⟨c2,d2⟩:=b2;obtain⟨c3,d3⟩:=b3;obtain⟨c4,d4⟩:=b4;obtain⟨c5,d5⟩:=b5;obtain⟨t1,t2⟩:=tb;obtain⟨u1,u2⟩:=ub;have fin2:Hid (q=(zO t (ZB u)+1)/2):=hide (by rw[fin.out,hu]);clear fin;generalize hr5:ZB u=r5 at*;generalize hr4:dz u=r4 at*;generalize hr3:ra u=r3 at*;generalize hr2:fZ u=r2 at*;generalize hr1:fY u=r1 at*;have m1:=yU u1 (show 0≤r1 by omega) d1;have m2:=yU u1 (show 0≤r2 by omega) d2;have m3:=yU u1 (show 0≤r3 by omega) d3;have m4:=yU u1 (show 0≤r4 by omega) d4;have m5:=yU t1 (show 0≤r5 by omega) d5;clear hr1 hr2 hr3 hr4 hr5;have i0:∀w:World,(Instr.index 279 (.agg #[Iv 110,Iv 72,Iv 42,Iv 20,Iv 6]) (Iv 0)).run Tryz.prog w= .ok (Iv 110) w:=fun _=>by kernel_rfl
 have i1:∀w:World,(Instr.index 279 (.agg #[Iv 110,Iv 72,Iv 42,Iv 20,Iv 6]) (Iv 1)).run Tryz.prog w= .ok (Iv 72) w:=fun _=>by kernel_rfl
 have i2:∀w:World,(Instr.index 279 (.agg #[Iv 110,Iv 72,Iv 42,Iv 20,Iv 6]) (Iv 2)).run Tryz.prog w= .ok (Iv 42) w:=fun _=>by kernel_rfl
 have i3:∀w:World,(Instr.index 279 (.agg #[Iv 110,Iv 72,Iv 42,Iv 20,Iv 6]) (Iv 3)).run Tryz.prog w= .ok (Iv 20) w:=fun _=>by kernel_rfl
 have i4:∀w:World,(Instr.index 279 (.agg #[Iv 110,Iv 72,Iv 42,Iv 20,Iv 6]) (Iv 4)).run Tryz.prog w= .ok (Iv 6) w:=fun _=>by kernel_rfl
 go_enter Tryz.func164,Tryz.ntmps164;go_wp2_with(first|(go_at_call 206;refine(vk _ _ qg qg qg qg _).mono ?_;rintro e w' ⟨rfl,rfl⟩)|(go_at_call 207;refine(vo _ _ qg qg qg qg _).mono ?_;rintro e w' ⟨rfl,rfl⟩));go_loop [17,5] (fun a b=>∃i r:Int,a=Iv i∧b=Iv r∧((i=0∧r=2147483648)∨(i=1∧r=r1)∨(i=2∧r=r2)∨(i=3∧r=r3)∨(i=4∧r=r4)∨(i=5∧r=r5))) (fun a _=>5-(intOf a).toNat)
 case atStart=>exact⟨0,2147483648,rfl,rfl,.inl ⟨rfl,rfl⟩⟩
 case round=>
  obtain⟨i,r,rfl,rfl,⟨rfl,rfl⟩|⟨rfl,rfl⟩|⟨rfl,rfl⟩|⟨rfl,rfl⟩|⟨rfl,rfl⟩|⟨rfl,rfl⟩⟩:=hrel
  ·have e:=e1.out;have ew:wrap64 (2147483648-yz u 110)=r1:=by rw[←e];unfold wrap64;omega
   have E:=hide e;go_wp2_with(first|(go_at_call 206;refine(vk _ _ qg qg qg qg _).mono ?_;rintro e w' ⟨rfl,rfl⟩)|(go_at_call 207;refine(vo _ _ qg qg qg qg _).mono ?_;rintro e w' ⟨rfl,rfl⟩));go_round
   case rel=>exact⟨1,r1,rfl,by first|rfl|rw[E.out]|rw[ew],jL⟩
   case measure=>simp[intOf]
  ·have e:=e2.out;have ew:wrap64 (2147483648-yz (zO u r) 72)=r2:=by rw[←e];unfold wrap64;omega
   have E:=hide e;go_wp2_with(first|(go_at_call 206;refine(vk _ _ qg qg qg qg _).mono ?_;rintro e w' ⟨rfl,rfl⟩)|(go_at_call 207;refine(vo _ _ qg qg qg qg _).mono ?_;rintro e w' ⟨rfl,rfl⟩));go_round
   case rel=>exact⟨2,r2,rfl,by first|rfl|rw[E.out]|rw[ew],jL⟩
   case measure=>simp[intOf]
  ·have e:=e3.out;have ew:wrap64 (2147483648-yz (zO u r) 42)=r3:=by rw[←e];unfold wrap64;omega
   have E:=hide e;go_wp2_with(first|(go_at_call 206;refine(vk _ _ qg qg qg qg _).mono ?_;rintro e w' ⟨rfl,rfl⟩)|(go_at_call 207;refine(vo _ _ qg qg qg qg _).mono ?_;rintro e w' ⟨rfl,rfl⟩));go_round
   case rel=>exact⟨3,r3,rfl,by first|rfl|rw[E.out]|rw[ew],jL⟩
   case measure=>simp[intOf]
  ·have e:=e4.out;have ew:wrap64 (2147483648-yz (zO u r) 20)=r4:=by rw[←e];unfold wrap64;omega
   have E:=hide e;go_wp2_with(first|(go_at_call 206;refine(vk _ _ qg qg qg qg _).mono ?_;rintro e w' ⟨rfl,rfl⟩)|(go_at_call 207;refine(vo _ _ qg qg qg qg _).mono ?_;rintro e w' ⟨rfl,rfl⟩));go_round
   case rel=>exact⟨4,r4,rfl,by first|rfl|rw[E.out]|rw[ew],jL⟩
   case measure=>simp[intOf]
  ·have e:=e5.out;have ew:wrap64 (2147483648-yz (zO u r) 6)=r5:=by rw[←e];unfold wrap64;omega
   have E:=hide e;go_wp2_with(first|(go_at_call 206;refine(vk _ _ qg qg qg qg _).mono ?_;rintro e w' ⟨rfl,rfl⟩)|(go_at_call 207;refine(vo _ _ qg qg qg qg _).mono ?_;rintro e w' ⟨rfl,rfl⟩));go_round
   case rel=>exact⟨5,r5,rfl,by first|rfl|rw[E.out]|rw[ew],jL⟩
   case measure=>simp[intOf]
  ·go_wp2_with(first|(go_at_call 206;refine(vk _ _ qg qg qg qg _).mono ?_;rintro e w' ⟨rfl,rfl⟩)|(go_at_call 207;refine(vo _ _ qg qg qg qg _).mono ?_;rintro e w' ⟨rfl,rfl⟩));go_ret;exact⟨qQ (by rw[fin2.out]),rfl⟩
theorem nG(a:Int)(h:0≤a)(h2:a≤16200000)(w:World):
 Calls Tryz.prog 165 #[Iv a] w fun e w'=>e= .returned (Iv (kF a))∧w=w':=by
 have tb:=YO h h2;have ub:=QO tb.1 tb.2;have b1:=pC ub.1 ub.2;have b2:=pD ub.1 ub.2;have b3:=pE ub.1 ub.2;have b4:=pF ub.1 ub.2;have b5:=FX ub.1 ub.2;have fin:=hide (show kF a=(Yr (zO (tA a) (tA a))+1)/2 from rfl);generalize kF a=q at*;have ht:(a*6746518852+32400000)/64800000=tA a:=rfl;generalize tA a=t at*;obtain⟨u,hu⟩:∃u,zO t t=u:=⟨_,rfl⟩;rw[hu]at ub b1 b2 b3 b4 b5;have e1:=hide (show rj u=2147483648-yz u 90 from rfl);have e2:=hide (show ru u=2147483648-yz (zO u (rj u)) 56 from rfl);have e3:=hide (show rv u=2147483648-yz (zO u (ru u)) 30 from rfl);have e4:=hide (show ry u=2147483648-yz (zO u (rv u)) 12 from rfl);have e5:=hide (show Yr u=2147483648-yz (zO u (ry u)) 2 from rfl);obtain⟨c1,d1⟩:=b1;obtain⟨c2,d2⟩:=b2;obtain⟨c3,d3⟩:=b3;obtain⟨c4,d4⟩:=b4;obtain⟨c5,d5⟩:=b5;obtain⟨t1,t2⟩:=tb;obtain⟨u1,u2⟩:=ub;have fin2:Hid (q=(Yr u+1)/2):=hide (by rw[fin.out,hu]);clear fin;generalize hr5:Yr u=r5 at*;generalize hr4:ry u=r4 at*;generalize hr3:rv u=r3 at*;generalize hr2:ru u=r2 at*;generalize hr1:rj u=r1 at*;have m1:=yU u1 (show 0≤r1 by omega) d1;have m2:=yU u1 (show 0≤r2 by omega) d2;have m3:=yU u1 (show 0≤r3 by omega) d3;have m4:=yU u1 (show 0≤r4 by omega) d4;have m5:=yU t1 (show 0≤r5 by omega) d5;clear hr1 hr2 hr3 hr4 hr5;have i0:∀w:World,(Instr.index 279 (.agg #[Iv 90,Iv 56,Iv 30,Iv 12,Iv 2]) (Iv 0)).run Tryz.prog w= .ok (Iv 90) w:=fun _=>by kernel_rfl
 have i1:∀w:World,(Instr.index 279 (.agg #[Iv 90,Iv 56,Iv 30,Iv 12,Iv 2]) (Iv 1)).run Tryz.prog w= .ok (Iv 56) w:=fun _=>by kernel_rfl
 have i2:∀w:World,(Instr.index 279 (.agg #[Iv 90,Iv 56,Iv 30,Iv 12,Iv 2]) (Iv 2)).run Tryz.prog w= .ok (Iv 30) w:=fun _=>by kernel_rfl
 have i3:∀w:World,(Instr.index 279 (.agg #[Iv 90,Iv 56,Iv 30,Iv 12,Iv 2]) (Iv 3)).run Tryz.prog w= .ok (Iv 12) w:=fun _=>by kernel_rfl
 have i4:∀w:World,(Instr.index 279 (.agg #[Iv 90,Iv 56,Iv 30,Iv 12,Iv 2]) (Iv 4)).run Tryz.prog w= .ok (Iv 2) w:=fun _=>by kernel_rfl
 go_enter Tryz.func165,Tryz.ntmps165;go_wp2_with(first|(go_at_call 206;refine(vk _ _ qg qg qg qg _).mono ?_;rintro e w' ⟨rfl,rfl⟩)|(go_at_call 207;refine(vo _ _ qg qg qg qg _).mono ?_;rintro e w' ⟨rfl,rfl⟩));go_loop [17,5] (fun a b=>∃i r:Int,a=Iv i∧b=Iv r∧((i=0∧r=2147483648)∨(i=1∧r=r1)∨(i=2∧r=r2)∨(i=3∧r=r3)∨(i=4∧r=r4)∨(i=5∧r=r5))) (fun a _=>5-(intOf a).toNat)
 case atStart=>exact⟨0,2147483648,rfl,rfl,.inl ⟨rfl,rfl⟩⟩
 case round=>
  obtain⟨i,r,rfl,rfl,⟨rfl,rfl⟩|⟨rfl,rfl⟩|⟨rfl,rfl⟩|⟨rfl,rfl⟩|⟨rfl,rfl⟩|⟨rfl,rfl⟩⟩:=hrel
  ·have e:=e1.out;have ew:wrap64 (2147483648-yz u 90)=r1:=by rw[←e];unfold wrap64;omega
   have E:=hide e;go_wp2_with(first|(go_at_call 206;refine(vk _ _ qg qg qg qg _).mono ?_;rintro e w' ⟨rfl,rfl⟩)|(go_at_call 207;refine(vo _ _ qg qg qg qg _).mono ?_;rintro e w' ⟨rfl,rfl⟩));go_round
   case rel=>exact⟨1,r1,rfl,by first|rfl|rw[E.out]|rw[ew],jL⟩
   case measure=>simp[intOf]
  ·have e:=e2.out;have ew:wrap64 (2147483648-yz (zO u r) 56)=r2:=by rw[←e];unfold wrap64;omega
   have E:=hide e;go_wp2_with(first|(go_at_call 206;refine(vk _ _ qg qg qg qg _).mono ?_;rintro e w' ⟨rfl,rfl⟩)|(go_at_call 207;refine(vo _ _ qg qg qg qg _).mono ?_;rintro e w' ⟨rfl,rfl⟩));go_round
   case rel=>exact⟨2,r2,rfl,by first|rfl|rw[E.out]|rw[ew],jL⟩
   case measure=>simp[intOf]
  ·have e:=e3.out;have ew:wrap64 (2147483648-yz (zO u r) 30)=r3:=by rw[←e];unfold wrap64;omega
   have E:=hide e;go_wp2_with(first|(go_at_call 206;refine(vk _ _ qg qg qg qg _).mono ?_;rintro e w' ⟨rfl,rfl⟩)|(go_at_call 207;refine(vo _ _ qg qg qg qg _).mono ?_;rintro e w' ⟨rfl,rfl⟩));go_round
   case rel=>exact⟨3,r3,rfl,by first|rfl|rw[E.out]|rw[ew],jL⟩
   case measure=>simp[intOf]
  ·have e:=e4.out;have ew:wrap64 (2147483648-yz (zO u r) 12)=r4:=by rw[←e];unfold wrap64;omega
   have E:=hide e;go_wp2_with(first|(go_at_call 206;refine(vk _ _ qg qg qg qg _).mono ?_;rintro e w' ⟨rfl,rfl⟩)|(go_at_call 207;refine(vo _ _ qg qg qg qg _).mono ?_;rintro e w' ⟨rfl,rfl⟩));go_round
   case rel=>exact⟨4,r4,rfl,by first|rfl|rw[E.out]|rw[ew],jL⟩
   case measure=>simp[intOf]
  ·have e:=e5.out;have ew:wrap64 (2147483648-yz (zO u r) 2)=r5:=by rw[←e];unfold wrap64;omega
   have E:=hide e;go_wp2_with(first|(go_at_call 206;refine(vk _ _ qg qg qg qg _).mono ?_;rintro e w' ⟨rfl,rfl⟩)|(go_at_call 207;refine(vo _ _ qg qg qg qg _).mono ?_;rintro e w' ⟨rfl,rfl⟩));go_round
   case rel=>exact⟨5,r5,rfl,by first|rfl|rw[E.out]|rw[ew],jL⟩
   case measure=>simp[intOf]
  ·go_wp2_with(first|(go_at_call 206;refine(vk _ _ qg qg qg qg _).mono ?_;rintro e w' ⟨rfl,rfl⟩)|(go_at_call 207;refine(vo _ _ qg qg qg qg _).mono ?_;rintro e w' ⟨rfl,rfl⟩));go_ret;exact⟨qQ (by rw[fin2.out]),rfl⟩
theorem tS(a:Int)(h:0≤a)(h2:a≤32400000)(w:World):
 Calls Tryz.prog 89 #[Iv a] w fun e w'=>e= .returned (Iv (gj a))∧w=w':=by
 have hq:=hide (show gj a=if a≤16200000 then QN a else kF (32400000-a)from rfl);generalize gj a=q at*;by_cases t:a≤16200000
 all_goals
  go_enter Tryz.func89,Tryz.ntmps89;go_wp2_with(first|(go_at_call 164;refine(Wy _ qg qg _).mono ?_;rintro e w' ⟨rfl,rfl⟩)|(go_at_call 165;refine(nG _ qg qg _).mono ?_;rintro e w' ⟨rfl,rfl⟩));go_ret;exact⟨qQ (by rw[hq.out];first|rw[if_pos qg]|rw[if_neg qg]),rfl⟩
theorem Qg(a:Int)(ha:qz a)(w:World):
 Calls Tryz.prog 36 #[Iv a] w fun e w'=>e= .returned (Iv (yJ a))∧w=w':=by
 have nb:=jP a;have hq:=hide (show yJ a=if norm a≤32400000 then gj (norm a)else if norm a≤64800000 then gj (64800000-norm a)else if norm a≤97200000 then-gj (norm a-64800000)else-gj (129600000-norm a)from rfl);have na:=fun w=>yS a ha w
 have qb:∀x,0≤x→x≤32400000→0≤gj x∧gj x≤1073741824:=fun x h1 h2=>Zn h1 h2
 have QB:=hide qb;clear qb;generalize norm a=b at*;generalize yJ a=q at*;obtain⟨nb1,nb2⟩:=nb;by_cases t1:b≤32400000
 ·go_enter Tryz.func36,Tryz.ntmps36;go_wp2_with(first|(go_at_call 75;refine(na _).mono ?_;rintro e w' ⟨rfl,rfl⟩)|(go_at_call 89;refine(tS _ qg qg _).mono ?_;rintro e w' ⟨rfl,rfl⟩));go_ret;exact⟨qQ (by rw[hq.out];rw[if_pos qg]),rfl⟩
 ·by_cases t2:b≤64800000
  ·go_enter Tryz.func36,Tryz.ntmps36;go_wp2_with(first|(go_at_call 75;refine(na _).mono ?_;rintro e w' ⟨rfl,rfl⟩)|(go_at_call 89;refine(tS _ qg qg _).mono ?_;rintro e w' ⟨rfl,rfl⟩));go_ret;exact⟨qQ (by rw[hq.out];rw[if_neg qg,if_pos qg]),rfl⟩
  ·by_cases t3:b≤97200000
   ·have Q:=QB.out (b-64800000) qg qg;go_enter Tryz.func36,Tryz.ntmps36;go_wp2_with(first|(go_at_call 75;refine(na _).mono ?_;rintro e w' ⟨rfl,rfl⟩)|(go_at_call 89;refine(tS _ qg qg _).mono ?_;rintro e w' ⟨rfl,rfl⟩));go_ret;exact⟨qQ (by rw[hq.out];rw[if_neg qg,if_neg qg,if_pos qg]),rfl⟩
   ·have Q:=QB.out (129600000-b) qg qg;go_enter Tryz.func36,Tryz.ntmps36;go_wp2_with(first|(go_at_call 75;refine(na _).mono ?_;rintro e w' ⟨rfl,rfl⟩)|(go_at_call 89;refine(tS _ qg qg _).mono ?_;rintro e w' ⟨rfl,rfl⟩));go_ret;exact⟨qQ (by rw[hq.out];rw[if_neg qg,if_neg qg,if_neg qg]),rfl⟩
theorem Zs(a:Int)(ha:qz a)(w:World):
 Calls Tryz.prog 37 #[Iv a] w fun e w'=>e= .returned (Iv (vT a))∧w=w':=by
 have tb:=QS a 32400000;go_enter Tryz.func37,Tryz.ntmps37;go_wp2_with(first|(go_at_call 68;refine(tE _ _ ha yq _).mono ?_;rintro e w' ⟨rfl,rfl⟩)|(go_at_call 36;refine(Qg _ yq _).mono ?_;rintro e w' ⟨rfl,rfl⟩));go_ret;exact⟨rfl,rfl⟩
theorem Wz(i j:Int)(h0:0≤i)(h1:i<j)(h2:j≤1099511627776):i≤(i+j)/2∧(i+j)/2<j:=qg
theorem Bz(n:Int)(hn:0≤n)(hn2:n≤1099511627776)(b:Nat)(p:Int→Bool)(W:World)
 (hf:∀h k,0≤h→h<n→Calls Tryz.prog 146 #[Iv h,.pointer (some ⟨b,0,none⟩)] (W.drewN k) fun e w'=>e= .returned (.bool (p h))∧∃m,w'=W.drewN m):
 Calls Tryz.prog 145 #[Iv n,.func (.func 146) #[] #[.pointer (some ⟨b,0,none⟩)]] W fun e w'=>
  ∃r,e= .returned (Iv r)∧0≤r∧r≤n∧(r=n∨p r=true)∧(r=0∨p (r-1)=false)∧∃m,w'=W.drewN m:=by
 go_enter Tryz.func145,Tryz.ntmps145;go_wp2;go_loopw [5,6] (fun a c wr=>∃(i j:Int) (k:Nat),a=Iv i∧c=Iv j∧0≤i∧i≤j∧j≤n∧Hid (j=n∨p j=true)∧Hid (i=0∨p (i-1)=false)∧wr=W.drewN k) (fun a c _=>(intOf c-intOf a).toNat)
 case atStart=>exact⟨0,n,0,rfl,rfl,by omega,hn,by omega,.inl rfl,.inl rfl,rfl⟩
 case round=>
  obtain⟨i,j,k,rfl,rfl,i0,i1,j1,J,I,rfl⟩:=hrel;by_cases t:i<j
  ·obtain⟨h1,h2⟩:=Wz i j i0 t qg;have eh:wrap64 (IntKind.u64.wrap (i+j)/2)=(i+j)/2:=by rw[IntKind.wrap_u64];unfold wrap64;omega
   have C:=hf ((i+j)/2) k qg qg
   cases hp:p ((i+j)/2)with
   |true=>
    rw[hp]at C;have HP:=hide hp;clear hp;go_wp2_with(go_at_call 146;refine C.mono ?_;rintro e w' ⟨rfl,m,rfl⟩);go_roundw
    case rel=>exact⟨i,(i+j)/2,m,rfl,rfl,i0,h1,by omega,.inr HP.out,I,rfl⟩
    case measure=>simp[intOf];omega
   |false=>
    rw[hp]at C;have HP:=hide hp;clear hp;go_wp2_with(go_at_call 146;refine C.mono ?_;rintro e w' ⟨rfl,m,rfl⟩);go_roundw
    case rel=>exact⟨(i+j)/2+1,j,m,rfl,rfl,by omega,by omega,j1,J,.inr (by rw[show(i+j)/2+1-1=(i+j)/2 by omega];exact HP.out),rfl⟩
    case measure=>simp[intOf];omega
  ·obtain rfl:i=j:=qg;go_wp2;go_ret;exact⟨i,rfl,i0,j1,J.out,I.out,k,rfl⟩
def BB(m n c:Int):Bool:=decide (yJ c*m≤vT c*n)
theorem sF(c m n:Int)(c0:0≤c)(c1:c≤16200000)(m0:0≤m)(m1:m≤2147483647)(n0:0≤n)(n1:n≤2147483647)(bm bn:Nat)(w:World)
 (hm:w.cell? ⟨bm,0,none⟩=some (Iv m)) (hn:w.cell? ⟨bn,0,none⟩=some (Iv n)):
 Calls Tryz.prog 74 #[Iv c,.pointer (some ⟨bm,0,none⟩),.pointer (some ⟨bn,0,none⟩)] w fun e w'=>e= .returned (.bool (BB m n c))∧∃k,w'=w.drewN k:=by
 have sb:=Qc c;have cb:=Ja c;have hc:qz c:=yq;have p1:yJ c*m≤1073741824*m:=Int.mul_le_mul_of_nonneg_right sb.2 m0;have p2: -1073741824*m≤yJ c*m:=Int.mul_le_mul_of_nonneg_right sb.1 m0;have p3:vT c*n≤1073741824*n:=Int.mul_le_mul_of_nonneg_right cb.2 n0;have p4: -1073741824*n≤vT c*n:=Int.mul_le_mul_of_nonneg_right cb.1 n0;have q1:yJ c*m≤2305843008139952128:=qg;have q2: -2305843008139952128≤yJ c*m:=qg;have q3:vT c*n≤2305843008139952128:=qg;have q4: -2305843008139952128≤vT c*n:=qg;clear p1 p2 p3 p4;have h:=hide (show BB m n c=decide (yJ c*m≤vT c*n)from rfl);generalize BB m n c=q at*;go_enter Tryz.func74,Tryz.ntmps74;go_wp2_with fail;go_quiet ((first|(go_at_call 36;exact dY (Qg c hc _))|(go_at_call 37;exact dY (Zs c hc _))));go_wp2_with fail;go_ret;exact⟨vG h.out.symm,_,rfl⟩
theorem BC(h m n:Int)(c0:0≤h)(c1:h<16200000)(m0:0≤m)(m1:m≤2147483647)(n0:0≤n)(n1:n≤2147483647)(b bm bn:Nat)(w:World)
 (hb:w.cell? ⟨b,0,none⟩=some (.func (.func 74) #[] #[.pointer (some ⟨bm,0,none⟩),.pointer (some ⟨bn,0,none⟩)]))
 (hm:w.cell? ⟨bm,0,none⟩=some (Iv m)) (hn:w.cell? ⟨bn,0,none⟩=some (Iv n)):
 Calls Tryz.prog 146 #[Iv h,.pointer (some ⟨b,0,none⟩)] w fun e w'=>e= .returned (.bool (!BB m n (h+1)))∧∃k,w'=w.drewN k:=by
 go_enter Tryz.func146,Tryz.ntmps146;go_wp2_with(go_at_call 74;refine(sF (h+1) m n qg qg m0 m1 n0 n1 bm bn _ hm hn).mono ?_;rintro e w' ⟨rfl,k,rfl⟩);go_ret;exact⟨rfl,_,rfl⟩
theorem MQ{m n r:Int}(m0:0≤m)(n0:0≤n)(r0:0≤r)(r1:r≤16200000)(h1:r=16200000∨(!BB m n (r+1))=true)(h2:r=0∨(!BB m n (r-1+1))=false):r=Qr m n:=by
 obtain⟨g,hg,g1,g2,g3⟩:=Ug m n;rw[hg];have hn:=pG;obtain⟨k,rfl⟩:=Int.eq_ofNat_of_zero_le r0;rcases Nat.lt_trichotomy g k with h|h|h
 ·exfalso;rcases h2 with h2|h2
  ·have:k=0:=by exact_mod_cast h2
   omega
  ·have e:=g3 k h qg;rw[show(k:Int)-1+1=(k:Int) by omega]at h2;have e2:BB m n (k:Int)=Ml m n k:=rfl;rw[e2,e]at h2;exact absurd h2 qG
 ·rw[h]
 ·exfalso;rcases h1 with h1|h1
  ·omega
  ·rcases g2 with g2|g2
   ·omega
   ·have e:=lK m0 n0 (c:=k+1) (d:=g) qg qg g2;have e2:BB m n ((k:Int)+1)=Ml m n (k+1):=rfl;rw[e2,e]at h1;exact absurd h1 qG
theorem JP(m n:Int)(m0:0≤m)(m1:m≤2147483647)(n0:0≤n)(n1:n≤2147483647)(bm bn:Nat)(w:World)
 (hbm:bm<w.heap.size) (hbn:bn<w.heap.size)
 (hm:w.cell? ⟨bm,0,none⟩=some (Iv m)) (hn:w.cell? ⟨bn,0,none⟩=some (Iv n)):
 Calls Tryz.prog 73 #[Iv 16200000,.func (.func 74) #[] #[.pointer (some ⟨bm,0,none⟩),.pointer (some ⟨bn,0,none⟩)]] w fun e w'=>e= .returned (Iv (Qr m n))∧Below w.heap.size w w':=by
 have hb1:(w.alloc (.cells #[.func (.func 74) #[] #[.pointer (some ⟨bm,0,none⟩),.pointer (some ⟨bn,0,none⟩)]] 111)).cell? ⟨w.heap.size,0,none⟩=some (.func (.func 74) #[] #[.pointer (some ⟨bm,0,none⟩),.pointer (some ⟨bn,0,none⟩)]):=by
  simp
 have hm1:(w.alloc (.cells #[.func (.func 74) #[] #[.pointer (some ⟨bm,0,none⟩),.pointer (some ⟨bn,0,none⟩)]] 111)).cell? ⟨bm,0,none⟩=some (Iv m):=by
  rw[World.cell?_alloc_past _ _ _ hbm];exact hm
 have hn1:(w.alloc (.cells #[.func (.func 74) #[] #[.pointer (some ⟨bm,0,none⟩),.pointer (some ⟨bn,0,none⟩)]] 111)).cell? ⟨bn,0,none⟩=some (Iv n):=by
  rw[World.cell?_alloc_past _ _ _ hbn];exact hn
 have hB:Below w.heap.size w (w.alloc (.cells #[.func (.func 74) #[] #[.pointer (some ⟨bm,0,none⟩),.pointer (some ⟨bn,0,none⟩)]] 111)):=(Below.refl _ _).alloc (Nat.le_refl _) _
 have S:=Bz 16200000 qg qg w.heap.size (fun h=> !BB m n (h+1)) (w.alloc (.cells #[.func (.func 74) #[] #[.pointer (some ⟨bm,0,none⟩),.pointer (some ⟨bn,0,none⟩)]] 111))
  (fun h k h0 h1=>(BC h m n h0 h1 m0 m1 n0 n1 w.heap.size bm bn ((w.alloc (.cells #[.func (.func 74) #[] #[.pointer (some ⟨bm,0,none⟩),.pointer (some ⟨bn,0,none⟩)]] 111)).drewN k) hb1 hm1 hn1).mono (by rintro e w' ⟨rfl,j,rfl⟩;exact⟨rfl,_,World.drewN_drewN _ _ _⟩))
 have HB:=hide hB;have HS:=hide S;clear hB S hb1 hm1 hn1;go_enter Tryz.func73,Tryz.ntmps73;go_wp2_with(go_at_call 145;refine HS.out.mono ?_;rintro e w' ⟨r,rfl,r0,r1,r2,r3,k,rfl⟩;have R:=hide (MQ m0 n0 r0 r1 r2 r3);clear r2 r3);go_ret;exact⟨qQ R.out,below_drewN HB.out _⟩
theorem WB(x:Int)(h: -2147483647≤x)(h2:x≤2147483647)(w:World):
 Calls Tryz.prog 72 #[Iv x] w fun e w'=>e= .returned (.bool false)∧w=w':=by
 go_enter Tryz.func72,Tryz.ntmps72;go_wp2
 all_goals
  go_ret;exact⟨vG (by simp;omega),rfl⟩
theorem nH(y x:Int)(A B:Int)(hA:(x.natAbs:Int)=A)(hB:(y.natAbs:Int)=B)(C:Int)(hC:C=Qr (if A<B then B else A) (if A<B then A else B))(Q:Int)(hQ:Q=if A<B then 32400000-C else C):Q=gY y x:=by
 rw[hQ,hC];unfold gY;by_cases h:A<B
 ·rw[if_pos h,if_pos h,if_pos h,if_pos qg,hA,hB]
 ·rw[if_neg h,if_neg h,if_neg h,if_neg qg,hA,hB]
theorem Yz(y x:Int)(hy: -2147483647≤y)(hy2:y≤2147483647)(hx: -2147483647≤x)(hx2:x≤2147483647)(h0:¬(x=0∧y=0))(w:World):
 Calls Tryz.prog 28 #[Iv y,Iv x] w fun e w'=>e= .returned (.tuple #[Iv (yQ y x),Iv 0])∧Below w.heap.size w w':=by
 have T:((x==0)=true∧(y==0)=false)∨(x==0)=false:=by
  by_cases hx0:x=0
  ·left;simp[hx0];intro hy0;exact h0 ⟨hx0,hy0⟩
  ·right;simp[hx0]
 clear h0;have bx:(x.natAbs:Int)≤2147483647∧0≤(x.natAbs:Int):=qg;have b_y:(y.natAbs:Int)≤2147483647∧0≤(y.natAbs:Int):=qg;have ax:=fun w=>kV x yq qg w
 have ay:=fun w=>kV y yq qg w
 have WY:=nH y x;have F:Hid (yQ y x=if 0≤y then(if 0≤x then gY y x else 64800000-gY y x)else if x<0 then 64800000+gY y x else norm (-gY y x)):=hide rfl;generalize hA:(x.natAbs:Int)=A at*;generalize hB:(y.natAbs:Int)=B at*;obtain⟨Q,hQ⟩:∃Q,Q=gY y x:=⟨_,rfl⟩;have qb:=GH y x;rw[←hQ]at F qb;have W0:=hide (fun C hC Q' hQ'=>(WY A B rfl rfl C hC Q' hQ').trans hQ.symm);clear WY hQ hA hB;generalize yQ y x=R at*;obtain⟨a1,a0⟩:=bx;obtain⟨b1,b0⟩:=b_y;obtain⟨qb0,qb1⟩:=qb;have ax:=hide ax;have ay:=hide ay;by_cases t:A<B
 ·have cb:=JF B A;have mx:max A B=B:=qg;have mn:min A B=A:=qg;have G:=fun bm bn w hbm hbn hm hn=>JP B A qg qg qg qg bm bn w hbm hbn hm hn
  have G:=hide G;generalize hC:Qr B A=C at*;have e:32400000-C=Q:=W0.out C (by rw[if_pos t,if_pos t];exact hC.symm) _ (by rw[if_pos t]);have E:=hide e;clear e W0 hC;rcases T with⟨T1,T2⟩|T1
  all_goals by_cases s1:0≤x
  all_goals by_cases s2:0≤y
  all_goals
   go_enter Tryz.func28,Tryz.ntmps28;go_wp2_with(go_at_call 72;refine(WB _ qg qg _).mono ?_;rintro e w' ⟨rfl,rfl⟩);refine(ax.out _).mono ?_;rintro e w' ⟨rfl,rfl⟩;go_wp2_with fail;refine(ay.out _).mono ?_;rintro e w' ⟨rfl,rfl⟩;go_wp2_with fail;refine(G.out _ _ _ (by simp<;>omega) (by simp<;>omega) (by simp;done) (by simp;done)).mono ?_;rintro e w' ⟨rfl,hb⟩;have HB:=hide hb;clear hb;go_wp2_with(go_at_call 75;refine(yS _ yq _).mono ?_;rintro e w' ⟨rfl,rfl⟩)
  all_goals
   go_ret2;refine⟨tF ?_ rfl,((((Below.refl _ _).alloc (Nat.le_refl _) _).alloc jL _).trans (HB.out.mono (by simp<;>omega)))⟩;rw[F.out,←E.out]
   first|rw[if_pos (show 0≤y by omega),if_pos (show 0≤x by omega)]|rw[if_pos (show 0≤y by omega),if_neg (show¬0≤x by omega)]|rw[if_neg (show¬0≤y by omega),if_pos (show x<0 by omega)]|rw[if_neg (show¬0≤y by omega),if_neg (show¬x<0 by omega)]
 ·have cb:=JF A B;have mx:max A B=A:=qg;have mn:min A B=B:=qg;have G:=fun bm bn w hbm hbn hm hn=>JP A B qg qg qg qg bm bn w hbm hbn hm hn
  have G:=hide G;generalize hC:Qr A B=C at*;have e:C=Q:=W0.out C (by rw[if_neg t,if_neg t];exact hC.symm) _ (by rw[if_neg t]);have E:=hide e;clear e W0 hC;rcases T with⟨T1,T2⟩|T1
  all_goals by_cases s1:0≤x
  all_goals by_cases s2:0≤y
  all_goals
   go_enter Tryz.func28,Tryz.ntmps28;go_wp2_with(go_at_call 72;refine(WB _ qg qg _).mono ?_;rintro e w' ⟨rfl,rfl⟩);refine(ax.out _).mono ?_;rintro e w' ⟨rfl,rfl⟩;go_wp2_with fail;refine(ay.out _).mono ?_;rintro e w' ⟨rfl,rfl⟩;go_wp2_with fail;refine(G.out _ _ _ (by simp<;>omega) (by simp<;>omega) (by simp;done) (by simp;done)).mono ?_;rintro e w' ⟨rfl,hb⟩;have HB:=hide hb;clear hb;go_wp2_with(go_at_call 75;refine(yS _ yq _).mono ?_;rintro e w' ⟨rfl,rfl⟩)
  all_goals
   go_ret2;refine⟨tF ?_ rfl,((((Below.refl _ _).alloc (Nat.le_refl _) _).alloc jL _).trans (HB.out.mono (by simp<;>omega)))⟩;rw[F.out,←E.out]
   first|rw[if_pos (show 0≤y by omega),if_pos (show 0≤x by omega)]|rw[if_pos (show 0≤y by omega),if_neg (show¬0≤x by omega)]|rw[if_neg (show¬0≤y by omega),if_pos (show x<0 by omega)]|rw[if_neg (show¬0≤y by omega),if_neg (show¬x<0 by omega)]
end Go.Proofs.YtiegohjobhehcaaGreatDoor
