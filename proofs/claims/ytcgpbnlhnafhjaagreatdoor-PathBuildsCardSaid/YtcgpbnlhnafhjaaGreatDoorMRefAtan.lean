/-
  The walk of the reference's angle of a vector.
-/
import Derived.Test.YtcgpbnlhnafhjaaGreatDoorMRoot
set_option maxRecDepth 100000
set_option maxHeartbeats 16000000
namespace Go.Proofs.YtcgpbnlhnafhjaaGreatDoor
open Go.RowKit
set_option linter.unusedVariables false
theorem vI(x:Int)(h: -2147483647≤x)(h2:x≤2147483647)(w:World):
 Calls Tryz.prog 206 #[Iv x] w fun e w'=>e= .returned (.bool false)∧w=w':=by
 go_enter Tryz.func206,Tryz.ntmps206;go_wp2
 all_goals
  go_ret;exact⟨jF (by simp;omega),rfl⟩
theorem tu(c m n:Int)(m0:0≤m)(m1:m≤2147483647)(n0:0≤n)(n1:n≤2147483647):
 (-2305843008139952128≤jO c*m∧jO c*m≤2305843008139952128)∧(-2305843008139952128≤yF c*n∧yF c*n≤2305843008139952128):=by
 have sb:=bH c;have cb:=tJ c;have p1:jO c*m≤1073741824*m:=Int.mul_le_mul_of_nonneg_right sb.2 m0;have p2: -1073741824*m≤jO c*m:=Int.mul_le_mul_of_nonneg_right sb.1 m0;have p3:yF c*n≤1073741824*n:=Int.mul_le_mul_of_nonneg_right cb.2 n0;have p4: -1073741824*n≤yF c*n:=Int.mul_le_mul_of_nonneg_right cb.1 n0;omega
theorem tv(c d:Int)(c0:0≤c)(h:1<d-c)(d1:d≤16200001):c<(c+d)/2∧(c+d)/2<d:=DL
theorem cV(y x:Int)(hy: -2147483647≤y)(hy2:y≤2147483647)(hx: -2147483647≤x)(hx2:x≤2147483647)
 (s1:0≤x) (s2:0≤y) (T:((y==0)=true∧(x==0)=false)∨(y==0)=false) (t:x<y) (C:Int) (hC:C=kJ y x) (Q:Int) (hQ:Q=32400000-C) (w:World):
 Calls Tryz.prog 172 #[Iv y,Iv x] w fun e w'=>e= .returned (.tuple #[Iv (Q),Iv 0])∧w=w':=by
 have cb:=vY y x;rw[←hC]at cb;have HC:=hide hC;have HQ:=hide hQ;clear hC hQ;obtain⟨M,hM⟩:∃M,y=M:=⟨_,rfl⟩;obtain⟨N,hN⟩:∃N,x=N:=⟨_,rfl⟩;have mx:max y x=M:=DL;have mn:min y x=N:=DL;have m0:0≤M∧M≤2147483647:=DL;have n0:0≤N∧N≤2147483647:=DL;obtain⟨m0,m1⟩:=m0;obtain⟨n0,n1⟩:=n0;rw[hM,hN]at HC;clear hM hN;rcases T with⟨T1,T2⟩|T1
 all_goals
  go_enter Tryz.func172,Tryz.ntmps172;go_wp2_with(go_at_call 206;refine(vI _ DL DL _).mono ?_;rintro e w' ⟨rfl,rfl⟩);clear mx mn;go_loop [10,11] (fun a b=>∃c d:Int,a=Iv c∧b=Iv d∧0≤c∧c<d∧d≤16200001∧Hid (c=0∨(!yf M N (c-1+1))=false)∧Hid (d=16200001∨(!yf M N d)=true)) (fun a b=>(intOf b-intOf a).toNat)
  case atStart=>exact⟨0,16200001,rfl,rfl,by omega,by omega,by omega,.inl rfl,.inl rfl⟩
  case round=>
   obtain⟨c,d,rfl,rfl,c0,cd,d1,I1,I2⟩:=hrel;by_cases u:1<d-c
   ·obtain⟨h1,h2⟩:=tv c d c0 u d1;obtain⟨⟨p1,p2⟩,p3,p4⟩:=tu ((c+d)/2) M N m0 m1 n0 n1;have I:=fun w=>vC ((c+d)/2) DP w
    have J:=fun w=>kg ((c+d)/2) DP w
    have I:=hide I;have J:=hide J;by_cases v:jO ((c+d)/2)*M≤yF ((c+d)/2)*N
    ·have V:Hid ((!yf M N ((c+d)/2))=false):=by
      unfold yf;rw[decide_eq_true v];rfl
     go_wp2_with(first|(go_at_call 55;refine(I.out _).mono ?_;rintro e w' ⟨rfl,rfl⟩)|(go_at_call 54;refine(J.out _).mono ?_;rintro e w' ⟨rfl,rfl⟩));go_round
     case rel=>exact⟨(c+d)/2,d,rfl,rfl,by omega,by omega,by omega,.inr (by rw[show(c+d)/2-1+1=(c+d)/2 by omega];exact V.out),I2⟩
     case measure=>simp[intOf];omega
    ·have V:Hid ((!yf M N ((c+d)/2))=true):=by
      unfold yf;rw[decide_eq_false v];rfl
     go_wp2_with(first|(go_at_call 55;refine(I.out _).mono ?_;rintro e w' ⟨rfl,rfl⟩)|(go_at_call 54;refine(J.out _).mono ?_;rintro e w' ⟨rfl,rfl⟩));go_round
     case rel=>exact⟨c,(c+d)/2,rfl,rfl,by omega,by omega,by omega,I1,.inr V.out⟩
     case measure=>simp[intOf];omega
   ·obtain rfl:d=c+1:=DL;have E:=(bO m0 n0 c0 DL (I2.out.imp (fun h=>by omega) id) I1.out).trans HC.out.symm;subst E;have HQ2:=HQ.out;subst HQ2;go_wp2_with(go_at_call 118;refine(jl _ DP _).mono ?_;rintro e w' ⟨rfl,rfl⟩);go_ret2;exact⟨rfl,rfl⟩
theorem cW(y x:Int)(hy: -2147483647≤y)(hy2:y≤2147483647)(hx: -2147483647≤x)(hx2:x≤2147483647)
 (s1:0≤x) (s2:y<0) (T:((y==0)=true∧(x==0)=false)∨(y==0)=false) (t:x<(-y)) (C:Int) (hC:C=kJ (-y) x) (Q:Int) (hQ:Q=32400000-C) (w:World):
 Calls Tryz.prog 172 #[Iv y,Iv x] w fun e w'=>e= .returned (.tuple #[Iv (norm (-Q)),Iv 0])∧w=w':=by
 have cb:=vY (-y) x;rw[←hC]at cb;have HC:=hide hC;have HQ:=hide hQ;clear hC hQ;obtain⟨M,hM⟩:∃M,(-y)=M:=⟨_,rfl⟩;obtain⟨N,hN⟩:∃N,x=N:=⟨_,rfl⟩;have mx:max (-y) x=M:=DL;have mn:min (-y) x=N:=DL;have m0:0≤M∧M≤2147483647:=DL;have n0:0≤N∧N≤2147483647:=DL;obtain⟨m0,m1⟩:=m0;obtain⟨n0,n1⟩:=n0;rw[hM,hN]at HC;clear hM hN;rcases T with⟨T1,T2⟩|T1
 all_goals
  go_enter Tryz.func172,Tryz.ntmps172;go_wp2_with(go_at_call 206;refine(vI _ DL DL _).mono ?_;rintro e w' ⟨rfl,rfl⟩);clear mx mn;go_loop [10,11] (fun a b=>∃c d:Int,a=Iv c∧b=Iv d∧0≤c∧c<d∧d≤16200001∧Hid (c=0∨(!yf M N (c-1+1))=false)∧Hid (d=16200001∨(!yf M N d)=true)) (fun a b=>(intOf b-intOf a).toNat)
  case atStart=>exact⟨0,16200001,rfl,rfl,by omega,by omega,by omega,.inl rfl,.inl rfl⟩
  case round=>
   obtain⟨c,d,rfl,rfl,c0,cd,d1,I1,I2⟩:=hrel;by_cases u:1<d-c
   ·obtain⟨h1,h2⟩:=tv c d c0 u d1;obtain⟨⟨p1,p2⟩,p3,p4⟩:=tu ((c+d)/2) M N m0 m1 n0 n1;have I:=fun w=>vC ((c+d)/2) DP w
    have J:=fun w=>kg ((c+d)/2) DP w
    have I:=hide I;have J:=hide J;by_cases v:jO ((c+d)/2)*M≤yF ((c+d)/2)*N
    ·have V:Hid ((!yf M N ((c+d)/2))=false):=by
      unfold yf;rw[decide_eq_true v];rfl
     go_wp2_with(first|(go_at_call 55;refine(I.out _).mono ?_;rintro e w' ⟨rfl,rfl⟩)|(go_at_call 54;refine(J.out _).mono ?_;rintro e w' ⟨rfl,rfl⟩));go_round
     case rel=>exact⟨(c+d)/2,d,rfl,rfl,by omega,by omega,by omega,.inr (by rw[show(c+d)/2-1+1=(c+d)/2 by omega];exact V.out),I2⟩
     case measure=>simp[intOf];omega
    ·have V:Hid ((!yf M N ((c+d)/2))=true):=by
      unfold yf;rw[decide_eq_false v];rfl
     go_wp2_with(first|(go_at_call 55;refine(I.out _).mono ?_;rintro e w' ⟨rfl,rfl⟩)|(go_at_call 54;refine(J.out _).mono ?_;rintro e w' ⟨rfl,rfl⟩));go_round
     case rel=>exact⟨c,(c+d)/2,rfl,rfl,by omega,by omega,by omega,I1,.inr V.out⟩
     case measure=>simp[intOf];omega
   ·obtain rfl:d=c+1:=DL;have E:=(bO m0 n0 c0 DL (I2.out.imp (fun h=>by omega) id) I1.out).trans HC.out.symm;subst E;have HQ2:=HQ.out;subst HQ2;go_wp2_with(go_at_call 118;refine(jl _ DP _).mono ?_;rintro e w' ⟨rfl,rfl⟩);go_ret2;exact⟨rfl,rfl⟩
theorem cX(y x:Int)(hy: -2147483647≤y)(hy2:y≤2147483647)(hx: -2147483647≤x)(hx2:x≤2147483647)
 (s1:x<0) (s2:0≤y) (T:((y==0)=true∧(x==0)=false)∨(y==0)=false) (t:(-x)<y) (C:Int) (hC:C=kJ y (-x)) (Q:Int) (hQ:Q=32400000-C) (w:World):
 Calls Tryz.prog 172 #[Iv y,Iv x] w fun e w'=>e= .returned (.tuple #[Iv (64800000-Q),Iv 0])∧w=w':=by
 have cb:=vY y (-x);rw[←hC]at cb;have HC:=hide hC;have HQ:=hide hQ;clear hC hQ;obtain⟨M,hM⟩:∃M,y=M:=⟨_,rfl⟩;obtain⟨N,hN⟩:∃N,(-x)=N:=⟨_,rfl⟩;have mx:max y (-x)=M:=DL;have mn:min y (-x)=N:=DL;have m0:0≤M∧M≤2147483647:=DL;have n0:0≤N∧N≤2147483647:=DL;obtain⟨m0,m1⟩:=m0;obtain⟨n0,n1⟩:=n0;rw[hM,hN]at HC;clear hM hN;rcases T with⟨T1,T2⟩|T1
 all_goals
  go_enter Tryz.func172,Tryz.ntmps172;go_wp2_with(go_at_call 206;refine(vI _ DL DL _).mono ?_;rintro e w' ⟨rfl,rfl⟩);clear mx mn;go_loop [10,11] (fun a b=>∃c d:Int,a=Iv c∧b=Iv d∧0≤c∧c<d∧d≤16200001∧Hid (c=0∨(!yf M N (c-1+1))=false)∧Hid (d=16200001∨(!yf M N d)=true)) (fun a b=>(intOf b-intOf a).toNat)
  case atStart=>exact⟨0,16200001,rfl,rfl,by omega,by omega,by omega,.inl rfl,.inl rfl⟩
  case round=>
   obtain⟨c,d,rfl,rfl,c0,cd,d1,I1,I2⟩:=hrel;by_cases u:1<d-c
   ·obtain⟨h1,h2⟩:=tv c d c0 u d1;obtain⟨⟨p1,p2⟩,p3,p4⟩:=tu ((c+d)/2) M N m0 m1 n0 n1;have I:=fun w=>vC ((c+d)/2) DP w
    have J:=fun w=>kg ((c+d)/2) DP w
    have I:=hide I;have J:=hide J;by_cases v:jO ((c+d)/2)*M≤yF ((c+d)/2)*N
    ·have V:Hid ((!yf M N ((c+d)/2))=false):=by
      unfold yf;rw[decide_eq_true v];rfl
     go_wp2_with(first|(go_at_call 55;refine(I.out _).mono ?_;rintro e w' ⟨rfl,rfl⟩)|(go_at_call 54;refine(J.out _).mono ?_;rintro e w' ⟨rfl,rfl⟩));go_round
     case rel=>exact⟨(c+d)/2,d,rfl,rfl,by omega,by omega,by omega,.inr (by rw[show(c+d)/2-1+1=(c+d)/2 by omega];exact V.out),I2⟩
     case measure=>simp[intOf];omega
    ·have V:Hid ((!yf M N ((c+d)/2))=true):=by
      unfold yf;rw[decide_eq_false v];rfl
     go_wp2_with(first|(go_at_call 55;refine(I.out _).mono ?_;rintro e w' ⟨rfl,rfl⟩)|(go_at_call 54;refine(J.out _).mono ?_;rintro e w' ⟨rfl,rfl⟩));go_round
     case rel=>exact⟨c,(c+d)/2,rfl,rfl,by omega,by omega,by omega,I1,.inr V.out⟩
     case measure=>simp[intOf];omega
   ·obtain rfl:d=c+1:=DL;have E:=(bO m0 n0 c0 DL (I2.out.imp (fun h=>by omega) id) I1.out).trans HC.out.symm;subst E;have HQ2:=HQ.out;subst HQ2;go_wp2_with(go_at_call 118;refine(jl _ DP _).mono ?_;rintro e w' ⟨rfl,rfl⟩);go_ret2;exact⟨rfl,rfl⟩
theorem cY(y x:Int)(hy: -2147483647≤y)(hy2:y≤2147483647)(hx: -2147483647≤x)(hx2:x≤2147483647)
 (s1:x<0) (s2:y<0) (T:((y==0)=true∧(x==0)=false)∨(y==0)=false) (t:(-x)<(-y)) (C:Int) (hC:C=kJ (-y) (-x)) (Q:Int) (hQ:Q=32400000-C) (w:World):
 Calls Tryz.prog 172 #[Iv y,Iv x] w fun e w'=>e= .returned (.tuple #[Iv (64800000+Q),Iv 0])∧w=w':=by
 have cb:=vY (-y) (-x);rw[←hC]at cb;have HC:=hide hC;have HQ:=hide hQ;clear hC hQ;obtain⟨M,hM⟩:∃M,(-y)=M:=⟨_,rfl⟩;obtain⟨N,hN⟩:∃N,(-x)=N:=⟨_,rfl⟩;have mx:max (-y) (-x)=M:=DL;have mn:min (-y) (-x)=N:=DL;have m0:0≤M∧M≤2147483647:=DL;have n0:0≤N∧N≤2147483647:=DL;obtain⟨m0,m1⟩:=m0;obtain⟨n0,n1⟩:=n0;rw[hM,hN]at HC;clear hM hN;rcases T with⟨T1,T2⟩|T1
 all_goals
  go_enter Tryz.func172,Tryz.ntmps172;go_wp2_with(go_at_call 206;refine(vI _ DL DL _).mono ?_;rintro e w' ⟨rfl,rfl⟩);clear mx mn;go_loop [10,11] (fun a b=>∃c d:Int,a=Iv c∧b=Iv d∧0≤c∧c<d∧d≤16200001∧Hid (c=0∨(!yf M N (c-1+1))=false)∧Hid (d=16200001∨(!yf M N d)=true)) (fun a b=>(intOf b-intOf a).toNat)
  case atStart=>exact⟨0,16200001,rfl,rfl,by omega,by omega,by omega,.inl rfl,.inl rfl⟩
  case round=>
   obtain⟨c,d,rfl,rfl,c0,cd,d1,I1,I2⟩:=hrel;by_cases u:1<d-c
   ·obtain⟨h1,h2⟩:=tv c d c0 u d1;obtain⟨⟨p1,p2⟩,p3,p4⟩:=tu ((c+d)/2) M N m0 m1 n0 n1;have I:=fun w=>vC ((c+d)/2) DP w
    have J:=fun w=>kg ((c+d)/2) DP w
    have I:=hide I;have J:=hide J;by_cases v:jO ((c+d)/2)*M≤yF ((c+d)/2)*N
    ·have V:Hid ((!yf M N ((c+d)/2))=false):=by
      unfold yf;rw[decide_eq_true v];rfl
     go_wp2_with(first|(go_at_call 55;refine(I.out _).mono ?_;rintro e w' ⟨rfl,rfl⟩)|(go_at_call 54;refine(J.out _).mono ?_;rintro e w' ⟨rfl,rfl⟩));go_round
     case rel=>exact⟨(c+d)/2,d,rfl,rfl,by omega,by omega,by omega,.inr (by rw[show(c+d)/2-1+1=(c+d)/2 by omega];exact V.out),I2⟩
     case measure=>simp[intOf];omega
    ·have V:Hid ((!yf M N ((c+d)/2))=true):=by
      unfold yf;rw[decide_eq_false v];rfl
     go_wp2_with(first|(go_at_call 55;refine(I.out _).mono ?_;rintro e w' ⟨rfl,rfl⟩)|(go_at_call 54;refine(J.out _).mono ?_;rintro e w' ⟨rfl,rfl⟩));go_round
     case rel=>exact⟨c,(c+d)/2,rfl,rfl,by omega,by omega,by omega,I1,.inr V.out⟩
     case measure=>simp[intOf];omega
   ·obtain rfl:d=c+1:=DL;have E:=(bO m0 n0 c0 DL (I2.out.imp (fun h=>by omega) id) I1.out).trans HC.out.symm;subst E;have HQ2:=HQ.out;subst HQ2;go_wp2_with(go_at_call 118;refine(jl _ DP _).mono ?_;rintro e w' ⟨rfl,rfl⟩);go_ret2;exact⟨rfl,rfl⟩
theorem cZ(y x:Int)(hy: -2147483647≤y)(hy2:y≤2147483647)(hx: -2147483647≤x)(hx2:x≤2147483647)
 (s1:0≤x) (s2:0≤y) (T:((y==0)=true∧(x==0)=false)∨(y==0)=false) (t:y≤x) (C:Int) (hC:C=kJ x y) (Q:Int) (hQ:Q=C) (w:World):
 Calls Tryz.prog 172 #[Iv y,Iv x] w fun e w'=>e= .returned (.tuple #[Iv (Q),Iv 0])∧w=w':=by
 have cb:=vY x y;rw[←hC]at cb;have HC:=hide hC;have HQ:=hide hQ;clear hC hQ;obtain⟨M,hM⟩:∃M,x=M:=⟨_,rfl⟩;obtain⟨N,hN⟩:∃N,y=N:=⟨_,rfl⟩;have mx:max y x=M:=DL;have mn:min y x=N:=DL;have m0:0≤M∧M≤2147483647:=DL;have n0:0≤N∧N≤2147483647:=DL;obtain⟨m0,m1⟩:=m0;obtain⟨n0,n1⟩:=n0;rw[hM,hN]at HC;clear hM hN;rcases T with⟨T1,T2⟩|T1
 all_goals
  go_enter Tryz.func172,Tryz.ntmps172;go_wp2_with(go_at_call 206;refine(vI _ DL DL _).mono ?_;rintro e w' ⟨rfl,rfl⟩);clear mx mn;go_loop [10,11] (fun a b=>∃c d:Int,a=Iv c∧b=Iv d∧0≤c∧c<d∧d≤16200001∧Hid (c=0∨(!yf M N (c-1+1))=false)∧Hid (d=16200001∨(!yf M N d)=true)) (fun a b=>(intOf b-intOf a).toNat)
  case atStart=>exact⟨0,16200001,rfl,rfl,by omega,by omega,by omega,.inl rfl,.inl rfl⟩
  case round=>
   obtain⟨c,d,rfl,rfl,c0,cd,d1,I1,I2⟩:=hrel;by_cases u:1<d-c
   ·obtain⟨h1,h2⟩:=tv c d c0 u d1;obtain⟨⟨p1,p2⟩,p3,p4⟩:=tu ((c+d)/2) M N m0 m1 n0 n1;have I:=fun w=>vC ((c+d)/2) DP w
    have J:=fun w=>kg ((c+d)/2) DP w
    have I:=hide I;have J:=hide J;by_cases v:jO ((c+d)/2)*M≤yF ((c+d)/2)*N
    ·have V:Hid ((!yf M N ((c+d)/2))=false):=by
      unfold yf;rw[decide_eq_true v];rfl
     go_wp2_with(first|(go_at_call 55;refine(I.out _).mono ?_;rintro e w' ⟨rfl,rfl⟩)|(go_at_call 54;refine(J.out _).mono ?_;rintro e w' ⟨rfl,rfl⟩));go_round
     case rel=>exact⟨(c+d)/2,d,rfl,rfl,by omega,by omega,by omega,.inr (by rw[show(c+d)/2-1+1=(c+d)/2 by omega];exact V.out),I2⟩
     case measure=>simp[intOf];omega
    ·have V:Hid ((!yf M N ((c+d)/2))=true):=by
      unfold yf;rw[decide_eq_false v];rfl
     go_wp2_with(first|(go_at_call 55;refine(I.out _).mono ?_;rintro e w' ⟨rfl,rfl⟩)|(go_at_call 54;refine(J.out _).mono ?_;rintro e w' ⟨rfl,rfl⟩));go_round
     case rel=>exact⟨c,(c+d)/2,rfl,rfl,by omega,by omega,by omega,I1,.inr V.out⟩
     case measure=>simp[intOf];omega
   ·obtain rfl:d=c+1:=DL;have E:=(bO m0 n0 c0 DL (I2.out.imp (fun h=>by omega) id) I1.out).trans HC.out.symm;subst E;have HQ2:=HQ.out;subst HQ2;go_wp2_with(go_at_call 118;refine(jl _ DP _).mono ?_;rintro e w' ⟨rfl,rfl⟩);go_ret2;exact⟨rfl,rfl⟩
theorem fa(y x:Int)(hy: -2147483647≤y)(hy2:y≤2147483647)(hx: -2147483647≤x)(hx2:x≤2147483647)
 (s1:0≤x) (s2:y<0) (T:((y==0)=true∧(x==0)=false)∨(y==0)=false) (t:(-y)≤x) (C:Int) (hC:C=kJ x (-y)) (Q:Int) (hQ:Q=C) (w:World):
 Calls Tryz.prog 172 #[Iv y,Iv x] w fun e w'=>e= .returned (.tuple #[Iv (norm (-Q)),Iv 0])∧w=w':=by
 have cb:=vY x (-y);rw[←hC]at cb;have HC:=hide hC;have HQ:=hide hQ;clear hC hQ;obtain⟨M,hM⟩:∃M,x=M:=⟨_,rfl⟩;obtain⟨N,hN⟩:∃N,(-y)=N:=⟨_,rfl⟩;have mx:max (-y) x=M:=DL;have mn:min (-y) x=N:=DL;have m0:0≤M∧M≤2147483647:=DL;have n0:0≤N∧N≤2147483647:=DL;obtain⟨m0,m1⟩:=m0;obtain⟨n0,n1⟩:=n0;rw[hM,hN]at HC;clear hM hN;rcases T with⟨T1,T2⟩|T1
 all_goals
  go_enter Tryz.func172,Tryz.ntmps172;go_wp2_with(go_at_call 206;refine(vI _ DL DL _).mono ?_;rintro e w' ⟨rfl,rfl⟩);clear mx mn;go_loop [10,11] (fun a b=>∃c d:Int,a=Iv c∧b=Iv d∧0≤c∧c<d∧d≤16200001∧Hid (c=0∨(!yf M N (c-1+1))=false)∧Hid (d=16200001∨(!yf M N d)=true)) (fun a b=>(intOf b-intOf a).toNat)
  case atStart=>exact⟨0,16200001,rfl,rfl,by omega,by omega,by omega,.inl rfl,.inl rfl⟩
  case round=>
   obtain⟨c,d,rfl,rfl,c0,cd,d1,I1,I2⟩:=hrel;by_cases u:1<d-c
   ·obtain⟨h1,h2⟩:=tv c d c0 u d1;obtain⟨⟨p1,p2⟩,p3,p4⟩:=tu ((c+d)/2) M N m0 m1 n0 n1;have I:=fun w=>vC ((c+d)/2) DP w
    have J:=fun w=>kg ((c+d)/2) DP w
    have I:=hide I;have J:=hide J;by_cases v:jO ((c+d)/2)*M≤yF ((c+d)/2)*N
    ·have V:Hid ((!yf M N ((c+d)/2))=false):=by
      unfold yf;rw[decide_eq_true v];rfl
     go_wp2_with(first|(go_at_call 55;refine(I.out _).mono ?_;rintro e w' ⟨rfl,rfl⟩)|(go_at_call 54;refine(J.out _).mono ?_;rintro e w' ⟨rfl,rfl⟩));go_round
     case rel=>exact⟨(c+d)/2,d,rfl,rfl,by omega,by omega,by omega,.inr (by rw[show(c+d)/2-1+1=(c+d)/2 by omega];exact V.out),I2⟩
     case measure=>simp[intOf];omega
    ·have V:Hid ((!yf M N ((c+d)/2))=true):=by
      unfold yf;rw[decide_eq_false v];rfl
     go_wp2_with(first|(go_at_call 55;refine(I.out _).mono ?_;rintro e w' ⟨rfl,rfl⟩)|(go_at_call 54;refine(J.out _).mono ?_;rintro e w' ⟨rfl,rfl⟩));go_round
     case rel=>exact⟨c,(c+d)/2,rfl,rfl,by omega,by omega,by omega,I1,.inr V.out⟩
     case measure=>simp[intOf];omega
   ·obtain rfl:d=c+1:=DL;have E:=(bO m0 n0 c0 DL (I2.out.imp (fun h=>by omega) id) I1.out).trans HC.out.symm;subst E;have HQ2:=HQ.out;subst HQ2;go_wp2_with(go_at_call 118;refine(jl _ DP _).mono ?_;rintro e w' ⟨rfl,rfl⟩);go_ret2;exact⟨rfl,rfl⟩
theorem fb(y x:Int)(hy: -2147483647≤y)(hy2:y≤2147483647)(hx: -2147483647≤x)(hx2:x≤2147483647)
 (s1:x<0) (s2:0≤y) (T:((y==0)=true∧(x==0)=false)∨(y==0)=false) (t:y≤(-x)) (C:Int) (hC:C=kJ (-x) y) (Q:Int) (hQ:Q=C) (w:World):
 Calls Tryz.prog 172 #[Iv y,Iv x] w fun e w'=>e= .returned (.tuple #[Iv (64800000-Q),Iv 0])∧w=w':=by
 have cb:=vY (-x) y;rw[←hC]at cb;have HC:=hide hC;have HQ:=hide hQ;clear hC hQ;obtain⟨M,hM⟩:∃M,(-x)=M:=⟨_,rfl⟩;obtain⟨N,hN⟩:∃N,y=N:=⟨_,rfl⟩;have mx:max y (-x)=M:=DL;have mn:min y (-x)=N:=DL;have m0:0≤M∧M≤2147483647:=DL;have n0:0≤N∧N≤2147483647:=DL;obtain⟨m0,m1⟩:=m0;obtain⟨n0,n1⟩:=n0;rw[hM,hN]at HC;clear hM hN;rcases T with⟨T1,T2⟩|T1
 all_goals
  go_enter Tryz.func172,Tryz.ntmps172;go_wp2_with(go_at_call 206;refine(vI _ DL DL _).mono ?_;rintro e w' ⟨rfl,rfl⟩);clear mx mn;go_loop [10,11] (fun a b=>∃c d:Int,a=Iv c∧b=Iv d∧0≤c∧c<d∧d≤16200001∧Hid (c=0∨(!yf M N (c-1+1))=false)∧Hid (d=16200001∨(!yf M N d)=true)) (fun a b=>(intOf b-intOf a).toNat)
  case atStart=>exact⟨0,16200001,rfl,rfl,by omega,by omega,by omega,.inl rfl,.inl rfl⟩
  case round=>
   obtain⟨c,d,rfl,rfl,c0,cd,d1,I1,I2⟩:=hrel;by_cases u:1<d-c
   ·obtain⟨h1,h2⟩:=tv c d c0 u d1;obtain⟨⟨p1,p2⟩,p3,p4⟩:=tu ((c+d)/2) M N m0 m1 n0 n1;have I:=fun w=>vC ((c+d)/2) DP w
    have J:=fun w=>kg ((c+d)/2) DP w
    have I:=hide I;have J:=hide J;by_cases v:jO ((c+d)/2)*M≤yF ((c+d)/2)*N
    ·have V:Hid ((!yf M N ((c+d)/2))=false):=by
      unfold yf;rw[decide_eq_true v];rfl
     go_wp2_with(first|(go_at_call 55;refine(I.out _).mono ?_;rintro e w' ⟨rfl,rfl⟩)|(go_at_call 54;refine(J.out _).mono ?_;rintro e w' ⟨rfl,rfl⟩));go_round
     case rel=>exact⟨(c+d)/2,d,rfl,rfl,by omega,by omega,by omega,.inr (by rw[show(c+d)/2-1+1=(c+d)/2 by omega];exact V.out),I2⟩
     case measure=>simp[intOf];omega
    ·have V:Hid ((!yf M N ((c+d)/2))=true):=by
      unfold yf;rw[decide_eq_false v];rfl
     go_wp2_with(first|(go_at_call 55;refine(I.out _).mono ?_;rintro e w' ⟨rfl,rfl⟩)|(go_at_call 54;refine(J.out _).mono ?_;rintro e w' ⟨rfl,rfl⟩));go_round
     case rel=>exact⟨c,(c+d)/2,rfl,rfl,by omega,by omega,by omega,I1,.inr V.out⟩
     case measure=>simp[intOf];omega
   ·obtain rfl:d=c+1:=DL;have E:=(bO m0 n0 c0 DL (I2.out.imp (fun h=>by omega) id) I1.out).trans HC.out.symm;subst E;have HQ2:=HQ.out;subst HQ2;go_wp2_with(go_at_call 118;refine(jl _ DP _).mono ?_;rintro e w' ⟨rfl,rfl⟩);go_ret2;exact⟨rfl,rfl⟩
theorem fc(y x:Int)(hy: -2147483647≤y)(hy2:y≤2147483647)(hx: -2147483647≤x)(hx2:x≤2147483647)
 (s1:x<0) (s2:y<0) (T:((y==0)=true∧(x==0)=false)∨(y==0)=false) (t:(-y)≤(-x)) (C:Int) (hC:C=kJ (-x) (-y)) (Q:Int) (hQ:Q=C) (w:World):
 Calls Tryz.prog 172 #[Iv y,Iv x] w fun e w'=>e= .returned (.tuple #[Iv (64800000+Q),Iv 0])∧w=w':=by
 have cb:=vY (-x) (-y);rw[←hC]at cb;have HC:=hide hC;have HQ:=hide hQ;clear hC hQ;obtain⟨M,hM⟩:∃M,(-x)=M:=⟨_,rfl⟩;obtain⟨N,hN⟩:∃N,(-y)=N:=⟨_,rfl⟩;have mx:max (-y) (-x)=M:=DL;have mn:min (-y) (-x)=N:=DL;have m0:0≤M∧M≤2147483647:=DL;have n0:0≤N∧N≤2147483647:=DL;obtain⟨m0,m1⟩:=m0;obtain⟨n0,n1⟩:=n0;rw[hM,hN]at HC;clear hM hN;rcases T with⟨T1,T2⟩|T1
 all_goals
  go_enter Tryz.func172,Tryz.ntmps172;go_wp2_with(go_at_call 206;refine(vI _ DL DL _).mono ?_;rintro e w' ⟨rfl,rfl⟩);clear mx mn;go_loop [10,11] (fun a b=>∃c d:Int,a=Iv c∧b=Iv d∧0≤c∧c<d∧d≤16200001∧Hid (c=0∨(!yf M N (c-1+1))=false)∧Hid (d=16200001∨(!yf M N d)=true)) (fun a b=>(intOf b-intOf a).toNat)
  case atStart=>exact⟨0,16200001,rfl,rfl,by omega,by omega,by omega,.inl rfl,.inl rfl⟩
  case round=>
   obtain⟨c,d,rfl,rfl,c0,cd,d1,I1,I2⟩:=hrel;by_cases u:1<d-c
   ·obtain⟨h1,h2⟩:=tv c d c0 u d1;obtain⟨⟨p1,p2⟩,p3,p4⟩:=tu ((c+d)/2) M N m0 m1 n0 n1;have I:=fun w=>vC ((c+d)/2) DP w
    have J:=fun w=>kg ((c+d)/2) DP w
    have I:=hide I;have J:=hide J;by_cases v:jO ((c+d)/2)*M≤yF ((c+d)/2)*N
    ·have V:Hid ((!yf M N ((c+d)/2))=false):=by
      unfold yf;rw[decide_eq_true v];rfl
     go_wp2_with(first|(go_at_call 55;refine(I.out _).mono ?_;rintro e w' ⟨rfl,rfl⟩)|(go_at_call 54;refine(J.out _).mono ?_;rintro e w' ⟨rfl,rfl⟩));go_round
     case rel=>exact⟨(c+d)/2,d,rfl,rfl,by omega,by omega,by omega,.inr (by rw[show(c+d)/2-1+1=(c+d)/2 by omega];exact V.out),I2⟩
     case measure=>simp[intOf];omega
    ·have V:Hid ((!yf M N ((c+d)/2))=true):=by
      unfold yf;rw[decide_eq_false v];rfl
     go_wp2_with(first|(go_at_call 55;refine(I.out _).mono ?_;rintro e w' ⟨rfl,rfl⟩)|(go_at_call 54;refine(J.out _).mono ?_;rintro e w' ⟨rfl,rfl⟩));go_round
     case rel=>exact⟨c,(c+d)/2,rfl,rfl,by omega,by omega,by omega,I1,.inr V.out⟩
     case measure=>simp[intOf];omega
   ·obtain rfl:d=c+1:=DL;have E:=(bO m0 n0 c0 DL (I2.out.imp (fun h=>by omega) id) I1.out).trans HC.out.symm;subst E;have HQ2:=HQ.out;subst HQ2;go_wp2_with(go_at_call 118;refine(jl _ DP _).mono ?_;rintro e w' ⟨rfl,rfl⟩);go_ret2;exact⟨rfl,rfl⟩
theorem VM(y x:Int)(hy: -2147483647≤y)(hy2:y≤2147483647)(hx: -2147483647≤x)(hx2:x≤2147483647)(h0:¬(x=0∧y=0))(w:World):
 Calls Tryz.prog 172 #[Iv y,Iv x] w fun e w'=>e= .returned (.tuple #[Iv (jJ y x),Iv 0])∧w=w':=by
 have T:((y==0)=true∧(x==0)=false)∨(y==0)=false:=by
  by_cases hy0:y=0
  ·left;simp[hy0];intro hx0;exact h0 ⟨hx0,hy0⟩
  ·right;simp[hy0]
 have F:jJ y x=if 0≤y then(if 0≤x then kV y x else 64800000-kV y x)else if x<0 then 64800000+kV y x else norm (-kV y x):=rfl
 have Q:kV y x=if x.natAbs<y.natAbs then 32400000-kJ y.natAbs x.natAbs else kJ x.natAbs y.natAbs:=rfl
 by_cases s1:0≤x<;>by_cases s2:0≤y
 ·rw[show(x.natAbs:Int)=x by omega,show(y.natAbs:Int)=y by omega]at Q;rw[if_pos s2,if_pos s1]at F;rw[F];by_cases t:x.natAbs<y.natAbs
  ·rw[if_pos t]at Q;exact cV y x hy hy2 hx hx2 DL DL T DL _ rfl _ Q w
  ·rw[if_neg t]at Q;exact cZ y x hy hy2 hx hx2 DL DL T DL _ rfl _ Q w
 ·rw[show(x.natAbs:Int)=x by omega,show(y.natAbs:Int)= -y by omega]at Q;rw[if_neg s2,if_neg (show¬x<0 by omega)]at F;rw[F];by_cases t:x.natAbs<y.natAbs
  ·rw[if_pos t]at Q;exact cW y x hy hy2 hx hx2 DL DL T DL _ rfl _ Q w
  ·rw[if_neg t]at Q;exact fa y x hy hy2 hx hx2 DL DL T DL _ rfl _ Q w
 ·rw[show(x.natAbs:Int)= -x by omega,show(y.natAbs:Int)=y by omega]at Q;rw[if_pos s2,if_neg s1]at F;rw[F];by_cases t:x.natAbs<y.natAbs
  ·rw[if_pos t]at Q;exact cX y x hy hy2 hx hx2 DL DL T DL _ rfl _ Q w
  ·rw[if_neg t]at Q;exact fb y x hy hy2 hx hx2 DL DL T DL _ rfl _ Q w
 ·rw[show(x.natAbs:Int)= -x by omega,show(y.natAbs:Int)= -y by omega]at Q;rw[if_neg s2,if_pos (show x<0 by omega)]at F;rw[F];by_cases t:x.natAbs<y.natAbs
  ·rw[if_pos t]at Q;exact cY y x hy hy2 hx hx2 DL DL T DL _ rfl _ Q w
  ·rw[if_neg t]at Q;exact fc y x hy hy2 hx hx2 DL DL T DL _ rfl _ Q w
end Go.Proofs.YtcgpbnlhnafhjaaGreatDoor
