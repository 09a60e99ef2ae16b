/-
  The walk of fixed.scale, rounding down.
-/
import Derived.Test.YtiegohjobhehcaaGreatDoorMShelf
set_option maxRecDepth 100000
set_option maxHeartbeats 16000000
namespace Go.Proofs.YtiegohjobhehcaaGreatDoor
open Go.RowKit
set_option linter.unusedVariables false
theorem nK(a b c:Int)(ha:qz a)(hb:qz b)(hc:qz c)(h0:c≠0)(w:World):
 Calls Tryz.prog 71 #[Iv a,Iv b,Iv c,.int .u8 0] w fun e w'=>e= .returned (.tuple #[Iv (qL 0 a b c).1,Iv (qL 0 a b c).2])∧∃n,w'=w.drewN n:=by
 have h1:(c==0)=false:=by simp[h0]
 have A1:(a.natAbs:Int)<18446744073709551616:=by have:=ha.1;have:=ha.2;omega
 have B1:(b.natAbs:Int)<18446744073709551616:=by have:=hb.1;have:=hb.2;omega
 have C1:(c.natAbs:Int)<18446744073709551616:=by have:=hc.1;have:=hc.2;omega
 have C0:0<(c.natAbs:Int):=qg;have P0:0≤(a.natAbs:Int)*b.natAbs:=Int.mul_nonneg qg qg;have A0:0≤(a.natAbs:Int):=qg;have B0:0≤(b.natAbs:Int):=qg;have F:=nY 0 a b c h0;generalize hA:(a.natAbs:Int)=A at*;generalize hB:(b.natAbs:Int)=B at*;generalize hC:(c.natAbs:Int)=D at*;generalize hQ:A*B/D=Q at*;generalize hR:A*B%D=R at*;obtain⟨F1,F2,F3,F4,F5,F6,F7⟩:=F;have G5:=hide F5;have G6:=hide F6;have G7:=hide F7;clear F5 F6 F7 h0;by_cases hd:D≤A*B/18446744073709551616
 ·go_enter Tryz.func71,Tryz.ntmps71;go_wp2_with(first|(go_at_call 63;refine(tG _ qY _).mono ?_;rintro e w' ⟨rfl,rfl⟩)|(go_at_call 62;refine(bk _ _ qg qg qg qg _).mono ?_;rintro e w' ⟨rfl,rfl⟩));go_ret2;exact⟨tF (by rw[G5.out hd]) (by rw[G5.out hd]),0,rfl⟩
 ·have q1:0≤A*B/18446744073709551616:=qg;have q2:A*B/18446744073709551616<D:=qg;have q3:0≤A*B%18446744073709551616:=qg;have q4:A*B%18446744073709551616<18446744073709551616:=qg;have q5:Q<18446744073709551616:=G6.out q2;have K0:∀(neg:Bool) (k:Int),(neg=true↔((a<0↔¬b<0)↔¬c<0))→((away 0 neg R.toNat D.toNat).toNat:Int)=k→qL 0 a b c=sg (Q+k) neg:=fun neg k h2 h3=>WR k h1 F2 (G7.out neg h2) h3
  have AW:=fun neg=>aw 0 neg R D F3 F4
  have K1:∀(neg:Bool),(neg=true↔((a<0↔¬b<0)↔¬c<0))→((away 0 neg R.toNat D.toNat).toNat:Int)=0→qL 0 a b c=sg Q neg:=fun neg h2 h3=>by rw[K0 neg 0 h2 h3,Int.add_zero]
  have K2:∀(neg:Bool),(neg=true↔((a<0↔¬b<0)↔¬c<0))→((away 0 neg R.toNat D.toNat).toNat:Int)=1→18446744073709551615≤Q→qL 0 a b c=(0,2):=fun neg h2 h3 h4=>by
   rw[K0 neg 1 h2 h3];unfold sg Qu;cases neg<;>simp<;>omega
  have GK:=hide K0;have GK1:=hide K1;have GK2:=hide K2;clear K1 K2;have GA:=hide AW;clear K0 AW;by_cases qm:Q<18446744073709551615
  case' pos=>have qm':(Q==18446744073709551615)=false:=by simp;omega
  case' neg=>have qm':(Q==18446744073709551615)=true:=by simp;omega
  all_goals by_cases sa:a<0<;>by_cases sb:b<0<;>by_cases sc:c<0
  all_goals
   go_enter Tryz.func71,Tryz.ntmps71;go_wp2_with(first|(go_at_call 63;refine(tG _ qY _).mono ?_;rintro e w' ⟨rfl,rfl⟩)|(go_at_call 62;refine(bk _ _ qg qg qg qg _).mono ?_;rintro e w' ⟨rfl,rfl⟩)|(go_at_call 64;refine(Ql _ _ qg _).mono ?_;rintro e w' ⟨rfl,rfl⟩)|(go_at_call 144;refine(YF _ _ _ q1 q2 q3 q4 qg _).mono ?_;rintro e w' ⟨rfl,m,rfl⟩))
  all_goals
   go_ret2;refine⟨?_,_,rfl⟩
   first
   |(refine yV (GK.out true 1 ?_ ?_).symm<;>first|omega|(simp;done)|(simp;omega)|(rw[GA.out true];simp;done)|(rw[GA.out true];simp;omega))
   |(refine yV (GK1.out true ?_ ?_).symm<;>first|omega|(simp;done)|(simp;omega)|(rw[GA.out true];simp;done)|(rw[GA.out true];simp;omega))
   |(refine yV (GK.out false 1 ?_ ?_).symm<;>first|omega|(simp;done)|(simp;omega)|(rw[GA.out false];simp;done)|(rw[GA.out false];simp;omega))
   |(refine yV (GK1.out false ?_ ?_).symm<;>first|omega|(simp;done)|(simp;omega)|(rw[GA.out false];simp;done)|(rw[GA.out false];simp;omega))
   |(refine yV (x:=(0,2)) (GK2.out true ?_ ?_ ?_).symm<;>first|omega|(simp;done)|(simp;omega)|(rw[GA.out true];simp;done)|(rw[GA.out true];simp;omega))
   |(refine yV (x:=(0,2)) (GK2.out false ?_ ?_ ?_).symm<;>first|omega|(simp;done)|(simp;omega)|(rw[GA.out false];simp;done)|(rw[GA.out false];simp;omega))
theorem WD(a b c:Int)(ha:qz a)(hb:qz b)(hc:qz c)(h0:c≠0)(w:World):
 Calls Tryz.prog 71 #[Iv a,Iv b,Iv c,.int .u8 1] w fun e w'=>e= .returned (.tuple #[Iv (qL 1 a b c).1,Iv (qL 1 a b c).2])∧∃n,w'=w.drewN n:=by
 have h1:(c==0)=false:=by simp[h0]
 have A1:(a.natAbs:Int)<18446744073709551616:=by have:=ha.1;have:=ha.2;omega
 have B1:(b.natAbs:Int)<18446744073709551616:=by have:=hb.1;have:=hb.2;omega
 have C1:(c.natAbs:Int)<18446744073709551616:=by have:=hc.1;have:=hc.2;omega
 have C0:0<(c.natAbs:Int):=qg;have P0:0≤(a.natAbs:Int)*b.natAbs:=Int.mul_nonneg qg qg;have A0:0≤(a.natAbs:Int):=qg;have B0:0≤(b.natAbs:Int):=qg;have F:=nY 1 a b c h0;generalize hA:(a.natAbs:Int)=A at*;generalize hB:(b.natAbs:Int)=B at*;generalize hC:(c.natAbs:Int)=D at*;generalize hQ:A*B/D=Q at*;generalize hR:A*B%D=R at*;obtain⟨F1,F2,F3,F4,F5,F6,F7⟩:=F;have G5:=hide F5;have G6:=hide F6;have G7:=hide F7;clear F5 F6 F7 h0;by_cases hd:D≤A*B/18446744073709551616
 ·go_enter Tryz.func71,Tryz.ntmps71;go_wp2_with(first|(go_at_call 63;refine(tG _ qY _).mono ?_;rintro e w' ⟨rfl,rfl⟩)|(go_at_call 62;refine(bk _ _ qg qg qg qg _).mono ?_;rintro e w' ⟨rfl,rfl⟩));go_ret2;exact⟨tF (by rw[G5.out hd]) (by rw[G5.out hd]),0,rfl⟩
 ·have q1:0≤A*B/18446744073709551616:=qg;have q2:A*B/18446744073709551616<D:=qg;have q3:0≤A*B%18446744073709551616:=qg;have q4:A*B%18446744073709551616<18446744073709551616:=qg;have q5:Q<18446744073709551616:=G6.out q2;have K0:∀(neg:Bool) (k:Int),(neg=true↔((a<0↔¬b<0)↔¬c<0))→((away 1 neg R.toNat D.toNat).toNat:Int)=k→qL 1 a b c=sg (Q+k) neg:=fun neg k h2 h3=>WR k h1 F2 (G7.out neg h2) h3
  have AW:=fun neg=>aw 1 neg R D F3 F4
  have K1:∀(neg:Bool),(neg=true↔((a<0↔¬b<0)↔¬c<0))→((away 1 neg R.toNat D.toNat).toNat:Int)=0→qL 1 a b c=sg Q neg:=fun neg h2 h3=>by rw[K0 neg 0 h2 h3,Int.add_zero]
  have K2:∀(neg:Bool),(neg=true↔((a<0↔¬b<0)↔¬c<0))→((away 1 neg R.toNat D.toNat).toNat:Int)=1→18446744073709551615≤Q→qL 1 a b c=(0,2):=fun neg h2 h3 h4=>by
   rw[K0 neg 1 h2 h3];unfold sg Qu;cases neg<;>simp<;>omega
  have GK:=hide K0;have GK1:=hide K1;have GK2:=hide K2;clear K1 K2;have GA:=hide AW;clear K0 AW;by_cases qm:Q<18446744073709551615
  case' pos=>have qm':(Q==18446744073709551615)=false:=by simp;omega
  case' neg=>have qm':(Q==18446744073709551615)=true:=by simp;omega
  all_goals by_cases sa:a<0<;>by_cases sb:b<0<;>by_cases sc:c<0
  all_goals
   go_enter Tryz.func71,Tryz.ntmps71;go_wp2_with(first|(go_at_call 63;refine(tG _ qY _).mono ?_;rintro e w' ⟨rfl,rfl⟩)|(go_at_call 62;refine(bk _ _ qg qg qg qg _).mono ?_;rintro e w' ⟨rfl,rfl⟩)|(go_at_call 64;refine(Ql _ _ qg _).mono ?_;rintro e w' ⟨rfl,rfl⟩)|(go_at_call 144;refine(YF _ _ _ q1 q2 q3 q4 qg _).mono ?_;rintro e w' ⟨rfl,m,rfl⟩))
  all_goals
   go_ret2;refine⟨?_,_,rfl⟩
   first
   |(refine yV (GK.out true 1 ?_ ?_).symm<;>first|omega|(simp;done)|(simp;omega)|(rw[GA.out true];simp;done)|(rw[GA.out true];simp;omega))
   |(refine yV (GK1.out true ?_ ?_).symm<;>first|omega|(simp;done)|(simp;omega)|(rw[GA.out true];simp;done)|(rw[GA.out true];simp;omega))
   |(refine yV (GK.out false 1 ?_ ?_).symm<;>first|omega|(simp;done)|(simp;omega)|(rw[GA.out false];simp;done)|(rw[GA.out false];simp;omega))
   |(refine yV (GK1.out false ?_ ?_).symm<;>first|omega|(simp;done)|(simp;omega)|(rw[GA.out false];simp;done)|(rw[GA.out false];simp;omega))
   |(refine yV (x:=(0,2)) (GK2.out true ?_ ?_ ?_).symm<;>first|omega|(simp;done)|(simp;omega)|(rw[GA.out true];simp;done)|(rw[GA.out true];simp;omega))
   |(refine yV (x:=(0,2)) (GK2.out false ?_ ?_ ?_).symm<;>first|omega|(simp;done)|(simp;omega)|(rw[GA.out false];simp;done)|(rw[GA.out false];simp;omega))
theorem nL(a b c:Int)(ha:qz a)(hb:qz b)(hc:qz c)(h0:c≠0)(w:World):
 Calls Tryz.prog 71 #[Iv a,Iv b,Iv c,.int .u8 2] w fun e w'=>e= .returned (.tuple #[Iv (qL 2 a b c).1,Iv (qL 2 a b c).2])∧∃n,w'=w.drewN n:=by
 have h1:(c==0)=false:=by simp[h0]
 have A1:(a.natAbs:Int)<18446744073709551616:=by have:=ha.1;have:=ha.2;omega
 have B1:(b.natAbs:Int)<18446744073709551616:=by have:=hb.1;have:=hb.2;omega
 have C1:(c.natAbs:Int)<18446744073709551616:=by have:=hc.1;have:=hc.2;omega
 have C0:0<(c.natAbs:Int):=qg;have P0:0≤(a.natAbs:Int)*b.natAbs:=Int.mul_nonneg qg qg;have A0:0≤(a.natAbs:Int):=qg;have B0:0≤(b.natAbs:Int):=qg;have F:=nY 2 a b c h0;generalize hA:(a.natAbs:Int)=A at*;generalize hB:(b.natAbs:Int)=B at*;generalize hC:(c.natAbs:Int)=D at*;generalize hQ:A*B/D=Q at*;generalize hR:A*B%D=R at*;obtain⟨F1,F2,F3,F4,F5,F6,F7⟩:=F;have G5:=hide F5;have G6:=hide F6;have G7:=hide F7;clear F5 F6 F7 h0;by_cases hd:D≤A*B/18446744073709551616
 ·go_enter Tryz.func71,Tryz.ntmps71;go_wp2_with(first|(go_at_call 63;refine(tG _ qY _).mono ?_;rintro e w' ⟨rfl,rfl⟩)|(go_at_call 62;refine(bk _ _ qg qg qg qg _).mono ?_;rintro e w' ⟨rfl,rfl⟩));go_ret2;exact⟨tF (by rw[G5.out hd]) (by rw[G5.out hd]),0,rfl⟩
 ·have q1:0≤A*B/18446744073709551616:=qg;have q2:A*B/18446744073709551616<D:=qg;have q3:0≤A*B%18446744073709551616:=qg;have q4:A*B%18446744073709551616<18446744073709551616:=qg;have q5:Q<18446744073709551616:=G6.out q2;have K0:∀(neg:Bool) (k:Int),(neg=true↔((a<0↔¬b<0)↔¬c<0))→((away 2 neg R.toNat D.toNat).toNat:Int)=k→qL 2 a b c=sg (Q+k) neg:=fun neg k h2 h3=>WR k h1 F2 (G7.out neg h2) h3
  have AW:=fun neg=>aw 2 neg R D F3 F4
  have K1:∀(neg:Bool),(neg=true↔((a<0↔¬b<0)↔¬c<0))→((away 2 neg R.toNat D.toNat).toNat:Int)=0→qL 2 a b c=sg Q neg:=fun neg h2 h3=>by rw[K0 neg 0 h2 h3,Int.add_zero]
  have K2:∀(neg:Bool),(neg=true↔((a<0↔¬b<0)↔¬c<0))→((away 2 neg R.toNat D.toNat).toNat:Int)=1→18446744073709551615≤Q→qL 2 a b c=(0,2):=fun neg h2 h3 h4=>by
   rw[K0 neg 1 h2 h3];unfold sg Qu;cases neg<;>simp<;>omega
  have GK:=hide K0;have GK1:=hide K1;have GK2:=hide K2;clear K1 K2;have GA:=hide AW;clear K0 AW
  have T:(D-R<R∧decide (D-R<R)=true)∨(R≤D-R∧D-R≤R∧decide (D-R<R)=false∧(R==D-R)=true)∨(R<D-R∧decide (D-R<R)=false∧(R==D-R)=false):=by
   by_cases t1:D-R<R
   ·exact .inl ⟨t1,decide_eq_true t1⟩
   ·by_cases t2:R<D-R
    ·exact .inr (.inr ⟨t2,decide_eq_false t1,by simp;omega⟩)
    ·exact .inr (.inl ⟨qg,qg,decide_eq_false t1,by simp;omega⟩)
  by_cases qm:Q<18446744073709551615
  case' pos=>have qm':(Q==18446744073709551615)=false:=by simp;omega
  case' neg=>have qm':(Q==18446744073709551615)=true:=by simp;omega
  all_goals rcases T with⟨t1,t2⟩|⟨t1,t2,t3,t4⟩|⟨t1,t2,t3⟩
  all_goals by_cases sa:a<0<;>by_cases sb:b<0<;>by_cases sc:c<0
  all_goals
   go_enter Tryz.func71,Tryz.ntmps71;go_wp2_with(first|(go_at_call 63;refine(tG _ qY _).mono ?_;rintro e w' ⟨rfl,rfl⟩)|(go_at_call 62;refine(bk _ _ qg qg qg qg _).mono ?_;rintro e w' ⟨rfl,rfl⟩)|(go_at_call 64;refine(Ql _ _ qg _).mono ?_;rintro e w' ⟨rfl,rfl⟩)|(go_at_call 144;refine(YF _ _ _ q1 q2 q3 q4 qg _).mono ?_;rintro e w' ⟨rfl,m,rfl⟩))
  all_goals
   go_ret2;refine⟨?_,_,rfl⟩
   first
   |(refine yV (GK.out true 1 ?_ ?_).symm<;>first|omega|(simp;done)|(simp;omega)|(rw[GA.out true];simp;done)|(rw[GA.out true];simp;omega))
   |(refine yV (GK1.out true ?_ ?_).symm<;>first|omega|(simp;done)|(simp;omega)|(rw[GA.out true];simp;done)|(rw[GA.out true];simp;omega))
   |(refine yV (GK.out false 1 ?_ ?_).symm<;>first|omega|(simp;done)|(simp;omega)|(rw[GA.out false];simp;done)|(rw[GA.out false];simp;omega))
   |(refine yV (GK1.out false ?_ ?_).symm<;>first|omega|(simp;done)|(simp;omega)|(rw[GA.out false];simp;done)|(rw[GA.out false];simp;omega))
   |(refine yV (x:=(0,2)) (GK2.out true ?_ ?_ ?_).symm<;>first|omega|(simp;done)|(simp;omega)|(rw[GA.out true];simp;done)|(rw[GA.out true];simp;omega))
   |(refine yV (x:=(0,2)) (GK2.out false ?_ ?_ ?_).symm<;>first|omega|(simp;done)|(simp;omega)|(rw[GA.out false];simp;done)|(rw[GA.out false];simp;omega))
theorem uj:qz 1:=yq
theorem QU(m:Nat)(a b:Int):qL m a b 0=(0,1):=by unfold qL;simp
theorem Kn(a b c:Int)(ha:qz a)(hb:qz b)(hc:qz c)(w:World):
 Calls Tryz.prog 71 #[Iv a,Iv b,Iv c,.int .u8 0] w fun e w'=>e= .returned (.tuple #[Iv (qL 0 a b c).1,Iv (qL 0 a b c).2])∧∃n,w'=w.drewN n:=by
 by_cases h0:c=0
 ·subst h0;rw[QU];exact Jh a b 0 w
 ·exact nK a b c ha hb hc h0 w
theorem Qh(a b c:Int)(ha:qz a)(hb:qz b)(hc:qz c)(w:World):
 Calls Tryz.prog 71 #[Iv a,Iv b,Iv c,.int .u8 1] w fun e w'=>e= .returned (.tuple #[Iv (qL 1 a b c).1,Iv (qL 1 a b c).2])∧∃n,w'=w.drewN n:=by
 by_cases h0:c=0
 ·subst h0;rw[QU];exact Jh a b 1 w
 ·exact WD a b c ha hb hc h0 w
theorem QV(a b c:Int)(ha:qz a)(hb:qz b)(hc:qz c)(w:World):
 Calls Tryz.prog 71 #[Iv a,Iv b,Iv c,.int .u8 2] w fun e w'=>e= .returned (.tuple #[Iv (qL 2 a b c).1,Iv (qL 2 a b c).2])∧∃n,w'=w.drewN n:=by
 by_cases h0:c=0
 ·subst h0;rw[QU];exact Jh a b 2 w
 ·exact nL a b c ha hb hc h0 w
theorem Zu(a b:Int)(ha:qz a)(hb:qz b)(w:World):
 Calls Tryz.prog 92 #[Iv a,Iv b] w fun e w'=>e= .returned (.tuple #[Iv (qL 2 a 1 b).1,Iv (qL 2 a 1 b).2])∧∃n,w'=w.drewN n:=by
 go_enter Tryz.func92,Tryz.ntmps92;go_wp2_with(go_at_call 71;refine(QV _ _ _ (by first|assumption|exact uj) (by first|assumption|exact uj) qY _).mono ?_;rintro e w' ⟨rfl,m,rfl⟩);go_ret2;exact⟨rfl,_,rfl⟩
theorem vZ(a b c:Int)(ha:qz a)(hb:qz b)(hc:qz c)(w:World):
 Calls Tryz.prog 25 #[Iv a,Iv b,Iv c] w fun e w'=>e= .returned (.tuple #[Iv (qL 2 a b c).1,Iv (qL 2 a b c).2])∧∃n,w'=w.drewN n:=by
 go_enter Tryz.func25,Tryz.ntmps25;go_wp2_with(go_at_call 71;refine(QV _ _ _ (by first|assumption|exact uj) (by first|assumption|exact uj) qY _).mono ?_;rintro e w' ⟨rfl,m,rfl⟩);go_ret2;exact⟨rfl,_,rfl⟩
theorem Qi(a b c:Int)(ha:qz a)(hb:qz b)(hc:qz c)(w:World):
 Calls Tryz.prog 38 #[Iv a,Iv b,Iv c] w fun e w'=>e= .returned (.tuple #[Iv (qL 1 a b c).1,Iv (qL 1 a b c).2])∧∃n,w'=w.drewN n:=by
 go_enter Tryz.func38,Tryz.ntmps38;go_wp2_with(go_at_call 71;refine(Qh _ _ _ (by first|assumption|exact uj) (by first|assumption|exact uj) qY _).mono ?_;rintro e w' ⟨rfl,m,rfl⟩);go_ret2;exact⟨rfl,_,rfl⟩
theorem Vm(a b:Int)(ha:qz a)(hb:qz b)(w:World):
 Calls Tryz.prog 20 #[Iv a,Iv b] w fun e w'=>e= .returned (Iv (sat (a+b)))∧w=w':=by
 obtain⟨a1,a2⟩:=ha;obtain⟨b1,b2⟩:=hb;go_enter Tryz.func20,Tryz.ntmps20;go_wp2
 all_goals
  go_ret;refine⟨qQ ?_,rfl⟩;unfold sat dF;simp[wrap64]at*;omega
theorem MS(a b:Int)(ha:qz a)(hb:qz b)(w:World):
 Calls Tryz.prog 22 #[Iv a,Iv b] w fun e w'=>e= .returned (Iv (sat (a-b)))∧w=w':=by
 obtain⟨a1,a2⟩:=ha;obtain⟨b1,b2⟩:=hb;go_enter Tryz.func22,Tryz.ntmps22;go_wp2
 all_goals
  go_ret;refine⟨qQ ?_,rfl⟩;unfold sat dF;simp[wrap64]at*;omega
theorem kV(a:Int)(ha:qz a)(h:a≠ -9223372036854775808)(w:World):
 Calls Tryz.prog 67 #[Iv a] w fun e w'=>e= .returned (Iv a.natAbs)∧w=w':=by
 obtain⟨a1,a2⟩:=ha;have h1:(a== -9223372036854775808)=false:=by simp[h]
 have h2: -9223372036854775807≤a:=qg;clear h;by_cases hn:a<0
 all_goals
  go_enter Tryz.func67,Tryz.ntmps67;go_wp2;go_ret;exact⟨qQ qg,rfl⟩
theorem sH{n x:Int}(hn:0≤n)(hx:1≤x):(kE n.toNat:Int)≤(x+n/x)/2:=by
 have h:=JG n hn;generalize(kE n.toNat:Int)=r at*;rcases Int.lt_or_le ((x+n/x)/2) r with h1|h1
 ·exfalso;have h2:n/x≤2*r-1-x:=qg;have h3:n/x<2*r-x:=qg;rw[Int.ediv_lt_iff_lt_mul qg]at h3;have e:(2*r-x)*x=r*r-(r-x)*(r-x):=by grind
  have:=yO (r-x);omega
 ·exact h1
theorem nM{n x:Int}(hn:0≤n)(hx:1≤x)(h1:x≤(x+n/x)/2)(h2:(kE n.toNat:Int)≤x):x=kE n.toNat:=by
 have h:=JG n hn;have h3:x≤n/x:=qg;rw[Int.le_ediv_iff_mul_le qg]at h3;have:=Mn (a:=x) (b:=(kE n.toNat:Int)+1) qg qg;omega
theorem JT(n:Int)(hn:qz n)(w:World):
 Calls Tryz.prog 90 #[Iv n] w fun e w'=>e= .returned (Iv (kE n.toNat))∧∃k,w'=w.drewN k:=by
 obtain⟨n1,n2⟩:=hn;by_cases h0:n≤0
 ·have e:kE n.toNat=0:=by rw[show n.toNat=0 from by omega];rfl
  go_enter Tryz.func90,Tryz.ntmps90;go_wp2;go_ret;exact⟨qQ (by rw[e];rfl),0,rfl⟩
 ·go_enter Tryz.func90,Tryz.ntmps90;go_wp2_with fail;refine(Tryz.bits_Len64 n w qg qg).mono ?_;rintro e w' ⟨rfl,rfl⟩;obtain⟨L,hL⟩:∃L,Lib.bitLen n.toNat=L:=⟨_,rfl⟩;obtain⟨b1,b2,b3⟩:=Lib.bitLenAux_bounds 64 n.toNat (by simp;omega) qg;have b0:Lib.bitLenAux 64 n.toNat≤63:=Lib.bitLenAux_le 64 n.toNat 63 (by simp;omega);have hL':Lib.bitLenAux 64 n.toNat=L:=hL;rw[hL']at b1 b2 b3 b0;have HL:=hide hL';clear hL'
  have hx0:∃x0:Int,wrap64 (2^((L+1)/2))=x0∧1≤x0∧x0≤4294967296∧(kE n.toNat:Int)≤x0:=by
   have h1:(2:Nat)^((L+1)/2)≤2^32:=Nat.pow_le_pow_right qG qg;have h2:0<(2:Nat)^((L+1)/2):=Nat.two_pow_pos _
   have h3:(2:Nat)^L≤2^((L+1)/2)*2^((L+1)/2):=by
    rw[←Nat.pow_add];exact Nat.pow_le_pow_right qG qg
   have h4:=Bi (n:=n.toNat) (r:=2^((L+1)/2)) qg;have e:(2:Int)^((L+1)/2)=((2^((L+1)/2):Nat):Int):=by rw[Int.natCast_pow];rfl
   rw[e];generalize(2:Nat)^((L+1)/2)=p at*;refine⟨p,?_,by omega,by omega,qg⟩;unfold wrap64;omega
  obtain⟨x0,ex,x1,x2,x3⟩:=hx0;obtain⟨r,hr⟩:∃r,r=(kE n.toNat:Int):=⟨_,rfl⟩;rw[←hr]at x3;have hi:=JG n qg;rw[←hr]at hi
  have r0:1≤r:=by
   have:(1:Nat)≤kE n.toNat:=FV qg;omega
  have HR:=hide hr;have HI:=hide hi;clear hr hi;go_wp2_with fail;go_loop [3] (fun a=>∃x:Int,a=Iv x∧1≤x∧x≤4294967296∧r≤x) (fun a=>(intOf a).toNat)
  case atStart=>exact⟨x0,by rw[ex],x1,x2,x3⟩
  case round=>
   obtain⟨x,rfl,y1,y2,y3⟩:=hrel;have lo:=sH (n:=n) (x:=x) qg y1;rw[←HR.out]at lo;have q0:0≤n/x:=Int.ediv_nonneg qg qg
   have q1:n/x≤x+2:=by
    have h1:n/x<x+3:=by
     rw[Int.ediv_lt_iff_lt_mul qg];have h2:(r+1)*(r+1)≤(x+1)*(x+1):=Int.mul_le_mul qg qg qg qg;have h3:=HI.out.2;have e1:(x+1)*(x+1)=x*x+2*x+1:=by grind
     have e2:(x+3)*x=x*x+3*x:=by grind
     omega
    omega
   by_cases hx:x≤(x+n/x)/2
   ·have he:=nM (n:=n) (x:=x) qg y1 hx (by rw[←HR.out];exact y3);have HE:=hide he;clear he;go_wp2_with fail;go_ret;exact⟨qQ HE.out,0,rfl⟩
   ·go_wp2_with fail;go_round
    case rel=>exact⟨(x+n/x)/2,rfl,by omega,by omega,lo⟩
    case measure=>simp[intOf];omega
end Go.Proofs.YtiegohjobhehcaaGreatDoor
