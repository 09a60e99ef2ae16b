/-
  The walk of the reference's quotient, rounding to the nearest.
-/
import Derived.Test.YtcgpbnlhnafhjaaGreatDoorMShelf
namespace Go.Proofs.YtcgpbnlhnafhjaaGreatDoor
open Go.RowKit
set_option linter.unusedVariables false
theorem flip(x:Int)(h:0≤x)(h2:x<18446744073709551616):bits .xor .u64 IntKind.u64.max x=18446744073709551615-x:=by
 have e:BitVec.ofInt 64 IntKind.u64.max=BitVec.allOnes 64:=by decide+kernel
 show IntKind.u64.wrap (((BitVec.ofInt 64 IntKind.u64.max^^^BitVec.ofInt 64 x).toNat:Nat):Int)=_
 rw[e,BitVec.allOnes_xor,BitVec.toNat_not,BitVec.toNat_ofInt,IntKind.wrap_u64];omega
set_option maxHeartbeats 4000000 in
theorem cS(a b c:Int)(ha:qK a)(hb:qK b)(hc:qK c)(h0:c≠0)(w:World):
 Calls Tryz.prog 119 #[Iv a,Iv b,Iv c,Iv 2] w fun e w'=>e= .returned (.tuple #[Iv (qR 2 a b c).1,Iv (qR 2 a b c).2])∧∃n,w'=w.drewN n:=by
 have h1:(c==0)=false:=by simp[h0]
 have A1:(a.natAbs:Int)≤9223372036854775808:=by have:=ha.1;have:=ha.2;omega
 have B1:(b.natAbs:Int)≤9223372036854775808:=by have:=hb.1;have:=hb.2;omega
 have C1:(c.natAbs:Int)≤9223372036854775808:=by have:=hc.1;have:=hc.2;omega
 have C0:0<(c.natAbs:Int):=DL;have P0:0≤(a.natAbs:Int)*b.natAbs:=Int.mul_nonneg DL DL;have A0:0≤(a.natAbs:Int):=DL;have B0:0≤(b.natAbs:Int):=DL;have P1:(a.natAbs:Int)*b.natAbs≤9223372036854775808*9223372036854775808:=Int.mul_le_mul A1 B1 B0 DQ
 have PQ:(a.natAbs:Int)*b.natAbs/c.natAbs≤9223372036854775808*9223372036854775808:=by
  have:=Int.ediv_le_self c.natAbs P0;omega
 have F:=Vh 2 a b c h0;generalize hA:(a.natAbs:Int)=A at*;generalize hB:(b.natAbs:Int)=B at*;generalize hC:(c.natAbs:Int)=D at*;generalize hQ:A*B/D=Q at*;generalize hR:A*B%D=R at*;obtain⟨F1,F2,F3,F4,F5,F6,F7⟩:=F;have G7:=hide F7;clear F5 F6 F7 h0;have q1:0≤A*B/18446744073709551616:=DL;have q2:A*B/18446744073709551616<18446744073709551616:=DL;have q3:0≤A*B%18446744073709551616:=DL;have q4:A*B%18446744073709551616<18446744073709551616:=DL;have K0:∀(neg:Bool) (k:Int),(neg=true↔((a<0↔¬b<0)↔¬c<0))→((away 2 neg R.toNat D.toNat).toNat:Int)=k→qR 2 a b c=sg (Q+k) neg:=fun neg k h2 h3=>Gh k h1 F2 (G7.out neg h2) h3
 have AW:=fun neg=>aw 2 neg R D F3 F4
 have K1:∀(neg:Bool),(neg=true↔((a<0↔¬b<0)↔¬c<0))→((away 2 neg R.toNat D.toNat).toNat:Int)=0→9223372036854775809≤Q→qR 2 a b c=(0,2):=fun neg h2 h3 h4=>by
  rw[K0 neg 0 h2 h3];unfold sg kv;cases neg<;>simp<;>omega
 have K2:∀(neg:Bool),(neg=true↔((a<0↔¬b<0)↔¬c<0))→((away 2 neg R.toNat D.toNat).toNat:Int)=1→9223372036854775808≤Q→qR 2 a b c=(0,2):=fun neg h2 h3 h4=>by
  rw[K0 neg 1 h2 h3];unfold sg kv;cases neg<;>simp<;>omega
 have K3:∀(k:Int),¬((a<0↔¬b<0)↔¬c<0)→((away 2 false R.toNat D.toNat).toNat:Int)=k→Q+k<9223372036854775808→qR 2 a b c=(Q+k,0):=fun k h2 h3 h4=>by
  rw[K0 false k (by simp only[Bool.false_eq_true,false_iff];exact h2) h3];unfold sg kv;simp;omega
 have K4:∀(k:Int),((a<0↔¬b<0)↔¬c<0)→((away 2 true R.toNat D.toNat).toNat:Int)=k→Q+k≤9223372036854775808→qR 2 a b c=(-(Q+k),0):=fun k h2 h3 h4=>by
  rw[K0 true k (by simp only[true_iff];exact h2) h3];unfold sg kv;simp;omega
 have K5:∀(k:Int),¬((a<0↔¬b<0)↔¬c<0)→((away 2 false R.toNat D.toNat).toNat:Int)=k→9223372036854775808≤Q+k→qR 2 a b c=(0,2):=fun k h2 h3 h4=>by
  rw[K0 false k (by simp only[Bool.false_eq_true,false_iff];exact h2) h3];unfold sg kv;simp;omega
 have GK:=hide K0;have GK3:=hide K3;have GK4:=hide K4;have GK5:=hide K5;have GA:=hide AW;have GK1:=hide K1;have GK2:=hide K2;clear K0 AW K1 K2 K3 K4 K5
 have T:(D-R<R∧decide (D-R<R)=true)∨(R≤D-R∧D-R≤R∧decide (D-R<R)=false∧(R==D-R)=true)∨(R<D-R∧decide (D-R<R)=false∧(R==D-R)=false):=by
  by_cases t1:D-R<R
  ·exact .inl ⟨t1,decide_eq_true t1⟩
  ·by_cases t2:R<D-R
   ·exact .inr (.inr ⟨t2,decide_eq_false t1,by simp;omega⟩)
   ·exact .inr (.inl ⟨DL,DL,decide_eq_false t1,by simp;omega⟩)
 have QC:(18446744073709551616≤Q∧0<Q/18446744073709551616∧Q/18446744073709551616≤9223372036854775808∧0≤Q%18446744073709551616∧Q%18446744073709551616<18446744073709551616)∨
  (Q=18446744073709551615∧Q/18446744073709551616=0∧Q%18446744073709551616=18446744073709551615)∨(Q<18446744073709551615∧Q/18446744073709551616=0∧Q%18446744073709551616=Q):=DL
 have S:(Hid (a<0↔¬b<0)∧(decide (a<0) !=decide (b<0))=true∧(decide (a<0)==decide (b<0))=false)∨(Hid (¬(a<0↔¬b<0))∧(decide (a<0) !=decide (b<0))=false∧(decide (a<0)==decide (b<0))=true):=by
  by_cases sa:a<0<;>by_cases sb:b<0
  ·exact .inr ⟨show¬(_↔_) by omega,by simp[sa,sb],by simp[sa,sb]⟩
  ·exact .inl ⟨show(_↔_) by omega,by simp[sa,sb],by simp[sa,sb]⟩
  ·exact .inl ⟨show(_↔_) by omega,by simp[sa,sb],by simp[sa,sb]⟩
  ·exact .inr ⟨show¬(_↔_) by omega,by simp[sa,sb],by simp[sa,sb]⟩
 rcases S with⟨sg1,sg2,sg3⟩|⟨sg1,sg2,sg3⟩
 all_goals by_cases sc:c<0
 all_goals rcases QC with⟨c1,c2,c3,c4,c5⟩|⟨c1,c2,c3⟩|⟨c1,c2,c3⟩
 all_goals rcases T with⟨t1,t2⟩|⟨t1,t2,t3,t4⟩|⟨t1,t2,t3⟩
 all_goals
  go_enter Tryz.func119,Tryz.ntmps119;go_wp2_with(first|(go_at_call 187;refine(JA _ DM _).mono ?_;rintro e w' ⟨rfl,rfl⟩)|(go_at_call 186;refine(Qp _ _ DL DL DL DL _).mono ?_;rintro e w' ⟨rfl,rfl⟩)|(go_at_call 188;refine(Zu _ _ _ q1 q2 q3 q4 DL DL _).mono ?_;rintro e w' ⟨rfl,rfl⟩))
 all_goals
  go_ret2;have sg1:=sg1.out;refine⟨?_,0,rfl⟩
  first
  |(refine jL (x:=(0,2)) (GK1.out true ?_ ?_ ?_).symm<;>first|omega|(simp;done)|(simp;omega)|(rw[GA.out true];simp;done)|(rw[GA.out true];simp;omega))
  |(refine jL (x:=(0,2)) (GK2.out true ?_ ?_ ?_).symm<;>first|omega|(simp;done)|(simp;omega)|(rw[GA.out true];simp;done)|(rw[GA.out true];simp;omega))
  |(have e:=GK5.out 0 DL (by rw[GA.out false];first|(simp;done)|(simp;omega)) DL;exact jL (x:=(0,2)) e.symm)
  |(have e:=GK5.out 1 DL (by rw[GA.out false];first|(simp;done)|(simp;omega)) DL;exact jL (x:=(0,2)) e.symm)
  |(have e:=GK3.out 0 DL (by rw[GA.out false];first|(simp;done)|(simp;omega)) DL;rw[e];refine jV ?_ ?_<;>first|rfl|omega|(simp[wrap64,IntKind.wrap_u64];done)|(simp[wrap64,IntKind.wrap_u64];omega))
  |(have e:=GK3.out 1 DL (by rw[GA.out false];first|(simp;done)|(simp;omega)) DL;rw[e];refine jV ?_ ?_<;>first|rfl|omega|(simp[wrap64,IntKind.wrap_u64];done)|(simp[wrap64,IntKind.wrap_u64];omega))
  |(have e:=GK4.out 0 DL (by rw[GA.out true];first|(simp;done)|(simp;omega)) DL;rw[e];refine jV ?_ ?_<;>first|rfl|omega|(simp[wrap64,IntKind.wrap_u64];done)|(simp[wrap64,IntKind.wrap_u64];omega)|((rw[flip]<;>first|omega|skip);unfold wrap64;simp only[IntKind.wrap_u64];omega))
  |(have e:=GK4.out 1 DL (by rw[GA.out true];first|(simp;done)|(simp;omega)) DL;rw[e];refine jV ?_ ?_<;>first|rfl|omega|(simp[wrap64,IntKind.wrap_u64];done)|(simp[wrap64,IntKind.wrap_u64];omega)|((rw[flip]<;>first|omega|skip);unfold wrap64;simp only[IntKind.wrap_u64];omega))
end Go.Proofs.YtcgpbnlhnafhjaaGreatDoor
