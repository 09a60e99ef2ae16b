/-
  The walk of fixed.scale, rounding down.
-/
import Derived.Test.YtcgpbnlhnafhjaaGreatDoorMShelf
set_option maxRecDepth 100000
set_option maxHeartbeats 16000000
namespace Go.Proofs.YtcgpbnlhnafhjaaGreatDoor
open Go.RowKit
set_option linter.unusedVariables false
theorem eK(a b c:Int)(ha:qK a)(hb:qK b)(hc:qK c)(h0:c≠0)(w:World):
 Calls Tryz.prog 72 #[Iv a,Iv b,Iv c,.int .u8 1] w fun e w'=>e= .returned (.tuple #[Iv (qR 1 a b c).1,Iv (qR 1 a b c).2])∧∃n,w'=w.drewN n:=by
 have h1:(c==0)=false:=by simp[h0]
 have A1:(a.natAbs:Int)<18446744073709551616:=by have:=ha.1;have:=ha.2;omega
 have B1:(b.natAbs:Int)<18446744073709551616:=by have:=hb.1;have:=hb.2;omega
 have C1:(c.natAbs:Int)<18446744073709551616:=by have:=hc.1;have:=hc.2;omega
 have C0:0<(c.natAbs:Int):=DL;have P0:0≤(a.natAbs:Int)*b.natAbs:=Int.mul_nonneg DL DL;have A0:0≤(a.natAbs:Int):=DL;have B0:0≤(b.natAbs:Int):=DL;have F:=Vh 1 a b c h0;generalize hA:(a.natAbs:Int)=A at*;generalize hB:(b.natAbs:Int)=B at*;generalize hC:(c.natAbs:Int)=D at*;generalize hQ:A*B/D=Q at*;generalize hR:A*B%D=R at*;obtain⟨F1,F2,F3,F4,F5,F6,F7⟩:=F;have G5:=hide F5;have G6:=hide F6;have G7:=hide F7;clear F5 F6 F7 h0;by_cases hd:D≤A*B/18446744073709551616
 ·go_enter Tryz.func72,Tryz.ntmps72;go_wp2_with(first|(go_at_call 137;refine(ZF _ DM _).mono ?_;rintro e w' ⟨rfl,rfl⟩)|(go_at_call 138;refine(Qx _ _ DL DL DL DL _).mono ?_;rintro e w' ⟨rfl,rfl⟩));go_ret2;exact⟨jV (by rw[G5.out hd]) (by rw[G5.out hd]),0,rfl⟩
 ·have q1:0≤A*B/18446744073709551616:=DL;have q2:A*B/18446744073709551616<D:=DL;have q3:0≤A*B%18446744073709551616:=DL;have q4:A*B%18446744073709551616<18446744073709551616:=DL;have q5:Q<18446744073709551616:=G6.out q2;have K0:∀(neg:Bool) (k:Int),(neg=true↔((a<0↔¬b<0)↔¬c<0))→((away 1 neg R.toNat D.toNat).toNat:Int)=k→qR 1 a b c=sg (Q+k) neg:=fun neg k h2 h3=>Gh k h1 F2 (G7.out neg h2) h3
  have AW:=fun neg=>aw 1 neg R D F3 F4
  have K1:∀(neg:Bool),(neg=true↔((a<0↔¬b<0)↔¬c<0))→((away 1 neg R.toNat D.toNat).toNat:Int)=0→qR 1 a b c=sg Q neg:=fun neg h2 h3=>by rw[K0 neg 0 h2 h3,Int.add_zero]
  have K2:∀(neg:Bool),(neg=true↔((a<0↔¬b<0)↔¬c<0))→((away 1 neg R.toNat D.toNat).toNat:Int)=1→18446744073709551615≤Q→qR 1 a b c=(0,2):=fun neg h2 h3 h4=>by
   rw[K0 neg 1 h2 h3];unfold sg kv;cases neg<;>simp<;>omega
  have GK:=hide K0;have GK1:=hide K1;have GK2:=hide K2;clear K1 K2;have GA:=hide AW;clear K0 AW;by_cases qm:Q<18446744073709551615
  case' pos=>have qm':(Q==18446744073709551615)=false:=by simp;omega
  case' neg=>have qm':(Q==18446744073709551615)=true:=by simp;omega
  all_goals by_cases sa:a<0<;>by_cases sb:b<0<;>by_cases sc:c<0
  all_goals
   go_enter Tryz.func72,Tryz.ntmps72;go_wp2_with(first|(go_at_call 137;refine(ZF _ DM _).mono ?_;rintro e w' ⟨rfl,rfl⟩)|(go_at_call 138;refine(Qx _ _ DL DL DL DL _).mono ?_;rintro e w' ⟨rfl,rfl⟩)|(go_at_call 140;refine(Vi _ _ DL _).mono ?_;rintro e w' ⟨rfl,rfl⟩)|(go_at_call 139;refine(KL _ _ _ q1 q2 q3 q4 DL _).mono ?_;rintro e w' ⟨rfl,m,rfl⟩))
  all_goals
   go_ret2;refine⟨?_,_,rfl⟩
   first
   |(refine jL (GK.out true 1 ?_ ?_).symm<;>first|omega|(simp;done)|(simp;omega)|(rw[GA.out true];simp;done)|(rw[GA.out true];simp;omega))
   |(refine jL (GK1.out true ?_ ?_).symm<;>first|omega|(simp;done)|(simp;omega)|(rw[GA.out true];simp;done)|(rw[GA.out true];simp;omega))
   |(refine jL (GK.out false 1 ?_ ?_).symm<;>first|omega|(simp;done)|(simp;omega)|(rw[GA.out false];simp;done)|(rw[GA.out false];simp;omega))
   |(refine jL (GK1.out false ?_ ?_).symm<;>first|omega|(simp;done)|(simp;omega)|(rw[GA.out false];simp;done)|(rw[GA.out false];simp;omega))
   |(refine jL (x:=(0,2)) (GK2.out true ?_ ?_ ?_).symm<;>first|omega|(simp;done)|(simp;omega)|(rw[GA.out true];simp;done)|(rw[GA.out true];simp;omega))
   |(refine jL (x:=(0,2)) (GK2.out false ?_ ?_ ?_).symm<;>first|omega|(simp;done)|(simp;omega)|(rw[GA.out false];simp;done)|(rw[GA.out false];simp;omega))
theorem pP(a b c:Int)(ha:qK a)(hb:qK b)(hc:qK c)(h0:c≠0)(w:World):
 Calls Tryz.prog 72 #[Iv a,Iv b,Iv c,.int .u8 2] w fun e w'=>e= .returned (.tuple #[Iv (qR 2 a b c).1,Iv (qR 2 a b c).2])∧∃n,w'=w.drewN n:=by
 have h1:(c==0)=false:=by simp[h0]
 have A1:(a.natAbs:Int)<18446744073709551616:=by have:=ha.1;have:=ha.2;omega
 have B1:(b.natAbs:Int)<18446744073709551616:=by have:=hb.1;have:=hb.2;omega
 have C1:(c.natAbs:Int)<18446744073709551616:=by have:=hc.1;have:=hc.2;omega
 have C0:0<(c.natAbs:Int):=DL;have P0:0≤(a.natAbs:Int)*b.natAbs:=Int.mul_nonneg DL DL;have A0:0≤(a.natAbs:Int):=DL;have B0:0≤(b.natAbs:Int):=DL;have F:=Vh 2 a b c h0;generalize hA:(a.natAbs:Int)=A at*;generalize hB:(b.natAbs:Int)=B at*;generalize hC:(c.natAbs:Int)=D at*;generalize hQ:A*B/D=Q at*;generalize hR:A*B%D=R at*;obtain⟨F1,F2,F3,F4,F5,F6,F7⟩:=F;have G5:=hide F5;have G6:=hide F6;have G7:=hide F7;clear F5 F6 F7 h0;by_cases hd:D≤A*B/18446744073709551616
 ·go_enter Tryz.func72,Tryz.ntmps72;go_wp2_with(first|(go_at_call 137;refine(ZF _ DM _).mono ?_;rintro e w' ⟨rfl,rfl⟩)|(go_at_call 138;refine(Qx _ _ DL DL DL DL _).mono ?_;rintro e w' ⟨rfl,rfl⟩));go_ret2;exact⟨jV (by rw[G5.out hd]) (by rw[G5.out hd]),0,rfl⟩
 ·have q1:0≤A*B/18446744073709551616:=DL;have q2:A*B/18446744073709551616<D:=DL;have q3:0≤A*B%18446744073709551616:=DL;have q4:A*B%18446744073709551616<18446744073709551616:=DL;have q5:Q<18446744073709551616:=G6.out q2;have K0:∀(neg:Bool) (k:Int),(neg=true↔((a<0↔¬b<0)↔¬c<0))→((away 2 neg R.toNat D.toNat).toNat:Int)=k→qR 2 a b c=sg (Q+k) neg:=fun neg k h2 h3=>Gh k h1 F2 (G7.out neg h2) h3
  have AW:=fun neg=>aw 2 neg R D F3 F4
  have K1:∀(neg:Bool),(neg=true↔((a<0↔¬b<0)↔¬c<0))→((away 2 neg R.toNat D.toNat).toNat:Int)=0→qR 2 a b c=sg Q neg:=fun neg h2 h3=>by rw[K0 neg 0 h2 h3,Int.add_zero]
  have K2:∀(neg:Bool),(neg=true↔((a<0↔¬b<0)↔¬c<0))→((away 2 neg R.toNat D.toNat).toNat:Int)=1→18446744073709551615≤Q→qR 2 a b c=(0,2):=fun neg h2 h3 h4=>by
   rw[K0 neg 1 h2 h3];unfold sg kv;cases neg<;>simp<;>omega
  have GK:=hide K0;have GK1:=hide K1;have GK2:=hide K2;clear K1 K2;have GA:=hide AW;clear K0 AW
  have T:(D-R<R∧decide (D-R<R)=true)∨(R≤D-R∧D-R≤R∧decide (D-R<R)=false∧(R==D-R)=true)∨(R<D-R∧decide (D-R<R)=false∧(R==D-R)=false):=by
   by_cases t1:D-R<R
   ·exact .inl ⟨t1,decide_eq_true t1⟩
   ·by_cases t2:R<D-R
    ·exact .inr (.inr ⟨t2,decide_eq_false t1,by simp;omega⟩)
    ·exact .inr (.inl ⟨DL,DL,decide_eq_false t1,by simp;omega⟩)
  by_cases qm:Q<18446744073709551615
  case' pos=>have qm':(Q==18446744073709551615)=false:=by simp;omega
  case' neg=>have qm':(Q==18446744073709551615)=true:=by simp;omega
  all_goals rcases T with⟨t1,t2⟩|⟨t1,t2,t3,t4⟩|⟨t1,t2,t3⟩
  all_goals by_cases sa:a<0<;>by_cases sb:b<0<;>by_cases sc:c<0
  all_goals
   go_enter Tryz.func72,Tryz.ntmps72;go_wp2_with(first|(go_at_call 137;refine(ZF _ DM _).mono ?_;rintro e w' ⟨rfl,rfl⟩)|(go_at_call 138;refine(Qx _ _ DL DL DL DL _).mono ?_;rintro e w' ⟨rfl,rfl⟩)|(go_at_call 140;refine(Vi _ _ DL _).mono ?_;rintro e w' ⟨rfl,rfl⟩)|(go_at_call 139;refine(KL _ _ _ q1 q2 q3 q4 DL _).mono ?_;rintro e w' ⟨rfl,m,rfl⟩))
  all_goals
   go_ret2;refine⟨?_,_,rfl⟩
   first
   |(refine jL (GK.out true 1 ?_ ?_).symm<;>first|omega|(simp;done)|(simp;omega)|(rw[GA.out true];simp;done)|(rw[GA.out true];simp;omega))
   |(refine jL (GK1.out true ?_ ?_).symm<;>first|omega|(simp;done)|(simp;omega)|(rw[GA.out true];simp;done)|(rw[GA.out true];simp;omega))
   |(refine jL (GK.out false 1 ?_ ?_).symm<;>first|omega|(simp;done)|(simp;omega)|(rw[GA.out false];simp;done)|(rw[GA.out false];simp;omega))
   |(refine jL (GK1.out false ?_ ?_).symm<;>first|omega|(simp;done)|(simp;omega)|(rw[GA.out false];simp;done)|(rw[GA.out false];simp;omega))
   |(refine jL (x:=(0,2)) (GK2.out true ?_ ?_ ?_).symm<;>first|omega|(simp;done)|(simp;omega)|(rw[GA.out true];simp;done)|(rw[GA.out true];simp;omega))
   |(refine jL (x:=(0,2)) (GK2.out false ?_ ?_ ?_).symm<;>first|omega|(simp;done)|(simp;omega)|(rw[GA.out false];simp;done)|(rw[GA.out false];simp;omega))
theorem vw:qK 1:=DP
theorem bD(m:Nat)(a b:Int):qR m a b 0=(0,1):=by unfold qR;simp
theorem Jf(a b c:Int)(ha:qK a)(hb:qK b)(hc:qK c)(w:World):
 Calls Tryz.prog 72 #[Iv a,Iv b,Iv c,.int .u8 1] w fun e w'=>e= .returned (.tuple #[Iv (qR 1 a b c).1,Iv (qR 1 a b c).2])∧∃n,w'=w.drewN n:=by
 by_cases h0:c=0
 ·subst h0;rw[bD];exact Vg a b 1 w
 ·exact eK a b c ha hb hc h0 w
theorem Qm(a b c:Int)(ha:qK a)(hb:qK b)(hc:qK c)(w:World):
 Calls Tryz.prog 72 #[Iv a,Iv b,Iv c,.int .u8 2] w fun e w'=>e= .returned (.tuple #[Iv (qR 2 a b c).1,Iv (qR 2 a b c).2])∧∃n,w'=w.drewN n:=by
 by_cases h0:c=0
 ·subst h0;rw[bD];exact Vg a b 2 w
 ·exact pP a b c ha hb hc h0 w
theorem QO(a b:Int)(ha:qK a)(hb:qK b)(w:World):
 Calls Tryz.prog 93 #[Iv a,Iv b] w fun e w'=>e= .returned (.tuple #[Iv (qR 2 a 1 b).1,Iv (qR 2 a 1 b).2])∧∃n,w'=w.drewN n:=by
 go_enter Tryz.func93,Tryz.ntmps93;go_wp2_with(go_at_call 72;refine(Qm _ _ _ (by first|assumption|exact vw) (by first|assumption|exact vw) DM _).mono ?_;rintro e w' ⟨rfl,m,rfl⟩);go_ret2;exact⟨rfl,_,rfl⟩
theorem kh(a b c:Int)(ha:qK a)(hb:qK b)(hc:qK c)(w:World):
 Calls Tryz.prog 26 #[Iv a,Iv b,Iv c] w fun e w'=>e= .returned (.tuple #[Iv (qR 2 a b c).1,Iv (qR 2 a b c).2])∧∃n,w'=w.drewN n:=by
 go_enter Tryz.func26,Tryz.ntmps26;go_wp2_with(go_at_call 72;refine(Qm _ _ _ (by first|assumption|exact vw) (by first|assumption|exact vw) DM _).mono ?_;rintro e w' ⟨rfl,m,rfl⟩);go_ret2;exact⟨rfl,_,rfl⟩
theorem xG(a b c:Int)(ha:qK a)(hb:qK b)(hc:qK c)(w:World):
 Calls Tryz.prog 37 #[Iv a,Iv b,Iv c] w fun e w'=>e= .returned (.tuple #[Iv (qR 1 a b c).1,Iv (qR 1 a b c).2])∧∃n,w'=w.drewN n:=by
 go_enter Tryz.func37,Tryz.ntmps37;go_wp2_with(go_at_call 72;refine(Jf _ _ _ (by first|assumption|exact vw) (by first|assumption|exact vw) DM _).mono ?_;rintro e w' ⟨rfl,m,rfl⟩);go_ret2;exact⟨rfl,_,rfl⟩
theorem mX(a b:Int)(ha:qK a)(hb:qK b)(w:World):
 Calls Tryz.prog 222 #[Iv a,Iv b] w fun e w'=>e= .returned (Iv (sat (a+b)))∧w=w':=by
 obtain⟨a1,a2⟩:=ha;obtain⟨b1,b2⟩:=hb;go_enter Tryz.func222,Tryz.ntmps222;go_wp2
 all_goals
  go_ret;refine⟨qI ?_,rfl⟩;unfold sat aF;simp[wrap64]at*;omega
theorem TI(a b:Int)(ha:qK a)(hb:qK b)(w:World):
 Calls Tryz.prog 224 #[Iv a,Iv b] w fun e w'=>e= .returned (Iv (sat (a+b)))∧w=w':=by
 obtain⟨a1,a2⟩:=ha;obtain⟨b1,b2⟩:=hb;go_enter Tryz.func224,Tryz.ntmps224;go_wp2
 all_goals
  go_ret;refine⟨qI ?_,rfl⟩;unfold sat aF;simp[wrap64,IntKind.wrap_u64]at*;omega
theorem kY(a:Int)(ha:qK a)(h:a≠ -9223372036854775808)(w:World):
 Calls Tryz.prog 68 #[Iv a] w fun e w'=>e= .returned (Iv a.natAbs)∧w=w':=by
 obtain⟨a1,a2⟩:=ha;have h1:(a== -9223372036854775808)=false:=by simp[h]
 have h2: -9223372036854775807≤a:=DL;clear h;by_cases hn:a<0
 all_goals
  go_enter Tryz.func68,Tryz.ntmps68;go_wp2;go_ret;exact⟨qI DL,rfl⟩
theorem fw{n x:Int}(hn:0≤n)(hx:1≤x):(vu n.toNat:Int)≤(x+n/x)/2:=by
 have h:=tj n hn;generalize(vu n.toNat:Int)=r at*;rcases Int.lt_or_le ((x+n/x)/2) r with h1|h1
 ·exfalso;have h2:n/x≤2*r-1-x:=DL;have h3:n/x<2*r-x:=DL;rw[Int.ediv_lt_iff_lt_mul DL]at h3;have e:(2*r-x)*x=r*r-(r-x)*(r-x):=by grind
  have:=jk (r-x);omega
 ·exact h1
theorem pQ{n x:Int}(hn:0≤n)(hx:1≤x)(h1:x≤(x+n/x)/2)(h2:(vu n.toNat:Int)≤x):x=vu n.toNat:=by
 have h:=tj n hn;have h3:x≤n/x:=DL;rw[Int.le_ediv_iff_mul_le DL]at h3;have:=Wl (a:=x) (b:=(vu n.toNat:Int)+1) DL DL;omega
theorem VT(n:Int)(hn:qK n)(w:World):
 Calls Tryz.prog 91 #[Iv n] w fun e w'=>e= .returned (Iv (vu n.toNat))∧∃k,w'=w.drewN k:=by
 obtain⟨n1,n2⟩:=hn;by_cases h0:n≤0
 ·have e:vu n.toNat=0:=by rw[show n.toNat=0 from by omega];rfl
  go_enter Tryz.func91,Tryz.ntmps91;go_wp2;go_ret;exact⟨qI (by rw[e];rfl),0,rfl⟩
 ·go_enter Tryz.func91,Tryz.ntmps91;go_wp2_with fail;refine(Tryz.bits_Len64 n w DL DL).mono ?_;rintro e w' ⟨rfl,rfl⟩;obtain⟨L,hL⟩:∃L,Lib.bitLen n.toNat=L:=⟨_,rfl⟩;obtain⟨b1,b2,b3⟩:=Lib.bitLenAux_bounds 64 n.toNat (by simp;omega) DL;have b0:Lib.bitLenAux 64 n.toNat≤63:=Lib.bitLenAux_le 64 n.toNat 63 (by simp;omega);have hL':Lib.bitLenAux 64 n.toNat=L:=hL;rw[hL']at b1 b2 b3 b0;have HL:=hide hL';clear hL'
  have hx0:∃x0:Int,wrap64 (2^((L+1)/2))=x0∧1≤x0∧x0≤4294967296∧(vu n.toNat:Int)≤x0:=by
   have h1:(2:Nat)^((L+1)/2)≤2^32:=Nat.pow_le_pow_right DQ DL;have h2:0<(2:Nat)^((L+1)/2):=Nat.two_pow_pos _
   have h3:(2:Nat)^L≤2^((L+1)/2)*2^((L+1)/2):=by
    rw[←Nat.pow_add];exact Nat.pow_le_pow_right DQ DL
   have h4:=ag (n:=n.toNat) (r:=2^((L+1)/2)) DL;have e:(2:Int)^((L+1)/2)=((2^((L+1)/2):Nat):Int):=by rw[Int.natCast_pow];rfl
   rw[e];generalize(2:Nat)^((L+1)/2)=p at*;refine⟨p,?_,by omega,by omega,DL⟩;unfold wrap64;omega
  obtain⟨x0,ex,x1,x2,x3⟩:=hx0;obtain⟨r,hr⟩:∃r,r=(vu n.toNat:Int):=⟨_,rfl⟩;rw[←hr]at x3;have hi:=tj n DL;rw[←hr]at hi
  have r0:1≤r:=by
   have:(1:Nat)≤vu n.toNat:=Na DL;omega
  have HR:=hide hr;have HI:=hide hi;clear hr hi;go_wp2_with fail;go_loop [3] (fun a=>∃x:Int,a=Iv x∧1≤x∧x≤4294967296∧r≤x) (fun a=>(intOf a).toNat)
  case atStart=>exact⟨x0,by rw[ex],x1,x2,x3⟩
  case round=>
   obtain⟨x,rfl,y1,y2,y3⟩:=hrel;have lo:=fw (n:=n) (x:=x) DL y1;rw[←HR.out]at lo;have q0:0≤n/x:=Int.ediv_nonneg DL DL
   have q1:n/x≤x+2:=by
    have h1:n/x<x+3:=by
     rw[Int.ediv_lt_iff_lt_mul DL];have h2:(r+1)*(r+1)≤(x+1)*(x+1):=Int.mul_le_mul DL DL DL DL;have h3:=HI.out.2;have e1:(x+1)*(x+1)=x*x+2*x+1:=by grind
     have e2:(x+3)*x=x*x+3*x:=by grind
     omega
    omega
   by_cases hx:x≤(x+n/x)/2
   ·have he:=pQ (n:=n) (x:=x) DL y1 hx (by rw[←HR.out];exact y3);have HE:=hide he;clear he;go_wp2_with fail;go_ret;exact⟨qI HE.out,0,rfl⟩
   ·go_wp2_with fail;go_round
    case rel=>exact⟨(x+n/x)/2,rfl,by omega,by omega,lo⟩
    case measure=>simp[intOf];omega
end Go.Proofs.YtcgpbnlhnafhjaaGreatDoor
