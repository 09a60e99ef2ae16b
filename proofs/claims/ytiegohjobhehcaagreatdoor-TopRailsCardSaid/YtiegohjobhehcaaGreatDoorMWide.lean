/-
  The walks of the 128-bit numbers' parts: sizes compared, doubled, subtracted.
-/
import Derived.Test.YtiegohjobhehcaaGreatDoorMGeo
import Derived.Test.YtiegohjobhehcaaGreatDoorMRoot
set_option maxRecDepth 100000
set_option maxHeartbeats 16000000
namespace Go.Proofs.YtiegohjobhehcaaGreatDoor
open Go.RowKit
set_option linter.unusedVariables false
set_option linter.unusedSimpArgs false
theorem Yd(a b:Int)(w:World):
 Calls Tryz.prog 245 #[.int .u64 a,.int .u64 b] w fun e w'=>e= .returned (Iv (gZ a b))∧w=w':=by
 go_enter Tryz.func245,Tryz.ntmps245;go_wp2
 all_goals
  go_ret;exact⟨qQ (by unfold gZ;omega),rfl⟩
theorem DE{h l g k:Int}(hne:h≠g)(l0:0≤l)(l1:l<18446744073709551616)(k0:0≤k)(k1:k<18446744073709551616):gZ h g=gZ (h*18446744073709551616+l) (g*18446744073709551616+k):=by
 unfold gZ;have:h<g∨g<h:=qg;rcases this with h1|h1
 ·have e:(h+1)*18446744073709551616≤g*18446744073709551616:=Int.mul_le_mul_of_nonneg_right qg qg;rw[if_pos h1,if_pos qg]
 ·have e:(g+1)*18446744073709551616≤h*18446744073709551616:=Int.mul_le_mul_of_nonneg_right qg qg;rw[if_neg qg,if_pos h1,if_neg qg,if_pos qg]
theorem DG(h l k:Int):gZ l k=gZ (h*18446744073709551616+l) (h*18446744073709551616+k):=by unfold gZ;omega
theorem UD(h l g k:Int)(h0:0≤h)(h1:h<18446744073709551616)(l0:0≤l)(l1:l<18446744073709551616)(g0:0≤g)(g1:g<18446744073709551616)(k0:0≤k)(k1:k<18446744073709551616)(w:World):
 Calls Tryz.prog 234 #[.agg #[.int .u64 h,.int .u64 l],.agg #[.int .u64 g,.int .u64 k]] w fun e w'=>e= .returned (Iv (gZ (h*18446744073709551616+l) (g*18446744073709551616+k)))∧Below w.heap.size w w':=by
 by_cases he:h=g
 ·have E:=hide (DG h l k);subst he;clear h0 h1 l0 l1 k0 k1;generalize gZ (h*18446744073709551616+l) (h*18446744073709551616+k)=R at*;have T:(h !=h)=false:=jL;go_enter Tryz.func234,Tryz.ntmps234;go_wp2_with(go_at_call 245;refine(Yd _ _ _).mono ?_;rintro e w' ⟨rfl,rfl⟩);go_ret;exact⟨qQ E.out,by(repeat(with_reducible (first|assumption|exact Below.refl _ _|refine Below.drew ?_|refine below_drewN ?_ _|refine qK ?_ (by simp;try omega) _|refine qu ?_ (Nat.le_refl _) _|refine qH qY ?_)))⟩
 ·have E:=hide (DE he l0 l1 k0 k1);have T:(h !=g)=true:=by rw[bne_iff_ne];exact he
  clear h0 h1 l0 l1 k0 k1 g0 g1 he;generalize gZ (h*18446744073709551616+l) (g*18446744073709551616+k)=R at*;go_enter Tryz.func234,Tryz.ntmps234;go_wp2_with(go_at_call 245;refine(Yd _ _ _).mono ?_;rintro e w' ⟨rfl,rfl⟩);go_ret;exact⟨qQ E.out,by(repeat(with_reducible (first|assumption|exact Below.refl _ _|refine Below.drew ?_|refine below_drewN ?_ _|refine qK ?_ (by simp;try omega) _|refine qu ?_ (Nat.le_refl _) _|refine qH qY ?_)))⟩
theorem Kv(h l:Int)(z:Bool)(hz:z=decide (h=0∧l=0))(w:World):
 Calls Tryz.prog 240 #[.agg #[.int .u64 h,.int .u64 l]] w fun e w'=>e= .returned (.bool z)∧Below w.heap.size w w':=by
 by_cases hh:h=0
 ·subst hh;have HZ:=hide hz;clear hz;rcases hl:(l==0)with _|_
  all_goals
   go_enter Tryz.func240,Tryz.ntmps240;go_wp2;go_ret;refine⟨vG ?_,by(repeat(with_reducible (first|assumption|exact Below.refl _ _|refine Below.drew ?_|refine below_drewN ?_ _|refine qK ?_ (by simp;try omega) _|refine qu ?_ (Nat.le_refl _) _|refine qH qY ?_)))⟩;rw[HZ.out];simp at hl;simp[hl]
 ·have T:(h==0)=false:=by simpa using hh
  have HZ:Hid (z=false):=hide (by rw[hz];simp[hh]);clear hz hh;go_enter Tryz.func240,Tryz.ntmps240;go_wp2;go_ret;exact⟨vG HZ.out.symm,by(repeat(with_reducible (first|assumption|exact Below.refl _ _|refine Below.drew ?_|refine below_drewN ?_ _|refine qK ?_ (by simp;try omega) _|refine qu ?_ (Nat.le_refl _) _|refine qH qY ?_)))⟩
theorem mD(h l g k:Int)(h0:0≤h)(h1:h<18446744073709551616)(l0:0≤l)(l1:l<18446744073709551616)(g0:0≤g)(g1:g<18446744073709551616)(k0:0≤k)(k1:k<18446744073709551616)(c:Int)(hc:c=if l<k then 1 else 0)(a b:Int)
 (ha:a=(h+18446744073709551616-g-c)%18446744073709551616) (hb:b=(l+18446744073709551616-k)%18446744073709551616) (w:World):
 Calls Tryz.prog 242 #[.agg #[.int .u64 h,.int .u64 l],.agg #[.int .u64 g,.int .u64 k]] w fun e w'=>e= .returned (.agg #[.int .u64 a,.int .u64 b])∧Below w.heap.size w w':=by
 have cb:0≤c∧c≤1:=by rw[hc];split<;>omega
 have R1:=fun W=>Uu l k 0 l0 l1 k0 k1 qg qg W
 have R2:=fun W=>Uu h g c h0 h1 g0 g1 cb.1 cb.2 W
 rw[Int.sub_zero,←hb,Int.add_zero,←hc]at R1;rw[←ha]at R2;generalize(if h<g+c then(1:Int)else 0)=d at R2;clear hc ha hb h0 h1 l0 l1 g0 g1 k0 k1 cb;go_enter Tryz.func242,Tryz.ntmps242;go_wp2_with(simp only[R1,R2]);exact bodyPost_ret (v:= .agg #[.int .u64 a,.int .u64 b]) (by simp[results,Tryz.results242,go_sem]) rfl ⟨rfl,by(repeat(with_reducible (first|assumption|exact Below.refl _ _|refine Below.drew ?_|refine below_drewN ?_ _|refine qK ?_ (by simp;try omega) _|refine qu ?_ (Nat.le_refl _) _|refine qH qY ?_)))⟩
theorem YT(h l b:Int)(h0:0≤h)(h1:h<18446744073709551616)(l0:0≤l)(l1:l<18446744073709551616)(hb:0≤b)(hb1:b≤1)(w:World):
 Calls Tryz.prog 248 #[.agg #[.int .u64 h,.int .u64 l],.int .u64 b] w fun e w'=>e= .returned (.agg #[.int .u64 (h*2%18446744073709551616+l/9223372036854775808),.int .u64 (l*2%18446744073709551616+b)])∧Below w.heap.size w w':=by
 have o1:=nZ h (l/9223372036854775808) h0 h1 qg qg;have o2:=nZ l b l0 l1 hb hb1;go_enter Tryz.func248,Tryz.ntmps248;go_wp2;exact bodyPost_ret (v:= .agg #[.int .u64 (h*2%18446744073709551616+l/9223372036854775808),.int .u64 (l*2%18446744073709551616+b)]) (by simp[results,Tryz.results248,go_sem]) rfl ⟨rfl,by(repeat(with_reducible (first|assumption|exact Below.refl _ _|refine Below.drew ?_|refine below_drewN ?_ _|refine qK ?_ (by simp;try omega) _|refine qu ?_ (Nat.le_refl _) _|refine qH qY ?_)))⟩
def YU(S D:Int)(k:Nat)(qh ql rh rl:Int):Prop:=
 (0≤qh∧qh<18446744073709551616∧0≤ql∧ql<18446744073709551616)∧(0≤rh∧rh<18446744073709551616∧0≤rl∧rl<18446744073709551616)∧qh*18446744073709551616+ql=S/2^k/D∧rh*18446744073709551616+rl=S/2^k%D
theorem cH(x:Int)(h0:0≤x)(h1:x<18446744073709551616):bits .and .u64 x 1=x%2:=by
 obtain⟨x,rfl⟩:=Int.eq_ofNat_of_zero_le h0;have h:=bits_and_u64_nat x 1 qg qg;rw[Nat.and_one_is_mod]at h;exact h.trans qg
theorem UE(a:Nat)(ha:a<9223372036854775808):(BitVec.ofInt 64 (a:Int)).toNat=a:=by
 rw[BitVec.ofInt_natCast,BitVec.toNat_ofNat];exact Nat.mod_eq_of_lt qg
theorem Pp(j:Int)(h0:0≤j)(h1:j≤127):bits .and .i64 j 63=j%64:=by
 obtain⟨a,rfl⟩:=Int.eq_ofNat_of_zero_le h0;have hx:a&&&63<2^63:=Nat.and_lt_two_pow _ qg
 show IntKind.i64.wrap ((BitVec.ofInt 64 (a:Int)&&&BitVec.ofInt 64 ((63:Nat):Int)).toNat:Int)=_
 rw[BitVec.toNat_and,UE a qg,UE 63 qg,IntKind.wrap_i64];have e:a&&&63=a%64:=Nat.and_two_pow_sub_one_eq_mod a 6;rw[e];omega
theorem RU(q:Int)(h0:0≤q)(h1:q<18446744073709551616):bits .or .u64 (q*2%18446744073709551616+0) 1=q*2%18446744073709551616+1:=by
 rw[Int.add_zero];have:=nZ q 1 h0 h1 qg qg
 rwa[IntKind.wrap_u64]at this
theorem Kw{x:Int}(h0:0≤x)(h1:x<18446744073709551616)(n:Nat):0≤x/2^n∧x/2^n<18446744073709551616:=by
 have hp:(0:Int)<2^n:=Int.pow_pos qg;refine⟨Int.ediv_nonneg h0 qg,?_⟩;have:=Int.ediv_le_self (2^n) h0;omega
theorem Pq(S:Int)(k:Nat):S/2^(k+1)=S/2^k/2:=by
 rw[Int.pow_succ,←Int.ediv_ediv_of_nonneg (Int.pow_nonneg qg)]
theorem RV(h l:Int)(n:Nat)(hn:n<64):(h*18446744073709551616+l)/2^n%2=l/2^n%2:=by
 have e:(18446744073709551616:Int)=2^n*(2*2^(63-n)):=by
  have:(18446744073709551616:Int)=2^64:=qG;rw[this,show 64=n+(1+(63-n))from by omega,Int.pow_add,Int.pow_add];rfl
 have hp:(2^n:Int)≠0:=Int.ne_of_gt (Int.pow_pos qg);rw[e,show h*(2^n*(2*2^(63-n)))+l=l+2^n*(2*(h*2^(63-n)))from by grind,Int.add_mul_ediv_left _ _ hp];omega
theorem RZ(h l:Int)(l0:0≤l)(l1:l<18446744073709551616)(n:Nat):(h*18446744073709551616+l)/2^(64+n)%2=h/2^n%2:=by
 rw[Int.pow_add,←Int.ediv_ediv_of_nonneg (Int.pow_nonneg qg)]
 have:(h*18446744073709551616+l)/2^64=h:=by
  rw[show(2:Int)^64=18446744073709551616 from by decide];omega
 rw[this]
theorem Pr(S D:Int)(S0:0≤S)(S1:S<340282366920938463463374607431768211456)(D0:0<D):YU S D 128 0 0 0 0:=by
 have e:S/2^128=0:=Int.ediv_eq_zero_of_lt S0 (by rw[show(2:Int)^128=340282366920938463463374607431768211456 from by decide];exact S1);unfold YU;rw[e];simp
theorem UF{h l b:Int}(h0:0≤h)(h1:h<9223372036854775808)(l0:0≤l)(l1:l<18446744073709551616)(b0:0≤b)(b1:b≤1):
 (0≤h*2%18446744073709551616+l/9223372036854775808∧h*2%18446744073709551616+l/9223372036854775808<18446744073709551616∧0≤l*2%18446744073709551616+b∧l*2%18446744073709551616+b<18446744073709551616)∧
 (h*2%18446744073709551616+l/9223372036854775808)*18446744073709551616+(l*2%18446744073709551616+b)=2*(h*18446744073709551616+l)+b:=qg
theorem Sa{N D bit:Int}(D0:0<D)(b0:0≤bit)(b1:bit≤1):
 (2*(N%D)+bit<D→(2*N+bit)/D=2*(N/D)∧(2*N+bit)%D=2*(N%D)+bit)∧
 (D≤2*(N%D)+bit→(2*N+bit)/D=2*(N/D)+1∧(2*N+bit)%D=2*(N%D)+bit-D):=by
 have e:=Int.emod_add_mul_ediv N D;have m0:=Int.emod_nonneg N (show D≠0 by omega);have m1:=Int.emod_lt_of_pos N D0;generalize N/D=q at*;generalize N%D=r at*;constructor
 ·intro h;have e2:2*N+bit=(2*r+bit)+D*(2*q):=by rw[←e];grind
  rw[e2,Int.add_mul_ediv_left _ _ qg,Int.add_mul_emod_self_left,Int.ediv_eq_zero_of_lt qg h,Int.emod_eq_of_lt qg h];omega
 ·intro h;have e2:2*N+bit=(2*r+bit-D)+D*(2*q+1):=by rw[←e];grind
  rw[e2,Int.add_mul_ediv_left _ _ qg,Int.add_mul_emod_self_left,Int.ediv_eq_zero_of_lt qg qg,Int.emod_eq_of_lt qg qg];omega
theorem Ps{h l g k c a b:Int}(h0:0≤h)(h1:h<18446744073709551616)(l0:0≤l)(l1:l<18446744073709551616)(g0:0≤g)(g1:g<18446744073709551616)(k0:0≤k)(k1:k<18446744073709551616)
 (hc:c=if l<k then 1 else 0) (ha:a=(h+18446744073709551616-g-c)%18446744073709551616) (hb:b=(l+18446744073709551616-k)%18446744073709551616) (hle:g*18446744073709551616+k≤h*18446744073709551616+l):
 (0≤a∧a<18446744073709551616∧0≤b∧b<18446744073709551616)∧a*18446744073709551616+b=h*18446744073709551616+l-(g*18446744073709551616+k):=by
 split at hc<;>omega
theorem cI{a b:Int}(h:b≤a):0≤gZ a b:=by unfold gZ;omega
theorem cJ{a b:Int}(h:a<b):gZ a b<0:=by unfold gZ;omega
theorem Pt{S D bit qh ql rh rl qh2 ql2 rh2 rl2:Int}{j:Nat}(hN:YU S D (j+1) qh ql rh rl)(D0:0<D)(hbit:bit=S/2^j%2)
 (hR:(0≤rh2∧rh2<18446744073709551616∧0≤rl2∧rl2<18446744073709551616)∧rh2*18446744073709551616+rl2=2*(rh*18446744073709551616+rl)+bit) (hQ:(0≤qh2∧qh2<18446744073709551616∧0≤ql2∧ql2<18446744073709551616)∧qh2*18446744073709551616+ql2=2*(qh*18446744073709551616+ql)+0):
 (rh2*18446744073709551616+rl2<D→YU S D j qh2 ql2 rh2 rl2)∧
 (D≤rh2*18446744073709551616+rl2→∀a b:Int,(0≤a∧a<18446744073709551616∧0≤b∧b<18446744073709551616)→a*18446744073709551616+b=rh2*18446744073709551616+rl2-D→ql2+1<18446744073709551616∧YU S D j qh2 (ql2+1) a b):=by
 obtain⟨q0,r0,e1,e2⟩:=hN;have hS:S/2^j=2*(S/2^(j+1))+bit:=by rw[Pq,hbit];omega
 have hb:0≤bit∧bit≤1:=by rw[hbit];omega
 have hd:=Sa (N:=S/2^(j+1)) (bit:=bit) D0 hb.1 hb.2;rw[←hS,←e1,←e2,←hR.2]at hd;unfold YU;clear hbit;constructor
 ·intro h;obtain⟨d1,d2⟩:=hd.1 h;exact⟨hQ.1,hR.1,by rw[d1];omega,by rw[d2]⟩
 ·intro h a b hab he;obtain⟨d1,d2⟩:=hd.2 h;have hl:ql2+1<18446744073709551616:=qg;exact⟨hl,⟨hQ.1.1,hQ.1.2.1,by omega,hl⟩,hab,by rw[d1];omega,by rw[d2];exact he⟩
theorem Pu{S D qh ql rh rl:Int}{j:Nat}(hN:YU S D (j+1) qh ql rh rl)(S0:0≤S)(S1:S<340282366920938463463374607431768211456)(D0:0<D)(D1:D≤170141183460469231731687303715884105728):qh<9223372036854775808∧rh<9223372036854775808:=by
 obtain⟨q0,r0,e1,e2⟩:=hN;have m1:=Int.emod_lt_of_pos (S/2^(j+1)) D0
 have hS:S/2^(j+1)≤S/2:=by
  rw[Int.pow_succ,Int.mul_comm,←Int.ediv_ediv_of_nonneg qg];exact Int.ediv_le_self _ qg
 have hS0:0≤S/2^(j+1):=Int.ediv_nonneg S0 (Int.pow_nonneg qg);have hq:S/2^(j+1)/D≤S/2^(j+1):=Int.ediv_le_self _ hS0;rw[←e1]at hq;rw[←e2]at m1;clear e1 e2;generalize S/2^(j+1)=N at*;exact⟨qg,qg⟩
theorem cK{a b c d:Int}(h:a*18446744073709551616+b=c*18446744073709551616+d)(b0:0≤b)(b1:b<18446744073709551616)(d0:0≤d)(d1:d<18446744073709551616):a=c∧b=d:=qg
def Ye(w W:World)(hi lo dh dl qh ql rh rl:Int):Prop:=
 (W.cell? ⟨w.heap.size,0,none⟩=some (.int .u64 hi)∧W.cell? ⟨w.heap.size,1,none⟩=some (.int .u64 lo)∧W.cell? ⟨w.heap.size+1,0,none⟩=some (.int .u64 dh)∧W.cell? ⟨w.heap.size+1,1,none⟩=some (.int .u64 dl))∧
 (W.cell? ⟨w.heap.size+1+1,0,none⟩=some (.int .u64 qh)∧W.cell? ⟨w.heap.size+1+1,1,none⟩=some (.int .u64 ql)∧W.cell? ⟨w.heap.size+1+1+1,0,none⟩=some (.int .u64 rh)∧W.cell? ⟨w.heap.size+1+1+1,1,none⟩=some (.int .u64 rl))∧
 (W.frozen? ⟨w.heap.size+1+1,0,none⟩=false∧W.frozen? ⟨w.heap.size+1+1,1,none⟩=false∧W.frozen? ⟨w.heap.size+1+1+1,0,none⟩=false∧W.frozen? ⟨w.heap.size+1+1+1,1,none⟩=false)∧Below w.heap.size w W
theorem Za{w:World}{p:Addr}{x:Value}(h:w.cell? p=some x)(v:Value):(w.setCell p v).cell? p=some v:=World.cell?_setCell_same' w p v (by rw[h];rfl)
theorem jp{w:World}{b c o q:Nat}{x:Value}(hne:b≠c)(h:w.cell? ⟨c,q,none⟩=some x)(v:Value):(w.setCell ⟨b,o,none⟩ v).cell? ⟨c,q,none⟩=some x:=
 (World.cell?_setCell_other w _ _ v (fun e=>hne (by injection e))).trans h
theorem Yf{w:World}{b c o q:Nat}{x:Value}(hne:o≠q)(h:w.cell? ⟨c,q,none⟩=some x)(v:Value):(w.setCell ⟨b,o,none⟩ v).cell? ⟨c,q,none⟩=some x:=
 (World.cell?_setCell_other w _ _ v (fun e=>hne (by injection e))).trans h
theorem yD{w:World}{a:Addr}(h:w.frozen? a=false)(p:Addr)(v:Value):(w.setCell p v).frozen? a=false:=by rw[←h];simp
section
variable{w W W':World}{hi lo dh dl qh ql rh rl:Int}
theorem Ye.below(h:Ye w W hi lo dh dl qh ql rh rl)(hb:Below W.heap.size W W'):Ye w W' hi lo dh dl qh ql rh rl:=by
 obtain⟨⟨c0,c1,c2,c3⟩,⟨c4,c5,c6,c7⟩,⟨f0,f1,f2,f3⟩,hB⟩:=h;refine⟨⟨qi hb c0,qi hb c1,qi hb c2,qi hb c3⟩,⟨qi hb c4,qi hb c5,qi hb c6,qi hb c7⟩,⟨(qI hb (jI c4 f0)).2,(qI hb (jI c5 f1)).2,(qI hb (jI c6 f2)).2,(qI hb (jI c7 f3)).2⟩,qH hb hB⟩
theorem Ye.setR(h:Ye w W hi lo dh dl qh ql rh rl)(a b:Int):Ye w ((W.setCell ⟨w.heap.size+1+1+1,0,none⟩ (.int .u64 a)).setCell ⟨w.heap.size+1+1+1,1,none⟩ (.int .u64 b)) hi lo dh dl qh ql a b:=by
 obtain⟨⟨c0,c1,c2,c3⟩,⟨c4,c5,c6,c7⟩,⟨f0,f1,f2,f3⟩,hB⟩:=h
 refine⟨⟨jp qg (jp qg c0 _) _,jp qg (jp qg c1 _) _,jp qg (jp qg c2 _) _,jp qg (jp qg c3 _) _⟩,
  ⟨jp qg (jp qg c4 _) _,jp qg (jp qg c5 _) _,Yf qg (Za c6 _) _,Za (Yf qg c7 _) _⟩,
  ⟨yD (yD f0 _ _) _ _,yD (yD f1 _ _) _ _,yD (yD f2 _ _) _ _,yD (yD f3 _ _) _ _⟩,qK (qK hB (by simp;try omega) _) (by simp;try omega) _⟩
theorem Ye.setQ(h:Ye w W hi lo dh dl qh ql rh rl)(a b:Int):Ye w ((W.setCell ⟨w.heap.size+1+1,0,none⟩ (.int .u64 a)).setCell ⟨w.heap.size+1+1,1,none⟩ (.int .u64 b)) hi lo dh dl a b rh rl:=by
 obtain⟨⟨c0,c1,c2,c3⟩,⟨c4,c5,c6,c7⟩,⟨f0,f1,f2,f3⟩,hB⟩:=h
 refine⟨⟨jp qg (jp qg c0 _) _,jp qg (jp qg c1 _) _,jp qg (jp qg c2 _) _,jp qg (jp qg c3 _) _⟩,
  ⟨Yf qg (Za c4 _) _,Za (Yf qg c5 _) _,jp qg (jp qg c6 _) _,jp qg (jp qg c7 _) _⟩,
  ⟨yD (yD f0 _ _) _ _,yD (yD f1 _ _) _ _,yD (yD f2 _ _) _ _,yD (yD f3 _ _) _ _⟩,qK (qK hB (by simp;try omega) _) (by simp;try omega) _⟩
theorem Ye.setQl(h:Ye w W hi lo dh dl qh ql rh rl)(b:Int):Ye w (W.setCell ⟨w.heap.size+1+1,1,none⟩ (.int .u64 b)) hi lo dh dl qh b rh rl:=by
 obtain⟨⟨c0,c1,c2,c3⟩,⟨c4,c5,c6,c7⟩,⟨f0,f1,f2,f3⟩,hB⟩:=h
 refine⟨⟨jp qg c0 _,jp qg c1 _,jp qg c2 _,jp qg c3 _⟩,
  ⟨Yf qg c4 _,Za c5 _,jp qg c6 _,jp qg c7 _⟩,
  ⟨yD f0 _ _,yD f1 _ _,yD f2 _ _,yD f3 _ _⟩,qK hB (by simp;try omega) _⟩
end
theorem Pv(hi lo dh dl S D qh' ql' rh' rl':Int)(hi0:0≤hi)(hi1:hi<18446744073709551616)(lo0:0≤lo)(lo1:lo<18446744073709551616)(dh0:0≤dh)(dh1:dh<18446744073709551616)(dl0:0≤dl)(dl1:dl<18446744073709551616)
 (hS:S=hi*18446744073709551616+lo) (hD:D=dh*18446744073709551616+dl) (D0:0<D) (D1:D≤170141183460469231731687303715884105728)
 (hq:(0≤qh'∧qh'<18446744073709551616∧0≤ql'∧ql'<18446744073709551616)∧qh'*18446744073709551616+ql'=S/D) (hr:(0≤rh'∧rh'<18446744073709551616∧0≤rl'∧rl'<18446744073709551616)∧rh'*18446744073709551616+rl'=S%D) (w:World):
 Calls Tryz.prog 241 #[.agg #[.int .u64 hi,.int .u64 lo],.agg #[.int .u64 dh,.int .u64 dl]] w fun e w'=>e= .returned (.tuple #[.agg #[.int .u64 qh',.int .u64 ql'],.agg #[.int .u64 rh',.int .u64 rl']])∧Below w.heap.size w w':=by
 have S0:0≤S:=qg;have S1:S<340282366920938463463374607431768211456:=qg;have HS:=hide hS;have HD:=hide hD;have HQ:=hide hq;have HR:=hide hr;have HB:=hide (And.intro hi0 (And.intro hi1 (And.intro lo0 (And.intro lo1 (And.intro dh0 (And.intro dh1 (And.intro dl0 dl1)))))));have HDD:=hide (And.intro D0 (And.intro D1 (And.intro S0 S1)));clear hS hD hq hr hi0 hi1 lo0 lo1 dh0 dh1 dl0 dl1 D0 D1 S0 S1;go_enter Tryz.func241,Tryz.ntmps241;go_wp2_with fail;go_loopw [6] (fun i W=>∃(j:Int) (qh ql rh rl:Int),-1≤j∧j≤127∧i=Iv j∧YU S D (j+1).toNat qh ql rh rl∧Ye w W hi lo dh dl qh ql rh rl) (fun i _=>(intOf i+1).toNat)
 case atStart=>
  refine⟨127,0,0,0,0,by omega,by omega,rfl,Pr S D HDD.out.2.2.1 HDD.out.2.2.2 HDD.out.1,?_⟩;unfold Ye;refine⟨yt,yt,by simp[go_sem],?_⟩
  (repeat(with_reducible (first|assumption|exact Below.refl _ _|refine Below.drew ?_|refine below_drewN ?_ _|refine qK ?_ (by simp;try omega) _|refine qu ?_ (Nat.le_refl _) _|refine qH qY ?_)))
 case round=>
  obtain⟨j,qh,ql,rh,rl,hj,hj2,rfl,hN,hAt⟩:=hrel;have hAt':=hAt;obtain⟨⟨c0,c1,c2,c3⟩,⟨c4,c5,c6,c7⟩,⟨f0,f1,f2,f3⟩,hB⟩:=hAt';by_cases h0:0≤j
  ·obtain⟨n,rfl⟩:=Int.eq_ofNat_of_zero_le h0;rw[show((n:Int)+1).toNat=n+1 from by omega]at hN;obtain⟨bit,hbit⟩:∃bit,bit=S/2^n%2:=⟨_,rfl⟩;have hb01:0≤bit∧bit≤1:=by rw[hbit];omega
   have sm:=Pu hN HDD.out.2.2.1 HDD.out.2.2.2 HDD.out.1 HDD.out.2.1;have nq:=hN.1;have nr:=hN.2.1;have tr:=UF nr.1 sm.2 nr.2.2.1 nr.2.2.2 hb01.1 hb01.2;have tq:=UF nq.1 sm.1 nq.2.2.1 nq.2.2.2 (Int.le_refl 0) qg;have TR:=fun W=>YT rh rl bit nr.1 nr.2.1 nr.2.2.1 nr.2.2.2 hb01.1 hb01.2 W
   have TQ:=fun W=>YT qh ql 0 nq.1 nq.2.1 nq.2.2.1 nq.2.2.2 (Int.le_refl 0) qg W
   have O1:=RU ql nq.2.2.1 nq.2.2.2;generalize rh*2%18446744073709551616+rl/9223372036854775808=rh2 at*;generalize rl*2%18446744073709551616+bit=rl2 at*;generalize qh*2%18446744073709551616+ql/9223372036854775808=qh2 at*;rw[←Int.add_zero (ql*2%18446744073709551616)]at O1;simp only[Int.add_zero]at O1 TQ tq;generalize ql*2%18446744073709551616=ql2 at*;have RD:=Pt (qh2:=qh2) (ql2:=ql2) hN HDD.out.1 hbit tr ⟨tq.1,by rw[Int.add_zero];exact tq.2⟩;obtain⟨tr1,tr2⟩:=tr;have HN:=hide hN;have HT:=hide (And.intro tr1 (And.intro tr2 tq));have BT:=hide hbit;have HRD:=hide RD;clear hN tr2 tq hbit RD nq nr sm;have OB:=HB.out;have BR:=hide (show rh2*18446744073709551616+rl2=2*(rh*18446744073709551616+rl)+bit from HT.out.2.1);obtain⟨v,hv⟩:∃v,v=gZ (rh2*18446744073709551616+rl2) (dh*18446744073709551616+dl):=⟨_,rfl⟩;have CM:=fun W=>UD rh2 rl2 dh dl tr1.1 tr1.2.1 tr1.2.2.1 tr1.2.2.2 OB.2.2.2.2.1 OB.2.2.2.2.2.1 OB.2.2.2.2.2.2.1 OB.2.2.2.2.2.2.2 W
   rw[←hv]at CM;obtain⟨cc,hcc⟩:∃c:Int,c=if rl2<dl then 1 else 0:=⟨_,rfl⟩
   obtain⟨la,hla⟩:∃a,a=(rh2+18446744073709551616-dh-cc)%18446744073709551616:=⟨_,rfl⟩;obtain⟨lb,hlb⟩:∃b,b=(rl2+18446744073709551616-dl)%18446744073709551616:=⟨_,rfl⟩;have LS:=fun W=>mD rh2 rl2 dh dl tr1.1 tr1.2.1 tr1.2.2.1 tr1.2.2.2 OB.2.2.2.2.1 OB.2.2.2.2.2.1 OB.2.2.2.2.2.2.1 OB.2.2.2.2.2.2.2 cc hcc la lb hla hlb W
   have HL:=hide (fun h=>Ps tr1.1 tr1.2.1 tr1.2.2.1 tr1.2.2.2 OB.2.2.2.2.1 OB.2.2.2.2.2.1 OB.2.2.2.2.2.2.1 OB.2.2.2.2.2.2.2 hcc hla hlb h);have HV:=hide hv;have dpl:=Kw OB.2.2.1 OB.2.2.2.1;have dph:=Kw OB.1 OB.2.1;clear hcc hla hlb hv;by_cases hlt:n<64
   ·have A:bits .and .i64 (n:Int) 63=(n:Int):=by rw[Pp _ qg qg];omega
    have B1:bits .and .u64 (lo/2^n) 1=bit:=by
     rw[cH _ (dpl n).1 (dpl n).2,BT.out,HS.out];exact(RV hi lo n hlt).symm
    clear dpl dph;go_wp2_with fail;refine(TR _).mono ?_;rintro e w1 ⟨rfl,hb1⟩;clear c0 c1 c2 c3 c4 c5 c6 c7 f0 f1 f2 f3;have Ax:=hAt.below hb1;have Ax':=Ax;obtain⟨⟨x0,x1,x2,x3⟩,⟨x4,x5,x6,x7⟩,⟨xf0,xf1,xf2,xf3⟩,xB⟩:=Ax';go_wp2_with fail;refine(TQ _).mono ?_;rintro e w2 ⟨rfl,hb2⟩;clear x0 x1 x2 x3 x4 x5 x6 x7 xf0 xf1 xf2 xf3;have Ay:=(Ax.setR rh2 rl2).below hb2;have Ay':=Ay;obtain⟨⟨y0,y1,y2,y3⟩,⟨y4,y5,y6,y7⟩,⟨yf0,yf1,yf2,yf3⟩,yB⟩:=Ay';go_wp2_with fail;refine(CM _).mono ?_;rintro e w3 ⟨rfl,hb3⟩;clear y0 y1 y2 y3 y4 y5 y6 y7 yf0 yf1 yf2 yf3;have Az:=(Ay.setQ qh2 ql2).below hb3;have Az':=Az;obtain⟨⟨z0,z1,z2,z3⟩,⟨z4,z5,z6,z7⟩,⟨zf0,zf1,zf2,zf3⟩,zB⟩:=Az';by_cases hcmp:rh2*18446744073709551616+rl2<dh*18446744073709551616+dl
    ·have vn:v<0:=by rw[HV.out];exact cJ hcmp
     have HN2:=hide (HRD.out.1 (by rw[HD.out];exact hcmp));clear hcmp;go_wp2_with fail;go_roundw
     case rel=>
      refine⟨(n:Int)-1,qh2,ql2,rh2,rl2,by omega,by omega,by first|rfl|(congr 2;omega),?_,Az⟩;rw[show((n:Int)-1+1).toNat=n from by omega];exact HN2.out
     case measure=>simp[intOf];try omega
    ·have vn:0≤v:=by rw[HV.out];exact cI qg
     have hl:=HL.out qg;have HN2:=hide (HRD.out.2 (by rw[HD.out];omega) la lb hl.1 (by rw[HD.out];exact hl.2));clear hcmp hl;go_wp2_with fail;refine(LS _).mono ?_;rintro e w4 ⟨rfl,hb4⟩;clear z0 z1 z2 z3 z4 z5 z6 z7 zf0 zf1 zf2 zf3;have At:=Az.below hb4;have At':=At;obtain⟨⟨t0,t1,t2,t3⟩,⟨t4,t5,t6,t7⟩,⟨tf0,tf1,tf2,tf3⟩,tB⟩:=At';go_wp2_with fail;go_roundw
     case rel=>
      refine⟨(n:Int)-1,qh2,(ql2+1),la,lb,by omega,by omega,by first|rfl|(congr 2;omega),?_,(At.setR la lb).setQl (ql2+1)⟩;rw[show((n:Int)-1+1).toNat=n from by omega];exact HN2.out.2
     case measure=>simp[intOf];try omega
   ·obtain⟨c,hc⟩:∃c:Int,c=(n:Int)%64:=⟨_,rfl⟩;have A:bits .and .i64 (n:Int) 63=c:=by rw[Pp _ qg qg,hc]
    have c0':0≤c:=qg;have c1':c≤63:=qg
    have B1:bits .and .u64 (hi/2^(n-64)) 1=bit:=by
     rw[cH _ (dph _).1 (dph _).2,BT.out,HS.out];have:=RZ hi lo OB.2.2.1 OB.2.2.2.1 (n-64);rw[show 64+(n-64)=n from by omega]at this;exact this.symm
    clear dpl dph hc;go_wp2_with fail;refine(TR _).mono ?_;rintro e w1 ⟨rfl,hb1⟩;clear c0 c1 c2 c3 c4 c5 c6 c7 f0 f1 f2 f3;have Ax:=hAt.below hb1;have Ax':=Ax;obtain⟨⟨x0,x1,x2,x3⟩,⟨x4,x5,x6,x7⟩,⟨xf0,xf1,xf2,xf3⟩,xB⟩:=Ax';go_wp2_with fail;refine(TQ _).mono ?_;rintro e w2 ⟨rfl,hb2⟩;clear x0 x1 x2 x3 x4 x5 x6 x7 xf0 xf1 xf2 xf3;have Ay:=(Ax.setR rh2 rl2).below hb2;have Ay':=Ay;obtain⟨⟨y0,y1,y2,y3⟩,⟨y4,y5,y6,y7⟩,⟨yf0,yf1,yf2,yf3⟩,yB⟩:=Ay';go_wp2_with fail;refine(CM _).mono ?_;rintro e w3 ⟨rfl,hb3⟩;clear y0 y1 y2 y3 y4 y5 y6 y7 yf0 yf1 yf2 yf3;have Az:=(Ay.setQ qh2 ql2).below hb3;have Az':=Az;obtain⟨⟨z0,z1,z2,z3⟩,⟨z4,z5,z6,z7⟩,⟨zf0,zf1,zf2,zf3⟩,zB⟩:=Az';by_cases hcmp:rh2*18446744073709551616+rl2<dh*18446744073709551616+dl
    ·have vn:v<0:=by rw[HV.out];exact cJ hcmp
     have HN2:=hide (HRD.out.1 (by rw[HD.out];exact hcmp));clear hcmp;go_wp2_with fail;go_roundw
     case rel=>
      refine⟨(n:Int)-1,qh2,ql2,rh2,rl2,by omega,by omega,by first|rfl|(congr 2;omega),?_,Az⟩;rw[show((n:Int)-1+1).toNat=n from by omega];exact HN2.out
     case measure=>simp[intOf];try omega
    ·have vn:0≤v:=by rw[HV.out];exact cI qg
     have hl:=HL.out qg;have HN2:=hide (HRD.out.2 (by rw[HD.out];omega) la lb hl.1 (by rw[HD.out];exact hl.2));clear hcmp hl;go_wp2_with fail;refine(LS _).mono ?_;rintro e w4 ⟨rfl,hb4⟩;clear z0 z1 z2 z3 z4 z5 z6 z7 zf0 zf1 zf2 zf3;have At:=Az.below hb4;have At':=At;obtain⟨⟨t0,t1,t2,t3⟩,⟨t4,t5,t6,t7⟩,⟨tf0,tf1,tf2,tf3⟩,tB⟩:=At';go_wp2_with fail;go_roundw
     case rel=>
      refine⟨(n:Int)-1,qh2,(ql2+1),la,lb,by omega,by omega,by first|rfl|(congr 2;omega),?_,(At.setR la lb).setQl (ql2+1)⟩;rw[show((n:Int)-1+1).toNat=n from by omega];exact HN2.out.2
     case measure=>simp[intOf];try omega
  ·have e:j= -1:=qg;subst e;rw[show((-1:Int)+1).toNat=0 from rfl]at hN;obtain⟨q0,r0,e1,e2⟩:=hN;rw[show S/2^0=S from by simp]at e1 e2;have u1:=cK (e1.trans HQ.out.2.symm) q0.2.2.1 q0.2.2.2 HQ.out.1.2.2.1 HQ.out.1.2.2.2;have u2:=cK (e2.trans HR.out.2.symm) r0.2.2.1 r0.2.2.2 HR.out.1.2.2.1 HR.out.1.2.2.2;obtain⟨rfl,rfl⟩:=u1;obtain⟨rfl,rfl⟩:=u2;clear e1 e2 q0 r0 h0;go_wp2_with fail
   go_region
   all_goals
    go_wp2_with fail;exact bodyPost_ret (v:= .tuple #[.agg #[.int .u64 qh,.int .u64 ql],.agg #[.int .u64 rh,.int .u64 rl]]) (by simp[results,Tryz.results241,go_sem,c4,c5,c6,c7]) rfl ⟨rfl,by(repeat(with_reducible (first|assumption|exact Below.refl _ _|refine Below.drew ?_|refine below_drewN ?_ _|refine qK ?_ (by simp;try omega) _|refine qu ?_ (Nat.le_refl _) _|refine qH qY ?_)))⟩
theorem TW(a:Int)(ha:qz a)(w:World):Calls Tryz.prog 232 #[Iv a] w fun e w'=>e= .returned (.int .u64 a.natAbs)∧w=w':=by
 obtain⟨a1,a2⟩:=ha;go_enter Tryz.func232,Tryz.ntmps232;go_wp2
 all_goals
  go_ret;refine⟨qQ ?_,rfl⟩
  first|omega|(simp[IntKind.wrap_u64]at*;omega)
theorem UG(h l:Int)(h0:0≤h)(h1:h<9223372036854775808)(w:World):
 Calls Tryz.prog 233 #[.agg #[.int .u64 h,.int .u64 l],.bool false] w fun e w'=>e= .returned (.tuple #[.agg #[Iv h,.int .u64 l],.bool true])∧Below w.heap.size w w':=by
 go_enter Tryz.func233,Tryz.ntmps233;go_wp2;exact bodyPost_ret (v:= .tuple #[.agg #[Iv h,.int .u64 l],.bool true]) (by simp[results,Tryz.results233,go_sem]) rfl ⟨rfl,by(repeat(with_reducible (first|assumption|exact Below.refl _ _|refine Below.drew ?_|refine below_drewN ?_ _|refine qK ?_ (by simp;try omega) _|refine qu ?_ (Nat.le_refl _) _|refine qH qY ?_)))⟩
theorem Kx(h l:Int)(h0:0≤h)(h1:h<9223372036854775808)(w:World):
 Calls Tryz.prog 239 #[.agg #[Iv h,.int .u64 l]] w fun e w'=>e= .returned (.tuple #[.agg #[.int .u64 h,.int .u64 l],.bool false])∧Below w.heap.size w w':=by
 go_enter Tryz.func239,Tryz.ntmps239;go_wp2;exact bodyPost_ret (v:= .tuple #[.agg #[.int .u64 h,.int .u64 l],.bool false]) (by simp[results,Tryz.results239,go_sem]) rfl ⟨rfl,by(repeat(with_reducible (first|assumption|exact Below.refl _ _|refine Below.drew ?_|refine below_drewN ?_ _|refine qK ?_ (by simp;try omega) _|refine qu ?_ (Nat.le_refl _) _|refine qH qY ?_)))⟩
theorem DH(a:Int)(h0:0≤a)(h1:a<9223372036854775808)(w:World):
 Calls Tryz.prog 225 #[Iv a] w fun e w'=>e= .returned (.agg #[Iv 0,.int .u64 a])∧Below w.heap.size w w':=by
 have e:a/9223372036854775808=0:=qg;go_enter Tryz.func225,Tryz.ntmps225;go_wp2;exact bodyPost_ret (v:= .agg #[Iv 0,.int .u64 a]) (by simp[results,Tryz.results225,go_sem]) rfl ⟨rfl,by(repeat(with_reducible (first|assumption|exact Below.refl _ _|refine Below.drew ?_|refine below_drewN ?_ _|refine qK ?_ (by simp;try omega) _|refine qu ?_ (Nat.le_refl _) _|refine qH qY ?_)))⟩
theorem gK{w:World}{a:Addr}(h1:w.cell? a=some (jZ w a))(h2:w.frozen? a=false)(o:Obj):(w.alloc o).cell? a=some (jZ (w.alloc o) a)∧(w.alloc o).frozen? a=false:=yo ⟨h1,h2⟩ o
theorem Pw(a b zh zl:Int)(ha:qz a)(hb:qz b)(hs:a<0↔b<0)(l0:0≤zl)(l1:zl<18446744073709551616)(hz:zh*18446744073709551616+zl=a*b)(w:World):
 Calls Tryz.prog 224 #[.int .i64 a,.int .i64 b] w fun e w'=>e= .returned (.agg #[.int .i64 zh,.int .u64 zl])∧Below w.heap.size w w':=by
 have A:=fun W=>TW a ha W
 have B:=fun W=>TW b hb W
 obtain⟨a1,a2⟩:=ha;obtain⟨b1,b2⟩:=hb;have M:=fun W=>Tryz.bits_Mul64 a.natAbs b.natAbs qg qg W
 have hp:((a.natAbs*b.natAbs:Nat):Int)=a*b:=by
  rw[Int.natCast_mul];by_cases h:a<0
  ·have h2:b<0:=qg;rw[show(a.natAbs:Int)= -a from by omega,show(b.natAbs:Int)= -b from by omega,Int.neg_mul_neg]
  ·have h2:¬b<0:=qg;rw[show(a.natAbs:Int)=a from by omega,show(b.natAbs:Int)=b from by omega]
 have hle:a.natAbs*b.natAbs≤9223372036854775808*9223372036854775808:=Nat.mul_le_mul qg qg
 have h0:0≤zh∧zh<9223372036854775808:=by
  generalize a.natAbs*b.natAbs=p at*;clear M A B;omega
 have e1:((a.natAbs*b.natAbs/18446744073709551616:Nat):Int)=zh:=by
  generalize a.natAbs*b.natAbs=p at*;clear M A B;omega
 have e2:((a.natAbs*b.natAbs%18446744073709551616:Nat):Int)=zl:=by
  generalize a.natAbs*b.natAbs=p at*;clear M A B;omega
 rw[e1,e2]at M;have J:=fun W=>UG zh zl h0.1 h0.2 W
 generalize(a.natAbs:Int)=x at*;generalize(b.natAbs:Int)=y at*;clear e1 e2 hp hz hle h0;by_cases h:a<0
 ·have h2:b<0:=qg;clear hs;go_enter Tryz.func224,Tryz.ntmps224;go_wp2_with(first|(go_at_call_of 232 (Value.int IntKind.i64 a);refine(A _).mono ?_;rintro e w' ⟨rfl,rfl⟩)|(go_at_call_of 232 (Value.int IntKind.i64 b);refine(B _).mono ?_;rintro e w' ⟨rfl,rfl⟩)|(go_at_call 62;refine(M _).mono ?_;rintro e w' ⟨rfl,rfl⟩));refine(J _).mono ?_;rintro e w1 ⟨rfl,hb1⟩;obtain⟨m0a,m0b⟩:=qI hb1 (a:=⟨w.heap.size,0,none⟩) (jI (v:= .int .i64 0) yt yt);have zm0a:w.heap.size<w1.heap.size:=World.block_lt_of_cell? _ _ m0a;obtain⟨m1a,m1b⟩:=qI hb1 (a:=⟨w.heap.size,1,none⟩) (jI (v:= .int .u64 0) yt yt);have zm1a:w.heap.size<w1.heap.size:=World.block_lt_of_cell? _ _ m1a;go_wp2_with fail;exact bodyPost_ret (v:= .agg #[.int .i64 zh,.int .u64 zl]) (by simp[results,Tryz.results224,go_sem,m0a,m1a,zm0a,zm1a]) rfl ⟨rfl,by(repeat(with_reducible (first|assumption|exact Below.refl _ _|refine Below.drew ?_|refine below_drewN ?_ _|refine qK ?_ (by simp;try omega) _|refine qu ?_ (Nat.le_refl _) _|refine qH qY ?_)))⟩
 ·have h2:¬b<0:=qg;have t1:decide (a<0)=false:=decide_eq_false h;have t2:decide (b<0)=false:=decide_eq_false h2;clear hs;go_enter Tryz.func224,Tryz.ntmps224;go_wp2_with(first|(go_at_call_of 232 (Value.int IntKind.i64 a);refine(A _).mono ?_;rintro e w' ⟨rfl,rfl⟩)|(go_at_call_of 232 (Value.int IntKind.i64 b);refine(B _).mono ?_;rintro e w' ⟨rfl,rfl⟩)|(go_at_call 62;refine(M _).mono ?_;rintro e w' ⟨rfl,rfl⟩));refine(J _).mono ?_;rintro e w1 ⟨rfl,hb1⟩;obtain⟨m0a,m0b⟩:=qI hb1 (a:=⟨w.heap.size,0,none⟩) (jI (v:= .int .i64 0) yt yt);have zm0a:w.heap.size<w1.heap.size:=World.block_lt_of_cell? _ _ m0a;obtain⟨m1a,m1b⟩:=qI hb1 (a:=⟨w.heap.size,1,none⟩) (jI (v:= .int .u64 0) yt yt);have zm1a:w.heap.size<w1.heap.size:=World.block_lt_of_cell? _ _ m1a;go_wp2_with fail;exact bodyPost_ret (v:= .agg #[.int .i64 zh,.int .u64 zl]) (by simp[results,Tryz.results224,go_sem,m0a,m1a,zm0a,zm1a]) rfl ⟨rfl,by(repeat(with_reducible (first|assumption|exact Below.refl _ _|refine Below.drew ?_|refine below_drewN ?_ _|refine qK ?_ (by simp;try omega) _|refine qu ?_ (Nat.le_refl _) _|refine qH qY ?_)))⟩
theorem TX(xh xl yh yl zh zl:Int)(x0:0≤xh)(x1:xh<9223372036854775808)(x2:0≤xl)(x3:xl<18446744073709551616)(y0:0≤yh)(y1:yh<9223372036854775808)(y2:0≤yl)(y3:yl<18446744073709551616)
 (hy:0<yh*18446744073709551616+yl) (l0:0≤zl) (l1:zl<18446744073709551616) (hz:zh*18446744073709551616+zl=(xh*18446744073709551616+xl)/(yh*18446744073709551616+yl)) (w:World):
 Calls Tryz.prog 231 #[.agg #[Iv xh,.int .u64 xl],.agg #[Iv yh,.int .u64 yl],Iv (-1)] w fun e w'=>e= .returned (.tuple #[.agg #[Iv zh,.int .u64 zl],.bool true])∧Below w.heap.size w w':=by
 have q1:(xh*18446744073709551616+xl)/(yh*18446744073709551616+yl)≤xh*18446744073709551616+xl:=Int.ediv_le_self _ qg;have q0:0≤(xh*18446744073709551616+xl)/(yh*18446744073709551616+yl):=Int.ediv_nonneg qg qg;have m0:=Int.emod_nonneg (xh*18446744073709551616+xl) (show yh*18446744073709551616+yl≠0 by omega);have m1:=Int.emod_lt_of_pos (xh*18446744073709551616+xl) hy
 obtain⟨rh,rl,hr⟩:∃rh rl:Int,(0≤rh∧rh<18446744073709551616∧0≤rl∧rl<18446744073709551616)∧rh*18446744073709551616+rl=(xh*18446744073709551616+xl)%(yh*18446744073709551616+yl):=by
  generalize(xh*18446744073709551616+xl)%(yh*18446744073709551616+yl)=m at*;exact⟨m/18446744073709551616,m%18446744073709551616,by omega,qg⟩
 have hq:(0≤zh∧zh<18446744073709551616∧0≤zl∧zl<18446744073709551616)∧zh<9223372036854775808:=by
  rw[←hz]at q0 q1;clear hz m0 m1 hr;omega
 have OV:=fun W=>Pv xh xl yh yl _ _ zh zl rh rl x0 qg x2 x3 y0 qg y2 y3 rfl rfl hy qg ⟨hq.1,hz⟩ hr W
 have SX:=fun W=>Kx xh xl x0 x1 W
 have SY:=fun W=>Kx yh yl y0 y1 W
 have ZD:=fun W=>Kv yh yl false (by rw[eq_comm];exact decide_eq_false qg) W
 obtain⟨z,hzz⟩:∃z,z=decide (rh=0∧rl=0):=⟨_,rfl⟩;have ZR:=fun W=>Kv rh rl z hzz W
 have JQ:=fun W=>UG zh zl hq.1.1 hq.2 W
 clear hz hr hzz q0 q1 m0 m1 hy hq;rcases z with _|_
 all_goals
  go_enter Tryz.func231,Tryz.ntmps231;go_wp2_with fail;refine(SX _).mono ?_;rintro e w1 ⟨rfl,hb1⟩;have a1:=qi hb1 (b:=w.heap.size+1) (o:=0) (v:=Iv yh) yt;have za1:w.heap.size+1<w1.heap.size:=World.block_lt_of_cell? _ _ a1;have a2:=qi hb1 (b:=w.heap.size+1) (o:=1) (v:= .int .u64 yl) yt;have za2:w.heap.size+1<w1.heap.size:=World.block_lt_of_cell? _ _ a2;obtain⟨m0a,m0b⟩:=qI hb1 (a:=⟨w.heap.size+1+1,0,none⟩) (jI (v:=Iv 0) yt yt);have zm0a:w.heap.size+1+1<w1.heap.size:=World.block_lt_of_cell? _ _ m0a;obtain⟨m1a,m1b⟩:=qI hb1 (a:=⟨w.heap.size+1+1,1,none⟩) (jI (v:= .int .u64 0) yt yt);have zm1a:w.heap.size+1+1<w1.heap.size:=World.block_lt_of_cell? _ _ m1a;go_wp2_with fail;refine(SY _).mono ?_;rintro e w2 ⟨rfl,hb2⟩;have b1:=qi hb2 (b:=w1.heap.size) (o:=0) (v:= .int .u64 xh) yt;have zb1:w1.heap.size<w2.heap.size:=World.block_lt_of_cell? _ _ b1;have b2:=qi hb2 (b:=w1.heap.size) (o:=1) (v:= .int .u64 xl) yt;have zb2:w1.heap.size<w2.heap.size:=World.block_lt_of_cell? _ _ b2;obtain⟨n0a,n0b⟩:=qI hb2 (a:=⟨w.heap.size+1+1,0,none⟩) (gK m0a m0b _);have zn0a:w.heap.size+1+1<w2.heap.size:=World.block_lt_of_cell? _ _ n0a;obtain⟨n1a,n1b⟩:=qI hb2 (a:=⟨w.heap.size+1+1,1,none⟩) (gK m1a m1b _);have zn1a:w.heap.size+1+1<w2.heap.size:=World.block_lt_of_cell? _ _ n1a;go_wp2_with fail;refine(ZD _).mono ?_;rintro e w3 ⟨rfl,hb3⟩;have c1:=qi hb3 (qR b1 _);have zc1:w1.heap.size<w3.heap.size:=World.block_lt_of_cell? _ _ c1;have c2:=qi hb3 (qR b2 _);have zc2:w1.heap.size<w3.heap.size:=World.block_lt_of_cell? _ _ c2;have c3:=qi hb3 (b:=w2.heap.size) (o:=0) (v:= .int .u64 yh) yt;have zc3:w2.heap.size<w3.heap.size:=World.block_lt_of_cell? _ _ c3;have c4:=qi hb3 (b:=w2.heap.size) (o:=1) (v:= .int .u64 yl) yt;have zc4:w2.heap.size<w3.heap.size:=World.block_lt_of_cell? _ _ c4;obtain⟨o0a,o0b⟩:=qI hb3 (a:=⟨w.heap.size+1+1,0,none⟩) (gK n0a n0b _);have zo0a:w.heap.size+1+1<w3.heap.size:=World.block_lt_of_cell? _ _ o0a;obtain⟨o1a,o1b⟩:=qI hb3 (a:=⟨w.heap.size+1+1,1,none⟩) (gK n1a n1b _);have zo1a:w.heap.size+1+1<w3.heap.size:=World.block_lt_of_cell? _ _ o1a;go_wp2_with fail;refine(OV _).mono ?_;rintro e w4 ⟨rfl,hb4⟩;obtain⟨p0a,p0b⟩:=qI hb4 (a:=⟨w.heap.size+1+1,0,none⟩) ⟨o0a,o0b⟩;have zp0a:w.heap.size+1+1<w4.heap.size:=World.block_lt_of_cell? _ _ p0a;obtain⟨p1a,p1b⟩:=qI hb4 (a:=⟨w.heap.size+1+1,1,none⟩) ⟨o1a,o1b⟩;have zp1a:w.heap.size+1+1<w4.heap.size:=World.block_lt_of_cell? _ _ p1a;go_wp2_with fail;refine(ZR _).mono ?_;rintro e w5 ⟨rfl,hb5⟩;have d1:=qi hb5 (b:=w4.heap.size) (o:=0) (v:= .int .u64 zh) yt;have zd1:w4.heap.size<w5.heap.size:=World.block_lt_of_cell? _ _ d1;have d2:=qi hb5 (b:=w4.heap.size) (o:=1) (v:= .int .u64 zl) yt;have zd2:w4.heap.size<w5.heap.size:=World.block_lt_of_cell? _ _ d2;obtain⟨s0a,s0b⟩:=qI hb5 (a:=⟨w.heap.size+1+1,0,none⟩) (yo (gK p0a p0b _) _);have zs0a:w.heap.size+1+1<w5.heap.size:=World.block_lt_of_cell? _ _ s0a;obtain⟨s1a,s1b⟩:=qI hb5 (a:=⟨w.heap.size+1+1,1,none⟩) (yo (gK p1a p1b _) _);have zs1a:w.heap.size+1+1<w5.heap.size:=World.block_lt_of_cell? _ _ s1a;go_wp2_with fail;refine(JQ _).mono ?_;rintro e w6 ⟨rfl,hb6⟩;obtain⟨t0a,t0b⟩:=qI hb6 (a:=⟨w.heap.size+1+1,0,none⟩) ⟨s0a,s0b⟩;have zt0a:w.heap.size+1+1<w6.heap.size:=World.block_lt_of_cell? _ _ t0a;obtain⟨t1a,t1b⟩:=qI hb6 (a:=⟨w.heap.size+1+1,1,none⟩) ⟨s1a,s1b⟩;have zt1a:w.heap.size+1+1<w6.heap.size:=World.block_lt_of_cell? _ _ t1a;go_wp2_with fail;exact bodyPost_ret (v:= .tuple #[.agg #[Iv zh,.int .u64 zl],.bool true]) (by simp[results,Tryz.results231,go_sem,t0a,t1a]) rfl ⟨rfl,by(repeat(with_reducible (first|assumption|exact Below.refl _ _|refine Below.drew ?_|refine below_drewN ?_ _|refine qK ?_ (by simp;try omega) _|refine qu ?_ (Nat.le_refl _) _|refine qH qY ?_)))⟩
def Ky(X:Int)(k r:Nat):Prop:=∃a:Nat,r=a*2^k∧r+2^k≤18446744073709551616∧(r:Int)*r≤X∧X<((r:Int)+2^k)*((r:Int)+2^k)
theorem Px(X:Int)(h0:0≤X)(h1:X<340282366920938463463374607431768211456):Ky X 64 0:=by
 refine⟨0,by simp,by decide,by simpa using h0,?_⟩;have:((0:Nat):Int)+2^64=18446744073709551616:=qG;rw[this];omega
theorem Cq{X:Int}{n r:Nat}(h:Ky X (n+1) r)(hn:n≤63):bits .or .u64 (r:Int) (((2:Nat)^n:Nat):Int)=((r+2^n:Nat):Int)∧r+2^n<18446744073709551616:=by
 obtain⟨a,ha,hb,_,_⟩:=h;have h2:(2:Nat)^n<2^(n+1):=by rw[Nat.pow_succ];have:=Nat.two_pow_pos n;omega
 refine⟨?_,qg⟩;rw[ha];exact WS a (2^n) (n+1) h2 qg qg
theorem DJ{X:Int}{n r:Nat}(h:Ky X (n+1) r):
 (((r+2^n:Nat):Int)*((r+2^n:Nat):Int)≤X→Ky X n (r+2^n))∧(X<((r+2^n:Nat):Int)*((r+2^n:Nat):Int)→Ky X n r):=by
 obtain⟨a,ha,hb,hc,hd⟩:=h;have e0:=Nat.two_pow_pos n;have e2:(2:Nat)^(n+1)=2^n+2^n:=by rw[Nat.pow_succ];omega
 have e3:(2:Int)^(n+1)=2^n+2^n:=by rw[Int.pow_succ];omega
 have e4:((r+2^n:Nat):Int)=(r:Int)+2^n:=by rw[Int.natCast_add,Int.natCast_pow];rfl
 rw[e4];constructor
 ·intro h1;refine⟨2*a+1,?_,by omega,by rw[e4];exact h1,?_⟩
  ·rw[ha,e2];grind
  ·rw[e4,show(r:Int)+2^n+2^n=(r:Int)+2^(n+1)from by rw[e3];omega];exact hd
 ·intro h1;exact⟨2*a,by rw[ha,e2];grind,by omega,hc,h1⟩
theorem Sb{X:Int}{r:Nat}(h0:0≤X)(h:Ky X 0 r):(r:Int)=kE X.toNat:=by
 obtain⟨a,ha,hb,hc,hd⟩:=h;exact Wx h0 qg hc (by simpa using hd)
theorem af(xh xl X R:Int)(x0:0≤xh)(x1:xh<9223372036854775808)(x2:0≤xl)(x3:xl<18446744073709551616)(hX:X=xh*18446744073709551616+xl)(hR:R=kE X.toNat)(w:World):
 Calls Tryz.prog 226 #[.agg #[Iv xh,.int .u64 xl]] w fun e w'=>e= .returned (.tuple #[.int .u64 R,.bool true])∧Below w.heap.size w w':=by
 have X0:0≤X:=qg;have X1:X<340282366920938463463374607431768211456:=qg;have HX:=hide (And.intro X0 (And.intro X1 hX));have HR:=hide hR;clear X0 X1 hX hR;go_enter Tryz.func226,Tryz.ntmps226;go_wp2_with fail;go_loopw [5,6] (fun r i W=>∃(j:Int) (rn:Nat),-1≤j∧j≤63∧i=Iv j∧r= .int .u64 rn∧Ky X (j+1).toNat rn∧(W.cell? ⟨w.heap.size+1,0,none⟩=some (.int .u64 xh)∧W.cell? ⟨w.heap.size+1,1,none⟩=some (.int .u64 xl))∧Below w.heap.size w W) (fun _ i _=>(intOf i+1).toNat)
 case atStart=>
  refine⟨63,0,by omega,by omega,rfl,rfl,Px X HX.out.1 HX.out.2.1,by simp[go_sem],?_⟩
  (repeat(with_reducible (first|assumption|exact Below.refl _ _|refine Below.drew ?_|refine below_drewN ?_ _|refine qK ?_ (by simp;try omega) _|refine qu ?_ (Nat.le_refl _) _|refine qH qY ?_)))
 case round=>
  obtain⟨j,rn,hj,hj2,rfl,rfl,hN,⟨c1,c2⟩,hB⟩:=hrel;by_cases h0:0≤j
  ·obtain⟨n,rfl⟩:=Int.eq_ofNat_of_zero_le h0;rw[show((n:Int)+1).toNat=n+1 from by omega]at hN;have ho:=Cq hN qg;have hs:=DJ hN;obtain⟨t,ht⟩:∃t,t=rn+2^n:=⟨_,rfl⟩;rw[←ht]at ho hs
   have P:IntKind.u64.wrap ((2:Int)^n)=(((2:Nat)^n:Nat):Int):=by
    have e:((2:Int)^n)=(((2:Nat)^n:Nat):Int):=by rw[Int.natCast_pow];rfl
    rw[e,IntKind.wrap_u64];have hq:rn+2^n<18446744073709551616:=(Cq hN qg).2;exact Int.emod_eq_of_lt (Int.natCast_nonneg _) (by generalize(2:Nat)^n=q at*;omega)
   generalize(((2:Nat)^n:Nat):Int)=p at*;have O:=ho.1;have M:=fun W=>Tryz.bits_Mul64 t t ho.2 ho.2 W
   obtain⟨th,hth⟩:∃th:Int,th=((t*t/18446744073709551616:Nat):Int):=⟨_,rfl⟩;obtain⟨tl,htl⟩:∃tl:Int,tl=((t*t%18446744073709551616:Nat):Int):=⟨_,rfl⟩;rw[←hth,←htl]at M;have e:th*18446744073709551616+tl=(t:Int)*t:=by rw[←Int.natCast_mul,hth,htl];omega
   have tb:0≤th∧th<18446744073709551616∧0≤tl∧tl<18446744073709551616:=by
    have:t*t≤18446744073709551615*18446744073709551615:=Nat.mul_le_mul qg qg;clear M hs ho ht;generalize t*t=q at*;omega
   have CM:=fun W=>UD th tl xh xl tb.1 tb.2.1 tb.2.2.1 tb.2.2.2 x0 qg x2 x3 W
   rw[e,←HX.out.2.2]at CM;have HS:=hide hs;have HT:=hide ht;have HNN:=hide hN;clear hs ht hN e hth htl tb ho;by_cases hle:(t:Int)*t≤X
   ·have HN2:=hide (HS.out.1 hle);obtain⟨v,hv⟩:∃v,v=gZ ((t:Int)*t) X:=⟨_,rfl⟩;rw[←hv]at CM;have vb:v≤0:=by rw[hv];unfold gZ;omega
    clear hv hle;go_wp2_with(go_at_call 62;refine(M _).mono ?_;rintro e w' ⟨rfl,rfl⟩);refine(CM _).mono ?_;rintro e w1 ⟨rfl,hb1⟩;have d1:=qi hb1 c1;have d2:=qi hb1 c2;go_wp2_with fail;go_roundw
    case rel=>
     refine⟨(n:Int)-1,t,by omega,by omega,by first|rfl|(congr 2;omega),rfl,?_,⟨d1,d2⟩,qH hb1 hB⟩;rw[show((n:Int)-1+1).toNat=n from by omega];exact HN2.out
    case measure=>simp[intOf];try omega
   ·have HN2:=hide (HS.out.2 qg);obtain⟨v,hv⟩:∃v,v=gZ ((t:Int)*t) X:=⟨_,rfl⟩;rw[←hv]at CM;have vb:0<v:=by rw[hv];unfold gZ;omega
    clear hv hle;go_wp2_with(go_at_call 62;refine(M _).mono ?_;rintro e w' ⟨rfl,rfl⟩);refine(CM _).mono ?_;rintro e w1 ⟨rfl,hb1⟩;have d1:=qi hb1 c1;have d2:=qi hb1 c2;go_wp2_with fail;go_roundw
    case rel=>
     refine⟨(n:Int)-1,rn,by omega,by omega,by first|rfl|(congr 2;omega),rfl,?_,⟨d1,d2⟩,qH hb1 hB⟩;rw[show((n:Int)-1+1).toNat=n from by omega];exact HN2.out
    case measure=>simp[intOf];try omega
  ·have e:j= -1:=qg;subst e;have HE:=hide (Sb HX.out.1 hN);clear hN;go_wp2_with fail;go_ret2;exact⟨(by rw[HR.out,←HE.out];rfl),hB⟩
theorem Py(xh xl yh yl zh zl:Int)(x0:0≤xh)(x1:xh<9223372036854775808)(x2:0≤xl)(x3:xl<18446744073709551616)(y0:0≤yh)(y1:yh<9223372036854775808)(y2:0≤yl)(y3:yl<18446744073709551616)
 (hy:0<yh*18446744073709551616+yl) (l0:0≤zl) (l1:zl<18446744073709551616) (hz:zh*18446744073709551616+zl=(xh*18446744073709551616+xl)/(yh*18446744073709551616+yl)) (w:World):
 Calls Tryz.prog 223 #[.agg #[Iv xh,.int .u64 xl],.agg #[Iv yh,.int .u64 yl]] w fun e w'=>e= .returned (.tuple #[.agg #[Iv zh,.int .u64 zl],.bool true])∧Below w.heap.size w w':=by
 have D:=fun W=>TX xh xl yh yl zh zl x0 x1 x2 x3 y0 y1 y2 y3 hy l0 l1 hz W
 clear hz hy;go_enter Tryz.func223,Tryz.ntmps223;go_wp2_with fail;refine(D _).mono ?_;rintro e w1 ⟨rfl,hb1⟩;obtain⟨m0a,m0b⟩:=qI hb1 (a:=⟨w.heap.size+1+1,0,none⟩) (jI (v:=Iv 0) yt yt);obtain⟨m1a,m1b⟩:=qI hb1 (a:=⟨w.heap.size+1+1,1,none⟩) (jI (v:= .int .u64 0) yt yt);go_wp2_with fail;exact bodyPost_ret (v:= .tuple #[.agg #[Iv zh,.int .u64 zl],.bool true]) (by simp[results,Tryz.results223,go_sem,m0a,m1a]) rfl ⟨rfl,by(repeat(with_reducible (first|assumption|exact Below.refl _ _|refine Below.drew ?_|refine below_drewN ?_ _|refine qK ?_ (by simp;try omega) _|refine qu ?_ (Nat.le_refl _) _|refine qH qY ?_)))⟩
theorem DK{n k:Int}(h0:0≤n)(hk:0≤k)(h:n≤k*k):(kE n.toNat:Int)≤k:=by
 have:=JG n h0;exact dG hk qg
theorem Kz(n s:Int)(hn: -4000000000000000000≤n)(hn2:n≤4000000000000000000)(hs:0<s)(hs2:s<9223372036854775808)(w:World):
 Calls Tryz.prog 203 #[Iv n,Iv s] w fun e w'=>e= .returned (Iv (YV n s))∧Below w.heap.size w w':=by
 have hq0:0≤n*n/s:=Int.ediv_nonneg (yO n) qg;have hnn:n*n≤4000000000000000000*4000000000000000000:=GJ hn hn2;have hn0:=yO n;have hq1:n*n/s≤n*n:=Int.ediv_le_self _ hn0;have hr:=DK (k:=4000000000000000000) hq0 qg qg;have M:=fun W=>Pw n n (n*n/18446744073709551616) (n*n%18446744073709551616) yq yq Iff.rfl qg qg qg W
 have O:=fun W=>DH s qg hs2 W
 have D:=fun W=>Py (n*n/18446744073709551616) (n*n%18446744073709551616) 0 s (n*n/s/18446744073709551616) (n*n/s%18446744073709551616) qg qg qg qg qg qg qg qg qg qg qg
  (by rw[show n*n/18446744073709551616*18446744073709551616+n*n%18446744073709551616=n*n from by omega,show 0*18446744073709551616+s=s from by omega];omega) W
 have R:=fun W=>af (n*n/s/18446744073709551616) (n*n/s%18446744073709551616) (n*n/s) (kE (n*n/s).toNat) qg qg qg qg qg rfl W
 have HL:=hide (show YV n s=if n<0 then-(kE (n*n/s).toNat:Int)else kE (n*n/s).toNat from rfl);obtain⟨r,hre⟩:∃r,r=(kE (n*n/s).toNat:Int):=⟨_,rfl⟩;have hr0:0≤r:=by rw[hre];exact Int.natCast_nonneg _
 rw[←hre]at R hr HL;generalize n*n/s/18446744073709551616=qh at*;generalize n*n/s%18446744073709551616=ql at*;generalize n*n/18446744073709551616=zh at*;generalize n*n%18446744073709551616=zl at*;generalize YV n s=L at*;clear hq0 hnn hn0 hq1 hre;go_enter Tryz.func203,Tryz.ntmps203;by_cases h:n<0
 all_goals
  go_wp2_with fail;refine(M _).mono ?_;rintro e w1 ⟨rfl,hb1⟩;go_wp2_with fail;refine(O _).mono ?_;rintro e w2 ⟨rfl,hb2⟩;go_wp2_with fail;refine(D _).mono ?_;rintro e w3 ⟨rfl,hb3⟩;go_wp2_with fail;refine(R _).mono ?_;rintro e w4 ⟨rfl,hb4⟩;go_wp2_with fail;go_ret;refine⟨qQ ?_,by(repeat(with_reducible (first|assumption|exact Below.refl _ _|refine Below.drew ?_|refine below_drewN ?_ _|refine qK ?_ (by simp;try omega) _|refine qu ?_ (Nat.le_refl _) _|refine qH qY ?_)))⟩;rw[HL.out]
  first|rw[if_pos h]|rw[if_neg qg]
end Go.Proofs.YtiegohjobhehcaaGreatDoor
