/-
  The walks of the 128-bit numbers' parts: sizes compared, doubled, subtracted.
-/
import Derived.Test.YtcgpbnlhnafhjaaGreatDoorMGeo
import Derived.Test.YtcgpbnlhnafhjaaGreatDoorMRoot
set_option maxRecDepth 100000
set_option maxHeartbeats 16000000
namespace Go.Proofs.YtcgpbnlhnafhjaaGreatDoor
open Go.RowKit
set_option linter.unusedVariables false
set_option linter.unusedSimpArgs false
theorem Jr(a b:Int)(w:World):
 Calls Tryz.prog 241 #[.int .u64 a,.int .u64 b] w fun e w'=>e= .returned (Iv (uF a b))∧w=w':=by
 go_enter Tryz.func241,Tryz.ntmps241;go_wp2
 all_goals
  go_ret;exact⟨qI (by unfold uF;omega),rfl⟩
theorem WL{h l g k:Int}(hne:h≠g)(l0:0≤l)(l1:l<18446744073709551616)(k0:0≤k)(k1:k<18446744073709551616):uF h g=uF (h*18446744073709551616+l) (g*18446744073709551616+k):=by
 unfold uF;have:h<g∨g<h:=DL;rcases this with h1|h1
 ·have e:(h+1)*18446744073709551616≤g*18446744073709551616:=Int.mul_le_mul_of_nonneg_right DL DL;rw[if_pos h1,if_pos DL]
 ·have e:(g+1)*18446744073709551616≤h*18446744073709551616:=Int.mul_le_mul_of_nonneg_right DL DL;rw[if_neg DL,if_pos h1,if_neg DL,if_pos DL]
theorem WM(h l k:Int):uF l k=uF (h*18446744073709551616+l) (h*18446744073709551616+k):=by unfold uF;omega
theorem UG(h l g k:Int)(h0:0≤h)(h1:h<18446744073709551616)(l0:0≤l)(l1:l<18446744073709551616)(g0:0≤g)(g1:g<18446744073709551616)(k0:0≤k)(k1:k<18446744073709551616)(w:World):
 Calls Tryz.prog 229 #[.agg #[.int .u64 h,.int .u64 l],.agg #[.int .u64 g,.int .u64 k]] w fun e w'=>e= .returned (Iv (uF (h*18446744073709551616+l) (g*18446744073709551616+k)))∧Below w.heap.size w w':=by
 by_cases he:h=g
 ·have E:=hide (WM h l k);subst he;clear h0 h1 l0 l1 k0 k1;generalize uF (h*18446744073709551616+l) (h*18446744073709551616+k)=R at*;have T:(h !=h)=false:=DS;go_enter Tryz.func229,Tryz.ntmps229;go_wp2_with(go_at_call 241;refine(Jr _ _ _).mono ?_;rintro e w' ⟨rfl,rfl⟩);go_ret;exact⟨qI E.out,by(repeat(with_reducible (first|assumption|exact Below.refl _ _|refine Below.drew ?_|refine below_drewN ?_ _|refine qG ?_ (by simp;try omega) _|refine qj ?_ (Nat.le_refl _) _|refine qA DM ?_)))⟩
 ·have E:=hide (WL he l0 l1 k0 k1);have T:(h !=g)=true:=by rw[bne_iff_ne];exact he
  clear h0 h1 l0 l1 k0 k1 g0 g1 he;generalize uF (h*18446744073709551616+l) (g*18446744073709551616+k)=R at*;go_enter Tryz.func229,Tryz.ntmps229;go_wp2_with(go_at_call 241;refine(Jr _ _ _).mono ?_;rintro e w' ⟨rfl,rfl⟩);go_ret;exact⟨qI E.out,by(repeat(with_reducible (first|assumption|exact Below.refl _ _|refine Below.drew ?_|refine below_drewN ?_ _|refine qG ?_ (by simp;try omega) _|refine qj ?_ (Nat.le_refl _) _|refine qA DM ?_)))⟩
theorem Kh(h l:Int)(z:Bool)(hz:z=decide (h=0∧l=0))(w:World):
 Calls Tryz.prog 236 #[.agg #[.int .u64 h,.int .u64 l]] w fun e w'=>e= .returned (.bool z)∧Below w.heap.size w w':=by
 by_cases hh:h=0
 ·subst hh;have HZ:=hide hz;clear hz;rcases hl:(l==0)with _|_
  all_goals
   go_enter Tryz.func236,Tryz.ntmps236;go_wp2;go_ret;refine⟨jF ?_,by(repeat(with_reducible (first|assumption|exact Below.refl _ _|refine Below.drew ?_|refine below_drewN ?_ _|refine qG ?_ (by simp;try omega) _|refine qj ?_ (Nat.le_refl _) _|refine qA DM ?_)))⟩;rw[HZ.out];simp at hl;simp[hl]
 ·have T:(h==0)=false:=by simpa using hh
  have HZ:Hid (z=false):=hide (by rw[hz];simp[hh]);clear hz hh;go_enter Tryz.func236,Tryz.ntmps236;go_wp2;go_ret;exact⟨jF HZ.out.symm,by(repeat(with_reducible (first|assumption|exact Below.refl _ _|refine Below.drew ?_|refine below_drewN ?_ _|refine qG ?_ (by simp;try omega) _|refine qj ?_ (Nat.le_refl _) _|refine qA DM ?_)))⟩
theorem nk(h l g k:Int)(h0:0≤h)(h1:h<18446744073709551616)(l0:0≤l)(l1:l<18446744073709551616)(g0:0≤g)(g1:g<18446744073709551616)(k0:0≤k)(k1:k<18446744073709551616)(c:Int)(hc:c=if l<k then 1 else 0)(a b:Int)
 (ha:a=(h+18446744073709551616-g-c)%18446744073709551616) (hb:b=(l+18446744073709551616-k)%18446744073709551616) (w:World):
 Calls Tryz.prog 238 #[.agg #[.int .u64 h,.int .u64 l],.agg #[.int .u64 g,.int .u64 k]] w fun e w'=>e= .returned (.agg #[.int .u64 a,.int .u64 b])∧Below w.heap.size w w':=by
 have cb:0≤c∧c≤1:=by rw[hc];split<;>omega
 have R1:=fun W=>UD l k 0 l0 l1 k0 k1 DL DL W
 have R2:=fun W=>UD h g c h0 h1 g0 g1 cb.1 cb.2 W
 rw[Int.sub_zero,←hb,Int.add_zero,←hc]at R1;rw[←ha]at R2;generalize(if h<g+c then(1:Int)else 0)=d at R2;clear hc ha hb h0 h1 l0 l1 g0 g1 k0 k1 cb;go_enter Tryz.func238,Tryz.ntmps238;go_wp2_with(simp only[R1,R2]);exact bodyPost_ret (v:= .agg #[.int .u64 a,.int .u64 b]) (by simp[results,Tryz.results238,go_sem]) rfl ⟨rfl,by(repeat(with_reducible (first|assumption|exact Below.refl _ _|refine Below.drew ?_|refine below_drewN ?_ _|refine qG ?_ (by simp;try omega) _|refine qj ?_ (Nat.le_refl _) _|refine qA DM ?_)))⟩
theorem Yt(h l b:Int)(h0:0≤h)(h1:h<18446744073709551616)(l0:0≤l)(l1:l<18446744073709551616)(hb:0≤b)(hb1:b≤1)(w:World):
 Calls Tryz.prog 244 #[.agg #[.int .u64 h,.int .u64 l],.int .u64 b] w fun e w'=>e= .returned (.agg #[.int .u64 (h*2%18446744073709551616+l/9223372036854775808),.int .u64 (l*2%18446744073709551616+b)])∧Below w.heap.size w w':=by
 have o1:=Zt h (l/9223372036854775808) h0 h1 DL DL;have o2:=Zt l b l0 l1 hb hb1;go_enter Tryz.func244,Tryz.ntmps244;go_wp2;exact bodyPost_ret (v:= .agg #[.int .u64 (h*2%18446744073709551616+l/9223372036854775808),.int .u64 (l*2%18446744073709551616+b)]) (by simp[results,Tryz.results244,go_sem]) rfl ⟨rfl,by(repeat(with_reducible (first|assumption|exact Below.refl _ _|refine Below.drew ?_|refine below_drewN ?_ _|refine qG ?_ (by simp;try omega) _|refine qj ?_ (Nat.le_refl _) _|refine qA DM ?_)))⟩
def Yu(S D:Int)(k:Nat)(qh ql rh rl:Int):Prop:=
 (0≤qh∧qh<18446744073709551616∧0≤ql∧ql<18446744073709551616)∧(0≤rh∧rh<18446744073709551616∧0≤rl∧rl<18446744073709551616)∧qh*18446744073709551616+ql=S/2^k/D∧rh*18446744073709551616+rl=S/2^k%D
theorem dq(x:Int)(h0:0≤x)(h1:x<18446744073709551616):bits .and .u64 x 1=x%2:=by
 obtain⟨x,rfl⟩:=Int.eq_ofNat_of_zero_le h0;have h:=bits_and_u64_nat x 1 DL DL;rw[Nat.and_one_is_mod]at h;exact h.trans DL
theorem UH(a:Nat)(ha:a<9223372036854775808):(BitVec.ofInt 64 (a:Int)).toNat=a:=by
 rw[BitVec.ofInt_natCast,BitVec.toNat_ofNat];exact Nat.mod_eq_of_lt DL
theorem iF(j:Int)(h0:0≤j)(h1:j≤127):bits .and .i64 j 63=j%64:=by
 obtain⟨a,rfl⟩:=Int.eq_ofNat_of_zero_le h0;have hx:a&&&63<2^63:=Nat.and_lt_two_pow _ DL
 show IntKind.i64.wrap ((BitVec.ofInt 64 (a:Int)&&&BitVec.ofInt 64 ((63:Nat):Int)).toNat:Int)=_
 rw[BitVec.toNat_and,UH a DL,UH 63 DL,IntKind.wrap_i64];have e:a&&&63=a%64:=Nat.and_two_pow_sub_one_eq_mod a 6;rw[e];omega
theorem Nq(q:Int)(h0:0≤q)(h1:q<18446744073709551616):bits .or .u64 (q*2%18446744073709551616+0) 1=q*2%18446744073709551616+1:=by
 rw[Int.add_zero];have:=Zt q 1 h0 h1 DL DL
 rwa[IntKind.wrap_u64]at this
theorem Ki{x:Int}(h0:0≤x)(h1:x<18446744073709551616)(n:Nat):0≤x/2^n∧x/2^n<18446744073709551616:=by
 have hp:(0:Int)<2^n:=Int.pow_pos DL;refine⟨Int.ediv_nonneg h0 DL,?_⟩;have:=Int.ediv_le_self (2^n) h0;omega
theorem iG(S:Int)(k:Nat):S/2^(k+1)=S/2^k/2:=by
 rw[Int.pow_succ,←Int.ediv_ediv_of_nonneg (Int.pow_nonneg DL)]
theorem Nr(h l:Int)(n:Nat)(hn:n<64):(h*18446744073709551616+l)/2^n%2=l/2^n%2:=by
 have e:(18446744073709551616:Int)=2^n*(2*2^(63-n)):=by
  have:(18446744073709551616:Int)=2^64:=DQ;rw[this,show 64=n+(1+(63-n))from by omega,Int.pow_add,Int.pow_add];rfl
 have hp:(2^n:Int)≠0:=Int.ne_of_gt (Int.pow_pos DL);rw[e,show h*(2^n*(2*2^(63-n)))+l=l+2^n*(2*(h*2^(63-n)))from by grind,Int.add_mul_ediv_left _ _ hp];omega
theorem Ns(h l:Int)(l0:0≤l)(l1:l<18446744073709551616)(n:Nat):(h*18446744073709551616+l)/2^(64+n)%2=h/2^n%2:=by
 rw[Int.pow_add,←Int.ediv_ediv_of_nonneg (Int.pow_nonneg DL)]
 have:(h*18446744073709551616+l)/2^64=h:=by
  rw[show(2:Int)^64=18446744073709551616 from by decide];omega
 rw[this]
theorem iH(S D:Int)(S0:0≤S)(S1:S<340282366920938463463374607431768211456)(D0:0<D):Yu S D 128 0 0 0 0:=by
 have e:S/2^128=0:=Int.ediv_eq_zero_of_lt S0 (by rw[show(2:Int)^128=340282366920938463463374607431768211456 from by decide];exact S1);unfold Yu;rw[e];simp
theorem UI{h l b:Int}(h0:0≤h)(h1:h<9223372036854775808)(l0:0≤l)(l1:l<18446744073709551616)(b0:0≤b)(b1:b≤1):
 (0≤h*2%18446744073709551616+l/9223372036854775808∧h*2%18446744073709551616+l/9223372036854775808<18446744073709551616∧0≤l*2%18446744073709551616+b∧l*2%18446744073709551616+b<18446744073709551616)∧
 (h*2%18446744073709551616+l/9223372036854775808)*18446744073709551616+(l*2%18446744073709551616+b)=2*(h*18446744073709551616+l)+b:=DL
theorem Nt{N D bit:Int}(D0:0<D)(b0:0≤bit)(b1:bit≤1):
 (2*(N%D)+bit<D→(2*N+bit)/D=2*(N/D)∧(2*N+bit)%D=2*(N%D)+bit)∧
 (D≤2*(N%D)+bit→(2*N+bit)/D=2*(N/D)+1∧(2*N+bit)%D=2*(N%D)+bit-D):=by
 have e:=Int.emod_add_mul_ediv N D;have m0:=Int.emod_nonneg N (show D≠0 by omega);have m1:=Int.emod_lt_of_pos N D0;generalize N/D=q at*;generalize N%D=r at*;constructor
 ·intro h;have e2:2*N+bit=(2*r+bit)+D*(2*q):=by rw[←e];grind
  rw[e2,Int.add_mul_ediv_left _ _ DL,Int.add_mul_emod_self_left,Int.ediv_eq_zero_of_lt DL h,Int.emod_eq_of_lt DL h];omega
 ·intro h;have e2:2*N+bit=(2*r+bit-D)+D*(2*q+1):=by rw[←e];grind
  rw[e2,Int.add_mul_ediv_left _ _ DL,Int.add_mul_emod_self_left,Int.ediv_eq_zero_of_lt DL DL,Int.emod_eq_of_lt DL DL];omega
theorem iI{h l g k c a b:Int}(h0:0≤h)(h1:h<18446744073709551616)(l0:0≤l)(l1:l<18446744073709551616)(g0:0≤g)(g1:g<18446744073709551616)(k0:0≤k)(k1:k<18446744073709551616)
 (hc:c=if l<k then 1 else 0) (ha:a=(h+18446744073709551616-g-c)%18446744073709551616) (hb:b=(l+18446744073709551616-k)%18446744073709551616) (hle:g*18446744073709551616+k≤h*18446744073709551616+l):
 (0≤a∧a<18446744073709551616∧0≤b∧b<18446744073709551616)∧a*18446744073709551616+b=h*18446744073709551616+l-(g*18446744073709551616+k):=by
 split at hc<;>omega
theorem du{a b:Int}(h:b≤a):0≤uF a b:=by unfold uF;omega
theorem dw{a b:Int}(h:a<b):uF a b<0:=by unfold uF;omega
theorem iJ{S D bit qh ql rh rl qh2 ql2 rh2 rl2:Int}{j:Nat}(hN:Yu S D (j+1) qh ql rh rl)(D0:0<D)(hbit:bit=S/2^j%2)
 (hR:(0≤rh2∧rh2<18446744073709551616∧0≤rl2∧rl2<18446744073709551616)∧rh2*18446744073709551616+rl2=2*(rh*18446744073709551616+rl)+bit) (hQ:(0≤qh2∧qh2<18446744073709551616∧0≤ql2∧ql2<18446744073709551616)∧qh2*18446744073709551616+ql2=2*(qh*18446744073709551616+ql)+0):
 (rh2*18446744073709551616+rl2<D→Yu S D j qh2 ql2 rh2 rl2)∧
 (D≤rh2*18446744073709551616+rl2→∀a b:Int,(0≤a∧a<18446744073709551616∧0≤b∧b<18446744073709551616)→a*18446744073709551616+b=rh2*18446744073709551616+rl2-D→ql2+1<18446744073709551616∧Yu S D j qh2 (ql2+1) a b):=by
 obtain⟨q0,r0,e1,e2⟩:=hN;have hS:S/2^j=2*(S/2^(j+1))+bit:=by rw[iG,hbit];omega
 have hb:0≤bit∧bit≤1:=by rw[hbit];omega
 have hd:=Nt (N:=S/2^(j+1)) (bit:=bit) D0 hb.1 hb.2;rw[←hS,←e1,←e2,←hR.2]at hd;unfold Yu;clear hbit;constructor
 ·intro h;obtain⟨d1,d2⟩:=hd.1 h;exact⟨hQ.1,hR.1,by rw[d1];omega,by rw[d2]⟩
 ·intro h a b hab he;obtain⟨d1,d2⟩:=hd.2 h;have hl:ql2+1<18446744073709551616:=DL;exact⟨hl,⟨hQ.1.1,hQ.1.2.1,by omega,hl⟩,hab,by rw[d1];omega,by rw[d2];exact he⟩
theorem iK{S D qh ql rh rl:Int}{j:Nat}(hN:Yu S D (j+1) qh ql rh rl)(S0:0≤S)(S1:S<340282366920938463463374607431768211456)(D0:0<D)(D1:D≤170141183460469231731687303715884105728):qh<9223372036854775808∧rh<9223372036854775808:=by
 obtain⟨q0,r0,e1,e2⟩:=hN;have m1:=Int.emod_lt_of_pos (S/2^(j+1)) D0
 have hS:S/2^(j+1)≤S/2:=by
  rw[Int.pow_succ,Int.mul_comm,←Int.ediv_ediv_of_nonneg DL];exact Int.ediv_le_self _ DL
 have hS0:0≤S/2^(j+1):=Int.ediv_nonneg S0 (Int.pow_nonneg DL);have hq:S/2^(j+1)/D≤S/2^(j+1):=Int.ediv_le_self _ hS0;rw[←e1]at hq;rw[←e2]at m1;clear e1 e2;generalize S/2^(j+1)=N at*;exact⟨DL,DL⟩
theorem dz{a b c d:Int}(h:a*18446744073709551616+b=c*18446744073709551616+d)(b0:0≤b)(b1:b<18446744073709551616)(d0:0≤d)(d1:d<18446744073709551616):a=c∧b=d:=DL
def Js(w W:World)(hi lo dh dl qh ql rh rl:Int):Prop:=
 (W.cell? ⟨w.heap.size,0,none⟩=some (.int .u64 hi)∧W.cell? ⟨w.heap.size,1,none⟩=some (.int .u64 lo)∧W.cell? ⟨w.heap.size+1,0,none⟩=some (.int .u64 dh)∧W.cell? ⟨w.heap.size+1,1,none⟩=some (.int .u64 dl))∧
 (W.cell? ⟨w.heap.size+1+1,0,none⟩=some (.int .u64 qh)∧W.cell? ⟨w.heap.size+1+1,1,none⟩=some (.int .u64 ql)∧W.cell? ⟨w.heap.size+1+1+1,0,none⟩=some (.int .u64 rh)∧W.cell? ⟨w.heap.size+1+1+1,1,none⟩=some (.int .u64 rl))∧
 (W.frozen? ⟨w.heap.size+1+1,0,none⟩=false∧W.frozen? ⟨w.heap.size+1+1,1,none⟩=false∧W.frozen? ⟨w.heap.size+1+1+1,0,none⟩=false∧W.frozen? ⟨w.heap.size+1+1+1,1,none⟩=false)∧Below w.heap.size w W
theorem Qt{w:World}{p:Addr}{x:Value}(h:w.cell? p=some x)(v:Value):(w.setCell p v).cell? p=some v:=World.cell?_setCell_same' w p v (by rw[h];rfl)
theorem ji{w:World}{b c o q:Nat}{x:Value}(hne:b≠c)(h:w.cell? ⟨c,q,none⟩=some x)(v:Value):(w.setCell ⟨b,o,none⟩ v).cell? ⟨c,q,none⟩=some x:=
 (World.cell?_setCell_other w _ _ v (fun e=>hne (by injection e))).trans h
theorem Jt{w:World}{b c o q:Nat}{x:Value}(hne:o≠q)(h:w.cell? ⟨c,q,none⟩=some x)(v:Value):(w.setCell ⟨b,o,none⟩ v).cell? ⟨c,q,none⟩=some x:=
 (World.cell?_setCell_other w _ _ v (fun e=>hne (by injection e))).trans h
theorem yC{w:World}{a:Addr}(h:w.frozen? a=false)(p:Addr)(v:Value):(w.setCell p v).frozen? a=false:=by rw[←h];simp
section
variable{w W W':World}{hi lo dh dl qh ql rh rl:Int}
theorem Js.below(h:Js w W hi lo dh dl qh ql rh rl)(hb:Below W.heap.size W W'):Js w W' hi lo dh dl qh ql rh rl:=by
 obtain⟨⟨c0,c1,c2,c3⟩,⟨c4,c5,c6,c7⟩,⟨f0,f1,f2,f3⟩,hB⟩:=h;refine⟨⟨qe hb c0,qe hb c1,qe hb c2,qe hb c3⟩,⟨qe hb c4,qe hb c5,qe hb c6,qe hb c7⟩,⟨(qt hb (zq c4 f0)).2,(qt hb (zq c5 f1)).2,(qt hb (zq c6 f2)).2,(qt hb (zq c7 f3)).2⟩,qA hb hB⟩
theorem Js.setR(h:Js w W hi lo dh dl qh ql rh rl)(a b:Int):Js w ((W.setCell ⟨w.heap.size+1+1+1,0,none⟩ (.int .u64 a)).setCell ⟨w.heap.size+1+1+1,1,none⟩ (.int .u64 b)) hi lo dh dl qh ql a b:=by
 obtain⟨⟨c0,c1,c2,c3⟩,⟨c4,c5,c6,c7⟩,⟨f0,f1,f2,f3⟩,hB⟩:=h
 refine⟨⟨ji DL (ji DL c0 _) _,ji DL (ji DL c1 _) _,ji DL (ji DL c2 _) _,ji DL (ji DL c3 _) _⟩,
  ⟨ji DL (ji DL c4 _) _,ji DL (ji DL c5 _) _,Jt DL (Qt c6 _) _,Qt (Jt DL c7 _) _⟩,
  ⟨yC (yC f0 _ _) _ _,yC (yC f1 _ _) _ _,yC (yC f2 _ _) _ _,yC (yC f3 _ _) _ _⟩,qG (qG hB (by simp;try omega) _) (by simp;try omega) _⟩
theorem Js.setQ(h:Js w W hi lo dh dl qh ql rh rl)(a b:Int):Js w ((W.setCell ⟨w.heap.size+1+1,0,none⟩ (.int .u64 a)).setCell ⟨w.heap.size+1+1,1,none⟩ (.int .u64 b)) hi lo dh dl a b rh rl:=by
 obtain⟨⟨c0,c1,c2,c3⟩,⟨c4,c5,c6,c7⟩,⟨f0,f1,f2,f3⟩,hB⟩:=h
 refine⟨⟨ji DL (ji DL c0 _) _,ji DL (ji DL c1 _) _,ji DL (ji DL c2 _) _,ji DL (ji DL c3 _) _⟩,
  ⟨Jt DL (Qt c4 _) _,Qt (Jt DL c5 _) _,ji DL (ji DL c6 _) _,ji DL (ji DL c7 _) _⟩,
  ⟨yC (yC f0 _ _) _ _,yC (yC f1 _ _) _ _,yC (yC f2 _ _) _ _,yC (yC f3 _ _) _ _⟩,qG (qG hB (by simp;try omega) _) (by simp;try omega) _⟩
theorem Js.setQl(h:Js w W hi lo dh dl qh ql rh rl)(b:Int):Js w (W.setCell ⟨w.heap.size+1+1,1,none⟩ (.int .u64 b)) hi lo dh dl qh b rh rl:=by
 obtain⟨⟨c0,c1,c2,c3⟩,⟨c4,c5,c6,c7⟩,⟨f0,f1,f2,f3⟩,hB⟩:=h
 refine⟨⟨ji DL c0 _,ji DL c1 _,ji DL c2 _,ji DL c3 _⟩,
  ⟨Jt DL c4 _,Qt c5 _,ji DL c6 _,ji DL c7 _⟩,
  ⟨yC f0 _ _,yC f1 _ _,yC f2 _ _,yC f3 _ _⟩,qG hB (by simp;try omega) _⟩
end
theorem iL(hi lo dh dl S D qh' ql' rh' rl':Int)(hi0:0≤hi)(hi1:hi<18446744073709551616)(lo0:0≤lo)(lo1:lo<18446744073709551616)(dh0:0≤dh)(dh1:dh<18446744073709551616)(dl0:0≤dl)(dl1:dl<18446744073709551616)
 (hS:S=hi*18446744073709551616+lo) (hD:D=dh*18446744073709551616+dl) (D0:0<D) (D1:D≤170141183460469231731687303715884105728)
 (hq:(0≤qh'∧qh'<18446744073709551616∧0≤ql'∧ql'<18446744073709551616)∧qh'*18446744073709551616+ql'=S/D) (hr:(0≤rh'∧rh'<18446744073709551616∧0≤rl'∧rl'<18446744073709551616)∧rh'*18446744073709551616+rl'=S%D) (w:World):
 Calls Tryz.prog 237 #[.agg #[.int .u64 hi,.int .u64 lo],.agg #[.int .u64 dh,.int .u64 dl]] w fun e w'=>e= .returned (.tuple #[.agg #[.int .u64 qh',.int .u64 ql'],.agg #[.int .u64 rh',.int .u64 rl']])∧Below w.heap.size w w':=by
 have S0:0≤S:=DL;have S1:S<340282366920938463463374607431768211456:=DL;have HS:=hide hS;have HD:=hide hD;have HQ:=hide hq;have HR:=hide hr;have HB:=hide (And.intro hi0 (And.intro hi1 (And.intro lo0 (And.intro lo1 (And.intro dh0 (And.intro dh1 (And.intro dl0 dl1)))))));have HDD:=hide (And.intro D0 (And.intro D1 (And.intro S0 S1)));clear hS hD hq hr hi0 hi1 lo0 lo1 dh0 dh1 dl0 dl1 D0 D1 S0 S1;go_enter Tryz.func237,Tryz.ntmps237;go_wp2_with fail;go_loopw [6] (fun i W=>∃(j:Int) (qh ql rh rl:Int),-1≤j∧j≤127∧i=Iv j∧Yu S D (j+1).toNat qh ql rh rl∧Js w W hi lo dh dl qh ql rh rl) (fun i _=>(intOf i+1).toNat)
 case atStart=>
  refine⟨127,0,0,0,0,by omega,by omega,rfl,iH S D HDD.out.2.2.1 HDD.out.2.2.2 HDD.out.1,?_⟩;unfold Js;refine⟨DR,DR,by simp[go_sem],?_⟩
  (repeat(with_reducible (first|assumption|exact Below.refl _ _|refine Below.drew ?_|refine below_drewN ?_ _|refine qG ?_ (by simp;try omega) _|refine qj ?_ (Nat.le_refl _) _|refine qA DM ?_)))
 case round=>
  obtain⟨j,qh,ql,rh,rl,hj,hj2,rfl,hN,hAt⟩:=hrel;have hAt':=hAt;obtain⟨⟨c0,c1,c2,c3⟩,⟨c4,c5,c6,c7⟩,⟨f0,f1,f2,f3⟩,hB⟩:=hAt';by_cases h0:0≤j
  ·obtain⟨n,rfl⟩:=Int.eq_ofNat_of_zero_le h0;rw[show((n:Int)+1).toNat=n+1 from by omega]at hN;obtain⟨bit,hbit⟩:∃bit,bit=S/2^n%2:=⟨_,rfl⟩;have hb01:0≤bit∧bit≤1:=by rw[hbit];omega
   have sm:=iK hN HDD.out.2.2.1 HDD.out.2.2.2 HDD.out.1 HDD.out.2.1;have nq:=hN.1;have nr:=hN.2.1;have tr:=UI nr.1 sm.2 nr.2.2.1 nr.2.2.2 hb01.1 hb01.2;have tq:=UI nq.1 sm.1 nq.2.2.1 nq.2.2.2 (Int.le_refl 0) DL;have TR:=fun W=>Yt rh rl bit nr.1 nr.2.1 nr.2.2.1 nr.2.2.2 hb01.1 hb01.2 W
   have TQ:=fun W=>Yt qh ql 0 nq.1 nq.2.1 nq.2.2.1 nq.2.2.2 (Int.le_refl 0) DL W
   have O1:=Nq ql nq.2.2.1 nq.2.2.2;generalize rh*2%18446744073709551616+rl/9223372036854775808=rh2 at*;generalize rl*2%18446744073709551616+bit=rl2 at*;generalize qh*2%18446744073709551616+ql/9223372036854775808=qh2 at*;rw[←Int.add_zero (ql*2%18446744073709551616)]at O1;simp only[Int.add_zero]at O1 TQ tq;generalize ql*2%18446744073709551616=ql2 at*;have RD:=iJ (qh2:=qh2) (ql2:=ql2) hN HDD.out.1 hbit tr ⟨tq.1,by rw[Int.add_zero];exact tq.2⟩;obtain⟨tr1,tr2⟩:=tr;have HN:=hide hN;have HT:=hide (And.intro tr1 (And.intro tr2 tq));have BT:=hide hbit;have HRD:=hide RD;clear hN tr2 tq hbit RD nq nr sm;have OB:=HB.out;have BR:=hide (show rh2*18446744073709551616+rl2=2*(rh*18446744073709551616+rl)+bit from HT.out.2.1);obtain⟨v,hv⟩:∃v,v=uF (rh2*18446744073709551616+rl2) (dh*18446744073709551616+dl):=⟨_,rfl⟩;have CM:=fun W=>UG rh2 rl2 dh dl tr1.1 tr1.2.1 tr1.2.2.1 tr1.2.2.2 OB.2.2.2.2.1 OB.2.2.2.2.2.1 OB.2.2.2.2.2.2.1 OB.2.2.2.2.2.2.2 W
   rw[←hv]at CM;obtain⟨cc,hcc⟩:∃c:Int,c=if rl2<dl then 1 else 0:=⟨_,rfl⟩
   obtain⟨la,hla⟩:∃a,a=(rh2+18446744073709551616-dh-cc)%18446744073709551616:=⟨_,rfl⟩;obtain⟨lb,hlb⟩:∃b,b=(rl2+18446744073709551616-dl)%18446744073709551616:=⟨_,rfl⟩;have LS:=fun W=>nk rh2 rl2 dh dl tr1.1 tr1.2.1 tr1.2.2.1 tr1.2.2.2 OB.2.2.2.2.1 OB.2.2.2.2.2.1 OB.2.2.2.2.2.2.1 OB.2.2.2.2.2.2.2 cc hcc la lb hla hlb W
   have HL:=hide (fun h=>iI tr1.1 tr1.2.1 tr1.2.2.1 tr1.2.2.2 OB.2.2.2.2.1 OB.2.2.2.2.2.1 OB.2.2.2.2.2.2.1 OB.2.2.2.2.2.2.2 hcc hla hlb h);have HV:=hide hv;have dpl:=Ki OB.2.2.1 OB.2.2.2.1;have dph:=Ki OB.1 OB.2.1;clear hcc hla hlb hv;by_cases hlt:n<64
   ·have A:bits .and .i64 (n:Int) 63=(n:Int):=by rw[iF _ DL DL];omega
    have B1:bits .and .u64 (lo/2^n) 1=bit:=by
     rw[dq _ (dpl n).1 (dpl n).2,BT.out,HS.out];exact(Nr hi lo n hlt).symm
    clear dpl dph;go_wp2_with fail;refine(TR _).mono ?_;rintro e w1 ⟨rfl,hb1⟩;clear c0 c1 c2 c3 c4 c5 c6 c7 f0 f1 f2 f3;have Ax:=hAt.below hb1;have Ax':=Ax;obtain⟨⟨x0,x1,x2,x3⟩,⟨x4,x5,x6,x7⟩,⟨xf0,xf1,xf2,xf3⟩,xB⟩:=Ax';go_wp2_with fail;refine(TQ _).mono ?_;rintro e w2 ⟨rfl,hb2⟩;clear x0 x1 x2 x3 x4 x5 x6 x7 xf0 xf1 xf2 xf3;have Ay:=(Ax.setR rh2 rl2).below hb2;have Ay':=Ay;obtain⟨⟨y0,y1,y2,y3⟩,⟨y4,y5,y6,y7⟩,⟨yf0,yf1,yf2,yf3⟩,yB⟩:=Ay';go_wp2_with fail;refine(CM _).mono ?_;rintro e w3 ⟨rfl,hb3⟩;clear y0 y1 y2 y3 y4 y5 y6 y7 yf0 yf1 yf2 yf3;have Az:=(Ay.setQ qh2 ql2).below hb3;have Az':=Az;obtain⟨⟨z0,z1,z2,z3⟩,⟨z4,z5,z6,z7⟩,⟨zf0,zf1,zf2,zf3⟩,zB⟩:=Az';by_cases hcmp:rh2*18446744073709551616+rl2<dh*18446744073709551616+dl
    ·have vn:v<0:=by rw[HV.out];exact dw hcmp
     have HN2:=hide (HRD.out.1 (by rw[HD.out];exact hcmp));clear hcmp;go_wp2_with fail;go_roundw
     case rel=>
      refine⟨(n:Int)-1,qh2,ql2,rh2,rl2,by omega,by omega,by first|rfl|(congr 2;omega),?_,Az⟩;rw[show((n:Int)-1+1).toNat=n from by omega];exact HN2.out
     case measure=>simp[intOf];try omega
    ·have vn:0≤v:=by rw[HV.out];exact du DL
     have hl:=HL.out DL;have HN2:=hide (HRD.out.2 (by rw[HD.out];omega) la lb hl.1 (by rw[HD.out];exact hl.2));clear hcmp hl;go_wp2_with fail;refine(LS _).mono ?_;rintro e w4 ⟨rfl,hb4⟩;clear z0 z1 z2 z3 z4 z5 z6 z7 zf0 zf1 zf2 zf3;have At:=Az.below hb4;have At':=At;obtain⟨⟨t0,t1,t2,t3⟩,⟨t4,t5,t6,t7⟩,⟨tf0,tf1,tf2,tf3⟩,tB⟩:=At';go_wp2_with fail;go_roundw
     case rel=>
      refine⟨(n:Int)-1,qh2,(ql2+1),la,lb,by omega,by omega,by first|rfl|(congr 2;omega),?_,(At.setR la lb).setQl (ql2+1)⟩;rw[show((n:Int)-1+1).toNat=n from by omega];exact HN2.out.2
     case measure=>simp[intOf];try omega
   ·obtain⟨c,hc⟩:∃c:Int,c=(n:Int)%64:=⟨_,rfl⟩;have A:bits .and .i64 (n:Int) 63=c:=by rw[iF _ DL DL,hc]
    have c0':0≤c:=DL;have c1':c≤63:=DL
    have B1:bits .and .u64 (hi/2^(n-64)) 1=bit:=by
     rw[dq _ (dph _).1 (dph _).2,BT.out,HS.out];have:=Ns hi lo OB.2.2.1 OB.2.2.2.1 (n-64);rw[show 64+(n-64)=n from by omega]at this;exact this.symm
    clear dpl dph hc;go_wp2_with fail;refine(TR _).mono ?_;rintro e w1 ⟨rfl,hb1⟩;clear c0 c1 c2 c3 c4 c5 c6 c7 f0 f1 f2 f3;have Ax:=hAt.below hb1;have Ax':=Ax;obtain⟨⟨x0,x1,x2,x3⟩,⟨x4,x5,x6,x7⟩,⟨xf0,xf1,xf2,xf3⟩,xB⟩:=Ax';go_wp2_with fail;refine(TQ _).mono ?_;rintro e w2 ⟨rfl,hb2⟩;clear x0 x1 x2 x3 x4 x5 x6 x7 xf0 xf1 xf2 xf3;have Ay:=(Ax.setR rh2 rl2).below hb2;have Ay':=Ay;obtain⟨⟨y0,y1,y2,y3⟩,⟨y4,y5,y6,y7⟩,⟨yf0,yf1,yf2,yf3⟩,yB⟩:=Ay';go_wp2_with fail;refine(CM _).mono ?_;rintro e w3 ⟨rfl,hb3⟩;clear y0 y1 y2 y3 y4 y5 y6 y7 yf0 yf1 yf2 yf3;have Az:=(Ay.setQ qh2 ql2).below hb3;have Az':=Az;obtain⟨⟨z0,z1,z2,z3⟩,⟨z4,z5,z6,z7⟩,⟨zf0,zf1,zf2,zf3⟩,zB⟩:=Az';by_cases hcmp:rh2*18446744073709551616+rl2<dh*18446744073709551616+dl
    ·have vn:v<0:=by rw[HV.out];exact dw hcmp
     have HN2:=hide (HRD.out.1 (by rw[HD.out];exact hcmp));clear hcmp;go_wp2_with fail;go_roundw
     case rel=>
      refine⟨(n:Int)-1,qh2,ql2,rh2,rl2,by omega,by omega,by first|rfl|(congr 2;omega),?_,Az⟩;rw[show((n:Int)-1+1).toNat=n from by omega];exact HN2.out
     case measure=>simp[intOf];try omega
    ·have vn:0≤v:=by rw[HV.out];exact du DL
     have hl:=HL.out DL;have HN2:=hide (HRD.out.2 (by rw[HD.out];omega) la lb hl.1 (by rw[HD.out];exact hl.2));clear hcmp hl;go_wp2_with fail;refine(LS _).mono ?_;rintro e w4 ⟨rfl,hb4⟩;clear z0 z1 z2 z3 z4 z5 z6 z7 zf0 zf1 zf2 zf3;have At:=Az.below hb4;have At':=At;obtain⟨⟨t0,t1,t2,t3⟩,⟨t4,t5,t6,t7⟩,⟨tf0,tf1,tf2,tf3⟩,tB⟩:=At';go_wp2_with fail;go_roundw
     case rel=>
      refine⟨(n:Int)-1,qh2,(ql2+1),la,lb,by omega,by omega,by first|rfl|(congr 2;omega),?_,(At.setR la lb).setQl (ql2+1)⟩;rw[show((n:Int)-1+1).toNat=n from by omega];exact HN2.out.2
     case measure=>simp[intOf];try omega
  ·have e:j= -1:=DL;subst e;rw[show((-1:Int)+1).toNat=0 from rfl]at hN;obtain⟨q0,r0,e1,e2⟩:=hN;rw[show S/2^0=S from by simp]at e1 e2;have u1:=dz (e1.trans HQ.out.2.symm) q0.2.2.1 q0.2.2.2 HQ.out.1.2.2.1 HQ.out.1.2.2.2;have u2:=dz (e2.trans HR.out.2.symm) r0.2.2.1 r0.2.2.2 HR.out.1.2.2.1 HR.out.1.2.2.2;obtain⟨rfl,rfl⟩:=u1;obtain⟨rfl,rfl⟩:=u2;clear e1 e2 q0 r0 h0;go_wp2_with fail
   go_region
   all_goals
    go_wp2_with fail;exact bodyPost_ret (v:= .tuple #[.agg #[.int .u64 qh,.int .u64 ql],.agg #[.int .u64 rh,.int .u64 rl]]) (by simp[results,Tryz.results237,go_sem,c4,c5,c6,c7]) rfl ⟨rfl,by(repeat(with_reducible (first|assumption|exact Below.refl _ _|refine Below.drew ?_|refine below_drewN ?_ _|refine qG ?_ (by simp;try omega) _|refine qj ?_ (Nat.le_refl _) _|refine qA DM ?_)))⟩
theorem TY(a:Int)(ha:qK a)(w:World):Calls Tryz.prog 227 #[Iv a] w fun e w'=>e= .returned (.int .u64 a.natAbs)∧w=w':=by
 obtain⟨a1,a2⟩:=ha;go_enter Tryz.func227,Tryz.ntmps227;go_wp2
 all_goals
  go_ret;refine⟨qI ?_,rfl⟩
  first|omega|(simp[IntKind.wrap_u64]at*;omega)
theorem UJ(h l:Int)(h0:0≤h)(h1:h<9223372036854775808)(w:World):
 Calls Tryz.prog 228 #[.agg #[.int .u64 h,.int .u64 l],.bool false] w fun e w'=>e= .returned (.tuple #[.agg #[Iv h,.int .u64 l],.bool true])∧Below w.heap.size w w':=by
 go_enter Tryz.func228,Tryz.ntmps228;go_wp2;exact bodyPost_ret (v:= .tuple #[.agg #[Iv h,.int .u64 l],.bool true]) (by simp[results,Tryz.results228,go_sem]) rfl ⟨rfl,by(repeat(with_reducible (first|assumption|exact Below.refl _ _|refine Below.drew ?_|refine below_drewN ?_ _|refine qG ?_ (by simp;try omega) _|refine qj ?_ (Nat.le_refl _) _|refine qA DM ?_)))⟩
theorem Kj(h l:Int)(h0:0≤h)(h1:h<9223372036854775808)(w:World):
 Calls Tryz.prog 235 #[.agg #[Iv h,.int .u64 l]] w fun e w'=>e= .returned (.tuple #[.agg #[.int .u64 h,.int .u64 l],.bool false])∧Below w.heap.size w w':=by
 go_enter Tryz.func235,Tryz.ntmps235;go_wp2;exact bodyPost_ret (v:= .tuple #[.agg #[.int .u64 h,.int .u64 l],.bool false]) (by simp[results,Tryz.results235,go_sem]) rfl ⟨rfl,by(repeat(with_reducible (first|assumption|exact Below.refl _ _|refine Below.drew ?_|refine below_drewN ?_ _|refine qG ?_ (by simp;try omega) _|refine qj ?_ (Nat.le_refl _) _|refine qA DM ?_)))⟩
theorem WN(a:Int)(h0:0≤a)(h1:a<9223372036854775808)(w:World):
 Calls Tryz.prog 220 #[Iv a] w fun e w'=>e= .returned (.agg #[Iv 0,.int .u64 a])∧Below w.heap.size w w':=by
 have e:a/9223372036854775808=0:=DL;go_enter Tryz.func220,Tryz.ntmps220;go_wp2;exact bodyPost_ret (v:= .agg #[Iv 0,.int .u64 a]) (by simp[results,Tryz.results220,go_sem]) rfl ⟨rfl,by(repeat(with_reducible (first|assumption|exact Below.refl _ _|refine Below.drew ?_|refine below_drewN ?_ _|refine qG ?_ (by simp;try omega) _|refine qj ?_ (Nat.le_refl _) _|refine qA DM ?_)))⟩
theorem bT{w:World}{a:Addr}(h1:w.cell? a=some (zk w a))(h2:w.frozen? a=false)(o:Obj):(w.alloc o).cell? a=some (zk (w.alloc o) a)∧(w.alloc o).frozen? a=false:=zg ⟨h1,h2⟩ o
theorem iM(a b zh zl:Int)(ha:qK a)(hb:qK b)(hs:a<0↔b<0)(l0:0≤zl)(l1:zl<18446744073709551616)(hz:zh*18446744073709551616+zl=a*b)(w:World):
 Calls Tryz.prog 219 #[.int .i64 a,.int .i64 b] w fun e w'=>e= .returned (.agg #[.int .i64 zh,.int .u64 zl])∧Below w.heap.size w w':=by
 have A:=fun W=>TY a ha W
 have B:=fun W=>TY b hb W
 obtain⟨a1,a2⟩:=ha;obtain⟨b1,b2⟩:=hb;have M:=fun W=>Tryz.bits_Mul64 a.natAbs b.natAbs DL DL W
 have hp:((a.natAbs*b.natAbs:Nat):Int)=a*b:=by
  rw[Int.natCast_mul];by_cases h:a<0
  ·have h2:b<0:=DL;rw[show(a.natAbs:Int)= -a from by omega,show(b.natAbs:Int)= -b from by omega,Int.neg_mul_neg]
  ·have h2:¬b<0:=DL;rw[show(a.natAbs:Int)=a from by omega,show(b.natAbs:Int)=b from by omega]
 have hle:a.natAbs*b.natAbs≤9223372036854775808*9223372036854775808:=Nat.mul_le_mul DL DL
 have h0:0≤zh∧zh<9223372036854775808:=by
  generalize a.natAbs*b.natAbs=p at*;clear M A B;omega
 have e1:((a.natAbs*b.natAbs/18446744073709551616:Nat):Int)=zh:=by
  generalize a.natAbs*b.natAbs=p at*;clear M A B;omega
 have e2:((a.natAbs*b.natAbs%18446744073709551616:Nat):Int)=zl:=by
  generalize a.natAbs*b.natAbs=p at*;clear M A B;omega
 rw[e1,e2]at M;have J:=fun W=>UJ zh zl h0.1 h0.2 W
 generalize(a.natAbs:Int)=x at*;generalize(b.natAbs:Int)=y at*;clear e1 e2 hp hz hle h0;by_cases h:a<0
 ·have h2:b<0:=DL;clear hs;go_enter Tryz.func219,Tryz.ntmps219;go_wp2_with(first|(go_at_call_of 227 (Value.int IntKind.i64 a);refine(A _).mono ?_;rintro e w' ⟨rfl,rfl⟩)|(go_at_call_of 227 (Value.int IntKind.i64 b);refine(B _).mono ?_;rintro e w' ⟨rfl,rfl⟩)|(go_at_call 138;refine(M _).mono ?_;rintro e w' ⟨rfl,rfl⟩));refine(J _).mono ?_;rintro e w1 ⟨rfl,hb1⟩;obtain⟨m0a,m0b⟩:=qt hb1 (a:=⟨w.heap.size,0,none⟩) (zq (v:= .int .i64 0) DR DR);have zm0a:w.heap.size<w1.heap.size:=World.block_lt_of_cell? _ _ m0a;obtain⟨m1a,m1b⟩:=qt hb1 (a:=⟨w.heap.size,1,none⟩) (zq (v:= .int .u64 0) DR DR);have zm1a:w.heap.size<w1.heap.size:=World.block_lt_of_cell? _ _ m1a;go_wp2_with fail;exact bodyPost_ret (v:= .agg #[.int .i64 zh,.int .u64 zl]) (by simp[results,Tryz.results219,go_sem,m0a,m1a,zm0a,zm1a]) rfl ⟨rfl,by(repeat(with_reducible (first|assumption|exact Below.refl _ _|refine Below.drew ?_|refine below_drewN ?_ _|refine qG ?_ (by simp;try omega) _|refine qj ?_ (Nat.le_refl _) _|refine qA DM ?_)))⟩
 ·have h2:¬b<0:=DL;have t1:decide (a<0)=false:=decide_eq_false h;have t2:decide (b<0)=false:=decide_eq_false h2;clear hs;go_enter Tryz.func219,Tryz.ntmps219;go_wp2_with(first|(go_at_call_of 227 (Value.int IntKind.i64 a);refine(A _).mono ?_;rintro e w' ⟨rfl,rfl⟩)|(go_at_call_of 227 (Value.int IntKind.i64 b);refine(B _).mono ?_;rintro e w' ⟨rfl,rfl⟩)|(go_at_call 138;refine(M _).mono ?_;rintro e w' ⟨rfl,rfl⟩));refine(J _).mono ?_;rintro e w1 ⟨rfl,hb1⟩;obtain⟨m0a,m0b⟩:=qt hb1 (a:=⟨w.heap.size,0,none⟩) (zq (v:= .int .i64 0) DR DR);have zm0a:w.heap.size<w1.heap.size:=World.block_lt_of_cell? _ _ m0a;obtain⟨m1a,m1b⟩:=qt hb1 (a:=⟨w.heap.size,1,none⟩) (zq (v:= .int .u64 0) DR DR);have zm1a:w.heap.size<w1.heap.size:=World.block_lt_of_cell? _ _ m1a;go_wp2_with fail;exact bodyPost_ret (v:= .agg #[.int .i64 zh,.int .u64 zl]) (by simp[results,Tryz.results219,go_sem,m0a,m1a,zm0a,zm1a]) rfl ⟨rfl,by(repeat(with_reducible (first|assumption|exact Below.refl _ _|refine Below.drew ?_|refine below_drewN ?_ _|refine qG ?_ (by simp;try omega) _|refine qj ?_ (Nat.le_refl _) _|refine qA DM ?_)))⟩
theorem TZ(xh xl yh yl zh zl:Int)(x0:0≤xh)(x1:xh<9223372036854775808)(x2:0≤xl)(x3:xl<18446744073709551616)(y0:0≤yh)(y1:yh<9223372036854775808)(y2:0≤yl)(y3:yl<18446744073709551616)
 (hy:0<yh*18446744073709551616+yl) (l0:0≤zl) (l1:zl<18446744073709551616) (hz:zh*18446744073709551616+zl=(xh*18446744073709551616+xl)/(yh*18446744073709551616+yl)) (w:World):
 Calls Tryz.prog 226 #[.agg #[Iv xh,.int .u64 xl],.agg #[Iv yh,.int .u64 yl],Iv (-1)] w fun e w'=>e= .returned (.tuple #[.agg #[Iv zh,.int .u64 zl],.bool true])∧Below w.heap.size w w':=by
 have q1:(xh*18446744073709551616+xl)/(yh*18446744073709551616+yl)≤xh*18446744073709551616+xl:=Int.ediv_le_self _ DL;have q0:0≤(xh*18446744073709551616+xl)/(yh*18446744073709551616+yl):=Int.ediv_nonneg DL DL;have m0:=Int.emod_nonneg (xh*18446744073709551616+xl) (show yh*18446744073709551616+yl≠0 by omega);have m1:=Int.emod_lt_of_pos (xh*18446744073709551616+xl) hy
 obtain⟨rh,rl,hr⟩:∃rh rl:Int,(0≤rh∧rh<18446744073709551616∧0≤rl∧rl<18446744073709551616)∧rh*18446744073709551616+rl=(xh*18446744073709551616+xl)%(yh*18446744073709551616+yl):=by
  generalize(xh*18446744073709551616+xl)%(yh*18446744073709551616+yl)=m at*;exact⟨m/18446744073709551616,m%18446744073709551616,by omega,DL⟩
 have hq:(0≤zh∧zh<18446744073709551616∧0≤zl∧zl<18446744073709551616)∧zh<9223372036854775808:=by
  rw[←hz]at q0 q1;clear hz m0 m1 hr;omega
 have OV:=fun W=>iL xh xl yh yl _ _ zh zl rh rl x0 DL x2 x3 y0 DL y2 y3 rfl rfl hy DL ⟨hq.1,hz⟩ hr W
 have SX:=fun W=>Kj xh xl x0 x1 W
 have SY:=fun W=>Kj yh yl y0 y1 W
 have ZD:=fun W=>Kh yh yl false (by rw[eq_comm];exact decide_eq_false DL) W
 obtain⟨z,hzz⟩:∃z,z=decide (rh=0∧rl=0):=⟨_,rfl⟩;have ZR:=fun W=>Kh rh rl z hzz W
 have JQ:=fun W=>UJ zh zl hq.1.1 hq.2 W
 clear hz hr hzz q0 q1 m0 m1 hy hq;rcases z with _|_
 all_goals
  go_enter Tryz.func226,Tryz.ntmps226;go_wp2_with fail;refine(SX _).mono ?_;rintro e w1 ⟨rfl,hb1⟩;have a1:=qe hb1 (b:=w.heap.size+1) (o:=0) (v:=Iv yh) DR;have za1:w.heap.size+1<w1.heap.size:=World.block_lt_of_cell? _ _ a1;have a2:=qe hb1 (b:=w.heap.size+1) (o:=1) (v:= .int .u64 yl) DR;have za2:w.heap.size+1<w1.heap.size:=World.block_lt_of_cell? _ _ a2;obtain⟨m0a,m0b⟩:=qt hb1 (a:=⟨w.heap.size+1+1,0,none⟩) (zq (v:=Iv 0) DR DR);have zm0a:w.heap.size+1+1<w1.heap.size:=World.block_lt_of_cell? _ _ m0a;obtain⟨m1a,m1b⟩:=qt hb1 (a:=⟨w.heap.size+1+1,1,none⟩) (zq (v:= .int .u64 0) DR DR);have zm1a:w.heap.size+1+1<w1.heap.size:=World.block_lt_of_cell? _ _ m1a;go_wp2_with fail;refine(SY _).mono ?_;rintro e w2 ⟨rfl,hb2⟩;have b1:=qe hb2 (b:=w1.heap.size) (o:=0) (v:= .int .u64 xh) DR;have zb1:w1.heap.size<w2.heap.size:=World.block_lt_of_cell? _ _ b1;have b2:=qe hb2 (b:=w1.heap.size) (o:=1) (v:= .int .u64 xl) DR;have zb2:w1.heap.size<w2.heap.size:=World.block_lt_of_cell? _ _ b2;obtain⟨n0a,n0b⟩:=qt hb2 (a:=⟨w.heap.size+1+1,0,none⟩) (bT m0a m0b _);have zn0a:w.heap.size+1+1<w2.heap.size:=World.block_lt_of_cell? _ _ n0a;obtain⟨n1a,n1b⟩:=qt hb2 (a:=⟨w.heap.size+1+1,1,none⟩) (bT m1a m1b _);have zn1a:w.heap.size+1+1<w2.heap.size:=World.block_lt_of_cell? _ _ n1a;go_wp2_with fail;refine(ZD _).mono ?_;rintro e w3 ⟨rfl,hb3⟩;have c1:=qe hb3 (qB b1 _);have zc1:w1.heap.size<w3.heap.size:=World.block_lt_of_cell? _ _ c1;have c2:=qe hb3 (qB b2 _);have zc2:w1.heap.size<w3.heap.size:=World.block_lt_of_cell? _ _ c2;have c3:=qe hb3 (b:=w2.heap.size) (o:=0) (v:= .int .u64 yh) DR;have zc3:w2.heap.size<w3.heap.size:=World.block_lt_of_cell? _ _ c3;have c4:=qe hb3 (b:=w2.heap.size) (o:=1) (v:= .int .u64 yl) DR;have zc4:w2.heap.size<w3.heap.size:=World.block_lt_of_cell? _ _ c4;obtain⟨o0a,o0b⟩:=qt hb3 (a:=⟨w.heap.size+1+1,0,none⟩) (bT n0a n0b _);have zo0a:w.heap.size+1+1<w3.heap.size:=World.block_lt_of_cell? _ _ o0a;obtain⟨o1a,o1b⟩:=qt hb3 (a:=⟨w.heap.size+1+1,1,none⟩) (bT n1a n1b _);have zo1a:w.heap.size+1+1<w3.heap.size:=World.block_lt_of_cell? _ _ o1a;go_wp2_with fail;refine(OV _).mono ?_;rintro e w4 ⟨rfl,hb4⟩;obtain⟨p0a,p0b⟩:=qt hb4 (a:=⟨w.heap.size+1+1,0,none⟩) ⟨o0a,o0b⟩;have zp0a:w.heap.size+1+1<w4.heap.size:=World.block_lt_of_cell? _ _ p0a;obtain⟨p1a,p1b⟩:=qt hb4 (a:=⟨w.heap.size+1+1,1,none⟩) ⟨o1a,o1b⟩;have zp1a:w.heap.size+1+1<w4.heap.size:=World.block_lt_of_cell? _ _ p1a;go_wp2_with fail;refine(ZR _).mono ?_;rintro e w5 ⟨rfl,hb5⟩;have d1:=qe hb5 (b:=w4.heap.size) (o:=0) (v:= .int .u64 zh) DR;have zd1:w4.heap.size<w5.heap.size:=World.block_lt_of_cell? _ _ d1;have d2:=qe hb5 (b:=w4.heap.size) (o:=1) (v:= .int .u64 zl) DR;have zd2:w4.heap.size<w5.heap.size:=World.block_lt_of_cell? _ _ d2;obtain⟨s0a,s0b⟩:=qt hb5 (a:=⟨w.heap.size+1+1,0,none⟩) (zg (bT p0a p0b _) _);have zs0a:w.heap.size+1+1<w5.heap.size:=World.block_lt_of_cell? _ _ s0a;obtain⟨s1a,s1b⟩:=qt hb5 (a:=⟨w.heap.size+1+1,1,none⟩) (zg (bT p1a p1b _) _);have zs1a:w.heap.size+1+1<w5.heap.size:=World.block_lt_of_cell? _ _ s1a;go_wp2_with fail;refine(JQ _).mono ?_;rintro e w6 ⟨rfl,hb6⟩;obtain⟨t0a,t0b⟩:=qt hb6 (a:=⟨w.heap.size+1+1,0,none⟩) ⟨s0a,s0b⟩;have zt0a:w.heap.size+1+1<w6.heap.size:=World.block_lt_of_cell? _ _ t0a;obtain⟨t1a,t1b⟩:=qt hb6 (a:=⟨w.heap.size+1+1,1,none⟩) ⟨s1a,s1b⟩;have zt1a:w.heap.size+1+1<w6.heap.size:=World.block_lt_of_cell? _ _ t1a;go_wp2_with fail;exact bodyPost_ret (v:= .tuple #[.agg #[Iv zh,.int .u64 zl],.bool true]) (by simp[results,Tryz.results226,go_sem,t0a,t1a]) rfl ⟨rfl,by(repeat(with_reducible (first|assumption|exact Below.refl _ _|refine Below.drew ?_|refine below_drewN ?_ _|refine qG ?_ (by simp;try omega) _|refine qj ?_ (Nat.le_refl _) _|refine qA DM ?_)))⟩
def Kk(X:Int)(k r:Nat):Prop:=∃a:Nat,r=a*2^k∧r+2^k≤18446744073709551616∧(r:Int)*r≤X∧X<((r:Int)+2^k)*((r:Int)+2^k)
theorem iN(X:Int)(h0:0≤X)(h1:X<340282366920938463463374607431768211456):Kk X 64 0:=by
 refine⟨0,by simp,by decide,by simpa using h0,?_⟩;have:((0:Nat):Int)+2^64=18446744073709551616:=DQ;rw[this];omega
theorem Ps{X:Int}{n r:Nat}(h:Kk X (n+1) r)(hn:n≤63):bits .or .u64 (r:Int) (((2:Nat)^n:Nat):Int)=((r+2^n:Nat):Int)∧r+2^n<18446744073709551616:=by
 obtain⟨a,ha,hb,_,_⟩:=h;have h2:(2:Nat)^n<2^(n+1):=by rw[Nat.pow_succ];have:=Nat.two_pow_pos n;omega
 refine⟨?_,DL⟩;rw[ha];exact pY a (2^n) (n+1) h2 DL DL
theorem WO{X:Int}{n r:Nat}(h:Kk X (n+1) r):
 (((r+2^n:Nat):Int)*((r+2^n:Nat):Int)≤X→Kk X n (r+2^n))∧(X<((r+2^n:Nat):Int)*((r+2^n:Nat):Int)→Kk X n r):=by
 obtain⟨a,ha,hb,hc,hd⟩:=h;have e0:=Nat.two_pow_pos n;have e2:(2:Nat)^(n+1)=2^n+2^n:=by rw[Nat.pow_succ];omega
 have e3:(2:Int)^(n+1)=2^n+2^n:=by rw[Int.pow_succ];omega
 have e4:((r+2^n:Nat):Int)=(r:Int)+2^n:=by rw[Int.natCast_add,Int.natCast_pow];rfl
 rw[e4];constructor
 ·intro h1;refine⟨2*a+1,?_,by omega,by rw[e4];exact h1,?_⟩
  ·rw[ha,e2];grind
  ·rw[e4,show(r:Int)+2^n+2^n=(r:Int)+2^(n+1)from by rw[e3];omega];exact hd
 ·intro h1;exact⟨2*a,by rw[ha,e2];grind,by omega,hc,h1⟩
theorem Nu{X:Int}{r:Nat}(h0:0≤X)(h:Kk X 0 r):(r:Int)=vu X.toNat:=by
 obtain⟨a,ha,hb,hc,hd⟩:=h;exact TH h0 DL hc (by simpa using hd)
theorem fC(xh xl X R:Int)(x0:0≤xh)(x1:xh<9223372036854775808)(x2:0≤xl)(x3:xl<18446744073709551616)(hX:X=xh*18446744073709551616+xl)(hR:R=vu X.toNat)(w:World):
 Calls Tryz.prog 221 #[.agg #[Iv xh,.int .u64 xl]] w fun e w'=>e= .returned (.tuple #[.int .u64 R,.bool true])∧Below w.heap.size w w':=by
 have X0:0≤X:=DL;have X1:X<340282366920938463463374607431768211456:=DL;have HX:=hide (And.intro X0 (And.intro X1 hX));have HR:=hide hR;clear X0 X1 hX hR;go_enter Tryz.func221,Tryz.ntmps221;go_wp2_with fail;go_loopw [5,6] (fun r i W=>∃(j:Int) (rn:Nat),-1≤j∧j≤63∧i=Iv j∧r= .int .u64 rn∧Kk X (j+1).toNat rn∧(W.cell? ⟨w.heap.size+1,0,none⟩=some (.int .u64 xh)∧W.cell? ⟨w.heap.size+1,1,none⟩=some (.int .u64 xl))∧Below w.heap.size w W) (fun _ i _=>(intOf i+1).toNat)
 case atStart=>
  refine⟨63,0,by omega,by omega,rfl,rfl,iN X HX.out.1 HX.out.2.1,by simp[go_sem],?_⟩
  (repeat(with_reducible (first|assumption|exact Below.refl _ _|refine Below.drew ?_|refine below_drewN ?_ _|refine qG ?_ (by simp;try omega) _|refine qj ?_ (Nat.le_refl _) _|refine qA DM ?_)))
 case round=>
  obtain⟨j,rn,hj,hj2,rfl,rfl,hN,⟨c1,c2⟩,hB⟩:=hrel;by_cases h0:0≤j
  ·obtain⟨n,rfl⟩:=Int.eq_ofNat_of_zero_le h0;rw[show((n:Int)+1).toNat=n+1 from by omega]at hN;have ho:=Ps hN DL;have hs:=WO hN;obtain⟨t,ht⟩:∃t,t=rn+2^n:=⟨_,rfl⟩;rw[←ht]at ho hs
   have P:IntKind.u64.wrap ((2:Int)^n)=(((2:Nat)^n:Nat):Int):=by
    have e:((2:Int)^n)=(((2:Nat)^n:Nat):Int):=by rw[Int.natCast_pow];rfl
    rw[e,IntKind.wrap_u64];have hq:rn+2^n<18446744073709551616:=(Ps hN DL).2;exact Int.emod_eq_of_lt (Int.natCast_nonneg _) (by generalize(2:Nat)^n=q at*;omega)
   generalize(((2:Nat)^n:Nat):Int)=p at*;have O:=ho.1;have M:=fun W=>Tryz.bits_Mul64 t t ho.2 ho.2 W
   obtain⟨th,hth⟩:∃th:Int,th=((t*t/18446744073709551616:Nat):Int):=⟨_,rfl⟩;obtain⟨tl,htl⟩:∃tl:Int,tl=((t*t%18446744073709551616:Nat):Int):=⟨_,rfl⟩;rw[←hth,←htl]at M;have e:th*18446744073709551616+tl=(t:Int)*t:=by rw[←Int.natCast_mul,hth,htl];omega
   have tb:0≤th∧th<18446744073709551616∧0≤tl∧tl<18446744073709551616:=by
    have:t*t≤18446744073709551615*18446744073709551615:=Nat.mul_le_mul DL DL;clear M hs ho ht;generalize t*t=q at*;omega
   have CM:=fun W=>UG th tl xh xl tb.1 tb.2.1 tb.2.2.1 tb.2.2.2 x0 DL x2 x3 W
   rw[e,←HX.out.2.2]at CM;have HS:=hide hs;have HT:=hide ht;have HNN:=hide hN;clear hs ht hN e hth htl tb ho;by_cases hle:(t:Int)*t≤X
   ·have HN2:=hide (HS.out.1 hle);obtain⟨v,hv⟩:∃v,v=uF ((t:Int)*t) X:=⟨_,rfl⟩;rw[←hv]at CM;have vb:v≤0:=by rw[hv];unfold uF;omega
    clear hv hle;go_wp2_with(go_at_call 138;refine(M _).mono ?_;rintro e w' ⟨rfl,rfl⟩);refine(CM _).mono ?_;rintro e w1 ⟨rfl,hb1⟩;have d1:=qe hb1 c1;have d2:=qe hb1 c2;go_wp2_with fail;go_roundw
    case rel=>
     refine⟨(n:Int)-1,t,by omega,by omega,by first|rfl|(congr 2;omega),rfl,?_,⟨d1,d2⟩,qA hb1 hB⟩;rw[show((n:Int)-1+1).toNat=n from by omega];exact HN2.out
    case measure=>simp[intOf];try omega
   ·have HN2:=hide (HS.out.2 DL);obtain⟨v,hv⟩:∃v,v=uF ((t:Int)*t) X:=⟨_,rfl⟩;rw[←hv]at CM;have vb:0<v:=by rw[hv];unfold uF;omega
    clear hv hle;go_wp2_with(go_at_call 138;refine(M _).mono ?_;rintro e w' ⟨rfl,rfl⟩);refine(CM _).mono ?_;rintro e w1 ⟨rfl,hb1⟩;have d1:=qe hb1 c1;have d2:=qe hb1 c2;go_wp2_with fail;go_roundw
    case rel=>
     refine⟨(n:Int)-1,rn,by omega,by omega,by first|rfl|(congr 2;omega),rfl,?_,⟨d1,d2⟩,qA hb1 hB⟩;rw[show((n:Int)-1+1).toNat=n from by omega];exact HN2.out
    case measure=>simp[intOf];try omega
  ·have e:j= -1:=DL;subst e;have HE:=hide (Nu HX.out.1 hN);clear hN;go_wp2_with fail;go_ret2;exact⟨(by rw[HR.out,←HE.out];rfl),hB⟩
theorem iO(xh xl yh yl zh zl:Int)(x0:0≤xh)(x1:xh<9223372036854775808)(x2:0≤xl)(x3:xl<18446744073709551616)(y0:0≤yh)(y1:yh<9223372036854775808)(y2:0≤yl)(y3:yl<18446744073709551616)
 (hy:0<yh*18446744073709551616+yl) (l0:0≤zl) (l1:zl<18446744073709551616) (hz:zh*18446744073709551616+zl=(xh*18446744073709551616+xl)/(yh*18446744073709551616+yl)) (w:World):
 Calls Tryz.prog 218 #[.agg #[Iv xh,.int .u64 xl],.agg #[Iv yh,.int .u64 yl]] w fun e w'=>e= .returned (.tuple #[.agg #[Iv zh,.int .u64 zl],.bool true])∧Below w.heap.size w w':=by
 have D:=fun W=>TZ xh xl yh yl zh zl x0 x1 x2 x3 y0 y1 y2 y3 hy l0 l1 hz W
 clear hz hy;go_enter Tryz.func218,Tryz.ntmps218;go_wp2_with fail;refine(D _).mono ?_;rintro e w1 ⟨rfl,hb1⟩;obtain⟨m0a,m0b⟩:=qt hb1 (a:=⟨w.heap.size+1+1,0,none⟩) (zq (v:=Iv 0) DR DR);obtain⟨m1a,m1b⟩:=qt hb1 (a:=⟨w.heap.size+1+1,1,none⟩) (zq (v:= .int .u64 0) DR DR);go_wp2_with fail;exact bodyPost_ret (v:= .tuple #[.agg #[Iv zh,.int .u64 zl],.bool true]) (by simp[results,Tryz.results218,go_sem,m0a,m1a]) rfl ⟨rfl,by(repeat(with_reducible (first|assumption|exact Below.refl _ _|refine Below.drew ?_|refine below_drewN ?_ _|refine qG ?_ (by simp;try omega) _|refine qj ?_ (Nat.le_refl _) _|refine qA DM ?_)))⟩
theorem dA{n k:Int}(h0:0≤n)(hk:0≤k)(h:n≤k*k):(vu n.toNat:Int)≤k:=by
 have:=tj n h0;exact ZV hk DL
theorem Kl(n s:Int)(hn: -4000000000000000000≤n)(hn2:n≤4000000000000000000)(hs:0<s)(hs2:s<9223372036854775808)(w:World):
 Calls Tryz.prog 200 #[Iv n,Iv s] w fun e w'=>e= .returned (Iv (gL n s))∧Below w.heap.size w w':=by
 have hq0:0≤n*n/s:=Int.ediv_nonneg (jk n) DL;have hnn:n*n≤4000000000000000000*4000000000000000000:=QY hn hn2;have hn0:=jk n;have hq1:n*n/s≤n*n:=Int.ediv_le_self _ hn0;have hr:=dA (k:=4000000000000000000) hq0 DL DL;have M:=fun W=>iM n n (n*n/18446744073709551616) (n*n%18446744073709551616) DP DP Iff.rfl DL DL DL W
 have O:=fun W=>WN s DL hs2 W
 have D:=fun W=>iO (n*n/18446744073709551616) (n*n%18446744073709551616) 0 s (n*n/s/18446744073709551616) (n*n/s%18446744073709551616) DL DL DL DL DL DL DL DL DL DL DL
  (by rw[show n*n/18446744073709551616*18446744073709551616+n*n%18446744073709551616=n*n from by omega,show 0*18446744073709551616+s=s from by omega];omega) W
 have R:=fun W=>fC (n*n/s/18446744073709551616) (n*n/s%18446744073709551616) (n*n/s) (vu (n*n/s).toNat) DL DL DL DL DL rfl W
 have HL:=hide (show gL n s=if n<0 then-(vu (n*n/s).toNat:Int)else vu (n*n/s).toNat from rfl);obtain⟨r,hre⟩:∃r,r=(vu (n*n/s).toNat:Int):=⟨_,rfl⟩;have hr0:0≤r:=by rw[hre];exact Int.natCast_nonneg _
 rw[←hre]at R hr HL;generalize n*n/s/18446744073709551616=qh at*;generalize n*n/s%18446744073709551616=ql at*;generalize n*n/18446744073709551616=zh at*;generalize n*n%18446744073709551616=zl at*;generalize gL n s=L at*;clear hq0 hnn hn0 hq1 hre;go_enter Tryz.func200,Tryz.ntmps200;by_cases h:n<0
 all_goals
  go_wp2_with fail;refine(M _).mono ?_;rintro e w1 ⟨rfl,hb1⟩;go_wp2_with fail;refine(O _).mono ?_;rintro e w2 ⟨rfl,hb2⟩;go_wp2_with fail;refine(D _).mono ?_;rintro e w3 ⟨rfl,hb3⟩;go_wp2_with fail;refine(R _).mono ?_;rintro e w4 ⟨rfl,hb4⟩;go_wp2_with fail;go_ret;refine⟨qI ?_,by(repeat(with_reducible (first|assumption|exact Below.refl _ _|refine Below.drew ?_|refine below_drewN ?_ _|refine qG ?_ (by simp;try omega) _|refine qj ?_ (Nat.le_refl _) _|refine qA DM ?_)))⟩;rw[HL.out]
  first|rw[if_pos h]|rw[if_neg DL]
theorem wg{n s K:Int}(hs:0<s)(hK:K≤9223372036854775807)(h:n*n≤K*s):qR 0 n n s=(n*n/s,0):=by
 have h0:0≤n*n/s:=Int.ediv_nonneg (jk n) DL
 have h1:n*n/s≤K:=by
  have:=Int.ediv_le_ediv hs h
  rwa[Int.mul_ediv_cancel _ DL]at this
 have e:vW 0 (n*n) s=n*n/s:=by
  unfold vW;rw[if_pos rfl,Int.fdiv_eq_ediv_of_nonneg _ DL]
 unfold qR;rw[if_neg DL,e,if_pos];unfold Zp;exact decide_eq_true DL
theorem Yv(n s K:Int)(hn:qK n)(hs:0<s)(hs2:s<9223372036854775808)(hK:K≤9223372036854775807)(h:n*n≤K*s)(w:World):
 Calls Tryz.prog 209 #[Iv n,Iv s] w fun e w'=>e= .returned (Iv (gL n s))∧Below w.heap.size w w':=by
 have M:=fun W=>xK n n s hn hn DP W
 rw[wg hs hK h]at M;have h0:0≤n*n/s:=Int.ediv_nonneg (jk n) DL
 have h1:n*n/s≤K:=by
  have:=Int.ediv_le_ediv hs h
  rwa[Int.mul_ediv_cancel _ DL]at this
 have R:=fun W=>QN (n*n/s) DP W
 have hr:=dA (k:=4000000000) h0 DL DL;have HL:=hide (show gL n s=if n<0 then-(vu (n*n/s).toNat:Int)else vu (n*n/s).toNat from rfl);obtain⟨r,hre⟩:∃r,r=(vu (n*n/s).toNat:Int):=⟨_,rfl⟩;have hr0:0≤r:=by rw[hre];exact Int.natCast_nonneg _
 rw[←hre]at R HL hr;generalize n*n/s=q at*;generalize gL n s=L at*;clear hre h h1;by_cases h:n<0
 all_goals
  go_enter Tryz.func209,Tryz.ntmps209;go_wp2_with(first|(go_at_call 133;refine(M _).mono ?_;rintro e w' ⟨rfl,m,rfl⟩)|(go_at_call 173;refine(R _).mono ?_;rintro e w' ⟨rfl,rfl⟩));go_ret;refine⟨qI ?_,below_drewN (Below.refl _ _) _⟩;rw[HL.out]
  first|rw[if_pos h]|rw[if_neg DL]
end Go.Proofs.YtcgpbnlhnafhjaaGreatDoor
