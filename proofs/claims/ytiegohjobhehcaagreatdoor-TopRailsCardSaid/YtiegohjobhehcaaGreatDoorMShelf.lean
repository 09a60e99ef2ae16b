/-
  Contracts of math/bits at this translation, out of the library's contracts that hold over every program (laid by the kit's tool, in plain words): LeadingZeros64, Len64, Mul64; Add64 and Sub64.
-/
import Derived.Test.YtiegohjobhehcaaGreatDoorMFrame
import Derived.Test.YtiegohjobhehcaaGreatDoorMPlain
import Derived.Shelf.Small.Bits
import Derived.Shelf.Bits.Mul64
import Derived.Test.YtiegohjobhehcaaGreatDoorProg
import Derived.Shelf.Spec.BitsCarry
import Derived.WalkSpells
import Derived.WalkLawsBesides
import Derived.BigQuiet
import Derived.Lib.ItoaNum
import Derived.Deep.DeepCutAuto
import Derived.Deep.RegionHeld3
namespace Go.Proofs
open Go.Shelf
def Tryz.lays134_ren:Go.Shelf.Ren:=⟨fun|134=>199|129=>166|n=>n,fun|53=>152|3=>3|4=>4|46=>226|5=>5|9=>9|n=>n,fun|n=>n⟩
theorem Tryz.lays134:Go.Proofs.Lays.n134 Tryz.prog Tryz.lays134_ren:={
 mixed:=by kernel_rfl
 f129:=Tryz.func166.trans (congrArg some (by kernel_rfl))
 f134:=Tryz.func199.trans (congrArg some (by kernel_rfl))
 t3:=Tryz.underlying3
 a3:=Tryz.isAgg3
 z3:=Tryz.sizeOf3
 v3:=Tryz.zeroValue3
 t4:=Tryz.underlying4
 a4:=Tryz.isAgg4
 z4:=Tryz.sizeOf4
 v4:=Tryz.zeroValue4
 t5:=Tryz.underlying5
 a5:=Tryz.isAgg5
 z5:=Tryz.sizeOf5
 v5:=Tryz.zeroValue5
 t9:=Tryz.underlying9
 a9:=Tryz.isAgg9
 z9:=Tryz.sizeOf9
 v9:=Tryz.zeroValue9
 t46:=Tryz.underlying226
 a46:=Tryz.isAgg226
 z46:=Tryz.sizeOf226
 v46:=Tryz.zeroValue226
 t53:=Tryz.underlying152
 a53:=Tryz.isAgg152
 z53:=Tryz.sizeOf152
 v53:=Tryz.zeroValue152}
theorem Tryz.bits_LeadingZeros64(x:Int)(w:World)(h0:0≤x)(h1:x≤18446744073709551615):
 Calls Tryz.prog 199 #[.int .u64 x] w fun e w'=>e= .returned (.int .i64 (64-(Lib.bitLen x.toNat:Int)))∧w'=w:=Any.bits_LeadingZeros64 Tryz.lays134 x w h0 h1
def Tryz.lays129_ren:Go.Shelf.Ren:=⟨fun|129=>166|n=>n,fun|53=>152|3=>3|4=>4|46=>226|5=>5|9=>9|n=>n,fun|n=>n⟩
theorem Tryz.lays129:Go.Proofs.Lays.n129 Tryz.prog Tryz.lays129_ren:={
 mixed:=by kernel_rfl
 f129:=Tryz.func166.trans (congrArg some (by kernel_rfl))
 t3:=Tryz.underlying3
 a3:=Tryz.isAgg3
 z3:=Tryz.sizeOf3
 v3:=Tryz.zeroValue3
 t4:=Tryz.underlying4
 a4:=Tryz.isAgg4
 z4:=Tryz.sizeOf4
 v4:=Tryz.zeroValue4
 t5:=Tryz.underlying5
 a5:=Tryz.isAgg5
 z5:=Tryz.sizeOf5
 v5:=Tryz.zeroValue5
 t9:=Tryz.underlying9
 a9:=Tryz.isAgg9
 z9:=Tryz.sizeOf9
 v9:=Tryz.zeroValue9
 t46:=Tryz.underlying226
 a46:=Tryz.isAgg226
 z46:=Tryz.sizeOf226
 v46:=Tryz.zeroValue226
 t53:=Tryz.underlying152
 a53:=Tryz.isAgg152
 z53:=Tryz.sizeOf152
 v53:=Tryz.zeroValue152}
theorem Tryz.bits_Len64(x:Int)(w:World)(h0:0≤x)(h1:x≤18446744073709551615):
 Calls Tryz.prog 166 #[.int .u64 x] w fun e w'=>e= .returned (.int .i64 (Lib.bitLen x.toNat))∧w'=w:=Any.bits_Len64 Tryz.lays129 x w h0 h1
def Tryz.lays264_ren:Go.Shelf.Ren:=⟨fun|264=>62|n=>n,fun|53=>152|46=>226|n=>n,fun|n=>n⟩
theorem Tryz.lays264:Go.Proofs.Lays.n264 Tryz.prog Tryz.lays264_ren:={
 mixed:=by kernel_rfl
 f264:=Tryz.func62.trans (congrArg some (by kernel_rfl))
 t46:=Tryz.underlying226
 a46:=Tryz.isAgg226
 z46:=Tryz.sizeOf226
 v46:=Tryz.zeroValue226
 t53:=Tryz.underlying152
 a53:=Tryz.isAgg152
 z53:=Tryz.sizeOf152
 v53:=Tryz.zeroValue152}
open Go.RowKit Go.Lib in
theorem Tryz.bits_Mul64(x y:Nat)(hx:x<18446744073709551616)(hy:y<18446744073709551616)(w:World):
 Calls Tryz.prog 62 #[.int .u64 x,.int .u64 y] w fun e w'=>e= .returned (.tuple #[.int .u64 ((x*y/18446744073709551616:Nat):Int),.int .u64 ((x*y%18446744073709551616:Nat):Int)])∧w'=w:=Any.bits_Mul64 Tryz.lays264 x y hx hy w
end Go.Proofs
/-
  math/bits' Add64 and Sub64 at this translation, out of the library's laws.
-/
namespace Go.Proofs
open Go.Shelf
def Tryz.ren7:Go.Shelf.Ren:=⟨fun|25=>243|26=>244|n=>n,fun|22=>152|n=>n,fun|n=>n⟩
theorem Tryz.lays26:Lays7.n26 Tryz.prog Tryz.ren7:={
 mixed:=by kernel_rfl
 f26:=Tryz.func244.trans (congrArg some (by kernel_rfl))
 t22:=Tryz.underlying152
 a22:=Tryz.isAgg152
 z22:=Tryz.sizeOf152
 v22:=Tryz.zeroValue152
 i22:=by kernel_rfl}
end Go.Proofs
namespace Go.Proofs.YtiegohjobhehcaaGreatDoor
theorem Uu(x y b:Int)(hx:0≤x)(hx2:x<18446744073709551616)(hy:0≤y)(hy2:y<18446744073709551616)(hc:0≤b)(hc1:b≤1)(w:World):
 (callFunc 244 #[.int .u64 x,.int .u64 y,.int .u64 b]).run Tryz.prog w= .ok (.value (.tuple #[.int .u64 ((x+18446744073709551616-y-b)%18446744073709551616),.int .u64 (if x<y+b then 1 else 0)])) w:=by
 obtain⟨a,rfl⟩:=Int.eq_ofNat_of_zero_le hx;obtain⟨c,rfl⟩:=Int.eq_ofNat_of_zero_le hy;obtain⟨d,rfl⟩:=Int.eq_ofNat_of_zero_le hc;have h:=Any7.bits_Sub64 Tryz.lays26 a c d qg w;have e1:(((a+18446744073709551616-c-d)%18446744073709551616:Nat):Int)=((a:Int)+18446744073709551616-c-d)%18446744073709551616:=qg;have e2:((if a<c+d then 1 else 0:Nat):Int)=if(a:Int)<c+d then 1 else 0:=by split<;>split<;>omega
 rw[e1,e2]at h;exact h
set_option maxRecDepth 100000
set_option maxHeartbeats 16000000
open Go.RowKit
set_option linter.unusedVariables false
theorem hide{p:Prop}(h:p):Hid p:=h
theorem qQ{k:IntKind}{a b:Int}(h:a=b):Ending.returned (.int k a)= .returned (.int k b):=by rw[h]
theorem vG{a b:Bool}(h:a=b):Ending.returned (.bool a)= .returned (.bool b):=by rw[h]
theorem tF{k l:IntKind}{a b c d:Int}(h:a=b)(h2:c=d):Ending.returned (.tuple #[.int k a,.int l c])= .returned (.tuple #[.int k b,.int l d]):=by rw[h,h2]
theorem dY{P:Program}{f:FuncId}{args:Array Value}{w:World}{n:Nat}{v:Value}
 (h:Calls P f args (w.drewN n) fun e w'=>e= .returned v∧w.drewN n=w'):Calls P f args (w.drewN n) fun e w''=>e= .returned v∧∃m,w''=w.drewN m:=
 h.mono fun _ _ hh=>⟨hh.1,n,hh.2.symm⟩
theorem below_drewN{B:Nat}{a w:World}(h:Below B a w)(n:Nat):Below B a (w.drewN n):=⟨h.os,h.tape,h.output,h.size,h.block⟩
theorem tG(a:Int)(ha:qz a)(w:World):Calls Tryz.prog 63 #[Iv a] w fun e w'=>e= .returned (.int .u64 a.natAbs)∧w=w':=by
 obtain⟨a1,a2⟩:=ha;go_enter Tryz.func63,Tryz.ntmps63;go_wp2
 all_goals
  go_ret;refine⟨qQ ?_,rfl⟩
  first|omega|(simp[IntKind.wrap_u64]at*;omega)
def Qu(n:Int)(neg:Bool):Bool:=if neg then decide (n≤9223372036854775808)else decide (n<9223372036854775808)
theorem nX(n:Int)(neg:Bool)(h0:0≤n)(h:Qu n neg=true)(w:World):
 Calls Tryz.prog 64 #[.int .u64 n,.bool neg] w fun e w'=>e= .returned (.tuple #[Iv (if neg then-n else n),Iv 0])∧w=w':=by
 cases neg<;>simp[Qu]at h<;>
 ·go_enter Tryz.func64,Tryz.ntmps64;go_wp2;go_ret2;exact⟨tF (by first|omega|(simp[wrap64,IntKind.wrap_u64];done)|(simp[wrap64,IntKind.wrap_u64];omega)) rfl,rfl⟩
theorem sR(n:Int)(neg:Bool)(h0:0≤n)(h:Qu n neg=false)(w:World):
 Calls Tryz.prog 64 #[.int .u64 n,.bool neg] w fun e w'=>e= .returned (.tuple #[Iv 0,Iv 2])∧w=w':=by
 cases neg<;>simp[Qu]at h<;>
 ·go_enter Tryz.func64,Tryz.ntmps64;go_wp2;go_ret2;exact⟨rfl,rfl⟩
theorem bk(x y:Int)(hx:0≤x)(hx2:x<18446744073709551616)(hy:0≤y)(hy2:y<18446744073709551616)(w:World):
 Calls Tryz.prog 62 #[.int .u64 x,.int .u64 y] w fun e w'=>e= .returned (.tuple #[.int .u64 (x*y/18446744073709551616),.int .u64 (x*y%18446744073709551616)])∧w=w':=by
 obtain⟨x,rfl⟩:=Int.eq_ofNat_of_zero_le hx;obtain⟨y,rfl⟩:=Int.eq_ofNat_of_zero_le hy;refine(Tryz.bits_Mul64 x y qg qg w).mono ?_;rintro e w' ⟨rfl,rfl⟩;refine⟨?_,rfl⟩;simp
theorem TE(lo y:Int)(hlo:0≤lo)(hlo2:lo<18446744073709551616)(hy:0<y)(hy2:y<18446744073709551616)(w:World):
 Calls Tryz.prog 144 #[.int .u64 0,.int .u64 lo,.int .u64 y] w fun e w'=>e= .returned (.tuple #[.int .u64 (lo/y),.int .u64 (lo%y)])∧∃m,w'=w.drewN m:=by
 have h1:(y==0)=false:=by simp;omega
 have h2:(lo/y)*y=lo-lo%y:=by have:=Int.emod_add_mul_ediv lo y;have:=Int.mul_comm y (lo/y);omega
 go_enter Tryz.func144,Tryz.ntmps144;go_wp2;go_quiet (fail);go_wp2;go_ret2;exact⟨rfl,_,rfl⟩
theorem RB(y:Int)(hy:0<y)(hy2:y<18446744073709551616)(w:World):
 Calls Tryz.prog 199 #[.int .u64 y] w fun e w'=>(∃s:Nat,s≤63∧9223372036854775808≤y*2^s∧y*2^s<18446744073709551616∧e= .returned (Iv s))∧w=w':=by
 refine(Tryz.bits_LeadingZeros64 y w qg qg).mono ?_;rintro e w' ⟨rfl,rfl⟩;refine⟨?_,rfl⟩;obtain⟨y,rfl⟩:=Int.eq_ofNat_of_zero_le (Int.le_of_lt hy);obtain⟨b1,b2,b3⟩:=Lib.bitLenAux_bounds 64 y (by simp;omega) qg;have b0:Lib.bitLen y≤64:=Lib.bitLenAux_le 64 y 64 (by simp;omega);have e:∃L,Lib.bitLen y=L:=⟨_,rfl⟩;obtain⟨L,e⟩:=e;have e':Lib.bitLenAux 64 y=L:=e;rw[e']at b1 b2 b3;rw[e]at b0;refine⟨64-L,by omega,?_,?_,by rw[Int.toNat_natCast,e,show((64-L:Nat):Int)=64-(L:Int)from by omega]⟩
 ·have h:2^(L-1)*2^(64-L)≤y*2^(64-L):=Nat.mul_le_mul_right _ b2;rw[←Nat.pow_add,show L-1+(64-L)=63 from by omega]at h;have h':((9223372036854775808:Nat):Int)≤((y*2^(64-L):Nat):Int):=Int.ofNat_le.2 h;rw[Int.natCast_mul,Int.natCast_pow]at h';exact h'
 ·have h:y*2^(64-L)<2^L*2^(64-L):=Nat.mul_lt_mul_of_pos_right b3 (Nat.two_pow_pos _);rw[←Nat.pow_add,show L+(64-L)=64 from by omega]at h;have h':((y*2^(64-L):Nat):Int)<((18446744073709551616:Nat):Int):=Int.ofNat_lt.2 h;rw[Int.natCast_mul,Int.natCast_pow]at h';exact h'
theorem dZ(x:Int)(h:0≤x)(h2:x<18446744073709551616):bits .and .u64 x 4294967295=x%4294967296:=by
 obtain⟨x,rfl⟩:=Int.eq_ofNat_of_zero_le h;have:=Mul64.maskN x qg;simpa using this
theorem WQ(hi lo:Int)(s:Nat)(hs:s≤63)(h0:0≤hi)(l0:0≤lo)(l1:lo<18446744073709551616)(h1:hi*2^s<18446744073709551616):
 bits .or .u64 (IntKind.u64.wrap (hi*2^s)) (lo/2^(64-s))=(hi*18446744073709551616+lo)*2^s/18446744073709551616:=by
 obtain⟨hi,rfl⟩:=Int.eq_ofNat_of_zero_le h0;obtain⟨lo,rfl⟩:=Int.eq_ofNat_of_zero_le l0;have hsplit:(18446744073709551616:Nat)=2^(64-s)*2^s:=by rw[←Nat.pow_add,show 64-s+s=64 from by omega]
 have hlt:lo/2^(64-s)<2^s:=by
  rw[Nat.div_lt_iff_lt_mul (Nat.two_pow_pos _),Nat.mul_comm,←hsplit];omega
 have hN:hi*2^s<18446744073709551616:=by
  have h':((hi*2^s:Nat):Int)<((18446744073709551616:Nat):Int):=by rw[Int.natCast_mul,Int.natCast_pow];exact h1
  exact Int.ofNat_lt.1 h'
 have hlo':lo/2^(64-s)<18446744073709551616:=Nat.lt_of_le_of_lt (Nat.div_le_self _ _) qg
 have e1:IntKind.u64.wrap ((hi:Int)*2^s)=((hi*2^s:Nat):Int):=by
  rw[IntKind.wrap_u64,show(hi:Int)*2^s=((hi*2^s:Nat):Int)from by rw[Int.natCast_mul,Int.natCast_pow];rfl];omega
 have e2:(lo:Int)/2^(64-s)=((lo/2^(64-s):Nat):Int):=by rw[Int.natCast_ediv,Int.natCast_pow];rfl
 rw[e1,e2,bits_or_u64_nat _ _ hN hlo']
 have e3:hi*2^s|||lo/2^(64-s)=hi*2^s+lo/2^(64-s):=by
  have:=Nat.shiftLeft_add_eq_or_of_lt hlt hi;rw[Nat.shiftLeft_eq]at this;exact this.symm
 rw[e3];have e4:((hi:Int)*18446744073709551616+lo)*2^s/18446744073709551616=(((hi*18446744073709551616+lo)*2^s/18446744073709551616:Nat):Int):=by rw[Int.natCast_ediv,Int.natCast_mul,Int.natCast_add,Int.natCast_mul,Int.natCast_pow];rfl
 rw[e4];congr 1
 have e5:(hi*18446744073709551616+lo)*2^s/18446744073709551616=hi*2^s+lo*2^s/18446744073709551616:=by
  rw[Nat.add_mul,show hi*18446744073709551616*2^s=18446744073709551616*(hi*2^s)from by grind,Nat.mul_add_div qG]
 rw[e5];congr 1;have e6:lo*2^s/(2^(64-s)*2^s)=lo/2^(64-s):=Nat.mul_div_mul_right _ _ (Nat.two_pow_pos _);rw[←e6];exact congrArg _ hsplit.symm
theorem sS(hi lo y:Int)(hhi:0<hi)(hhy:hi<y)(hlo:0≤lo)(hlo2:lo<18446744073709551616)(hy2:y<18446744073709551616)(w:World):
 Calls Tryz.prog 144 #[.int .u64 hi,.int .u64 lo,.int .u64 y] w fun e w'=>e= .returned (.tuple #[.int .u64 ((hi*18446744073709551616+lo)/y),.int .u64 ((hi*18446744073709551616+lo)%y)])∧∃m,w'=w.drewN m:=by
 have h1:(y==0)=false:=by simp;omega
 have h2:(hi==0)=false:=by simp;omega
 go_enter Tryz.func144,Tryz.ntmps144;go_wp2_with fail;refine(RB _ qg qg _).mono ?_;rintro e w' ⟨⟨s,hs,p1,p2,rfl⟩,rfl⟩;have hp:(0:Int)<2^s:=Int.pow_pos qG;have hhs:hi*2^s<y*2^s:=Int.mul_lt_mul_of_pos_right hhy hp;have eU:=WQ hi lo s hs qg hlo hlo2 qg;have hN:0≤hi*18446744073709551616+lo:=qg;have rY:IntKind.u64.wrap (y*2^s)=y*2^s:=by rw[IntKind.wrap_u64];omega
 generalize hYe:y*2^s=Y at*;have rY':IntKind.u64.wrap (y*2^s)=Y:=by rw[hYe];exact rY
 clear rY;generalize hVe:IntKind.u64.wrap (lo*2^s)=V at*;have hV0:0≤V∧V<18446744073709551616:=by rw[←hVe,IntKind.wrap_u64];omega
 have hUV:(hi*18446744073709551616+lo)*2^s=(hi*18446744073709551616+lo)*2^s/18446744073709551616*18446744073709551616+V:=by
  rw[←hVe,IntKind.wrap_u64];have e:(hi*18446744073709551616+lo)*2^s=hi*2^s*18446744073709551616+lo*2^s:=by grind
  rw[e];omega
 have hUY:(hi*18446744073709551616+lo)*2^s/18446744073709551616<Y:=by
  have e:(hi*18446744073709551616+lo)*2^s=hi*2^s*18446744073709551616+lo*2^s:=by grind
  have h3:(hi+1)*2^s≤y*2^s:=Int.mul_le_mul_of_nonneg_right qg qg;have h4:lo*2^s<18446744073709551616*2^s:=Int.mul_lt_mul_of_pos_right hlo2 hp;have e2:(hi+1)*2^s=hi*2^s+2^s:=by grind
  rw[e];omega
 have hU0:0≤(hi*18446744073709551616+lo)*2^s/18446744073709551616:=Int.ediv_nonneg (Int.mul_nonneg hN qg) qG;generalize(hi*18446744073709551616+lo)*2^s/18446744073709551616=U at*;have HUV:=hide hUV;have HY:=hide hYe;clear hUV hYe hhs;have ea1:=dZ Y qg qg;have ea2:=dZ V hV0.1 hV0.2;obtain⟨hV1,hV2⟩:=hV0;have dy:Y=Y/4294967296*4294967296+Y%4294967296:=qg;have dv:V=V/4294967296*4294967296+V%4294967296:=qg;have by1:2147483648≤Y/4294967296∧Y/4294967296<4294967296:=qg;have by0:0≤Y%4294967296∧Y%4294967296<4294967296:=qg;have bv1:0≤V/4294967296∧V/4294967296<4294967296:=qg;have bv0:0≤V%4294967296∧V%4294967296<4294967296:=qg;have DY:=hide dy;have DV:=hide dv;clear dy dv;generalize hy1:Y/4294967296=y1 at*;generalize hy0:Y%4294967296=y0 at*;generalize hv1:V/4294967296=v1 at*;generalize hv0:V%4294967296=v0 at*;have hq1:=Int.emod_add_mul_ediv U y1;have hq2:=Int.emod_nonneg U (show y1≠0 by omega);have hq3:=Int.emod_lt_of_pos U (show 0<y1 by omega);have hq0:0≤U/y1:=Int.ediv_nonneg hU0 qg;have EX:=YN (u:=U) (v:=v1) DY.out rfl by1.1 by0.1 by0.2 hU0 hUY bv1.1 bv1.2;obtain⟨g1,g2,g3,g4⟩:=EX;generalize hqe:U/y1=q0 at*
 have hm:IntKind.u64.wrap (q0*y1)=q0*y1:=by
  have:y1*q0=q0*y1:=Int.mul_comm _ _;have:0≤q0*y1:=Int.mul_nonneg hq0 qg;rw[IntKind.wrap_u64];omega
 have hr:IntKind.u64.wrap (U-q0*y1)=U%y1:=by
  have:y1*q0=q0*y1:=Int.mul_comm _ _;rw[IntKind.wrap_u64];omega
 have HQ:Hid (U=q0*y1+U%y1):=by
  have:y1*q0=q0*y1:=Int.mul_comm _ _
  show U=_
  omega
 generalize U%y1=r0 at*;generalize hE:(U*4294967296+v1)/Y=E at*;have HE:=hide hE;clear hE hq1;go_wp2_with fail;go_loop [15,16] (fun a b=>∃qq rr:Int,a= .int .u64 qq∧b= .int .u64 rr∧0≤qq∧qq≤4294967297∧0≤rr∧rr<4294967296∧Hid (U=qq*y1+rr)∧E≤qq) (fun a _=>(intOf a).toNat)
 case atStart=>exact⟨q0,r0,by rw[hqe],rfl,by omega,by omega,by omega,by omega,HQ,qg⟩
 case round=>
  obtain⟨qq,rr,rfl,rfl,i1,i2,i3,i4,i5,i6⟩:=hrel;have b1:0≤qq*y0:=Int.mul_nonneg i1 by0.1;have b2:qq*y0≤4294967297*4294967295:=Int.mul_le_mul i2 qg by0.1 qG;have hYp:0<Y:=qg
  have hW:0≤U*4294967296+v1-E*Y∧U*4294967296+v1-E*Y<Y:=by
   have a:=Int.emod_add_mul_ediv (U*4294967296+v1) Y;have b:=Int.emod_nonneg (U*4294967296+v1) (show Y≠0 by omega);have c:=Int.emod_lt_of_pos (U*4294967296+v1) hYp;have d:Y*((U*4294967296+v1)/Y)=E*Y:=by rw[HE.out];exact Int.mul_comm _ _
   omega
  obtain⟨W,hWe⟩:∃W,W=U*4294967296+v1-E*Y:=⟨_,rfl⟩
  have eW:IntKind.u64.wrap (IntKind.u64.wrap (IntKind.u64.wrap (U*4294967296)+v1)-IntKind.u64.wrap (E*Y))=W:=by
   simp only[IntKind.wrap_u64];omega
  rw[←hWe]at hW;obtain⟨hW0,hWY⟩:=hW;have HW:=hide hWe;clear hWe;have GX:=YN (u:=W) (v:=v0) DY.out rfl by1.1 by0.1 by0.2 hW0 hWY bv0.1 bv0.2;obtain⟨j1,j2,j3,j4⟩:=GX;have hk1:=Int.emod_add_mul_ediv W y1;have hk2:=Int.emod_nonneg W (show y1≠0 by omega);have hk3:=Int.emod_lt_of_pos W (show 0<y1 by omega);have hk0:0≤W/y1:=Int.ediv_nonneg hW0 qg
  have hZ:0≤W*4294967296+v0-(W*4294967296+v0)/Y*Y∧W*4294967296+v0-(W*4294967296+v0)/Y*Y<Y:=by
   have a:=Int.emod_add_mul_ediv (W*4294967296+v0) Y;have b:=Int.emod_nonneg (W*4294967296+v0) (show Y≠0 by omega);have c:=Int.emod_lt_of_pos (W*4294967296+v0) hYp;have d:Y*((W*4294967296+v0)/Y)=(W*4294967296+v0)/Y*Y:=Int.mul_comm _ _;omega
  generalize hpe:W/y1=p0 at*
  have hm2:IntKind.u64.wrap (p0*y1)=p0*y1:=by
   have:y1*p0=p0*y1:=Int.mul_comm _ _;have:0≤p0*y1:=Int.mul_nonneg hk0 qg;rw[IntKind.wrap_u64];omega
  have hr2:IntKind.u64.wrap (W-p0*y1)=W%y1:=by
   have:y1*p0=p0*y1:=Int.mul_comm _ _;rw[IntKind.wrap_u64];omega
  have HP:Hid (W=p0*y1+W%y1):=by
   have:y1*p0=p0*y1:=Int.mul_comm _ _
   show W=_
   omega
  generalize W%y1=s0 at*;generalize hF:(W*4294967296+v0)/Y=F at*;have HF:=hide hF;clear hF hk1;have FIN:=hide (fX hp (show 0<y by omega) HUV.out HY.out DV.out HW.out hZ.1 hZ.2);obtain⟨Z,hZe⟩:∃Z,Z=W*4294967296+v0-F*Y:=⟨_,rfl⟩
  have eZ:IntKind.u64.wrap (IntKind.u64.wrap (IntKind.u64.wrap (W*4294967296)+v0)-IntKind.u64.wrap (F*Y))=Z:=by
   simp only[IntKind.wrap_u64];omega
  rw[←hZe]at hZ;have FIN':Hid ((hi*18446744073709551616+lo)/y=E*4294967296+F∧(hi*18446744073709551616+lo)%y=Z/2^s):=by rw[hZe];exact FIN.out
  obtain⟨hZ0,hZY⟩:=hZ;clear hZe FIN
  have H3:(E=qq∧qq<4294967296∧qq*y0≤4294967296*rr+v1)∨(Hid (4294967296≤qq∨4294967296*rr+v1<qq*y0)∧E=qq-1∧4294967296≤rr+y1)∨
   (Hid (4294967296≤qq∨4294967296*rr+v1<qq*y0)∧E≤qq-1∧rr+y1<4294967296∧Hid (U=(qq-1)*y1+(rr+y1))):=by
   by_cases hc:4294967296≤qq∨4294967296*rr+v1<qq*y0
   ·have hm1:E≤qq-1:=by
     rcases hc with h|h
     ·omega
     ·exact VW DY.out HE.out hYp i5.out h
    have hn:=VX i5.out;by_cases hd:4294967296≤rr+y1
    ·refine .inr (.inl ⟨hide hc,?_,hd⟩);refine(Qb DY.out HE.out hYp hn hm1 ?_).symm;have:(qq-1)*y0≤4294967296*4294967295:=Int.mul_le_mul qg qg by0.1 qG;omega
    ·exact .inr (.inr ⟨hide hc,hm1,by omega,hn⟩)
   ·exact .inl ⟨(Qb DY.out HE.out hYp i5.out i6 qg).symm,by omega,qg⟩
  rcases H3 with⟨hqE,c1,c2⟩|⟨hc,hqE,c1⟩|⟨hc,c1,c2,c3⟩
  case' inl=>
   subst hqE;go_wp2_with fail
  case' inr.inl=>
   obtain rfl:qq=E+1:=qg;clear hqE;by_cases hA:4294967296≤E+1
   case' pos=>go_wp2_with fail
   case' neg=>
    have hB:4294967296*rr+v1<(E+1)*y0:=by have:=hc.out;omega
    go_wp2_with fail
  case inr.inr=>
   by_cases hA:4294967296≤qq
   ·go_wp2_with fail;go_round
    case rel=>exact⟨qq-1,rr+y1,rfl,rfl,by omega,by omega,by omega,by omega,c3,qg⟩
    case measure=>simp[intOf];omega
   ·have hB:4294967296*rr+v1<qq*y0:=by have:=hc.out;omega
    go_wp2_with fail;go_round
    case rel=>exact⟨qq-1,rr+y1,rfl,rfl,by omega,by omega,by omega,by omega,c3,qg⟩
    case measure=>simp[intOf];omega
  all_goals
   go_loop [18,16] (fun a b=>∃qq rr:Int,a= .int .u64 qq∧b= .int .u64 rr∧0≤qq∧qq≤4294967297∧0≤rr∧rr<4294967296∧Hid (W=qq*y1+rr)∧F≤qq) (fun a _=>(intOf a).toNat)
   case atStart=>exact⟨p0,s0,by first|rfl|rw[hpe],rfl,by omega,by omega,by omega,by omega,HP,qg⟩
   case round=>
    obtain⟨qk,rk,rfl,rfl,k1,k2,k3,k4,k5,k6⟩:=hrel;have b3:0≤qk*y0:=Int.mul_nonneg k1 by0.1;have b4:qk*y0≤4294967297*4294967295:=Int.mul_le_mul k2 qg by0.1 qG
    have H4:(F=qk∧qk<4294967296∧qk*y0≤4294967296*rk+v0)∨(Hid (4294967296≤qk∨4294967296*rk+v0<qk*y0)∧F=qk-1∧4294967296≤rk+y1)∨
     (Hid (4294967296≤qk∨4294967296*rk+v0<qk*y0)∧F≤qk-1∧rk+y1<4294967296∧Hid (W=(qk-1)*y1+(rk+y1))):=by
     by_cases hc:4294967296≤qk∨4294967296*rk+v0<qk*y0
     ·have hm1:F≤qk-1:=by
       rcases hc with h|h
       ·omega
       ·exact VW DY.out HF.out hYp k5.out h
      have hn:=VX k5.out;by_cases hd:4294967296≤rk+y1
      ·refine .inr (.inl ⟨hide hc,?_,hd⟩);refine(Qb DY.out HF.out hYp hn hm1 ?_).symm;have:(qk-1)*y0≤4294967296*4294967295:=Int.mul_le_mul qg qg by0.1 qG;omega
      ·exact .inr (.inr ⟨hide hc,hm1,by omega,hn⟩)
     ·exact .inl ⟨(Qb DY.out HF.out hYp k5.out k6 qg).symm,by omega,qg⟩
    rcases H4 with⟨hqF,d1,d2⟩|⟨hc,hqF,d1⟩|⟨hc,d1,d2,d3⟩
    case' inl=>
     subst hqF;go_wp2_with fail
    case' inr.inl=>
     obtain rfl:qk=F+1:=qg;clear hqF;by_cases hA:4294967296≤F+1
     case' pos=>go_wp2_with fail
     case' neg=>
      have hB:4294967296*rk+v0<(F+1)*y0:=by have:=hc.out;omega
      go_wp2_with fail
    case inr.inr=>
     by_cases hA:4294967296≤qk
     ·go_wp2_with fail;go_round
      case rel=>exact⟨qk-1,rk+y1,rfl,rfl,by omega,by omega,by omega,by omega,d3,qg⟩
      case measure=>simp[intOf];omega
     ·have hB:4294967296*rk+v0<qk*y0:=by have:=hc.out;omega
      go_wp2_with fail;go_round
      case rel=>exact⟨qk-1,rk+y1,rfl,rfl,by omega,by omega,by omega,by omega,d3,qg⟩
      case measure=>simp[intOf];omega
    all_goals
     go_ret2;exact⟨tF (by rw[FIN'.out.1]) (by rw[FIN'.out.2]),0,rfl⟩
theorem YF(hi lo y:Int)(hhi:0≤hi)(hhy:hi<y)(hlo:0≤lo)(hlo2:lo<18446744073709551616)(hy2:y<18446744073709551616)(w:World):
 Calls Tryz.prog 144 #[.int .u64 hi,.int .u64 lo,.int .u64 y] w fun e w'=>e= .returned (.tuple #[.int .u64 ((hi*18446744073709551616+lo)/y),.int .u64 ((hi*18446744073709551616+lo)%y)])∧∃m,w'=w.drewN m:=by
 by_cases h:hi=0
 ·subst h;simpa using TE lo y hlo hlo2 hhy hy2 w
 ·exact sS hi lo y qg hhy hlo hlo2 hy2 w
theorem Jh(a b:Int)(m:Int)(w:World):
 Calls Tryz.prog 71 #[Iv a,Iv b,Iv 0,.int .u8 m] w fun e w'=>e= .returned (.tuple #[Iv 0,Iv 1])∧∃n,w'=w.drewN n:=by
 go_enter Tryz.func71,Tryz.ntmps71;go_wp2;go_ret2;exact⟨rfl,0,rfl⟩
structure RE(m:Nat)(a b c A B D Q R:Int):Prop where
 sum:A*B/18446744073709551616*18446744073709551616+A*B%18446744073709551616=A*B
 q0:0≤Q
 r0:0≤R
 rd:R<D
 big:D≤A*B/18446744073709551616→qL m a b c=(0,2)
 small:A*B/18446744073709551616<D→Q<18446744073709551616
 val:∀neg:Bool,(neg=true↔((a<0↔¬b<0)↔¬c<0))→kN m (a*b) c=ar neg (Q.toNat+(away m neg R.toNat D.toNat).toNat)
theorem Dk(a b:Int):((a*b).natAbs:Int)=a.natAbs*b.natAbs:=by rw[Int.natAbs_mul];rfl
theorem nY(m:Nat)(a b c:Int)(h0:c≠0):RE m a b c a.natAbs b.natAbs c.natAbs ((a.natAbs:Int)*b.natAbs/c.natAbs) ((a.natAbs:Int)*b.natAbs%c.natAbs):=by
 have hD:0<(c.natAbs:Int):=qg;have hN:0≤(a.natAbs:Int)*b.natAbs:=Int.mul_nonneg qg qg
 have hval:∀neg:Bool,(neg=true↔((a<0↔¬b<0)↔¬c<0))→kN m (a*b) c=ar neg (((a.natAbs:Int)*b.natAbs/c.natAbs).toNat+(away m neg ((a.natAbs:Int)*b.natAbs%c.natAbs).toNat (c.natAbs:Int).toNat).toNat):=by
  intro neg hneg
  rw[fV m (a*b) c neg h0 (by
   intro hne;have ha:a≠0:=fun h=>hne (by rw[h,Int.zero_mul])
   have hb:b≠0:=fun h=>hne (by rw[h,Int.mul_zero])
   have hs:a*b<0↔(a<0↔¬b<0):=by
    rcases Int.lt_or_lt_of_ne ha with h1|h1<;>rcases Int.lt_or_lt_of_ne hb with h2|h2
    ·have:=Int.mul_pos_of_neg_of_neg h1 h2;omega
    ·have:=Int.mul_neg_of_neg_of_pos h1 h2;omega
    ·have:=Int.mul_neg_of_pos_of_neg h1 h2;omega
    ·have:=Int.mul_pos h1 h2;omega
   rw[hneg,hs])]
  rw[←Dk]
  have e1:((((a*b).natAbs:Int)/(c.natAbs:Int)).toNat)=(a*b).natAbs/c.natAbs:=by
   rw[←Int.natCast_ediv];rfl
  have e2:((((a*b).natAbs:Int)%(c.natAbs:Int)).toNat)=(a*b).natAbs%c.natAbs:=by
   rw[←Int.natCast_emod];rfl
  rw[e1,e2];rfl
 have hq:=Int.ediv_nonneg hN (Int.le_of_lt hD);refine⟨qg,hq,Int.emod_nonneg _ qg,Int.emod_lt_of_pos _ hD,?_,?_,hval⟩
 ·intro hb
  have h1:18446744073709551616≤(a.natAbs:Int)*b.natAbs/c.natAbs:=by
   rw[Int.le_ediv_iff_mul_le hD];omega
  have hn:∃neg:Bool,(neg=true↔((a<0↔¬b<0)↔¬c<0)):=⟨decide ((a<0↔¬b<0)↔¬c<0),decide_eq_true_iff⟩;obtain⟨neg,hneg⟩:=hn;have hv:=hval neg hneg;generalize(a.natAbs:Int)*b.natAbs/c.natAbs=Q at*;generalize(away m neg ((a.natAbs:Int)*b.natAbs%c.natAbs).toNat (c.natAbs:Int).toNat).toNat=k at*
  have hout:Qy (kN m (a*b) c)=false:=by
   rw[hv];unfold Qy ar;cases neg<;>simp<;>omega
  unfold qL;rw[if_neg h0,hout];rfl
 ·intro hb;rw[Int.ediv_lt_iff_lt_mul hD];omega
def sg(n:Int)(neg:Bool):Int×Int:=if Qu n neg then(if neg then-n else n,0)else(0,2)
theorem Ql(n:Int)(neg:Bool)(h0:0≤n)(w:World):
 Calls Tryz.prog 64 #[.int .u64 n,.bool neg] w fun e w'=>e= .returned (.tuple #[Iv (sg n neg).1,Iv (sg n neg).2])∧w=w':=by
 unfold sg;by_cases h:Qu n neg=true
 ·rw[if_pos h];exact nX n neg h0 h w
 ·rw[if_neg h];exact sR n neg h0 (by simpa using h) w
theorem WR{m:Nat}{a b c Q:Int}{neg:Bool}(k:Int)(h0:(c==0)=false)(hq:0≤Q){kn:Nat}(hr:kN m (a*b) c=ar neg (Q.toNat+kn))(hk:(kn:Int)=k):qL m a b c=sg (Q+k) neg:=by
 have h0':c≠0:=by simpa using h0
 unfold qL;rw[if_neg h0',hr]
 have e:ar neg (Q.toNat+kn)=if neg then-(Q+k)else Q+k:=by
  unfold ar;cases neg<;>simp<;>omega
 rw[e];unfold sg Qu Qy;cases neg
 ·by_cases h:Q+k<9223372036854775808
  ·rw[if_pos (by simp;omega)];simp[h]
  ·rw[if_neg (by simp;omega)];simp[h]
 ·by_cases h:Q+k≤9223372036854775808
  ·rw[if_pos (by simp;omega)];simp[h]
  ·rw[if_neg (by simp;omega)];simp[h]
theorem aw(m:Nat)(neg:Bool)(R D:Int)(hR:0≤R)(hD:R<D):((away m neg R.toNat D.toNat).toNat:Int)=if m=0 then(if neg=true∧0<R then 1 else 0)else if m=1 then(if neg=false∧0<R then 1 else 0)else(if D-R<R∨(neg=false∧R=D-R)then 1 else 0):=by
 have e1:(0<R.toNat)=(0<R):=jL;have e2:(D.toNat-R.toNat<R.toNat)=(D-R<R):=by rw[eq_iff_iff];omega
 have e3:(R.toNat=D.toNat-R.toNat)=(R=D-R):=by rw[eq_iff_iff];omega
 unfold away;by_cases h0:m=0
 ·simp only[h0,if_true,e1];cases neg<;>by_cases h:0<R<;>simp[h]
 ·by_cases h1:m=1
  ·simp only[h1,if_true,e1];cases neg<;>by_cases h:0<R<;>simp[h]
  ·simp only[h0,h1,if_false,e2,e3];rw[show(decide (D-R<R)||(!neg&&decide (R=D-R)))=decide (D-R<R∨(neg=false∧R=D-R))from by cases neg<;>simp];by_cases hh:D-R<R∨(neg=false∧R=D-R)
   ·rw[if_pos hh,decide_eq_true hh];rfl
   ·rw[if_neg hh,decide_eq_false hh];rfl
theorem yV{x y:Int×Int}(h:x=y):Ending.returned (.tuple #[Iv x.1,Iv x.2])= .returned (.tuple #[Iv y.1,Iv y.2]):=by rw[h]
theorem WS(a b:Nat)(s:Nat)(hb:b<2^s)(h:a*2^s<18446744073709551616)(hb2:b<18446744073709551616):bits .or .u64 ((a*2^s:Nat):Int) (b:Int)=((a*2^s+b:Nat):Int):=by
 rw[bits_or_u64_nat _ _ h hb2];have:=Nat.shiftLeft_add_eq_or_of_lt hb a;rw[Nat.shiftLeft_eq]at this;rw[this]
theorem nZ(a b:Int)(ha:0≤a)(ha2:a<18446744073709551616)(hb:0≤b)(hb2:b≤1):bits .or .u64 (IntKind.u64.wrap (a*2)) b=a*2%18446744073709551616+b:=by
 rw[IntKind.wrap_u64];obtain⟨a,rfl⟩:=Int.eq_ofNat_of_zero_le ha;obtain⟨b,rfl⟩:=Int.eq_ofNat_of_zero_le hb;have:=WS (a%9223372036854775808) b 1 qg qg qg;rw[show((a%9223372036854775808*2^1:Nat):Int)=(a:Int)*2%18446744073709551616 from by omega,show((a%9223372036854775808*2^1+b:Nat):Int)=(a:Int)*2%18446744073709551616+b from by omega]at this;exact this
set_option linter.unusedSimpArgs false
theorem LL{x:Int}(h1: -9223372036854775808≤x)(h2:x≤9223372036854775807):IntKind.i64.wrap x=x:=IntWalk.i64_in _ qg
end Go.Proofs.YtiegohjobhehcaaGreatDoor
