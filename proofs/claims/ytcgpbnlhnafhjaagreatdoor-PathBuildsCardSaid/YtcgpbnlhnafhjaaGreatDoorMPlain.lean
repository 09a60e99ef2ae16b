/-
  A step of a walk whose proof is found where it is used: calls that leave the world as it was.
-/
import Derived.WalkKit
import Derived.ProofKit
namespace Go.Proofs.YtcgpbnlhnafhjaaGreatDoor
open Go.RowKit
abbrev Iv(x:Int):Value:= .int .i64 x
def Rl(F G' G:Prop):Prop:=F→G'→G
theorem DL{P:Prop}(h:P:=by omega):P:=h
theorem DP{P:Prop}(h:P:=by unfold qK;omega):P:=h
theorem DN{P:Prop}(h:P:=by kernel_rfl):P:=h
theorem DR{P:Prop}(h:P:=by simp[go_sem]):P:=h
theorem DM{P:Prop}(h:P:=by assumption):P:=h
theorem DQ{P:Prop}(h:P:=by decide):P:=h
theorem DS{P:Prop}(h:P:=by simp):P:=h
theorem DK{P:Program}{f:FuncId}{xs:Array Value}{v:Value}{W:World}{R:Ending→World→Prop}:Rl (Calls P f xs W fun e w'=>e= .returned v∧W=w') (R (.returned v) W) (Calls P f xs W R):=fun c k=>c.mono (by
 rintro e w' ⟨rfl,rfl⟩
 exact k)
theorem DG{F G' G:Prop}(c:F)(k:G')(s:Rl F G' G:=by with_reducible exact DK):G:=s c k
theorem DH{P:Prop}(h:P:=by(repeat(with_reducible (first|assumption|exact Below.refl _ _|refine Below.drew ?_|refine below_drewN ?_ _|refine qG ?_ (by simp;try omega) _|refine qj ?_ (Nat.le_refl _) _|refine qA (by assumption) ?_)))):P:=h
set_option linter.unusedVariables false
def vu:Nat→Nat
 |0=>0
 |n+1=>if(vu n+1)*(vu n+1)≤n+1 then vu n+1 else vu n
theorem bh:∀n:Nat,vu n*vu n≤n∧n<(vu n+1)*(vu n+1)
 |0=>by simp[vu]
 |n+1=>by
  have ih:=bh n;unfold vu;split
  ·rename_i h;refine⟨h,?_⟩;have e:(vu n+1+1)*(vu n+1+1)=(vu n+1)*(vu n+1)+2*(vu n+1)+1:=by grind
   omega
  ·omega
theorem mH{a b:Nat}(h:a*a<b*b):a<b:=by
 rcases Nat.lt_or_ge a b with h1|h1
 ·exact h1
 ·have:=Nat.mul_le_mul h1 h1;omega
theorem af{n r:Nat}(h1:r*r≤n)(h2:n<(r+1)*(r+1)):vu n=r:=by
 have h:=bh n;have a:=mH (Nat.lt_of_le_of_lt h.1 h2);have b:=mH (Nat.lt_of_le_of_lt h1 h.2);omega
theorem ag{n r:Nat}(h:n<r*r):vu n<r:=by
 have h1:=bh n;exact mH (Nat.lt_of_le_of_lt h1.1 h)
theorem Na{n r:Nat}(h:r*r≤n):r≤vu n:=by
 have h1:=bh n;have:=mH (Nat.lt_of_le_of_lt h h1.2);omega
theorem Bh(n:Nat):vu n=0↔n=0:=by
 constructor
 ·intro h;have:=(bh n).2;rw[h]at this;omega
 ·rintro rfl;rfl
def vW(m:Nat)(n d:Int):Int:=if m=0 then n.fdiv d else if m=1 then-((-n).fdiv d)else(2*n+d).fdiv (2*d)
theorem vX{x d k:Int}(hd:0<d)(h1:k*d≤x)(h2:x<k*d+d):x.fdiv d=k:=by
 rw[Int.fdiv_eq_ediv_of_nonneg _ (by omega)];have h:=Int.emod_add_mul_ediv x d;have h3:=Int.emod_nonneg x (show d≠0 by omega);have h4:=Int.emod_lt_of_pos x hd;have e:d*(x/d)-k*d=(x/d-k)*d:=by grind
 rcases Int.lt_trichotomy (x/d) k with h5|h5|h5
 ·have:(x/d-k)*d≤(-1)*d:=Int.mul_le_mul_of_nonneg_right (by omega) (by omega);omega
 ·exact h5
 ·have:1*d≤(x/d-k)*d:=Int.mul_le_mul_of_nonneg_right (by omega) (by omega);omega
theorem ZS(x d:Int)(hd:0<d):x.fdiv d*d≤x∧x<x.fdiv d*d+d:=by
 rw[Int.fdiv_eq_ediv_of_nonneg _ (by omega)];have h:=Int.emod_add_mul_ediv x d;have h3:=Int.emod_nonneg x (show d≠0 by omega);have h4:=Int.emod_lt_of_pos x hd;have e:d*(x/d)=x/d*d:=Int.mul_comm _ _;omega
def away(m:Nat)(neg:Bool)(r d:Nat):Bool:=if m=0 then neg&&decide (0<r)else if m=1 then !neg&&decide (0<r)else decide (d-r<r)||(!neg&&decide (r=d-r))
def fD(neg:Bool)(n:Nat):Int:=if neg then-(n:Int)else n
theorem Wh(m:Nat)(N D:Nat)(hD:0<D):vW m N D=fD false (N/D+(away m false (N%D) D).toNat):=by
 have h:=Nat.div_add_mod N D;have h1:=Nat.mod_lt N hD;have e:D*(N/D)=N/D*D:=Nat.mul_comm _ _;generalize N/D=q at*;generalize N%D=r at*;have hN:(N:Int)=(q:Int)*D+r:=by rw[←h,e];simp
 unfold vW fD away;split
 ·rename_i hm;simp;exact vX (by omega) (by omega) (by omega)
 ·split
  ·simp;by_cases hr:0<r
   ·have:(-(N:Int)).fdiv D= -(q+1:Int):=vX (by omega) (by rw[Int.neg_mul,Int.add_mul];omega) (by rw[Int.neg_mul,Int.add_mul];omega);rw[this];simp[hr]
   ·have:(-(N:Int)).fdiv D= -(q:Int):=vX (by omega) (by rw[Int.neg_mul];omega) (by rw[Int.neg_mul];omega);rw[this];simp[hr]
  ·simp;by_cases hr:D-r<r∨r=D-r
   ·have:(2*(N:Int)+D).fdiv (2*D)=q+1:=vX (by omega) (by rw[Int.add_mul,←Int.mul_assoc,Int.mul_comm (q:Int) 2,Int.mul_assoc];omega) (by rw[Int.add_mul,←Int.mul_assoc,Int.mul_comm (q:Int) 2,Int.mul_assoc];omega);rw[this];have:(decide (D-r<r)||decide (r=D-r))=true:=by simpa using hr
    simp[this]
   ·have:(2*(N:Int)+D).fdiv (2*D)=q:=vX (by omega) (by rw[←Int.mul_assoc,Int.mul_comm (q:Int) 2,Int.mul_assoc];omega) (by rw[←Int.mul_assoc,Int.mul_comm (q:Int) 2,Int.mul_assoc];omega);rw[this];have:(decide (D-r<r)||decide (r=D-r))=false:=by simpa[not_or]using hr
    simp[this]
theorem Wi(m:Nat)(N D:Nat)(hD:0<D):vW m (-(N:Int)) D=fD true (N/D+(away m true (N%D) D).toNat):=by
 have h:=Nat.div_add_mod N D;have h1:=Nat.mod_lt N hD;have e:D*(N/D)=N/D*D:=Nat.mul_comm _ _;generalize N/D=q at*;generalize N%D=r at*;have hN:(N:Int)=(q:Int)*D+r:=by rw[←h,e];simp
 unfold vW fD away;split
 ·rename_i hm;simp;by_cases hr:0<r
  ·have:(-(N:Int)).fdiv D= -(q+1:Int):=vX (by omega) (by rw[Int.neg_mul,Int.add_mul];omega) (by rw[Int.neg_mul,Int.add_mul];omega);rw[this];simp[hr]
  ·have:(-(N:Int)).fdiv D= -(q:Int):=vX (by omega) (by rw[Int.neg_mul];omega) (by rw[Int.neg_mul];omega);rw[this];simp[hr]
 ·split
  ·simp;exact vX (by omega) (by omega) (by omega)
  ·simp;by_cases hr:D-r<r
   ·have:(2* -(N:Int)+D).fdiv (2*D)= -(q+1:Int):=vX (by omega) (by rw[Int.neg_mul,Int.add_mul,←Int.mul_assoc,Int.mul_comm (q:Int) 2,Int.mul_assoc];omega) (by rw[Int.neg_mul,Int.add_mul,←Int.mul_assoc,Int.mul_comm (q:Int) 2,Int.mul_assoc];omega);rw[this];simp[hr]
   ·have:(2* -(N:Int)+D).fdiv (2*D)= -(q:Int):=vX (by omega) (by rw[Int.neg_mul,←Int.mul_assoc,Int.mul_comm (q:Int) 2,Int.mul_assoc];omega) (by rw[Int.neg_mul,←Int.mul_assoc,Int.mul_comm (q:Int) 2,Int.mul_assoc];omega);rw[this];simp[hr]
theorem GH(m:Nat)(n d:Int):vW m (-n) (-d)=vW m n d:=by
 unfold vW;rw[show 2* -n+ -d= -(2*n+d)from by omega,show 2* -d= -(2*d)from by omega,Int.neg_fdiv_neg,Int.neg_fdiv_neg,Int.neg_fdiv_neg]
theorem cF(m:Nat)(n d:Int)(neg:Bool)(hd:d≠0)(hneg:n≠0→(neg=true↔(n<0↔¬d<0))):
 vW m n d=fD neg (n.natAbs/d.natAbs+(away m neg (n.natAbs%d.natAbs) d.natAbs).toNat):=by
 have hD:0<d.natAbs:=by omega
 by_cases h0:n=0
 ·subst h0
  have e:vW m 0 d=0:=by
   unfold vW;split
   ·simp
   ·split
    ·simp
    ·rcases Int.lt_or_lt_of_ne hd with h|h
     ·rw[show(2*0+d:Int)= -(-d)from by omega,show 2*d= -(2*(-d))from by omega,Int.neg_fdiv_neg];exact vX (by omega) (by omega) (by omega)
     ·exact vX (by omega) (by omega) (by omega)
  rw[e]
  have ea:away m neg 0 d.natAbs=false:=by
   unfold away;by_cases h1:m=0
   ·simp[h1]
   ·by_cases h2:m=1
    ·simp[h2]
    ·simp[h1,h2];omega
  simp[ea,fD]
 ·have hneg:=hneg h0
  cases neg with
  |false=>
   have hs:¬(n<0↔¬d<0):=fun h=>by simpa using hneg.2 h
   rw[←Wh m _ _ hD];by_cases h:d<0
   ·rw[←GH];congr 1<;>omega
   ·congr 1<;>omega
  |true=>
   have hs:=hneg.1 rfl;rw[←Wi m _ _ hD];by_cases h:d<0
   ·rw[←GH];congr 1<;>omega
   ·congr 1<;>omega
theorem GI{u v y1 y0:Nat}(hy:0<y1)(hv:v<4294967296):(u*4294967296+v)/(y1*4294967296+y0)≤u/y1:=by
 have h:(u*4294967296+v)/(y1*4294967296+y0)<u/y1+1:=by
  rw[Nat.div_lt_iff_lt_mul (by omega)]
  have h1:u<(u/y1+1)*y1:=by
   rw[Nat.add_mul,Nat.one_mul];have:=Nat.div_add_mod u y1;have:=Nat.mod_lt u hy;have e:y1*(u/y1)=u/y1*y1:=Nat.mul_comm _ _;omega
  have e:(u/y1+1)*(y1*4294967296+y0)=(u/y1+1)*y1*4294967296+(u/y1+1)*y0:=by rw[Nat.mul_add,←Nat.mul_assoc]
  rw[e];omega
 omega
theorem cG{u y1 y0:Nat}(hy:2147483648≤y1)(hy0:y0<4294967296)(hu:u<y1*4294967296+y0):u/y1≤4294967297:=by
 have:u/y1<4294967298:=by
  rw[Nat.div_lt_iff_lt_mul (by omega)];omega
 omega
theorem GJ{u v y:Nat}(hu:u<y)(hv:v<4294967296):(u*4294967296+v)/y<4294967296:=by
 rw[Nat.div_lt_iff_lt_mul (by omega)];omega
theorem Yk{u v y1 y0 Y E:Int}(hY:Y=y1*4294967296+y0)(hE:(u*4294967296+v)/Y=E)(hy:2147483648≤y1)(hy0:0≤y0)(hy2:y0<4294967296)(hu0:0≤u)(hu:u<Y)(hv0:0≤v)(hv:v<4294967296):
 0≤E∧E<4294967296∧E≤u/y1∧u/y1≤4294967297:=by
 obtain⟨u,rfl⟩:=Int.eq_ofNat_of_zero_le hu0;obtain⟨a,rfl⟩:=Int.eq_ofNat_of_zero_le (show 0≤y1 by omega);obtain⟨b,rfl⟩:=Int.eq_ofNat_of_zero_le hy0;obtain⟨c,rfl⟩:=Int.eq_ofNat_of_zero_le hv0;have f1:=GI (u:=u) (v:=c) (y1:=a) (y0:=b) (by omega) (by omega);have f2:=cG (u:=u) (y1:=a) (y0:=b) (by omega) (by omega) (by omega);have f3:=GJ (u:=u) (v:=c) (y:=a*4294967296+b) (by omega) (by omega);have e1:E=(((u*4294967296+c)/(a*4294967296+b):Nat):Int):=by rw[←hE,hY];simp
 have e2:(u:Int)/a=((u/a:Nat):Int):=by simp
 rw[e1,e2];generalize(u*4294967296+c)/(a*4294967296+b)=k at*;generalize u/a=l at*;omega
theorem xx{u v y1 y0 Y E q r:Int}(hY:Y=y1*4294967296+y0)(hE:(u*4294967296+v)/Y=E)(hYp:0<Y)(hu:u=q*y1+r)(hq:E≤q)(h:q*y0≤4294967296*r+v):q=E:=by
 have e:q*Y=q*y1*4294967296+q*y0:=by rw[hY,Int.mul_add,←Int.mul_assoc]
 have:q≤(u*4294967296+v)/Y:=by
  rw[Int.le_ediv_iff_mul_le hYp,e];omega
 omega
theorem VF{u v y1 y0 Y E q r:Int}(hY:Y=y1*4294967296+y0)(hE:(u*4294967296+v)/Y=E)(hYp:0<Y)(hu:u=q*y1+r)(h:4294967296*r+v<q*y0):E≤q-1:=by
 have e:q*Y=q*y1*4294967296+q*y0:=by rw[hY,Int.mul_add,←Int.mul_assoc]
 have:(u*4294967296+v)/Y<q:=by
  rw[Int.ediv_lt_iff_lt_mul hYp,e];omega
 omega
theorem VG{u y1 q r:Int}(hu:u=q*y1+r):u=(q-1)*y1+(r+y1):=by rw[hu];grind
theorem cH{N y Y p U V v1 v0 E F W:Int}(hp:0<p)(hyp:0<y)(hN:N*p=U*18446744073709551616+V)(hY:y*p=Y)(hV:V=v1*4294967296+v0)
 (hW:W=U*4294967296+v1-E*Y) (hZ0:0≤W*4294967296+v0-F*Y) (hZ:W*4294967296+v0-F*Y<Y):
 N/y=E*4294967296+F∧N%y=(W*4294967296+v0-F*Y)/p:=by
 have e:(N-(E*4294967296+F)*y)*p=W*4294967296+v0-F*Y:=by
  rw[hW,Int.sub_mul,hN,hV,←hY];grind
 rw[←e]at hZ0 hZ⊢;rw[←hY]at hZ
 have h1:0≤N-(E*4294967296+F)*y:=by
  rcases Int.lt_or_le (N-(E*4294967296+F)*y) 0 with h|h
  ·have:=Int.mul_neg_of_neg_of_pos h hp;omega
  ·exact h
 have h2:N-(E*4294967296+F)*y<y:=Int.lt_of_mul_lt_mul_right hZ (by omega);rw[Int.mul_ediv_cancel _ (by omega)];have h3:=Int.emod_add_mul_ediv N y;have h4:=Int.emod_nonneg N (show y≠0 by omega);have h5:=Int.emod_lt_of_pos N hyp
 have h6:N/y=E*4294967296+F:=by
  have h7:(N/y-(E*4294967296+F))*y=(N-(E*4294967296+F)*y)-N%y:=by
   have:y*(N/y)=N/y*y:=Int.mul_comm _ _;rw[Int.sub_mul];omega
  rcases Int.lt_trichotomy (N/y) (E*4294967296+F)with h8|h8|h8
  ·have:(N/y-(E*4294967296+F))*y≤(-1)*y:=Int.mul_le_mul_of_nonneg_right (by omega) (by omega);omega
  ·exact h8
  ·have:1*y≤(N/y-(E*4294967296+F))*y:=Int.mul_le_mul_of_nonneg_right (by omega) (by omega);omega
 refine⟨h6,?_⟩;rw[h6]at h3;have:y*(E*4294967296+F)=(E*4294967296+F)*y:=Int.mul_comm _ _;omega
def norm(a:Int):Int:=a%129600000
def zy(a b:Int):Int:=norm (norm a+norm b)
def zJ(a b:Int):Int:=if 64800000<norm (norm b-norm a)then norm (norm b-norm a)-129600000 else norm (norm b-norm a)
theorem zH(a:Int):0≤norm a∧norm a<129600000:=by unfold norm;omega
theorem mI{a:Int}(h:0≤a)(h1:a<129600000):norm a=a:=by unfold norm;omega
theorem VH(a b:Int):zy a b=(a+b)%129600000:=by unfold zy norm;omega
theorem tY(a b:Int): -64800000<zJ a b∧zJ a b≤64800000:=by unfold zJ norm;omega
def tA(a:Int):Int:=(a*6746518852+32400000)/64800000
def zn(x y:Int):Int:=(x*y+1073741824)/2147483648
def ja(x n:Int):Int:=(x+n/2)/n
def wh(u:Int):Int:=2147483648-ja u 110
def wj(u:Int):Int:=2147483648-ja (zn u (wh u)) 72
def wk(u:Int):Int:=2147483648-ja (zn u (wj u)) 42
def GL(u:Int):Int:=2147483648-ja (zn u (wk u)) 20
def xQ(u:Int):Int:=2147483648-ja (zn u (GL u)) 6
def wl(u:Int):Int:=2147483648-ja u 90
def wm(u:Int):Int:=2147483648-ja (zn u (wl u)) 56
def wo(u:Int):Int:=2147483648-ja (zn u (wm u)) 30
def wq(u:Int):Int:=2147483648-ja (zn u (wo u)) 12
def Zo(u:Int):Int:=2147483648-ja (zn u (wq u)) 2
def uA(a:Int):Int:=zn (tA a) (tA a)
def tH(a:Int):Int:=(zn (tA a) (xQ (uA a))+1)/2
def vo(a:Int):Int:=(Zo (uA a)+1)/2
def kN(a:Int):Int:=if a≤16200000 then tH a else vo (32400000-a)
def jO(a:Int):Int:=
 if norm a≤32400000 then kN (norm a)else if norm a≤64800000 then kN (64800000-norm a)else if norm a≤97200000 then-kN (norm a-64800000)else-kN (129600000-norm a)
def yF(a:Int):Int:=jO (zy a 32400000)
theorem ZT(f:Int→Int)(lo hi:Int)(h:∀x,lo≤x→x<hi→f x≤f (x+1)):∀(n:Nat) (x:Int),lo≤x→x+n≤hi→f x≤f (x+n)
 |0,x,_,_=>by simp
 |n+1,x,h1,h2=>by
  have:=ZT f lo hi h n x h1 (by omega);have h3:=h (x+n) (by omega) (by omega);rw[show x+n+1=x+((n+1:Nat):Int)from by omega]at h3;omega
theorem YL{f:Int→Int}{lo hi:Int}(h:∀x,lo≤x→x<hi→f x≤f (x+1)){x y:Int}(h1:lo≤x)(h2:x≤y)(h3:y≤hi):f x≤f y:=by
 have:=ZT f lo hi h (y-x).toNat x h1 (by omega)
 rwa[show x+((y-x).toNat:Int)=y from by omega]at this
theorem ju{u r:Int}(hu:0≤u)(hr:0≤r)(hr2:r≤2147483648):0≤zn u r∧zn u r≤u:=by
 have h1:0≤u*r:=Int.mul_nonneg hu hr;have h2:u*r≤u*2147483648:=Int.mul_le_mul_of_nonneg_left hr2 hu;unfold zn;omega
theorem uj{u r r':Int}(hu:0≤u)(h:r'≤r)(h':r≤r'+1)(hr:u+1≤r)(hr2:r≤2147483648):zn u r≤zn (u+1) r'∧zn (u+1) r'≤zn u r+1:=by
 have h1:(u+1)*(r-1)≤(u+1)*r':=Int.mul_le_mul_of_nonneg_left (by omega) (by omega);have h2:(u+1)*r'≤(u+1)*r:=Int.mul_le_mul_of_nonneg_left h (by omega);have e:(u+1)*r=u*r+r:=by rw[Int.add_mul,Int.one_mul]
 rw[Int.mul_sub,e]at h1;rw[e]at h2;unfold zn;omega
theorem Bi{u:Int}(h:0≤u)(h2:u≤1325000000):2135000000≤wh u∧wh u≤2147483648:=by unfold wh ja;omega
theorem Bj{u:Int}(h:0≤u)(h2:u≤1325000000):2129000000≤wj u∧wj u≤2147483648:=by
 have a:=Bi h h2;have b:=ju h (show 0≤wh u by omega) a.2;unfold wj ja;omega
theorem Bm{u:Int}(h:0≤u)(h2:u≤1325000000):2115000000≤wk u∧wk u≤2147483648:=by
 have a:=Bj h h2;have b:=ju h (show 0≤wj u by omega) a.2;unfold wk ja;omega
theorem Bn{u:Int}(h:0≤u)(h2:u≤1325000000):2081000000≤GL u∧GL u≤2147483648:=by
 have a:=Bm h h2;have b:=ju h (show 0≤wk u by omega) a.2;unfold GL ja;omega
theorem JP{u:Int}(h:0≤u)(h2:u≤1325000000):1926000000≤xQ u∧xQ u≤2147483648:=by
 have a:=Bn h h2;have b:=ju h (show 0≤GL u by omega) a.2;unfold xQ ja;omega
theorem Bo{u:Int}(h:0≤u)(h2:u≤1325000000):2132000000≤wl u∧wl u≤2147483648:=by unfold wl ja;omega
theorem Bp{u:Int}(h:0≤u)(h2:u≤1325000000):2123000000≤wm u∧wm u≤2147483648:=by
 have a:=Bo h h2;have b:=ju h (show 0≤wl u by omega) a.2;unfold wm ja;omega
theorem Bq{u:Int}(h:0≤u)(h2:u≤1325000000):2103000000≤wo u∧wo u≤2147483648:=by
 have a:=Bp h h2;have b:=ju h (show 0≤wm u by omega) a.2;unfold wo ja;omega
theorem Bs{u:Int}(h:0≤u)(h2:u≤1325000000):2037000000≤wq u∧wq u≤2147483648:=by
 have a:=Bq h h2;have b:=ju h (show 0≤wo u by omega) a.2;unfold wq ja;omega
theorem ah{u:Int}(h:0≤u)(h2:u≤1325000000):1484000000≤Zo u∧Zo u≤2147483648:=by
 have a:=Bs h h2;have b:=ju h (show 0≤wq u by omega) a.2;unfold Zo ja;omega
theorem ai{u:Int}(h:0≤u)(h2:u<1325000000):wh (u+1)≤wh u∧wh u≤wh (u+1)+1:=by unfold wh ja;omega
theorem aj{u:Int}(h:0≤u)(h2:u<1325000000):wj (u+1)≤wj u∧wj u≤wj (u+1)+1:=by
 have b:=Bi h (by omega);have a:=ai h h2;have c:=uj h a.1 a.2 (by omega) b.2;unfold wj ja;omega
theorem aq{u:Int}(h:0≤u)(h2:u<1325000000):wk (u+1)≤wk u∧wk u≤wk (u+1)+1:=by
 have b:=Bj h (by omega);have a:=aj h h2;have c:=uj h a.1 a.2 (by omega) b.2;unfold wk ja;omega
theorem ar{u:Int}(h:0≤u)(h2:u<1325000000):GL (u+1)≤GL u∧GL u≤GL (u+1)+1:=by
 have b:=Bm h (by omega);have a:=aq h h2;have c:=uj h a.1 a.2 (by omega) b.2;unfold GL ja;omega
def iQ(u:Int):Int:=zn u (GL u)
theorem ZU{u:Int}(h:0≤u)(h2:u<1325000000):iQ u≤iQ (u+1)∧iQ (u+1)≤iQ u+1:=by
 have b:=Bn h (by omega);have a:=ar h h2;exact uj h a.1 a.2 (by omega) b.2
theorem au{u:Int}(h:0≤u)(h2:u<1325000000):wl (u+1)≤wl u∧wl u≤wl (u+1)+1:=by unfold wl ja;omega
theorem av{u:Int}(h:0≤u)(h2:u<1325000000):wm (u+1)≤wm u∧wm u≤wm (u+1)+1:=by
 have b:=Bo h (by omega);have a:=au h h2;have c:=uj h a.1 a.2 (by omega) b.2;unfold wm ja;omega
theorem az{u:Int}(h:0≤u)(h2:u<1325000000):wo (u+1)≤wo u∧wo u≤wo (u+1)+1:=by
 have b:=Bp h (by omega);have a:=av h h2;have c:=uj h a.1 a.2 (by omega) b.2;unfold wo ja;omega
theorem aA{u:Int}(h:0≤u)(h2:u<1325000000):wq (u+1)≤wq u∧wq u≤wq (u+1)+1:=by
 have b:=Bq h (by omega);have a:=az h h2;have c:=uj h a.1 a.2 (by omega) b.2;unfold wq ja;omega
theorem GM{u:Int}(h:0≤u)(h2:u<1325000000):Zo (u+1)≤Zo u∧Zo u≤Zo (u+1)+1:=by
 have b:=Bs h (by omega);have a:=aA h h2;have c:=uj h a.1 a.2 (by omega) b.2;unfold Zo ja;omega
theorem aC{u v:Int}(h:0≤u)(h1:u≤v)(h2:v≤1325000000):Zo v≤Zo u:=by
 have: -Zo u≤ -Zo v:=YL (f:=fun x=> -Zo x) (lo:=0) (hi:=1325000000) (fun x a b=>by have:=GM a b;show-Zo x≤ -Zo (x+1);omega) h h1 h2;omega
theorem mJ{a b:Int}(h:0≤a)(h1:a≤b):a*a≤b*b:=Int.mul_le_mul h1 h1 h (by omega)
theorem tI{t:Int}(h:0≤t)(h2:t≤1686629713):0≤zn t t∧zn t t≤1325000000:=by
 have h1:0≤t*t:=Int.mul_nonneg h h;have h3:=mJ h h2;unfold zn;omega
theorem aD{t t':Int}(h:0≤t)(h2:t≤t'):zn t t≤zn t' t':=by
 have h3:=mJ h h2;unfold zn;omega
def sT(t:Int):Int:=zn t (xQ (zn t t))
theorem Wj{t:Int}(h:0≤t)(h2:t<1686629713):sT t≤sT (t+1):=by
 have h0:0≤t*t:=Int.mul_nonneg h h;have e:(t+1)*(t+1)=t*t+2*t+1:=by grind
 have u1:=tI h (by omega);have u2:=tI (t:=t+1) (by omega) (by omega);have d1:zn t t≤zn (t+1) (t+1)∧zn (t+1) (t+1)≤zn t t+2:=by unfold zn;rw[e];omega
 have hv:iQ (zn t t)≤iQ (zn (t+1) (t+1))∧iQ (zn (t+1) (t+1))≤iQ (zn t t)+2:=by
  generalize zn (t+1) (t+1)=u' at*;generalize zn t t=u at*;have:u'=u∨u'=u+1∨u'=u+1+1:=by omega
  rcases this with rfl|rfl|rfl
  ·omega
  ·have:=ZU u1.1 (by omega);omega
  ·have a:=ZU u1.1 (by omega);have b:=ZU (u:=u+1) (by omega) (by omega);omega
 have r1:=JP u1.1 u1.2;have r2:=JP u2.1 u2.2
 have dr:xQ (zn t t)-1≤xQ (zn (t+1) (t+1)):=by
  unfold iQ at hv;unfold xQ ja;omega
 have h3:(t+1)*(xQ (zn t t)-1)≤(t+1)*xQ (zn (t+1) (t+1)):=Int.mul_le_mul_of_nonneg_left dr (by omega);have e3:(t+1)*xQ (zn t t)=t*xQ (zn t t)+xQ (zn t t):=by rw[Int.add_mul,Int.one_mul]
 rw[Int.mul_sub,e3]at h3;unfold sT;unfold zn at*;omega
theorem Qi{a:Int}(h:0≤a)(h2:a≤16200000):0≤tA a∧tA a≤1686629713:=by unfold tA;omega
theorem mK{a b:Int}(h:a≤b):tA a≤tA b:=by unfold tA;omega
theorem QG{a b:Int}(h:0≤a)(h1:a≤b)(h2:b≤16200000):tH a≤tH b:=by
 have ta:=Qi h (by omega);have tb:=Qi (a:=b) (by omega) h2;have:=YL (f:=sT) (lo:=0) (hi:=1686629713) (fun x p q=>Wj p q) ta.1 (mK h1) tb.2;unfold tH uA;unfold sT at this;omega
theorem gZ{a b:Int}(h:0≤a)(h1:a≤b)(h2:b≤16200000):vo b≤vo a:=by
 have ta:=Qi h (by omega);have tb:=Qi (a:=b) (by omega) h2;have ua:=tI ta.1 ta.2;have ub:=tI tb.1 tb.2;have:=aC ua.1 (aD ta.1 (mK h1)) ub.2;unfold vo uA;omega
theorem mM{a:Int}(h:0≤a)(h2:a≤16200000):0≤tH a∧tH a≤759250125:=by
 have h0:=QG (Int.le_refl 0) h h2;have h1:=QG h h2 (Int.le_refl _);have e0:tH 0=0:=by decide
 have e1:tH 16200000=759250125:=by decide
 omega
theorem Ub{a:Int}(h:0≤a)(h2:a≤16200000):759250125≤vo a∧vo a≤1073741824:=by
 have h0:=gZ (Int.le_refl 0) h h2;have h1:=gZ h h2 (Int.le_refl _);have e0:vo 0=1073741824:=by decide
 have e1:vo 16200000=759250125:=by decide
 omega
theorem xy{a:Int}(h:0≤a)(h2:a≤32400000):0≤kN a∧kN a≤1073741824:=by
 unfold kN;split
 ·have:=mM h (by omega);omega
 ·have:=Ub (a:=32400000-a) (by omega) (by omega);omega
theorem bH(a:Int): -1073741824≤jO a∧jO a≤1073741824:=by
 have n:=zH a;unfold jO;split
 ·have:=xy n.1 (by omega);omega
 ·split
  ·have:=xy (a:=64800000-norm a) (by omega) (by omega);omega
  ·split
   ·have:=xy (a:=norm a-64800000) (by omega) (by omega);omega
   ·have:=xy (a:=129600000-norm a) (by omega) (by omega);omega
theorem tJ(a:Int): -1073741824≤yF a∧yF a≤1073741824:=bH _
def aF(x lo hi:Int):Int:=if x<lo then lo else if hi<x then hi else x
def sat(x:Int):Int:=aF x (-9223372036854775808) 9223372036854775807
def Zp(x:Int):Bool:=decide (-9223372036854775808≤x∧x≤9223372036854775807)
def qR(m:Nat)(a b c:Int):Int×Int:=if c=0 then(0,1)else if Zp (vW m (a*b) c)then(vW m (a*b) c,0)else(0,2)
def gj(p:Nat→Bool):Nat→Nat
 |0=>0
 |k+1=>if p (k+1)then k+1 else gj p k
theorem cI(p:Nat→Bool)(N c:Nat)(hc:c≤N)(h:c=0∨p c=true)(hn:∀d,c<d→d≤N→p d=false):gj p N=c:=by
 induction N with
 |zero=>simp[gj];omega
 |succ k ih=>
  unfold gj;by_cases e:c=k+1
  ·subst e;rcases h with h|h
   ·omega
   ·rw[if_pos h]
  ·rw[hn (k+1) (by omega) (Nat.le_refl _)];simp;exact ih (by omega) (fun d h1 h2=>hn d h1 (by omega))
theorem GN(p:Nat→Bool)(N:Nat):gj p N≤N∧(gj p N=0∨p (gj p N)=true)∧∀d,gj p N<d→d≤N→p d=false:=by
 induction N with
 |zero=>simp[gj];omega
 |succ k ih=>
  unfold gj;split
  ·rename_i h;exact⟨Nat.le_refl _,.inr h,fun d h1 h2=>by omega⟩
  ·rename_i h;refine⟨by omega,ih.2.1,fun d h1 h2=> ?_⟩;by_cases e:d=k+1
   ·subst e;simpa using h
   ·exact ih.2.2 d h1 (by omega)
theorem aG{c:Int}(h:0≤c)(h2:c≤16200000):jO c=tH c:=by
 unfold jO;rw[mI h (by omega),if_pos (by omega)];unfold kN;rw[if_pos h2]
theorem aH{c:Int}(h:0≤c)(h2:c≤16200000):yF c=vo c:=by
 unfold yF jO;have e:norm (zy c 32400000)=c+32400000:=by rw[VH];unfold norm;omega
 rw[e];by_cases h0:c=0
 ·subst h0;decide
 ·rw[if_neg (by omega),if_pos (by omega)];unfold kN;by_cases h3:c=16200000
  ·subst h3;decide
  ·rw[if_neg (by omega),show 32400000-(64800000-(c+32400000))=c from by omega]
def Wk(m n:Int)(c:Nat):Bool:=decide (jO c*m≤yF c*n)
theorem aI{m n:Int}(hm:0≤m)(hn:0≤n){c d:Nat}(h:c≤d)(hd:d≤16200000)(hp:Wk m n d=true):Wk m n c=true:=by
 have e1:jO d*m≤yF d*n:=of_decide_eq_true hp;clear hp;refine decide_eq_true (?_:jO c*m≤yF c*n);rw[aG (Int.natCast_nonneg d) (by omega),aH (Int.natCast_nonneg d) (by omega)]at e1;rw[aG (Int.natCast_nonneg c) (by omega),aH (Int.natCast_nonneg c) (by omega)];have a:=QG (Int.natCast_nonneg c) (show(c:Int)≤d by omega) (by omega);have b:=gZ (Int.natCast_nonneg c) (show(c:Int)≤d by omega) (by omega);have a':=Int.mul_le_mul_of_nonneg_right a hm;have b':=Int.mul_le_mul_of_nonneg_right b hn;exact Int.le_trans a' (Int.le_trans e1 b')
def Ma:Nat:=16200000
theorem wU:Ma=16200000:=rfl
def kJ(m n:Int):Int:=gj (Wk m n) Ma
theorem Uc(m n:Int):∃g:Nat,kJ m n=g∧g≤Ma∧(g=0∨Wk m n g=true)∧∀d,g<d→d≤Ma→Wk m n d=false:=
 ⟨_,rfl,GN _ _⟩
theorem vY(m n:Int):0≤kJ m n∧kJ m n≤16200000:=by
 obtain⟨g,h,h1,_⟩:=Uc m n;have h2:=wU;rw[h];constructor
 ·exact Int.natCast_nonneg g
 ·clear h;omega
def kV(y x:Int):Int:=if x.natAbs<y.natAbs then 32400000-kJ y.natAbs x.natAbs else kJ x.natAbs y.natAbs
def jJ(y x:Int):Int:=
 if 0≤y then(if 0≤x then kV y x else 64800000-kV y x)else if x<0 then 64800000+kV y x else norm (-kV y x)
theorem GP(y x:Int):0≤kV y x∧kV y x≤32400000:=by
 unfold kV;have:=vY y.natAbs x.natAbs;have:=vY x.natAbs y.natAbs;split<;>omega
theorem uU(y x:Int):0≤jJ y x∧jJ y x<129600000:=by
 have:=GP y x;unfold jJ norm;split<;>split<;>omega
def qw(x y:Int):Bool:=decide (-2000000≤x∧x≤2000000∧ -2000000≤y∧y≤2000000)
def zV(ax ay bx b_y:Int):Int:=(bx-ax)*(bx-ax)+(b_y-ay)*(b_y-ay)
def qY(ax ay bx b_y:Int):Int:=if qw ax ay&&qw bx b_y then vu (zV ax ay bx b_y).toNat else 0
def qN(ax ay bx b_y:Int):Int×Int:=
 if !(qw ax ay&&qw bx b_y)then(0,1)else if ax=bx∧ay=b_y then(0,10)else(jJ (bx-ax) (b_y-ay),0)
def uF(a b:Int):Int:=if a<b then-1 else if a>b then 1 else 0
def Zq(ax ay bx b_y px py:Int):Int:=
 if qw ax ay&&qw bx b_y&&qw px py then uF ((bx-ax)*(px-bx)+(b_y-ay)*(py-b_y)) 0 else 0
def gL(n s:Int):Int:=if n<0 then-(vu (n*n/s).toNat:Int)else vu (n*n/s).toNat
def xz(ax ay bx b_y px py:Int):Int×Int×Int:=
 if !(qw ax ay&&qw bx b_y&&qw px py)then(0,0,1)else if ax=bx∧ay=b_y then(0,0,10)else
 (gL (-((bx-ax)*(py-ay)-(b_y-ay)*(px-ax))) (zV ax ay bx b_y),gL ((bx-ax)*(px-ax)+(b_y-ay)*(py-ay)) (zV ax ay bx b_y),0)
def tK(ax ay vx vy n d:Int):Int×Int×Int:=
 if(qR 2 vx n d).2=0∧(qR 2 vy n d).2=0 then
  (if qw (sat (ax+(qR 2 vx n d).1)) (sat (ay+(qR 2 vy n d).1))then(sat (ax+(qR 2 vx n d).1),sat (ay+(qR 2 vy n d).1),0)else(0,0,2))
 else(0,0,2)
def GQ(ax ay bx b_y px py:Int):Int×Int×Int:=
 if !(qw ax ay&&qw bx b_y&&qw px py)then(0,0,1)else if ax=bx∧ay=b_y then(0,0,10)else
 tK ax ay (bx-ax) (b_y-ay) ((bx-ax)*(px-ax)+(b_y-ay)*(py-ay)) (zV ax ay bx b_y)
def Ud(ax ay bx b_y cx cy dx dy:Int):Int×Int×Int:=
 if !(qw ax ay&&qw bx b_y&&qw cx cy&&qw dx dy)then(0,0,1)else if(bx-ax)*(dy-cy)-(b_y-ay)*(dx-cx)=0 then(0,0,10)else
 tK ax ay (bx-ax) (b_y-ay) ((cx-ax)*(dy-cy)-(cy-ay)*(dx-cx)) ((bx-ax)*(dy-cy)-(b_y-ay)*(dx-cx))
def Kt(dist course:Int):Int:=vW 2 (dist*jO course) 1073741824
def Ku(dist course:Int):Int:=vW 2 (dist*yF course) 1073741824
def zi(px py course dist:Int):Int×Int×Int:=
 if !qw px py then(0,0,1)else if dist>8000000∨dist< -8000000 then(0,0,2)else
 if qw (px+Kt dist course) (py+Ku dist course)then(px+Kt dist course,py+Ku dist course,0)else(0,0,2)
def ur(cx cy r f s:Int):Bool:=qw cx cy&&decide (1≤r∧r≤8000000∧0≤f∧f<129600000∧ -129600000≤s∧s≤129600000)
def qX(cx cy r f s:Int):Int:=if ur cx cy r f s then vW 2 (r*s.natAbs) 20626481 else 0
def zD(s w:Int):Int:=if s<0 then-w else w
def kr(n s along:Int):Int:=if 0<n then vW 2 (along*s.natAbs) n else 0
def jQ(f s n along:Int):Int:=zy f (zD s (kr n s along))
def jp(cx cy r f s along:Int):Int×Int×Int×Int:=
 if !ur cx cy r f s then(0,0,0,1)else if along<0∨along>qX cx cy r f s then(0,0,0,2)else
 if(zi cx cy (jQ f s (qX cx cy r f s) along) r).2.2=0 then
  ((zi cx cy (jQ f s (qX cx cy r f s) along) r).1,(zi cx cy (jQ f s (qX cx cy r f s) along) r).2.1,zy (jQ f s (qX cx cy r f s) along) (zD s 32400000),0)
 else(0,0,0,2)
def vA(right:Bool)(a b:Int):Int:=if right then norm (norm b-norm a)else norm (norm a-norm b)
theorem gm(x y:Int):qw x y=true↔(-2000000≤x∧x≤2000000∧ -2000000≤y∧y≤2000000):=by unfold qw;exact decide_eq_true_iff
theorem GR(a b c d:Int):(a*c+b*d)*(a*c+b*d)+(a*d-b*c)*(a*d-b*c)=(a*a+b*b)*(c*c+d*d):=by grind
theorem jk(a:Int):0≤a*a:=by
 rcases Int.le_total 0 a with h|h
 ·exact Int.mul_nonneg h h
 ·exact Int.mul_nonneg_of_nonpos_of_nonpos h h
theorem Wl{a b:Int}(hb:0≤b)(h:a*a<b*b):a<b:=by
 rcases Int.lt_or_le a b with h1|h1
 ·exact h1
 ·have:=Int.mul_le_mul h1 h1 hb (by omega);omega
theorem ZV{a b:Int}(hb:0≤b)(h:a*a≤b*b):a≤b:=by
 rcases Int.lt_or_le b a with h1|h1
 ·have h2:(b+1)*(b+1)≤a*a:=Int.mul_le_mul (by omega) (by omega) (by omega) (by omega);have e:(b+1)*(b+1)=b*b+2*b+1:=by grind
  omega
 ·exact h1
theorem Bu(ax ay bx b_y:Int):0≤zV ax ay bx b_y:=by
 unfold zV;have:=jk (bx-ax);have:=jk (b_y-ay);omega
theorem tj(n:Int)(h:0≤n):(vu n.toNat:Int)*vu n.toNat≤n∧n<((vu n.toNat:Int)+1)*((vu n.toNat:Int)+1):=by
 obtain⟨k,rfl⟩:=Int.eq_ofNat_of_zero_le h;have:=bh k;simp only[Int.toNat_natCast];constructor
 ·exact_mod_cast this.1
 ·exact_mod_cast this.2
theorem QY{a m:Int}(h: -m≤a)(h2:a≤m):a*a≤m*m:=by
 rcases Int.le_total 0 a with h3|h3
 ·exact Int.mul_le_mul h2 h2 h3 (by omega)
 ·have:(-a)*(-a)≤m*m:=Int.mul_le_mul (by omega) (by omega) (by omega) (by omega)
  rwa[Int.neg_mul_neg]at this
theorem ZW{ax ay bx b_y:Int}(h1:qw ax ay=true)(h2:qw bx b_y=true):zV ax ay bx b_y≤32000000000000:=by
 rw[gm]at h1 h2;have:=QY (a:=bx-ax) (m:=4000000) (by omega) (by omega);have:=QY (a:=b_y-ay) (m:=4000000) (by omega) (by omega);unfold zV;omega
theorem uy(ax ay bx b_y:Int):0≤qY ax ay bx b_y∧qY ax ay bx b_y≤5656854:=by
 unfold qY;split
 ·rename_i h;rw[Bool.and_eq_true]at h;have h1:=ZW h.1 h.2;have h2:vu (zV ax ay bx b_y).toNat<5656855:=ag (by omega);omega
 ·omega
def ZX(n s:Int):Int:=vu (n*n/s).toNat
theorem VI(n s:Int):(n<0∧gL n s= -ZX n s)∨(0≤n∧gL n s=ZX n s):=by
 unfold gL ZX;split<;>omega
theorem JR(n s:Int)(hs:0<s):0≤ZX n s∧ZX n s*ZX n s*s≤n*n∧n*n<(ZX n s+1)*(ZX n s+1)*s:=by
 have h0:0≤n*n/s:=Int.ediv_nonneg (jk n) (by omega);have h:=tj _ h0;have e:=Int.emod_add_mul_ediv (n*n) s;have m1:=Int.emod_nonneg (n*n) (show s≠0 by omega);have m2:=Int.emod_lt_of_pos (n*n) hs;unfold ZX;generalize vu (n*n/s).toNat=r at*;have h1:=Int.mul_le_mul_of_nonneg_right h.1 (show 0≤s by omega);have h2:(n*n/s+1)*s≤((r:Int)+1)*(r+1)*s:=Int.mul_le_mul_of_nonneg_right (by omega) (by omega);rw[Int.add_mul]at h2;have e2:s*(n*n/s)=n*n/s*s:=Int.mul_comm _ _;omega
theorem mN{n s k:Int}(hs:0<s)(hk:0≤k)(h:n*n≤k*k*s):ZX n s≤k:=by
 have:=JR n s hs;apply ZV hk;have h2:ZX n s*ZX n s*s≤k*k*s:=by omega
 exact Int.le_of_mul_le_mul_right h2 hs
theorem JS{ax ay bx b_y:Int}(h:¬(ax=bx∧ay=b_y)):0<zV ax ay bx b_y:=by
 unfold zV;by_cases hx:bx-ax=0
 ·have hy:b_y-ay≠0:=by omega
  have:=jk (bx-ax);rcases Int.lt_or_lt_of_ne hy with h|h
  ·have:=Int.mul_pos_of_neg_of_neg h h;omega
  ·have:=Int.mul_pos h h;omega
 ·have:=jk (b_y-ay);rcases Int.lt_or_lt_of_ne hx with h|h
  ·have:=Int.mul_pos_of_neg_of_neg h h;omega
  ·have:=Int.mul_pos h h;omega
theorem wV(a b c d:Int):(a*d-b*c)*(a*d-b*c)≤(c*c+d*d)*(a*a+b*b):=by
 have h:=GR a b c d;have:=jk (a*c+b*d);have e:(c*c+d*d)*(a*a+b*b)=(a*a+b*b)*(c*c+d*d):=Int.mul_comm _ _;omega
theorem wX(a b c d:Int):(a*c+b*d)*(a*c+b*d)≤(c*c+d*d)*(a*a+b*b):=by
 have h:=GR a b c d;have:=jk (a*d-b*c);have e:(c*c+d*d)*(a*a+b*b)=(a*a+b*b)*(c*c+d*d):=Int.mul_comm _ _;omega
theorem Ue(n d:Int)(hd:d≠0): -(d.natAbs:Int)≤2*(vW 2 n d*d-n)∧2*(vW 2 n d*d-n)≤d.natAbs:=by
 unfold vW;simp only[show(2:Nat)≠0 from by decide,show(2:Nat)≠1 from by decide,if_false];rcases Int.lt_or_lt_of_ne hd with h|h
 ·have e:(2*n+d).fdiv (2*d)=(-(2*n+d)).fdiv (-(2*d)):=(Int.neg_fdiv_neg _ _).symm;rw[e];have b:=ZS (-(2*n+d)) (-(2*d)) (by omega);generalize(-(2*n+d)).fdiv (-(2*d))=k at*;have e2:k* -(2*d)= -(2*(k*d)):=by grind
  omega
 ·have b:=ZS (2*n+d) (2*d) (by omega);generalize(2*n+d).fdiv (2*d)=k at*;have e2:k*(2*d)=2*(k*d):=by grind
  omega
theorem aJ(n:Int):vW 2 n 20626481=(2*n+20626481)/41252962:=by
 unfold vW;simp only[show(2:Nat)≠0 from by decide,show(2:Nat)≠1 from by decide,if_false];rw[show(2:Int)*20626481=41252962 from by decide,Int.fdiv_eq_ediv_of_nonneg _ (by decide)]
end Go.Proofs.YtcgpbnlhnafhjaaGreatDoor
