/-
  Plain arithmetic: whole square roots, rounded quotients, and the steps of long division by two words. No program.
-/
import Derived.WalkKit
import Derived.ProofKit
namespace Go.Proofs.YtiegohjobhehcaaGreatDoor
set_option linter.unusedVariables false
def kE:Nat→Nat
 |0=>0
 |n+1=>if(kE n+1)*(kE n+1)≤n+1 then kE n+1 else kE n
theorem bC:∀n:Nat,kE n*kE n≤n∧n<(kE n+1)*(kE n+1)
 |0=>by simp[kE]
 |n+1=>by
  have ih:=bC n;unfold kE;split
  ·rename_i h;refine⟨h,?_⟩;have e:(kE n+1+1)*(kE n+1+1)=(kE n+1)*(kE n+1)+2*(kE n+1)+1:=by grind
   omega
  ·omega
theorem du{a b:Nat}(h:a*a<b*b):a<b:=by
 rcases Nat.lt_or_ge a b with h1|h1
 ·exact h1
 ·have:=Nat.mul_le_mul h1 h1;omega
theorem FU{n r:Nat}(h1:r*r≤n)(h2:n<(r+1)*(r+1)):kE n=r:=by
 have h:=bC n;have a:=du (Nat.lt_of_le_of_lt h.1 h2);have b:=du (Nat.lt_of_le_of_lt h1 h.2);omega
theorem Bi{n r:Nat}(h:n<r*r):kE n<r:=by
 have h1:=bC n;exact du (Nat.lt_of_le_of_lt h1.1 h)
theorem FV{n r:Nat}(h:r*r≤n):r≤kE n:=by
 have h1:=bC n;have:=du (Nat.lt_of_le_of_lt h h1.2);omega
theorem JB(n:Nat):kE n=0↔n=0:=by
 constructor
 ·intro h;have:=(bC n).2;rw[h]at this;omega
 ·rintro rfl;rfl
def kN(m:Nat)(n d:Int):Int:=if m=0 then n.fdiv d else if m=1 then-((-n).fdiv d)else(2*n+d).fdiv (2*d)
theorem vD{x d k:Int}(hd:0<d)(h1:k*d≤x)(h2:x<k*d+d):x.fdiv d=k:=by
 rw[Int.fdiv_eq_ediv_of_nonneg _ (by omega)];have h:=Int.emod_add_mul_ediv x d;have h3:=Int.emod_nonneg x (show d≠0 by omega);have h4:=Int.emod_lt_of_pos x hd;have e:d*(x/d)-k*d=(x/d-k)*d:=by grind
 rcases Int.lt_trichotomy (x/d) k with h5|h5|h5
 ·have:(x/d-k)*d≤(-1)*d:=Int.mul_le_mul_of_nonneg_right (by omega) (by omega);omega
 ·exact h5
 ·have:1*d≤(x/d-k)*d:=Int.mul_le_mul_of_nonneg_right (by omega) (by omega);omega
theorem JC(x d:Int)(hd:0<d):x.fdiv d*d≤x∧x<x.fdiv d*d+d:=by
 rw[Int.fdiv_eq_ediv_of_nonneg _ (by omega)];have h:=Int.emod_add_mul_ediv x d;have h3:=Int.emod_nonneg x (show d≠0 by omega);have h4:=Int.emod_lt_of_pos x hd;have e:d*(x/d)=x/d*d:=Int.mul_comm _ _;omega
def away(m:Nat)(neg:Bool)(r d:Nat):Bool:=if m=0 then neg&&decide (0<r)else if m=1 then !neg&&decide (0<r)else decide (d-r<r)||(!neg&&decide (r=d-r))
def ar(neg:Bool)(n:Nat):Int:=if neg then-(n:Int)else n
theorem Mi(m:Nat)(N D:Nat)(hD:0<D):kN m N D=ar false (N/D+(away m false (N%D) D).toNat):=by
 have h:=Nat.div_add_mod N D;have h1:=Nat.mod_lt N hD;have e:D*(N/D)=N/D*D:=Nat.mul_comm _ _;generalize N/D=q at*;generalize N%D=r at*;have hN:(N:Int)=(q:Int)*D+r:=by rw[←h,e];simp
 unfold kN ar away;split
 ·rename_i hm;simp;exact vD (by omega) (by omega) (by omega)
 ·split
  ·simp;by_cases hr:0<r
   ·have:(-(N:Int)).fdiv D= -(q+1:Int):=vD (by omega) (by rw[Int.neg_mul,Int.add_mul];omega) (by rw[Int.neg_mul,Int.add_mul];omega);rw[this];simp[hr]
   ·have:(-(N:Int)).fdiv D= -(q:Int):=vD (by omega) (by rw[Int.neg_mul];omega) (by rw[Int.neg_mul];omega);rw[this];simp[hr]
  ·simp;by_cases hr:D-r<r∨r=D-r
   ·have:(2*(N:Int)+D).fdiv (2*D)=q+1:=vD (by omega) (by rw[Int.add_mul,←Int.mul_assoc,Int.mul_comm (q:Int) 2,Int.mul_assoc];omega) (by rw[Int.add_mul,←Int.mul_assoc,Int.mul_comm (q:Int) 2,Int.mul_assoc];omega);rw[this];have:(decide (D-r<r)||decide (r=D-r))=true:=by simpa using hr
    simp[this]
   ·have:(2*(N:Int)+D).fdiv (2*D)=q:=vD (by omega) (by rw[←Int.mul_assoc,Int.mul_comm (q:Int) 2,Int.mul_assoc];omega) (by rw[←Int.mul_assoc,Int.mul_comm (q:Int) 2,Int.mul_assoc];omega);rw[this];have:(decide (D-r<r)||decide (r=D-r))=false:=by simpa[not_or]using hr
    simp[this]
theorem Mj(m:Nat)(N D:Nat)(hD:0<D):kN m (-(N:Int)) D=ar true (N/D+(away m true (N%D) D).toNat):=by
 have h:=Nat.div_add_mod N D;have h1:=Nat.mod_lt N hD;have e:D*(N/D)=N/D*D:=Nat.mul_comm _ _;generalize N/D=q at*;generalize N%D=r at*;have hN:(N:Int)=(q:Int)*D+r:=by rw[←h,e];simp
 unfold kN ar away;split
 ·rename_i hm;simp;by_cases hr:0<r
  ·have:(-(N:Int)).fdiv D= -(q+1:Int):=vD (by omega) (by rw[Int.neg_mul,Int.add_mul];omega) (by rw[Int.neg_mul,Int.add_mul];omega);rw[this];simp[hr]
  ·have:(-(N:Int)).fdiv D= -(q:Int):=vD (by omega) (by rw[Int.neg_mul];omega) (by rw[Int.neg_mul];omega);rw[this];simp[hr]
 ·split
  ·simp;exact vD (by omega) (by omega) (by omega)
  ·simp;by_cases hr:D-r<r
   ·have:(2* -(N:Int)+D).fdiv (2*D)= -(q+1:Int):=vD (by omega) (by rw[Int.neg_mul,Int.add_mul,←Int.mul_assoc,Int.mul_comm (q:Int) 2,Int.mul_assoc];omega) (by rw[Int.neg_mul,Int.add_mul,←Int.mul_assoc,Int.mul_comm (q:Int) 2,Int.mul_assoc];omega);rw[this];simp[hr]
   ·have:(2* -(N:Int)+D).fdiv (2*D)= -(q:Int):=vD (by omega) (by rw[Int.neg_mul,←Int.mul_assoc,Int.mul_comm (q:Int) 2,Int.mul_assoc];omega) (by rw[Int.neg_mul,←Int.mul_assoc,Int.mul_comm (q:Int) 2,Int.mul_assoc];omega);rw[this];simp[hr]
theorem Gy(m:Nat)(n d:Int):kN m (-n) (-d)=kN m n d:=by
 unfold kN;rw[show 2* -n+ -d= -(2*n+d)from by omega,show 2* -d= -(2*d)from by omega,Int.neg_fdiv_neg,Int.neg_fdiv_neg,Int.neg_fdiv_neg]
theorem fV(m:Nat)(n d:Int)(neg:Bool)(hd:d≠0)(hneg:n≠0→(neg=true↔(n<0↔¬d<0))):
 kN m n d=ar neg (n.natAbs/d.natAbs+(away m neg (n.natAbs%d.natAbs) d.natAbs).toNat):=by
 have hD:0<d.natAbs:=by omega
 by_cases h0:n=0
 ·subst h0
  have e:kN m 0 d=0:=by
   unfold kN;split
   ·simp
   ·split
    ·simp
    ·rcases Int.lt_or_lt_of_ne hd with h|h
     ·rw[show(2*0+d:Int)= -(-d)from by omega,show 2*d= -(2*(-d))from by omega,Int.neg_fdiv_neg];exact vD (by omega) (by omega) (by omega)
     ·exact vD (by omega) (by omega) (by omega)
  rw[e]
  have ea:away m neg 0 d.natAbs=false:=by
   unfold away;by_cases h1:m=0
   ·simp[h1]
   ·by_cases h2:m=1
    ·simp[h2]
    ·simp[h1,h2];omega
  simp[ea,ar]
 ·have hneg:=hneg h0
  cases neg with
  |false=>
   have hs:¬(n<0↔¬d<0):=fun h=>by simpa using hneg.2 h
   rw[←Mi m _ _ hD];by_cases h:d<0
   ·rw[←Gy];congr 1<;>omega
   ·congr 1<;>omega
  |true=>
   have hs:=hneg.1 rfl;rw[←Mj m _ _ hD];by_cases h:d<0
   ·rw[←Gy];congr 1<;>omega
   ·congr 1<;>omega
theorem Gz{u v y1 y0:Nat}(hy:0<y1)(hv:v<4294967296):(u*4294967296+v)/(y1*4294967296+y0)≤u/y1:=by
 have h:(u*4294967296+v)/(y1*4294967296+y0)<u/y1+1:=by
  rw[Nat.div_lt_iff_lt_mul (by omega)]
  have h1:u<(u/y1+1)*y1:=by
   rw[Nat.add_mul,Nat.one_mul];have:=Nat.div_add_mod u y1;have:=Nat.mod_lt u hy;have e:y1*(u/y1)=u/y1*y1:=Nat.mul_comm _ _;omega
  have e:(u/y1+1)*(y1*4294967296+y0)=(u/y1+1)*y1*4294967296+(u/y1+1)*y0:=by rw[Nat.mul_add,←Nat.mul_assoc]
  rw[e];omega
 omega
theorem fW{u y1 y0:Nat}(hy:2147483648≤y1)(hy0:y0<4294967296)(hu:u<y1*4294967296+y0):u/y1≤4294967297:=by
 have:u/y1<4294967298:=by
  rw[Nat.div_lt_iff_lt_mul (by omega)];omega
 omega
theorem GD{u v y:Nat}(hu:u<y)(hv:v<4294967296):(u*4294967296+v)/y<4294967296:=by
 rw[Nat.div_lt_iff_lt_mul (by omega)];omega
theorem YN{u v y1 y0 Y E:Int}(hY:Y=y1*4294967296+y0)(hE:(u*4294967296+v)/Y=E)(hy:2147483648≤y1)(hy0:0≤y0)(hy2:y0<4294967296)(hu0:0≤u)(hu:u<Y)(hv0:0≤v)(hv:v<4294967296):
 0≤E∧E<4294967296∧E≤u/y1∧u/y1≤4294967297:=by
 obtain⟨u,rfl⟩:=Int.eq_ofNat_of_zero_le hu0;obtain⟨a,rfl⟩:=Int.eq_ofNat_of_zero_le (show 0≤y1 by omega);obtain⟨b,rfl⟩:=Int.eq_ofNat_of_zero_le hy0;obtain⟨c,rfl⟩:=Int.eq_ofNat_of_zero_le hv0;have f1:=Gz (u:=u) (v:=c) (y1:=a) (y0:=b) (by omega) (by omega);have f2:=fW (u:=u) (y1:=a) (y0:=b) (by omega) (by omega) (by omega);have f3:=GD (u:=u) (v:=c) (y:=a*4294967296+b) (by omega) (by omega);have e1:E=(((u*4294967296+c)/(a*4294967296+b):Nat):Int):=by rw[←hE,hY];simp
 have e2:(u:Int)/a=((u/a:Nat):Int):=by simp
 rw[e1,e2];generalize(u*4294967296+c)/(a*4294967296+b)=k at*;generalize u/a=l at*;omega
theorem Qb{u v y1 y0 Y E q r:Int}(hY:Y=y1*4294967296+y0)(hE:(u*4294967296+v)/Y=E)(hYp:0<Y)(hu:u=q*y1+r)(hq:E≤q)(h:q*y0≤4294967296*r+v):q=E:=by
 have e:q*Y=q*y1*4294967296+q*y0:=by rw[hY,Int.mul_add,←Int.mul_assoc]
 have:q≤(u*4294967296+v)/Y:=by
  rw[Int.le_ediv_iff_mul_le hYp,e];omega
 omega
theorem VW{u v y1 y0 Y E q r:Int}(hY:Y=y1*4294967296+y0)(hE:(u*4294967296+v)/Y=E)(hYp:0<Y)(hu:u=q*y1+r)(h:4294967296*r+v<q*y0):E≤q-1:=by
 have e:q*Y=q*y1*4294967296+q*y0:=by rw[hY,Int.mul_add,←Int.mul_assoc]
 have:(u*4294967296+v)/Y<q:=by
  rw[Int.ediv_lt_iff_lt_mul hYp,e];omega
 omega
theorem VX{u y1 q r:Int}(hu:u=q*y1+r):u=(q-1)*y1+(r+y1):=by rw[hu];grind
theorem fX{N y Y p U V v1 v0 E F W:Int}(hp:0<p)(hyp:0<y)(hN:N*p=U*18446744073709551616+V)(hY:y*p=Y)(hV:V=v1*4294967296+v0)
 (hW:W=U*4294967296+v1-E*Y) (hZ0:0≤W*4294967296+v0-F*Y) (hZ:W*4294967296+v0-F*Y<Y):
 N/y=E*4294967296+F∧N%y=(W*4294967296+v0-F*Y)/p:=by
 have e:(N-(E*4294967296+F)*y)*p=W*4294967296+v0-F*Y:=by
  rw[hW,Int.sub_mul,hN,hV,←hY];grind
 rw[←e]at hZ0 hZ⊢;rw[←hY]at hZ
 have h1:0≤N-(E*4294967296+F)*y:=by
  rcases Int.lt_or_le (N-(E*4294967296+F)*y) 0 with h|h
  ·have:=Int.mul_neg_of_neg_of_pos h hp;omega
  ·exact h
 have h2:N-(E*4294967296+F)*y<y:=Int.lt_of_mul_lt_mul_right hZ (by omega);rw[Int.mul_ediv_cancel _ (by omega)];have h3:=Int.emod_add_mul_ediv N y;have h4:=Int.emod_nonneg N (show y≠0 by omega);have h5:=Int.emod_lt_of_pos N hyp
 have h6:N/y=E*4294967296+F:=by
  have h7:(N/y-(E*4294967296+F))*y=(N-(E*4294967296+F)*y)-N%y:=by
   have:y*(N/y)=N/y*y:=Int.mul_comm _ _;rw[Int.sub_mul];omega
  rcases Int.lt_trichotomy (N/y) (E*4294967296+F)with h8|h8|h8
  ·have:(N/y-(E*4294967296+F))*y≤(-1)*y:=Int.mul_le_mul_of_nonneg_right (by omega) (by omega);omega
  ·exact h8
  ·have:1*y≤(N/y-(E*4294967296+F))*y:=Int.mul_le_mul_of_nonneg_right (by omega) (by omega);omega
 refine⟨h6,?_⟩;rw[h6]at h3;have:y*(E*4294967296+F)=(E*4294967296+F)*y:=Int.mul_comm _ _;omega
def norm(a:Int):Int:=a%129600000
def jl(a b:Int):Int:=norm (norm a+norm b)
def zN(a b:Int):Int:=if 64800000<norm (norm b-norm a)then norm (norm b-norm a)-129600000 else norm (norm b-norm a)
theorem jP(a:Int):0≤norm a∧norm a<129600000:=by unfold norm;omega
theorem dw{a:Int}(h:0≤a)(h1:a<129600000):norm a=a:=by unfold norm;omega
theorem VY(a b:Int):jl a b=(a+b)%129600000:=by unfold jl norm;omega
theorem VZ(a b:Int): -64800000<zN a b∧zN a b≤64800000:=by unfold zN norm;omega
def tA(a:Int):Int:=(a*6746518852+32400000)/64800000
def zO(x y:Int):Int:=(x*y+1073741824)/2147483648
def yz(x n:Int):Int:=(x+n/2)/n
def fY(u:Int):Int:=2147483648-yz u 110
def fZ(u:Int):Int:=2147483648-yz (zO u (fY u)) 72
def ra(u:Int):Int:=2147483648-yz (zO u (fZ u)) 42
def dz(u:Int):Int:=2147483648-yz (zO u (ra u)) 20
def ZB(u:Int):Int:=2147483648-yz (zO u (dz u)) 6
def rj(u:Int):Int:=2147483648-yz u 90
def ru(u:Int):Int:=2147483648-yz (zO u (rj u)) 56
def rv(u:Int):Int:=2147483648-yz (zO u (ru u)) 30
def ry(u:Int):Int:=2147483648-yz (zO u (rv u)) 12
def Yr(u:Int):Int:=2147483648-yz (zO u (ry u)) 2
def uA(a:Int):Int:=zO (tA a) (tA a)
def QN(a:Int):Int:=(zO (tA a) (ZB (uA a))+1)/2
def kF(a:Int):Int:=(Yr (uA a)+1)/2
def gj(a:Int):Int:=if a≤16200000 then QN a else kF (32400000-a)
def yJ(a:Int):Int:=
 if norm a≤32400000 then gj (norm a)else if norm a≤64800000 then gj (64800000-norm a)else if norm a≤97200000 then-gj (norm a-64800000)else-gj (129600000-norm a)
def vT(a:Int):Int:=yJ (jl a 32400000)
theorem JD(f:Int→Int)(lo hi:Int)(h:∀x,lo≤x→x<hi→f x≤f (x+1)):∀(n:Nat) (x:Int),lo≤x→x+n≤hi→f x≤f (x+n)
 |0,x,_,_=>by simp
 |n+1,x,h1,h2=>by
  have:=JD f lo hi h n x h1 (by omega);have h3:=h (x+n) (by omega) (by omega);rw[show x+n+1=x+((n+1:Nat):Int)from by omega]at h3;omega
theorem Vj{f:Int→Int}{lo hi:Int}(h:∀x,lo≤x→x<hi→f x≤f (x+1)){x y:Int}(h1:lo≤x)(h2:x≤y)(h3:y≤hi):f x≤f y:=by
 have:=JD f lo hi h (y-x).toNat x h1 (by omega)
 rwa[show x+((y-x).toNat:Int)=y from by omega]at this
theorem yU{u r:Int}(hu:0≤u)(hr:0≤r)(hr2:r≤2147483648):0≤zO u r∧zO u r≤u:=by
 have h1:0≤u*r:=Int.mul_nonneg hu hr;have h2:u*r≤u*2147483648:=Int.mul_le_mul_of_nonneg_left hr2 hu;unfold zO;omega
theorem uz{u r r':Int}(hu:0≤u)(h:r'≤r)(h':r≤r'+1)(hr:u+1≤r)(hr2:r≤2147483648):zO u r≤zO (u+1) r'∧zO (u+1) r'≤zO u r+1:=by
 have h1:(u+1)*(r-1)≤(u+1)*r':=Int.mul_le_mul_of_nonneg_left (by omega) (by omega);have h2:(u+1)*r'≤(u+1)*r:=Int.mul_le_mul_of_nonneg_left h (by omega);have e:(u+1)*r=u*r+r:=by rw[Int.add_mul,Int.one_mul]
 rw[Int.mul_sub,e]at h1;rw[e]at h2;unfold zO;omega
theorem pg{u:Int}(h:0≤u)(h2:u≤1325000000):2135000000≤fY u∧fY u≤2147483648:=by unfold fY yz;omega
theorem pu{u:Int}(h:0≤u)(h2:u≤1325000000):2129000000≤fZ u∧fZ u≤2147483648:=by
 have a:=pg h h2;have b:=yU h (show 0≤fY u by omega) a.2;unfold fZ yz;omega
theorem pw{u:Int}(h:0≤u)(h2:u≤1325000000):2115000000≤ra u∧ra u≤2147483648:=by
 have a:=pu h h2;have b:=yU h (show 0≤fZ u by omega) a.2;unfold ra yz;omega
theorem pz{u:Int}(h:0≤u)(h2:u≤1325000000):2081000000≤dz u∧dz u≤2147483648:=by
 have a:=pw h h2;have b:=yU h (show 0≤ra u by omega) a.2;unfold dz yz;omega
theorem Ka{u:Int}(h:0≤u)(h2:u≤1325000000):1926000000≤ZB u∧ZB u≤2147483648:=by
 have a:=pz h h2;have b:=yU h (show 0≤dz u by omega) a.2;unfold ZB yz;omega
theorem pC{u:Int}(h:0≤u)(h2:u≤1325000000):2132000000≤rj u∧rj u≤2147483648:=by unfold rj yz;omega
theorem pD{u:Int}(h:0≤u)(h2:u≤1325000000):2123000000≤ru u∧ru u≤2147483648:=by
 have a:=pC h h2;have b:=yU h (show 0≤rj u by omega) a.2;unfold ru yz;omega
theorem pE{u:Int}(h:0≤u)(h2:u≤1325000000):2103000000≤rv u∧rv u≤2147483648:=by
 have a:=pD h h2;have b:=yU h (show 0≤ru u by omega) a.2;unfold rv yz;omega
theorem pF{u:Int}(h:0≤u)(h2:u≤1325000000):2037000000≤ry u∧ry u≤2147483648:=by
 have a:=pE h h2;have b:=yU h (show 0≤rv u by omega) a.2;unfold ry yz;omega
theorem FX{u:Int}(h:0≤u)(h2:u≤1325000000):1484000000≤Yr u∧Yr u≤2147483648:=by
 have a:=pF h h2;have b:=yU h (show 0≤ry u by omega) a.2;unfold Yr yz;omega
theorem lv{u:Int}(h:0≤u)(h2:u<1325000000):fY (u+1)≤fY u∧fY u≤fY (u+1)+1:=by unfold fY yz;omega
theorem lw{u:Int}(h:0≤u)(h2:u<1325000000):fZ (u+1)≤fZ u∧fZ u≤fZ (u+1)+1:=by
 have b:=pg h (by omega);have a:=lv h h2;have c:=uz h a.1 a.2 (by omega) b.2;unfold fZ yz;omega
theorem lz{u:Int}(h:0≤u)(h2:u<1325000000):ra (u+1)≤ra u∧ra u≤ra (u+1)+1:=by
 have b:=pu h (by omega);have a:=lw h h2;have c:=uz h a.1 a.2 (by omega) b.2;unfold ra yz;omega
theorem lA{u:Int}(h:0≤u)(h2:u<1325000000):dz (u+1)≤dz u∧dz u≤dz (u+1)+1:=by
 have b:=pw h (by omega);have a:=lz h h2;have c:=uz h a.1 a.2 (by omega) b.2;unfold dz yz;omega
def PE(u:Int):Int:=zO u (dz u)
theorem JE{u:Int}(h:0≤u)(h2:u<1325000000):PE u≤PE (u+1)∧PE (u+1)≤PE u+1:=by
 have b:=pz h (by omega);have a:=lA h h2;exact uz h a.1 a.2 (by omega) b.2
theorem lB{u:Int}(h:0≤u)(h2:u<1325000000):rj (u+1)≤rj u∧rj u≤rj (u+1)+1:=by unfold rj yz;omega
theorem lC{u:Int}(h:0≤u)(h2:u<1325000000):ru (u+1)≤ru u∧ru u≤ru (u+1)+1:=by
 have b:=pC h (by omega);have a:=lB h h2;have c:=uz h a.1 a.2 (by omega) b.2;unfold ru yz;omega
theorem lD{u:Int}(h:0≤u)(h2:u<1325000000):rv (u+1)≤rv u∧rv u≤rv (u+1)+1:=by
 have b:=pD h (by omega);have a:=lC h h2;have c:=uz h a.1 a.2 (by omega) b.2;unfold rv yz;omega
theorem lF{u:Int}(h:0≤u)(h2:u<1325000000):ry (u+1)≤ry u∧ry u≤ry (u+1)+1:=by
 have b:=pE h (by omega);have a:=lD h h2;have c:=uz h a.1 a.2 (by omega) b.2;unfold ry yz;omega
theorem GF{u:Int}(h:0≤u)(h2:u<1325000000):Yr (u+1)≤Yr u∧Yr u≤Yr (u+1)+1:=by
 have b:=pF h (by omega);have a:=lF h h2;have c:=uz h a.1 a.2 (by omega) b.2;unfold Yr yz;omega
theorem lG{u v:Int}(h:0≤u)(h1:u≤v)(h2:v≤1325000000):Yr v≤Yr u:=by
 have: -Yr u≤ -Yr v:=Vj (f:=fun x=> -Yr x) (lo:=0) (hi:=1325000000) (fun x a b=>by have:=GF a b;show-Yr x≤ -Yr (x+1);omega) h h1 h2;omega
theorem dA{a b:Int}(h:0≤a)(h1:a≤b):a*a≤b*b:=Int.mul_le_mul h1 h1 h (by omega)
theorem QO{t:Int}(h:0≤t)(h2:t≤1686629713):0≤zO t t∧zO t t≤1325000000:=by
 have h1:0≤t*t:=Int.mul_nonneg h h;have h3:=dA h h2;unfold zO;omega
theorem lH{t t':Int}(h:0≤t)(h2:t≤t'):zO t t≤zO t' t':=by
 have h3:=dA h h2;unfold zO;omega
def sT(t:Int):Int:=zO t (ZB (zO t t))
theorem Mk{t:Int}(h:0≤t)(h2:t<1686629713):sT t≤sT (t+1):=by
 have h0:0≤t*t:=Int.mul_nonneg h h;have e:(t+1)*(t+1)=t*t+2*t+1:=by grind
 have u1:=QO h (by omega);have u2:=QO (t:=t+1) (by omega) (by omega);have d1:zO t t≤zO (t+1) (t+1)∧zO (t+1) (t+1)≤zO t t+2:=by unfold zO;rw[e];omega
 have hv:PE (zO t t)≤PE (zO (t+1) (t+1))∧PE (zO (t+1) (t+1))≤PE (zO t t)+2:=by
  generalize zO (t+1) (t+1)=u' at*;generalize zO t t=u at*;have:u'=u∨u'=u+1∨u'=u+1+1:=by omega
  rcases this with rfl|rfl|rfl
  ·omega
  ·have:=JE u1.1 (by omega);omega
  ·have a:=JE u1.1 (by omega);have b:=JE (u:=u+1) (by omega) (by omega);omega
 have r1:=Ka u1.1 u1.2;have r2:=Ka u2.1 u2.2
 have dr:ZB (zO t t)-1≤ZB (zO (t+1) (t+1)):=by
  unfold PE at hv;unfold ZB yz;omega
 have h3:(t+1)*(ZB (zO t t)-1)≤(t+1)*ZB (zO (t+1) (t+1)):=Int.mul_le_mul_of_nonneg_left dr (by omega);have e3:(t+1)*ZB (zO t t)=t*ZB (zO t t)+ZB (zO t t):=by rw[Int.add_mul,Int.one_mul]
 rw[Int.mul_sub,e3]at h3;unfold sT;unfold zO at*;omega
theorem YO{a:Int}(h:0≤a)(h2:a≤16200000):0≤tA a∧tA a≤1686629713:=by unfold tA;omega
theorem dB{a b:Int}(h:a≤b):tA a≤tA b:=by unfold tA;omega
theorem Zm{a b:Int}(h:0≤a)(h1:a≤b)(h2:b≤16200000):QN a≤QN b:=by
 have ta:=YO h (by omega);have tb:=YO (a:=b) (by omega) h2;have:=Vj (f:=sT) (lo:=0) (hi:=1686629713) (fun x p q=>Mk p q) ta.1 (dB h1) tb.2;unfold QN uA;unfold sT at this;omega
theorem tP{a b:Int}(h:0≤a)(h1:a≤b)(h2:b≤16200000):kF b≤kF a:=by
 have ta:=YO h (by omega);have tb:=YO (a:=b) (by omega) h2;have ua:=QO ta.1 ta.2;have ub:=QO tb.1 tb.2;have:=lG ua.1 (lH ta.1 (dB h1)) ub.2;unfold kF uA;omega
theorem dE{a:Int}(h:0≤a)(h2:a≤16200000):0≤QN a∧QN a≤759250125:=by
 have h0:=Zm (Int.le_refl 0) h h2;have h1:=Zm h h2 (Int.le_refl _);have e0:QN 0=0:=by decide
 have e1:QN 16200000=759250125:=by decide
 omega
theorem Uf{a:Int}(h:0≤a)(h2:a≤16200000):759250125≤kF a∧kF a≤1073741824:=by
 have h0:=tP (Int.le_refl 0) h h2;have h1:=tP h h2 (Int.le_refl _);have e0:kF 0=1073741824:=by decide
 have e1:kF 16200000=759250125:=by decide
 omega
theorem Zn{a:Int}(h:0≤a)(h2:a≤32400000):0≤gj a∧gj a≤1073741824:=by
 unfold gj;split
 ·have:=dE h (by omega);omega
 ·have:=Uf (a:=32400000-a) (by omega) (by omega);omega
theorem Qc(a:Int): -1073741824≤yJ a∧yJ a≤1073741824:=by
 have n:=jP a;unfold yJ;split
 ·have:=Zn n.1 (by omega);omega
 ·split
  ·have:=Zn (a:=64800000-norm a) (by omega) (by omega);omega
  ·split
   ·have:=Zn (a:=norm a-64800000) (by omega) (by omega);omega
   ·have:=Zn (a:=129600000-norm a) (by omega) (by omega);omega
theorem Ja(a:Int): -1073741824≤vT a∧vT a≤1073741824:=Qc _
def dF(x lo hi:Int):Int:=if x<lo then lo else if hi<x then hi else x
def sat(x:Int):Int:=dF x (-9223372036854775808) 9223372036854775807
def Qy(x:Int):Bool:=decide (-9223372036854775808≤x∧x≤9223372036854775807)
def qL(m:Nat)(a b c:Int):Int×Int:=if c=0 then(0,1)else if Qy (kN m (a*b) c)then(kN m (a*b) c,0)else(0,2)
def gX(p:Nat→Bool):Nat→Nat
 |0=>0
 |k+1=>if p (k+1)then k+1 else gX p k
theorem rz(p:Nat→Bool)(N c:Nat)(hc:c≤N)(h:c=0∨p c=true)(hn:∀d,c<d→d≤N→p d=false):gX p N=c:=by
 induction N with
 |zero=>simp[gX];omega
 |succ k ih=>
  unfold gX;by_cases e:c=k+1
  ·subst e;rcases h with h|h
   ·omega
   ·rw[if_pos h]
  ·rw[hn (k+1) (by omega) (Nat.le_refl _)];simp;exact ih (by omega) (fun d h1 h2=>hn d h1 (by omega))
theorem GG(p:Nat→Bool)(N:Nat):gX p N≤N∧(gX p N=0∨p (gX p N)=true)∧∀d,gX p N<d→d≤N→p d=false:=by
 induction N with
 |zero=>simp[gX];omega
 |succ k ih=>
  unfold gX;split
  ·rename_i h;exact⟨Nat.le_refl _,.inr h,fun d h1 h2=>by omega⟩
  ·rename_i h;refine⟨by omega,ih.2.1,fun d h1 h2=> ?_⟩;by_cases e:d=k+1
   ·subst e;simpa using h
   ·exact ih.2.2 d h1 (by omega)
theorem lI{c:Int}(h:0≤c)(h2:c≤16200000):yJ c=QN c:=by
 unfold yJ;rw[dw h (by omega),if_pos (by omega)];unfold gj;rw[if_pos h2]
theorem lJ{c:Int}(h:0≤c)(h2:c≤16200000):vT c=kF c:=by
 unfold vT yJ;have e:norm (jl c 32400000)=c+32400000:=by rw[VY];unfold norm;omega
 rw[e];by_cases h0:c=0
 ·subst h0;decide
 ·rw[if_neg (by omega),if_pos (by omega)];unfold gj;by_cases h3:c=16200000
  ·subst h3;decide
  ·rw[if_neg (by omega),show 32400000-(64800000-(c+32400000))=c from by omega]
def Ml(m n:Int)(c:Nat):Bool:=decide (yJ c*m≤vT c*n)
theorem lK{m n:Int}(hm:0≤m)(hn:0≤n){c d:Nat}(h:c≤d)(hd:d≤16200000)(hp:Ml m n d=true):Ml m n c=true:=by
 have e1:yJ d*m≤vT d*n:=of_decide_eq_true hp;clear hp;refine decide_eq_true (?_:yJ c*m≤vT c*n);rw[lI (Int.natCast_nonneg d) (by omega),lJ (Int.natCast_nonneg d) (by omega)]at e1;rw[lI (Int.natCast_nonneg c) (by omega),lJ (Int.natCast_nonneg c) (by omega)];have a:=Zm (Int.natCast_nonneg c) (show(c:Int)≤d by omega) (by omega);have b:=tP (Int.natCast_nonneg c) (show(c:Int)≤d by omega) (by omega);have a':=Int.mul_le_mul_of_nonneg_right a hm;have b':=Int.mul_le_mul_of_nonneg_right b hn;exact Int.le_trans a' (Int.le_trans e1 b')
def Mm:Nat:=16200000
theorem pG:Mm=16200000:=rfl
def Qr(m n:Int):Int:=gX (Ml m n) Mm
theorem Ug(m n:Int):∃g:Nat,Qr m n=g∧g≤Mm∧(g=0∨Ml m n g=true)∧∀d,g<d→d≤Mm→Ml m n d=false:=
 ⟨_,rfl,GG _ _⟩
theorem JF(m n:Int):0≤Qr m n∧Qr m n≤16200000:=by
 obtain⟨g,h,h1,_⟩:=Ug m n;have h2:=pG;rw[h];constructor
 ·exact Int.natCast_nonneg g
 ·clear h;omega
def gY(y x:Int):Int:=if x.natAbs<y.natAbs then 32400000-Qr y.natAbs x.natAbs else Qr x.natAbs y.natAbs
def yQ(y x:Int):Int:=
 if 0≤y then(if 0≤x then gY y x else 64800000-gY y x)else if x<0 then 64800000+gY y x else norm (-gY y x)
theorem GH(y x:Int):0≤gY y x∧gY y x≤32400000:=by
 unfold gY;have:=JF y.natAbs x.natAbs;have:=JF x.natAbs y.natAbs;split<;>omega
theorem gI(y x:Int):0≤yQ y x∧yQ y x<129600000:=by
 have:=GH y x;unfold yQ norm;split<;>split<;>omega
def qw(x y:Int):Bool:=decide (-2000000≤x∧x≤2000000∧ -2000000≤y∧y≤2000000)
def yH(ax ay bx b_y:Int):Int:=(bx-ax)*(bx-ax)+(b_y-ay)*(b_y-ay)
def zk(ax ay bx b_y:Int):Int:=if qw ax ay&&qw bx b_y then kE (yH ax ay bx b_y).toNat else 0
def qO(ax ay bx b_y:Int):Int×Int:=
 if !(qw ax ay&&qw bx b_y)then(0,1)else if ax=bx∧ay=b_y then(0,10)else(yQ (bx-ax) (b_y-ay),0)
def gZ(a b:Int):Int:=if a<b then-1 else if a>b then 1 else 0
def Bj(ax ay bx b_y px py:Int):Int:=
 if qw ax ay&&qw bx b_y&&qw px py then gZ ((bx-ax)*(px-bx)+(b_y-ay)*(py-b_y)) 0 else 0
def YV(n s:Int):Int:=if n<0 then-(kE (n*n/s).toNat:Int)else kE (n*n/s).toNat
def Kb(ax ay bx b_y px py:Int):Int×Int×Int:=
 if !(qw ax ay&&qw bx b_y&&qw px py)then(0,0,1)else if ax=bx∧ay=b_y then(0,0,10)else
 (YV (-((bx-ax)*(py-ay)-(b_y-ay)*(px-ax))) (yH ax ay bx b_y),YV ((bx-ax)*(px-ax)+(b_y-ay)*(py-ay)) (yH ax ay bx b_y),0)
def bc(ax ay vx vy n d:Int):Int×Int×Int:=
 if(qL 2 vx n d).2=0∧(qL 2 vy n d).2=0 then
  (if qw (sat (ax+(qL 2 vx n d).1)) (sat (ay+(qL 2 vy n d).1))then(sat (ax+(qL 2 vx n d).1),sat (ay+(qL 2 vy n d).1),0)else(0,0,2))
 else(0,0,2)
def Kc(ax ay bx b_y px py:Int):Int×Int×Int:=
 if !(qw ax ay&&qw bx b_y&&qw px py)then(0,0,1)else if ax=bx∧ay=b_y then(0,0,10)else
 bc ax ay (bx-ax) (b_y-ay) ((bx-ax)*(px-ax)+(b_y-ay)*(py-ay)) (yH ax ay bx b_y)
def YP(ax ay bx b_y cx cy dx dy:Int):Int×Int×Int:=
 if !(qw ax ay&&qw bx b_y&&qw cx cy&&qw dx dy)then(0,0,1)else if(bx-ax)*(dy-cy)-(b_y-ay)*(dx-cx)=0 then(0,0,10)else
 bc ax ay (bx-ax) (b_y-ay) ((cx-ax)*(dy-cy)-(cy-ay)*(dx-cx)) ((bx-ax)*(dy-cy)-(b_y-ay)*(dx-cx))
def Bl(dist course:Int):Int:=kN 2 (dist*yJ course) 1073741824
def Bm(dist course:Int):Int:=kN 2 (dist*vT course) 1073741824
def zn(px py course dist:Int):Int×Int×Int:=
 if !qw px py then(0,0,1)else if dist>8000000∨dist< -8000000 then(0,0,2)else
 if qw (px+Bl dist course) (py+Bm dist course)then(px+Bl dist course,py+Bm dist course,0)else(0,0,2)
def xz(cx cy r f s:Int):Bool:=qw cx cy&&decide (1≤r∧r≤8000000∧0≤f∧f<129600000∧ -129600000≤s∧s≤129600000)
def zq(cx cy r f s:Int):Int:=if xz cx cy r f s then kN 2 (r*s.natAbs) 20626481 else 0
def jU(s w:Int):Int:=if s<0 then-w else w
def Qz(n s along:Int):Int:=if 0<n then kN 2 (along*s.natAbs) n else 0
def uO(f s n along:Int):Int:=jl f (jU s (Qz n s along))
def jJ(cx cy r f s along:Int):Int×Int×Int×Int:=
 if !xz cx cy r f s then(0,0,0,1)else if along<0∨along>zq cx cy r f s then(0,0,0,2)else
 if(zn cx cy (uO f s (zq cx cy r f s) along) r).2.2=0 then
  ((zn cx cy (uO f s (zq cx cy r f s) along) r).1,(zn cx cy (uO f s (zq cx cy r f s) along) r).2.1,jl (uO f s (zq cx cy r f s) along) (jU s 32400000),0)
 else(0,0,0,2)
def bf(right:Bool)(a b:Int):Int:=if right then norm (norm b-norm a)else norm (norm a-norm b)
theorem QP(x y:Int):qw x y=true↔(-2000000≤x∧x≤2000000∧ -2000000≤y∧y≤2000000):=by unfold qw;exact decide_eq_true_iff
theorem GI(a b c d:Int):(a*c+b*d)*(a*c+b*d)+(a*d-b*c)*(a*d-b*c)=(a*a+b*b)*(c*c+d*d):=by grind
theorem yO(a:Int):0≤a*a:=by
 rcases Int.le_total 0 a with h|h
 ·exact Int.mul_nonneg h h
 ·exact Int.mul_nonneg_of_nonpos_of_nonpos h h
theorem Mn{a b:Int}(hb:0≤b)(h:a*a<b*b):a<b:=by
 rcases Int.lt_or_le a b with h1|h1
 ·exact h1
 ·have:=Int.mul_le_mul h1 h1 hb (by omega);omega
theorem dG{a b:Int}(hb:0≤b)(h:a*a≤b*b):a≤b:=by
 rcases Int.lt_or_le b a with h1|h1
 ·have h2:(b+1)*(b+1)≤a*a:=Int.mul_le_mul (by omega) (by omega) (by omega) (by omega);have e:(b+1)*(b+1)=b*b+2*b+1:=by grind
  omega
 ·exact h1
theorem Bn(ax ay bx b_y:Int):0≤yH ax ay bx b_y:=by
 unfold yH;have:=yO (bx-ax);have:=yO (b_y-ay);omega
theorem JG(n:Int)(h:0≤n):(kE n.toNat:Int)*kE n.toNat≤n∧n<((kE n.toNat:Int)+1)*((kE n.toNat:Int)+1):=by
 obtain⟨k,rfl⟩:=Int.eq_ofNat_of_zero_le h;have:=bC k;simp only[Int.toNat_natCast];constructor
 ·exact_mod_cast this.1
 ·exact_mod_cast this.2
theorem GJ{a m:Int}(h: -m≤a)(h2:a≤m):a*a≤m*m:=by
 rcases Int.le_total 0 a with h3|h3
 ·exact Int.mul_le_mul h2 h2 h3 (by omega)
 ·have:(-a)*(-a)≤m*m:=Int.mul_le_mul (by omega) (by omega) (by omega) (by omega)
  rwa[Int.neg_mul_neg]at this
theorem Kd{ax ay bx b_y:Int}(h1:qw ax ay=true)(h2:qw bx b_y=true):yH ax ay bx b_y≤32000000000000:=by
 rw[QP]at h1 h2;have:=GJ (a:=bx-ax) (m:=4000000) (by omega) (by omega);have:=GJ (a:=b_y-ay) (m:=4000000) (by omega) (by omega);unfold yH;omega
theorem bD(ax ay bx b_y:Int):0≤zk ax ay bx b_y∧zk ax ay bx b_y≤5656854:=by
 unfold zk;split
 ·rename_i h;rw[Bool.and_eq_true]at h;have h1:=Kd h.1 h.2;have h2:kE (yH ax ay bx b_y).toNat<5656855:=Bi (by omega);omega
 ·omega
theorem rA{ax ay bx b_y:Int}(h:¬(ax=bx∧ay=b_y)):0<yH ax ay bx b_y:=by
 unfold yH;by_cases hx:bx-ax=0
 ·have hy:b_y-ay≠0:=by omega
  have:=yO (bx-ax);rcases Int.lt_or_lt_of_ne hy with h|h
  ·have:=Int.mul_pos_of_neg_of_neg h h;omega
  ·have:=Int.mul_pos h h;omega
 ·have:=yO (b_y-ay);rcases Int.lt_or_lt_of_ne hx with h|h
  ·have:=Int.mul_pos_of_neg_of_neg h h;omega
  ·have:=Int.mul_pos h h;omega
theorem FY(a b c d:Int):(a*d-b*c)*(a*d-b*c)≤(c*c+d*d)*(a*a+b*b):=by
 have h:=GI a b c d;have:=yO (a*c+b*d);have e:(c*c+d*d)*(a*a+b*b)=(a*a+b*b)*(c*c+d*d):=Int.mul_comm _ _;omega
theorem FZ(a b c d:Int):(a*c+b*d)*(a*c+b*d)≤(c*c+d*d)*(a*a+b*b):=by
 have h:=GI a b c d;have:=yO (a*d-b*c);have e:(c*c+d*d)*(a*a+b*b)=(a*a+b*b)*(c*c+d*d):=Int.mul_comm _ _;omega
theorem Uh(n d:Int)(hd:d≠0): -(d.natAbs:Int)≤2*(kN 2 n d*d-n)∧2*(kN 2 n d*d-n)≤d.natAbs:=by
 unfold kN;simp only[show(2:Nat)≠0 from by decide,show(2:Nat)≠1 from by decide,if_false];rcases Int.lt_or_lt_of_ne hd with h|h
 ·have e:(2*n+d).fdiv (2*d)=(-(2*n+d)).fdiv (-(2*d)):=(Int.neg_fdiv_neg _ _).symm;rw[e];have b:=JC (-(2*n+d)) (-(2*d)) (by omega);generalize(-(2*n+d)).fdiv (-(2*d))=k at*;have e2:k* -(2*d)= -(2*(k*d)):=by grind
  omega
 ·have b:=JC (2*n+d) (2*d) (by omega);generalize(2*n+d).fdiv (2*d)=k at*;have e2:k*(2*d)=2*(k*d):=by grind
  omega
theorem lL(n:Int):kN 2 n 20626481=(2*n+20626481)/41252962:=by
 unfold kN;simp only[show(2:Nat)≠0 from by decide,show(2:Nat)≠1 from by decide,if_false];rw[show(2:Int)*20626481=41252962 from by decide,Int.fdiv_eq_ediv_of_nonneg _ (by decide)]
open Go.RowKit
abbrev Iv(x:Int):Value:= .int .i64 x
def Rl(F G' G:Prop):Prop:=F→G'→G
theorem qg{P:Prop}(h:P:=by omega):P:=h
theorem yq{P:Prop}(h:P:=by unfold qz;omega):P:=h
theorem qM{P:Prop}(h:P:=by kernel_rfl):P:=h
theorem yt{P:Prop}(h:P:=by simp[go_sem]):P:=h
theorem qY{P:Prop}(h:P:=by assumption):P:=h
theorem qG{P:Prop}(h:P:=by decide):P:=h
theorem jL{P:Prop}(h:P:=by simp):P:=h
theorem AQ{P:Program}{f:FuncId}{xs:Array Value}{v:Value}{W:World}{R:Ending→World→Prop}:Rl (Calls P f xs W fun e w'=>e= .returned v∧W=w') (R (.returned v) W) (Calls P f xs W R):=fun c k=>c.mono (by
 rintro e w' ⟨rfl,rfl⟩
 exact k)
theorem qN{F G' G:Prop}(c:F)(k:G')(s:Rl F G' G:=by with_reducible exact AQ):G:=s c k
theorem qq1{P:Prop}(h:P:=by(repeat(with_reducible (first|assumption|exact Below.refl _ _|refine Below.drew ?_|refine below_drewN ?_ _|refine qK ?_ (by simp;try omega) _|refine qu ?_ (Nat.le_refl _) _|refine qH (by assumption) ?_)))):P:=h
end Go.Proofs.YtiegohjobhehcaaGreatDoor
