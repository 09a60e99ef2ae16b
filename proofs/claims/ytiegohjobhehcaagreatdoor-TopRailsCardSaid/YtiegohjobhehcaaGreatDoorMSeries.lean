/-
  The squares of the sine and the cosine add up to the square of the scale, but for a small part. No program.
-/
import Derived.Test.YtiegohjobhehcaaGreatDoorMPlain
namespace Go.Proofs.YtiegohjobhehcaaGreatDoor
set_option linter.unusedVariables false
section
variable{u:Int}
theorem JU{x:Int}(h:x≤16200000):gj x=QN x:=if_pos h
theorem Vn{x:Int}(h:0≤x)(h2:x≤16200000):gj (32400000-x)=kF x:=by
 by_cases h0:x=16200000
 ·subst h0;decide
 ·unfold gj;rw[if_neg qg];congr 1;omega
end
theorem WE(n:Int): -1073741824≤2*(kN 2 n 1073741824*1073741824-n)∧2*(kN 2 n 1073741824*1073741824-n)≤1073741824:=by
 have:=Uh n 1073741824 qG;simpa using this
theorem nN{x v X V:Int}(hx: -X≤x∧x≤X)(hv: -V≤v∧v≤V): -(X*V)≤x*v∧x*v≤X*V:=by
 have hX:0≤X:=qg;have hV:0≤V:=qg;have a:=Int.mul_nonneg (show 0≤X-x by omega) (show 0≤V-v by omega);have b:=Int.mul_nonneg (show 0≤X+x by omega) (show 0≤V+v by omega);have c:=Int.mul_nonneg (show 0≤X-x by omega) (show 0≤V+v by omega);have d:=Int.mul_nonneg (show 0≤X+x by omega) (show 0≤V-v by omega);have e1:(X-x)*(V-v)=X*V-X*v-x*V+x*v:=by grind
 have e2:(X+x)*(V+v)=X*V+X*v+x*V+x*v:=by grind
 have e3:(X-x)*(V+v)=X*V+X*v-x*V-x*v:=by grind
 have e4:(X+x)*(V-v)=X*V-X*v+x*V-x*v:=by grind
 omega
def mp:Int:=15511210043330985984000000*2147483648^25
def gp:List Int:=[39916800*2147483648^10,-6652800*2147483648^8,332640*2147483648^6,-7920*2147483648^4,110*2147483648^2,-1]
def hp:List Int:=[3628800*2147483648^10,-1814400*2147483648^8,151200*2147483648^6,-5040*2147483648^4,90*2147483648^2,-1]
def MT:List Int:=[3628800*2147483648^10,0,-1814400*2147483648^8,0,151200*2147483648^6,0,-5040*2147483648^4,0,90*2147483648^2,0,-1]
def MV(k:Int)(p P:Int):Prop:= -(k*mp)≤10*(mp*p-1073741824*P)∧10*(mp*p-1073741824*P)≤k*mp
theorem Uo{a:Int}(h:0≤a)(h2:a≤32400000):yJ a=gj a:=by
 unfold yJ;rw[dw h qg,if_pos h2]
theorem QW(a b:Int)(h:norm a=norm b):yJ a=yJ b:=by unfold yJ;rw[h]
theorem jS(a:Int):yJ (a+32400000)=vT a:=QW _ _ (by rw[VY];unfold norm;omega)
theorem BG(a:Int):yJ (a+64800000)= -yJ a:=by
 have hb:=jP a;have e:norm (a+64800000)=if norm a<64800000 then norm a+64800000 else norm a-64800000:=by unfold norm;split<;>omega
 have e0:gj 0=0:=qG;unfold yJ;rw[e];generalize norm a=b at*;by_cases h1:b≤32400000
 ·rw[if_pos (show b<64800000 by omega),if_pos h1,if_neg qg];by_cases h0:b=0
  ·subst h0;decide
  ·rw[if_neg qg,if_pos qg,show b+64800000-64800000=b from by omega]
 ·by_cases h2:b≤64800000
  ·by_cases h0:b=64800000
   ·subst h0;decide
   ·rw[if_pos (show b<64800000 by omega),if_neg qg,if_neg qg,if_neg qg,if_neg h1,if_pos h2,show 129600000-(b+64800000)=64800000-b from by omega]
  ·rw[if_neg (show¬b<64800000 by omega)];by_cases h3:b≤97200000
   ·rw[if_pos qg,if_neg h1,if_neg h2,if_pos h3,Int.neg_neg]
   ·rw[if_neg qg,if_pos qg,if_neg h1,if_neg h2,if_neg h3,Int.neg_neg,show 64800000-(b-64800000)=129600000-b from by omega]
theorem kf(a:Int):vT (a+32400000)= -yJ a:=by
 rw[←jS,show a+32400000+32400000=a+64800000 from by omega,BG]
theorem Tw(a b:Int)(h:norm a=norm b):vT a=vT b:=by
 rw[←jS,←jS];exact QW _ _ (by unfold norm at*;omega)
def MW(a b:Int):Prop:=
 (-13958643712≤yJ a*vT b+vT a*yJ b-1073741824*yJ (a+b)∧yJ a*vT b+vT a*yJ b-1073741824*yJ (a+b)≤13958643712)∧
 (-13958643712≤vT a*vT b-yJ a*yJ b-1073741824*vT (a+b)∧vT a*vT b-yJ a*yJ b-1073741824*vT (a+b)≤13958643712)
theorem MV.neg{k p P:Int}(h:MV k p P):MV k (-p) (-P):=by
 unfold MV at*;rw[Int.mul_neg,Int.mul_neg];omega
theorem MW.turn{a b:Int}(h:MW a b):MW (a+32400000) b:=by
 unfold MW at*;rw[show a+32400000+b=a+b+32400000 from by omega,jS,kf,jS,kf];have e1:vT a*vT b+ -yJ a*yJ b=vT a*vT b-yJ a*yJ b:=by grind
 have e2: -yJ a*vT b-vT a*yJ b= -(yJ a*vT b+vT a*yJ b):=by grind
 rw[e1,e2];omega
theorem MZ(a:Int):yJ (-a)= -yJ a:=by
 have hb:=jP a;have e:norm (-a)=if norm a=0 then 0 else 129600000-norm a:=by unfold norm;split<;>omega
 have e0:gj 0=0:=qG;unfold yJ;rw[e];generalize norm a=b at*;by_cases h0:b=0
 ·subst h0;decide
 ·rw[if_neg h0];by_cases h1:b≤32400000
  ·rw[if_pos h1];by_cases h:b=32400000
   ·subst h;decide
   ·rw[if_neg qg,if_neg qg,if_neg qg,show 129600000-(129600000-b)=b from by omega]
  ·by_cases h2:b≤64800000
   ·rw[if_neg h1,if_pos h2];by_cases h:b=64800000
    ·subst h;decide
    ·rw[if_neg qg,if_neg qg,if_pos qg,show 129600000-b-64800000=64800000-b from by omega]
   ·by_cases h3:b≤97200000
    ·rw[if_neg h1,if_neg h2,if_pos h3,Int.neg_neg];by_cases h:b=97200000
     ·subst h;decide
     ·rw[if_neg qg,if_pos qg,show 64800000-(129600000-b)=b-64800000 from by omega]
    ·rw[if_neg h1,if_neg h2,if_neg h3,Int.neg_neg,if_pos qg]
theorem Da(a:Int):vT (-a)=vT a:=by
 rw[←jS,show-a+32400000= -(a+64800000)+97200000-0 from by omega];have h1:yJ (-(a+64800000)+97200000-0)=yJ (-(a-32400000)):=QW _ _ (by unfold norm;omega);rw[h1,MZ];have h2:=kf (a-32400000);rw[show a-32400000+32400000=a from by omega]at h2;omega
theorem Uq{a:Int}(h:0≤a)(h2:a<16200000):QN (a+1)-QN a≤54∧kF a-kF (a+1)≤84:=by
 have ht:=YO h qg;have ht':=YO (a:=a+1) qg qg;have hd:tA a≤tA (a+1)∧tA (a+1)≤tA a+105:=by unfold tA;omega
 have hu:=QO ht.1 ht.2;have hu':=QO ht'.1 ht'.2;have hr:=Ka hu.1 hu.2;have hr':=Ka hu'.1 hu'.2;unfold QN kF uA;generalize tA (a+1)=t' at*;generalize tA a=t at*;have htt:0≤t*t:=yO t;have e:t'*t'-t*t=(t'-t)*(t'+t):=by grind
 have hm:(t'-t)*(t'+t)≤105*3373259426:=Int.mul_le_mul qg qg qg qg;have um:=lH ht.1 hd.1;have ud:zO t' t'≤zO t t+166:=by unfold zO;omega
 have rm:ZB (zO t' t')≤ZB (zO t t):=by
  have: -ZB (zO t t)≤ -ZB (zO t' t'):=Vj (f:=fun x=> -ZB x) (lo:=0) (hi:=1325000000) (fun x a b=>by
   have:=JE a b;unfold PE at this
   show-ZB x≤ -ZB (x+1)
   unfold ZB yz
   omega) hu.1 um hu'.2
  omega
 have cm:Yr (zO t t)≤Yr (zO t' t')+166:=by
  have:Yr (zO t t)+zO t t≤Yr (zO t' t')+zO t' t':=Vj (f:=fun x=>Yr x+x) (lo:=0) (hi:=1325000000) (fun x a b=>by
   have:=GF a b
   show Yr x+x≤Yr (x+1)+(x+1)
   omega) hu.1 um hu'.2
  omega
 have s1:t'*ZB (zO t' t')≤t'*ZB (zO t t):=Int.mul_le_mul_of_nonneg_left rm ht'.1;have s2:(t'-t)*ZB (zO t t)≤105*2147483648:=Int.mul_le_mul qg hr.2 qg qG;have e2:(t'-t)*ZB (zO t t)=t'*ZB (zO t t)-t*ZB (zO t t):=by grind
 constructor
 ·generalize ZB (zO t' t')=r' at*;generalize ZB (zO t t)=r at*;unfold zO;omega
 ·omega
theorem Ko{a b:Int}(h:0≤a)(h1:a≤b)(h2:b≤32400000):yJ a≤yJ b:=by
 rw[Uo h qg,Uo qg h2];by_cases hb:b≤16200000
 ·rw[JU qg,JU hb];exact Zm h h1 hb
 ·have eb:=Vn (x:=32400000-b) qg qg;rw[show 32400000-(32400000-b)=b from by omega]at eb;rw[eb];by_cases ha:a≤16200000
  ·rw[JU ha];have:=dE h ha;have:=Uf (a:=32400000-b) qg qg;omega
  ·have ea:=Vn (x:=32400000-a) qg qg;rw[show 32400000-(32400000-a)=a from by omega]at ea;rw[ea];exact tP qg qg qg
theorem bW(a:Int):yJ (32400000-a)=vT a:=by
 rw[show 32400000-a= -a+32400000 from by omega,jS,Da]
theorem nO(a:Int):yJ (norm a)=yJ a:=QW _ _ (by unfold norm;omega)
theorem nP(a:Int):vT (norm a)=vT a:=Tw _ _ (by unfold norm;omega)
def big(p q:Int):Int:=max (p.natAbs:Int) q.natAbs
def Db(a:Int):Prop:=(-84≤yJ (a+1)-yJ a∧yJ (a+1)-yJ a≤84)∧(-84≤vT (a+1)-vT a∧vT (a+1)-vT a≤84)
theorem Ur{a:Int}(h:0≤a)(h2:a<32400000): -84≤yJ (a+1)-yJ a∧yJ (a+1)-yJ a≤84:=by
 have hm:=Ko h (show a≤a+1 by omega) qg;refine⟨qg,?_⟩;rw[Uo h qg,Uo qg qg];by_cases h3:a<16200000
 ·have:=(Uq h h3).1;rw[JU qg,JU qg];omega
 ·have e1:=Vn (x:=32400000-a) qg qg;have e2:=Vn (x:=32400000-(a+1)) qg qg;rw[show 32400000-(32400000-a)=a from by omega]at e1;rw[show 32400000-(32400000-(a+1))=a+1 from by omega]at e2;rw[e1,e2];have:=(Uq (a:=32400000-(a+1)) qg qg).2;rw[show 32400000-(a+1)+1=32400000-a from by omega]at this;exact this
theorem dR{a:Int}(h:0≤a)(h2:a<32400000):Db a:=by
 refine⟨Ur h h2,?_⟩;have:=Ur (a:=32400000-(a+1)) qg qg;rw[show 32400000-(a+1)+1=32400000-a from by omega,bW,bW]at this;omega
theorem Db.turn{a:Int}(h:Db a):Db (a+32400000):=by
 unfold Db at*;rw[show a+32400000+1=a+1+32400000 from by omega,jS,jS,kf,kf];omega
theorem lip(a:Int):Db a:=by
 have hb:=jP a
 have e:Db (norm a):=by
  generalize norm a=n at*;by_cases h1:n<32400000
  ·exact dR hb.1 h1
  ·by_cases h2:n<64800000
   ·have:=(dR (a:=n-32400000) qg qg).turn
    rwa[show n-32400000+32400000=n from by omega]at this
   ·by_cases h3:n<97200000
    ·have:=(dR (a:=n-64800000) qg qg).turn.turn
     rwa[show n-64800000+32400000+32400000=n from by omega]at this
    ·have:=(dR (a:=n-97200000) qg qg).turn.turn.turn
     rwa[show n-97200000+32400000+32400000+32400000=n from by omega]at this
 unfold Db at*;rw[QW (norm a+1) (a+1) (by unfold norm;omega),Tw (norm a+1) (a+1) (by unfold norm;omega),nO,nP]at e;exact e
theorem Et:∀(k:Nat) (a:Int),(-(84*(k:Int))≤yJ (a+k)-yJ a∧yJ (a+k)-yJ a≤84*k)∧(-(84*(k:Int))≤vT (a+k)-vT a∧vT (a+k)-vT a≤84*k)
 |0,a=>by simp
 |k+1,a=>by
  have h:=Et k a;have h1:=lip (a+k);unfold Db at h1;rw[show a+((k+1:Nat):Int)=a+k+1 from by omega];omega
theorem YA(n d:Int)(hd:0<d):(kN 1 n d-1)*d<n∧n≤kN 1 n d*d:=by
 unfold kN;simp only[show(1:Nat)≠0 from by decide,if_false,if_true];have:=JC (-n) d hd;generalize(-n).fdiv d=k at*;have e1:(-k-1)*d= -(k*d)-d:=by grind
 have e2: -k*d= -(k*d):=by grind
 omega
def jM(r d:Int):Int:=kN 1 (r*yJ ((d.natAbs:Int)/2)) (vT ((d.natAbs:Int)/2))
def yM:List Int:=[0,0,0,0,0,0,0,0,0,0]
def tT(bx b_y x y r m n:Int):List Int×Int:=
 if 54000000<(zN x y).natAbs then(yM,10)else
 if jM r (zN x y)>m∨jM r (zN x y)>n then(yM,10)else
 if(zn bx b_y (jl x 64800000) (jM r (zN x y))).2.2≠0 then(yM,2)else
 if(zn bx b_y y (jM r (zN x y))).2.2≠0 then(yM,2)else
 if(zn (zn bx b_y (jl x 64800000) (jM r (zN x y))).1 (zn bx b_y (jl x 64800000) (jM r (zN x y))).2.1 (jl x (jU (zN x y) 32400000)) r).2.2≠0 then(yM,2)else
 ([(zn (zn bx b_y (jl x 64800000) (jM r (zN x y))).1 (zn bx b_y (jl x 64800000) (jM r (zN x y))).2.1 (jl x (jU (zN x y) 32400000)) r).1,
   (zn (zn bx b_y (jl x 64800000) (jM r (zN x y))).1 (zn bx b_y (jl x 64800000) (jM r (zN x y))).2.1 (jl x (jU (zN x y) 32400000)) r).2.1,
   r,jl x (-jU (zN x y) 32400000),zN x y,
   (zn bx b_y (jl x 64800000) (jM r (zN x y))).1,(zn bx b_y (jl x 64800000) (jM r (zN x y))).2.1,
   (zn bx b_y y (jM r (zN x y))).1,(zn bx b_y y (jM r (zN x y))).2.1,jM r (zN x y)],0)
def bY(ax ay bx b_y cx cy r:Int):List Int×Int:=
 if !(qw ax ay&&qw bx b_y&&qw cx cy)then(yM,1)else
 if r<1∨r>8000000 then(yM,2)else
 if(ax=bx∧ay=b_y)∨(bx=cx∧b_y=cy)then(yM,10)else
 tT bx b_y (yQ (bx-ax) (b_y-ay)) (yQ (cx-bx) (cy-b_y)) r (zk ax ay bx b_y) (zk bx b_y cx cy)
def YB(cx cy r px py:Int)(right:Bool):Int:=
 jl (yQ (px-cx) (py-cy)) (if right then-yQ (kE (yH cx cy px py-r*r).toNat) r else yQ (kE (yH cx cy px py-r*r).toNat) r)
def QX(cx cy r px py:Int)(right:Bool):Int×Int×Int:=
 if !(qw cx cy&&qw px py)then(0,0,1)else
 if r<1∨r>8000000 then(0,0,2)else
 if yH cx cy px py≤r*r then(0,0,10)else
 if(zn cx cy (YB cx cy r px py right) r).2.2≠0 then(0,0,2)else
 ((zn cx cy (YB cx cy r px py right) r).1,(zn cx cy (YB cx cy r px py right) r).2.1,0)
def JV(right:Bool)(x y:Int):Int:=if right then(if bf true x y=0 then 129600000 else bf true x y)else-(if bf false x y=0 then 129600000 else bf false x y)
def YC:List Int:=[0,0,0,0,0]
def yN(ax ay cx cy bx b_y:Int)(right:Bool):List Int×Int:=
 if !(qw ax ay&&qw cx cy&&qw bx b_y)then(YC,1)else
 if zk cx cy ax ay=0∨zk cx cy bx b_y=0∨zk cx cy ax ay-zk cx cy bx b_y>8∨zk cx cy bx b_y-zk cx cy ax ay>8 then(YC,10)else
 ([cx,cy,zk cx cy ax ay,yQ (ax-cx) (ay-cy),JV right (yQ (ax-cx) (ay-cy)) (yQ (bx-cx) (b_y-cy))],0)
theorem Zv{h:Int}(h0:0≤h)(h1:h≤27000000):277000000≤vT h:=by
 rw[←bW];have:=Ko (a:=5400000) (b:=32400000-h) qg qg qg;have e:277000000≤yJ 5400000:=by decide+kernel
 omega
theorem Tx{h:Int}(h0:0≤h)(h1:h≤32400000):0≤yJ h∧yJ h≤84*h:=by
 have:=Et h.toNat 0;have e:((h.toNat:Nat):Int)=h:=qg;rw[e,Int.zero_add,show yJ 0=0 from by decide+kernel]at this;have:=Zn h0 h1;rw[Uo h0 h1];rw[Uo h0 h1]at*;omega
theorem Kq{r d:Int}(hr:0≤r)(hd:d.natAbs≤54000000):
 (jM r d-1)*vT ((d.natAbs:Int)/2)<r*yJ ((d.natAbs:Int)/2)∧r*yJ ((d.natAbs:Int)/2)≤jM r d*vT ((d.natAbs:Int)/2)∧0≤jM r d:=by
 have hc:=Zv (h:=(d.natAbs:Int)/2) qg qg;have hs:=Tx (h:=(d.natAbs:Int)/2) qg qg;have h:=YA (r*yJ ((d.natAbs:Int)/2)) (vT ((d.natAbs:Int)/2)) qg;refine⟨h.1,h.2,?_⟩;unfold jM;have hp:0≤r*yJ ((d.natAbs:Int)/2):=Int.mul_nonneg hr hs.1;generalize kN 1 (r*yJ ((d.natAbs:Int)/2)) (vT ((d.natAbs:Int)/2))=l at*;apply Classical.byContradiction;intro hn;have:l*vT ((d.natAbs:Int)/2)≤(-1)*vT ((d.natAbs:Int)/2):=Int.mul_le_mul_of_nonneg_right qg qg;omega
theorem WF{r d:Int}(hr:0≤r)(hr8:r≤8000000)(hd:d.natAbs≤54000000):jM r d≤40000000:=by
 have h:=Kq hr hd;have hc:=Zv (h:=(d.natAbs:Int)/2) qg qg;have hs:=Qc ((d.natAbs:Int)/2);apply Classical.byContradiction;intro hn
 have e1:r*yJ ((d.natAbs:Int)/2)≤8000000*1073741824:=by
  have a:=Int.mul_le_mul_of_nonneg_left hs.2 hr;have b:r*1073741824≤8000000*1073741824:=Int.mul_le_mul_of_nonneg_right hr8 qg;omega
 have e2:40000000*vT ((d.natAbs:Int)/2)≤(jM r d-1)*vT ((d.natAbs:Int)/2):=Int.mul_le_mul_of_nonneg_right qg qg;omega
theorem WG(s n:Int)(hn:0<n):kN 2 (n*s) n=s:=by
 unfold kN;simp only[show(2:Nat)≠0 from by decide,show(2:Nat)≠1 from by decide,if_false];have e:s*(2*n)=2*(n*s):=by grind
 exact vD qg qg qg
theorem sI{cx cy r f s:Int}(h:xz cx cy r f s=true):zq cx cy r f s=kN 2 (r*s.natAbs) 20626481:=by unfold zq;rw[if_pos h]
theorem JW(cx cy r f s:Int):xz cx cy r f s=true↔(qw cx cy=true∧1≤r∧r≤8000000∧0≤f∧f<129600000∧ -129600000≤s∧s≤129600000):=by
 unfold xz;rw[Bool.and_eq_true,decide_eq_true_iff]
theorem xJ(cx cy r f s:Int):0≤zq cx cy r f s∧zq cx cy r f s≤60000000:=by
 unfold zq;split
 ·rename_i h;obtain⟨_,h1,h2,_,_,h3,h4⟩:=(JW _ _ _ _ _).1 h;rw[lL];have:0≤r*(s.natAbs:Int):=Int.mul_nonneg qg qg;have:r*(s.natAbs:Int)≤8000000*129600000:=Int.mul_le_mul h2 qg qg qg;omega
 ·omega
theorem Kr{px py c d:Int}(h:(zn px py c d).2.2=0):qw px py=true∧ -8000000≤d∧d≤8000000∧qw (px+Bl d c) (py+Bm d c)=true∧(zn px py c d).1=px+Bl d c∧(zn px py c d).2.1=py+Bm d c:=by
 unfold zn at h⊢;by_cases h1:qw px py=true
 ·rw[if_neg (by simp[h1])]at h⊢;by_cases h2:d>8000000∨d< -8000000
  ·rw[if_pos h2]at h;exact absurd h (fun h=>by cases h)
  ·rw[if_neg h2]at h⊢;by_cases h3:qw (px+Bl d c) (py+Bm d c)=true
   ·rw[if_pos h3];exact⟨h1,by omega,by omega,h3,rfl,rfl⟩
   ·rw[if_neg h3]at h;exact absurd h (fun h=>by cases h)
 ·rw[if_pos (by simp[h1])]at h;exact absurd h (fun h=>by cases h)
theorem Ty{l:List Int}{c:Int}(hc:c≠0)(h:((l,c):List Int×Int).2=0):False:=hc h
theorem WH{bx b_y x y r m n:Int}(h:(tT bx b_y x y r m n).2=0):
 (zN x y).natAbs≤54000000∧jM r (zN x y)≤m∧jM r (zN x y)≤n∧∃cx cy sx sy ex ey,
   (tT bx b_y x y r m n).1=[cx,cy,r,jl x (-jU (zN x y) 32400000),zN x y,sx,sy,ex,ey,jM r (zN x y)]∧
   sx=bx+Bl (jM r (zN x y)) (jl x 64800000)∧sy=b_y+Bm (jM r (zN x y)) (jl x 64800000)∧
   ex=bx+Bl (jM r (zN x y)) y∧ey=b_y+Bm (jM r (zN x y)) y∧
   cx=sx+Bl r (jl x (jU (zN x y) 32400000))∧cy=sy+Bm r (jl x (jU (zN x y) 32400000))∧
   qw cx cy=true∧qw sx sy=true∧qw ex ey=true:=by
 unfold tT at h⊢;by_cases h1:54000000<(zN x y).natAbs
 ·rw[if_pos h1]at h;exact(Ty qG h).elim
 rw[if_neg h1]at h⊢;by_cases h2:jM r (zN x y)>m∨jM r (zN x y)>n
 ·rw[if_pos h2]at h;exact(Ty qG h).elim
 rw[if_neg h2]at h⊢;by_cases h3:(zn bx b_y (jl x 64800000) (jM r (zN x y))).2.2≠0
 ·rw[if_pos h3]at h;exact(Ty qG h).elim
 rw[if_neg h3]at h⊢;by_cases h4:(zn bx b_y y (jM r (zN x y))).2.2≠0
 ·rw[if_pos h4]at h;exact(Ty qG h).elim
 rw[if_neg h4]at h⊢;by_cases h5:(zn (zn bx b_y (jl x 64800000) (jM r (zN x y))).1 (zn bx b_y (jl x 64800000) (jM r (zN x y))).2.1 (jl x (jU (zN x y) 32400000)) r).2.2≠0
 ·rw[if_pos h5]at h;exact(Ty qG h).elim
 rw[if_neg h5];obtain⟨a1,a2,a3,a4,a5,a6⟩:=Kr (Decidable.of_not_not h3);obtain⟨b1,b2,b3,b4,b5,b6⟩:=Kr (Decidable.of_not_not h4);obtain⟨c1,c2,c3,c4,c5,c6⟩:=Kr (Decidable.of_not_not h5);rw[a5,a6]at c1 c4 c5 c6;rw[a5,a6,b5,b6,c5,c6];exact⟨qg,qg,by omega,_,_,_,_,_,_,rfl,rfl,rfl,rfl,rfl,rfl,rfl,c4,a4,b4⟩
theorem Dc{ax ay bx b_y cx cy r v0 v1 v2 v3 v4 v5 v6 v7 v8 v9:Int}(h:bY ax ay bx b_y cx cy r=([v0,v1,v2,v3,v4,v5,v6,v7,v8,v9],0)):xz v0 v1 v2 v3 v4=true:=by
 have h0:(bY ax ay bx b_y cx cy r).2=0:=by rw[h]
 have h:=h.symm;unfold bY at h h0;by_cases h1:(!(qw ax ay&&qw bx b_y&&qw cx cy))=true
 ·rw[if_pos h1]at h0;exact(Ty qG h0).elim
 rw[if_neg h1]at h h0;by_cases h2:r<1∨r>8000000
 ·rw[if_pos h2]at h0;exact(Ty qG h0).elim
 rw[if_neg h2]at h h0;by_cases h3:(ax=bx∧ay=b_y)∨(bx=cx∧b_y=cy)
 ·rw[if_pos h3]at h0;exact(Ty qG h0).elim
 rw[if_neg h3]at h h0;obtain⟨g1,g2,g3,X,Y,sx,sy,ex,ey,g4,q1,q2,q3,q4,q5,q6,q7,q8,q9⟩:=WH h0;rw[←h]at g4;simp only[List.cons.injEq,and_true]at g4;obtain⟨rfl,rfl,rfl,rfl,rfl,rfl,rfl,rfl,rfl,rfl⟩:=g4;have hfb:=jP (qO ax ay bx b_y).1;exact(JW _ _ _ _ _).2 ⟨q7,by omega,by omega,(jP _).1,(jP _).2,by omega,qg⟩
def ZF(v b:Int):Int×Int:=
 if 1≤v∧v≤1000∧1≤b∧b≤3000 then
  (if(qL 1 (v*v*87431) (vT (b*3600)) (1000000*yJ (b*3600))).2=0∧(qL 1 (v*v*87431) (vT (b*3600)) (1000000*yJ (b*3600))).1≤8000000 then
    ((qL 1 (v*v*87431) (vT (b*3600)) (1000000*yJ (b*3600))).1,0)else(0,2))
 else(0,2)
def Ce(v b:Int):Int×Int:=
 if 1≤v∧v≤1000∧1≤b∧b≤3000 then qL 0 20626481000000 (yJ (b*3600)) (87431*v*vT (b*3600))else(0,2)
theorem JX{x y:Int}(h:qw x y=true): -2000000≤x∧x≤2000000∧ -2000000≤y∧y≤2000000:=(QP x y).1 h
theorem Rt(m:Int)(h:0<m):Qr m 0=0:=by
 unfold Qr;rw[rz (Ml m 0) Mm 0 (Nat.zero_le _) (.inl rfl) ?_]
 ·rfl
 ·intro d h1 h2;rw[pG]at h2;unfold Ml;refine decide_eq_false ?_;rw[Int.mul_zero];have:=Ko (a:=1) (b:=d) qg qg qg;have e:0<yJ 1:=by decide+kernel
  have:=Int.mul_pos (show 0<yJ d by omega) h;omega
def ui(c:UInt8):Bool:=(decide (65≤(c.toNat:Int))&&decide ((c.toNat:Int)≤90))||(decide (48≤(c.toNat:Int))&&decide ((c.toNat:Int)≤57))
def kh(l:List UInt8)(most:Int):Bool:=
 match l with
 | []=>false
 |c::r=>decide (((c::r).length:Int)≤most)&&(decide (65≤(c.toNat:Int))&&decide ((c.toNat:Int)≤90))&&(c::r).all ui
def tW(l:List UInt8):Bool:=decide (l.length=2)&&l.all ui
def Kt(b:UInt8):List UInt8→Option (List UInt8×List UInt8)
 | []=>none
 |c::l=>if c=b then some ([],l)else(Kt b l).map fun p=>(c::p.1,p.2)
def BH(l:List UInt8):Bool:=
 match Kt 47 l with
 |none=>false
 |some (a,b)=>kh a 6&&(kh b 6||tW b)
structure En where
 (gap:Bool) (ty:Int) (fx ct:ByteArray) (tn:Int) (ov:Bool) (crs dst rad tht lo hi spd rnp ex ey mx my sec:Int) (via:ByteArray)
def En.leg(x:En):List Value:=[.int .u8 x.ty,.string x.fx,.string x.ct,.int .u8 x.tn,.bool x.ov,Iv x.crs,Iv x.dst,Iv x.rad,Iv x.tht,Iv x.lo,Iv x.hi,Iv x.spd,Iv x.rnp]
def En.cells(x:En):List Value:=[.bool x.gap,.int .u8 x.ty,.string x.fx,.string x.ct,.int .u8 x.tn,.bool x.ov,Iv x.crs,Iv x.dst,Iv x.rad,Iv x.tht,Iv x.lo,Iv x.hi,Iv x.spd,Iv x.rnp,Iv x.ex,Iv x.ey,Iv x.mx,Iv x.my,.int .u8 x.sec,.string x.via]
def Us:List Int:=[0,1,9,25,9,71,71,16,50,16,146,17,49,17,53,53,53,53]
def zt(t:Int)(m:Nat):Bool:=(Us.getD t.toNat 0).toNat.testBit m
def kp(s:ByteArray)(used:Bool):Int:=if used then(if BH s.data.toList then 0 else 5)else if s.data.toList=[]then 0 else 1
def yT(n:Int)(used:Bool)(lo hi:Int):Int:=if used then(if n<lo∨n>hi then 2 else 0)else if n=0 then 0 else 1
def BI(t:Int):Bool:=decide (t=7∨t=11∨t=14)
def nQ(x:En):Int:=if x.lo< -200000∨x.lo>x.hi∨x.hi>6000000 then 2 else if BI x.ty=true∧x.lo= -200000 then 2 else if x.spd<0∨x.spd>1000∨x.rnp<0∨x.rnp>120000 then 2 else 0
def jW(x:En):Int:=
 if x.ty<1∨x.ty>17 then 17 else
 if kp x.fx (zt x.ty 0)≠0 then kp x.fx (zt x.ty 0)else
 if kp x.ct (zt x.ty 1)≠0 then kp x.ct (zt x.ty 1)else
 if(if zt x.ty 2 then decide (x.tn=1)||decide (x.tn=2)else decide (x.tn=0))=false then 1 else
 if(x.ov&& !zt x.ty 3)=true then 1 else
 if yT x.crs (zt x.ty 4) 0 129599999≠0 then yT x.crs (zt x.ty 4) 0 129599999 else
 if yT x.dst (zt x.ty 5) 1 2000000≠0 then yT x.dst (zt x.ty 5) 1 2000000 else
 if yT x.rad (zt x.ty 6) 1 2000000≠0 then yT x.rad (zt x.ty 6) 1 2000000 else
 if yT x.tht (zt x.ty 7) 0 129599999≠0 then yT x.tht (zt x.ty 7) 0 129599999 else nQ x
theorem yC{a:Int}(h:(a !=0)=true):a≠0:=by simpa using h
theorem jK{a:Int}(h:(a !=0)=false):¬a≠0:=by simpa using h
theorem Cf{x:En}(r1:1≤x.ty)(r2:x.ty≤17)(h:(kp x.fx (zt x.ty 0) !=0)=true):jW x=kp x.fx (zt x.ty 0):=by
 unfold jW;rw[if_neg qg,if_pos (yC h)]
theorem Cg{x:En}(r1:1≤x.ty)(r2:x.ty≤17)(a0:(kp x.fx (zt x.ty 0) !=0)=false)(h:(kp x.ct (zt x.ty 1) !=0)=true):jW x=kp x.ct (zt x.ty 1):=by
 unfold jW;rw[if_neg qg,if_neg (jK a0),if_pos (yC h)]
theorem Ch{x:En}(r1:1≤x.ty)(r2:x.ty≤17)(a0:(kp x.fx (zt x.ty 0) !=0)=false)(a1:(kp x.ct (zt x.ty 1) !=0)=false)(h:(if zt x.ty 2 then decide (x.tn=1)||decide (x.tn=2)else decide (x.tn=0))=false):jW x=1:=by
 unfold jW;rw[if_neg qg,if_neg (jK a0),if_neg (jK a1),if_pos h]
theorem Ci{x:En}(r1:1≤x.ty)(r2:x.ty≤17)(a0:(kp x.fx (zt x.ty 0) !=0)=false)(a1:(kp x.ct (zt x.ty 1) !=0)=false)(a2:(if zt x.ty 2 then decide (x.tn=1)||decide (x.tn=2)else decide (x.tn=0))=true)(h:(x.ov&& !zt x.ty 3)=true):jW x=1:=by
 unfold jW;rw[if_neg qg,if_neg (jK a0),if_neg (jK a1),if_neg (by rw[a2];simp),if_pos h]
theorem Cj{x:En}(r1:1≤x.ty)(r2:x.ty≤17)(a0:(kp x.fx (zt x.ty 0) !=0)=false)(a1:(kp x.ct (zt x.ty 1) !=0)=false)(a2:(if zt x.ty 2 then decide (x.tn=1)||decide (x.tn=2)else decide (x.tn=0))=true)(a3:(x.ov&& !zt x.ty 3)=false)(h:(yT x.crs (zt x.ty 4) 0 129599999 !=0)=true):jW x=yT x.crs (zt x.ty 4) 0 129599999:=by
 unfold jW;rw[if_neg qg,if_neg (jK a0),if_neg (jK a1),if_neg (by rw[a2];simp),if_neg (by rw[a3];simp),if_pos (yC h)]
theorem Ck{x:En}(r1:1≤x.ty)(r2:x.ty≤17)(a0:(kp x.fx (zt x.ty 0) !=0)=false)(a1:(kp x.ct (zt x.ty 1) !=0)=false)(a2:(if zt x.ty 2 then decide (x.tn=1)||decide (x.tn=2)else decide (x.tn=0))=true)(a3:(x.ov&& !zt x.ty 3)=false)(a4:(yT x.crs (zt x.ty 4) 0 129599999 !=0)=false)(h:(yT x.dst (zt x.ty 5) 1 2000000 !=0)=true):jW x=yT x.dst (zt x.ty 5) 1 2000000:=by
 unfold jW;rw[if_neg qg,if_neg (jK a0),if_neg (jK a1),if_neg (by rw[a2];simp),if_neg (by rw[a3];simp),if_neg (jK a4),if_pos (yC h)]
theorem Cl{x:En}(r1:1≤x.ty)(r2:x.ty≤17)(a0:(kp x.fx (zt x.ty 0) !=0)=false)(a1:(kp x.ct (zt x.ty 1) !=0)=false)(a2:(if zt x.ty 2 then decide (x.tn=1)||decide (x.tn=2)else decide (x.tn=0))=true)(a3:(x.ov&& !zt x.ty 3)=false)(a4:(yT x.crs (zt x.ty 4) 0 129599999 !=0)=false)(a5:(yT x.dst (zt x.ty 5) 1 2000000 !=0)=false)(h:(yT x.rad (zt x.ty 6) 1 2000000 !=0)=true):jW x=yT x.rad (zt x.ty 6) 1 2000000:=by
 unfold jW;rw[if_neg qg,if_neg (jK a0),if_neg (jK a1),if_neg (by rw[a2];simp),if_neg (by rw[a3];simp),if_neg (jK a4),if_neg (jK a5),if_pos (yC h)]
theorem Cm{x:En}(r1:1≤x.ty)(r2:x.ty≤17)(a0:(kp x.fx (zt x.ty 0) !=0)=false)(a1:(kp x.ct (zt x.ty 1) !=0)=false)(a2:(if zt x.ty 2 then decide (x.tn=1)||decide (x.tn=2)else decide (x.tn=0))=true)(a3:(x.ov&& !zt x.ty 3)=false)(a4:(yT x.crs (zt x.ty 4) 0 129599999 !=0)=false)(a5:(yT x.dst (zt x.ty 5) 1 2000000 !=0)=false)(a6:(yT x.rad (zt x.ty 6) 1 2000000 !=0)=false)(h:(yT x.tht (zt x.ty 7) 0 129599999 !=0)=true):jW x=yT x.tht (zt x.ty 7) 0 129599999:=by
 unfold jW;rw[if_neg qg,if_neg (jK a0),if_neg (jK a1),if_neg (by rw[a2];simp),if_neg (by rw[a3];simp),if_neg (jK a4),if_neg (jK a5),if_neg (jK a6),if_pos (yC h)]
theorem Tz{x:En}(r1:1≤x.ty)(r2:x.ty≤17)(a0:(kp x.fx (zt x.ty 0) !=0)=false)(a1:(kp x.ct (zt x.ty 1) !=0)=false)(a2:(if zt x.ty 2 then decide (x.tn=1)||decide (x.tn=2)else decide (x.tn=0))=true)(a3:(x.ov&& !zt x.ty 3)=false)(a4:(yT x.crs (zt x.ty 4) 0 129599999 !=0)=false)(a5:(yT x.dst (zt x.ty 5) 1 2000000 !=0)=false)(a6:(yT x.rad (zt x.ty 6) 1 2000000 !=0)=false)(a7:(yT x.tht (zt x.ty 7) 0 129599999 !=0)=false):jW x=nQ x:=by
 unfold jW;rw[if_neg qg,if_neg (jK a0),if_neg (jK a1),if_neg (by rw[a2];simp),if_neg (by rw[a3];simp),if_neg (jK a4),if_neg (jK a5),if_neg (jK a6),if_neg (jK a7)]
structure Tk where
 (k ax ay bx b_y cx cy r f s ci co len n:Int) (g:Bool)
def Tk.cells(t:Tk):List Value:=[.int .u8 t.k,Iv t.ax,Iv t.ay,Iv t.bx,Iv t.b_y,Iv t.cx,Iv t.cy,Iv t.r,Iv t.f,Iv t.s,Iv t.ci,Iv t.co,Iv t.len,Iv t.n,.bool t.g]
abbrev tX(k ax ay bx b_y cx cy r f s ci co len n:Int)(g:Bool):List Value:=[.int .u8 k,Iv ax,Iv ay,Iv bx,Iv b_y,Iv cx,Iv cy,Iv r,Iv f,Iv s,Iv ci,Iv co,Iv len,Iv n,.bool g]
abbrev Tk.cX(x:Tk):List Value:=tX x.k x.ax x.ay x.bx x.b_y x.cx x.cy x.r x.f x.s x.ci x.co x.len x.n x.g
def Tk.zero:Tk:=⟨0,0,0,0,0,0,0,0,0,0,0,0,0,0,false⟩
def av(k ax ay bx b_y c d:Int):Tk:=⟨k,ax,ay,bx,b_y,0,0,0,0,0,c,c,d,0,false⟩
def zF(ax ay bx b_y c:Int):Tk:=if ax=bx∧ay=b_y then av 1 ax ay bx b_y c 0 else av 1 ax ay bx b_y (qO ax ay bx b_y).1 (zk ax ay bx b_y)
def sJ(ax ay bx b_y:Int):Int:=if ax=bx∧ay=b_y then 0 else zk ax ay bx b_y
theorem kI(ax ay bx b_y c k:Int):{zF ax ay bx b_y c with ci:=k,co:=k}=av 1 ax ay bx b_y k (sJ ax ay bx b_y):=by
 unfold zF sJ;split<;>rfl
def bi(ax ay c l:Int):Tk×Int:=
 if(zn ax ay c l).2.2=0 then(av 1 ax ay (zn ax ay c l).1 (zn ax ay c l).2.1 c l,0)else(Tk.zero,(zn ax ay c l).2.2)
theorem jo{cs:List Value}{e:Int}{t:Tk}{p:Tk×Int}(hp:p=(t,e))(hc:cs=t.cells):Ending.returned (.tuple #[.agg cs.toArray,Iv e])= .returned (.tuple #[.agg p.1.cells.toArray,Iv p.2]):=by subst hc hp;rfl
def kJ(spd bank alt gr:Int):Int:=if spd<1∨spd>1000∨bank<1∨bank>3000∨alt< -200000∨alt>6000000∨gr<1∨gr>100000 then 2 else 0
def Vo(ax ay bx b_y px py:Int):Bool:=decide ((Kb ax ay bx b_y px py).2.1<0)
def nR(ax ay c bx b_y:Int):Tk:=av 1 ax ay bx b_y c (zk ax ay bx b_y)
def ux(fx fy c:Int)(x:En):Tk×Int:=
 let q:=zn x.ex x.ey (x.crs+64800000) 60000
 if q.2.2≠0 then(Tk.zero,q.2.2)else
 if Bj q.1 q.2.1 x.ex x.ey fx fy≥0 then(Tk.zero,10)else
 let o:=Kb q.1 q.2.1 x.ex x.ey fx fy
 if o.2.2≠0 then(Tk.zero,o.2.2)else
 if o.1≥ -8∧o.1≤8 then(zF fx fy x.ex x.ey c,0)else
 let p:=Kc q.1 q.2.1 x.ex x.ey fx fy
 if p.2.2≠0 then(Tk.zero,p.2.2)else
 (av 1 p.1 p.2.1 x.ex x.ey x.crs (sJ p.1 p.2.1 x.ex x.ey),0)
def Qj(alt lo gr:Int):Int:=if alt<lo then kN 1 ((lo-alt)*6000) gr else 0
def kq(fx fy alt:Int)(x:En)(gr:Int):Tk×Int:=if Qj alt x.lo gr>8000000 then(Tk.zero,2)else bi fx fy x.crs (Qj alt x.lo gr)
def vV(fx fy:Int)(x:En):Tk×Int:=
 let p:=zn fx fy x.crs 60000
 if p.2.2≠0 then(Tk.zero,p.2.2)else
 let o:=Kb fx fy p.1 p.2.1 x.mx x.my
 if o.2.2≠0 then(Tk.zero,o.2.2)else
 if o.1>x.dst∨o.1< -x.dst then(Tk.zero,10)else
 if¬(o.2.1-kE (x.dst*x.dst-o.1*o.1).toNat<0)then bi fx fy x.crs (o.2.1-kE (x.dst*x.dst-o.1*o.1).toNat)else
 if o.2.1+kE (x.dst*x.dst-o.1*o.1).toNat<0 then(Tk.zero,10)else bi fx fy x.crs (o.2.1+kE (x.dst*x.dst-o.1*o.1).toNat)
def uQ(fx fy:Int)(x:En):Tk×Int:=
 let p:=zn fx fy x.crs 60000
 if p.2.2≠0 then(Tk.zero,p.2.2)else
 let r:=zn x.mx x.my x.tht 60000
 if r.2.2≠0 then(Tk.zero,r.2.2)else
 let b:=YP fx fy p.1 p.2.1 x.mx x.my r.1 r.2.1
 if b.2.2≠0 then(Tk.zero,b.2.2)else
 if(Vo fx fy p.1 p.2.1 b.1 b.2.1||Vo x.mx x.my r.1 r.2.1 b.1 b.2.1)=true then(Tk.zero,10)else
 (nR fx fy x.crs b.1 b.2.1,0)
def kK(fx fy:Int)(x y:En):Tk×Int:=
 if y.gap=true∨y.ty≠3 then(Tk.zero,10)else
 let p:=zn fx fy x.crs 60000
 if p.2.2≠0 then(Tk.zero,p.2.2)else
 let q:=zn y.ex y.ey (jl y.crs 64800000) 60000
 if q.2.2≠0 then(Tk.zero,q.2.2)else
 let b:=YP fx fy p.1 p.2.1 q.1 q.2.1 y.ex y.ey
 if b.2.2≠0 then(Tk.zero,b.2.2)else
 if(Vo fx fy p.1 p.2.1 b.1 b.2.1||decide (Bj q.1 q.2.1 y.ex y.ey b.1 b.2.1≥0))=true then(Tk.zero,10)else
 (nR fx fy x.crs b.1 b.2.1,0)
theorem Ru(n:Nat):kE n≤n:=by
 have h:=(bC n).1;rcases Nat.eq_zero_or_pos (kE n)with e|e
 ·omega
 ·exact Nat.le_trans (Nat.le_mul_of_pos_right _ e) h
theorem dS(n s:Int): -(n.natAbs:Int)≤YV n s∧YV n s≤n.natAbs:=by
 have hsq:kE (n*n/s).toNat≤n.natAbs:=by
  apply Classical.byContradiction;intro hh;have h1:=(bC (n*n/s).toNat).1;have h2:(n.natAbs+1)*(n.natAbs+1)≤kE (n*n/s).toNat*kE (n*n/s).toNat:=Nat.mul_le_mul qg qg
  have h3:(n*n/s).toNat≤n.natAbs*n.natAbs:=by
   have e:n*n=((n.natAbs*n.natAbs:Nat):Int):=by rw[Int.natCast_mul];exact(Int.natAbs_mul_self).symm
   have h4:n*n/s≤n*n:=by
    rw[e];exact Int.ediv_le_self _ (Int.natCast_nonneg _)
   rw[e]at h4⊢;omega
  have h5:(n.natAbs+1)*(n.natAbs+1)=n.natAbs*n.natAbs+2*n.natAbs+1:=by grind
  omega
 unfold YV;split<;>omega
theorem Ut{a b k:Int}(ha: -k≤a∧a≤k)(hb: -k≤b∧b≤k)(hk:0≤k): -(k*k)≤a*b∧a*b≤k*k:=by
 have h:(a*b).natAbs≤k.natAbs*k.natAbs:=by
  rw[Int.natAbs_mul];exact Nat.mul_le_mul qg qg
 have e:((k.natAbs*k.natAbs:Nat):Int)=k*k:=by rw[Int.natCast_mul];exact Int.natAbs_mul_self
 have h2:((a*b).natAbs:Int)≤k*k:=by rw[←e];omega
 omega
theorem Rv(ax ay bx b_y px py:Int):(-100000000000000≤(Kb ax ay bx b_y px py).1∧(Kb ax ay bx b_y px py).1≤100000000000000)∧(-100000000000000≤(Kb ax ay bx b_y px py).2.1∧(Kb ax ay bx b_y px py).2.1≤100000000000000):=by
 unfold Kb;split
 ·simp
 ·rename_i hv;split
  ·simp
  ·have hv2:(qw ax ay=true∧qw bx b_y=true)∧qw px py=true:=by simpa using hv
   have h1:=(QP _ _).1 hv2.1.1;have h2:=(QP _ _).1 hv2.1.2;have h3:=(QP _ _).1 hv2.2;have p1:=Ut (a:=bx-ax) (b:=py-ay) (k:=4000000) qg qg qg;have p2:=Ut (a:=b_y-ay) (b:=px-ax) (k:=4000000) qg qg qg;have p3:=Ut (a:=bx-ax) (b:=px-ax) (k:=4000000) qg qg qg;have p4:=Ut (a:=b_y-ay) (b:=py-ay) (k:=4000000) qg qg qg;have l1:=dS (-((bx-ax)*(py-ay)-(b_y-ay)*(px-ax))) (yH ax ay bx b_y);have l2:=dS ((bx-ax)*(px-ax)+(b_y-ay)*(py-ay)) (yH ax ay bx b_y);dsimp only;generalize YV (-((bx-ax)*(py-ay)-(b_y-ay)*(px-ax))) (yH ax ay bx b_y)=A at*;generalize YV ((bx-ax)*(px-ax)+(b_y-ay)*(py-ay)) (yH ax ay bx b_y)=B at*;generalize(bx-ax)*(py-ay)=q1 at*;generalize(b_y-ay)*(px-ax)=q2 at*;generalize(bx-ax)*(px-ax)=q3 at*;generalize(b_y-ay)*(py-ay)=q4 at*;omega
theorem Cn{n g:Int}(hn:0≤n)(hg:1≤g):0≤kN 1 n g∧kN 1 n g≤n:=by
 have h:=YA n g qg;generalize kN 1 n g=r at*;constructor
 ·apply Classical.byContradiction;intro hr;have:r*g≤(-1)*g:=Int.mul_le_mul_of_nonneg_right qg qg;omega
 ·apply Classical.byContradiction;intro hr;have h1:n*g≤(r-1)*g:=Int.mul_le_mul_of_nonneg_right qg qg;have h2:n*1≤n*g:=Int.mul_le_mul_of_nonneg_left hg hn;omega
theorem sK{a b c:Int}(hn:0≤a*b)(hn2:a*b≤1000000000000)(hc:1≤c):qL 1 a b c=(kN 1 (a*b) c,0):=by
 have h:=Cn hn hc;unfold qL;rw[if_neg qg,if_pos (by unfold Qy;rw[decide_eq_true_iff];omega)]
theorem Dd{alt lo gr:Int}(h:alt<lo)(h1: -200000≤alt)(h2:lo≤6000000)(hg:1≤gr):qL 1 ((lo-alt)*6000) 1 gr=(Qj alt lo gr,0):=by
 rw[sK qg qg hg];unfold Qj;rw[if_pos h,Int.mul_one]
theorem sL{alt lo gr:Int}(h1: -200000≤alt)(h2:lo≤6000000)(hg:1≤gr):0≤Qj alt lo gr∧Qj alt lo gr≤100000000000:=by
 unfold Qj;split
 ·have:=Cn (n:=(lo-alt)*6000) (g:=gr) qg hg;omega
 ·omega
theorem YR(ax ay cx cy bx b_y:Int)(right:Bool):∃v0 v1 v2 v3 v4 e0:Int,yN ax ay cx cy bx b_y right=([v0,v1,v2,v3,v4],e0)∧0≤v2∧v2≤6000000:=by
 unfold yN;split
 ·exact⟨0,0,0,0,0,1,rfl,by omega,qg⟩
 ·split
  ·exact⟨0,0,0,0,0,10,rfl,by omega,qg⟩
  ·have h:=bD cx cy ax ay;exact⟨_,_,_,_,_,_,rfl,by omega,qg⟩
def vA(fx fy:Int)(x:En):Tk×Int:=
 if(yN fx fy x.mx x.my x.ex x.ey (decide (x.tn=2))).2≠0 then(Tk.zero,(yN fx fy x.mx x.my x.ex x.ey (decide (x.tn=2))).2)else
 match(yN fx fy x.mx x.my x.ex x.ey (decide (x.tn=2))).1 with
 | [cx,cy,r,f,s]=>
   if r-x.rad>60∨r-x.rad< -60 then(Tk.zero,10)else
   if(jJ cx cy r f s 0).2.2.2≠0 then(Tk.zero,(jJ cx cy r f s 0).2.2.2)else
   if(jJ cx cy r f s (zq cx cy r f s)).2.2.2≠0 then(Tk.zero,(jJ cx cy r f s (zq cx cy r f s)).2.2.2)else
   (⟨2,fx,fy,x.ex,x.ey,cx,cy,r,f,s,(jJ cx cy r f s 0).2.2.1,(jJ cx cy r f s (zq cx cy r f s)).2.2.1,zq cx cy r f s,0,false⟩,0)
 |_=>(Tk.zero,0)
def Qt(ax ay c:Int):Tk×Int:=if(bi ax ay c 300000).2=0 then({(bi ax ay c 300000).1 with k:=4},0)else bi ax ay c 300000
def vE(c:Int)(x:En):Tk:=⟨3,x.ex,x.ey,x.ex,x.ey,0,0,0,0,0,c,if x.ty=17 then norm (x.crs+64800000)else x.crs,0,0,false⟩
def uT(fx fy c alt:Int)(x y:En)(gr:Int):Tk×Int:=
 if x.ty=1 then(zF x.ex x.ey x.ex x.ey c,0)else
 if x.ty=2∨x.ty=4 then(zF fx fy x.ex x.ey c,0)else
 if x.ty=3 then ux fx fy c x else
 if x.ty=5∨x.ty=6 then vA fx fy x else
 if x.ty=7 then kq fx fy alt x gr else
 if x.ty=11 then kq x.ex x.ey alt x gr else
 if x.ty=12 then bi x.ex x.ey x.crs x.dst else
 if x.ty=13 then Qt x.ex x.ey x.crs else
 if x.ty=8 then vV fx fy x else
 if x.ty=10 then uQ fx fy x else
 if x.ty=9 then kK fx fy x y else(vE c x,0)
def qB(fx fy c alt:Int)(x y:En)(spd bank oalt gr:Int):Tk×Int:=
 if kJ spd bank oalt gr≠0 then(Tk.zero,kJ spd bank oalt gr)else
 if x.gap=true then(Tk.zero,17)else
 if jW x≠0 then(Tk.zero,jW x)else
 if(qw fx fy&&qw x.ex x.ey&&qw x.mx x.my)=false then(Tk.zero,1)else
 if c<0∨c≥129600000∨alt< -200000∨alt>6000000 then(Tk.zero,2)else uT fx fy c alt x y gr
theorem dU{n lo hi:Int}{u:Bool}(h:yT n u lo hi=0):(u=true→lo≤n∧n≤hi)∧(u=false→n=0):=by
 unfold yT at h;rcases u with _|_
 ·refine⟨(fun h=>by cases h),fun _=> ?_⟩;apply Classical.byContradiction;intro hn;rw[if_neg jL,if_neg hn]at h;cases h
 ·refine⟨fun _=> ?_,(fun h=>by cases h)⟩;apply Classical.byContradiction;intro hn;rw[if_pos rfl,if_pos qg]at h;cases h
theorem JY{n lo hi:Int}{u:Bool}(h:yT n u lo hi=0)(hlo:lo≤1)(hlo2:0≤lo)(hhi:1≤hi):0≤n∧n≤hi:=by
 have h1:=dU h;rcases u with _|_
 ·have:=h1.2 rfl;omega
 ·have:=h1.1 rfl;omega
theorem kr{x:En}(h:jW x=0):(1≤x.ty∧x.ty≤17)∧(0≤x.crs∧x.crs≤129599999)∧(0≤x.dst∧x.dst≤2000000)∧(0≤x.rad∧x.rad≤2000000)∧(0≤x.tht∧x.tht≤129599999)∧
 (-200000≤x.lo∧x.lo≤x.hi∧x.hi≤6000000)∧(zt x.ty 2=true→x.tn=1∨x.tn=2):=by
 have r:1≤x.ty∧x.ty≤17:=by
  apply Classical.byContradiction;intro hn;unfold jW at h;rw[if_pos qg]at h;cases h
 obtain⟨r1,r2⟩:=r
 have a1:(kp x.fx (zt x.ty 0) !=0)=false:=by
  rcases hh:(kp x.fx (zt x.ty 0) !=0)with _|_
  ·rfl
  ·have:=Cf r1 r2 hh;exact absurd (this.symm.trans h) (yC hh)
 have a2:(kp x.ct (zt x.ty 1) !=0)=false:=by
  rcases hh:(kp x.ct (zt x.ty 1) !=0)with _|_
  ·rfl
  ·have:=Cg r1 r2 a1 hh;exact absurd (this.symm.trans h) (yC hh)
 have a3:(if zt x.ty 2 then decide (x.tn=1)||decide (x.tn=2)else decide (x.tn=0))=true:=by
  rcases hh:(if zt x.ty 2 then decide (x.tn=1)||decide (x.tn=2)else decide (x.tn=0))with _|_
  ·have:=Ch r1 r2 a1 a2 hh;omega
  ·rfl
 have a4:(x.ov&& !zt x.ty 3)=false:=by
  rcases hh:(x.ov&& !zt x.ty 3)with _|_
  ·rfl
  ·have:=Ci r1 r2 a1 a2 a3 hh;omega
 have a5:(yT x.crs (zt x.ty 4) 0 129599999 !=0)=false:=by
  rcases hh:(yT x.crs (zt x.ty 4) 0 129599999 !=0)with _|_
  ·rfl
  ·have:=Cj r1 r2 a1 a2 a3 a4 hh;exact absurd (this.symm.trans h) (yC hh)
 have a6:(yT x.dst (zt x.ty 5) 1 2000000 !=0)=false:=by
  rcases hh:(yT x.dst (zt x.ty 5) 1 2000000 !=0)with _|_
  ·rfl
  ·have:=Ck r1 r2 a1 a2 a3 a4 a5 hh;exact absurd (this.symm.trans h) (yC hh)
 have a7:(yT x.rad (zt x.ty 6) 1 2000000 !=0)=false:=by
  rcases hh:(yT x.rad (zt x.ty 6) 1 2000000 !=0)with _|_
  ·rfl
  ·have:=Cl r1 r2 a1 a2 a3 a4 a5 a6 hh;exact absurd (this.symm.trans h) (yC hh)
 have a8:(yT x.tht (zt x.ty 7) 0 129599999 !=0)=false:=by
  rcases hh:(yT x.tht (zt x.ty 7) 0 129599999 !=0)with _|_
  ·rfl
  ·have:=Cm r1 r2 a1 a2 a3 a4 a5 a6 a7 hh;exact absurd (this.symm.trans h) (yC hh)
 have a9:=Tz r1 r2 a1 a2 a3 a4 a5 a6 a7 a8;rw[h]at a9;have z:∀{a:Int},(a !=0)=false→a=0:=fun h=>by simpa using h
 refine⟨⟨r1,r2⟩,JY (z a5) qg qg qg,JY (z a6) qg qg qg,JY (z a7) qg qg qg,JY (z a8) qg qg qg,?_,?_⟩
 ·unfold nQ at a9;split at a9
  ·cases a9
  ·omega
 ·intro hu;rw[hu,if_pos rfl]at a3;simpa using a3
theorem ku{s b a g:Int}(h:kJ s b a g=0):(1≤s∧s≤1000)∧(1≤b∧b≤3000)∧(-200000≤a∧a≤6000000)∧(1≤g∧g≤100000):=by
 unfold kJ at h;split at h
 ·cases h
 ·omega
section
variable{c:Bool}{ax ay bx b_y cx cy r f s L px py track speed o al e X Y C E:Int}{R:Int×Int}
end
structure El where
 c:Bool
 ax:Int
 ay:Int
 bx:Int
 b_y:Int
 cx:Int
 cy:Int
 r:Int
 f:Int
 s:Int
 L:Int
 n:Int
 g:Bool
def sM(px py qx qy:Int):Bool:=decide (16<((px-qx).natAbs:Int)∨16<((py-qy).natAbs:Int))
def ZI(cx cy r f s al px py:Int):Bool:=decide ((jJ cx cy r f s al).2.2.2=0)&&sM px py (jJ cx cy r f s al).1 (jJ cx cy r f s al).2.1
def ZJ(c:Bool)(ax ay bx b_y cx cy r f s L:Int):Int:=
 if !(qw ax ay&&qw bx b_y)then 1 else
 if c then
  (if !xz cx cy r f s then 1 else if L<1∨¬L=zq cx cy r f s then 4 else
    if ZI cx cy r f s 0 ax ay||ZI cx cy r f s (zq cx cy r f s) bx b_y then 10 else 0)
 else(if¬(cx=0∧cy=0∧r=0∧f=0∧s=0)then 1 else if L<1∨¬L=zk ax ay bx b_y then 4 else 0)
def El.err(x:El):Int:=ZJ x.c x.ax x.ay x.bx x.b_y x.cx x.cy x.r x.f x.s x.L
def QY(len:Int):Bool→Int→Int→Int→Int→List El→Int
 |_,_,_,_,sum,[]=>if len=sum then 0 else 4
 |first,en,bx,b_y,sum,x::l=>
  if¬x.err=0 then x.err else
  if x.n<en∨(first=true∧x.g=true)then 9 else
  if first=false∧x.g=false∧¬(x.ax=bx∧x.ay=b_y)then 10 else
  QY len false x.n x.bx x.b_y (sum+x.L) l
def gk(l:List El)(len:Int):Int:=if 500<l.length then 3 else QY len true 0 0 0 0 l
theorem TC{len en bx b_y sum:Int}{f:Bool}:QY len f en bx b_y sum []=if len=sum then 0 else 4:=by unfold QY;rfl
theorem Zw{len en bx b_y sum:Int}{f:Bool}{x:El}{l:List El}:QY len f en bx b_y sum (x::l)=
 if¬x.err=0 then x.err else if x.n<en∨(f=true∧x.g=true)then 9 else if f=false∧x.g=false∧¬(x.ax=bx∧x.ay=b_y)then 10 else QY len false x.n x.bx x.b_y (sum+x.L) l:=by
 rw[QY]
theorem WI{c:Bool}{ax ay bx b_y cx cy r f s L:Int}(h:ZJ c ax ay bx b_y cx cy r f s L=0):1≤L∧L≤60000000:=by
 have d:=bD ax ay bx b_y;have m:=xJ cx cy r f s;unfold ZJ at h
 (repeat' split at h)<;>first|(cases h;done)|(constructor<;>omega)
set_option linter.unusedSimpArgs false
theorem YD{len:Int}:∀{l:List El} {f:Bool} {en bx b_y sum:Int},QY len f en bx b_y sum l=0→∀x∈l,x.err=0
 | [],_,_,_,_,_,_,x,hx=>by cases hx
 |y::l,f,en,bx,b_y,sum,h,x,hx=>by
  rw[Zw]at h;by_cases h1:y.err=0
  ·rw[if_neg (by simp[h1])]at h;by_cases h2:y.n<en∨(f=true∧y.g=true)
   ·rw[if_pos h2]at h;cases h
   ·rw[if_neg h2]at h;by_cases h3:f=false∧y.g=false∧¬(y.ax=bx∧y.ay=b_y)
    ·rw[if_pos h3]at h;cases h
    ·rw[if_neg h3]at h;rcases List.mem_cons.1 hx with rfl|hx
     ·exact h1
     ·exact YD h x hx
  ·rw[if_pos h1]at h;exact absurd h h1
theorem nS{l:List El}{len:Int}(h:gk l len=0){k:Nat}{x:El}(hx:l[k]? =some x):1≤x.L∧x.L≤60000000:=by
 unfold gk at h;by_cases h5:500<l.length
 ·rw[if_pos h5]at h;cases h
 ·rw[if_neg h5]at h;exact WI (YD h x (List.mem_of_getElem? hx))
def vW:List El→Int
 | []=>0
 |x::l=>x.L+vW l
theorem QZ:vW []=0:=rfl
theorem vF(x:El)(l:List El):vW (x::l)=x.L+vW l:=rfl
theorem dV{len:Int}:∀{l:List El} {f:Bool} {en bx b_y sum:Int},QY len f en bx b_y sum l=0→
 (∀(i:Nat) (x:El),l[i]? =some x→en≤x.n)∧
 (∀(i:Nat) (x y:El),l[i]? =some x→l[i+1]? =some y→x.n≤y.n∧(y.g=false→y.ax=x.bx∧y.ay=x.b_y))∧
 (∀x:El,l[0]? =some x→(f=true→x.g=false))∧len=sum+vW l
 | [],f,en,bx,b_y,sum,h=>by
   rw[TC]at h;split at h
   ·rename_i hl;exact⟨jL,jL,by simp,by rw[QZ];omega⟩
   ·cases h
 |z::l,f,en,bx,b_y,sum,h=>by
  rw[Zw]at h;by_cases h1:z.err=0
  ·rw[if_neg (by simp[h1])]at h;by_cases h2:z.n<en∨(f=true∧z.g=true)
   ·rw[if_pos h2]at h;cases h
   ·rw[if_neg h2]at h;by_cases h3:f=false∧z.g=false∧¬(z.ax=bx∧z.ay=b_y)
    ·rw[if_pos h3]at h;cases h
    ·rw[if_neg h3]at h;obtain⟨a,b,c,d⟩:=dV h
     have h4:f=true→z.g=false:=fun hf=>by
      cases hg:z.g with
      |false=>rfl
      |true=>exact absurd (Or.inr ⟨hf,hg⟩) h2
     have h5:en≤z.n:=qg;refine⟨?_,?_,?_,?_⟩
     ·intro i x hx
      cases i with
      |zero=>simp at hx;subst hx;exact h5
      |succ i=>simp at hx;exact Int.le_trans h5 (a i x hx)
     ·intro i x y hx hy
      cases i with
      |zero=>
       simp at hx hy;subst hx;refine⟨a 0 y hy,fun hg=> ?_⟩;have:=chkG_first h y hy;exact this hg
      |succ i=>simp at hx hy;exact b i x y hx hy
     ·intro x hx;simp at hx;subst hx;exact h4
     ·rw[vF];omega
  ·rw[if_pos h1]at h;exact absurd h h1
where
 chkG_first {len:Int} {l:List El} {en bx b_y sum:Int} (h:QY len false en bx b_y sum l=0) (y:El) (hy:l[0]? =some y) (hg:y.g=false):y.ax=bx∧y.ay=b_y:=by
  cases l with
  |nil=>simp at hy
  |cons z l=>
   simp at hy;subst hy;rw[Zw]at h;by_cases h1:z.err=0
   ·rw[if_neg (by simp[h1])]at h;by_cases h2:z.n<en∨(false=true∧z.g=true)
    ·rw[if_pos h2]at h;cases h
    ·rw[if_neg h2]at h;by_cases h3:false=false∧z.g=false∧¬(z.ax=bx∧z.ay=b_y)
     ·rw[if_pos h3]at h;cases h
     ·rcases Classical.em (z.ax=bx∧z.ay=b_y)with h6|h6
      ·exact h6
      ·exact absurd ⟨rfl,hg,h6⟩ h3
   ·rw[if_pos h1]at h;exact absurd h h1
structure Rw(l:List El)(len:Int):Prop where
 short:l.length≤500
 err:∀(i:Nat) (x:El),l[i]? =some x→x.err=0
 low:∀(i:Nat) (x:El),l[i]? =some x→0≤x.n
 rise:∀(i:Nat) (x y:El),l[i]? =some x→l[i+1]? =some y→x.n≤y.n
 meet:∀(i:Nat) (x y:El),l[i]? =some x→l[i+1]? =some y→y.g=false→y.ax=x.bx∧y.ay=x.b_y
 first:∀x:El,l[0]? =some x→x.g=false
 sum:len=vW l
theorem YE{l:List El}{len:Int}(h:gk l len=0):Rw l len:=by
 unfold gk at h;by_cases h5:500<l.length
 ·rw[if_pos h5]at h;cases h
 ·rw[if_neg h5]at h;obtain⟨a,b,c,d⟩:=dV h;exact⟨qg,fun i x hx=>YD h x (List.mem_of_getElem? hx),a,fun i x y hx hy=>(b i x y hx hy).1,fun i x y hx hy=>(b i x y hx hy).2,fun x hx=>c x hx rfl,qg⟩
theorem ZK{ax ay bx b_y cx cy r f s L:Int}(h:ZJ false ax ay bx b_y cx cy r f s L=0):qw ax ay=true∧qw bx b_y=true∧¬(ax=bx∧ay=b_y)∧L=zk ax ay bx b_y∧1≤L:=by
 unfold ZJ at h;by_cases h1:(!(qw ax ay&&qw bx b_y))=true
 ·rw[if_pos h1]at h;cases h
 ·rw[if_neg h1,if_neg qG]at h;by_cases h2:¬(cx=0∧cy=0∧r=0∧f=0∧s=0)
  ·rw[if_pos h2]at h;cases h
  ·rw[if_neg h2]at h;by_cases h3:L<1∨¬L=zk ax ay bx b_y
   ·rw[if_pos h3]at h;cases h
   ·have hL:L=zk ax ay bx b_y:=qg;have hv:qw ax ay=true∧qw bx b_y=true:=by simpa using h1
    refine⟨hv.1,hv.2,?_,hL,qg⟩;rintro⟨rfl,rfl⟩
    have:zk ax ay ax ay=0:=by
     unfold zk;rw[hv.1];have e:yH ax ay ax ay=0:=by unfold yH;simp
     rw[e];simp[kE]
    omega
def bF:List El→Int→Option (El×Int)
 | [],_=>none
 |x::l,s=>if x.L<s then bF l (s-x.L)else some (x,s)
def Eu(x:El)(s:Int):Int×Int×Int×Int:=
 if x.c then jJ x.cx x.cy x.r x.f x.s s else(x.ax+(qL 2 (x.bx-x.ax) s x.L).1,x.ay+(qL 2 (x.b_y-x.ay) s x.L).1,(qO x.ax x.ay x.bx x.b_y).1,(qO x.ax x.ay x.bx x.b_y).2)
def YW(l:List El)(len s:Int):Int×Int×Int×Int:=
 if¬gk l len=0 then(0,0,0,gk l len)else if s<0∨len<s then(0,0,0,2)else
 match bF l s with
 |none=>(0,0,0,6)
 |some T=>Eu T.1 T.2
theorem nT{l:List El}:∀{s:Int},l≠[]→s≤vW l→∃T,bF l s=some T:=by
 induction l with
 |nil=>intro s h;exact absurd rfl h
 |cons x l ih=>
  intro s _ h;rw[bF];rw[vF]at h;by_cases hx:x.L<s
  ·rw[if_pos hx]
   cases l with
   |nil=>rw[QZ]at h;omega
   |cons y l=>exact ih jL qg
  ·rw[if_neg hx];exact⟨_,rfl⟩
theorem sN(s:Int):bF [] s=none:=rfl
theorem TD{l:List El}{i:Nat}{x:El}(hx:l[i]? =some x)(s:Int):bF (l.drop i) s=if x.L<s then bF (l.drop (i+1)) (s-x.L)else some (x,s):=by
 have h:=(List.getElem?_eq_some_iff.1 hx);obtain⟨h1,h2⟩:=h;rw[List.drop_eq_getElem_cons h1,h2,bF]
theorem nU{l:List El}{i:Nat}(h:l.length≤i)(s:Int):bF (l.drop i) s=none:=by
 rw[List.drop_eq_nil_of_le h,sN]
theorem Vp:∀{l:List El},(∀x∈l,1≤x.L∧x.L≤60000000)→0≤vW l∧vW l≤l.length*60000000
 | [],_=>by rw[QZ];simp
 |x::l,h=>by
  have a:=h x List.mem_cons_self;have b:=Vp (l:=l) (fun y hy=>h y (List.mem_cons_of_mem _ hy));rw[vF];simp;omega
theorem De{l:List El}{len:Int}(h:gk l len=0):0≤len∧len≤30000000000:=by
 have ok:=YE h
 have:=Vp (l:=l) (fun x hx=>by
  obtain⟨i,hi⟩:=List.getElem?_of_mem hx
  exact nS h hi)
 have h5:=ok.short;rw[ok.sum];omega
theorem Co{d s L:Int}(hd: -4000000≤d∧d≤4000000)(h0:0≤s)(h1:s≤L)(hL:1≤L)(hL2:L≤60000000):
 (qL 2 d s L).2=0∧(-L≤2*((qL 2 d s L).1*L-d*s)∧2*((qL 2 d s L).1*L-d*s)≤L)∧ -4000001≤(qL 2 d s L).1∧(qL 2 d s L).1≤4000001:=by
 have hn:=Uh (d*s) L qg;rw[show(L.natAbs:Int)=L from by omega]at hn;have a1:d*s≤4000000*s:=Int.mul_le_mul_of_nonneg_right hd.2 h0;have a2: -4000000*s≤d*s:=Int.mul_le_mul_of_nonneg_right hd.1 h0
 have hb: -4000001≤kN 2 (d*s) L∧kN 2 (d*s) L≤4000001:=by
  generalize kN 2 (d*s) L=v at*;constructor
  ·rcases Int.lt_or_le v (-4000001)with h|h
   ·have:v*L≤ -4000002*L:=Int.mul_le_mul_of_nonneg_right qg qg;omega
   ·exact h
  ·rcases Int.lt_or_le 4000001 v with h|h
   ·have:4000002*L≤v*L:=Int.mul_le_mul_of_nonneg_right qg qg;omega
   ·exact h
 unfold qL;rw[if_neg qg];generalize kN 2 (d*s) L=v at*;have hi:Qy v=true:=by unfold Qy;exact decide_eq_true qg
 rw[if_pos hi];exact⟨rfl,hn,hb⟩
theorem Rx{ax ay bx b_y cx cy r:Int}(h:(qw ax ay&&qw bx b_y&&qw cx cy)=false):bY ax ay bx b_y cx cy r=(yM,1):=by unfold bY;rw[h];rfl
theorem Df{ax ay bx b_y cx cy r:Int}(h:(qw ax ay&&qw bx b_y&&qw cx cy)=true)(h2:r<1∨r>8000000):bY ax ay bx b_y cx cy r=(yM,2):=by unfold bY;rw[h,if_neg jL,if_pos h2]
theorem WJ{ax ay bx b_y cx cy r:Int}(h:(qw ax ay&&qw bx b_y&&qw cx cy)=true)(h2:¬(r<1∨r>8000000))(h3:(ax=bx∧ay=b_y)∨(bx=cx∧b_y=cy)):bY ax ay bx b_y cx cy r=(yM,10):=by
 unfold bY;rw[h,if_neg jL,if_neg h2,if_pos h3]
theorem Qk{ax ay bx b_y:Int}(h1:qw ax ay=true)(h2:qw bx b_y=true)(h:¬(ax=bx∧ay=b_y)):qO ax ay bx b_y=(yQ (bx-ax) (b_y-ay),0):=by
 unfold qO;rw[h1,h2,if_neg jL,if_neg h]
theorem YS{ax ay bx b_y:Int}(h1:qw ax ay=true)(h2:qw bx b_y=true)(h:ax=bx∧ay=b_y):qO ax ay bx b_y=(0,10):=by
 unfold qO;rw[h1,h2,if_neg jL,if_pos h]
theorem Ry{ax ay bx b_y cx cy r:Int}(h0:qw ax ay=true)(h1:qw bx b_y=true)(hc:qw cx cy=true)(h2:¬(r<1∨r>8000000))(h3:¬(ax=bx∧ay=b_y))(h4:¬(bx=cx∧b_y=cy)):
 bY ax ay bx b_y cx cy r=tT bx b_y (qO ax ay bx b_y).1 (qO bx b_y cx cy).1 r (zk ax ay bx b_y) (zk bx b_y cx cy):=by
 rw[Qk h0 h1 h3,Qk h1 hc h4];unfold bY;rw[h0,h1,hc,if_neg jL,if_neg h2,if_neg qg]
theorem sO{bx b_y x y r m n d:Int}(hd:d=zN x y)(h:54000000<d.natAbs):tT bx b_y x y r m n=(yM,10):=by
 unfold tT;rw[←hd,if_pos h]
theorem nV{bx b_y x y r m n d l:Int}(hd:d=zN x y)(h:¬54000000<d.natAbs)(hl:l=jM r d)(h2:l>m∨l>n):tT bx b_y x y r m n=(yM,10):=by
 unfold tT;rw[←hd,←hl,if_neg h,if_pos h2]
theorem nW{bx b_y x y r m n d l sx sy e1 ex ey e2 kx ky e3:Int}(hd:d=zN x y)(h:¬54000000<d.natAbs)(hl:l=jM r d)(h2:¬(l>m∨l>n))
 (h3:(sx,sy,e1)=zn bx b_y (jl x 64800000) l) (h4:(ex,ey,e2)=zn bx b_y y l) (h5:(kx,ky,e3)=zn sx sy (jl x (jU d 32400000)) r):
 tT bx b_y x y r m n=if e1≠0 then(yM,2)else if e2≠0 then(yM,2)else if e3≠0 then(yM,2)else([kx,ky,r,jl x (-jU d 32400000),d,sx,sy,ex,ey,l],0):=by
 unfold tT;rw[←hd,←hl,if_neg h,if_neg h2,←h3,←h4];simp only;rw[←h5]
theorem dW{r d l:Int}(hr:1≤r)(hr8:r≤8000000)(hd:d.natAbs≤54000000)(hl:l=jM r d):qL 1 r (yJ ((d.natAbs:Int)/2)) (vT ((d.natAbs:Int)/2))=(l,0)∧0≤l∧l≤40000000:=by
 have a:=Kq (r:=r) (d:=d) qg hd;have b:=WF (r:=r) (d:=d) qg hr8 hd;have hc:=Zv (h:=(d.natAbs:Int)/2) qg qg;rw[←hl]at a b;refine⟨?_,a.2.2,b⟩;unfold jM at hl;unfold qL;rw[←hl,if_neg qg,if_pos];unfold Qy;exact decide_eq_true qg
end Go.Proofs.YtiegohjobhehcaaGreatDoor
